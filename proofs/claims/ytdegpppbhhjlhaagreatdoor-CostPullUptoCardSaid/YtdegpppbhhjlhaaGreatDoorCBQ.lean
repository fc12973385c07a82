/- For every reading of the arguments of CostPull whose bulk is together at most 1048576 (the row's second form), the call returns true and the arguments read behind the call as they read before. Conditions: those of the row (loops, laid, recurses, unfollowed) and the card's tie of the listed package-level variables to the program's text; the copy of the project that the card speaks of is the pruned one. -/
import Derived.Test.YtdegpppbhhjlhaaGreatDoorCBD
import Derived.Test.YtdegpppbhhjlhaaGreatDoorCBN
import Derived.Test.YtdegpppbhhjlhaaGreatDoorCBO
import Derived.Test.YtdegpppbhhjlhaaGreatDoorCBP
import Derived.Carry
set_option linter.all false
section
set_option maxRecDepth 100000
namespace Go.Proofs.YtdegpppbhhjlhaaGreatDoor.pull56
open Go.Tev Go.ChangeShapes Go.WideShapes Go.ChangeAt Go.RowKit
theorem YM:Go.Tev.CodeCp pgS:=by constructor<;>kernel_rfl
theorem aRK:Go.Tev.AscX pgS:=by
 intro f g h;have h:exB f=some g:=h;unfold exB at h;cases h1:f.beq 92 with
 |true=>rw[h1]at h;cases h;exact SA
 |false=>
  cases h2:f.beq 93 with
  |true=>rw[h1,h2]at h;cases h;exact R8
  |false=>
   cases h3:f.beq 75 with
   |true=>rw[h1,h2,h3]at h;cases h;exact R6
   |false=>
    cases h4:f.beq 76 with
    |true=>rw[h1,h2,h3,h4]at h;cases h;exact R9
    |false=>
     cases h5:f.beq 522 with
     |true=>rw[h1,h2,h3,h4,h5]at h;cases h;exact R7
     |false=>rw[h1,h2,h3,h4,h5]at h;cases h
theorem aPD:Go.Tev.Ora pgS:=by constructor<;>kernel_rfl
theorem WC(H:Type):BR (Rows.uptoBulk (H:=H)) (Rows.uptoBulkAll (H:=H)) where
 nil:=by simp[Rows.uptoBulkAll]
 cons:=by intro x r;simp[Rows.uptoBulkAll]
 sl:=by intro e s;simp[Rows.uptoBulk]
 agg:=by intro p;simp[Rows.uptoBulk]
 str:=by intro s;simp[Rows.uptoBulk]
 one:=by
  intro d;cases d with
  |lit l=>cases l<;>simp[Rows.uptoBulk]
  |_=>simp[Rows.uptoBulk]
theorem HR{v:Value}{n:Nat}(h2:2<=n)(h:v.cells.toList.length=n):∃vs,v = .agg vs:=by cases v<;>first|exact⟨_,rfl⟩|(simp[Value.cells]at h;omega)
theorem n4:nm.f 967=3:=by kernel_rfl
theorem FI:laidOutB Tryz.prog=true:=by kernel_rfl
theorem U6(H:Type)(enc:TypeId×Value->H)(W:World)(base:Nat)(args:Array Value)(ds gs:List (DataW H))(before:List MemPlace)
  (hval:∀(j:Nat) t v,Tryz.f3.params[j]?=some t->args[j]?=some v->Value.okWide Tryz.prog W .any base t v)
  (hW:DataW.Whole enc Tryz.prog Tryz.f3.params.toList Rows.costPullSpec.vars false W args.toList ds gs before) (hk:Rows.uptoSmall H (ds++gs)=true)
  (hL:laidMetH Tryz.prog Rows.costPullUptoRow.laid W) :
  Calls Tryz.prog 3 args W λe W'=>∃v,e = .returned v/\Rows.costPullSpec.post enc Tryz.prog Tryz.f3 false true false false W args v W':=by
 have hW':=hW;obtain⟨p,q,hA0,hV,rfl,hfz,hnd⟩:=hW;have hA:DataW.TrodAll enc Tryz.prog W 0 (λ_=>true) true Tryz.f3.params.toList args.toList ds p:=hA0;rw[Tryz.params3]at hA hval;obtain⟨v0,ws0,d0,ds0,p0,q0,hargs,rfl,rfl,h0,r0⟩:=trodAll_cons hA;obtain⟨v1,ws1,d1,ds1,p1,q1,rfl,rfl,rfl,h1,r1⟩:=trodAll_cons r0;obtain⟨v2,ws2,d2,ds2,p2,q2,rfl,rfl,rfl,h2,r2⟩:=trodAll_cons r1;obtain⟨rfl,rfl,rfl⟩:=trodAll_nil r2;obtain rfl:args = #[v0,v1,v2]:=by cases args;simp_all
 obtain⟨rfl,rfl⟩:=trodVars_none hV;clear hA0 hA r0 r1 r2;have hb:Rows.uptoBulk d0+Rows.uptoBulk d1+Rows.uptoBulk d2<=1048576:=by have:Rows.uptoBulkAll [d0,d1,d2]<=1048576:=of_decide_eq_true hk;simp only[Rows.uptoBulkAll]at this;omega
 have h0k:=h0;have h1k:=h1;have h2k:=h2;obtain⟨fu0,e0⟩:=h0;obtain⟨x0,hrv0,hok0⟩:=IP (num:=nm) (ρ:=λ_ _=>none) (WC H) tyS fu0 fu0 (Nat.le_refl _) _ _ _ e0 (by omega);have hlen0:v0.cells.toList.length=9:=by rw[<-hrv0.length];rfl
 obtain⟨vs0,rfl⟩:=HR (by omega) hlen0
 have hrx0:Rv nm (λ_ _=>none) W noF x0.av (.agg vs0):=by rw[aA.av_eq];exact Rv.of_all2_agg hrv0
 obtain⟨fu1,e1⟩:=h1;obtain⟨x1,hrv1,hok1⟩:=XS (num:=nm) (ρ:=λ_ _=>none) (WC H) (tV:=55) (sV:=27) (tS:=9) (tI:=3) Tryz.underlying9 Tryz.underlying3 (by kernel_rfl) (by kernel_rfl) (by kernel_rfl) ⟨_,Tryz.underlying55,by kernel_rfl⟩ Tryz.underlying27 fu1 fu1 (Nat.le_refl _) _ _ _ e1 (by omega);obtain⟨c1,hc1,hrx1⟩:=lM hrv1;have hv1:v1=c1:=by obtain⟨a1,l1,cp1,rfl⟩:=okWide_slice Tryz.underlying27 (hval 1 27 v1 rfl rfl);simpa[Value.cells] using hc1
 subst hv1;obtain⟨fu2,e2⟩:=h2;obtain⟨x2,hrv2,hok2⟩:=XW (num:=nm) (ρ:=λ_ _=>none) (WC H) (tA:=66) (sA:=28) tyS ⟨_,Tryz.underlying66,by kernel_rfl⟩ (by kernel_rfl) Tryz.underlying28 fu2 fu2 (Nat.le_refl _) _ _ _ e2 (by omega);obtain⟨c2,hc2,hrx2⟩:=lM hrv2;have hv2:v2=c2:=by obtain⟨a1,l1,cp1,rfl⟩:=okWide_slice Tryz.underlying28 (hval 2 28 v2 rfl rfl);simpa[Value.cells] using hc2
 subst hv2;have hl1:x1.es.length+1<=Rows.uptoBulk d1:=by
  obtain⟨_,ms,m1,m2,m3⟩:=hok1;have:x1.es.length<=ms.sum:=by rw[m1.length];exact nV m3
  omega
 obtain⟨n,hn⟩:=aGX YM aPD aRK aGU x0 hok0.1 x1 x2 (by have h0:=hok0.2;simp only[big];omega);obtain⟨_,hcall⟩:=xJ (qP (by kernel_rfl) fitS n).fn hn (Fb:=noF) (λ_ h=>h.elim) (aJO hL) (.cons hrx0 (.cons hrx1 (.cons hrx2 .nil)));rw[n4]at hcall;refine hcall.mono ?_;rintro e W' ⟨cv,rfl,ev,hres⟩;have hcv:cv = .bool true:=by have h2:Rv nm (λ_ _=>none) W' noF (.bool true) cv:=hres (λ_ _=>none);cases h2;rfl
 subst hcv;refine⟨_,rfl,?_⟩;have hbelow:Below W.heap.size W W':=⟨ev.os,ev.tape,ev.output,ev.size,λb hb=>ev.keep b hb (λh=>h)⟩
 have hlt0:∀x∈p0,x.block<W.heap.size:=λx hx=>hW'.lt x (by simp[hx]);have hlt1:∀x∈p1,x.block<W.heap.size:=λx hx=>hW'.lt x (by simp[hx]);have hlt2:∀x∈p2,x.block<W.heap.size:=λx hx=>hW'.lt x (by simp[hx]);have harg0:=Below.trod FI (by kernel_rfl) (of_decide_eq_true (by kernel_rfl)) h0k hbelow hlt0;have harg1:=Below.trod FI (by kernel_rfl) (of_decide_eq_true (by kernel_rfl)) h1k hbelow hlt1;have harg2:=Below.trod FI (by kernel_rfl) (of_decide_eq_true (by kernel_rfl)) h2k hbelow hlt2;refine⟨[d0,d1,d2],[],_,[],p0++(p1++(p2++[])),[],hW',?_,?_,rfl,Below.frame hbelow _,λh=>by cases h⟩;exact trodAll_cons_mk (shut_bool Tryz.underlying4 _) trodAll_mk0;rw[Tryz.params3];exact trodAll_cons_mk harg0 (trodAll_cons_mk harg1 (trodAll_cons_mk harg2 trodAll_mk0))
theorem aFT(os:Os)(started:os.Started)(H:Type)(enc:TypeId×Value->H)(F:Stop.Interp) :
  ReturnsInHanded {} Tryz.checked os 3 .any ((Rows.OpenSpec.upto Rows.costPullSpec).preRow enc Tryz.prog Tryz.f3 Rows.costPullUptoRow.domain false Rows.costPullUptoRow.laid) (((Rows.OpenSpec.upto Rows.costPullSpec).at F).post enc Tryz.prog Tryz.f3 false true false false):=by
 refine returnsInHanded_of_row (C:=Tryz.checked) (s:=Rows.OpenSpec.upto Rows.costPullSpec) own started (by kernel_rfl) Tryz.func3 (W7 os enc) ?_;intro W base args ds gs before hval hW _ hk _ hL _ _;exact U6 H enc W base args ds gs before hval hW (hk _ rfl) hL
theorem aLd:Rows.CostPullUptoSaid:=
 OpenClaim.holds_of_cond 3 Tryz.f3 rfl rfl rfl rfl rfl rfl rfl ⟨rfl,rfl,rfl,rfl,rfl⟩ rfl rfl rfl rfl rfl aFQ Tryz.func3 YO aJM aHR
  (λos started H enc _ F=>by rw[OpenClaim.pre_eq_preRow];exact aFT os started H enc F)
theorem aIg(f:FuncId)(fn:Func)(hf:Tryz.pinned.checked.prog.funcNamed Rows.costPullUptoRow.func=some f)(hfn:Tryz.pinned.checked.prog.funcs[f]?=some fn) :
  true=Tryz.pinned.checked.prog.looks []/\∀(j:Nat) t,fn.params[j]?=some t->Tryz.pinned.checked.prog.wantsStandIn t=false:=by
 obtain rfl:f=3:=Option.some.inj ((show Tryz.prog.funcNamed Rows.costPullUptoRow.func=some 3 by kernel_rfl).symm.trans hf) |>.symm;obtain rfl:fn=Tryz.f3:=(Option.some.inj (Tryz.func3.symm.trans hfn)).symm;refine⟨by kernel_rfl,λj t ht=>?_⟩;rw[Tryz.params3]at ht;have w26:Tryz.prog.wantsStandIn 26=false:=by kernel_rfl
 have w27:Tryz.prog.wantsStandIn 27=false:=by kernel_rfl
 have w28:Tryz.prog.wantsStandIn 28=false:=by kernel_rfl
 have hm:t=26\/t=27\/t=28:=by have:=Array.mem_of_getElem? ht;simp at this;omega
 rcases hm with rfl|rfl|rfl;exact w26;exact w27;exact w28
theorem cardUpto:Rows.CostPullUptoCardSaid:=
 Claim7.holds_tied_plain_at .later [] _ _ _ _ aLd (λ_ h=>by cases h) (by as_aux_lemma=>kernel_rfl) (λ_ h=>by cases h) costPullUpto_row_tie rfl ⟨rfl,rfl⟩ (by as_aux_lemma=>kernel_rfl) rfl aIg (by as_aux_lemma=>kernel_rfl)
#print axioms cardUpto
end Go.Proofs.YtdegpppbhhjlhaaGreatDoor.pull56
end
