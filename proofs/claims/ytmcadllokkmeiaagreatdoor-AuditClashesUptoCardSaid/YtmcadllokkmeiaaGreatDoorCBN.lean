/- For every reading of the arguments of AuditClashes whose bulk is together at most 1048576 (the row's second form), the call returns true and the arguments read behind the call as they read before. Conditions: those of the row (loops, laid, recurses, unfollowed) and the card's tie of the listed package-level variables to the program's text; the copy of the project that the card speaks of is the pruned one. -/
import Derived.Test.YtmcadllokkmeiaaGreatDoorCBG
import Derived.Test.YtmcadllokkmeiaaGreatDoorCBK
import Derived.Test.YtmcadllokkmeiaaGreatDoorCBL
import Derived.Test.YtmcadllokkmeiaaGreatDoorCBM
import Derived.Carry
set_option linter.all false
section
set_option maxRecDepth 100000
namespace Go.Proofs.YtmcadllokkmeiaaGreatDoor.clashes48
open Go.Tev Go.ChangeShapes Go.WideShapes Go.ChangeAt Go.RowKit
theorem aJK:Go.Tev.Code pgS:=by constructor<;>kernel_rfl
theorem aHo:Go.Tev.Code3 pgS:=by constructor<;>kernel_rfl
theorem aDb:Go.Tev.CodeAc pgS:=by constructor<;>kernel_rfl
theorem aDa:Go.Tev.CodeAx pgS:=by constructor<;>kernel_rfl
theorem aNq:Go.Tev.Ora pgS:=by constructor<;>kernel_rfl
theorem aBN(H:Type):FT (Rows.uptoBulk (H:=H)) (Rows.uptoBulkAll (H:=H)) where
 nil:=by simp[Rows.uptoBulkAll]
 cons:=by intro x r;simp[Rows.uptoBulkAll]
 sl:=by intro e s;simp[Rows.uptoBulk]
 agg:=by intro p;simp[Rows.uptoBulk]
 str:=by intro s;simp[Rows.uptoBulk]
 one:=by
  intro d;cases d with
  |lit l=>cases l<;>simp[Rows.uptoBulk]
  |_=>simp[Rows.uptoBulk]
theorem yZ{v:Value}{n:Nat}(h2:2<=n)(h:v.cells.toList.length=n):∃vs,v = .agg vs:=by cases v<;>first|exact⟨_,rfl⟩|(simp[Value.cells]at h;omega)
theorem n4:nm.f 660=5:=by kernel_rfl
theorem I0:laidOutB Tryz.prog=true:=by kernel_rfl
theorem aAt(H:Type)(enc:TypeId×Value->H)(W:World)(base:Nat)(args:Array Value)(ds gs:List (DataW H))(before:List MemPlace)
  (hval:∀(j:Nat) t v,Tryz.f5.params[j]?=some t->args[j]?=some v->Value.okWide Tryz.prog W .any base t v)
  (hW:DataW.Whole enc Tryz.prog Tryz.f5.params.toList Rows.auditClashesSpec.vars false W args.toList ds gs before) (hk:Rows.uptoSmall H (ds++gs)=true)
  (hL:laidMetH Tryz.prog Rows.auditClashesUptoRow.laid W) :
  Calls Tryz.prog 5 args W λe W'=>∃v,e = .returned v/\Rows.auditClashesSpec.post enc Tryz.prog Tryz.f5 false true false false W args v W':=by
 have hW':=hW;obtain⟨p,q,hA0,hV,rfl,hfz,hnd⟩:=hW;have hA:DataW.TrodAll enc Tryz.prog W 0 (λ_=>true) true Tryz.f5.params.toList args.toList ds p:=hA0;rw[Tryz.params5]at hA hval;obtain⟨v0,ws0,d0,ds0,p0,q0,hargs,rfl,rfl,h0,r0⟩:=trodAll_cons hA;obtain⟨v1,ws1,d1,ds1,p1,q1,rfl,rfl,rfl,h1,r1⟩:=trodAll_cons r0;obtain⟨v2,ws2,d2,ds2,p2,q2,rfl,rfl,rfl,h2,r2⟩:=trodAll_cons r1;obtain⟨rfl,rfl,rfl⟩:=trodAll_nil r2;obtain rfl:args = #[v0,v1,v2]:=by cases args;simp_all
 obtain⟨rfl,rfl⟩:=trodVars_none hV;clear hA0 hA r0 r1 r2;have hb:Rows.uptoBulk d0+Rows.uptoBulk d1+Rows.uptoBulk d2<=1048576:=by have:Rows.uptoBulkAll [d0,d1,d2]<=1048576:=of_decide_eq_true hk;simp only[Rows.uptoBulkAll]at this;omega
 have h0k:=h0;have h1k:=h1;have h2k:=h2;obtain⟨fu0,e0⟩:=h0;obtain⟨x0,hrv0,hok0⟩:=YL (num:=nm) (ρ:=λ_ _=>none) (aBN H) tyS fu0 fu0 (Nat.le_refl _) _ _ _ e0 (by omega);have hlen0:v0.cells.toList.length=6:=by rw[<-hrv0.length];rfl
 obtain⟨vs0,rfl⟩:=yZ (by omega) hlen0;have hrx0:Rv nm (λ_ _=>none) W noF x0.av (.agg vs0):=Rv.of_all2_agg hrv0;obtain⟨fu1,e1⟩:=h1;obtain⟨x1,hrv1,hok1⟩:=aCC (num:=nm) (ρ:=λ_ _=>none) (aBN H) aKs fu1 fu1 (Nat.le_refl _) _ _ _ e1 (by omega);have hlen1:v1.cells.toList.length=3:=by rw[<-hrv1.length];rfl
 obtain⟨vs1,rfl⟩:=yZ (by omega) hlen1;have hrx1:Rv nm (λ_ _=>none) W noF x1.av (.agg vs1):=Rv.of_all2_agg hrv1;obtain⟨fu2,e2⟩:=h2;obtain⟨x2,hrv2,hok2⟩:=aCy (num:=nm) (ρ:=λ_ _=>none) (aBN H) (tV:=67) (sV:=32) (tS:=9) (tI:=3) Tryz.underlying9 Tryz.underlying3 (by kernel_rfl) (by kernel_rfl) (by kernel_rfl) ⟨_,Tryz.underlying67,by kernel_rfl⟩ Tryz.underlying32 fu2 fu2 (Nat.le_refl _) _ _ _ e2 (by omega);obtain⟨c2,hc2,hrx2⟩:=mF hrv2;have hv2:v2=c2:=by obtain⟨a1,l1,cp1,rfl⟩:=okWide_slice Tryz.underlying32 (hval 2 32 v2 rfl rfl);simpa[Value.cells] using hc2
 subst hv2;obtain⟨n,hn⟩:=aHE aJK aHo aDb aDa aNq (aCF (by kernel_rfl) (by kernel_rfl)) aHC x0 hok0 x1 x2.nl x2.cl x2.es x2.ok;obtain⟨_,hcall⟩:=BR (uZ (by kernel_rfl) fitS n).fn hn (Fb:=noF) (λ_ h=>h.elim) (aJs hL) (.cons hrx0 (.cons hrx1 (.cons hrx2 .nil)));rw[n4]at hcall;refine hcall.mono ?_;rintro e W' ⟨cv,rfl,ev,hres⟩;have hcv:cv = .bool true:=by have h2:Rv nm (λ_ _=>none) W' noF (.bool true) cv:=hres (λ_ _=>none);cases h2;rfl
 subst hcv;refine⟨_,rfl,?_⟩;have hbelow:Below W.heap.size W W':=⟨ev.os,ev.tape,ev.output,ev.size,λb hb=>ev.keep b hb (λh=>h)⟩
 have hlt0:∀x∈p0,x.block<W.heap.size:=λx hx=>hW'.lt x (by simp[hx]);have hlt1:∀x∈p1,x.block<W.heap.size:=λx hx=>hW'.lt x (by simp[hx]);have hlt2:∀x∈p2,x.block<W.heap.size:=λx hx=>hW'.lt x (by simp[hx]);have harg0:=Below.trod I0 (by kernel_rfl) (of_decide_eq_true (by kernel_rfl)) h0k hbelow hlt0;have harg1:=Below.trod I0 (by kernel_rfl) (of_decide_eq_true (by kernel_rfl)) h1k hbelow hlt1;have harg2:=Below.trod I0 (by kernel_rfl) (of_decide_eq_true (by kernel_rfl)) h2k hbelow hlt2;refine⟨[d0,d1,d2],[],_,[],p0++(p1++(p2++[])),[],hW',?_,?_,rfl,Below.frame hbelow _,λh=>by cases h⟩;exact trodAll_cons_mk (shut_bool Tryz.underlying4 _) trodAll_mk0;rw[Tryz.params5];exact trodAll_cons_mk harg0 (trodAll_cons_mk harg1 (trodAll_cons_mk harg2 trodAll_mk0))
theorem aGV(os:Os)(started:os.Started)(H:Type)(enc:TypeId×Value->H)(F:Stop.Interp) :
  ReturnsInHanded {} Tryz.checked os 5 .any ((Rows.OpenSpec.upto Rows.auditClashesSpec).preRow enc Tryz.prog Tryz.f5 Rows.auditClashesUptoRow.domain false Rows.auditClashesUptoRow.laid) (((Rows.OpenSpec.upto Rows.auditClashesSpec).at F).post enc Tryz.prog Tryz.f5 false true false false):=by
 refine returnsInHanded_of_row (C:=Tryz.checked) (s:=Rows.OpenSpec.upto Rows.auditClashesSpec) own started (by kernel_rfl) Tryz.func5 (aCk os enc) ?_;intro W base args ds gs before hval hW _ hk _ hL _ _;exact aAt H enc W base args ds gs before hval hW (hk _ rfl) hL
theorem aKu:Rows.AuditClashesUptoSaid:=
 OpenClaim.holds_of_cond 5 Tryz.f5 rfl rfl rfl rfl rfl rfl rfl ⟨rfl,rfl,rfl,rfl,rfl⟩ rfl rfl rfl rfl rfl aGS Tryz.func5 aDc aJq aIx
  (λos started H enc _ F=>by rw[OpenClaim.pre_eq_preRow];exact aGV os started H enc F)
theorem aIE(f:FuncId)(fn:Func)(hf:Tryz.pinned.checked.prog.funcNamed Rows.auditClashesUptoRow.func=some f)(hfn:Tryz.pinned.checked.prog.funcs[f]?=some fn) :
  true=Tryz.pinned.checked.prog.looks []/\∀(j:Nat) t,fn.params[j]?=some t->Tryz.pinned.checked.prog.wantsStandIn t=false:=by
 obtain rfl:f=5:=Option.some.inj ((show Tryz.prog.funcNamed Rows.auditClashesUptoRow.func=some 5 by kernel_rfl).symm.trans hf) |>.symm;obtain rfl:fn=Tryz.f5:=(Option.some.inj (Tryz.func5.symm.trans hfn)).symm;refine⟨by kernel_rfl,λj t ht=>?_⟩;rw[Tryz.params5]at ht;have w28:Tryz.prog.wantsStandIn 28=false:=by kernel_rfl
 have w31:Tryz.prog.wantsStandIn 31=false:=by kernel_rfl
 have w32:Tryz.prog.wantsStandIn 32=false:=by kernel_rfl
 have hm:t=28\/t=31\/t=32:=by have:=Array.mem_of_getElem? ht;simp at this;omega
 rcases hm with rfl|rfl|rfl;exact w28;exact w31;exact w32
theorem cardUpto:Rows.AuditClashesUptoCardSaid:=
 Claim7.holds_tied_plain_at .later [] _ _ _ _ aKu (λ_ h=>by cases h) (by kernel_rfl) (λ_ h=>by cases h) auditClashesUpto_row_tie rfl ⟨rfl,rfl⟩ (by kernel_rfl) rfl aIE (by kernel_rfl)
#print axioms cardUpto
end Go.Proofs.YtmcadllokkmeiaaGreatDoor.clashes48
end
