/- For every reading of the arguments of AuditBound whose bulk is together at most 1048576 (the row's second form), the call returns true and the arguments read behind the call as they read before. Conditions: those of the row (loops, laid, recurses, unfollowed) and the card's tie of the listed package-level variables to the program's text; the copy of the project that the card speaks of is the pruned one. -/
import Derived.Test.YtmcadllokkmeiaaGreatDoorBBG
import Derived.Test.YtmcadllokkmeiaaGreatDoorBBK
import Derived.Test.YtmcadllokkmeiaaGreatDoorBBL
import Derived.Test.YtmcadllokkmeiaaGreatDoorBBM
import Derived.Carry
set_option linter.all false
section
set_option maxRecDepth 100000
namespace Go.Proofs.YtmcadllokkmeiaaGreatDoor.bound48
open Go.Tev Go.ChangeShapes Go.WideShapes Go.ChangeAt Go.RowKit
theorem aLZ:Go.Tev.Code pgS:=by constructor<;>kernel_rfl
theorem aJR:Go.Tev.Code3 pgS:=by constructor<;>kernel_rfl
theorem aFM:Go.Tev.CodeAc pgS:=by constructor<;>kernel_rfl
theorem aFN:Go.Tev.CodeAb pgS:=by constructor<;>kernel_rfl
theorem aPG:Go.Tev.Ora pgS:=by constructor<;>kernel_rfl
theorem aEx(H:Type):H7 (Rows.uptoBulk (H:=H)) (Rows.uptoBulkAll (H:=H)) where
 nil:=by simp[Rows.uptoBulkAll]
 cons:=by intro x r;simp[Rows.uptoBulkAll]
 sl:=by intro e s;simp[Rows.uptoBulk]
 agg:=by intro p;simp[Rows.uptoBulk]
 str:=by intro s;simp[Rows.uptoBulk]
 one:=by
  intro d;cases d with
  |lit l=>cases l<;>simp[Rows.uptoBulk]
  |_=>simp[Rows.uptoBulk]
theorem BB{v:Value}{n:Nat}(h2:2<=n)(h:v.cells.toList.length=n):∃vs,v = .agg vs:=by cases v<;>first|exact⟨_,rfl⟩|(simp[Value.cells]at h;omega)
theorem n4:nm.f 661=6:=by kernel_rfl
theorem LK:laidOutB Tryz.prog=true:=by kernel_rfl
theorem aDa(H:Type)(enc:TypeId×Value->H)(W:World)(base:Nat)(args:Array Value)(ds gs:List (DataW H))(before:List MemPlace)
  (hval:∀(j:Nat) t v,Tryz.f6.params[j]?=some t->args[j]?=some v->Value.okWide Tryz.prog W .any base t v)
  (hW:DataW.Whole enc Tryz.prog Tryz.f6.params.toList Rows.auditBoundSpec.vars false W args.toList ds gs before) (hk:Rows.uptoSmall H (ds++gs)=true)
  (hL:laidMetH Tryz.prog Rows.auditBoundUptoRow.laid W) :
  Calls Tryz.prog 6 args W λe W'=>∃v,e = .returned v/\Rows.auditBoundSpec.post enc Tryz.prog Tryz.f6 false true false false W args v W':=by
 have hW':=hW;obtain⟨p,q,hA0,hV,rfl,hfz,hnd⟩:=hW;have hA:DataW.TrodAll enc Tryz.prog W 0 (λ_=>true) true Tryz.f6.params.toList args.toList ds p:=hA0;rw[Tryz.params6]at hA hval;obtain⟨v0,ws0,d0,ds0,p0,q0,hargs,rfl,rfl,h0,r0⟩:=trodAll_cons hA;obtain⟨v1,ws1,d1,ds1,p1,q1,rfl,rfl,rfl,h1,r1⟩:=trodAll_cons r0;obtain⟨v2,ws2,d2,ds2,p2,q2,rfl,rfl,rfl,h2,r2⟩:=trodAll_cons r1;obtain⟨rfl,rfl,rfl⟩:=trodAll_nil r2;obtain rfl:args = #[v0,v1,v2]:=by cases args;simp_all
 obtain⟨rfl,rfl⟩:=trodVars_none hV;clear hA0 hA r0 r1 r2;have hb:Rows.uptoBulk d0+Rows.uptoBulk d1+Rows.uptoBulk d2<=1048576:=by have:Rows.uptoBulkAll [d0,d1,d2]<=1048576:=of_decide_eq_true hk;simp only[Rows.uptoBulkAll]at this;omega
 have h0k:=h0;have h1k:=h1;have h2k:=h2;obtain⟨fu0,e0⟩:=h0;obtain⟨x0,hrv0,hok0⟩:=aBD (num:=nm) (ρ:=λ_ _=>none) (aEx H) tyS fu0 fu0 (Nat.le_refl _) _ _ _ e0 (by omega);have hlen0:v0.cells.toList.length=6:=by rw[<-hrv0.length];rfl
 obtain⟨vs0,rfl⟩:=BB (by omega) hlen0;have hrx0:Rv nm (λ_ _=>none) W noF x0.av (.agg vs0):=Rv.of_all2_agg hrv0;obtain⟨fu1,e1⟩:=h1;obtain⟨x1,hrv1,hok1⟩:=aFp (num:=nm) (ρ:=λ_ _=>none) (aEx H) aMJ fu1 fu1 (Nat.le_refl _) _ _ _ e1 (by omega);have hlen1:v1.cells.toList.length=3:=by rw[<-hrv1.length];rfl
 obtain⟨vs1,rfl⟩:=BB (by omega) hlen1;have hrx1:Rv nm (λ_ _=>none) W noF x1.av (.agg vs1):=Rv.of_all2_agg hrv1;obtain⟨fu2,e2⟩:=h2;obtain⟨x2,hrv2,hok2⟩:=aFl (num:=nm) (ρ:=λ_ _=>none) (aEx H) (tV:=67) (sV:=32) (tS:=9) (tI:=3) Tryz.underlying9 Tryz.underlying3 (by kernel_rfl) (by kernel_rfl) (by kernel_rfl) ⟨_,Tryz.underlying67,by kernel_rfl⟩ Tryz.underlying32 fu2 fu2 (Nat.le_refl _) _ _ _ e2 (by omega);obtain⟨c2,hc2,hrx2⟩:=nK hrv2;have hv2:v2=c2:=by obtain⟨a1,l1,cp1,rfl⟩:=okWide_slice Tryz.underlying32 (hval 2 32 v2 rfl rfl);simpa[Value.cells] using hc2
 subst hv2;obtain⟨n,hn⟩:=aKg aLZ aJR aFM aFN aPG (aFt (by kernel_rfl) (by kernel_rfl)) aKd x0 hok0 x1 x2.nl x2.cl x2.es x2.ok;obtain⟨_,hcall⟩:=DR (wV (by kernel_rfl) fitS n).fn hn (Fb:=noF) (λ_ h=>h.elim) (aLK hL) (.cons hrx0 (.cons hrx1 (.cons hrx2 .nil)));rw[n4]at hcall;refine hcall.mono ?_;rintro e W' ⟨cv,rfl,ev,hres⟩;have hcv:cv = .bool true:=by have h2:Rv nm (λ_ _=>none) W' noF (.bool true) cv:=hres (λ_ _=>none);cases h2;rfl
 subst hcv;refine⟨_,rfl,?_⟩;have hbelow:Below W.heap.size W W':=⟨ev.os,ev.tape,ev.output,ev.size,λb hb=>ev.keep b hb (λh=>h)⟩
 have hlt0:∀x∈p0,x.block<W.heap.size:=λx hx=>hW'.lt x (by simp[hx]);have hlt1:∀x∈p1,x.block<W.heap.size:=λx hx=>hW'.lt x (by simp[hx]);have hlt2:∀x∈p2,x.block<W.heap.size:=λx hx=>hW'.lt x (by simp[hx]);have harg0:=Below.trod LK (by kernel_rfl) (of_decide_eq_true (by kernel_rfl)) h0k hbelow hlt0;have harg1:=Below.trod LK (by kernel_rfl) (of_decide_eq_true (by kernel_rfl)) h1k hbelow hlt1;have harg2:=Below.trod LK (by kernel_rfl) (of_decide_eq_true (by kernel_rfl)) h2k hbelow hlt2;refine⟨[d0,d1,d2],[],_,[],p0++(p1++(p2++[])),[],hW',?_,?_,rfl,Below.frame hbelow _,λh=>by cases h⟩;exact trodAll_cons_mk (shut_bool Tryz.underlying4 _) trodAll_mk0;rw[Tryz.params6];exact trodAll_cons_mk harg0 (trodAll_cons_mk harg1 (trodAll_cons_mk harg2 trodAll_mk0))
theorem aJB(os:Os)(started:os.Started)(H:Type)(enc:TypeId×Value->H)(F:Stop.Interp) :
  ReturnsInHanded {} Tryz.checked os 6 .any ((Rows.OpenSpec.upto Rows.auditBoundSpec).preRow enc Tryz.prog Tryz.f6 Rows.auditBoundUptoRow.domain false Rows.auditBoundUptoRow.laid) (((Rows.OpenSpec.upto Rows.auditBoundSpec).at F).post enc Tryz.prog Tryz.f6 false true false false):=by
 refine returnsInHanded_of_row (C:=Tryz.checked) (s:=Rows.OpenSpec.upto Rows.auditBoundSpec) own started (by kernel_rfl) Tryz.func6 (aEU os enc) ?_;intro W base args ds gs before hval hW _ hk _ hL _ _;exact aDa H enc W base args ds gs before hval hW (hk _ rfl) hL
theorem aML:Rows.AuditBoundUptoSaid:=
 OpenClaim.holds_of_cond 6 Tryz.f6 rfl rfl rfl rfl rfl rfl rfl ⟨rfl,rfl,rfl,rfl,rfl⟩ rfl rfl rfl rfl rfl aJy Tryz.func6 aFP aLI aKT
  (λos started H enc _ F=>by rw[OpenClaim.pre_eq_preRow];exact aJB os started H enc F)
theorem aKZ(f:FuncId)(fn:Func)(hf:Tryz.pinned.checked.prog.funcNamed Rows.auditBoundUptoRow.func=some f)(hfn:Tryz.pinned.checked.prog.funcs[f]?=some fn) :
  true=Tryz.pinned.checked.prog.looks []/\∀(j:Nat) t,fn.params[j]?=some t->Tryz.pinned.checked.prog.wantsStandIn t=false:=by
 obtain rfl:f=6:=Option.some.inj ((show Tryz.prog.funcNamed Rows.auditBoundUptoRow.func=some 6 by kernel_rfl).symm.trans hf) |>.symm;obtain rfl:fn=Tryz.f6:=(Option.some.inj (Tryz.func6.symm.trans hfn)).symm;refine⟨by kernel_rfl,λj t ht=>?_⟩;rw[Tryz.params6]at ht;have w28:Tryz.prog.wantsStandIn 28=false:=by kernel_rfl
 have w31:Tryz.prog.wantsStandIn 31=false:=by kernel_rfl
 have w32:Tryz.prog.wantsStandIn 32=false:=by kernel_rfl
 have hm:t=28\/t=31\/t=32:=by have:=Array.mem_of_getElem? ht;simp at this;omega
 rcases hm with rfl|rfl|rfl;exact w28;exact w31;exact w32
theorem cardUpto:Rows.AuditBoundUptoCardSaid:=
 Claim7.holds_tied_plain_at .later [] _ _ _ _ aML (λ_ h=>by cases h) (by kernel_rfl) (λ_ h=>by cases h) auditBoundUpto_row_tie rfl ⟨rfl,rfl⟩ (by kernel_rfl) rfl aKZ (by kernel_rfl)
#print axioms cardUpto
end Go.Proofs.YtmcadllokkmeiaaGreatDoor.bound48
end
