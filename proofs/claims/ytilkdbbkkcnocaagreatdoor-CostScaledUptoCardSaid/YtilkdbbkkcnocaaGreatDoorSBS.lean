/- For every reading of the arguments of CostScaled whose bulk is together at most 1048576 (the row's second form), the call returns true and the arguments read behind the call as they read before. Conditions: those of the row (loops, laid, recurses, unfollowed) and the card's tie of the listed package-level variables to the program's text; the copy of the project that the card speaks of is the pruned one. -/
import Derived.Test.YtilkdbbkkcnocaaGreatDoorSBD
import Derived.Test.YtilkdbbkkcnocaaGreatDoorSBP
import Derived.Test.YtilkdbbkkcnocaaGreatDoorSBQ
import Derived.Test.YtilkdbbkkcnocaaGreatDoorSBR
import Derived.Carry
set_option linter.all false
section
set_option maxRecDepth 100000
namespace Go.Proofs.YtilkdbbkkcnocaaGreatDoor.scaled56
open Go.Tev Go.ChangeShapes Go.WideShapes Go.ChangeAt Go.RowKit
theorem ZJ:Go.Tev.CodeCq pgS:=by constructor<;>first|kernel_rfl|(constructor<;>kernel_rfl)
theorem aSi:Go.Tev.AscX pgS:=by
 intro f g h;have h:exB f=some g:=h;unfold exB at h;cases h1:f.beq 92 with
 |true=>rw[h1]at h;cases h;exact SP
 |false=>
  cases h2:f.beq 93 with
  |true=>rw[h1,h2]at h;cases h;exact SN
  |false=>
   cases h3:f.beq 75 with
   |true=>rw[h1,h2,h3]at h;cases h;exact SL
   |false=>
    cases h4:f.beq 76 with
    |true=>rw[h1,h2,h3,h4]at h;cases h;exact SO
    |false=>
     cases h5:f.beq 522 with
     |true=>rw[h1,h2,h3,h4,h5]at h;cases h;exact SM
     |false=>rw[h1,h2,h3,h4,h5]at h;cases h
theorem aQf:Go.Tev.Ora pgS:=by constructor<;>kernel_rfl
theorem aLF(H:Type):xJ (Rows.uptoBulk (H:=H)) (Rows.uptoBulkAll (H:=H)) where
 nil:=by simp[Rows.uptoBulkAll]
 cons:=by intro x r;simp[Rows.uptoBulkAll]
 sl:=by intro e s;simp[Rows.uptoBulk]
 agg:=by intro p;simp[Rows.uptoBulk]
 str:=by intro s;simp[Rows.uptoBulk]
 one:=by
  intro d;cases d with
  |lit l=>cases l<;>simp[Rows.uptoBulk]
  |_=>simp[Rows.uptoBulk]
theorem HK{v:Value}{n:Nat}(h2:2<=n)(h:v.cells.toList.length=n):∃vs,v = .agg vs:=by cases v<;>first|exact⟨_,rfl⟩|(simp[Value.cells]at h;omega)
theorem n4:nm.f 1007=3:=by kernel_rfl
theorem O4:laidOutB Tryz.prog=true:=by kernel_rfl
theorem VS(H:Type)(enc:TypeId×Value->H)(W:World)(base:Nat)(args:Array Value)(ds gs:List (DataW H))(before:List MemPlace)
  (hval:∀(j:Nat) t v,Tryz.f3.params[j]?=some t->args[j]?=some v->Value.okWide Tryz.prog W .any base t v)
  (hW:DataW.Whole enc Tryz.prog Tryz.f3.params.toList Rows.costScaledSpec.vars false W args.toList ds gs before) (hk:Rows.uptoSmall H (ds++gs)=true)
  (hL:laidMetH Tryz.prog Rows.costScaledUptoRow.laid W) :
  Calls Tryz.prog 3 args W λe W'=>∃v,e = .returned v/\Rows.costScaledSpec.post enc Tryz.prog Tryz.f3 false true false false W args v W':=by
 have hW':=hW;obtain⟨p,q,hA0,hV,rfl,hfz,hnd⟩:=hW;have hA:DataW.TrodAll enc Tryz.prog W 0 (λ_=>true) true Tryz.f3.params.toList args.toList ds p:=hA0;rw[Tryz.params3]at hA hval;obtain⟨v0,ws0,d0,ds0,p0,q0,hargs,rfl,rfl,h0,r0⟩:=trodAll_cons hA;obtain⟨v1,ws1,d1,ds1,p1,q1,rfl,rfl,rfl,h1,r1⟩:=trodAll_cons r0;obtain⟨rfl,rfl,rfl⟩:=trodAll_nil r1;obtain rfl:args = #[v0,v1]:=by cases args;simp_all
 obtain⟨rfl,rfl⟩:=trodVars_none hV;clear hA0 hA r0 r1;have hb:Rows.uptoBulk d0+Rows.uptoBulk d1<=1048576:=by have:Rows.uptoBulkAll [d0,d1]<=1048576:=of_decide_eq_true hk;simp only[Rows.uptoBulkAll]at this;omega
 have h0k:=h0;have h1k:=h1;obtain⟨fu0,e0⟩:=h0;obtain⟨x0,hrv0,hok0⟩:=TP (num:=nm) (ρ:=λ_ _=>none) (aLF H) tyS tyN (tV:=62) (sV:=32) (tA:=405) (sA:=33) (tC:=35) (by kernel_rfl) ⟨_,Tryz.underlying62,by kernel_rfl⟩ Tryz.underlying32 (by kernel_rfl) ⟨_,Tryz.underlying405,by kernel_rfl⟩ (by kernel_rfl) Tryz.underlying33 (by kernel_rfl) ⟨_,Tryz.underlying35,by kernel_rfl⟩ (by kernel_rfl) fu0 fu0 (Nat.le_refl _) _ _ _ e0 (by omega);have hlen0:v0.cells.toList.length=25:=by rw[<-hrv0.length];rfl
 obtain⟨vs0,rfl⟩:=HK (by omega) hlen0;have hrx0:Rv nm (λ_ _=>none) W noF (HF x0.1 x0.2.1.nl x0.2.1.cl x0.2.1.es (x0.2.2.av Arr.av)) (.agg vs0):=Rv.of_all2_agg hrv0;obtain⟨fu1,e1⟩:=h1;obtain⟨x1,hrv1,hok1⟩:=(Rd.u8c (enc:=enc) (w:=W) (num:=nm) (ρ:=λ_ _=>none) (b:=Rows.uptoBulk) (M:=fu1) Tryz.underlying5) fu1 (Nat.le_refl _) _ _ _ e1 (by omega);obtain⟨c1,hc1,hrx1⟩:=mQ hrv1;have hv1:v1=c1:=by obtain⟨z1,rfl⟩:=okWide_int Tryz.underlying5 (hval 1 5 v1 rfl rfl);simpa[Value.cells] using hc1
 subst hv1;obtain⟨n,hn⟩:=aBC ZJ aQf aSi aHq x0.1 hok0.1 hok0.2.1 x0.2.1 hok0.2.2.1 x0.2.2 (by have h0:=hok0.2.2.2;simp only[big];omega) x1 hok1.1 hok1.2;obtain⟨_,hcall⟩:=w9 (qI (by kernel_rfl) fitS n).fn hn (Fb:=noF) (λ_ h=>h.elim) (aKz hL) (.cons hrx0 (.cons hrx1 .nil));rw[n4]at hcall;refine hcall.mono ?_;rintro e W' ⟨cv,rfl,ev,hres⟩;have hcv:cv = .bool true:=by have h2:Rv nm (λ_ _=>none) W' noF (.bool true) cv:=hres (λ_ _=>none);cases h2;rfl
 subst hcv;refine⟨_,rfl,?_⟩;have hbelow:Below W.heap.size W W':=⟨ev.os,ev.tape,ev.output,ev.size,λb hb=>ev.keep b hb (λh=>h)⟩
 have hlt0:∀x∈p0,x.block<W.heap.size:=λx hx=>hW'.lt x (by simp[hx]);have hlt1:∀x∈p1,x.block<W.heap.size:=λx hx=>hW'.lt x (by simp[hx]);have harg0:=Below.trod O4 (by kernel_rfl) (of_decide_eq_true (by kernel_rfl)) h0k hbelow hlt0;have harg1:=Below.trod O4 (by kernel_rfl) (of_decide_eq_true (by kernel_rfl)) h1k hbelow hlt1;refine⟨[d0,d1],[],_,[],p0++(p1++[]),[],hW',?_,?_,rfl,Below.frame hbelow _,λh=>by cases h⟩;exact trodAll_cons_mk (shut_bool Tryz.underlying4 _) trodAll_mk0;rw[Tryz.params3];exact trodAll_cons_mk harg0 (trodAll_cons_mk harg1 trodAll_mk0)
theorem aGr(os:Os)(started:os.Started)(H:Type)(enc:TypeId×Value->H)(F:Stop.Interp) :
  ReturnsInHanded {} Tryz.checked os 3 .any ((Rows.OpenSpec.upto Rows.costScaledSpec).preRow enc Tryz.prog Tryz.f3 Rows.costScaledUptoRow.domain false Rows.costScaledUptoRow.laid) (((Rows.OpenSpec.upto Rows.costScaledSpec).at F).post enc Tryz.prog Tryz.f3 false true false false):=by
 refine returnsInHanded_of_row (C:=Tryz.checked) (s:=Rows.OpenSpec.upto Rows.costScaledSpec) own started (by kernel_rfl) Tryz.func3 (X9 os enc) ?_;intro W base args ds gs before hval hW _ hk _ hL _ _;exact VS H enc W base args ds gs before hval hW (hk _ rfl) hL
theorem aLZ:Rows.CostScaledUptoSaid:=
 OpenClaim.holds_of_cond 3 Tryz.f3 rfl rfl rfl rfl rfl rfl rfl ⟨rfl,rfl,rfl,rfl,rfl⟩ rfl rfl rfl rfl rfl aGn Tryz.func3 ZL aKw aIr
  (λos started H enc _ F=>by rw[OpenClaim.pre_eq_preRow];exact aGr os started H enc F)
theorem aIN(f:FuncId)(fn:Func)(hf:Tryz.pinned.checked.prog.funcNamed Rows.costScaledUptoRow.func=some f)(hfn:Tryz.pinned.checked.prog.funcs[f]?=some fn) :
  true=Tryz.pinned.checked.prog.looks []/\∀(j:Nat) t,fn.params[j]?=some t->Tryz.pinned.checked.prog.wantsStandIn t=false:=by
 obtain rfl:f=3:=Option.some.inj ((show Tryz.prog.funcNamed Rows.costScaledUptoRow.func=some 3 by kernel_rfl).symm.trans hf) |>.symm;obtain rfl:fn=Tryz.f3:=(Option.some.inj (Tryz.func3.symm.trans hfn)).symm;refine⟨by kernel_rfl,λj t ht=>?_⟩;rw[Tryz.params3]at ht;have w35:Tryz.prog.wantsStandIn 35=false:=by kernel_rfl
 have w5:Tryz.prog.wantsStandIn 5=false:=by kernel_rfl
 have hm:t=35\/t=5:=by have:=Array.mem_of_getElem? ht;simp at this;omega
 rcases hm with rfl|rfl;exact w35;exact w5
theorem cardUpto:Rows.CostScaledUptoCardSaid:=
 Claim7.holds_tied_plain_at .later [] _ _ _ _ aLZ (λ_ h=>by cases h) (by as_aux_lemma=>kernel_rfl) (λ_ h=>by cases h) costScaledUpto_row_tie rfl ⟨rfl,rfl⟩ (by as_aux_lemma=>kernel_rfl) rfl aIN (by as_aux_lemma=>kernel_rfl)
#print axioms cardUpto
end Go.Proofs.YtilkdbbkkcnocaaGreatDoor.scaled56
end
