import Derived.Test.YtdpdokigjeaaiaaGreatDoorFitNm
import Derived.Test.YtdpdokigjeaaiaaGreatDoorNDm
import Derived.Test.YtdpdokigjeaaiaaGreatDoorShPm
import Derived.Lib.AppendIntMem
set_option linter.all false
section
set_option maxRecDepth 100000
namespace Go.Proofs
open Go.Tev
def exB (f:Nat):Option (List AV→Nat→Hp→Option (AV × Hp)):=
 bif f.beq 92 then some exAtoi else bif f.beq 93 then some exItoa else bif f.beq 75 then some exSort else bif f.beq 76 then some exComp else none
def glS (g:Nat):Option AV:=
 bif g.beq 1 then some (.ifc .top) else bif g.beq 2 then some (.ifc .top) else bif g.beq 0 then some (.agg (Lib.pow10Tab.map fun n => .int .u64 n)) else none
def pgS:Pg:=⟨fun f=>tab.find f,glS,exB⟩
theorem n75:num 75=40:=by kernel_rfl
theorem n76:num 76=41:=by kernel_rfl
theorem n92:num 92=144:=by kernel_rfl
theorem n93:num 93=72:=by kernel_rfl
theorem fn75:FnOK Tryz.prog (num 75):=by rw [n75];exact ⟨Tryz.f40,Tryz.func40,by kernel_rfl,of_decide_eq_true (by kernel_rfl)⟩
theorem fn76:FnOK Tryz.prog (num 76):=by rw [n76];exact ⟨Tryz.f41,Tryz.func41,by kernel_rfl,of_decide_eq_true (by kernel_rfl)⟩
theorem fn92:FnOK Tryz.prog (num 92):=by rw [n92];exact ⟨Tryz.f144,Tryz.func144,by kernel_rfl,of_decide_eq_true (by kernel_rfl)⟩
theorem fn93:FnOK Tryz.prog (num 93):=by rw [n93];exact ⟨Tryz.f72,Tryz.func72,by kernel_rfl,of_decide_eq_true (by kernel_rfl)⟩
theorem itoaS:CallOK Tryz.prog num glS gnum (fun f' avs kb h=>if f'=93 then exItoa avs kb h else none):=by
 refine itoaOK fn93 0 rfl ?_
 intro n h0 h1 w hw
 obtain ⟨T,fr,ht⟩:=hw
 have ht':w.heap[0]?=some (.cells (Lib.pow10Tab.map fun z=>Value.int .u64 z).toArray T fr):=ht
 rw [n93]
 refine (Tryz.strconv_Itoa n (by omega) h1 w ht').mono ?_
 rintro e w' ⟨rfl,k,os,rfl⟩
 exact ⟨rfl,Lib.below_grow _ w (Nat.le_refl _) k os⟩
theorem toBA (s:List UInt8):((⟨s.toArray⟩:ByteArray).data.toList)=s:=by simp
theorem szBA (s:List UInt8):(⟨s.toArray⟩:ByteArray).size=s.length:=by simp [ByteArray.size]
theorem atoiS:CallOK Tryz.prog num glS gnum (fun f' avs kb h=>if f'=92 then exAtoi avs kb h else none):=by
 refine atoiOK fn92 1 2 rfl rfl ?_ ?_ ?_
 ·intro s hs v hv w
  rw [n92]
  refine (Tryz.strconv_Atoi_ok ⟨s.toArray⟩ (by rw [szBA];omega) v (by rw [toBA];exact hv) w).mono ?_
  rintro e w' ⟨rfl,hw⟩
  refine ⟨rfl,?_⟩
  rcases hw with rfl | ⟨t,rfl⟩
  ·exact RowKit.Below.refl _ _
  ·exact Lib.bytesWorld_below _ _ _
 ·intro s hs hv1 hv2 w te pe hc
  rw [n92]
  refine (Tryz.strconv_Atoi_bad ⟨s.toArray⟩ (by rw [szBA];omega) (by rw [toBA];exact hv1) (by rw [toBA];exact hv2) _ w hc (.inr ⟨te,pe,rfl⟩)).mono ?_
  rintro e w' ⟨N,rfl,_,_,hb⟩
  exact ⟨_,_,rfl,hb⟩
 ·intro s hs hv w te pe hc
  rw [n92]
  refine (Tryz.strconv_Atoi_range ⟨s.toArray⟩ (by rw [szBA];omega) (by rw [toBA];exact hv) _ w hc (.inr ⟨te,pe,rfl⟩)).mono ?_
  rintro e w' ⟨N,rfl,_,_,hb⟩
  rw [toBA]
  exact ⟨_,_,rfl,hb⟩
theorem sortS:CallOK Tryz.prog num glS gnum (fun f' avs kb h=>if f'=75 then exSort avs kb h else none):=by
 refine sortOK fn75 ?_ ?_
 ·intro blk off cap zs w hH hb hz
  rw [n75]
  refine (Tryz.slices_Sort_int blk off cap zs w hH hb (by omega)).mono ?_
  rintro e w' ⟨rfl,n,os,rfl⟩
  exact ⟨rfl,n,os,by rw [sortI_eq]⟩
 ·intro p cap w
  rw [n75]
  exact Tryz.slices_Sort_int_none p cap w
theorem compS:CallOK Tryz.prog num glS gnum (fun f' avs kb h=>if f'=76 then exComp avs kb h else none):=by
 refine compOK fn76 ?_ ?_
 ·intro blk off cap zs w hH hz hc
  rw [n76]
  refine (Tryz.slices_Compact_int blk off cap zs w hH (by omega) hc).mono ?_
  rintro e w' ⟨rfl,q,rfl⟩
  rw [compact_eq]
  exact ⟨rfl,q,rfl⟩
 ·intro p cap w
  rw [n76]
  exact Tryz.slices_Compact_int_empty p cap w
theorem exS:∀ f g,exB f=some g→CallOK Tryz.prog num glS gnum (fun f' avs kb h=>if f'=f then g avs kb h else none):=by
 intro f g h
 unfold exB at h
 cases h1:f.beq 92 with
 | true=>rw [h1] at h;cases h;obtain rfl:=Nat.eq_of_beq_eq_true h1;exact atoiS
 | false=>
  cases h2:f.beq 93 with
  | true=>rw [h1,h2] at h;cases h;obtain rfl:=Nat.eq_of_beq_eq_true h2;exact itoaS
  | false=>
   cases h3:f.beq 75 with
   | true=>rw [h1,h2,h3] at h;cases h;obtain rfl:=Nat.eq_of_beq_eq_true h3;exact sortS
   | false=>
    cases h4:f.beq 76 with
    | true=>rw [h1,h2,h3,h4] at h;cases h;obtain rfl:=Nat.eq_of_beq_eq_true h4;exact compS
    | false=>rw [h1,h2,h3,h4] at h;cases h
theorem fitS:FitP Tryz.prog num gnum pgS:=fitP_of fits exS
end Go.Proofs
end
