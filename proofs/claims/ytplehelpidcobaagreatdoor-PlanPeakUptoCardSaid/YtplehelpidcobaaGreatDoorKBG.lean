import Derived.Test.YtplehelpidcobaaGreatDoorKAU
import Derived.Test.YtplehelpidcobaaGreatDoorKAO
set_option linter.all false
section
set_option maxRecDepth 100000
namespace Go.Proofs
open Go.Tev
abbrev ID:=List (Nat × List AV × AV)
def pT:ID->Nat->List AV->Option AV
 | [],_,_=>none
 | (g,b,r) :: l,f,a=>bif f.beq g then (bif wY a b then some r else pT l f a) else pT l f a
theorem MU {l:ID} {m:Nat} (h:∀ x∈l,x.2.2.tree=true/\eA (bM pgS m) x.1 x.2.1=some x.2.2):∀ f a r,pT l f a=some r->r.tree=true/\eA (bM pgS m) f a=some r:=by
 induction l with
 | nil=>intro f a r hr;cases hr
 | cons x l ih=>
  intro f a r hr
  obtain ⟨g,b,q⟩:=x
  have ih':=ih (fun y hy=>h y (List.mem_cons_of_mem _ hy)) f a r
  simp only [pT] at hr
  cases h1:f.beq g with
  | false=>rw [h1] at hr;exact ih' hr
  | true=>
   rw [h1] at hr
   cases h2:wY a b with
   | false=>rw [h2] at hr;exact ih' hr
   | true=>
    rw [h2] at hr
    cases hr
    have e1:=Nat.eq_of_beq_eq_true h1
    have e2:=jN a b h2
    subst e1 e2
    exact h (f,a,r) (by simp)
theorem mN {l:ID} {m:Nat} (h:∀ x∈l,x.2.2.tree=true/\eA (bM pgS m) x.1 x.2.1=some x.2.2) {n f:Nat} {a:List AV} {r:AV} (hr:eA (jX pgS (pT l) n) f a=some r):eA (bM pgS (m+n)) f a=some r:=
 (vK pgS (MU h) n).at0 _ _ _ hr
abbrev mL0:List AV:=[.sl false [.agg [.int .i64 0,.int .i64 5],.agg [.int .i64 5,.int .i64 5],.agg [.int .i64 0,.int .i64 5]] false,.sl false [.int .i64 0] false,.int .i64 10]
abbrev mL1:List AV:=[.sl false [.agg [.str [105,110,116],.sl false [.int .i64 5] false,.sl false [.int .i64 7,.int .i64 8,.int .i64 9,.int .i64 10,.int .i64 11] false]] false,.sl true [] true,.int .i64 0]
abbrev mL2:List AV:=[.str [114,101,97,100],.int .i64 0,.int .i64 0,.str [],.sl false [.agg [.int .i64 0,.sl false [.agg [.str [105,48],.int .i64 1]] true]] true,.bool false,.int .i64 0,.sl true [] true,.sl true [] true]
abbrev mL3:List AV:=[.str [114,101,97,100],.int .i64 0,.int .i64 1,.str [],.sl false [.agg [.int .i64 0,.sl false [.agg [.str [105,48],.int .i64 1]] true]] true,.bool false,.int .i64 0,.sl true [] true,.sl true [] true]
abbrev mL4:List AV:=[.agg [.str [105,110,116],.sl false [.int .i64 5] true,.sl false [.int .i64 1,.int .i64 2,.int .i64 3,.int .i64 4,.int .i64 5] true],.agg [.str [105,110,116],.sl false [.int .i64 5] true,.sl false [.int .i64 6,.int .i64 6,.int .i64 6,.int .i64 6,.int .i64 6] true]]
abbrev mL5:List AV:=[.agg [.str [105,110,116],.str [],.sl false [.agg [.int .i64 0,.sl false [.agg [.str [110],.int .i64 1]] true]] true],.agg [.str [105,110,116],.str [],.sl false [.agg [.int .i64 0,.sl false [.agg [.str [110],.int .i64 1]] true]] true],.agg [.str [105,110,116],.str [],.sl false [.agg [.int .i64 0,.sl false [.agg [.str [110],.int .i64 1]] true]] true]]
abbrev mL6:List AV:=[.agg mL2,.agg mL3]
abbrev mL7:List AV:=[.int .i64 1,.int .i64 2,.sl false [.agg [.int .i64 0,.sl false [.agg [.str [110],.int .i64 1]] true]] true,.str [97,100,100],.int .i64 0,.int .i64 0,.str [],.sl true [] true,.bool false,.int .i64 0,.sl true [] true,.sl false mL6 true,.sl true [] true,.int .i64 0,.str [],.int .i64 0,.int .i64 0,.str [],.sl true [] true,.bool false,.int .i64 0,.sl true [] true,.sl true [] true,.int .i64 0]
abbrev mL8:List AV:=[.agg mL7]
abbrev mL9:List AV:=[.sl false [.str [110]] true,.sl true [] true,.int .i64 2,.sl false mL5 true,.sl false mL8 true,.sl false [.int .i64 2] true]
abbrev VO:List AV:=[.agg mL9]
def mA0:List AV:=VO
def mR0:AV:=.tup [.int .i64 1,.int .i64 0]
def mA1:List AV:=VO
def mR1:AV:=.tup [.sl false [.agg [.int .i64 (-1),.int .i64 0],.agg [.int .i64 (-1),.int .i64 0],.agg [.int .i64 0,.int .i64 1]] false,.int .i64 0]
def mA2:List AV:=[.agg mL9,.sl false [.agg [.str [110],.int .i64 5]] true]
def mR2:AV:=.tup [.agg mL0,.int .i64 0]
def mA3:List AV:=[.agg mL9,.sl false [.agg [.str [110],.int .i64 5]] true,.sl false mL4 true]
def mR3:AV:=.tup [.sl false [.agg [.str [105,110,116],.sl false [.int .i64 5] true,.sl false [.int .i64 1,.int .i64 2,.int .i64 3,.int .i64 4,.int .i64 5] true],.agg [.str [105,110,116],.sl false [.int .i64 5] true,.sl false [.int .i64 6,.int .i64 6,.int .i64 6,.int .i64 6,.int .i64 6] true],.agg [.str [105,110,116],.sl false [.int .i64 5] false,.sl false [.int .i64 7,.int .i64 8,.int .i64 9,.int .i64 10,.int .i64 11] false]] true,.sl true [] true,.int .i64 0]
def mA4:List AV:=[.agg mL9,.sl false [.int .i64 0] false,.sl false [.agg [.str [110],.int .i64 5]] true,.sl false mL4 true]
def mR4:AV:=.tup mL1
def mA5:List AV:=[.agg mL9,.agg mL0,.sl false [.agg [.str [110],.int .i64 5]] true,.sl false mL4 true]
def mR5:AV:=.tup mL1
theorem mE0:eA (jX pgS (pT []) 400) 28 mA0=some mR0:=by kernel_rfl
def EP:ID:=[(28,mA0,mR0)]
theorem yO:∀ x∈EP,x.2.2.tree=true/\eA (bM pgS (0+400)) x.1 x.2.1=some x.2.2:=by
 intro x hx
 simp only [EP,List.mem_cons,List.not_mem_nil,or_false] at hx
 rcases hx with rfl
 ·exact ⟨by kernel_rfl,mN (m:=0) (l:=[]) (fun _ h=>by cases h) mE0⟩
theorem mE1:eA (jX pgS (pT EP) 400) 9 mA1=some mR1:=by kernel_rfl
theorem mE3:eA (jX pgS (pT EP) 400) 283 mA3=some mR3:=by kernel_rfl
def IU:ID:=EP++[(9,mA1,mR1),(283,mA3,mR3)]
theorem yN:∀ x∈IU,x.2.2.tree=true/\eA (bM pgS (0+400+400)) x.1 x.2.1=some x.2.2:=by
 intro x hx
 rcases List.mem_append.1 hx with hx | hx
 ·obtain ⟨h1,h2⟩:=yO x hx
  exact ⟨h1,jO (fG pgS (by omega)) h2⟩
 ·simp only [List.mem_cons,List.not_mem_nil,or_false] at hx
  rcases hx with rfl | rfl
  ·exact ⟨by kernel_rfl,mN yO mE1⟩
  ·exact ⟨by kernel_rfl,mN yO mE3⟩
theorem mE2:eA (jX pgS (pT IU) 400) 615 mA2=some mR2:=by kernel_rfl
theorem mE4:eA (jX pgS (pT IU) 400) 271 mA4=some mR4:=by kernel_rfl
def MW:ID:=IU++[(615,mA2,mR2),(271,mA4,mR4)]
theorem EO:∀ x∈MW,x.2.2.tree=true/\eA (bM pgS (0+400+400+400)) x.1 x.2.1=some x.2.2:=by
 intro x hx
 rcases List.mem_append.1 hx with hx | hx
 ·obtain ⟨h1,h2⟩:=yN x hx
  exact ⟨h1,jO (fG pgS (by omega)) h2⟩
 ·simp only [List.mem_cons,List.not_mem_nil,or_false] at hx
  rcases hx with rfl | rfl
  ·exact ⟨by kernel_rfl,mN yN mE2⟩
  ·exact ⟨by kernel_rfl,mN yN mE4⟩
theorem mE5:eA (jX pgS (pT MW) 400) 622 mA5=some mR5:=by kernel_rfl
def RD:ID:=MW++[(622,mA5,mR5)]
theorem MV:∀ x∈RD,x.2.2.tree=true/\eA (bM pgS (0+400+400+400+400)) x.1 x.2.1=some x.2.2:=by
 intro x hx
 rcases List.mem_append.1 hx with hx | hx
 ·obtain ⟨h1,h2⟩:=EO x hx
  exact ⟨h1,jO (fG pgS (by omega)) h2⟩
 ·simp only [List.mem_cons,List.not_mem_nil,or_false] at hx
  subst hx
  ·exact ⟨by kernel_rfl,mN EO mE5⟩
theorem K7:eA (jX pgS (pT RD) 400) 614 []=some (.bool true):=by kernel_rfl
theorem TV:Ret pgS 614 [] (.bool true):=⟨0+400+400+400+400+400,mN MV K7⟩
end Go.Proofs
end
