import Derived.Test.YtplehelpidcobaaGreatDoorSAV
import Derived.Test.YtplehelpidcobaaGreatDoorSAP
set_option linter.all false
section
set_option maxRecDepth 100000
namespace Go.Proofs
open Go.Tev
abbrev IQ:=List (Nat×List AV×AV)
def qB:IQ->Nat->List AV->Option AV
 |[],_,_=>none
 |(g,b,r)::l,f,a=>bif f.beq g then (bif xG a b then some r else qB l f a) else qB l f a
theorem NB{l:IQ}{m:Nat}(h:∀x∈l,x.2.2.tree=true/\eF (bO pgS m) x.1 x.2.1=some x.2.2):∀f a r,qB l f a=some r->r.tree=true/\eF (bO pgS m) f a=some r:=by
 induction l with
 |nil=>intro f a r hr;cases hr
 |cons x l ih=>
  intro f a r hr
  obtain⟨g,b,q⟩:=x
  have ih':=ih (fun y hy=>h y (List.mem_cons_of_mem _ hy)) f a r
  simp only[qB]at hr
  cases h1:f.beq g with
  |false=>rw[h1]at hr;exact ih' hr
  |true=>
   rw[h1]at hr
   cases h2:xG a b with
   |false=>rw[h2]at hr;exact ih' hr
   |true=>
    rw[h2]at hr
    cases hr
    have e1:=Nat.eq_of_beq_eq_true h1
    have e2:=jW a b h2
    subst e1 e2
    exact h (f,a,r) (by simp)
theorem mZ{l:IQ}{m:Nat}(h:∀x∈l,x.2.2.tree=true/\eF (bO pgS m) x.1 x.2.1=some x.2.2){n f:Nat}{a:List AV}{r:AV}(hr:eF (j7 pgS (qB l) n) f a=some r):eF (bO pgS (m+n)) f a=some r:=
 (v7 pgS (NB h) n).at0 _ _ _ hr
abbrev mL0:List AV:=[.sl false [.agg [.int .i64 0,.int .i64 5],.agg [.int .i64 5,.int .i64 5],.agg [.int .i64 0,.int .i64 5]] false,.sl false [.int .i64 0] false,.int .i64 10]
abbrev mL1:List AV:=[.sl false [.agg [.str [105,110,116],.sl false [.int .i64 5] false,.sl false [.int .i64 7,.int .i64 8,.int .i64 9,.int .i64 10,.int .i64 11] false]] false,.sl true [] true,.int .i64 0]
abbrev mL2:List AV:=[.str [114,101,97,100],.int .i64 0,.int .i64 0,.str [],.sl false [.agg [.int .i64 0,.sl false [.agg [.str [105,48],.int .i64 1]] true]] true,.bool false,.int .i64 0,.sl true [] true,.sl true [] true]
abbrev mL3:List AV:=[.str [114,101,97,100],.int .i64 0,.int .i64 1,.str [],.sl false [.agg [.int .i64 0,.sl false [.agg [.str [105,48],.int .i64 1]] true]] true,.bool false,.int .i64 0,.sl true [] true,.sl true [] true]
abbrev mL4:List AV:=[.agg [.str [105,110,116],.sl false [.int .i64 5] true,.sl false [.int .i64 1,.int .i64 2,.int .i64 3,.int .i64 4,.int .i64 5] true],.agg [.str [105,110,116],.sl false [.int .i64 5] true,.sl false [.int .i64 6,.int .i64 6,.int .i64 6,.int .i64 6,.int .i64 6] true]]
abbrev mL5:List AV:=[.agg [.str [105,110,116],.str [],.sl false [.agg [.int .i64 0,.sl false [.agg [.str [110],.int .i64 1]] true]] true],.agg [.str [105,110,116],.str [],.sl false [.agg [.int .i64 0,.sl false [.agg [.str [110],.int .i64 1]] true]] true],.agg [.str [105,110,116],.str [],.sl false [.agg [.int .i64 0,.sl false [.agg [.str [110],.int .i64 1]] true]] true]]
abbrev mL6:List AV:=[.agg mL2,.agg mL3]
abbrev mL7:List AV:=[.int .i64 1,.int .i64 2,.sl false [.agg [.int .i64 0,.sl false [.agg [.str [110],.int .i64 1]] true]] true,.str [97,100,100],.int .i64 0,.int .i64 0,.str [],.sl true [] true,.bool false,.int .i64 0,.sl true [] true,.sl false mL6 true,.sl true [] true,.int .i64 0,.str [],.int .i64 0,.int .i64 0,.str [],.sl true [] true,.bool false,.int .i64 0,.sl true [] true,.sl true [] true,.int .i64 0]
abbrev mL8:List AV:=[.agg mL7]
abbrev mL9:List AV:=[.sl false [.str [110]] true,.sl true [] true,.int .i64 2,.sl false mL5 true,.sl false mL8 true,.sl false [.int .i64 2] true]
abbrev VW:List AV:=[.agg mL9]
def mA0:List AV:=VW
def mR0:AV:=.tup [.int .i64 1,.int .i64 0]
def mA1:List AV:=VW
def mR1:AV:=.tup [.sl false [.agg [.int .i64 (-1),.int .i64 0],.agg [.int .i64 (-1),.int .i64 0],.agg [.int .i64 0,.int .i64 1]] false,.int .i64 0]
def mA2:List AV:=[.agg mL9,.sl false [.agg [.str [110],.int .i64 5]] true]
def mR2:AV:=.tup [.agg mL0,.int .i64 0]
def mA3:List AV:=[.agg mL9,.sl false [.agg [.str [110],.int .i64 5]] true,.sl false mL4 true]
def mR3:AV:=.tup [.sl false [.agg [.str [105,110,116],.sl false [.int .i64 5] true,.sl false [.int .i64 1,.int .i64 2,.int .i64 3,.int .i64 4,.int .i64 5] true],.agg [.str [105,110,116],.sl false [.int .i64 5] true,.sl false [.int .i64 6,.int .i64 6,.int .i64 6,.int .i64 6,.int .i64 6] true],.agg [.str [105,110,116],.sl false [.int .i64 5] false,.sl false [.int .i64 7,.int .i64 8,.int .i64 9,.int .i64 10,.int .i64 11] false]] true,.sl true [] true,.int .i64 0]
def mA4:List AV:=[.agg mL9,.sl false [.int .i64 0] false,.sl false [.agg [.str [110],.int .i64 5]] true,.sl false mL4 true]
def mR4:AV:=.tup mL1
def mA5:List AV:=[.agg mL9,.agg mL0,.sl false [.agg [.str [110],.int .i64 5]] true,.sl false mL4 true]
def mR5:AV:=.tup mL1
theorem mE0:eF (j7 pgS (qB []) 400) 28 mA0=some mR0:=by kernel_rfl
def EW:IQ:=[(28,mA0,mR0)]
theorem yW:∀x∈EW,x.2.2.tree=true/\eF (bO pgS (0+400)) x.1 x.2.1=some x.2.2:=by
 intro x hx
 simp only[EW,List.mem_cons,List.not_mem_nil,or_false]at hx
 rcases hx with rfl
 ·exact⟨by kernel_rfl,mZ (m:=0) (l:=[]) (fun _ h=>by cases h) mE0⟩
theorem mE1:eF (j7 pgS (qB EW) 400) 9 mA1=some mR1:=by kernel_rfl
theorem mE3:eF (j7 pgS (qB EW) 400) 283 mA3=some mR3:=by kernel_rfl
def JA:IQ:=EW++[(9,mA1,mR1),(283,mA3,mR3)]
theorem yV:∀x∈JA,x.2.2.tree=true/\eF (bO pgS (0+400+400)) x.1 x.2.1=some x.2.2:=by
 intro x hx
 rcases List.mem_append.1 hx with hx|hx
 ·obtain⟨h1,h2⟩:=yW x hx
  exact⟨h1,jX (fN pgS (by omega)) h2⟩
 ·simp only[List.mem_cons,List.not_mem_nil,or_false]at hx
  rcases hx with rfl|rfl
  ·exact⟨by kernel_rfl,mZ yW mE1⟩
  ·exact⟨by kernel_rfl,mZ yW mE3⟩
theorem mE2:eF (j7 pgS (qB JA) 400) 615 mA2=some mR2:=by kernel_rfl
theorem mE4:eF (j7 pgS (qB JA) 400) 271 mA4=some mR4:=by kernel_rfl
def ND:IQ:=JA++[(615,mA2,mR2),(271,mA4,mR4)]
theorem EU:∀x∈ND,x.2.2.tree=true/\eF (bO pgS (0+400+400+400)) x.1 x.2.1=some x.2.2:=by
 intro x hx
 rcases List.mem_append.1 hx with hx|hx
 ·obtain⟨h1,h2⟩:=yV x hx
  exact⟨h1,jX (fN pgS (by omega)) h2⟩
 ·simp only[List.mem_cons,List.not_mem_nil,or_false]at hx
  rcases hx with rfl|rfl
  ·exact⟨by kernel_rfl,mZ yV mE2⟩
  ·exact⟨by kernel_rfl,mZ yV mE4⟩
theorem mE5:eF (j7 pgS (qB ND) 400) 622 mA5=some mR5:=by kernel_rfl
def RN:IQ:=ND++[(622,mA5,mR5)]
theorem NC:∀x∈RN,x.2.2.tree=true/\eF (bO pgS (0+400+400+400+400)) x.1 x.2.1=some x.2.2:=by
 intro x hx
 rcases List.mem_append.1 hx with hx|hx
 ·obtain⟨h1,h2⟩:=EU x hx
  exact⟨h1,jX (fN pgS (by omega)) h2⟩
 ·simp only[List.mem_cons,List.not_mem_nil,or_false]at hx
  subst hx
  ·exact⟨by kernel_rfl,mZ EU mE5⟩
theorem LM:eF (j7 pgS (qB RN) 400) 614 []=some (.bool true):=by kernel_rfl
theorem UB:Ret pgS 614 [] (.bool true):=⟨0+400+400+400+400+400,mZ NC LM⟩
end Go.Proofs
end
