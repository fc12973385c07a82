import Derived.Test.YtmcadllokkmeiaaGreatDoorMAS
import Derived.Test.YtmcadllokkmeiaaGreatDoorMAO
set_option linter.all false
section
set_option maxRecDepth 100000
namespace Go.Proofs
open Go.Tev
abbrev vE:=List (Nat×List AV×AV)
def dU:vE->Nat->List AV->Option AV
 |[],_,_=>none
 |(g,b,r)::l,f,a=>bif f.beq g then (bif pN a b then some r else dU l f a) else dU l f a
theorem HB{l:vE}{m:Nat}(h:∀x∈l,x.2.2.tree=true/\bA (aO pgS m) x.1 x.2.1=some x.2.2):∀f a r,dU l f a=some r->r.tree=true/\bA (aO pgS m) f a=some r:=by
 induction l with
 |nil=>intro f a r hr;cases hr
 |cons x l ih=>
  intro f a r hr
  obtain⟨g,b,q⟩:=x
  have ih':=ih (fun y hy=>h y (List.mem_cons_of_mem _ hy)) f a r
  simp only[dU]at hr
  cases h1:f.beq g with
  |false=>rw[h1]at hr;exact ih' hr
  |true=>
   rw[h1]at hr
   cases h2:pN a b with
   |false=>rw[h2]at hr;exact ih' hr
   |true=>
    rw[h2]at hr
    cases hr
    have e1:=Nat.eq_of_beq_eq_true h1
    have e2:=eZ a b h2
    subst e1 e2
    exact h (f,a,r) (by simp)
theorem bL{l:vE}{m:Nat}(h:∀x∈l,x.2.2.tree=true/\bA (aO pgS m) x.1 x.2.1=some x.2.2){n f:Nat}{a:List AV}{r:AV}(hr:bA (cL pgS (dU l) n) f a=some r):bA (aO pgS (m+n)) f a=some r:=
 (qS pgS (HB h) n).at0 _ _ _ hr
abbrev mL0:List AV:=[.str [114,101,97,100],.int .i64 0,.int .i64 0,.str [],.sl false [.agg [.int .i64 0,.sl false [.agg [.str [105,48],.int .i64 1]] true]] true,.bool false,.int .i64 0,.sl true [] true,.sl true [] true]
abbrev mL1:List AV:=[.str [114,101,97,100],.int .i64 0,.int .i64 1,.str [],.sl false [.agg [.int .i64 0,.sl false [.agg [.str [105,48],.int .i64 1]] true]] true,.bool false,.int .i64 0,.sl true [] true,.sl true [] true]
abbrev mL2:List AV:=[.agg [.str [105,110,116],.str [],.sl false [.agg [.int .i64 0,.sl false [.agg [.str [110],.int .i64 1]] true]] true],.agg [.str [105,110,116],.str [],.sl false [.agg [.int .i64 0,.sl false [.agg [.str [110],.int .i64 1]] true]] true],.agg [.str [105,110,116],.str [],.sl false [.agg [.int .i64 0,.sl false [.agg [.str [110],.int .i64 1]] true]] true]]
abbrev mL3:List AV:=[.agg mL0,.agg mL1]
abbrev mL4:List AV:=[.int .i64 1,.int .i64 2,.sl false [.agg [.int .i64 0,.sl false [.agg [.str [110],.int .i64 1]] true]] true,.str [97,100,100],.int .i64 0,.int .i64 0,.str [],.sl true [] true,.bool false,.int .i64 0,.sl true [] true,.sl false mL3 true,.sl true [] true,.int .i64 0,.str [],.int .i64 0,.int .i64 0,.str [],.sl true [] true,.bool false,.int .i64 0,.sl true [] true,.sl true [] true,.int .i64 0]
abbrev mL5:List AV:=[.agg mL4]
abbrev mL6:List AV:=[.sl false [.str [110]] true,.sl true [] true,.int .i64 2,.sl false mL2 true,.sl false mL5 true,.sl false [.int .i64 2] true]
abbrev mL7:List AV:=[.agg mL6]
def mA0:List AV:=mL7
def mR0:AV:=.tup [.int .i64 1,.int .i64 0]
def mA1:List AV:=mL7
def mR1:AV:=.tup [.sl false [.agg [.int .i64 (-1),.int .i64 0],.agg [.int .i64 (-1),.int .i64 0],.agg [.int .i64 0,.int .i64 1]] false,.int .i64 0]
def mA2:List AV:=mL7
def mR2:AV:=.tup [.sl false [.int .i64 0] false,.int .i64 0]
def mA3:List AV:=[.agg mL6,.int .i64 (-1)]
def mR3:AV:=.tup [.sl false [.int .i64 0,.int .i64 1] false,.int .i64 0]
def mA4:List AV:=[.sl false [.agg [.int .i64 1,.sl false [.str [110]] false]] false]
def mR4:AV:=.bool true
def mA5:List AV:=[.sl false [.agg [.int .i64 0,.sl false [.agg [.str [110],.int .i64 1]] true]] true]
def mR5:AV:=.tup [.sl false [.agg [.int .i64 1,.sl false [.str [110]] false]] false,.int .i64 0]
def mA6:List AV:=[.agg [.str [],.sl false [.agg [.int .i64 0,.sl false [.agg [.str [110],.int .i64 1]] true]] true]]
def mR6:AV:=.tup [.sl false [.agg [.int .i64 1,.sl false [.str [110]] false]] false,.int .i64 0]
def mA7:List AV:=[.sl true [] true]
def mR7:AV:=.bool true
def mA8:List AV:=[.sl true [] true,.sl false [.agg [.int .i64 1,.sl false [.str [110]] false]] false]
def mR8:AV:=.tup [.sl false [.agg [.int .i64 1,.sl false [.str [110]] false]] false,.int .i64 0]
def mA9:List AV:=[.sl false [.agg [.int .i64 2,.sl false [.str [110]] false]] false]
def mR9:AV:=.bool true
def Q4:List AV:=[.sl false [.agg [.int .i64 1,.sl false [.str [110]] false]] false,.sl false [.agg [.int .i64 1,.sl false [.str [110]] false]] false]
def QR:AV:=.tup [.sl false [.agg [.int .i64 2,.sl false [.str [110]] false]] false,.int .i64 0]
def Q3:List AV:=[.agg mL6,.int .i64 0]
def QQ:AV:=.tup [.sl false [.int .i64 0,.int .i64 1,.int .i64 2] false,.int .i64 0]
def Q2:List AV:=[.sl false [.agg [.int .i64 3,.sl false [.str [110]] false]] false]
def QP:AV:=.bool true
def Q1:List AV:=[.sl false [.agg [.int .i64 2,.sl false [.str [110]] false]] false,.sl false [.agg [.int .i64 1,.sl false [.str [110]] false]] false]
def QO:AV:=.tup [.sl false [.agg [.int .i64 3,.sl false [.str [110]] false]] false,.int .i64 0]
def Q0:List AV:=[.agg mL6,.int .i64 1]
def QN:AV:=.tup [.sl false [.int .i64 2] false,.int .i64 0]
def QZ:List AV:=mL7
def QM:AV:=.tup [.sl false [.sl false [.agg [.int .i64 2,.sl false [.str [110]] false]] false,.sl false [.agg [.int .i64 2,.sl false [.str [110]] false]] false,.sl false [.agg [.int .i64 1,.sl false [.str [110]] false]] false] false,.int .i64 0]
def QY:List AV:=[.sl false [.agg [.int .i64 2,.sl false [.str [110]] false]] false,.sl false [.agg [.int .i64 2,.sl false [.str [110]] false]] false]
def QL:AV:=.bool true
def QX:List AV:=[.sl false [.agg [.int .i64 2,.sl false [.str [110]] false]] false,.sl false [.agg [.int .i64 1,.sl false [.str [110]] false]] false]
def QK:AV:=.bool false
def QW:List AV:=[.sl false [.agg [.int .i64 1,.sl false [.str [110]] false]] false,.sl false [.agg [.int .i64 2,.sl false [.str [110]] false]] false]
def QJ:AV:=.bool true
def QV:List AV:=mL7
def QI:AV:=.tup [.sl false [.sl false [.agg [.int .i64 2,.sl false [.str [110]] false]] false] false,.int .i64 0]
def QU:List AV:=[.agg mL6,.agg [.sl false [.agg [.int .i64 0,.int .i64 5],.agg [.int .i64 5,.int .i64 5],.agg [.int .i64 6,.int .i64 5]] true,.sl false [.int .i64 (-1)] true,.int .i64 11],.sl false [.agg [.str [110],.int .i64 5]] true]
def QH:AV:=.tup [.sl false [.agg [.int .i64 0,.int .i64 1,.int .i64 2,.int .i64 6]] false,.int .i64 0]
def QT:List AV:=[.sl false [.agg [.int .i64 2,.sl false [.str [110]] false]] false]
def QG:AV:=.str [50,42,110]
def QS:List AV:=[.sl false [.agg [.int .i64 1,.sl false [.str [110]] false]] false]
def QF:AV:=.str [110]
theorem mE0:bA (cL pgS (dU []) 400) 28 mA0=some mR0:=by kernel_rfl
def DQ:vE:=[(28,mA0,mR0)]
theorem zZ:∀x∈DQ,x.2.2.tree=true/\bA (aO pgS (0+400)) x.1 x.2.1=some x.2.2:=by
 intro x hx
 simp only[DQ,List.mem_cons,List.not_mem_nil,or_false]at hx
 rcases hx with rfl
 ·exact⟨by kernel_rfl,bL (m:=0) (l:=[]) (fun _ h=>by cases h) mE0⟩
theorem mE1:bA (cL pgS (dU DQ) 400) 9 mA1=some mR1:=by kernel_rfl
def nL:vE:=DQ++[(9,mA1,mR1)]
theorem gT:∀x∈nL,x.2.2.tree=true/\bA (aO pgS (0+400+400)) x.1 x.2.1=some x.2.2:=by
 intro x hx
 rcases List.mem_append.1 hx with hx|hx
 ·obtain⟨h1,h2⟩:=zZ x hx
  exact⟨h1,d7 (cF pgS (by omega)) h2⟩
 ·simp only[List.mem_cons,List.not_mem_nil,or_false]at hx
  subst hx
  ·exact⟨by kernel_rfl,bL zZ mE1⟩
theorem mE2:bA (cL pgS (dU nL) 400) 262 mA2=some mR2:=by kernel_rfl
theorem mE3:bA (cL pgS (dU nL) 400) 11 mA3=some mR3:=by kernel_rfl
theorem mE4:bA (cL pgS (dU nL) 400) 692 mA4=some mR4:=by kernel_rfl
theorem mE7:bA (cL pgS (dU nL) 400) 692 mA7=some mR7:=by kernel_rfl
theorem mE9:bA (cL pgS (dU nL) 400) 692 mA9=some mR9:=by kernel_rfl
theorem XZ:bA (cL pgS (dU nL) 400) 11 Q3=some QQ:=by kernel_rfl
theorem XY:bA (cL pgS (dU nL) 400) 692 Q2=some QP:=by kernel_rfl
theorem XU:bA (cL pgS (dU nL) 400) 11 Q0=some QN:=by kernel_rfl
def HE:vE:=nL++[(262,mA2,mR2),(11,mA3,mR3),(692,mA4,mR4),(692,mA7,mR7),(692,mA9,mR9),(11,Q3,QQ),(692,Q2,QP),(11,Q0,QN)]
theorem zY:∀x∈HE,x.2.2.tree=true/\bA (aO pgS (0+400+400+400)) x.1 x.2.1=some x.2.2:=by
 intro x hx
 rcases List.mem_append.1 hx with hx|hx
 ·obtain⟨h1,h2⟩:=gT x hx
  exact⟨h1,d7 (cF pgS (by omega)) h2⟩
 ·simp only[List.mem_cons,List.not_mem_nil,or_false]at hx
  rcases hx with rfl|rfl|rfl|rfl|rfl|rfl|rfl|rfl
  ·exact⟨by kernel_rfl,bL gT mE2⟩
  ·exact⟨by kernel_rfl,bL gT mE3⟩
  ·exact⟨by kernel_rfl,bL gT mE4⟩
  ·exact⟨by kernel_rfl,bL gT mE7⟩
  ·exact⟨by kernel_rfl,bL gT mE9⟩
  ·exact⟨by kernel_rfl,bL gT XZ⟩
  ·exact⟨by kernel_rfl,bL gT XY⟩
  ·exact⟨by kernel_rfl,bL gT XU⟩
theorem mE5:bA (cL pgS (dU HE) 400) 696 mA5=some mR5:=by kernel_rfl
def wF:vE:=HE++[(696,mA5,mR5)]
theorem mE:∀x∈wF,x.2.2.tree=true/\bA (aO pgS (0+400+400+400+400)) x.1 x.2.1=some x.2.2:=by
 intro x hx
 rcases List.mem_append.1 hx with hx|hx
 ·obtain⟨h1,h2⟩:=zY x hx
  exact⟨h1,d7 (cF pgS (by omega)) h2⟩
 ·simp only[List.mem_cons,List.not_mem_nil,or_false]at hx
  subst hx
  ·exact⟨by kernel_rfl,bL zY mE5⟩
theorem mE6:bA (cL pgS (dU wF) 400) 686 mA6=some mR6:=by kernel_rfl
theorem mE8:bA (cL pgS (dU wF) 400) 687 mA8=some mR8:=by kernel_rfl
theorem X0:bA (cL pgS (dU wF) 400) 687 Q4=some QR:=by kernel_rfl
theorem XW:bA (cL pgS (dU wF) 400) 687 Q1=some QO:=by kernel_rfl
def pB:vE:=wF++[(686,mA6,mR6),(687,mA8,mR8),(687,Q4,QR),(687,Q1,QO)]
theorem iL:∀x∈pB,x.2.2.tree=true/\bA (aO pgS (0+400+400+400+400+400)) x.1 x.2.1=some x.2.2:=by
 intro x hx
 rcases List.mem_append.1 hx with hx|hx
 ·obtain⟨h1,h2⟩:=mE x hx
  exact⟨h1,d7 (cF pgS (by omega)) h2⟩
 ·simp only[List.mem_cons,List.not_mem_nil,or_false]at hx
  rcases hx with rfl|rfl|rfl|rfl
  ·exact⟨by kernel_rfl,bL mE mE6⟩
  ·exact⟨by kernel_rfl,bL mE mE8⟩
  ·exact⟨by kernel_rfl,bL mE X0⟩
  ·exact⟨by kernel_rfl,bL mE XW⟩
theorem XS:bA (cL pgS (dU pB) 400) 672 QZ=some QM:=by kernel_rfl
theorem XQ:bA (cL pgS (dU pB) 400) 675 QY=some QL:=by kernel_rfl
theorem XP:bA (cL pgS (dU pB) 400) 675 QX=some QK:=by kernel_rfl
theorem XN:bA (cL pgS (dU pB) 400) 675 QW=some QJ:=by kernel_rfl
theorem XL:bA (cL pgS (dU pB) 400) 664 QU=some QH:=by kernel_rfl
theorem XK:bA (cL pgS (dU pB) 400) 674 QT=some QG:=by kernel_rfl
theorem XJ:bA (cL pgS (dU pB) 400) 674 QS=some QF:=by kernel_rfl
def HD:vE:=pB++[(672,QZ,QM),(675,QY,QL),(675,QX,QK),(675,QW,QJ),(664,QU,QH),(674,QT,QG),(674,QS,QF)]
theorem zX:∀x∈HD,x.2.2.tree=true/\bA (aO pgS (0+400+400+400+400+400+400)) x.1 x.2.1=some x.2.2:=by
 intro x hx
 rcases List.mem_append.1 hx with hx|hx
 ·obtain⟨h1,h2⟩:=iL x hx
  exact⟨h1,d7 (cF pgS (by omega)) h2⟩
 ·simp only[List.mem_cons,List.not_mem_nil,or_false]at hx
  rcases hx with rfl|rfl|rfl|rfl|rfl|rfl|rfl
  ·exact⟨by kernel_rfl,bL iL XS⟩
  ·exact⟨by kernel_rfl,bL iL XQ⟩
  ·exact⟨by kernel_rfl,bL iL XP⟩
  ·exact⟨by kernel_rfl,bL iL XN⟩
  ·exact⟨by kernel_rfl,bL iL XL⟩
  ·exact⟨by kernel_rfl,bL iL XK⟩
  ·exact⟨by kernel_rfl,bL iL XJ⟩
theorem XM:bA (cL pgS (dU HD) 400) 673 QV=some QI:=by kernel_rfl
def LU:vE:=HD++[(673,QV,QI)]
theorem HC:∀x∈LU,x.2.2.tree=true/\bA (aO pgS (0+400+400+400+400+400+400+400)) x.1 x.2.1=some x.2.2:=by
 intro x hx
 rcases List.mem_append.1 hx with hx|hx
 ·obtain⟨h1,h2⟩:=zX x hx
  exact⟨h1,d7 (cF pgS (by omega)) h2⟩
 ·simp only[List.mem_cons,List.not_mem_nil,or_false]at hx
  subst hx
  ·exact⟨by kernel_rfl,bL zX XM⟩
theorem FY:bA (cL pgS (dU LU) 400) 662 []=some (.bool true):=by kernel_rfl
theorem OJ:Ret pgS 662 [] (.bool true):=⟨0+400+400+400+400+400+400+400+400,bL HC FY⟩
end Go.Proofs
end
