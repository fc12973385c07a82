import Derived.Test.YtmcadllokkmeiaaGreatDoorCAV
import Derived.Test.YtmcadllokkmeiaaGreatDoorCAO
set_option linter.all false
section
set_option maxRecDepth 100000
namespace Go.Proofs
open Go.Tev
abbrev FQ:=List (Nat×List AV×AV)
def gY:FQ->Nat->List AV->Option AV
 |[],_,_=>none
 |(g,b,r)::l,f,a=>bif f.beq g then (bif tE a b then some r else gY l f a) else gY l f a
theorem Y9{l:FQ}{m:Nat}(h:∀x∈l,x.2.2.tree=true/\cQ (bW pgS m) x.1 x.2.1=some x.2.2):∀f a r,gY l f a=some r->r.tree=true/\cQ (bW pgS m) f a=some r:=by
 induction l with
 |nil=>intro f a r hr;cases hr
 |cons x l ih=>
  intro f a r hr;obtain⟨g,b,q⟩:=x;have ih':=ih (λy hy=>h y (List.mem_cons_of_mem _ hy)) f a r;simp only[gY]at hr;cases h1:f.beq g with
  |false=>rw[h1]at hr;exact ih' hr
  |true=>
   rw[h1]at hr;cases h2:tE a b with
   |false=>rw[h2]at hr;exact ih' hr
   |true=>rw[h2]at hr;cases hr;have e1:=Nat.eq_of_beq_eq_true h1;have e2:=hZ a b h2;subst e1 e2;exact h (f,a,r) (by simp)
theorem dK{l:FQ}{m:Nat}(h:∀x∈l,x.2.2.tree=true/\cQ (bW pgS m) x.1 x.2.1=some x.2.2){n f:Nat}{a:List AV}{r:AV}(hr:cQ (fG pgS (gY l) n) f a=some r):cQ (bW pgS (m+n)) f a=some r:=
 (AL pgS (Y9 h) n).at0 _ _ _ hr
abbrev mL0:List AV:=[.str [114,101,97,100],.int .i64 0,.int .i64 0,.str [],.sl false [.agg [.int .i64 0,.sl false [.agg [.str [105,48],.int .i64 1]] true]] true,.bool false,.int .i64 0,.sl true [] true,.sl true [] true]
abbrev mL1:List AV:=[.str [114,101,97,100],.int .i64 0,.int .i64 1,.str [],.sl false [.agg [.int .i64 0,.sl false [.agg [.str [105,48],.int .i64 1]] true]] true,.bool false,.int .i64 0,.sl true [] true,.sl true [] true]
abbrev mL2:List AV:=[.agg [.str [105,110,116],.str [],.sl false [.agg [.int .i64 0,.sl false [.agg [.str [110],.int .i64 1]] true]] true],.agg [.str [105,110,116],.str [],.sl false [.agg [.int .i64 0,.sl false [.agg [.str [110],.int .i64 1]] true]] true],.agg [.str [105,110,116],.str [],.sl false [.agg [.int .i64 0,.sl false [.agg [.str [110],.int .i64 1]] true]] true]]
abbrev mL3:List AV:=[.agg mL0,.agg mL1]
abbrev mL4:List AV:=[.int .i64 1,.int .i64 2,.sl false [.agg [.int .i64 0,.sl false [.agg [.str [110],.int .i64 1]] true]] true,.str [97,100,100],.int .i64 0,.int .i64 0,.str [],.sl true [] true,.bool false,.int .i64 0,.sl true [] true,.sl false mL3 true,.sl true [] true,.int .i64 0,.str [],.int .i64 0,.int .i64 0,.str [],.sl true [] true,.bool false,.int .i64 0,.sl true [] true,.sl true [] true,.int .i64 0]
abbrev mL5:List AV:=[.agg mL4]
abbrev mL6:List AV:=[.sl false [.str [110]] true,.sl true [] true,.int .i64 2,.sl false mL2 true,.sl false mL5 true,.sl false [.int .i64 2] true]
abbrev mL7:List AV:=[.agg mL6]
def mA0:List AV:=mL7
def mR0:AV:=.tup [.int .i64 1,.int .i64 0]
def mA1:List AV:=mL7
def mR1:AV:=.tup [.sl false [.agg [.int .i64 (-1),.int .i64 0],.agg [.int .i64 (-1),.int .i64 0],.agg [.int .i64 0,.int .i64 1]] false,.int .i64 0]
def mA2:List AV:=mL7
def mR2:AV:=.tup [.sl false [.int .i64 0] false,.int .i64 0]
def mA3:List AV:=[.agg mL6,.int .i64 (-1)]
def mR3:AV:=.tup [.sl false [.int .i64 0,.int .i64 1] false,.int .i64 0]
def mA4:List AV:=[.sl false [.agg [.int .i64 1,.sl false [.str [110]] false]] false]
def mR4:AV:=.bool true
def mA5:List AV:=[.sl false [.agg [.int .i64 0,.sl false [.agg [.str [110],.int .i64 1]] true]] true]
def mR5:AV:=.tup [.sl false [.agg [.int .i64 1,.sl false [.str [110]] false]] false,.int .i64 0]
def mA6:List AV:=[.agg [.str [],.sl false [.agg [.int .i64 0,.sl false [.agg [.str [110],.int .i64 1]] true]] true]]
def mR6:AV:=.tup [.sl false [.agg [.int .i64 1,.sl false [.str [110]] false]] false,.int .i64 0]
def mA7:List AV:=[.sl true [] true]
def mR7:AV:=.bool true
def mA8:List AV:=[.sl true [] true,.sl false [.agg [.int .i64 1,.sl false [.str [110]] false]] false]
def mR8:AV:=.tup [.sl false [.agg [.int .i64 1,.sl false [.str [110]] false]] false,.int .i64 0]
def mA9:List AV:=[.sl false [.agg [.int .i64 2,.sl false [.str [110]] false]] false]
def mR9:AV:=.bool true
def aJk:List AV:=[.sl false [.agg [.int .i64 1,.sl false [.str [110]] false]] false,.sl false [.agg [.int .i64 1,.sl false [.str [110]] false]] false]
def aIX:AV:=.tup [.sl false [.agg [.int .i64 2,.sl false [.str [110]] false]] false,.int .i64 0]
def aJj:List AV:=[.agg mL6,.int .i64 0]
def aIW:AV:=.tup [.sl false [.int .i64 0,.int .i64 1,.int .i64 2] false,.int .i64 0]
def aJi:List AV:=[.sl false [.agg [.int .i64 3,.sl false [.str [110]] false]] false]
def aIV:AV:=.bool true
def aJh:List AV:=[.sl false [.agg [.int .i64 2,.sl false [.str [110]] false]] false,.sl false [.agg [.int .i64 1,.sl false [.str [110]] false]] false]
def aIU:AV:=.tup [.sl false [.agg [.int .i64 3,.sl false [.str [110]] false]] false,.int .i64 0]
def aJg:List AV:=[.agg mL6,.int .i64 1]
def aIT:AV:=.tup [.sl false [.int .i64 2] false,.int .i64 0]
def aJf:List AV:=mL7
def aIS:AV:=.tup [.sl false [.sl false [.agg [.int .i64 2,.sl false [.str [110]] false]] false,.sl false [.agg [.int .i64 2,.sl false [.str [110]] false]] false,.sl false [.agg [.int .i64 1,.sl false [.str [110]] false]] false] false,.int .i64 0]
def aJe:List AV:=[.sl false [.agg [.int .i64 2,.sl false [.str [110]] false]] false,.sl false [.agg [.int .i64 2,.sl false [.str [110]] false]] false]
def aIR:AV:=.bool true
def aJd:List AV:=[.sl false [.agg [.int .i64 2,.sl false [.str [110]] false]] false,.sl false [.agg [.int .i64 1,.sl false [.str [110]] false]] false]
def aIQ:AV:=.bool false
def aJc:List AV:=[.sl false [.agg [.int .i64 1,.sl false [.str [110]] false]] false,.sl false [.agg [.int .i64 2,.sl false [.str [110]] false]] false]
def aIP:AV:=.bool true
def aJb:List AV:=mL7
def aIO:AV:=.tup [.sl false [.sl false [.agg [.int .i64 2,.sl false [.str [110]] false]] false] false,.int .i64 0]
def aJa:List AV:=[.agg mL6,.agg [.sl false [.agg [.int .i64 0,.int .i64 5],.agg [.int .i64 5,.int .i64 5],.agg [.int .i64 6,.int .i64 5]] true,.sl false [.int .i64 (-1)] true,.int .i64 11],.sl false [.agg [.str [110],.int .i64 5]] true]
def aIN:AV:=.tup [.sl false [.agg [.int .i64 0,.int .i64 1,.int .i64 2,.int .i64 6]] false,.int .i64 0]
def aIZ:List AV:=[.sl false [.agg [.int .i64 2,.sl false [.str [110]] false]] false]
def aIM:AV:=.str [50,42,110]
def aIY:List AV:=[.sl false [.agg [.int .i64 1,.sl false [.str [110]] false]] false]
def aIL:AV:=.str [110]
theorem mE0:cQ (fG pgS (gY []) 400) 28 mA0=some mR0:=by kernel_rfl
def UK:FQ:=[(28,mA0,mR0)]
theorem MM:∀x∈UK,x.2.2.tree=true/\cQ (bW pgS (0+400)) x.1 x.2.1=some x.2.2:=by intro x hx;simp only[UK,List.mem_cons,List.not_mem_nil,or_false]at hx;rcases hx with rfl;exact⟨by kernel_rfl,dK (m:=0) (l:=[]) (λ_ h=>by cases h) mE0⟩
theorem mE1:cQ (fG pgS (gY UK) 400) 9 mA1=some mR1:=by kernel_rfl
def vS:FQ:=UK++[(9,mA1,mR1)]
theorem lW:∀x∈vS,x.2.2.tree=true/\cQ (bW pgS (0+400+400)) x.1 x.2.1=some x.2.2:=by intro x hx;rcases List.mem_append.1 hx with hx|hx;obtain⟨h1,h2⟩:=MM x hx;exact⟨h1,iB (eY pgS (by omega)) h2⟩;simp only[List.mem_cons,List.not_mem_nil,or_false]at hx;subst hx;exact⟨by kernel_rfl,dK MM mE1⟩
theorem mE2:cQ (fG pgS (gY vS) 400) 262 mA2=some mR2:=by kernel_rfl
theorem mE3:cQ (fG pgS (gY vS) 400) 11 mA3=some mR3:=by kernel_rfl
theorem mE4:cQ (fG pgS (gY vS) 400) 692 mA4=some mR4:=by kernel_rfl
theorem mE7:cQ (fG pgS (gY vS) 400) 692 mA7=some mR7:=by kernel_rfl
theorem mE9:cQ (fG pgS (gY vS) 400) 692 mA9=some mR9:=by kernel_rfl
theorem aNF:cQ (fG pgS (gY vS) 400) 11 aJj=some aIW:=by kernel_rfl
theorem aNE:cQ (fG pgS (gY vS) 400) 692 aJi=some aIV:=by kernel_rfl
theorem aNC:cQ (fG pgS (gY vS) 400) 11 aJg=some aIT:=by kernel_rfl
def ZC:FQ:=vS++[(262,mA2,mR2),(11,mA3,mR3),(692,mA4,mR4),(692,mA7,mR7),(692,mA9,mR9),(11,aJj,aIW),(692,aJi,aIV),(11,aJg,aIT)]
theorem ML:∀x∈ZC,x.2.2.tree=true/\cQ (bW pgS (0+400+400+400)) x.1 x.2.1=some x.2.2:=by intro x hx;rcases List.mem_append.1 hx with hx|hx;obtain⟨h1,h2⟩:=lW x hx;exact⟨h1,iB (eY pgS (by omega)) h2⟩;simp only[List.mem_cons,List.not_mem_nil,or_false]at hx;rcases hx with rfl|rfl|rfl|rfl|rfl|rfl|rfl|rfl;exact⟨by kernel_rfl,dK lW mE2⟩;exact⟨by kernel_rfl,dK lW mE3⟩;exact⟨by kernel_rfl,dK lW mE4⟩;exact⟨by kernel_rfl,dK lW mE7⟩;exact⟨by kernel_rfl,dK lW mE9⟩;exact⟨by kernel_rfl,dK lW aNF⟩;exact⟨by kernel_rfl,dK lW aNE⟩;exact⟨by kernel_rfl,dK lW aNC⟩
theorem mE5:cQ (fG pgS (gY ZC) 400) 696 mA5=some mR5:=by kernel_rfl
def GI:FQ:=ZC++[(696,mA5,mR5)]
theorem tZ:∀x∈GI,x.2.2.tree=true/\cQ (bW pgS (0+400+400+400+400)) x.1 x.2.1=some x.2.2:=by intro x hx;rcases List.mem_append.1 hx with hx|hx;obtain⟨h1,h2⟩:=ML x hx;exact⟨h1,iB (eY pgS (by omega)) h2⟩;simp only[List.mem_cons,List.not_mem_nil,or_false]at hx;subst hx;exact⟨by kernel_rfl,dK ML mE5⟩
theorem mE6:cQ (fG pgS (gY GI) 400) 686 mA6=some mR6:=by kernel_rfl
theorem mE8:cQ (fG pgS (gY GI) 400) 687 mA8=some mR8:=by kernel_rfl
theorem aNG:cQ (fG pgS (gY GI) 400) 687 aJk=some aIX:=by kernel_rfl
theorem aND:cQ (fG pgS (gY GI) 400) 687 aJh=some aIU:=by kernel_rfl
def xS:FQ:=GI++[(686,mA6,mR6),(687,mA8,mR8),(687,aJk,aIX),(687,aJh,aIU)]
theorem nK:∀x∈xS,x.2.2.tree=true/\cQ (bW pgS (0+400+400+400+400+400)) x.1 x.2.1=some x.2.2:=by intro x hx;rcases List.mem_append.1 hx with hx|hx;obtain⟨h1,h2⟩:=tZ x hx;exact⟨h1,iB (eY pgS (by omega)) h2⟩;simp only[List.mem_cons,List.not_mem_nil,or_false]at hx;rcases hx with rfl|rfl|rfl|rfl;exact⟨by kernel_rfl,dK tZ mE6⟩;exact⟨by kernel_rfl,dK tZ mE8⟩;exact⟨by kernel_rfl,dK tZ aNG⟩;exact⟨by kernel_rfl,dK tZ aND⟩
theorem aNB:cQ (fG pgS (gY xS) 400) 672 aJf=some aIS:=by kernel_rfl
theorem aNA:cQ (fG pgS (gY xS) 400) 675 aJe=some aIR:=by kernel_rfl
theorem aNz:cQ (fG pgS (gY xS) 400) 675 aJd=some aIQ:=by kernel_rfl
theorem aNy:cQ (fG pgS (gY xS) 400) 675 aJc=some aIP:=by kernel_rfl
theorem aNw:cQ (fG pgS (gY xS) 400) 664 aJa=some aIN:=by kernel_rfl
theorem aNv:cQ (fG pgS (gY xS) 400) 674 aIZ=some aIM:=by kernel_rfl
theorem aNu:cQ (fG pgS (gY xS) 400) 674 aIY=some aIL:=by kernel_rfl
def ZB:FQ:=xS++[(672,aJf,aIS),(675,aJe,aIR),(675,aJd,aIQ),(675,aJc,aIP),(664,aJa,aIN),(674,aIZ,aIM),(674,aIY,aIL)]
theorem MK:∀x∈ZB,x.2.2.tree=true/\cQ (bW pgS (0+400+400+400+400+400+400)) x.1 x.2.1=some x.2.2:=by intro x hx;rcases List.mem_append.1 hx with hx|hx;obtain⟨h1,h2⟩:=nK x hx;exact⟨h1,iB (eY pgS (by omega)) h2⟩;simp only[List.mem_cons,List.not_mem_nil,or_false]at hx;rcases hx with rfl|rfl|rfl|rfl|rfl|rfl|rfl;exact⟨by kernel_rfl,dK nK aNB⟩;exact⟨by kernel_rfl,dK nK aNA⟩;exact⟨by kernel_rfl,dK nK aNz⟩;exact⟨by kernel_rfl,dK nK aNy⟩;exact⟨by kernel_rfl,dK nK aNw⟩;exact⟨by kernel_rfl,dK nK aNv⟩;exact⟨by kernel_rfl,dK nK aNu⟩
theorem aNx:cQ (fG pgS (gY ZB) 400) 673 aJb=some aIO:=by kernel_rfl
def aEE:FQ:=ZB++[(673,aJb,aIO)]
theorem ZA:∀x∈aEE,x.2.2.tree=true/\cQ (bW pgS (0+400+400+400+400+400+400+400)) x.1 x.2.1=some x.2.2:=by intro x hx;rcases List.mem_append.1 hx with hx|hx;obtain⟨h1,h2⟩:=MK x hx;exact⟨h1,iB (eY pgS (by omega)) h2⟩;simp only[List.mem_cons,List.not_mem_nil,or_false]at hx;subst hx;exact⟨by kernel_rfl,dK MK aNx⟩
theorem XN:cQ (fG pgS (gY aEE) 400) 662 []=some (.bool true):=by kernel_rfl
theorem aHC:Ret pgS 662 [] (.bool true):=⟨0+400+400+400+400+400+400+400+400,dK ZA XN⟩
end Go.Proofs
end
