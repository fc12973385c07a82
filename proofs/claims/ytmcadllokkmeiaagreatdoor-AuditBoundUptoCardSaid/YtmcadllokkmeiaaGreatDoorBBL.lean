import Derived.Test.YtmcadllokkmeiaaGreatDoorBAV
import Derived.Test.YtmcadllokkmeiaaGreatDoorBAO
set_option linter.all false
section
set_option maxRecDepth 100000
namespace Go.Proofs
open Go.Tev
abbrev HZ:=List (Nat×List AV×AV)
def iY:HZ->Nat->List AV->Option AV
 |[],_,_=>none
 |(g,b,r)::l,f,a=>bif f.beq g then (bif vD a b then some r else iY l f a) else iY l f a
theorem aBZ{l:HZ}{m:Nat}(h:∀x∈l,x.2.2.tree=true/\dS (cM pgS m) x.1 x.2.1=some x.2.2):∀f a r,iY l f a=some r->r.tree=true/\dS (cM pgS m) f a=some r:=by
 induction l with
 |nil=>intro f a r hr;cases hr
 |cons x l ih=>
  intro f a r hr;obtain⟨g,b,q⟩:=x;have ih':=ih (λy hy=>h y (List.mem_cons_of_mem _ hy)) f a r;simp only[iY]at hr;cases h1:f.beq g with
  |false=>rw[h1]at hr;exact ih' hr
  |true=>
   rw[h1]at hr;cases h2:vD a b with
   |false=>rw[h2]at hr;exact ih' hr
   |true=>rw[h2]at hr;cases hr;have e1:=Nat.eq_of_beq_eq_true h1;have e2:=jE a b h2;subst e1 e2;exact h (f,a,r) (by simp)
theorem eG{l:HZ}{m:Nat}(h:∀x∈l,x.2.2.tree=true/\dS (cM pgS m) x.1 x.2.1=some x.2.2){n f:Nat}{a:List AV}{r:AV}(hr:dS (gC pgS (iY l) n) f a=some r):dS (cM pgS (m+n)) f a=some r:=
 (CI pgS (aBZ h) n).at0 _ _ _ hr
abbrev mL0:List AV:=[.str [114,101,97,100],.int .i64 0,.int .i64 0,.str [],.sl false [.agg [.int .i64 0,.sl false [.agg [.str [105,48],.int .i64 1]] true]] true,.bool false,.int .i64 0,.sl true [] true,.sl true [] true]
abbrev mL1:List AV:=[.str [114,101,97,100],.int .i64 0,.int .i64 1,.str [],.sl false [.agg [.int .i64 0,.sl false [.agg [.str [105,48],.int .i64 1]] true]] true,.bool false,.int .i64 0,.sl true [] true,.sl true [] true]
abbrev mL2:List AV:=[.agg [.str [105,110,116],.str [],.sl false [.agg [.int .i64 0,.sl false [.agg [.str [110],.int .i64 1]] true]] true],.agg [.str [105,110,116],.str [],.sl false [.agg [.int .i64 0,.sl false [.agg [.str [110],.int .i64 1]] true]] true],.agg [.str [105,110,116],.str [],.sl false [.agg [.int .i64 0,.sl false [.agg [.str [110],.int .i64 1]] true]] true]]
abbrev mL3:List AV:=[.agg mL0,.agg mL1]
abbrev mL4:List AV:=[.int .i64 1,.int .i64 2,.sl false [.agg [.int .i64 0,.sl false [.agg [.str [110],.int .i64 1]] true]] true,.str [97,100,100],.int .i64 0,.int .i64 0,.str [],.sl true [] true,.bool false,.int .i64 0,.sl true [] true,.sl false mL3 true,.sl true [] true,.int .i64 0,.str [],.int .i64 0,.int .i64 0,.str [],.sl true [] true,.bool false,.int .i64 0,.sl true [] true,.sl true [] true,.int .i64 0]
abbrev mL5:List AV:=[.agg mL4]
abbrev mL6:List AV:=[.sl false [.str [110]] true,.sl true [] true,.int .i64 2,.sl false mL2 true,.sl false mL5 true,.sl false [.int .i64 2] true]
abbrev mL7:List AV:=[.agg mL6]
def mA0:List AV:=mL7
def mR0:AV:=.tup [.int .i64 1,.int .i64 0]
def mA1:List AV:=mL7
def mR1:AV:=.tup [.sl false [.agg [.int .i64 (-1),.int .i64 0],.agg [.int .i64 (-1),.int .i64 0],.agg [.int .i64 0,.int .i64 1]] false,.int .i64 0]
def mA2:List AV:=mL7
def mR2:AV:=.tup [.sl false [.int .i64 0] false,.int .i64 0]
def mA3:List AV:=[.agg mL6,.int .i64 (-1)]
def mR3:AV:=.tup [.sl false [.int .i64 0,.int .i64 1] false,.int .i64 0]
def mA4:List AV:=[.sl false [.agg [.int .i64 1,.sl false [.str [110]] false]] false]
def mR4:AV:=.bool true
def mA5:List AV:=[.sl false [.agg [.int .i64 0,.sl false [.agg [.str [110],.int .i64 1]] true]] true]
def mR5:AV:=.tup [.sl false [.agg [.int .i64 1,.sl false [.str [110]] false]] false,.int .i64 0]
def mA6:List AV:=[.agg [.str [],.sl false [.agg [.int .i64 0,.sl false [.agg [.str [110],.int .i64 1]] true]] true]]
def mR6:AV:=.tup [.sl false [.agg [.int .i64 1,.sl false [.str [110]] false]] false,.int .i64 0]
def mA7:List AV:=[.sl true [] true]
def mR7:AV:=.bool true
def mA8:List AV:=[.sl true [] true,.sl false [.agg [.int .i64 1,.sl false [.str [110]] false]] false]
def mR8:AV:=.tup [.sl false [.agg [.int .i64 1,.sl false [.str [110]] false]] false,.int .i64 0]
def mA9:List AV:=[.sl false [.agg [.int .i64 2,.sl false [.str [110]] false]] false]
def mR9:AV:=.bool true
def aLE:List AV:=[.sl false [.agg [.int .i64 1,.sl false [.str [110]] false]] false,.sl false [.agg [.int .i64 1,.sl false [.str [110]] false]] false]
def aLr:AV:=.tup [.sl false [.agg [.int .i64 2,.sl false [.str [110]] false]] false,.int .i64 0]
def aLD:List AV:=[.agg mL6,.int .i64 0]
def aLq:AV:=.tup [.sl false [.int .i64 0,.int .i64 1,.int .i64 2] false,.int .i64 0]
def aLC:List AV:=[.sl false [.agg [.int .i64 3,.sl false [.str [110]] false]] false]
def aLp:AV:=.bool true
def aLB:List AV:=[.sl false [.agg [.int .i64 2,.sl false [.str [110]] false]] false,.sl false [.agg [.int .i64 1,.sl false [.str [110]] false]] false]
def aLo:AV:=.tup [.sl false [.agg [.int .i64 3,.sl false [.str [110]] false]] false,.int .i64 0]
def aLA:List AV:=[.agg mL6,.int .i64 1]
def aLn:AV:=.tup [.sl false [.int .i64 2] false,.int .i64 0]
def aLz:List AV:=mL7
def aLm:AV:=.tup [.sl false [.sl false [.agg [.int .i64 2,.sl false [.str [110]] false]] false,.sl false [.agg [.int .i64 2,.sl false [.str [110]] false]] false,.sl false [.agg [.int .i64 1,.sl false [.str [110]] false]] false] false,.int .i64 0]
def aLy:List AV:=[.sl false [.agg [.int .i64 2,.sl false [.str [110]] false]] false,.sl false [.agg [.int .i64 2,.sl false [.str [110]] false]] false]
def aLl:AV:=.bool true
def aLx:List AV:=[.sl false [.agg [.int .i64 2,.sl false [.str [110]] false]] false,.sl false [.agg [.int .i64 1,.sl false [.str [110]] false]] false]
def aLk:AV:=.bool false
def aLw:List AV:=[.sl false [.agg [.int .i64 1,.sl false [.str [110]] false]] false,.sl false [.agg [.int .i64 2,.sl false [.str [110]] false]] false]
def aLj:AV:=.bool true
def aLv:List AV:=mL7
def aLi:AV:=.tup [.sl false [.sl false [.agg [.int .i64 2,.sl false [.str [110]] false]] false] false,.int .i64 0]
def aLu:List AV:=[.agg mL6,.agg [.sl false [.agg [.int .i64 0,.int .i64 5],.agg [.int .i64 5,.int .i64 5],.agg [.int .i64 6,.int .i64 5]] true,.sl false [.int .i64 (-1)] true,.int .i64 11],.sl false [.agg [.str [110],.int .i64 5]] true]
def aLh:AV:=.tup [.sl false [.agg [.int .i64 0,.int .i64 1,.int .i64 2,.int .i64 6]] false,.int .i64 0]
def aLt:List AV:=[.sl false [.agg [.int .i64 2,.sl false [.str [110]] false]] false]
def aLg:AV:=.str [50,42,110]
def aLs:List AV:=[.sl false [.agg [.int .i64 1,.sl false [.str [110]] false]] false]
def aLf:AV:=.str [110]
theorem mE0:dS (gC pgS (iY []) 400) 28 mA0=some mR0:=by kernel_rfl
def YM:HZ:=[(28,mA0,mR0)]
theorem P1:∀x∈YM,x.2.2.tree=true/\dS (cM pgS (0+400)) x.1 x.2.1=some x.2.2:=by intro x hx;simp only[YM,List.mem_cons,List.not_mem_nil,or_false]at hx;rcases hx with rfl;exact⟨by kernel_rfl,eG (m:=0) (l:=[]) (λ_ h=>by cases h) mE0⟩
theorem mE1:dS (gC pgS (iY YM) 400) 9 mA1=some mR1:=by kernel_rfl
def xX:HZ:=YM++[(9,mA1,mR1)]
theorem mY:∀x∈xX,x.2.2.tree=true/\dS (cM pgS (0+400+400)) x.1 x.2.1=some x.2.2:=by intro x hx;rcases List.mem_append.1 hx with hx|hx;obtain⟨h1,h2⟩:=P1 x hx;exact⟨h1,jG (fT pgS (by omega)) h2⟩;simp only[List.mem_cons,List.not_mem_nil,or_false]at hx;subst hx;exact⟨by kernel_rfl,eG P1 mE1⟩
theorem mE2:dS (gC pgS (iY xX) 400) 262 mA2=some mR2:=by kernel_rfl
theorem mE3:dS (gC pgS (iY xX) 400) 11 mA3=some mR3:=by kernel_rfl
theorem mE4:dS (gC pgS (iY xX) 400) 692 mA4=some mR4:=by kernel_rfl
theorem mE7:dS (gC pgS (iY xX) 400) 692 mA7=some mR7:=by kernel_rfl
theorem mE9:dS (gC pgS (iY xX) 400) 692 mA9=some mR9:=by kernel_rfl
theorem aPV:dS (gC pgS (iY xX) 400) 11 aLD=some aLq:=by kernel_rfl
theorem aPU:dS (gC pgS (iY xX) 400) 692 aLC=some aLp:=by kernel_rfl
theorem aPS:dS (gC pgS (iY xX) 400) 11 aLA=some aLn:=by kernel_rfl
def aCc:HZ:=xX++[(262,mA2,mR2),(11,mA3,mR3),(692,mA4,mR4),(692,mA7,mR7),(692,mA9,mR9),(11,aLD,aLq),(692,aLC,aLp),(11,aLA,aLn)]
theorem P0:∀x∈aCc,x.2.2.tree=true/\dS (cM pgS (0+400+400+400)) x.1 x.2.1=some x.2.2:=by intro x hx;rcases List.mem_append.1 hx with hx|hx;obtain⟨h1,h2⟩:=mY x hx;exact⟨h1,jG (fT pgS (by omega)) h2⟩;simp only[List.mem_cons,List.not_mem_nil,or_false]at hx;rcases hx with rfl|rfl|rfl|rfl|rfl|rfl|rfl|rfl;exact⟨by kernel_rfl,eG mY mE2⟩;exact⟨by kernel_rfl,eG mY mE3⟩;exact⟨by kernel_rfl,eG mY mE4⟩;exact⟨by kernel_rfl,eG mY mE7⟩;exact⟨by kernel_rfl,eG mY mE9⟩;exact⟨by kernel_rfl,eG mY aPV⟩;exact⟨by kernel_rfl,eG mY aPU⟩;exact⟨by kernel_rfl,eG mY aPS⟩
theorem mE5:dS (gC pgS (iY aCc) 400) 696 mA5=some mR5:=by kernel_rfl
def I2:HZ:=aCc++[(696,mA5,mR5)]
theorem vZ:∀x∈I2,x.2.2.tree=true/\dS (cM pgS (0+400+400+400+400)) x.1 x.2.1=some x.2.2:=by intro x hx;rcases List.mem_append.1 hx with hx|hx;obtain⟨h1,h2⟩:=P0 x hx;exact⟨h1,jG (fT pgS (by omega)) h2⟩;simp only[List.mem_cons,List.not_mem_nil,or_false]at hx;subst hx;exact⟨by kernel_rfl,eG P0 mE5⟩
theorem mE6:dS (gC pgS (iY I2) 400) 686 mA6=some mR6:=by kernel_rfl
theorem mE8:dS (gC pgS (iY I2) 400) 687 mA8=some mR8:=by kernel_rfl
theorem aPW:dS (gC pgS (iY I2) 400) 687 aLE=some aLr:=by kernel_rfl
theorem aPT:dS (gC pgS (iY I2) 400) 687 aLB=some aLo:=by kernel_rfl
def zW:HZ:=I2++[(686,mA6,mR6),(687,mA8,mR8),(687,aLE,aLr),(687,aLB,aLo)]
theorem oY:∀x∈zW,x.2.2.tree=true/\dS (cM pgS (0+400+400+400+400+400)) x.1 x.2.1=some x.2.2:=by intro x hx;rcases List.mem_append.1 hx with hx|hx;obtain⟨h1,h2⟩:=vZ x hx;exact⟨h1,jG (fT pgS (by omega)) h2⟩;simp only[List.mem_cons,List.not_mem_nil,or_false]at hx;rcases hx with rfl|rfl|rfl|rfl;exact⟨by kernel_rfl,eG vZ mE6⟩;exact⟨by kernel_rfl,eG vZ mE8⟩;exact⟨by kernel_rfl,eG vZ aPW⟩;exact⟨by kernel_rfl,eG vZ aPT⟩
theorem aPR:dS (gC pgS (iY zW) 400) 672 aLz=some aLm:=by kernel_rfl
theorem aPQ:dS (gC pgS (iY zW) 400) 675 aLy=some aLl:=by kernel_rfl
theorem aPP:dS (gC pgS (iY zW) 400) 675 aLx=some aLk:=by kernel_rfl
theorem aPO:dS (gC pgS (iY zW) 400) 675 aLw=some aLj:=by kernel_rfl
theorem aPM:dS (gC pgS (iY zW) 400) 664 aLu=some aLh:=by kernel_rfl
theorem aPL:dS (gC pgS (iY zW) 400) 674 aLt=some aLg:=by kernel_rfl
theorem aPK:dS (gC pgS (iY zW) 400) 674 aLs=some aLf:=by kernel_rfl
def aCb:HZ:=zW++[(672,aLz,aLm),(675,aLy,aLl),(675,aLx,aLk),(675,aLw,aLj),(664,aLu,aLh),(674,aLt,aLg),(674,aLs,aLf)]
theorem PZ:∀x∈aCb,x.2.2.tree=true/\dS (cM pgS (0+400+400+400+400+400+400)) x.1 x.2.1=some x.2.2:=by intro x hx;rcases List.mem_append.1 hx with hx|hx;obtain⟨h1,h2⟩:=oY x hx;exact⟨h1,jG (fT pgS (by omega)) h2⟩;simp only[List.mem_cons,List.not_mem_nil,or_false]at hx;rcases hx with rfl|rfl|rfl|rfl|rfl|rfl|rfl;exact⟨by kernel_rfl,eG oY aPR⟩;exact⟨by kernel_rfl,eG oY aPQ⟩;exact⟨by kernel_rfl,eG oY aPP⟩;exact⟨by kernel_rfl,eG oY aPO⟩;exact⟨by kernel_rfl,eG oY aPM⟩;exact⟨by kernel_rfl,eG oY aPL⟩;exact⟨by kernel_rfl,eG oY aPK⟩
theorem aPN:dS (gC pgS (iY aCb) 400) 673 aLv=some aLi:=by kernel_rfl
def aHo:HZ:=aCb++[(673,aLv,aLi)]
theorem aCa:∀x∈aHo,x.2.2.tree=true/\dS (cM pgS (0+400+400+400+400+400+400+400)) x.1 x.2.1=some x.2.2:=by intro x hx;rcases List.mem_append.1 hx with hx|hx;obtain⟨h1,h2⟩:=PZ x hx;exact⟨h1,jG (fT pgS (by omega)) h2⟩;simp only[List.mem_cons,List.not_mem_nil,or_false]at hx;subst hx;exact⟨by kernel_rfl,eG PZ aPN⟩
theorem aAZ:dS (gC pgS (iY aHo) 400) 662 []=some (.bool true):=by kernel_rfl
theorem aKd:Ret pgS 662 [] (.bool true):=⟨0+400+400+400+400+400+400+400+400,eG aCa aAZ⟩
end Go.Proofs
end
