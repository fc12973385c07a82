import Derived.Test.YtmcadllokkmeiaaGreatDoorSAS
import Derived.Test.YtmcadllokkmeiaaGreatDoorSAO
set_option linter.all false
section
set_option maxRecDepth 100000
namespace Go.Proofs
open Go.Tev
abbrev zA:=List (Nat×List AV×AV)
def fP:zA->Nat->List AV->Option AV
 |[],_,_=>none
 |(g,b,r)::l,f,a=>bif f.beq g then (bif tF a b then some r else fP l f a) else fP l f a
theorem KX{l:zA}{m:Nat}(h:∀x∈l,x.2.2.tree=true/\bW (bE pgS m) x.1 x.2.1=some x.2.2):∀f a r,fP l f a=some r->r.tree=true/\bW (bE pgS m) f a=some r:=by
 induction l with
 |nil=>intro f a r hr;cases hr
 |cons x l ih=>
  intro f a r hr
  obtain⟨g,b,q⟩:=x
  have ih':=ih (fun y hy=>h y (List.mem_cons_of_mem _ hy)) f a r
  simp only[fP]at hr
  cases h1:f.beq g with
  |false=>rw[h1]at hr;exact ih' hr
  |true=>
   rw[h1]at hr
   cases h2:tF a b with
   |false=>rw[h2]at hr;exact ih' hr
   |true=>
    rw[h2]at hr
    cases hr
    have e1:=Nat.eq_of_beq_eq_true h1
    have e2:=iI a b h2
    subst e1 e2
    exact h (f,a,r) (by simp)
theorem cH{l:zA}{m:Nat}(h:∀x∈l,x.2.2.tree=true/\bW (bE pgS m) x.1 x.2.1=some x.2.2){n f:Nat}{a:List AV}{r:AV}(hr:bW (eA pgS (fP l) n) f a=some r):bW (bE pgS (m+n)) f a=some r:=
 (uX pgS (KX h) n).at0 _ _ _ hr
abbrev mL0:List AV:=[.str [114,101,97,100],.int .i64 0,.int .i64 0,.str [],.sl false [.agg [.int .i64 0,.sl false [.agg [.str [105,48],.int .i64 1]] true]] true,.bool false,.int .i64 0,.sl true [] true,.sl true [] true]
abbrev mL1:List AV:=[.str [114,101,97,100],.int .i64 0,.int .i64 1,.str [],.sl false [.agg [.int .i64 0,.sl false [.agg [.str [105,48],.int .i64 1]] true]] true,.bool false,.int .i64 0,.sl true [] true,.sl true [] true]
abbrev mL2:List AV:=[.agg [.str [105,110,116],.str [],.sl false [.agg [.int .i64 0,.sl false [.agg [.str [110],.int .i64 1]] true]] true],.agg [.str [105,110,116],.str [],.sl false [.agg [.int .i64 0,.sl false [.agg [.str [110],.int .i64 1]] true]] true],.agg [.str [105,110,116],.str [],.sl false [.agg [.int .i64 0,.sl false [.agg [.str [110],.int .i64 1]] true]] true]]
abbrev mL3:List AV:=[.agg mL0,.agg mL1]
abbrev mL4:List AV:=[.int .i64 1,.int .i64 2,.sl false [.agg [.int .i64 0,.sl false [.agg [.str [110],.int .i64 1]] true]] true,.str [97,100,100],.int .i64 0,.int .i64 0,.str [],.sl true [] true,.bool false,.int .i64 0,.sl true [] true,.sl false mL3 true,.sl true [] true,.int .i64 0,.str [],.int .i64 0,.int .i64 0,.str [],.sl true [] true,.bool false,.int .i64 0,.sl true [] true,.sl true [] true,.int .i64 0]
abbrev mL5:List AV:=[.agg mL4]
abbrev mL6:List AV:=[.sl false [.str [110]] true,.sl true [] true,.int .i64 2,.sl false mL2 true,.sl false mL5 true,.sl false [.int .i64 2] true]
abbrev mL7:List AV:=[.agg mL6]
def mA0:List AV:=mL7
def mR0:AV:=.tup [.int .i64 1,.int .i64 0]
def mA1:List AV:=mL7
def mR1:AV:=.tup [.sl false [.agg [.int .i64 (-1),.int .i64 0],.agg [.int .i64 (-1),.int .i64 0],.agg [.int .i64 0,.int .i64 1]] false,.int .i64 0]
def mA2:List AV:=mL7
def mR2:AV:=.tup [.sl false [.int .i64 0] false,.int .i64 0]
def mA3:List AV:=[.agg mL6,.int .i64 (-1)]
def mR3:AV:=.tup [.sl false [.int .i64 0,.int .i64 1] false,.int .i64 0]
def mA4:List AV:=[.sl false [.agg [.int .i64 1,.sl false [.str [110]] false]] false]
def mR4:AV:=.bool true
def mA5:List AV:=[.sl false [.agg [.int .i64 0,.sl false [.agg [.str [110],.int .i64 1]] true]] true]
def mR5:AV:=.tup [.sl false [.agg [.int .i64 1,.sl false [.str [110]] false]] false,.int .i64 0]
def mA6:List AV:=[.agg [.str [],.sl false [.agg [.int .i64 0,.sl false [.agg [.str [110],.int .i64 1]] true]] true]]
def mR6:AV:=.tup [.sl false [.agg [.int .i64 1,.sl false [.str [110]] false]] false,.int .i64 0]
def mA7:List AV:=[.sl true [] true]
def mR7:AV:=.bool true
def mA8:List AV:=[.sl true [] true,.sl false [.agg [.int .i64 1,.sl false [.str [110]] false]] false]
def mR8:AV:=.tup [.sl false [.agg [.int .i64 1,.sl false [.str [110]] false]] false,.int .i64 0]
def mA9:List AV:=[.sl false [.agg [.int .i64 2,.sl false [.str [110]] false]] false]
def mR9:AV:=.bool true
def US:List AV:=[.sl false [.agg [.int .i64 1,.sl false [.str [110]] false]] false,.sl false [.agg [.int .i64 1,.sl false [.str [110]] false]] false]
def UF:AV:=.tup [.sl false [.agg [.int .i64 2,.sl false [.str [110]] false]] false,.int .i64 0]
def UR:List AV:=[.agg mL6,.int .i64 0]
def UE:AV:=.tup [.sl false [.int .i64 0,.int .i64 1,.int .i64 2] false,.int .i64 0]
def UQ:List AV:=[.sl false [.agg [.int .i64 3,.sl false [.str [110]] false]] false]
def UD:AV:=.bool true
def UP:List AV:=[.sl false [.agg [.int .i64 2,.sl false [.str [110]] false]] false,.sl false [.agg [.int .i64 1,.sl false [.str [110]] false]] false]
def UC:AV:=.tup [.sl false [.agg [.int .i64 3,.sl false [.str [110]] false]] false,.int .i64 0]
def UO:List AV:=[.agg mL6,.int .i64 1]
def UB:AV:=.tup [.sl false [.int .i64 2] false,.int .i64 0]
def UN:List AV:=mL7
def UA:AV:=.tup [.sl false [.sl false [.agg [.int .i64 2,.sl false [.str [110]] false]] false,.sl false [.agg [.int .i64 2,.sl false [.str [110]] false]] false,.sl false [.agg [.int .i64 1,.sl false [.str [110]] false]] false] false,.int .i64 0]
def UM:List AV:=[.sl false [.agg [.int .i64 2,.sl false [.str [110]] false]] false,.sl false [.agg [.int .i64 2,.sl false [.str [110]] false]] false]
def T9:AV:=.bool true
def UL:List AV:=[.sl false [.agg [.int .i64 2,.sl false [.str [110]] false]] false,.sl false [.agg [.int .i64 1,.sl false [.str [110]] false]] false]
def T8:AV:=.bool false
def UK:List AV:=[.sl false [.agg [.int .i64 1,.sl false [.str [110]] false]] false,.sl false [.agg [.int .i64 2,.sl false [.str [110]] false]] false]
def T7:AV:=.bool true
def UJ:List AV:=mL7
def T4:AV:=.tup [.sl false [.sl false [.agg [.int .i64 2,.sl false [.str [110]] false]] false] false,.int .i64 0]
def UI:List AV:=[.agg mL6,.agg [.sl false [.agg [.int .i64 0,.int .i64 5],.agg [.int .i64 5,.int .i64 5],.agg [.int .i64 6,.int .i64 5]] true,.sl false [.int .i64 (-1)] true,.int .i64 11],.sl false [.agg [.str [110],.int .i64 5]] true]
def TZ:AV:=.tup [.sl false [.agg [.int .i64 0,.int .i64 1,.int .i64 2,.int .i64 6]] false,.int .i64 0]
def UH:List AV:=[.sl false [.agg [.int .i64 2,.sl false [.str [110]] false]] false]
def TY:AV:=.str [50,42,110]
def UG:List AV:=[.sl false [.agg [.int .i64 1,.sl false [.str [110]] false]] false]
def TX:AV:=.str [110]
theorem mE0:bW (eA pgS (fP []) 400) 28 mA0=some mR0:=by kernel_rfl
def G4:zA:=[(28,mA0,mR0)]
theorem DC:∀x∈G4,x.2.2.tree=true/\bW (bE pgS (0+400)) x.1 x.2.1=some x.2.2:=by
 intro x hx
 simp only[G4,List.mem_cons,List.not_mem_nil,or_false]at hx
 rcases hx with rfl
 ·exact⟨by kernel_rfl,cH (m:=0) (l:=[]) (fun _ h=>by cases h) mE0⟩
theorem mE1:bW (eA pgS (fP G4) 400) 9 mA1=some mR1:=by kernel_rfl
def rC:zA:=G4++[(9,mA1,mR1)]
theorem kA:∀x∈rC,x.2.2.tree=true/\bW (bE pgS (0+400+400)) x.1 x.2.1=some x.2.2:=by
 intro x hx
 rcases List.mem_append.1 hx with hx|hx
 ·obtain⟨h1,h2⟩:=DC x hx
  exact⟨h1,fS (dZ pgS (by omega)) h2⟩
 ·simp only[List.mem_cons,List.not_mem_nil,or_false]at hx
  subst hx
  ·exact⟨by kernel_rfl,cH DC mE1⟩
theorem mE2:bW (eA pgS (fP rC) 400) 262 mA2=some mR2:=by kernel_rfl
theorem mE3:bW (eA pgS (fP rC) 400) 11 mA3=some mR3:=by kernel_rfl
theorem mE4:bW (eA pgS (fP rC) 400) 692 mA4=some mR4:=by kernel_rfl
theorem mE7:bW (eA pgS (fP rC) 400) 692 mA7=some mR7:=by kernel_rfl
theorem mE9:bW (eA pgS (fP rC) 400) 692 mA9=some mR9:=by kernel_rfl
theorem aBv:bW (eA pgS (fP rC) 400) 11 UR=some UE:=by kernel_rfl
theorem aBu:bW (eA pgS (fP rC) 400) 692 UQ=some UD:=by kernel_rfl
theorem aBs:bW (eA pgS (fP rC) 400) 11 UO=some UB:=by kernel_rfl
def K0:zA:=rC++[(262,mA2,mR2),(11,mA3,mR3),(692,mA4,mR4),(692,mA7,mR7),(692,mA9,mR9),(11,UR,UE),(692,UQ,UD),(11,UO,UB)]
theorem DB:∀x∈K0,x.2.2.tree=true/\bW (bE pgS (0+400+400+400)) x.1 x.2.1=some x.2.2:=by
 intro x hx
 rcases List.mem_append.1 hx with hx|hx
 ·obtain⟨h1,h2⟩:=kA x hx
  exact⟨h1,fS (dZ pgS (by omega)) h2⟩
 ·simp only[List.mem_cons,List.not_mem_nil,or_false]at hx
  rcases hx with rfl|rfl|rfl|rfl|rfl|rfl|rfl|rfl
  ·exact⟨by kernel_rfl,cH kA mE2⟩
  ·exact⟨by kernel_rfl,cH kA mE3⟩
  ·exact⟨by kernel_rfl,cH kA mE4⟩
  ·exact⟨by kernel_rfl,cH kA mE7⟩
  ·exact⟨by kernel_rfl,cH kA mE9⟩
  ·exact⟨by kernel_rfl,cH kA aBv⟩
  ·exact⟨by kernel_rfl,cH kA aBu⟩
  ·exact⟨by kernel_rfl,cH kA aBs⟩
theorem mE5:bW (eA pgS (fP K0) 400) 696 mA5=some mR5:=by kernel_rfl
def z6:zA:=K0++[(696,mA5,mR5)]
theorem pZ:∀x∈z6,x.2.2.tree=true/\bW (bE pgS (0+400+400+400+400)) x.1 x.2.1=some x.2.2:=by
 intro x hx
 rcases List.mem_append.1 hx with hx|hx
 ·obtain⟨h1,h2⟩:=DB x hx
  exact⟨h1,fS (dZ pgS (by omega)) h2⟩
 ·simp only[List.mem_cons,List.not_mem_nil,or_false]at hx
  subst hx
  ·exact⟨by kernel_rfl,cH DB mE5⟩
theorem mE6:bW (eA pgS (fP z6) 400) 686 mA6=some mR6:=by kernel_rfl
theorem mE8:bW (eA pgS (fP z6) 400) 687 mA8=some mR8:=by kernel_rfl
theorem aBw:bW (eA pgS (fP z6) 400) 687 US=some UF:=by kernel_rfl
theorem aBt:bW (eA pgS (fP z6) 400) 687 UP=some UC:=by kernel_rfl
def sU:zA:=z6++[(686,mA6,mR6),(687,mA8,mR8),(687,US,UF),(687,UP,UC)]
theorem lK:∀x∈sU,x.2.2.tree=true/\bW (bE pgS (0+400+400+400+400+400)) x.1 x.2.1=some x.2.2:=by
 intro x hx
 rcases List.mem_append.1 hx with hx|hx
 ·obtain⟨h1,h2⟩:=pZ x hx
  exact⟨h1,fS (dZ pgS (by omega)) h2⟩
 ·simp only[List.mem_cons,List.not_mem_nil,or_false]at hx
  rcases hx with rfl|rfl|rfl|rfl
  ·exact⟨by kernel_rfl,cH pZ mE6⟩
  ·exact⟨by kernel_rfl,cH pZ mE8⟩
  ·exact⟨by kernel_rfl,cH pZ aBw⟩
  ·exact⟨by kernel_rfl,cH pZ aBt⟩
theorem aBr:bW (eA pgS (fP sU) 400) 672 UN=some UA:=by kernel_rfl
theorem aBq:bW (eA pgS (fP sU) 400) 675 UM=some T9:=by kernel_rfl
theorem aBp:bW (eA pgS (fP sU) 400) 675 UL=some T8:=by kernel_rfl
theorem aBo:bW (eA pgS (fP sU) 400) 675 UK=some T7:=by kernel_rfl
theorem aBm:bW (eA pgS (fP sU) 400) 664 UI=some TZ:=by kernel_rfl
theorem aBl:bW (eA pgS (fP sU) 400) 674 UH=some TY:=by kernel_rfl
theorem aBk:bW (eA pgS (fP sU) 400) 674 UG=some TX:=by kernel_rfl
def KZ:zA:=sU++[(672,UN,UA),(675,UM,T9),(675,UL,T8),(675,UK,T7),(664,UI,TZ),(674,UH,TY),(674,UG,TX)]
theorem DA:∀x∈KZ,x.2.2.tree=true/\bW (bE pgS (0+400+400+400+400+400+400)) x.1 x.2.1=some x.2.2:=by
 intro x hx
 rcases List.mem_append.1 hx with hx|hx
 ·obtain⟨h1,h2⟩:=lK x hx
  exact⟨h1,fS (dZ pgS (by omega)) h2⟩
 ·simp only[List.mem_cons,List.not_mem_nil,or_false]at hx
  rcases hx with rfl|rfl|rfl|rfl|rfl|rfl|rfl
  ·exact⟨by kernel_rfl,cH lK aBr⟩
  ·exact⟨by kernel_rfl,cH lK aBq⟩
  ·exact⟨by kernel_rfl,cH lK aBp⟩
  ·exact⟨by kernel_rfl,cH lK aBo⟩
  ·exact⟨by kernel_rfl,cH lK aBm⟩
  ·exact⟨by kernel_rfl,cH lK aBl⟩
  ·exact⟨by kernel_rfl,cH lK aBk⟩
theorem aBn:bW (eA pgS (fP KZ) 400) 673 UJ=some T4:=by kernel_rfl
def PJ:zA:=KZ++[(673,UJ,T4)]
theorem KY:∀x∈PJ,x.2.2.tree=true/\bW (bE pgS (0+400+400+400+400+400+400+400)) x.1 x.2.1=some x.2.2:=by
 intro x hx
 rcases List.mem_append.1 hx with hx|hx
 ·obtain⟨h1,h2⟩:=DA x hx
  exact⟨h1,fS (dZ pgS (by omega)) h2⟩
 ·simp only[List.mem_cons,List.not_mem_nil,or_false]at hx
  subst hx
  ·exact⟨by kernel_rfl,cH DA aBn⟩
theorem JI:bW (eA pgS (fP PJ) 400) 662 []=some (.bool true):=by kernel_rfl
theorem R6:Ret pgS 662 [] (.bool true):=⟨0+400+400+400+400+400+400+400+400,cH KY JI⟩
end Go.Proofs
end
