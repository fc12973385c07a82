import Derived.Test.YtilkdbbkkcnocaaGreatDoorSAS
import Derived.Test.YtilkdbbkkcnocaaGreatDoorSAO
set_option linter.all false
section
set_option maxRecDepth 100000
namespace Go.Proofs
open Go.Tev
abbrev BX:=List (Nat×List AV×AV)
def dZ:BX->Nat->List AV->Option AV
 |[],_,_=>none
 |(g,b,r)::l,f,a=>bif f.beq g then (bif pB a b then some r else dZ l f a) else dZ l f a
theorem UF{l:BX}{m:Nat}(h:∀x∈l,x.2.2.tree=true/\bJ (aX pgS m) x.1 x.2.1=some x.2.2):∀f a r,dZ l f a=some r->r.tree=true/\bJ (aX pgS m) f a=some r:=by
 induction l with
 |nil=>intro f a r hr;cases hr
 |cons x l ih=>
  intro f a r hr;obtain⟨g,b,q⟩:=x;have ih':=ih (λy hy=>h y (List.mem_cons_of_mem _ hy)) f a r;simp only[dZ]at hr;cases h1:f.beq g with
  |false=>rw[h1]at hr;exact ih' hr
  |true=>
   rw[h1]at hr;cases h2:pB a b with
   |false=>rw[h2]at hr;exact ih' hr
   |true=>rw[h2]at hr;cases hr;have e1:=Nat.eq_of_beq_eq_true h1;have e2:=fP a b h2;subst e1 e2;exact h (f,a,r) (by simp)
theorem bF{l:BX}{m:Nat}(h:∀x∈l,x.2.2.tree=true/\bJ (aX pgS m) x.1 x.2.1=some x.2.2){n f:Nat}{a:List AV}{r:AV}(hr:bJ (cE pgS (dZ l) n) f a=some r):bJ (aX pgS (m+n)) f a=some r:=
 (SE pgS (UF h) n).at0 _ _ _ hr
abbrev mL0:List AV:=[.agg [.str [105,48],.int .i64 0,.sl true [] true,.sl false [.agg [.int .i64 0,.sl false [.agg [.str [110],.int .i64 1]] true]] true,.int .i64 1]]
abbrev mL1:List AV:=[.str [114,101,97,100],.int .i64 0,.int .i64 0,.str [],.sl false [.agg [.int .i64 0,.sl false [.agg [.str [105,48],.int .i64 1]] true]] true,.bool false,.int .i64 0,.sl true [] true,.sl true [] true]
abbrev mL2:List AV:=[.agg mL1]
abbrev mL3:List AV:=[.agg [.str [105,110,116],.str [],.sl false [.agg [.int .i64 0,.sl false [.agg [.str [110],.int .i64 1]] true]] true],.agg [.str [105,110,116],.str [],.sl false [.agg [.int .i64 0,.sl false [.agg [.str [110],.int .i64 1]] true]] true]]
abbrev mL4:List AV:=[.str [110,101,103],.int .i64 0,.int .i64 0,.str [],.sl true [] true,.bool false,.int .i64 0,.sl true [] true,.sl false mL2 true]
abbrev mL5:List AV:=[.int .i64 1,.int .i64 1,.sl false [.agg [.int .i64 0,.sl false [.agg [.str [110],.int .i64 1]] true]] true,.str [110,101,103],.int .i64 0,.int .i64 0,.str [],.sl true [] true,.bool false,.int .i64 0,.sl true [] true,.sl false mL2 true,.sl true [] true,.int .i64 0,.str [],.int .i64 0,.int .i64 0,.str [],.sl true [] true,.bool false,.int .i64 0,.sl true [] true,.sl true [] true,.int .i64 0]
abbrev mL6:List AV:=[.agg mL5]
abbrev mL7:List AV:=[.sl false mL0 false,.int .i64 1,.sl false [.agg [.int .i64 0,.sl false [.agg [.str [105,48],.int .i64 1]] true]] false,.bool false,.str [],.int .i64 0,.int .i64 0,.str [],.sl true [] true,.bool false,.int .i64 0,.sl true [] true,.sl true [] true,.int .i64 0,.str [110,101,103],.int .i64 0,.int .i64 0,.str [],.sl true [] true,.bool false,.int .i64 0,.sl true [] true,.sl false mL2 true]
abbrev mL8:List AV:=[.agg mL7,.sl false [.agg [.str [110],.int .i64 3]] true]
abbrev mL9:List AV:=[.sl false [.str [110]] true,.sl true [] true,.int .i64 1,.sl false mL3 true,.sl false mL6 true,.sl false [.int .i64 1] true]
abbrev aJv:List AV:=[.agg mL9]
abbrev aJu:List AV:=[.agg mL9,.int .i64 0]
abbrev aJt:List AV:=[.agg mL9,.agg [.sl false [.agg [.int .i64 0,.int .i64 3],.agg [.int .i64 3,.int .i64 3]] true,.sl false [.int .i64 (-1)] true,.int .i64 6],.sl false [.agg [.str [110],.int .i64 3]] true]
def mA0:List AV:=[.agg [.int .i64 0,.sl false [.agg [.str [110],.int .i64 1]] true]]
def mR0:AV:=.bool true
def mA1:List AV:=[.agg [.str [],.sl false [.agg [.int .i64 0,.sl false [.agg [.str [110],.int .i64 1]] true]] true]]
def mR1:AV:=.bool true
def mA2:List AV:=[.agg [.int .i64 0,.sl false [.agg [.str [105,48],.int .i64 1]] true]]
def mR2:AV:=.bool true
def mA3:List AV:=[.agg mL4,.sl false [.str [110],.str [105,48]] false,.int .i64 2]
def mR3:AV:=.bool true
def mA4:List AV:=aJv
def mR4:AV:=.tup [.int .i64 1,.int .i64 0]
def mA5:List AV:=aJv
def mR5:AV:=.tup [.sl false [.agg [.int .i64 (-1),.int .i64 0],.agg [.int .i64 0,.int .i64 1]] false,.int .i64 0]
def mA6:List AV:=[.agg mL9,.sl false [.agg [.str [110],.int .i64 3]] true]
def mR6:AV:=.tup [.sl false [.int .i64 3,.int .i64 3] true,.int .i64 0]
def mA7:List AV:=[.agg mL9,.int .i64 (-1)]
def mR7:AV:=.tup [.sl false [.int .i64 0] false,.int .i64 0]
def mA8:List AV:=aJu
def mR8:AV:=.tup [.sl false [.int .i64 0,.int .i64 1] false,.int .i64 0]
def mA9:List AV:=[.agg mL9,.int .i64 1]
def mR9:AV:=.tup [.sl false [.int .i64 1] false,.int .i64 0]
def aJS:List AV:=aJt
def aJs:AV:=.bool true
def aJR:List AV:=[.agg [.int .i64 0,.sl true [] true]]
def aJr:AV:=.bool true
def aJQ:List AV:=[.agg mL7,.sl false [.str [110]] true,.int .i64 2]
def aJq:AV:=.bool true
def aJP:List AV:=[.agg mL9,.int .i64 0,.bool true]
def aJp:AV:=.tup [.sl false [.agg mL7] true,.int .i64 0]
def aJO:List AV:=[.agg mL4,.sl false [.str [110],.str [105,48]] false,.int .i64 1000]
def aJo:AV:=.bool true
def aJN:List AV:=[.agg mL7,.sl false [.str [110]] false,.int .i64 1000]
def aJn:AV:=.bool true
def aJM:List AV:=mL8
def aJm:AV:=.tup [.sl false [.sl false [.int .i64 0] false,.sl false [.int .i64 1] false,.sl false [.int .i64 2] false] false,.int .i64 0]
def aJL:List AV:=[.agg mL4,.sl false [.agg [.str [110],.int .i64 3],.agg [.str [105,48],.int .i64 0]] false]
def aJl:AV:=.tup [.agg [.int .i64 1,.int .i64 0,.int .i64 1,.int .i64 0],.int .i64 0]
def aJK:List AV:=[.agg mL4,.sl false [.agg [.str [110],.int .i64 3],.agg [.str [105,48],.int .i64 1]] false]
def aJk:AV:=.tup [.agg [.int .i64 1,.int .i64 0,.int .i64 1,.int .i64 0],.int .i64 0]
def aJJ:List AV:=[.agg mL4,.sl false [.agg [.str [110],.int .i64 3],.agg [.str [105,48],.int .i64 2]] false]
def aJj:AV:=.tup [.agg [.int .i64 1,.int .i64 0,.int .i64 1,.int .i64 0],.int .i64 0]
def aJI:List AV:=mL8
def aJi:AV:=.tup [.agg [.int .i64 3,.int .i64 3,.int .i64 3,.int .i64 0],.int .i64 0]
def aJH:List AV:=aJt
def aJh:AV:=.tup [.agg [.int .i64 3,.int .i64 3,.int .i64 3,.int .i64 6],.int .i64 0]
def aJG:List AV:=[.sl true [] true]
def aJg:AV:=.bool true
def aJF:List AV:=[.int .i64 0]
def aJf:AV:=.tup [.sl true [] true,.int .i64 0]
def aJE:List AV:=[.sl false [.agg [.int .i64 1,.sl true [] true]] false]
def aJe:AV:=.bool true
def aJD:List AV:=[.int .i64 1]
def aJd:AV:=.tup [.sl false [.agg [.int .i64 1,.sl true [] true]] false,.int .i64 0]
def aJC:List AV:=[.sl true [] true,.sl false [.agg [.int .i64 1,.sl true [] true]] false]
def aJc:AV:=.tup [.sl false [.agg [.int .i64 1,.sl true [] true]] false,.int .i64 0]
def aJB:List AV:=[.sl true [] true,.sl true [] true]
def aJb:AV:=.tup [.sl true [] true,.int .i64 0]
def aJA:List AV:=[.sl false [.agg [.int .i64 1,.sl true [] true]] false,.sl true [] true]
def aJa:AV:=.tup [.sl false [.agg [.int .i64 1,.sl true [] true]] false,.int .i64 0]
def aJz:List AV:=[.sl false [.agg [.int .i64 1,.sl false [.str [110]] false]] false]
def aIZ:AV:=.bool true
def aJy:List AV:=[.sl false [.agg [.int .i64 0,.sl false [.agg [.str [110],.int .i64 1]] true]] true]
def aIY:AV:=.tup [.sl false [.agg [.int .i64 1,.sl false [.str [110]] false]] false,.int .i64 0]
def aJx:List AV:=[.sl false [.agg [.int .i64 1,.sl true [] true]] false,.sl false [.agg [.int .i64 1,.sl false [.str [110]] false]] false]
def aIX:AV:=.tup [.sl false [.agg [.int .i64 1,.sl false [.str [110]] false]] false,.int .i64 0]
def aJw:List AV:=aJu
def aIW:AV:=.tup [.sl false [.agg [.int .i64 1,.sl false [.str [110]] false]] false,.sl false [.agg [.int .i64 1,.sl false [.str [110]] false]] false,.sl false [.agg [.int .i64 1,.sl false [.str [110]] false]] false,.int .i64 0]
theorem mE0:bJ (cE pgS (dZ []) 400) 51 mA0=some mR0:=by kernel_rfl
theorem mE2:bJ (cE pgS (dZ []) 400) 51 mA2=some mR2:=by kernel_rfl
theorem aQF:bJ (cE pgS (dZ []) 400) 51 aJR=some aJr:=by kernel_rfl
def CP:BX:=[(51,mA0,mR0),(51,mA2,mR2),(51,aJR,aJr)]
theorem tW:∀x∈CP,x.2.2.tree=true/\bJ (aX pgS (0+400)) x.1 x.2.1=some x.2.2:=by intro x hx;simp only[CP,List.mem_cons,List.not_mem_nil,or_false]at hx;rcases hx with rfl|rfl|rfl;exact⟨by kernel_rfl,bF (m:=0) (l:=[]) (λ_ h=>by cases h) mE0⟩;exact⟨by kernel_rfl,bF (m:=0) (l:=[]) (λ_ h=>by cases h) mE2⟩;exact⟨by kernel_rfl,bF (m:=0) (l:=[]) (λ_ h=>by cases h) aQF⟩
theorem mE1:bJ (cE pgS (dZ CP) 400) 139 mA1=some mR1:=by kernel_rfl
theorem mE3:bJ (cE pgS (dZ CP) 400) 109 mA3=some mR3:=by kernel_rfl
theorem aQC:bJ (cE pgS (dZ CP) 400) 109 aJO=some aJo:=by kernel_rfl
def I4:BX:=CP++[(139,mA1,mR1),(109,mA3,mR3),(109,aJO,aJo)]
theorem tU:∀x∈I4,x.2.2.tree=true/\bJ (aX pgS (0+400+400)) x.1 x.2.1=some x.2.2:=by intro x hx;rcases List.mem_append.1 hx with hx|hx;obtain⟨h1,h2⟩:=tW x hx;exact⟨h1,fQ (d7 pgS (by omega)) h2⟩;simp only[List.mem_cons,List.not_mem_nil,or_false]at hx;rcases hx with rfl|rfl|rfl;exact⟨by kernel_rfl,bF tW mE1⟩;exact⟨by kernel_rfl,bF tW mE3⟩;exact⟨by kernel_rfl,bF tW aQC⟩
theorem mE4:bJ (cE pgS (dZ I4) 400) 28 mA4=some mR4:=by kernel_rfl
theorem aQE:bJ (cE pgS (dZ I4) 400) 557 aJQ=some aJq:=by kernel_rfl
theorem aQB:bJ (cE pgS (dZ I4) 400) 557 aJN=some aJn:=by kernel_rfl
def pX:BX:=I4++[(28,mA4,mR4),(557,aJQ,aJq),(557,aJN,aJn)]
theorem i6:∀x∈pX,x.2.2.tree=true/\bJ (aX pgS (0+400+400+400)) x.1 x.2.1=some x.2.2:=by intro x hx;rcases List.mem_append.1 hx with hx|hx;obtain⟨h1,h2⟩:=tU x hx;exact⟨h1,fQ (d7 pgS (by omega)) h2⟩;simp only[List.mem_cons,List.not_mem_nil,or_false]at hx;rcases hx with rfl|rfl|rfl;exact⟨by kernel_rfl,bF tU mE4⟩;exact⟨by kernel_rfl,bF tU aQE⟩;exact⟨by kernel_rfl,bF tU aQB⟩
theorem mE5:bJ (cE pgS (dZ pX) 400) 9 mA5=some mR5:=by kernel_rfl
theorem aQD:bJ (cE pgS (dZ pX) 400) 560 aJP=some aJp:=by kernel_rfl
theorem aQA:bJ (cE pgS (dZ pX) 400) 563 aJM=some aJm:=by kernel_rfl
theorem aQz:bJ (cE pgS (dZ pX) 400) 972 aJL=some aJl:=by kernel_rfl
theorem aQy:bJ (cE pgS (dZ pX) 400) 972 aJK=some aJk:=by kernel_rfl
theorem aQx:bJ (cE pgS (dZ pX) 400) 972 aJJ=some aJj:=by kernel_rfl
theorem aQu:bJ (cE pgS (dZ pX) 400) 692 aJG=some aJg:=by kernel_rfl
theorem aQs:bJ (cE pgS (dZ pX) 400) 692 aJE=some aJe:=by kernel_rfl
theorem aQn:bJ (cE pgS (dZ pX) 400) 692 aJz=some aIZ:=by kernel_rfl
def nW:BX:=pX++[(9,mA5,mR5),(560,aJP,aJp),(563,aJM,aJm),(972,aJL,aJl),(972,aJK,aJk),(972,aJJ,aJj),(692,aJG,aJg),(692,aJE,aJe),(692,aJz,aIZ)]
theorem gQ:∀x∈nW,x.2.2.tree=true/\bJ (aX pgS (0+400+400+400+400)) x.1 x.2.1=some x.2.2:=by intro x hx;rcases List.mem_append.1 hx with hx|hx;obtain⟨h1,h2⟩:=i6 x hx;exact⟨h1,fQ (d7 pgS (by omega)) h2⟩;simp only[List.mem_cons,List.not_mem_nil,or_false]at hx;rcases hx with rfl|rfl|rfl|rfl|rfl|rfl|rfl|rfl|rfl;exact⟨by kernel_rfl,bF i6 mE5⟩;exact⟨by kernel_rfl,bF i6 aQD⟩;exact⟨by kernel_rfl,bF i6 aQA⟩;exact⟨by kernel_rfl,bF i6 aQz⟩;exact⟨by kernel_rfl,bF i6 aQy⟩;exact⟨by kernel_rfl,bF i6 aQx⟩;exact⟨by kernel_rfl,bF i6 aQu⟩;exact⟨by kernel_rfl,bF i6 aQs⟩;exact⟨by kernel_rfl,bF i6 aQn⟩
theorem mE6:bJ (cE pgS (dZ nW) 400) 16 mA6=some mR6:=by kernel_rfl
theorem mE7:bJ (cE pgS (dZ nW) 400) 11 mA7=some mR7:=by kernel_rfl
theorem mE8:bJ (cE pgS (dZ nW) 400) 11 mA8=some mR8:=by kernel_rfl
theorem mE9:bJ (cE pgS (dZ nW) 400) 11 mA9=some mR9:=by kernel_rfl
theorem aQw:bJ (cE pgS (dZ nW) 400) 985 aJI=some aJi:=by kernel_rfl
theorem aQt:bJ (cE pgS (dZ nW) 400) 1006 aJF=some aJf:=by kernel_rfl
theorem aQr:bJ (cE pgS (dZ nW) 400) 1006 aJD=some aJd:=by kernel_rfl
theorem aQq:bJ (cE pgS (dZ nW) 400) 687 aJC=some aJc:=by kernel_rfl
theorem aQp:bJ (cE pgS (dZ nW) 400) 687 aJB=some aJb:=by kernel_rfl
theorem aQo:bJ (cE pgS (dZ nW) 400) 687 aJA=some aJa:=by kernel_rfl
theorem aQl:bJ (cE pgS (dZ nW) 400) 1005 aJx=some aIX:=by kernel_rfl
def OY:BX:=nW++[(16,mA6,mR6),(11,mA7,mR7),(11,mA8,mR8),(11,mA9,mR9),(985,aJI,aJi),(1006,aJF,aJf),(1006,aJD,aJd),(687,aJC,aJc),(687,aJB,aJb),(687,aJA,aJa),(1005,aJx,aIX)]
theorem zQ:∀x∈OY,x.2.2.tree=true/\bJ (aX pgS (0+400+400+400+400+400)) x.1 x.2.1=some x.2.2:=by intro x hx;rcases List.mem_append.1 hx with hx|hx;obtain⟨h1,h2⟩:=gQ x hx;exact⟨h1,fQ (d7 pgS (by omega)) h2⟩;simp only[List.mem_cons,List.not_mem_nil,or_false]at hx;rcases hx with rfl|rfl|rfl|rfl|rfl|rfl|rfl|rfl|rfl|rfl|rfl;exact⟨by kernel_rfl,bF gQ mE6⟩;exact⟨by kernel_rfl,bF gQ mE7⟩;exact⟨by kernel_rfl,bF gQ mE8⟩;exact⟨by kernel_rfl,bF gQ mE9⟩;exact⟨by kernel_rfl,bF gQ aQw⟩;exact⟨by kernel_rfl,bF gQ aQt⟩;exact⟨by kernel_rfl,bF gQ aQr⟩;exact⟨by kernel_rfl,bF gQ aQq⟩;exact⟨by kernel_rfl,bF gQ aQp⟩;exact⟨by kernel_rfl,bF gQ aQo⟩;exact⟨by kernel_rfl,bF gQ aQl⟩
theorem aQG:bJ (cE pgS (dZ OY) 400) 618 aJS=some aJs:=by kernel_rfl
theorem aQm:bJ (cE pgS (dZ OY) 400) 696 aJy=some aIY:=by kernel_rfl
def OX:BX:=OY++[(618,aJS,aJs),(696,aJy,aIY)]
theorem zP:∀x∈OX,x.2.2.tree=true/\bJ (aX pgS (0+400+400+400+400+400+400)) x.1 x.2.1=some x.2.2:=by intro x hx;rcases List.mem_append.1 hx with hx|hx;obtain⟨h1,h2⟩:=zQ x hx;exact⟨h1,fQ (d7 pgS (by omega)) h2⟩;simp only[List.mem_cons,List.not_mem_nil,or_false]at hx;rcases hx with rfl|rfl;exact⟨by kernel_rfl,bF zQ aQG⟩;exact⟨by kernel_rfl,bF zQ aQm⟩
theorem aQv:bJ (cE pgS (dZ OX) 400) 975 aJH=some aJh:=by kernel_rfl
theorem aQk:bJ (cE pgS (dZ OX) 400) 976 aJw=some aIW:=by kernel_rfl
def aCi:BX:=OX++[(975,aJH,aJh),(976,aJw,aIW)]
theorem UG:∀x∈aCi,x.2.2.tree=true/\bJ (aX pgS (0+400+400+400+400+400+400+400)) x.1 x.2.1=some x.2.2:=by intro x hx;rcases List.mem_append.1 hx with hx|hx;obtain⟨h1,h2⟩:=zP x hx;exact⟨h1,fQ (d7 pgS (by omega)) h2⟩;simp only[List.mem_cons,List.not_mem_nil,or_false]at hx;rcases hx with rfl|rfl;exact⟨by kernel_rfl,bF zP aQv⟩;exact⟨by kernel_rfl,bF zP aQk⟩
theorem SJ:bJ (cE pgS (dZ aCi) 400) 968 []=some (.bool true):=by kernel_rfl
theorem aHq:Ret pgS 968 [] (.bool true):=⟨0+400+400+400+400+400+400+400+400,bF UG SJ⟩
end Go.Proofs
end
