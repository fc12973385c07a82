import Derived.Test.YtdegpppbhhjlhaaGreatDoorCAS
import Derived.Test.YtdegpppbhhjlhaaGreatDoorCAO
set_option linter.all false
section
set_option maxRecDepth 100000
namespace Go.Proofs
open Go.Tev
abbrev B2:=List (Nat×List AV×AV)
def dU:B2->Nat->List AV->Option AV
 |[],_,_=>none
 |(g,b,r)::l,f,a=>bif f.beq g then (bif pJ a b then some r else dU l f a) else dU l f a
theorem TS{l:B2}{m:Nat}(h:∀x∈l,x.2.2.tree=true/\bJ (aZ pgS m) x.1 x.2.1=some x.2.2):∀f a r,dU l f a=some r->r.tree=true/\bJ (aZ pgS m) f a=some r:=by
 induction l with
 |nil=>intro f a r hr;cases hr
 |cons x l ih=>
  intro f a r hr;obtain⟨g,b,q⟩:=x;have ih':=ih (λy hy=>h y (List.mem_cons_of_mem _ hy)) f a r;simp only[dU]at hr;cases h1:f.beq g with
  |false=>rw[h1]at hr;exact ih' hr
  |true=>
   rw[h1]at hr;cases h2:pJ a b with
   |false=>rw[h2]at hr;exact ih' hr
   |true=>rw[h2]at hr;cases hr;have e1:=Nat.eq_of_beq_eq_true h1;have e2:=fQ a b h2;subst e1 e2;exact h (f,a,r) (by simp)
theorem bF{l:B2}{m:Nat}(h:∀x∈l,x.2.2.tree=true/\bJ (aZ pgS m) x.1 x.2.1=some x.2.2){n f:Nat}{a:List AV}{r:AV}(hr:bJ (cM pgS (dU l) n) f a=some r):bJ (aZ pgS (m+n)) f a=some r:=
 (RW pgS (TS h) n).at0 _ _ _ hr
abbrev mL0:List AV:=[.agg [.str [105,48],.int .i64 0,.sl true [] true,.sl false [.agg [.int .i64 0,.sl false [.agg [.str [110],.int .i64 1]] true]] true,.int .i64 1]]
abbrev mL1:List AV:=[.str [114,101,97,100],.int .i64 0,.int .i64 0,.str [],.sl false [.agg [.int .i64 0,.sl false [.agg [.str [105,48],.int .i64 1]] true]] true,.bool false,.int .i64 0,.sl true [] true,.sl true [] true]
abbrev mL2:List AV:=[.agg mL1]
abbrev mL3:List AV:=[.agg [.str [105,110,116],.str [],.sl false [.agg [.int .i64 0,.sl false [.agg [.str [110],.int .i64 1]] true]] true],.agg [.str [105,110,116],.str [],.sl false [.agg [.int .i64 0,.sl false [.agg [.str [110],.int .i64 1]] true]] true]]
abbrev mL4:List AV:=[.str [110,101,103],.int .i64 0,.int .i64 0,.str [],.sl true [] true,.bool false,.int .i64 0,.sl true [] true,.sl false mL2 true]
abbrev mL5:List AV:=[.int .i64 1,.int .i64 1,.sl false [.agg [.int .i64 0,.sl false [.agg [.str [110],.int .i64 1]] true]] true,.str [110,101,103],.int .i64 0,.int .i64 0,.str [],.sl true [] true,.bool false,.int .i64 0,.sl true [] true,.sl false mL2 true,.sl true [] true,.int .i64 0,.str [],.int .i64 0,.int .i64 0,.str [],.sl true [] true,.bool false,.int .i64 0,.sl true [] true,.sl true [] true,.int .i64 0]
abbrev mL6:List AV:=[.agg mL5]
abbrev mL7:List AV:=[.sl false mL0 false,.int .i64 1,.sl false [.agg [.int .i64 0,.sl false [.agg [.str [105,48],.int .i64 1]] true]] false,.bool false,.str [],.int .i64 0,.int .i64 0,.str [],.sl true [] true,.bool false,.int .i64 0,.sl true [] true,.sl true [] true,.int .i64 0,.str [110,101,103],.int .i64 0,.int .i64 0,.str [],.sl true [] true,.bool false,.int .i64 0,.sl true [] true,.sl false mL2 true]
abbrev mL8:List AV:=[.agg mL7,.sl false [.agg [.str [110],.int .i64 3]] true]
abbrev mL9:List AV:=[.sl false [.str [110]] true,.sl true [] true,.int .i64 1,.sl false mL3 true,.sl false mL6 true,.sl false [.int .i64 1] true]
abbrev aIO:List AV:=[.agg mL9]
abbrev aIN:List AV:=[.agg mL9,.int .i64 0]
abbrev aIM:List AV:=[.agg mL9,.agg [.sl false [.agg [.int .i64 0,.int .i64 3],.agg [.int .i64 3,.int .i64 3]] true,.sl false [.int .i64 (-1)] true,.int .i64 6],.sl false [.agg [.str [110],.int .i64 3]] true]
def mA0:List AV:=[.agg [.int .i64 0,.sl false [.agg [.str [110],.int .i64 1]] true]]
def mR0:AV:=.bool true
def mA1:List AV:=[.agg [.str [],.sl false [.agg [.int .i64 0,.sl false [.agg [.str [110],.int .i64 1]] true]] true]]
def mR1:AV:=.bool true
def mA2:List AV:=[.agg [.int .i64 0,.sl false [.agg [.str [105,48],.int .i64 1]] true]]
def mR2:AV:=.bool true
def mA3:List AV:=[.agg mL4,.sl false [.str [110],.str [105,48]] false,.int .i64 2]
def mR3:AV:=.bool true
def mA4:List AV:=aIO
def mR4:AV:=.tup [.int .i64 1,.int .i64 0]
def mA5:List AV:=aIO
def mR5:AV:=.tup [.sl false [.agg [.int .i64 (-1),.int .i64 0],.agg [.int .i64 0,.int .i64 1]] false,.int .i64 0]
def mA6:List AV:=[.agg mL9,.sl false [.agg [.str [110],.int .i64 3]] true]
def mR6:AV:=.tup [.sl false [.int .i64 3,.int .i64 3] true,.int .i64 0]
def mA7:List AV:=[.agg mL9,.int .i64 (-1)]
def mR7:AV:=.tup [.sl false [.int .i64 0] false,.int .i64 0]
def mA8:List AV:=aIN
def mR8:AV:=.tup [.sl false [.int .i64 0,.int .i64 1] false,.int .i64 0]
def mA9:List AV:=[.agg mL9,.int .i64 1]
def mR9:AV:=.tup [.sl false [.int .i64 1] false,.int .i64 0]
def aJl:List AV:=aIM
def aIL:AV:=.bool true
def aJk:List AV:=[.agg [.int .i64 0,.sl true [] true]]
def aIK:AV:=.bool true
def aJj:List AV:=[.agg mL7,.sl false [.str [110]] true,.int .i64 2]
def aIJ:AV:=.bool true
def aJi:List AV:=[.agg mL9,.int .i64 0,.bool true]
def aII:AV:=.tup [.sl false [.agg mL7] true,.int .i64 0]
def aJh:List AV:=[.agg mL4,.sl false [.str [110],.str [105,48]] false,.int .i64 1000]
def aIH:AV:=.bool true
def aJg:List AV:=[.agg mL7,.sl false [.str [110]] false,.int .i64 1000]
def aIG:AV:=.bool true
def aJf:List AV:=mL8
def aIF:AV:=.tup [.sl false [.sl false [.int .i64 0] false,.sl false [.int .i64 1] false,.sl false [.int .i64 2] false] false,.int .i64 0]
def aJe:List AV:=[.agg mL4,.sl false [.agg [.str [110],.int .i64 3],.agg [.str [105,48],.int .i64 0]] false]
def aIE:AV:=.tup [.agg [.int .i64 1,.int .i64 0,.int .i64 1,.int .i64 0],.int .i64 0]
def aJd:List AV:=[.agg mL4,.sl false [.agg [.str [110],.int .i64 3],.agg [.str [105,48],.int .i64 1]] false]
def aID:AV:=.tup [.agg [.int .i64 1,.int .i64 0,.int .i64 1,.int .i64 0],.int .i64 0]
def aJc:List AV:=[.agg mL4,.sl false [.agg [.str [110],.int .i64 3],.agg [.str [105,48],.int .i64 2]] false]
def aIC:AV:=.tup [.agg [.int .i64 1,.int .i64 0,.int .i64 1,.int .i64 0],.int .i64 0]
def aJb:List AV:=mL8
def aIB:AV:=.tup [.agg [.int .i64 3,.int .i64 3,.int .i64 3,.int .i64 0],.int .i64 0]
def aJa:List AV:=aIM
def aIA:AV:=.tup [.agg [.int .i64 3,.int .i64 3,.int .i64 3,.int .i64 6],.int .i64 0]
def aIZ:List AV:=[.sl true [] true]
def aIz:AV:=.bool true
def aIY:List AV:=[.int .i64 0]
def aIy:AV:=.tup [.sl true [] true,.int .i64 0]
def aIX:List AV:=[.sl false [.agg [.int .i64 1,.sl true [] true]] false]
def aIx:AV:=.bool true
def aIW:List AV:=[.int .i64 1]
def aIw:AV:=.tup [.sl false [.agg [.int .i64 1,.sl true [] true]] false,.int .i64 0]
def aIV:List AV:=[.sl true [] true,.sl false [.agg [.int .i64 1,.sl true [] true]] false]
def aIv:AV:=.tup [.sl false [.agg [.int .i64 1,.sl true [] true]] false,.int .i64 0]
def aIU:List AV:=[.sl true [] true,.sl true [] true]
def aIu:AV:=.tup [.sl true [] true,.int .i64 0]
def aIT:List AV:=[.sl false [.agg [.int .i64 1,.sl true [] true]] false,.sl true [] true]
def aIt:AV:=.tup [.sl false [.agg [.int .i64 1,.sl true [] true]] false,.int .i64 0]
def aIS:List AV:=[.sl false [.agg [.int .i64 1,.sl false [.str [110]] false]] false]
def aIs:AV:=.bool true
def aIR:List AV:=[.sl false [.agg [.int .i64 0,.sl false [.agg [.str [110],.int .i64 1]] true]] true]
def aIr:AV:=.tup [.sl false [.agg [.int .i64 1,.sl false [.str [110]] false]] false,.int .i64 0]
def aIQ:List AV:=[.sl false [.agg [.int .i64 1,.sl true [] true]] false,.sl false [.agg [.int .i64 1,.sl false [.str [110]] false]] false]
def aIq:AV:=.tup [.sl false [.agg [.int .i64 1,.sl false [.str [110]] false]] false,.int .i64 0]
def aIP:List AV:=aIN
def aIp:AV:=.tup [.sl false [.agg [.int .i64 1,.sl false [.str [110]] false]] false,.sl false [.agg [.int .i64 1,.sl false [.str [110]] false]] false,.sl false [.agg [.int .i64 1,.sl false [.str [110]] false]] false,.int .i64 0]
theorem mE0:bJ (cM pgS (dU []) 400) 51 mA0=some mR0:=by kernel_rfl
theorem mE2:bJ (cM pgS (dU []) 400) 51 mA2=some mR2:=by kernel_rfl
theorem aQc:bJ (cM pgS (dU []) 400) 51 aJk=some aIK:=by kernel_rfl
def CP:B2:=[(51,mA0,mR0),(51,mA2,mR2),(51,aJk,aIK)]
theorem tX:∀x∈CP,x.2.2.tree=true/\bJ (aZ pgS (0+400)) x.1 x.2.1=some x.2.2:=by intro x hx;simp only[CP,List.mem_cons,List.not_mem_nil,or_false]at hx;rcases hx with rfl|rfl|rfl;exact⟨by kernel_rfl,bF (m:=0) (l:=[]) (λ_ h=>by cases h) mE0⟩;exact⟨by kernel_rfl,bF (m:=0) (l:=[]) (λ_ h=>by cases h) mE2⟩;exact⟨by kernel_rfl,bF (m:=0) (l:=[]) (λ_ h=>by cases h) aQc⟩
theorem mE1:bJ (cM pgS (dU CP) 400) 139 mA1=some mR1:=by kernel_rfl
theorem mE3:bJ (cM pgS (dU CP) 400) 109 mA3=some mR3:=by kernel_rfl
theorem aPZ:bJ (cM pgS (dU CP) 400) 109 aJh=some aIH:=by kernel_rfl
def I2:B2:=CP++[(139,mA1,mR1),(109,mA3,mR3),(109,aJh,aIH)]
theorem tW:∀x∈I2,x.2.2.tree=true/\bJ (aZ pgS (0+400+400)) x.1 x.2.1=some x.2.2:=by intro x hx;rcases List.mem_append.1 hx with hx|hx;obtain⟨h1,h2⟩:=tX x hx;exact⟨h1,fR (dY pgS (by omega)) h2⟩;simp only[List.mem_cons,List.not_mem_nil,or_false]at hx;rcases hx with rfl|rfl|rfl;exact⟨by kernel_rfl,bF tX mE1⟩;exact⟨by kernel_rfl,bF tX mE3⟩;exact⟨by kernel_rfl,bF tX aPZ⟩
theorem mE4:bJ (cM pgS (dU I2) 400) 28 mA4=some mR4:=by kernel_rfl
theorem aQb:bJ (cM pgS (dU I2) 400) 557 aJj=some aIJ:=by kernel_rfl
theorem aPY:bJ (cM pgS (dU I2) 400) 557 aJg=some aIG:=by kernel_rfl
def qE:B2:=I2++[(28,mA4,mR4),(557,aJj,aIJ),(557,aJg,aIG)]
theorem jH:∀x∈qE,x.2.2.tree=true/\bJ (aZ pgS (0+400+400+400)) x.1 x.2.1=some x.2.2:=by intro x hx;rcases List.mem_append.1 hx with hx|hx;obtain⟨h1,h2⟩:=tW x hx;exact⟨h1,fR (dY pgS (by omega)) h2⟩;simp only[List.mem_cons,List.not_mem_nil,or_false]at hx;rcases hx with rfl|rfl|rfl;exact⟨by kernel_rfl,bF tW mE4⟩;exact⟨by kernel_rfl,bF tW aQb⟩;exact⟨by kernel_rfl,bF tW aPY⟩
theorem mE5:bJ (cM pgS (dU qE) 400) 9 mA5=some mR5:=by kernel_rfl
theorem aQa:bJ (cM pgS (dU qE) 400) 560 aJi=some aII:=by kernel_rfl
theorem aPX:bJ (cM pgS (dU qE) 400) 563 aJf=some aIF:=by kernel_rfl
theorem aPW:bJ (cM pgS (dU qE) 400) 972 aJe=some aIE:=by kernel_rfl
theorem aPV:bJ (cM pgS (dU qE) 400) 972 aJd=some aID:=by kernel_rfl
theorem aPU:bJ (cM pgS (dU qE) 400) 972 aJc=some aIC:=by kernel_rfl
theorem aPR:bJ (cM pgS (dU qE) 400) 692 aIZ=some aIz:=by kernel_rfl
theorem aPP:bJ (cM pgS (dU qE) 400) 692 aIX=some aIx:=by kernel_rfl
theorem aPK:bJ (cM pgS (dU qE) 400) 692 aIS=some aIs:=by kernel_rfl
def oD:B2:=qE++[(9,mA5,mR5),(560,aJi,aII),(563,aJf,aIF),(972,aJe,aIE),(972,aJd,aID),(972,aJc,aIC),(692,aIZ,aIz),(692,aIX,aIx),(692,aIS,aIs)]
theorem gT:∀x∈oD,x.2.2.tree=true/\bJ (aZ pgS (0+400+400+400+400)) x.1 x.2.1=some x.2.2:=by intro x hx;rcases List.mem_append.1 hx with hx|hx;obtain⟨h1,h2⟩:=jH x hx;exact⟨h1,fR (dY pgS (by omega)) h2⟩;simp only[List.mem_cons,List.not_mem_nil,or_false]at hx;rcases hx with rfl|rfl|rfl|rfl|rfl|rfl|rfl|rfl|rfl;exact⟨by kernel_rfl,bF jH mE5⟩;exact⟨by kernel_rfl,bF jH aQa⟩;exact⟨by kernel_rfl,bF jH aPX⟩;exact⟨by kernel_rfl,bF jH aPW⟩;exact⟨by kernel_rfl,bF jH aPV⟩;exact⟨by kernel_rfl,bF jH aPU⟩;exact⟨by kernel_rfl,bF jH aPR⟩;exact⟨by kernel_rfl,bF jH aPP⟩;exact⟨by kernel_rfl,bF jH aPK⟩
theorem mE6:bJ (cM pgS (dU oD) 400) 16 mA6=some mR6:=by kernel_rfl
theorem mE7:bJ (cM pgS (dU oD) 400) 11 mA7=some mR7:=by kernel_rfl
theorem mE8:bJ (cM pgS (dU oD) 400) 11 mA8=some mR8:=by kernel_rfl
theorem mE9:bJ (cM pgS (dU oD) 400) 11 mA9=some mR9:=by kernel_rfl
theorem aPT:bJ (cM pgS (dU oD) 400) 985 aJb=some aIB:=by kernel_rfl
theorem aPQ:bJ (cM pgS (dU oD) 400) 1006 aIY=some aIy:=by kernel_rfl
theorem aPO:bJ (cM pgS (dU oD) 400) 1006 aIW=some aIw:=by kernel_rfl
theorem aPN:bJ (cM pgS (dU oD) 400) 687 aIV=some aIv:=by kernel_rfl
theorem aPM:bJ (cM pgS (dU oD) 400) 687 aIU=some aIu:=by kernel_rfl
theorem aPL:bJ (cM pgS (dU oD) 400) 687 aIT=some aIt:=by kernel_rfl
theorem aPI:bJ (cM pgS (dU oD) 400) 1005 aIQ=some aIq:=by kernel_rfl
def OT:B2:=oD++[(16,mA6,mR6),(11,mA7,mR7),(11,mA8,mR8),(11,mA9,mR9),(985,aJb,aIB),(1006,aIY,aIy),(1006,aIW,aIw),(687,aIV,aIv),(687,aIU,aIu),(687,aIT,aIt),(1005,aIQ,aIq)]
theorem zR:∀x∈OT,x.2.2.tree=true/\bJ (aZ pgS (0+400+400+400+400+400)) x.1 x.2.1=some x.2.2:=by intro x hx;rcases List.mem_append.1 hx with hx|hx;obtain⟨h1,h2⟩:=gT x hx;exact⟨h1,fR (dY pgS (by omega)) h2⟩;simp only[List.mem_cons,List.not_mem_nil,or_false]at hx;rcases hx with rfl|rfl|rfl|rfl|rfl|rfl|rfl|rfl|rfl|rfl|rfl;exact⟨by kernel_rfl,bF gT mE6⟩;exact⟨by kernel_rfl,bF gT mE7⟩;exact⟨by kernel_rfl,bF gT mE8⟩;exact⟨by kernel_rfl,bF gT mE9⟩;exact⟨by kernel_rfl,bF gT aPT⟩;exact⟨by kernel_rfl,bF gT aPQ⟩;exact⟨by kernel_rfl,bF gT aPO⟩;exact⟨by kernel_rfl,bF gT aPN⟩;exact⟨by kernel_rfl,bF gT aPM⟩;exact⟨by kernel_rfl,bF gT aPL⟩;exact⟨by kernel_rfl,bF gT aPI⟩
theorem aQd:bJ (cM pgS (dU OT) 400) 618 aJl=some aIL:=by kernel_rfl
theorem aPJ:bJ (cM pgS (dU OT) 400) 696 aIR=some aIr:=by kernel_rfl
def OS:B2:=OT++[(618,aJl,aIL),(696,aIR,aIr)]
theorem zQ:∀x∈OS,x.2.2.tree=true/\bJ (aZ pgS (0+400+400+400+400+400+400)) x.1 x.2.1=some x.2.2:=by intro x hx;rcases List.mem_append.1 hx with hx|hx;obtain⟨h1,h2⟩:=zR x hx;exact⟨h1,fR (dY pgS (by omega)) h2⟩;simp only[List.mem_cons,List.not_mem_nil,or_false]at hx;rcases hx with rfl|rfl;exact⟨by kernel_rfl,bF zR aQd⟩;exact⟨by kernel_rfl,bF zR aPJ⟩
theorem aPS:bJ (cM pgS (dU OS) 400) 975 aJa=some aIA:=by kernel_rfl
theorem aPH:bJ (cM pgS (dU OS) 400) 976 aIP=some aIp:=by kernel_rfl
def aBA:B2:=OS++[(975,aJa,aIA),(976,aIP,aIp)]
theorem TT:∀x∈aBA,x.2.2.tree=true/\bJ (aZ pgS (0+400+400+400+400+400+400+400)) x.1 x.2.1=some x.2.2:=by intro x hx;rcases List.mem_append.1 hx with hx|hx;obtain⟨h1,h2⟩:=zQ x hx;exact⟨h1,fR (dY pgS (by omega)) h2⟩;simp only[List.mem_cons,List.not_mem_nil,or_false]at hx;rcases hx with rfl|rfl;exact⟨by kernel_rfl,bF zQ aPS⟩;exact⟨by kernel_rfl,bF zQ aPH⟩
theorem R3:bJ (cM pgS (dU aBA) 400) 968 []=some (.bool true):=by kernel_rfl
theorem aGU:Ret pgS 968 [] (.bool true):=⟨0+400+400+400+400+400+400+400+400,bF TT R3⟩
end Go.Proofs
end
