import Derived.Test.YtlalckpnpidccaaGreatDoorDAS
import Derived.Test.YtlalckpnpidccaaGreatDoorDAO
set_option linter.all false
section
set_option maxRecDepth 100000
namespace Go.Proofs
open Go.Tev
abbrev sH:=List (Nat×List AV×AV)
def cT:sH->Nat->List AV->Option AV
 |[],_,_=>none
 |(g,b,r)::l,f,a=>bif f.beq g then (bif j1 a b then some r else cT l f a) else cT l f a
theorem GI{l:sH}{m:Nat}(h:∀x∈l,x.2.2.tree=true/\bA (aO pgS m) x.1 x.2.1=some x.2.2):∀f a r,cT l f a=some r->r.tree=true/\bA (aO pgS m) f a=some r:=by
 induction l with
 |nil=>intro f a r hr;cases hr
 |cons x l ih=>
  intro f a r hr;obtain⟨g,b,q⟩:=x;have ih':=ih (λy hy=>h y (List.mem_cons_of_mem _ hy)) f a r;simp only[cT]at hr;cases h1:f.beq g with
  |false=>rw[h1]at hr;exact ih' hr
  |true=>
   rw[h1]at hr;cases h2:j1 a b with
   |false=>rw[h2]at hr;exact ih' hr
   |true=>rw[h2]at hr;cases hr;have e1:=Nat.eq_of_beq_eq_true h1;have e2:=cZ a b h2;subst e1 e2;exact h (f,a,r) (by simp)
theorem bK{l:sH}{m:Nat}(h:∀x∈l,x.2.2.tree=true/\bA (aO pgS m) x.1 x.2.1=some x.2.2){n f:Nat}{a:List AV}{r:AV}(hr:bA (cC pgS (cT l) n) f a=some r):bA (aO pgS (m+n)) f a=some r:=
 (FA pgS (GI h) n).at0 _ _ _ hr
abbrev mL0:List AV:=[.str [114,101,97,100],.int .i64 0,.int .i64 0,.str [],.sl false [.agg [.int .i64 0,.sl false [.agg [.str [105,48],.int .i64 1]] true]] true,.bool false,.int .i64 0,.sl true [] true,.sl true [] true]
abbrev mL1:List AV:=[.str [114,101,97,100],.int .i64 0,.int .i64 1,.str [],.sl false [.agg [.int .i64 0,.sl false [.agg [.str [105,48],.int .i64 1]] true]] true,.bool false,.int .i64 0,.sl true [] true,.sl true [] true]
abbrev mL2:List AV:=[.agg [.str [105,110,116],.str [],.sl false [.agg [.int .i64 0,.sl false [.agg [.str [110],.int .i64 1]] true]] true],.agg [.str [105,110,116],.str [],.sl false [.agg [.int .i64 0,.sl false [.agg [.str [110],.int .i64 1]] true]] true],.agg [.str [105,110,116],.str [],.sl false [.agg [.int .i64 0,.sl false [.agg [.str [110],.int .i64 1]] true]] true]]
abbrev mL3:List AV:=[.agg mL0,.agg mL1]
abbrev mL4:List AV:=[.int .i64 1,.int .i64 2,.sl false [.agg [.int .i64 0,.sl false [.agg [.str [110],.int .i64 1]] true]] true,.str [97,100,100],.int .i64 0,.int .i64 0,.str [],.sl true [] true,.bool false,.int .i64 0,.sl true [] true,.sl false mL3 true,.sl true [] true,.int .i64 0,.str [],.int .i64 0,.int .i64 0,.str [],.sl true [] true,.bool false,.int .i64 0,.sl true [] true,.sl true [] true,.int .i64 0]
abbrev mL5:List AV:=[.agg mL4]
abbrev mL6:List AV:=[.sl false [.str [110]] true,.sl true [] true,.int .i64 2,.sl false mL2 true,.sl false mL5 true,.sl false [.int .i64 2] true]
abbrev mL7:List AV:=[.agg mL6]
def mA0:List AV:=mL7
def mR0:AV:=.tup [.int .i64 1,.int .i64 0]
def mA1:List AV:=mL7
def mR1:AV:=.tup [.sl false [.agg [.int .i64 (-1),.int .i64 0],.agg [.int .i64 (-1),.int .i64 0],.agg [.int .i64 0,.int .i64 1]] false,.int .i64 0]
def mA2:List AV:=mL7
def mR2:AV:=.tup [.sl false [.int .i64 0] false,.int .i64 0]
def mA3:List AV:=[.agg mL6,.int .i64 (-1)]
def mR3:AV:=.tup [.sl false [.int .i64 0,.int .i64 1] false,.int .i64 0]
def mA4:List AV:=[.sl false [.agg [.int .i64 1,.sl false [.str [110]] false]] false]
def mR4:AV:=.bool true
def mA5:List AV:=[.sl false [.agg [.int .i64 0,.sl false [.agg [.str [110],.int .i64 1]] true]] true]
def mR5:AV:=.tup [.sl false [.agg [.int .i64 1,.sl false [.str [110]] false]] false,.int .i64 0]
def mA6:List AV:=[.agg [.str [],.sl false [.agg [.int .i64 0,.sl false [.agg [.str [110],.int .i64 1]] true]] true]]
def mR6:AV:=.tup [.sl false [.agg [.int .i64 1,.sl false [.str [110]] false]] false,.int .i64 0]
def mA7:List AV:=[.sl true [] true]
def mR7:AV:=.bool true
def mA8:List AV:=[.sl true [] true,.sl false [.agg [.int .i64 1,.sl false [.str [110]] false]] false]
def mR8:AV:=.tup [.sl false [.agg [.int .i64 1,.sl false [.str [110]] false]] false,.int .i64 0]
def mA9:List AV:=[.sl false [.agg [.int .i64 2,.sl false [.str [110]] false]] false]
def mR9:AV:=.bool true
def Y3:List AV:=[.sl false [.agg [.int .i64 1,.sl false [.str [110]] false]] false,.sl false [.agg [.int .i64 1,.sl false [.str [110]] false]] false]
def YQ:AV:=.tup [.sl false [.agg [.int .i64 2,.sl false [.str [110]] false]] false,.int .i64 0]
def Y2:List AV:=[.agg mL6,.int .i64 0]
def YP:AV:=.tup [.sl false [.int .i64 0,.int .i64 1,.int .i64 2] false,.int .i64 0]
def Y1:List AV:=[.sl false [.agg [.int .i64 3,.sl false [.str [110]] false]] false]
def YO:AV:=.bool true
def Y0:List AV:=[.sl false [.agg [.int .i64 2,.sl false [.str [110]] false]] false,.sl false [.agg [.int .i64 1,.sl false [.str [110]] false]] false]
def YN:AV:=.tup [.sl false [.agg [.int .i64 3,.sl false [.str [110]] false]] false,.int .i64 0]
def YZ:List AV:=[.agg mL6,.int .i64 1]
def YM:AV:=.tup [.sl false [.int .i64 2] false,.int .i64 0]
def YY:List AV:=mL7
def YL:AV:=.tup [.sl false [.sl false [.agg [.int .i64 2,.sl false [.str [110]] false]] false,.sl false [.agg [.int .i64 2,.sl false [.str [110]] false]] false,.sl false [.agg [.int .i64 1,.sl false [.str [110]] false]] false] false,.int .i64 0]
def YX:List AV:=[.sl false [.agg [.int .i64 2,.sl false [.str [110]] false]] false,.sl false [.agg [.int .i64 2,.sl false [.str [110]] false]] false]
def YK:AV:=.bool true
def YW:List AV:=[.sl false [.agg [.int .i64 2,.sl false [.str [110]] false]] false,.sl false [.agg [.int .i64 1,.sl false [.str [110]] false]] false]
def YJ:AV:=.bool false
def YV:List AV:=[.sl false [.agg [.int .i64 1,.sl false [.str [110]] false]] false,.sl false [.agg [.int .i64 2,.sl false [.str [110]] false]] false]
def YI:AV:=.bool true
def YU:List AV:=mL7
def YH:AV:=.tup [.sl false [.sl false [.agg [.int .i64 2,.sl false [.str [110]] false]] false] false,.int .i64 0]
def YT:List AV:=[.agg mL6,.agg [.sl false [.agg [.int .i64 0,.int .i64 5],.agg [.int .i64 5,.int .i64 5],.agg [.int .i64 6,.int .i64 5]] true,.sl false [.int .i64 (-1)] true,.int .i64 11],.sl false [.agg [.str [110],.int .i64 5]] true]
def YG:AV:=.tup [.sl false [.agg [.int .i64 0,.int .i64 1,.int .i64 2,.int .i64 6]] false,.int .i64 0]
def YS:List AV:=[.sl false [.agg [.int .i64 2,.sl false [.str [110]] false]] false]
def YF:AV:=.str [50,42,110]
def YR:List AV:=[.sl false [.agg [.int .i64 1,.sl false [.str [110]] false]] false]
def YE:AV:=.str [110]
theorem mE0:bA (cC pgS (cT []) 400) 28 mA0=some mR0:=by kernel_rfl
def CV:sH:=[(28,mA0,mR0)]
theorem yZ:∀x∈CV,x.2.2.tree=true/\bA (aO pgS (0+400)) x.1 x.2.1=some x.2.2:=by intro x hx;simp only[CV,List.mem_cons,List.not_mem_nil,or_false]at hx;rcases hx with rfl;exact⟨by kernel_rfl,bK (m:=0) (l:=[]) (λ_ h=>by cases h) mE0⟩
theorem mE1:bA (cC pgS (cT CV) 400) 9 mA1=some mR1:=by kernel_rfl
def lI:sH:=CV++[(9,mA1,mR1)]
theorem fO:∀x∈lI,x.2.2.tree=true/\bA (aO pgS (0+400+400)) x.1 x.2.1=some x.2.2:=by intro x hx;rcases List.mem_append.1 hx with hx|hx;obtain⟨h1,h2⟩:=yZ x hx;exact⟨h1,dU (b8 pgS (by omega)) h2⟩;simp only[List.mem_cons,List.not_mem_nil,or_false]at hx;subst hx;exact⟨by kernel_rfl,bK yZ mE1⟩
theorem mE2:bA (cC pgS (cT lI) 400) 262 mA2=some mR2:=by kernel_rfl
theorem mE3:bA (cC pgS (cT lI) 400) 11 mA3=some mR3:=by kernel_rfl
theorem mE4:bA (cC pgS (cT lI) 400) 692 mA4=some mR4:=by kernel_rfl
theorem mE7:bA (cC pgS (cT lI) 400) 692 mA7=some mR7:=by kernel_rfl
theorem mE9:bA (cC pgS (cT lI) 400) 692 mA9=some mR9:=by kernel_rfl
theorem aEG:bA (cC pgS (cT lI) 400) 11 Y2=some YP:=by kernel_rfl
theorem aEF:bA (cC pgS (cT lI) 400) 692 Y1=some YO:=by kernel_rfl
theorem aED:bA (cC pgS (cT lI) 400) 11 YZ=some YM:=by kernel_rfl
def GL:sH:=lI++[(262,mA2,mR2),(11,mA3,mR3),(692,mA4,mR4),(692,mA7,mR7),(692,mA9,mR9),(11,Y2,YP),(692,Y1,YO),(11,YZ,YM)]
theorem yY:∀x∈GL,x.2.2.tree=true/\bA (aO pgS (0+400+400+400)) x.1 x.2.1=some x.2.2:=by intro x hx;rcases List.mem_append.1 hx with hx|hx;obtain⟨h1,h2⟩:=fO x hx;exact⟨h1,dU (b8 pgS (by omega)) h2⟩;simp only[List.mem_cons,List.not_mem_nil,or_false]at hx;rcases hx with rfl|rfl|rfl|rfl|rfl|rfl|rfl|rfl;exact⟨by kernel_rfl,bK fO mE2⟩;exact⟨by kernel_rfl,bK fO mE3⟩;exact⟨by kernel_rfl,bK fO mE4⟩;exact⟨by kernel_rfl,bK fO mE7⟩;exact⟨by kernel_rfl,bK fO mE9⟩;exact⟨by kernel_rfl,bK fO aEG⟩;exact⟨by kernel_rfl,bK fO aEF⟩;exact⟨by kernel_rfl,bK fO aED⟩
theorem mE5:bA (cC pgS (cT GL) 400) 696 mA5=some mR5:=by kernel_rfl
def tD:sH:=GL++[(696,mA5,mR5)]
theorem kG:∀x∈tD,x.2.2.tree=true/\bA (aO pgS (0+400+400+400+400)) x.1 x.2.1=some x.2.2:=by intro x hx;rcases List.mem_append.1 hx with hx|hx;obtain⟨h1,h2⟩:=yY x hx;exact⟨h1,dU (b8 pgS (by omega)) h2⟩;simp only[List.mem_cons,List.not_mem_nil,or_false]at hx;subst hx;exact⟨by kernel_rfl,bK yY mE5⟩
theorem mE6:bA (cC pgS (cT tD) 400) 686 mA6=some mR6:=by kernel_rfl
theorem mE8:bA (cC pgS (cT tD) 400) 687 mA8=some mR8:=by kernel_rfl
theorem aEH:bA (cC pgS (cT tD) 400) 687 Y3=some YQ:=by kernel_rfl
theorem aEE:bA (cC pgS (cT tD) 400) 687 Y0=some YN:=by kernel_rfl
def mW:sH:=tD++[(686,mA6,mR6),(687,mA8,mR8),(687,Y3,YQ),(687,Y0,YN)]
theorem gJ:∀x∈mW,x.2.2.tree=true/\bA (aO pgS (0+400+400+400+400+400)) x.1 x.2.1=some x.2.2:=by intro x hx;rcases List.mem_append.1 hx with hx|hx;obtain⟨h1,h2⟩:=kG x hx;exact⟨h1,dU (b8 pgS (by omega)) h2⟩;simp only[List.mem_cons,List.not_mem_nil,or_false]at hx;rcases hx with rfl|rfl|rfl|rfl;exact⟨by kernel_rfl,bK kG mE6⟩;exact⟨by kernel_rfl,bK kG mE8⟩;exact⟨by kernel_rfl,bK kG aEH⟩;exact⟨by kernel_rfl,bK kG aEE⟩
theorem aEC:bA (cC pgS (cT mW) 400) 672 YY=some YL:=by kernel_rfl
theorem aEB:bA (cC pgS (cT mW) 400) 675 YX=some YK:=by kernel_rfl
theorem aEA:bA (cC pgS (cT mW) 400) 675 YW=some YJ:=by kernel_rfl
theorem aEz:bA (cC pgS (cT mW) 400) 675 YV=some YI:=by kernel_rfl
theorem aEx:bA (cC pgS (cT mW) 400) 664 YT=some YG:=by kernel_rfl
theorem aEw:bA (cC pgS (cT mW) 400) 674 YS=some YF:=by kernel_rfl
theorem aEv:bA (cC pgS (cT mW) 400) 674 YR=some YE:=by kernel_rfl
def GK:sH:=mW++[(672,YY,YL),(675,YX,YK),(675,YW,YJ),(675,YV,YI),(664,YT,YG),(674,YS,YF),(674,YR,YE)]
theorem yX:∀x∈GK,x.2.2.tree=true/\bA (aO pgS (0+400+400+400+400+400+400)) x.1 x.2.1=some x.2.2:=by intro x hx;rcases List.mem_append.1 hx with hx|hx;obtain⟨h1,h2⟩:=gJ x hx;exact⟨h1,dU (b8 pgS (by omega)) h2⟩;simp only[List.mem_cons,List.not_mem_nil,or_false]at hx;rcases hx with rfl|rfl|rfl|rfl|rfl|rfl|rfl;exact⟨by kernel_rfl,bK gJ aEC⟩;exact⟨by kernel_rfl,bK gJ aEB⟩;exact⟨by kernel_rfl,bK gJ aEA⟩;exact⟨by kernel_rfl,bK gJ aEz⟩;exact⟨by kernel_rfl,bK gJ aEx⟩;exact⟨by kernel_rfl,bK gJ aEw⟩;exact⟨by kernel_rfl,bK gJ aEv⟩
theorem aEy:bA (cC pgS (cT GK) 400) 673 YU=some YH:=by kernel_rfl
def OL:sH:=GK++[(673,YU,YH)]
theorem GJ:∀x∈OL,x.2.2.tree=true/\bA (aO pgS (0+400+400+400+400+400+400+400)) x.1 x.2.1=some x.2.2:=by intro x hx;rcases List.mem_append.1 hx with hx|hx;obtain⟨h1,h2⟩:=yX x hx;exact⟨h1,dU (b8 pgS (by omega)) h2⟩;simp only[List.mem_cons,List.not_mem_nil,or_false]at hx;subst hx;exact⟨by kernel_rfl,bK yX aEy⟩
theorem FC:bA (cC pgS (cT OL) 400) 662 []=some (.bool true):=by kernel_rfl
theorem V5:Ret pgS 662 [] (.bool true):=⟨0+400+400+400+400+400+400+400+400,bK GJ FC⟩
end Go.Proofs
end
