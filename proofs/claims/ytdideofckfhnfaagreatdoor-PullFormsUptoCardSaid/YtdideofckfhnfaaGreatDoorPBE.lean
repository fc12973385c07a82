import Derived.Test.YtdideofckfhnfaaGreatDoorPAS
import Derived.Test.YtdideofckfhnfaaGreatDoorPAO
set_option linter.all false
section
set_option maxRecDepth 100000
namespace Go.Proofs
open Go.Tev
abbrev tR:=List (Nat×List AV×AV)
def eF:tR->Nat->List AV->Option AV
 |[],_,_=>none
 |(g,b,r)::l,f,a=>bif f.beq g then (bif kZ a b then some r else eF l f a) else eF l f a
theorem G6{mx:Int}{l:tR}{m:Nat}(h:∀x∈l,x.2.2.tree=true/\bB (aP (pgS mx) m) x.1 x.2.1=some x.2.2):∀f a r,eF l f a=some r->r.tree=true/\bB (aP (pgS mx) m) f a=some r:=by
 induction l with
 |nil=>intro f a r hr;cases hr
 |cons x l ih=>
  intro f a r hr;obtain⟨g,b,q⟩:=x;have ih':=ih (λy hy=>h y (List.mem_cons_of_mem _ hy)) f a r;simp only[eF]at hr;cases h1:f.beq g with
  |false=>rw[h1]at hr;exact ih' hr
  |true=>
   rw[h1]at hr;cases h2:kZ a b with
   |false=>rw[h2]at hr;exact ih' hr
   |true=>rw[h2]at hr;cases hr;have e1:=Nat.eq_of_beq_eq_true h1;have e2:=dS a b h2;subst e1 e2;exact h (f,a,r) (by simp)
theorem bM{mx:Int}{l:tR}{m:Nat}(h:∀x∈l,x.2.2.tree=true/\bB (aP (pgS mx) m) x.1 x.2.1=some x.2.2){n f:Nat}{a:List AV}{r:AV}(hr:bB (cJ (pgS mx) (eF l) n) f a=some r):bB (aP (pgS mx) (m+n)) f a=some r:=
 (FT (pgS mx) (G6 h) n).at0 _ _ _ hr
abbrev mL0:List AV:=[.agg [.str [105,110,116],.str [],.sl false [.agg [.int .i64 0,.sl false [.agg [.str [110],.int .i64 1]] true]] true],.agg [.str [105,110,116],.str [],.sl true [] true]]
abbrev mL1:List AV:=[.sl false [.agg [.str [105,110,116],.str [],.sl true [] true],.agg [.str [105,110,116],.str [],.sl true [] true]] false,.str [105,110,116],.str [],.sl true [] true,.sl true [] true]
abbrev mL2:List AV:=[.str [114,101,97,100],.int .i64 0,.int .i64 0,.str [],.sl false [.agg [.int .i64 (-1),.sl false [.agg [.str [105,48],.int .i64 (-1)],.agg [.str [110],.int .i64 1]] false]] false,.bool false,.int .i64 0,.sl true [] true,.sl true [] true]
abbrev mL3:List AV:=[.sl false [.agg [.str [65],.str [],.sl false [.agg [.int .i64 0,.sl false [.agg [.str [110],.int .i64 1]] false]] false]] false,.str [65],.str [],.sl false [.agg [.int .i64 0,.sl false [.agg [.str [110],.int .i64 1]] false]] false,.sl true [] true]
abbrev mL4:List AV:=[.str [114,101,118,101,114,115,101],.sl false [.int .i64 2] true,.sl true [] true,.sl false [.sl true [] true] true,.sl true [] true,.int .i64 0,.str [],.sl true [] true,.sl true [] true,.sl true [] true,.int .i64 0,.str [105,110,116],.str [],.sl false [.agg [.int .i64 0,.sl false [.agg [.str [110],.int .i64 1]] true]] true]
abbrev mL5:List AV:=[.agg mL2,.agg [.str [114,101,97,100],.int .i64 0,.int .i64 1,.str [],.sl true [] true,.bool false,.int .i64 0,.sl true [] true,.sl true [] true]]
abbrev mL6:List AV:=[.str [97,100,100],.sl false [.int .i64 0,.int .i64 1] true,.sl false [.agg [.int .i64 0,.sl false [.agg [.str [110],.int .i64 1]] true]] true,.sl false [.sl false [.int .i64 0] true,.sl true [] true] true,.sl true [] true,.int .i64 0,.str [],.sl true [] true,.sl true [] true,.sl true [] true,.int .i64 0,.str [105,110,116],.str [],.sl false [.agg [.int .i64 0,.sl false [.agg [.str [110],.int .i64 1]] true]] true]
abbrev mL7:List AV:=[.str [97,100,100],.int .i64 0,.int .i64 0,.str [],.sl true [] true,.bool false,.int .i64 0,.sl true [] true,.sl false mL5 false]
abbrev mL8:List AV:=[.agg mL6,.agg mL4]
abbrev mL9:List AV:=[.sl false [.str [110]] true,.sl true [] true,.sl false mL0 true,.sl false mL8 true,.sl false [.int .i64 3] true]
def mA0:List AV:=[.agg [.int .i64 0,.sl false [.agg [.str [110],.int .i64 1]] true]]
def mR0:AV:=.bool true
def mA1:List AV:=[.agg [.str [],.sl false [.agg [.int .i64 0,.sl false [.agg [.str [110],.int .i64 1]] true]] true]]
def mR1:AV:=.bool true
def mA2:List AV:=[.agg [.str [],.sl true [] true]]
def mR2:AV:=.bool true
def mA3:List AV:=[.agg mL1]
def mR3:AV:=.tup [.str [40,105,110,116,44,32,105,110,116,41,32,45,62,32,105,110,116],.int .i64 0]
def mA4:List AV:=[.str [40,105,110,116,44,32,105,110,116,41,32,45,62,32,105,110,116]]
def mR4:AV:=.tup [.agg mL1,.int .i64 0]
def mA5:List AV:=[.str [97,100,100]]
def mR5:AV:=.tup [.agg [.str [97,100,100],.bool true,.bool false,.bool false,.sl true [] true,.sl false [.agg [.str [105,110,116],.str [],.sl true [] true],.agg [.str [105,110,116],.str [],.sl true [] true]] false,.str [105,110,116],.str [],.sl true [] true,.sl true [] true],.bool true]
def mA6:List AV:=[.agg mL6,.sl false [.agg [.str [105,110,116],.sl false [] true],.agg [.str [105,110,116],.sl true [] true]] false]
def mR6:AV:=.tup [.agg [.str [105,110,116],.sl true [] true],.sl true [] true,.bool true]
def mA7:List AV:=[.agg [.str [],.sl false [.agg [.int .i64 0,.sl false [.agg [.str [110],.int .i64 1]] true]] false]]
def mR7:AV:=.bool true
def mA8:List AV:=[.agg [.int .i64 0,.sl false [.agg [.str [110],.int .i64 1]] false]]
def mR8:AV:=.bool true
def mA9:List AV:=[.agg [.str [],.sl false [.agg [.int .i64 0,.sl false [.agg [.str [110],.int .i64 1]] false]] false]]
def mR9:AV:=.bool true
def aAy:List AV:=[.agg mL3]
def aAo:AV:=.tup [.str [40,91,110,93,65,41,32,45,62,32,91,110,93,65],.int .i64 0]
def aAx:List AV:=[.str [40,91,110,93,65,41,32,45,62,32,91,110,93,65]]
def aAn:AV:=.tup [.agg mL3,.int .i64 0]
def aAw:List AV:=[.str [114,101,118,101,114,115,101]]
def aAm:AV:=.tup [.agg [.str [114,101,118,101,114,115,101],.bool false,.bool false,.bool false,.sl true [] true,.sl false [.agg [.str [65],.str [],.sl false [.agg [.int .i64 0,.sl false [.agg [.str [110],.int .i64 1]] false]] false]] false,.str [65],.str [],.sl false [.agg [.int .i64 0,.sl false [.agg [.str [110],.int .i64 1]] false]] false,.sl true [] true],.bool true]
def aAv:List AV:=[.agg mL4,.sl false [.agg [.str [105,110,116],.sl false [.agg [.int .i64 0,.sl false [.agg [.str [110],.int .i64 1]] false]] false]] false]
def aAl:AV:=.tup [.agg [.str [105,110,116],.sl false [.agg [.int .i64 0,.sl false [.agg [.str [110],.int .i64 1]] false]] false],.sl true [] true,.bool true]
def aAu:List AV:=[.agg mL9]
def aAk:AV:=.tup [.int .i64 2,.int .i64 0]
def aAt:List AV:=[.agg [.int .i64 (-1),.sl false [.agg [.str [105,48],.int .i64 (-1)],.agg [.str [110],.int .i64 1]] false]]
def aAj:AV:=.bool true
def aAs:List AV:=[.agg mL9,.int .i64 3,.sl false [.bool false,.bool false,.bool false,.bool false] true]
def aAi:AV:=.tup [.agg mL7,.int .i64 0]
def aAr:List AV:=[.agg mL7,.sl false [.str [110],.str [105,48]] false,.int .i64 4]
def aAh:AV:=.bool true
def aAq:List AV:=[.agg mL7,.sl false [.agg [.str [110],.int .i64 3],.agg [.str [105,48],.int .i64 0]] true,.sl false [.agg [.str [105,110,116],.sl false [.int .i64 3] true,.sl false [.int .i64 1,.int .i64 2,.int .i64 5] true],.agg [.str [105,110,116],.sl true [] true,.sl false [.int .i64 10] true],.agg [.str [],.sl true [] true,.sl true [] true],.agg [.str [],.sl true [] true,.sl true [] true]] true]
def aAg:AV:=.tup [.int .i64 15,.agg [.int .i64 2,.int .i64 0,.int .i64 1,.int .i64 0],.sl true [] true,.int .i64 0]
def aAp:List AV:=[.agg mL7,.sl false [.str [110],.str [105,48]] true,.int .i64 4]
def aAf:AV:=.bool true
theorem mE0(mx:Int):bB (cJ (pgS mx) (eF []) 400) 51 mA0=some mR0:=by kernel_rfl
theorem mE1(mx:Int):bB (cJ (pgS mx) (eF []) 400) 139 mA1=some mR1:=by kernel_rfl
theorem mE2(mx:Int):bB (cJ (pgS mx) (eF []) 400) 139 mA2=some mR2:=by kernel_rfl
theorem mE7(mx:Int):bB (cJ (pgS mx) (eF []) 400) 139 mA7=some mR7:=by kernel_rfl
theorem mE8(mx:Int):bB (cJ (pgS mx) (eF []) 400) 51 mA8=some mR8:=by kernel_rfl
theorem mE9(mx:Int):bB (cJ (pgS mx) (eF []) 400) 139 mA9=some mR9:=by kernel_rfl
theorem aHm(mx:Int):bB (cJ (pgS mx) (eF []) 400) 51 aAt=some aAj:=by kernel_rfl
def yQ:tR:=[(51,mA0,mR0),(139,mA1,mR1),(139,mA2,mR2),(139,mA7,mR7),(51,mA8,mR8),(139,mA9,mR9),(51,aAt,aAj)]
theorem rS(mx:Int):∀x∈yQ,x.2.2.tree=true/\bB (aP (pgS mx) (0+400)) x.1 x.2.1=some x.2.2:=by intro x hx;simp only[yQ,List.mem_cons,List.not_mem_nil,or_false]at hx;rcases hx with rfl|rfl|rfl|rfl|rfl|rfl|rfl;exact⟨by kernel_rfl,bM (m:=0) (l:=[]) (λ_ h=>by cases h) (mE0 mx)⟩;exact⟨by kernel_rfl,bM (m:=0) (l:=[]) (λ_ h=>by cases h) (mE1 mx)⟩;exact⟨by kernel_rfl,bM (m:=0) (l:=[]) (λ_ h=>by cases h) (mE2 mx)⟩;exact⟨by kernel_rfl,bM (m:=0) (l:=[]) (λ_ h=>by cases h) (mE7 mx)⟩;exact⟨by kernel_rfl,bM (m:=0) (l:=[]) (λ_ h=>by cases h) (mE8 mx)⟩;exact⟨by kernel_rfl,bM (m:=0) (l:=[]) (λ_ h=>by cases h) (mE9 mx)⟩;exact⟨by kernel_rfl,bM (m:=0) (l:=[]) (λ_ h=>by cases h) (aHm mx)⟩
theorem mE3(mx:Int):bB (cJ (pgS mx) (eF yQ) 400) 461 mA3=some mR3:=by kernel_rfl
theorem aHr(mx:Int):bB (cJ (pgS mx) (eF yQ) 400) 461 aAy=some aAo:=by kernel_rfl
def DI:tR:=yQ++[(461,mA3,mR3),(461,aAy,aAo)]
theorem rR(mx:Int):∀x∈DI,x.2.2.tree=true/\bB (aP (pgS mx) (0+400+400)) x.1 x.2.1=some x.2.2:=by intro x hx;rcases List.mem_append.1 hx with hx|hx;obtain⟨h1,h2⟩:=(rS mx) x hx;exact⟨h1,dU (bX (pgS mx) (by omega)) h2⟩;simp only[List.mem_cons,List.not_mem_nil,or_false]at hx;rcases hx with rfl|rfl;exact⟨by kernel_rfl,bM (rS mx) (mE3 mx)⟩;exact⟨by kernel_rfl,bM (rS mx) (aHr mx)⟩
theorem mE4(mx:Int):bB (cJ (pgS mx) (eF DI) 400) 413 mA4=some mR4:=by kernel_rfl
theorem aHq(mx:Int):bB (cJ (pgS mx) (eF DI) 400) 413 aAx=some aAn:=by kernel_rfl
def DH:tR:=DI++[(413,mA4,mR4),(413,aAx,aAn)]
theorem rQ(mx:Int):∀x∈DH,x.2.2.tree=true/\bB (aP (pgS mx) (0+400+400+400)) x.1 x.2.1=some x.2.2:=by intro x hx;rcases List.mem_append.1 hx with hx|hx;obtain⟨h1,h2⟩:=(rR mx) x hx;exact⟨h1,dU (bX (pgS mx) (by omega)) h2⟩;simp only[List.mem_cons,List.not_mem_nil,or_false]at hx;rcases hx with rfl|rfl;exact⟨by kernel_rfl,bM (rR mx) (mE4 mx)⟩;exact⟨by kernel_rfl,bM (rR mx) (aHq mx)⟩
theorem mE5(mx:Int):bB (cJ (pgS mx) (eF DH) 400) 394 mA5=some mR5:=by kernel_rfl
theorem aHp(mx:Int):bB (cJ (pgS mx) (eF DH) 400) 394 aAw=some aAm:=by kernel_rfl
def DG:tR:=DH++[(394,mA5,mR5),(394,aAw,aAm)]
theorem rP(mx:Int):∀x∈DG,x.2.2.tree=true/\bB (aP (pgS mx) (0+400+400+400+400)) x.1 x.2.1=some x.2.2:=by intro x hx;rcases List.mem_append.1 hx with hx|hx;obtain⟨h1,h2⟩:=(rQ mx) x hx;exact⟨h1,dU (bX (pgS mx) (by omega)) h2⟩;simp only[List.mem_cons,List.not_mem_nil,or_false]at hx;rcases hx with rfl|rfl;exact⟨by kernel_rfl,bM (rQ mx) (mE5 mx)⟩;exact⟨by kernel_rfl,bM (rQ mx) (aHp mx)⟩
theorem mE6(mx:Int):bB (cJ (pgS mx) (eF DG) 400) 369 mA6=some mR6:=by kernel_rfl
theorem aHo(mx:Int):bB (cJ (pgS mx) (eF DG) 400) 369 aAv=some aAl:=by kernel_rfl
def yP:tR:=DG++[(369,mA6,mR6),(369,aAv,aAl)]
theorem nL(mx:Int):∀x∈yP,x.2.2.tree=true/\bB (aP (pgS mx) (0+400+400+400+400+400)) x.1 x.2.1=some x.2.2:=by intro x hx;rcases List.mem_append.1 hx with hx|hx;obtain⟨h1,h2⟩:=(rP mx) x hx;exact⟨h1,dU (bX (pgS mx) (by omega)) h2⟩;simp only[List.mem_cons,List.not_mem_nil,or_false]at hx;rcases hx with rfl|rfl;exact⟨by kernel_rfl,bM (rP mx) (mE6 mx)⟩;exact⟨by kernel_rfl,bM (rP mx) (aHo mx)⟩
theorem aHn(mx:Int):bB (cJ (pgS mx) (eF yP) 400) 295 aAu=some aAk:=by kernel_rfl
theorem aHk(mx:Int):bB (cJ (pgS mx) (eF yP) 400) 109 aAr=some aAh:=by kernel_rfl
theorem aHi(mx:Int):bB (cJ (pgS mx) (eF yP) 400) 109 aAp=some aAf:=by kernel_rfl
def DF:tR:=yP++[(295,aAu,aAk),(109,aAr,aAh),(109,aAp,aAf)]
theorem rO(mx:Int):∀x∈DF,x.2.2.tree=true/\bB (aP (pgS mx) (0+400+400+400+400+400+400)) x.1 x.2.1=some x.2.2:=by intro x hx;rcases List.mem_append.1 hx with hx|hx;obtain⟨h1,h2⟩:=(nL mx) x hx;exact⟨h1,dU (bX (pgS mx) (by omega)) h2⟩;simp only[List.mem_cons,List.not_mem_nil,or_false]at hx;rcases hx with rfl|rfl|rfl;exact⟨by kernel_rfl,bM (nL mx) (aHn mx)⟩;exact⟨by kernel_rfl,bM (nL mx) (aHk mx)⟩;exact⟨by kernel_rfl,bM (nL mx) (aHi mx)⟩
theorem aHl(mx:Int):bB (cJ (pgS mx) (eF DF) 400) 277 aAs=some aAi:=by kernel_rfl
theorem aHj(mx:Int):bB (cJ (pgS mx) (eF DF) 400) 279 aAq=some aAg:=by kernel_rfl
def PA:tR:=DF++[(277,aAs,aAi),(279,aAq,aAg)]
theorem G7(mx:Int):∀x∈PA,x.2.2.tree=true/\bB (aP (pgS mx) (0+400+400+400+400+400+400+400)) x.1 x.2.1=some x.2.2:=by intro x hx;rcases List.mem_append.1 hx with hx|hx;obtain⟨h1,h2⟩:=(rO mx) x hx;exact⟨h1,dU (bX (pgS mx) (by omega)) h2⟩;simp only[List.mem_cons,List.not_mem_nil,or_false]at hx;rcases hx with rfl|rfl;exact⟨by kernel_rfl,bM (rO mx) (aHl mx)⟩;exact⟨by kernel_rfl,bM (rO mx) (aHj mx)⟩
theorem FZ(mx:Int):bB (cJ (pgS mx) (eF PA) 400) 266 []=some (.bool true):=by kernel_rfl
theorem YT(mx:Int):Ret (pgS mx) 266 [] (.bool true):=⟨0+400+400+400+400+400+400+400+400,bM (G7 mx) (FZ mx)⟩
end Go.Proofs
end
