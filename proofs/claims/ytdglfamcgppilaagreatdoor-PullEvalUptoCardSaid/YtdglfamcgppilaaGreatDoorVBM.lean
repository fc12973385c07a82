import Derived.Test.YtdglfamcgppilaaGreatDoorVAS
import Derived.Test.YtdglfamcgppilaaGreatDoorVAO
set_option linter.all false
section
set_option maxRecDepth 100000
namespace Go.Proofs
open Go.Tev
abbrev zZ:=List (Nat×List AV×AV)
def gI:zZ->Nat->List AV->Option AV
 |[],_,_=>none
 |(g,b,r)::l,f,a=>bif f.beq g then (bif oJ a b then some r else gI l f a) else gI l f a
theorem QN{mx:Int}{l:zZ}{m:Nat}(h:∀x∈l,x.2.2.tree=true/\bL (aV (pgS mx) m) x.1 x.2.1=some x.2.2):∀f a r,gI l f a=some r->r.tree=true/\bL (aV (pgS mx) m) f a=some r:=by
 induction l with
 |nil=>intro f a r hr;cases hr
 |cons x l ih=>
  intro f a r hr;obtain⟨g,b,q⟩:=x;have ih':=ih (λy hy=>h y (List.mem_cons_of_mem _ hy)) f a r;simp only[gI]at hr;cases h1:f.beq g with
  |false=>rw[h1]at hr;exact ih' hr
  |true=>
   rw[h1]at hr;cases h2:oJ a b with
   |false=>rw[h2]at hr;exact ih' hr
   |true=>rw[h2]at hr;cases hr;have e1:=Nat.eq_of_beq_eq_true h1;have e2:=fR a b h2;subst e1 e2;exact h (f,a,r) (by simp)
theorem cK{mx:Int}{l:zZ}{m:Nat}(h:∀x∈l,x.2.2.tree=true/\bL (aV (pgS mx) m) x.1 x.2.1=some x.2.2){n f:Nat}{a:List AV}{r:AV}(hr:bL (eM (pgS mx) (gI l) n) f a=some r):bL (aV (pgS mx) (m+n)) f a=some r:=
 (OV (pgS mx) (QN h) n).at0 _ _ _ hr
abbrev mL0:List AV:=[.agg [.str [105,110,116],.str [],.sl false [.agg [.int .i64 0,.sl false [.agg [.str [110],.int .i64 1]] true]] true],.agg [.str [105,110,116],.str [],.sl true [] true]]
abbrev mL1:List AV:=[.sl false [.agg [.str [105,110,116],.str [],.sl true [] true],.agg [.str [105,110,116],.str [],.sl true [] true]] false,.str [105,110,116],.str [],.sl true [] true,.sl true [] true]
abbrev mL2:List AV:=[.str [114,101,97,100],.int .i64 0,.int .i64 0,.str [],.sl false [.agg [.int .i64 (-1),.sl false [.agg [.str [105,48],.int .i64 (-1)],.agg [.str [110],.int .i64 1]] false]] false,.bool false,.int .i64 0,.sl true [] true,.sl true [] true]
abbrev mL3:List AV:=[.sl false [.agg [.str [65],.str [],.sl false [.agg [.int .i64 0,.sl false [.agg [.str [110],.int .i64 1]] false]] false]] false,.str [65],.str [],.sl false [.agg [.int .i64 0,.sl false [.agg [.str [110],.int .i64 1]] false]] false,.sl true [] true]
abbrev mL4:List AV:=[.str [114,101,118,101,114,115,101],.sl false [.int .i64 2] true,.sl true [] true,.sl false [.sl true [] true] true,.sl true [] true,.int .i64 0,.str [],.sl true [] true,.sl true [] true,.sl true [] true,.int .i64 0,.str [105,110,116],.str [],.sl false [.agg [.int .i64 0,.sl false [.agg [.str [110],.int .i64 1]] true]] true]
abbrev mL5:List AV:=[.agg mL2,.agg [.str [114,101,97,100],.int .i64 0,.int .i64 1,.str [],.sl true [] true,.bool false,.int .i64 0,.sl true [] true,.sl true [] true]]
abbrev mL6:List AV:=[.str [97,100,100],.sl false [.int .i64 0,.int .i64 1] true,.sl false [.agg [.int .i64 0,.sl false [.agg [.str [110],.int .i64 1]] true]] true,.sl false [.sl false [.int .i64 0] true,.sl true [] true] true,.sl true [] true,.int .i64 0,.str [],.sl true [] true,.sl true [] true,.sl true [] true,.int .i64 0,.str [105,110,116],.str [],.sl false [.agg [.int .i64 0,.sl false [.agg [.str [110],.int .i64 1]] true]] true]
abbrev mL7:List AV:=[.str [97,100,100],.int .i64 0,.int .i64 0,.str [],.sl true [] true,.bool false,.int .i64 0,.sl true [] true,.sl false mL5 false]
abbrev mL8:List AV:=[.agg mL6,.agg mL4]
abbrev mL9:List AV:=[.sl false [.str [110]] true,.sl true [] true,.sl false mL0 true,.sl false mL8 true,.sl false [.int .i64 3] true]
def mA0:List AV:=[.agg [.int .i64 0,.sl false [.agg [.str [110],.int .i64 1]] true]]
def mR0:AV:=.bool true
def mA1:List AV:=[.agg [.str [],.sl false [.agg [.int .i64 0,.sl false [.agg [.str [110],.int .i64 1]] true]] true]]
def mR1:AV:=.bool true
def mA2:List AV:=[.agg [.str [],.sl true [] true]]
def mR2:AV:=.bool true
def mA3:List AV:=[.agg mL1]
def mR3:AV:=.tup [.str [40,105,110,116,44,32,105,110,116,41,32,45,62,32,105,110,116],.int .i64 0]
def mA4:List AV:=[.str [40,105,110,116,44,32,105,110,116,41,32,45,62,32,105,110,116]]
def mR4:AV:=.tup [.agg mL1,.int .i64 0]
def mA5:List AV:=[.str [97,100,100]]
def mR5:AV:=.tup [.agg [.str [97,100,100],.bool true,.bool false,.bool false,.sl true [] true,.sl false [.agg [.str [105,110,116],.str [],.sl true [] true],.agg [.str [105,110,116],.str [],.sl true [] true]] false,.str [105,110,116],.str [],.sl true [] true,.sl true [] true],.bool true]
def mA6:List AV:=[.agg mL6,.sl false [.agg [.str [105,110,116],.sl false [] true],.agg [.str [105,110,116],.sl true [] true]] false]
def mR6:AV:=.tup [.agg [.str [105,110,116],.sl true [] true],.sl true [] true,.bool true]
def mA7:List AV:=[.agg [.str [],.sl false [.agg [.int .i64 0,.sl false [.agg [.str [110],.int .i64 1]] true]] false]]
def mR7:AV:=.bool true
def mA8:List AV:=[.agg [.int .i64 0,.sl false [.agg [.str [110],.int .i64 1]] false]]
def mR8:AV:=.bool true
def mA9:List AV:=[.agg [.str [],.sl false [.agg [.int .i64 0,.sl false [.agg [.str [110],.int .i64 1]] false]] false]]
def mR9:AV:=.bool true
def aGo:List AV:=[.agg mL3]
def aGe:AV:=.tup [.str [40,91,110,93,65,41,32,45,62,32,91,110,93,65],.int .i64 0]
def aGn:List AV:=[.str [40,91,110,93,65,41,32,45,62,32,91,110,93,65]]
def aGd:AV:=.tup [.agg mL3,.int .i64 0]
def aGm:List AV:=[.str [114,101,118,101,114,115,101]]
def aGc:AV:=.tup [.agg [.str [114,101,118,101,114,115,101],.bool false,.bool false,.bool false,.sl true [] true,.sl false [.agg [.str [65],.str [],.sl false [.agg [.int .i64 0,.sl false [.agg [.str [110],.int .i64 1]] false]] false]] false,.str [65],.str [],.sl false [.agg [.int .i64 0,.sl false [.agg [.str [110],.int .i64 1]] false]] false,.sl true [] true],.bool true]
def aGl:List AV:=[.agg mL4,.sl false [.agg [.str [105,110,116],.sl false [.agg [.int .i64 0,.sl false [.agg [.str [110],.int .i64 1]] false]] false]] false]
def aGb:AV:=.tup [.agg [.str [105,110,116],.sl false [.agg [.int .i64 0,.sl false [.agg [.str [110],.int .i64 1]] false]] false],.sl true [] true,.bool true]
def aGk:List AV:=[.agg mL9]
def aGa:AV:=.tup [.int .i64 2,.int .i64 0]
def aGj:List AV:=[.agg [.int .i64 (-1),.sl false [.agg [.str [105,48],.int .i64 (-1)],.agg [.str [110],.int .i64 1]] false]]
def aFZ:AV:=.bool true
def aGi:List AV:=[.agg mL9,.int .i64 3,.sl false [.bool false,.bool false,.bool false,.bool false] true]
def aFY:AV:=.tup [.agg mL7,.int .i64 0]
def aGh:List AV:=[.agg mL7,.sl false [.str [110],.str [105,48]] false,.int .i64 4]
def aFX:AV:=.bool true
def aGg:List AV:=[.agg mL7,.sl false [.agg [.str [110],.int .i64 3],.agg [.str [105,48],.int .i64 0]] true,.sl false [.agg [.str [105,110,116],.sl false [.int .i64 3] true,.sl false [.int .i64 1,.int .i64 2,.int .i64 5] true],.agg [.str [105,110,116],.sl true [] true,.sl false [.int .i64 10] true],.agg [.str [],.sl true [] true,.sl true [] true],.agg [.str [],.sl true [] true,.sl true [] true]] true]
def aFW:AV:=.tup [.int .i64 15,.agg [.int .i64 2,.int .i64 0,.int .i64 1,.int .i64 0],.sl true [] true,.int .i64 0]
def aGf:List AV:=[.agg mL7,.sl false [.str [110],.str [105,48]] true,.int .i64 4]
def aFV:AV:=.bool true
theorem mE0(mx:Int):bL (eM (pgS mx) (gI []) 400) 51 mA0=some mR0:=by kernel_rfl
theorem mE1(mx:Int):bL (eM (pgS mx) (gI []) 400) 139 mA1=some mR1:=by kernel_rfl
theorem mE2(mx:Int):bL (eM (pgS mx) (gI []) 400) 139 mA2=some mR2:=by kernel_rfl
theorem mE7(mx:Int):bL (eM (pgS mx) (gI []) 400) 139 mA7=some mR7:=by kernel_rfl
theorem mE8(mx:Int):bL (eM (pgS mx) (gI []) 400) 51 mA8=some mR8:=by kernel_rfl
theorem mE9(mx:Int):bL (eM (pgS mx) (gI []) 400) 139 mA9=some mR9:=by kernel_rfl
theorem aNm(mx:Int):bL (eM (pgS mx) (gI []) 400) 51 aGj=some aFZ:=by kernel_rfl
def GI:zZ:=[(51,mA0,mR0),(139,mA1,mR1),(139,mA2,mR2),(139,mA7,mR7),(51,mA8,mR8),(139,mA9,mR9),(51,aGj,aFZ)]
theorem xU(mx:Int):∀x∈GI,x.2.2.tree=true/\bL (aV (pgS mx) (0+400)) x.1 x.2.1=some x.2.2:=by intro x hx;simp only[GI,List.mem_cons,List.not_mem_nil,or_false]at hx;rcases hx with rfl|rfl|rfl|rfl|rfl|rfl|rfl;exact⟨by kernel_rfl,cK (m:=0) (l:=[]) (λ_ h=>by cases h) (mE0 mx)⟩;exact⟨by kernel_rfl,cK (m:=0) (l:=[]) (λ_ h=>by cases h) (mE1 mx)⟩;exact⟨by kernel_rfl,cK (m:=0) (l:=[]) (λ_ h=>by cases h) (mE2 mx)⟩;exact⟨by kernel_rfl,cK (m:=0) (l:=[]) (λ_ h=>by cases h) (mE7 mx)⟩;exact⟨by kernel_rfl,cK (m:=0) (l:=[]) (λ_ h=>by cases h) (mE8 mx)⟩;exact⟨by kernel_rfl,cK (m:=0) (l:=[]) (λ_ h=>by cases h) (mE9 mx)⟩;exact⟨by kernel_rfl,cK (m:=0) (l:=[]) (λ_ h=>by cases h) (aNm mx)⟩
theorem mE3(mx:Int):bL (eM (pgS mx) (gI GI) 400) 461 mA3=some mR3:=by kernel_rfl
theorem aNr(mx:Int):bL (eM (pgS mx) (gI GI) 400) 461 aGo=some aGe:=by kernel_rfl
def LW:zZ:=GI++[(461,mA3,mR3),(461,aGo,aGe)]
theorem xS(mx:Int):∀x∈LW,x.2.2.tree=true/\bL (aV (pgS mx) (0+400+400)) x.1 x.2.1=some x.2.2:=by intro x hx;rcases List.mem_append.1 hx with hx|hx;obtain⟨h1,h2⟩:=(xU mx) x hx;exact⟨h1,fS (dA (pgS mx) (by omega)) h2⟩;simp only[List.mem_cons,List.not_mem_nil,or_false]at hx;rcases hx with rfl|rfl;exact⟨by kernel_rfl,cK (xU mx) (mE3 mx)⟩;exact⟨by kernel_rfl,cK (xU mx) (aNr mx)⟩
theorem mE4(mx:Int):bL (eM (pgS mx) (gI LW) 400) 413 mA4=some mR4:=by kernel_rfl
theorem aNq(mx:Int):bL (eM (pgS mx) (gI LW) 400) 413 aGn=some aGd:=by kernel_rfl
def LV:zZ:=LW++[(413,mA4,mR4),(413,aGn,aGd)]
theorem xR(mx:Int):∀x∈LV,x.2.2.tree=true/\bL (aV (pgS mx) (0+400+400+400)) x.1 x.2.1=some x.2.2:=by intro x hx;rcases List.mem_append.1 hx with hx|hx;obtain⟨h1,h2⟩:=(xS mx) x hx;exact⟨h1,fS (dA (pgS mx) (by omega)) h2⟩;simp only[List.mem_cons,List.not_mem_nil,or_false]at hx;rcases hx with rfl|rfl;exact⟨by kernel_rfl,cK (xS mx) (mE4 mx)⟩;exact⟨by kernel_rfl,cK (xS mx) (aNq mx)⟩
theorem mE5(mx:Int):bL (eM (pgS mx) (gI LV) 400) 394 mA5=some mR5:=by kernel_rfl
theorem aNp(mx:Int):bL (eM (pgS mx) (gI LV) 400) 394 aGm=some aGc:=by kernel_rfl
def LU:zZ:=LV++[(394,mA5,mR5),(394,aGm,aGc)]
theorem xQ(mx:Int):∀x∈LU,x.2.2.tree=true/\bL (aV (pgS mx) (0+400+400+400+400)) x.1 x.2.1=some x.2.2:=by intro x hx;rcases List.mem_append.1 hx with hx|hx;obtain⟨h1,h2⟩:=(xR mx) x hx;exact⟨h1,fS (dA (pgS mx) (by omega)) h2⟩;simp only[List.mem_cons,List.not_mem_nil,or_false]at hx;rcases hx with rfl|rfl;exact⟨by kernel_rfl,cK (xR mx) (mE5 mx)⟩;exact⟨by kernel_rfl,cK (xR mx) (aNp mx)⟩
theorem mE6(mx:Int):bL (eM (pgS mx) (gI LU) 400) 369 mA6=some mR6:=by kernel_rfl
theorem aNo(mx:Int):bL (eM (pgS mx) (gI LU) 400) 369 aGl=some aGb:=by kernel_rfl
def GH:zZ:=LU++[(369,mA6,mR6),(369,aGl,aGb)]
theorem rT(mx:Int):∀x∈GH,x.2.2.tree=true/\bL (aV (pgS mx) (0+400+400+400+400+400)) x.1 x.2.1=some x.2.2:=by intro x hx;rcases List.mem_append.1 hx with hx|hx;obtain⟨h1,h2⟩:=(xQ mx) x hx;exact⟨h1,fS (dA (pgS mx) (by omega)) h2⟩;simp only[List.mem_cons,List.not_mem_nil,or_false]at hx;rcases hx with rfl|rfl;exact⟨by kernel_rfl,cK (xQ mx) (mE6 mx)⟩;exact⟨by kernel_rfl,cK (xQ mx) (aNo mx)⟩
theorem aNn(mx:Int):bL (eM (pgS mx) (gI GH) 400) 295 aGk=some aGa:=by kernel_rfl
theorem aNk(mx:Int):bL (eM (pgS mx) (gI GH) 400) 109 aGh=some aFX:=by kernel_rfl
theorem aNi(mx:Int):bL (eM (pgS mx) (gI GH) 400) 109 aGf=some aFV:=by kernel_rfl
def LT:zZ:=GH++[(295,aGk,aGa),(109,aGh,aFX),(109,aGf,aFV)]
theorem xP(mx:Int):∀x∈LT,x.2.2.tree=true/\bL (aV (pgS mx) (0+400+400+400+400+400+400)) x.1 x.2.1=some x.2.2:=by intro x hx;rcases List.mem_append.1 hx with hx|hx;obtain⟨h1,h2⟩:=(rT mx) x hx;exact⟨h1,fS (dA (pgS mx) (by omega)) h2⟩;simp only[List.mem_cons,List.not_mem_nil,or_false]at hx;rcases hx with rfl|rfl|rfl;exact⟨by kernel_rfl,cK (rT mx) (aNn mx)⟩;exact⟨by kernel_rfl,cK (rT mx) (aNk mx)⟩;exact⟨by kernel_rfl,cK (rT mx) (aNi mx)⟩
theorem aNl(mx:Int):bL (eM (pgS mx) (gI LT) 400) 277 aGi=some aFY:=by kernel_rfl
theorem aNj(mx:Int):bL (eM (pgS mx) (gI LT) 400) 279 aGg=some aFW:=by kernel_rfl
def YO:zZ:=LT++[(277,aGi,aFY),(279,aGg,aFW)]
theorem QO(mx:Int):∀x∈YO,x.2.2.tree=true/\bL (aV (pgS mx) (0+400+400+400+400+400+400+400)) x.1 x.2.1=some x.2.2:=by intro x hx;rcases List.mem_append.1 hx with hx|hx;obtain⟨h1,h2⟩:=(xP mx) x hx;exact⟨h1,fS (dA (pgS mx) (by omega)) h2⟩;simp only[List.mem_cons,List.not_mem_nil,or_false]at hx;rcases hx with rfl|rfl;exact⟨by kernel_rfl,cK (xP mx) (aNl mx)⟩;exact⟨by kernel_rfl,cK (xP mx) (aNj mx)⟩
theorem O6(mx:Int):bL (eM (pgS mx) (gI YO) 400) 266 []=some (.bool true):=by kernel_rfl
theorem aEJ(mx:Int):Ret (pgS mx) 266 [] (.bool true):=⟨0+400+400+400+400+400+400+400+400,cK (QO mx) (O6 mx)⟩
end Go.Proofs
end
