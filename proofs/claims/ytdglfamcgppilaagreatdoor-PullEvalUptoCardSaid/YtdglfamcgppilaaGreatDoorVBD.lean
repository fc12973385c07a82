import Derived.Test.YtdglfamcgppilaaGreatDoorVAX
import Derived.Test.YtdglfamcgppilaaGreatDoorVBC
import Derived.Test.YtdglfamcgppilaaGreatDoorVAI
import Derived.Test.YtdglfamcgppilaaGreatDoorVAM
import Derived.Test.YtdglfamcgppilaaGreatDoorVAZ
import Derived.Test.YtdglfamcgppilaaGreatDoorVAR
set_option linter.all false
namespace Go.Tev
section
section
variable{pg:Pg}
end
end
section
def jB(n:Int):Int:=wr .i64 (wr .i32 n)
def eY(b:Bool):Int:=if b then 1 else 0
def lA(a b:Int):Int:=if b=0 then 0 else if a.tmod b=0 then wr .i64 (a.tdiv b) else if decide (a<0)=decide (b<0) then wr .i64 (a.tdiv b) else wr .i64 (wr .i64 (a.tdiv b)-1)
private theorem bft:(false==true)=false:=rfl
private theorem btf:(true==false)=false:=rfl
section
variable{pg:Pg}
theorem c338(hf:pg.fs 338=some yY)(n:Int):Ret pg 338 [.int .i64 n] (.int .i64 (jB n)):=by refine Ret.ofX hf ?_;unfold yY;simp only[jB,go_sem,seval]
theorem c950(hf:pg.fs 950=some vF)(n:Int):Ret pg 950 [.int .i64 n] (.int .i64 (jB n)):=by refine Ret.ofX hf ?_;unfold vF;simp only[jB,go_sem,seval]
theorem c444(hf:pg.fs 444=some yT)(b:Bool):Ret pg 444 [.bool b] (.int .i64 (eY b)):=by refine Ret.ofX hf ?_;unfold yT;cases b<;>simp only[eY,go_sem,seval]
theorem c965(hf:pg.fs 965=some yP)(b:Bool):Ret pg 965 [.bool b] (.int .i64 (eY b)):=by refine Ret.ofX hf ?_;unfold yP;cases b<;>simp only[eY,go_sem,seval]
theorem c405(hf:pg.fs 405=some BR)(a b:Int):Ret pg 405 [.int .i64 a,.int .i64 b] (.int .i64 (lA a b)):=by
 refine Ret.ofX hf ?_;unfold BR;by_cases h0:b=0;subst h0;simp only[lA,go_sem,seval];have h1:decide (b=0)=false:=by simp[h0]
 by_cases h2:a.tmod b=0<;>cases h3:decide (a<0)<;>cases h4:decide (b<0)<;>simp only[lA,h0,h1,h2,h3,h4,bft,btf,go_sem,seval]
theorem c966(hf:pg.fs 966=some BK)(a b:Int):Ret pg 966 [.int .i64 a,.int .i64 b] (.int .i64 (lA a b)):=by
 refine Ret.ofX hf ?_;unfold BK;by_cases h0:b=0;subst h0;simp only[lA,go_sem,seval];have h1:decide (b=0)=false:=by simp[h0]
 by_cases h2:a.tmod b=0<;>cases h3:decide (a<0)<;>cases h4:decide (b<0)<;>simp only[lA,h0,h1,h2,h3,h4,bft,btf,go_sem,seval]
end
end
section
def tG(op:List UInt8)(a:Int):Int:=
 bif decide (op=[110,101,103]) then jB (wr .i64 (0-a)) else
 bif decide (op=[97,98,115]) then (if a<0 then jB (wr .i64 (0-a)) else a) else
 bif decide (op=[115,105,103,110]) then wr .i64 (eY (decide (0<a))-eY (decide (a<0))) else
 bif decide (op=[110,111,116]) then wr .i64 (1-a) else
 a
def i8(op:List UInt8)(a b:Int):Int:=
 bif decide (op=[97,100,100]) then jB (wr .i64 (a+b)) else
 bif decide (op=[115,117,98]) then jB (wr .i64 (a-b)) else
 bif decide (op=[109,117,108]) then jB (wr .i64 (a*b)) else
 bif decide (op=[100,105,118]) then jB (lA a b) else
 bif decide (op=[109,111,100]) then (if b=0 then 0 else wr .i64 (a-wr .i64 (b*lA a b))) else
 bif decide (op=[109,105,110]) then (if b<a then b else a) else
 bif decide (op=[109,97,120]) then (if a<b then b else a) else
 bif decide (op=[108,116]) then eY (decide (a<b)) else
 bif decide (op=[108,101]) then eY (decide (a<=b)) else
 bif decide (op=[103,116]) then eY (decide (b<a)) else
 bif decide (op=[103,101]) then eY (decide (b<=a)) else
 bif decide (op=[101,113]) then eY (decide (a=b)) else
 bif decide (op=[110,101]) then eY (!decide (a=b)) else
 bif decide (op=[120,111,114]) then eY (!decide (a=b)) else
 bif decide (op=[97,110,100]) then wr .i64 (a*b) else
 (if a<b then b else a)
section
variable{pg:Pg}
set_option maxRecDepth 100000 in
theorem c960(hf:pg.fs 960=some G4)(h950:pg.fs 950=some vF)(h965:pg.fs 965=some yP)(op:List UInt8)(a:Int):Ret pg 960 [.str op,.int .i64 a] (.int .i64 (tG op a)):=by
 refine Ret.ofX hf ?_;unfold G4;cases d0:decide (op=[110,101,103])
 rotate_left
 simp only[tG,d0,go_sem,seval];refine aC (c950 h950 (wr .i64 (0-a))) ?_;simp only[tG,d0,go_sem,seval];cases d1:decide (op=[97,98,115])
 rotate_left
 by_cases h:a<0;have dh:decide (a<0)=true:=by simp[h]
 simp only[tG,d0,d1,h,dh,go_sem,seval];refine aC (c950 h950 (wr .i64 (0-a))) ?_;simp only[tG,d0,d1,h,dh,go_sem,seval];have dh:decide (a<0)=false:=by simp[h]
 simp only[tG,d0,d1,h,dh,go_sem,seval];cases d2:decide (op=[115,105,103,110])
 rotate_left
 simp only[tG,d0,d1,d2,go_sem,seval];refine aC (c965 h965 (decide (0<a))) ?_;simp only[tG,d0,d1,d2,go_sem,seval];refine aC (c965 h965 (decide (a<0))) ?_;simp only[tG,d0,d1,d2,go_sem,seval];cases d3:decide (op=[110,111,116])
 rotate_left
 simp only[tG,d0,d1,d2,d3,go_sem,seval];simp only[tG,d0,d1,d2,d3,gJ,max2,go_sem,seval]
set_option maxRecDepth 100000 in
theorem c961(hf:pg.fs 961=some G3)(h950:pg.fs 950=some vF)(h965:pg.fs 965=some yP)(h966:pg.fs 966=some BK)(op:List UInt8)(a b:Int):Ret pg 961 [.str op,.int .i64 a,.int .i64 b] (.int .i64 (i8 op a b)):=by
 refine Ret.ofX hf ?_;unfold G3;cases d0:decide (op=[97,100,100])
 rotate_left
 simp only[i8,d0,go_sem,seval];refine aC (c950 h950 (wr .i64 (a+b))) ?_;simp only[i8,d0,go_sem,seval];cases d1:decide (op=[115,117,98])
 rotate_left
 simp only[i8,d0,d1,go_sem,seval];refine aC (c950 h950 (wr .i64 (a-b))) ?_;simp only[i8,d0,d1,go_sem,seval];cases d2:decide (op=[109,117,108])
 rotate_left
 simp only[i8,d0,d1,d2,go_sem,seval];refine aC (c950 h950 (wr .i64 (a*b))) ?_;simp only[i8,d0,d1,d2,go_sem,seval];cases d3:decide (op=[100,105,118])
 rotate_left
 simp only[i8,d0,d1,d2,d3,go_sem,seval];refine aC (c966 h966 a b) ?_;simp only[i8,d0,d1,d2,d3,go_sem,seval];refine aC (c950 h950 (lA a b)) ?_;simp only[i8,d0,d1,d2,d3,go_sem,seval];cases d4:decide (op=[109,111,100])
 rotate_left
 by_cases h:b=0;have dh:decide (b=0)=true:=by simp[h]
 simp only[i8,d0,d1,d2,d3,d4,h,dh,go_sem,seval];have dh:decide (b=0)=false:=by simp[h]
 simp only[i8,d0,d1,d2,d3,d4,h,dh,go_sem,seval];refine aC (c966 h966 a b) ?_;simp only[i8,d0,d1,d2,d3,d4,h,dh,go_sem,seval];cases d5:decide (op=[109,105,110])
 rotate_left
 simp only[i8,d0,d1,d2,d3,d4,d5,gJ,min2,max2,go_sem,seval];cases d6:decide (op=[109,97,120])
 rotate_left
 simp only[i8,d0,d1,d2,d3,d4,d5,d6,gJ,min2,max2,go_sem,seval];cases d7:decide (op=[108,116])
 rotate_left
 simp only[i8,d0,d1,d2,d3,d4,d5,d6,d7,go_sem,seval];refine aC (c965 h965 (decide (a<b))) ?_;simp only[i8,d0,d1,d2,d3,d4,d5,d6,d7,go_sem,seval];cases d8:decide (op=[108,101])
 rotate_left
 simp only[i8,d0,d1,d2,d3,d4,d5,d6,d7,d8,go_sem,seval];refine aC (c965 h965 (decide (a<=b))) ?_;simp only[i8,d0,d1,d2,d3,d4,d5,d6,d7,d8,go_sem,seval];cases d9:decide (op=[103,116])
 rotate_left
 simp only[i8,d0,d1,d2,d3,d4,d5,d6,d7,d8,d9,go_sem,seval];refine aC (c965 h965 (decide (b<a))) ?_;simp only[i8,d0,d1,d2,d3,d4,d5,d6,d7,d8,d9,go_sem,seval];cases d10:decide (op=[103,101])
 rotate_left
 simp only[i8,d0,d1,d2,d3,d4,d5,d6,d7,d8,d9,d10,go_sem,seval];refine aC (c965 h965 (decide (b<=a))) ?_;simp only[i8,d0,d1,d2,d3,d4,d5,d6,d7,d8,d9,d10,go_sem,seval];cases d11:decide (op=[101,113])
 rotate_left
 simp only[i8,d0,d1,d2,d3,d4,d5,d6,d7,d8,d9,d10,d11,go_sem,seval];refine aC (c965 h965 (decide (a=b))) ?_;simp only[i8,d0,d1,d2,d3,d4,d5,d6,d7,d8,d9,d10,d11,go_sem,seval];cases d12:decide (op=[110,101])
 rotate_left
 simp only[i8,d0,d1,d2,d3,d4,d5,d6,d7,d8,d9,d10,d11,d12,go_sem,seval];refine aC (c965 h965 (!decide (a=b))) ?_;simp only[i8,d0,d1,d2,d3,d4,d5,d6,d7,d8,d9,d10,d11,d12,go_sem,seval];cases d13:decide (op=[120,111,114])
 rotate_left
 simp only[i8,d0,d1,d2,d3,d4,d5,d6,d7,d8,d9,d10,d11,d12,d13,go_sem,seval];refine aC (c965 h965 (!decide (a=b))) ?_;simp only[i8,d0,d1,d2,d3,d4,d5,d6,d7,d8,d9,d10,d11,d12,d13,go_sem,seval];cases d14:decide (op=[97,110,100])
 rotate_left
 simp only[i8,d0,d1,d2,d3,d4,d5,d6,d7,d8,d9,d10,d11,d12,d13,d14,go_sem,seval];simp only[i8,d0,d1,d2,d3,d4,d5,d6,d7,d8,d9,d10,d11,d12,d13,d14,gJ,max2,go_sem,seval]
end
end
section
def eF(x:Int)(p:List UInt8):Bool:=bif decide (p=[98,111,111,108]) then eG x else bR x
def eS(op:List UInt8)(xs:List Int):Bool:=
 match fK op with
 |none=>false
 |some p=>eqL eF xs p.params
def cR(op:List UInt8):List Int->Int
 |[a]=>tG op a
 |[a,b]=>i8 op a b
 |a::b::c::_=>bif decide (a=1) then b else c
 |[]=>0
def eQ(op:List UInt8)(xs:List Int):AV:=.tup [.int .i64 (bif eS op xs then cR op xs else 0),.bool (eS op xs)]
theorem P8{op:List UInt8}{p:pO}(h:fK op=some p):p.params.length=1\/p.params.length=2\/p.params.length=3:=by
 have all:∀p∈iJ,p.params.length=1\/p.params.length=2\/p.params.length=3:=by decide
 exact all p (List.mem_of_find?_eq_some h)
section
variable{pg:Pg}
set_option maxRecDepth 100000 in
theorem c954(hf:pg.fs 954=some G8)(h124:pg.fs 124=some l9)(h125:∀op,cB pg 125 [.str op] (gK op))(h960:∀op a,Ret pg 960 [.str op,.int .i64 a] (.int .i64 (tG op a)))(h961:∀op a b,Ret pg 961 [.str op,.int .i64 a,.int .i64 b] (.int .i64 (i8 op a b)))
  (op:List UInt8) (nl cl:Bool) (xs:List Int) (hb:xs.length<=big):Ret pg 954 [.str op,.sl nl (xs.map aE) cl] (eQ op xs):=by
 refine Ret.ofX hf ?_;unfold G8;obtain⟨r,hr,hP⟩:=h125 op;unfold gK at hP;cases hp:fK op with
 |none=>
  rw[hp]at hP;simp only at hP;subst hP;have hB:eS op xs=false:=by simp[eS,hp]
  refine Wk ?_;refine aC (hr) ?_;simp only[eQ,hB,go_sem,seval]
 |some p=>
  rw[hp]at hP;simp only at hP;obtain⟨pn,pc,rfl⟩:=hP;have hB:eS op xs=eqL eF xs p.params:=by simp[eS,hp]
  have hl3:=P8 hp;generalize p.params=ps at *;refine Wk ?_;refine aC (hr) ?_;cases b2:decide ((ps.length:Int)=(xs.length:Int))
  case false=>
   have hB':eS op xs=false:=by rw[hB];exact tZ (by simp at b2 ⊢;omega)
   simp only[b2,eQ,hB',go_sem,seval]
  case true=>
  have hl:xs.length=ps.length:=by have:=aG b2;omega
  simp only[b2,go_sem,seval];refine aM xs (λd r env hp=>env=wD (.str op) (.sl nl (xs.map aE) cl) (.sl pn (ps.map .str) pc) (.int .i64 d.length)/\eS op xs=eqL eF r (ps.drop d.length)) ?_ ?_ ?_;exact⟨rfl,hB⟩;rintro env hp ⟨rfl,hI⟩;have hB':eS op xs=true:=by rw[hI,lP hl]
  simp only[wC,wD,aY,go_sem,seval];rcases xs with _|⟨a,_|⟨b,_|⟨c,_|⟨d,s⟩⟩⟩⟩
  simp at hl;omega;refine Wk ?_;refine aC (h960 op a) ?_;simp only[eQ,hB',cR,go_sem,seval];refine Wk ?_;refine aC (h961 op a b) ?_;simp only[eQ,hB',cR,go_sem,seval];kernel_rfl;cases ha:decide (a=1)<;>simp only[ha,eQ,hB',cR,go_sem,seval];simp at hl;omega;rintro d x r env hp hes ⟨rfl,hI⟩;obtain⟨hget,e1,e2,ew⟩:=cG hes hb;obtain⟨y,gy,f1,f2,hq⟩:=AR (q:=eF) hes hl;rw[hq]at hI;cases hy:decide (y=[98,111,111,108]);have hQ:eF x y=bR x:=by simp only[eF,hy,cond_false]
  rw[hQ]at hI;simp only[wC,wD,e1,e2,hget,gy,f1,f2,hy,go_sem,seval];refine aC (IM h124 x) ?_;cases hx:bR x;rw[hx]at hI;simp only[eQ,hI,go_sem,seval];rw[hx]at hI;simp only[ew,go_sem,seval];exact⟨rfl,by simpa using hI⟩;have hQ:eF x y=eG x:=by simp only[eF,hy,cond_true]
  rw[hQ]at hI;simp only[wC,wD,e1,e2,hget,gy,f1,f2,hy,go_sem,seval];refine aC (SQ h124 x) ?_;cases hx:eG x;rw[hx]at hI;simp only[eQ,hI,go_sem,seval];rw[hx]at hI;simp only[ew,go_sem,seval];exact⟨rfl,by simpa using hI⟩
end
end
section
def nY(op:List UInt8)(a b:Int):Int:=
 bif decide (op=[108,116]) then eY (decide (a<b)) else
 bif decide (op=[108,101]) then eY (decide (a<=b)) else
 bif decide (op=[103,116]) then eY (decide (b<a)) else
 bif decide (op=[103,101]) then eY (decide (b<=a)) else
 bif decide (op=[101,113]) then eY (decide (a=b)) else
 eY (!decide (a=b))
section
variable{pg:Pg}
set_option maxRecDepth 100000 in
theorem c407(hf:pg.fs 407=some BP)(h444:pg.fs 444=some yT)(op:List UInt8)(a b:Int):Ret pg 407 [.str op,.int .i64 a,.int .i64 b] (.int .i64 (nY op a b)):=by
 refine Ret.ofX hf ?_;unfold BP;cases d0:decide (op=[108,116])
 rotate_left
 simp only[nY,d0,go_sem,seval];refine aC (c444 h444 (decide (a<b))) ?_;simp only[nY,d0,go_sem,seval];cases d1:decide (op=[108,101])
 rotate_left
 simp only[nY,d0,d1,go_sem,seval];refine aC (c444 h444 (decide (a<=b))) ?_;simp only[nY,d0,d1,go_sem,seval];cases d2:decide (op=[103,116])
 rotate_left
 simp only[nY,d0,d1,d2,go_sem,seval];refine aC (c444 h444 (decide (b<a))) ?_;simp only[nY,d0,d1,d2,go_sem,seval];cases d3:decide (op=[103,101])
 rotate_left
 simp only[nY,d0,d1,d2,d3,go_sem,seval];refine aC (c444 h444 (decide (b<=a))) ?_;simp only[nY,d0,d1,d2,d3,go_sem,seval];cases d4:decide (op=[101,113])
 rotate_left
 simp only[nY,d0,d1,d2,d3,d4,go_sem,seval];refine aC (c444 h444 (decide (a=b))) ?_;simp only[nY,d0,d1,d2,d3,d4,go_sem,seval];simp only[nY,d0,d1,d2,d3,d4,gJ,max2,go_sem,seval];refine aC (c444 h444 (!decide (a=b))) ?_;simp only[nY,d0,d1,d2,d3,d4,gJ,max2,go_sem,seval]
def NL(a b:Int):Int:=if a<b then -1 else if b<a then 1 else 0
theorem c190(hf:pg.fs 190=some zA)(a:Int):Ret pg 190 [.int .i64 a] (.bool false):=by refine Ret.ofX hf ?_;unfold zA;simp only[go_sem,seval]
theorem c406(hf:pg.fs 406=some BQ)(h190:pg.fs 190=some zA)(a b:Int):Ret pg 406 [.int .i64 a,.int .i64 b] (.int .i64 (NL a b)):=by
 refine Ret.ofX hf ?_;unfold BQ;refine Wk ?_;refine aC (c190 h190 a) (Wk ?_);refine aC (c190 h190 b) ?_;by_cases h1:a<b;have d1:decide (a<b)=true:=by simp[h1]
 simp only[NL,h1,d1,go_sem,seval];have d1:decide (a<b)=false:=by simp[h1]
 by_cases h2:b<a;have d2:decide (b<a)=true:=by simp[h2]
 simp only[NL,h1,d1,h2,d2,go_sem,seval];have d2:decide (b<a)=false:=by simp[h2]
 simp only[NL,h1,d1,h2,d2,go_sem,seval]
end
end
section
section
variable{pg:Pg}
set_option maxRecDepth 100000 in
set_option maxHeartbeats 4000000 in
theorem c385(hf:pg.fs 385=some HL)(h338:pg.fs 338=some yY)(h405:pg.fs 405=some BR)(h406:pg.fs 406=some BQ)(h190:pg.fs 190=some zA)(h407:pg.fs 407=some BP)(h444:pg.fs 444=some yT)
  (op:List UInt8) (nl cl:Bool) (xs:List Int) (hB:eS op xs=true):Ret pg 385 [.str op,.sl nl (xs.map aE) cl] (.int .i64 (cR op xs)):=by
 refine Ret.ofX hf ?_;unfold HL;cases d0:decide (op=[97,100,100])
 rotate_left
 ·have e:=aG d0;have hk:eqL eF xs [[105,110,116],[105,110,116]]=true:=by rw[e]at hB;exact hB
  rcases xs with _|⟨a,_|⟨b,_|⟨z,s⟩⟩⟩
  simp[eqL]at hk;simp[eqL]at hk
  ·have hv:cR op [a,b]=jB (wr .i64 (a+b)):=by rw[e];rfl
   simp only[d0,hv,go_sem,seval];refine aC (c338 h338 (wr .i64 (a+b))) ?_;simp only[d0,hv,go_sem,seval]
   try kernel_rfl
  simp[eqL]at hk
 cases d1:decide (op=[115,117,98])
 rotate_left
 ·have e:=aG d1;have hk:eqL eF xs [[105,110,116],[105,110,116]]=true:=by rw[e]at hB;exact hB
  rcases xs with _|⟨a,_|⟨b,_|⟨z,s⟩⟩⟩
  simp[eqL]at hk;simp[eqL]at hk
  ·have hv:cR op [a,b]=jB (wr .i64 (a-b)):=by rw[e];rfl
   simp only[d0,d1,hv,go_sem,seval];refine aC (c338 h338 (wr .i64 (a-b))) ?_;simp only[d0,d1,hv,go_sem,seval]
   try kernel_rfl
  simp[eqL]at hk
 cases d2:decide (op=[109,117,108])
 rotate_left
 ·have e:=aG d2;have hk:eqL eF xs [[105,110,116],[105,110,116]]=true:=by rw[e]at hB;exact hB
  rcases xs with _|⟨a,_|⟨b,_|⟨z,s⟩⟩⟩
  simp[eqL]at hk;simp[eqL]at hk
  ·have hv:cR op [a,b]=jB (wr .i64 (a*b)):=by rw[e];rfl
   simp only[d0,d1,d2,hv,go_sem,seval];refine aC (c338 h338 (wr .i64 (a*b))) ?_;simp only[d0,d1,d2,hv,go_sem,seval]
   try kernel_rfl
  simp[eqL]at hk
 cases d3:decide (op=[100,105,118])
 rotate_left
 ·have e:=aG d3;have hk:eqL eF xs [[105,110,116],[105,110,116]]=true:=by rw[e]at hB;exact hB
  rcases xs with _|⟨a,_|⟨b,_|⟨z,s⟩⟩⟩
  simp[eqL]at hk;simp[eqL]at hk
  ·have hv:cR op [a,b]=jB (lA a b):=by rw[e];rfl
   simp only[d0,d1,d2,d3,hv,go_sem,seval];refine aC (c405 h405 a b) ?_;simp only[d0,d1,d2,d3,hv,go_sem,seval];refine aC (c338 h338 (lA a b)) ?_;simp only[d0,d1,d2,d3,hv,go_sem,seval]
   try kernel_rfl
  simp[eqL]at hk
 cases d4:decide (op=[109,111,100])
 rotate_left
 ·have e:=aG d4;have hk:eqL eF xs [[105,110,116],[105,110,116]]=true:=by rw[e]at hB;exact hB
  rcases xs with _|⟨a,_|⟨b,_|⟨z,s⟩⟩⟩
  simp[eqL]at hk;simp[eqL]at hk
  ·have hv:cR op [a,b]=if b=0 then 0 else wr .i64 (a-wr .i64 (b*lA a b)):=by rw[e];rfl
   by_cases h:b=0
   ·have dh:decide (b=0)=true:=by simp[h]
    have hv0:=hv.trans (if_pos h);simp only[d0,d1,d2,d3,d4,hv0,dh,go_sem,seval]
    try kernel_rfl
   ·have hv1:=hv.trans (if_neg h);have dh:decide (b=0)=false:=by simp[h]
    simp only[d0,d1,d2,d3,d4,dh,go_sem,seval];refine aC (c405 h405 a b) ?_;simp only[d0,d1,d2,d3,d4,hv1,dh,go_sem,seval]
    try kernel_rfl
  simp[eqL]at hk
 cases d5:decide (op=[109,105,110])
 rotate_left
 have e:=aG d5;have hk:eqL eF xs [[105,110,116],[105,110,116]]=true:=by rw[e]at hB;exact hB
 rcases xs with _|⟨a,_|⟨b,_|⟨z,s⟩⟩⟩
 simp[eqL]at hk;simp[eqL]at hk;have hv:cR op [a,b]=if b<a then b else a:=by rw[e];rfl
 simp only[d0,d1,d2,d3,d4,d5,hv,gJ,min2,go_sem,seval]
 first|rfl|(show bM _ _ _=true;kernel_rfl)|(constructor<;>first|rfl|kernel_rfl)
 simp[eqL]at hk;cases d6:decide (op=[97,110,100])
 rotate_left
 have e:=aG d6;have hk:eqL eF xs [[98,111,111,108],[98,111,111,108]]=true:=by rw[e]at hB;exact hB
 rcases xs with _|⟨a,_|⟨b,_|⟨z,s⟩⟩⟩
 simp[eqL]at hk;simp[eqL]at hk;have hv:cR op [a,b]=if b<a then b else a:=by rw[e];have hk2:(eG a&&(eG b&&true))=true:=hk;simp only[eG,Bool.and_true,aD,Bool.or_eq_true,aQ]at hk2;rcases hk2 with ⟨rfl|rfl,rfl|rfl⟩<;>rfl
 simp only[d0,d1,d2,d3,d4,d5,d6,hv,gJ,min2,go_sem,seval]
 first|rfl|(show bM _ _ _=true;kernel_rfl)|(constructor<;>first|rfl|kernel_rfl)
 simp[eqL]at hk;cases d7:decide (op=[109,97,120])
 rotate_left
 have e:=aG d7;have hk:eqL eF xs [[105,110,116],[105,110,116]]=true:=by rw[e]at hB;exact hB
 rcases xs with _|⟨a,_|⟨b,_|⟨z,s⟩⟩⟩
 simp[eqL]at hk;simp[eqL]at hk;have hv:cR op [a,b]=if a<b then b else a:=by rw[e];rfl
 simp only[d0,d1,d2,d3,d4,d5,d6,d7,hv,gJ,max2,go_sem,seval]
 first|rfl|(show bM _ _ _=true;kernel_rfl)|(constructor<;>first|rfl|kernel_rfl)
 simp[eqL]at hk;cases d8:decide (op=[111,114])
 rotate_left
 have e:=aG d8;have hk:eqL eF xs [[98,111,111,108],[98,111,111,108]]=true:=by rw[e]at hB;exact hB
 rcases xs with _|⟨a,_|⟨b,_|⟨z,s⟩⟩⟩
 simp[eqL]at hk;simp[eqL]at hk;have hv:cR op [a,b]=if a<b then b else a:=by rw[e];rfl
 simp only[d0,d1,d2,d3,d4,d5,d6,d7,d8,hv,gJ,max2,go_sem,seval]
 first|rfl|(show bM _ _ _=true;kernel_rfl)|(constructor<;>first|rfl|kernel_rfl)
 simp[eqL]at hk;cases d9:decide (op=[110,101,103])
 rotate_left
 ·have e:=aG d9;have hk:eqL eF xs [[105,110,116]]=true:=by rw[e]at hB;exact hB
  rcases xs with _|⟨a,_|⟨z,s⟩⟩
  simp[eqL]at hk
  ·have hv:cR op [a]=jB (wr .i64 (0-a)):=by rw[e];rfl
   simp only[d0,d1,d2,d3,d4,d5,d6,d7,d8,d9,hv,go_sem,seval];refine aC (c338 h338 (wr .i64 (0-a))) ?_;simp only[d0,d1,d2,d3,d4,d5,d6,d7,d8,d9,hv,go_sem,seval]
   try kernel_rfl
  simp[eqL]at hk
 cases d10:decide (op=[97,98,115])
 rotate_left
 ·have e:=aG d10;have hk:eqL eF xs [[105,110,116]]=true:=by rw[e]at hB;exact hB
  rcases xs with _|⟨a,_|⟨z,s⟩⟩
  simp[eqL]at hk
  ·have hv:cR op [a]=jB (if a<wr .i64 (0-a) then wr .i64 (0-a) else a):=by
    have hk2:(bR a&&true)=true:=hk;simp only[bR,Bool.and_true,aD,aQ]at hk2;have hv0:cR [97,98,115] [a]=(if a<0 then jB (wr .i64 (0-a)) else a):=rfl;have w1:wr .i64 (0-a)=0-a:=by simp only[wr];rw[if_pos (by omega)]
    have w3:wr .i32 a=a:=by simp only[wr];rw[if_pos (by omega)]
    have w2:jB a=a:=by simp only[jB,w3];simp only[wr];rw[if_pos (by omega)]
    rw[e,hv0,w1];split<;>split<;>first|rfl|(exact w2.symm)|(exfalso;omega)
   simp only[d0,d1,d2,d3,d4,d5,d6,d7,d8,d9,d10,hv,gJ,max2,go_sem,seval];refine aC (c338 h338 (if a<wr .i64 (0-a) then wr .i64 (0-a) else a)) ?_;simp only[d0,d1,d2,d3,d4,d5,d6,d7,d8,d9,d10,hv,gJ,max2,go_sem,seval]
   try kernel_rfl
  simp[eqL]at hk
 cases d11:decide (op=[115,105,103,110])
 rotate_left
 ·have e:=aG d11;have hk:eqL eF xs [[105,110,116]]=true:=by rw[e]at hB;exact hB
  rcases xs with _|⟨a,_|⟨z,s⟩⟩
  simp[eqL]at hk
  ·have hv:cR op [a]=NL a 0:=by
    rw[e];show wr .i64 (eY (decide (0<a))-eY (decide (a<0)))=_;simp only[eY,NL];by_cases h1:a<0;have h2:¬ 0<a:=by omega
    simp[h1,h2];rfl;by_cases h2:0<a;simp[h1,h2];rfl;simp[h1,h2];rfl
   simp only[d0,d1,d2,d3,d4,d5,d6,d7,d8,d9,d10,d11,hv,go_sem,seval];refine aC (c406 h406 h190 a 0) ?_;simp only[d0,d1,d2,d3,d4,d5,d6,d7,d8,d9,d10,d11,hv,go_sem,seval]
   try kernel_rfl
  simp[eqL]at hk
 cases d12:decide (op=[120,111,114])
 rotate_left
 have e:=aG d12;have hk:eqL eF xs [[98,111,111,108],[98,111,111,108]]=true:=by rw[e]at hB;exact hB
 rcases xs with _|⟨a,_|⟨b,_|⟨z,s⟩⟩⟩
 simp[eqL]at hk;simp[eqL]at hk;have hk2:(eG a&&(eG b&&true))=true:=hk;simp only[eG,Bool.and_true,aD,Bool.or_eq_true,aQ]at hk2;have hv:cR op [a,b]=eY (!decide (a=b)):=by rw[e];rfl
 rcases hk2 with ⟨rfl|rfl,rfl|rfl⟩<;>(simp only[d0,d1,d2,d3,d4,d5,d6,d7,d8,d9,d10,d11,d12,hv,go_sem,seval];exact⟨by kernel_rfl,by kernel_rfl⟩)
 simp[eqL]at hk;cases d13:decide (op=[110,111,116])
 rotate_left
 ·have e:=aG d13;have hk:eqL eF xs [[98,111,111,108]]=true:=by rw[e]at hB;exact hB
  rcases xs with _|⟨a,_|⟨z,s⟩⟩
  simp[eqL]at hk
  ·have hv:cR op [a]=wr .i64 (1-a):=by rw[e];rfl
   simp only[d0,d1,d2,d3,d4,d5,d6,d7,d8,d9,d10,d11,d12,d13,hv,go_sem,seval]
   try kernel_rfl
  simp[eqL]at hk
 cases d14:decide (op=[115,101,108,101,99,116])
 rotate_left
 ·have e:=aG d14;have hk:eqL eF xs [[98,111,111,108],[65],[65]]=true:=by rw[e]at hB;exact hB
  rcases xs with _|⟨a,_|⟨b,_|⟨c,_|⟨z,s⟩⟩⟩⟩
  simp[eqL]at hk;simp[eqL]at hk;simp[eqL]at hk
  ·have hk2:(eG a&&(bR b&&(bR c&&true)))=true:=hk;simp only[eG,Bool.and_true,aD,Bool.or_eq_true,aQ]at hk2;have hv:cR op [a,b,c]=bif decide (a=1) then b else c:=rfl;have w2:wr .i64 2=2:=rfl;have w1:wr .i64 1=1:=rfl;rcases hk2.1 with rfl|rfl<;>(simp only[d0,d1,d2,d3,d4,d5,d6,d7,d8,d9,d10,d11,d12,d13,d14,hv,w1,w2,go_sem,seval];try rfl)
  simp[eqL]at hk
 cases d15:decide (op=[116,111,105,110,116])
 rotate_left
 ·have e:=aG d15;have hk:eqL eF xs [[98,111,111,108]]=true:=by rw[e]at hB;exact hB
  rcases xs with _|⟨a,_|⟨z,s⟩⟩
  simp[eqL]at hk
  ·have hv:cR op [a]=a:=by rw[e];rfl
   simp only[d0,d1,d2,d3,d4,d5,d6,d7,d8,d9,d10,d11,d12,d13,d14,d15,hv,go_sem,seval]
   try kernel_rfl
  simp[eqL]at hk
 cases d16:decide (op=[108,116])
 rotate_left
 ·have e:=aG d16;have hk:eqL eF xs [[105,110,116],[105,110,116]]=true:=by rw[e]at hB;exact hB
  rcases xs with _|⟨a,_|⟨b,_|⟨z,s⟩⟩⟩
  simp[eqL]at hk;simp[eqL]at hk
  ·have hv:cR op [a,b]=nY op a b:=by rw[e];rfl
   simp only[d0,d1,d2,d3,d4,d5,d6,d7,d8,d9,d10,d11,d12,d13,d14,d15,hv,go_sem,seval];refine aC (c407 h407 h444 op a b) ?_;simp only[d0,d1,d2,d3,d4,d5,d6,d7,d8,d9,d10,d11,d12,d13,d14,d15,hv,go_sem,seval]
   try kernel_rfl
  simp[eqL]at hk
 cases d17:decide (op=[108,101])
 rotate_left
 ·have e:=aG d17;have hk:eqL eF xs [[105,110,116],[105,110,116]]=true:=by rw[e]at hB;exact hB
  rcases xs with _|⟨a,_|⟨b,_|⟨z,s⟩⟩⟩
  simp[eqL]at hk;simp[eqL]at hk
  ·have hv:cR op [a,b]=nY op a b:=by rw[e];rfl
   simp only[d0,d1,d2,d3,d4,d5,d6,d7,d8,d9,d10,d11,d12,d13,d14,d15,d16,hv,go_sem,seval];refine aC (c407 h407 h444 op a b) ?_;simp only[d0,d1,d2,d3,d4,d5,d6,d7,d8,d9,d10,d11,d12,d13,d14,d15,d16,hv,go_sem,seval]
   try kernel_rfl
  simp[eqL]at hk
 cases d18:decide (op=[103,116])
 rotate_left
 ·have e:=aG d18;have hk:eqL eF xs [[105,110,116],[105,110,116]]=true:=by rw[e]at hB;exact hB
  rcases xs with _|⟨a,_|⟨b,_|⟨z,s⟩⟩⟩
  simp[eqL]at hk;simp[eqL]at hk
  ·have hv:cR op [a,b]=nY op a b:=by rw[e];rfl
   simp only[d0,d1,d2,d3,d4,d5,d6,d7,d8,d9,d10,d11,d12,d13,d14,d15,d16,hv,go_sem,seval];refine aC (c407 h407 h444 op a b) ?_;simp only[d0,d1,d2,d3,d4,d5,d6,d7,d8,d9,d10,d11,d12,d13,d14,d15,d16,hv,go_sem,seval]
   try kernel_rfl
  simp[eqL]at hk
 cases d19:decide (op=[103,101])
 rotate_left
 ·have e:=aG d19;have hk:eqL eF xs [[105,110,116],[105,110,116]]=true:=by rw[e]at hB;exact hB
  rcases xs with _|⟨a,_|⟨b,_|⟨z,s⟩⟩⟩
  simp[eqL]at hk;simp[eqL]at hk
  ·have hv:cR op [a,b]=nY op a b:=by rw[e];rfl
   simp only[d0,d1,d2,d3,d4,d5,d6,d7,d8,d9,d10,d11,d12,d13,d14,d15,d16,hv,go_sem,seval];refine aC (c407 h407 h444 op a b) ?_;simp only[d0,d1,d2,d3,d4,d5,d6,d7,d8,d9,d10,d11,d12,d13,d14,d15,d16,hv,go_sem,seval]
   try kernel_rfl
  simp[eqL]at hk
 cases d20:decide (op=[101,113])
 rotate_left
 ·have e:=aG d20;have hk:eqL eF xs [[65],[65]]=true:=by rw[e]at hB;exact hB
  rcases xs with _|⟨a,_|⟨b,_|⟨z,s⟩⟩⟩
  simp[eqL]at hk;simp[eqL]at hk
  ·have hv:cR op [a,b]=nY op a b:=by rw[e];rfl
   simp only[d0,d1,d2,d3,d4,d5,d6,d7,d8,d9,d10,d11,d12,d13,d14,d15,d16,hv,go_sem,seval];refine aC (c407 h407 h444 op a b) ?_;simp only[d0,d1,d2,d3,d4,d5,d6,d7,d8,d9,d10,d11,d12,d13,d14,d15,d16,hv,go_sem,seval]
   try kernel_rfl
  simp[eqL]at hk
 cases d21:decide (op=[110,101])
 rotate_left
 ·have e:=aG d21;have hk:eqL eF xs [[65],[65]]=true:=by rw[e]at hB;exact hB
  rcases xs with _|⟨a,_|⟨b,_|⟨z,s⟩⟩⟩
  simp[eqL]at hk;simp[eqL]at hk
  ·have hv:cR op [a,b]=nY op a b:=by rw[e];rfl
   simp only[d0,d1,d2,d3,d4,d5,d6,d7,d8,d9,d10,d11,d12,d13,d14,d15,d16,hv,go_sem,seval];refine aC (c407 h407 h444 op a b) ?_;simp only[d0,d1,d2,d3,d4,d5,d6,d7,d8,d9,d10,d11,d12,d13,d14,d15,d16,hv,go_sem,seval]
   try kernel_rfl
  simp[eqL]at hk
 obtain⟨p,hp,e⟩:∃p∈iJ,op=p.op:=by unfold eS at hB;split at hB;simp at hB;rename_i p hp;exact⟨p,List.mem_of_find?_eq_some hp,(aG (List.find?_some hp :)).symm⟩
 have all:∀p∈iJ,(decide (p.op=[97,100,100])||decide (p.op=[115,117,98])||decide (p.op=[109,117,108])||decide (p.op=[100,105,118])||decide (p.op=[109,111,100])||decide (p.op=[109,105,110])||decide (p.op=[97,110,100])||decide (p.op=[109,97,120])||decide (p.op=[111,114])||decide (p.op=[110,101,103])||decide (p.op=[97,98,115])||decide (p.op=[115,105,103,110])||decide (p.op=[120,111,114])||decide (p.op=[110,111,116])||decide (p.op=[115,101,108,101,99,116])||decide (p.op=[116,111,105,110,116])||decide (p.op=[108,116])||decide (p.op=[108,101])||decide (p.op=[103,116])||decide (p.op=[103,101])||decide (p.op=[101,113])||decide (p.op=[110,101]))=true:=by decide
 have:=all p hp;rw[<-e]at this;simp only[d0,d1,d2,d3,d4,d5,d6,d7,d8,d9,d10,d11,d12,d13,d14,d15,d16,d17,d18,d19,d20,d21,Bool.or_self]at this;cases this
end
end
section
theorem I6{op:List UInt8}{p:pO}(h:fK op=some p):∀y∈p.params,y=[105,110,116]\/y=[98,111,111,108]\/y=[65]:=by
 have all:∀p∈iJ,∀y∈p.params,y=[105,110,116]\/y=[98,111,111,108]\/y=[65]:=by decide
 exact all p (List.mem_of_find?_eq_some h)
def j7(l:List Int)(ix:List Int):List Int:=ix.map λi=>l[i.toNat]?.getD 0
section
variable{pg:Pg}
set_option maxRecDepth 100000 in
theorem c344(hf:pg.fs 344=some HP)(h140:∀op,cB pg 140 [.str op] (gK op))(h148:pg.fs 148=some nG)
  (h385:∀op nl cl xs,eS op xs=true->Ret pg 385 [.str op,.sl nl (xs.map aE) cl] (.int .i64 (cR op xs)))
  (op:List UInt8) (nl cl:Bool) (xs:List Int) (hb:xs.length<=big):Ret pg 344 [.str op,.sl nl (xs.map aE) cl] (eQ op xs):=by
 refine Ret.ofX hf ?_;unfold HP;obtain⟨r,hr,hP⟩:=h140 op;unfold gK at hP;cases hp:fK op with
 |none=>
  rw[hp]at hP;simp only at hP;subst hP;have hB:eS op xs=false:=by simp[eS,hp]
  refine Wk ?_;refine aC (hr) ?_;simp only[eQ,hB,go_sem,seval]
 |some p=>
  rw[hp]at hP;simp only at hP;obtain⟨pn,pc,rfl⟩:=hP;have hB:eS op xs=eqL eF xs p.params:=by simp[eS,hp]
  have hel:=I6 hp;generalize p.params=ps at *;refine Wk ?_;refine aC (hr) ?_;cases b2:decide ((xs.length:Int)=(ps.length:Int))
  case false=>
   have hB':eS op xs=false:=by rw[hB];exact tZ (by simp at b2 ⊢;omega)
   simp only[b2,eQ,hB',go_sem,seval]
  case true=>
  have hl:xs.length=ps.length:=by have:=aG b2;omega
  simp only[b2,go_sem,seval];refine aM xs (λd r env hp=>env=ES (.str op) (.sl nl (xs.map aE) cl) (.sl pn (ps.map .str) pc) (.sl nl (xs.map aE) cl) (.int .i64 xs.length) (.int .i64 d.length)/\eS op xs=eqL eF r (ps.drop d.length)) ?_ ?_ ?_;exact⟨rfl,hB⟩;rintro env hp ⟨rfl,hI⟩;have hB':eS op xs=true:=by rw[hI,lP hl]
  simp only[EQ,ES,aY,go_sem,seval];refine aC (h385 op nl cl xs hB') ?_;simp only[eQ,hB',go_sem,seval];rintro d x r env hp hes ⟨rfl,hI⟩;obtain⟨hget,e1,e2,ew⟩:=cG hes hb;obtain⟨y,gy,f1,f2,hq⟩:=AR (q:=eF) hes hl;rw[hq]at hI;have hy:=hel y (List.mem_of_getElem? gy);simp only[EQ,ES,e1,e2,hget,gy,f1,f2,go_sem,seval];rcases hy with rfl|rfl|rfl;have hQ:eF x [105,110,116]=bR x:=rfl;rw[hQ]at hI;have dd:decide (([105,110,116]:List UInt8)=[65])=false:=rfl;simp only[dd,go_sem,seval];refine aC (CB h148 x) ?_;cases hx:bR x;rw[hx]at hI;simp only[eQ,hI,go_sem,seval];rw[hx]at hI;simp only[ew,go_sem,seval];exact⟨rfl,by simpa using hI⟩;have hQ:eF x [98,111,111,108]=eG x:=rfl;rw[hQ]at hI;have dd:decide (([98,111,111,108]:List UInt8)=[65])=false:=rfl;simp only[dd,go_sem,seval];refine aC (SP h148 x) ?_;cases hx:eG x;rw[hx]at hI;simp only[eQ,hI,go_sem,seval];rw[hx]at hI;simp only[ew,go_sem,seval];exact⟨rfl,by simpa using hI⟩;have hQ:eF x [65]=bR x:=rfl;rw[hQ]at hI;have dd:decide (([65]:List UInt8)=[65])=true:=rfl;simp only[dd,go_sem,seval];refine aC (CB h148 x) ?_;cases hx:bR x;rw[hx]at hI;simp only[eQ,hI,go_sem,seval];rw[hx]at hI;simp only[ew,go_sem,seval];exact⟨rfl,by simpa using hI⟩
theorem c358(hf:pg.fs 358=some BS)(nl cl:Bool)(l:List Int)(nl' cl':Bool)(ix:List Int)(hb:ix.length<=big)(hi:∀i∈ix,0<=i/\i<(l.length:Int)) :
  cB pg 358 [.sl nl (l.map aE) cl,.sl nl' (ix.map aE) cl'] (nK 1 false ((j7 l ix).map aE)):=by
 refine cB.ofX hf ?_;unfold BS;refine Wk ?_;refine aM ix (λd r env hp=>∃v,env=EL (.sl nl (l.map aE) cl) v (.sl nl' (ix.map aE) cl') (.int .i64 ix.length) (.int .i64 d.length)/\Own hp 1 1 false v ((j7 l d).map aE)) ?_ ?_ ?_;exact⟨_,rfl,Own.nil _ _ _ _ _ _ rfl⟩;rintro env hp ⟨v,rfl,ho⟩;simp only[EK,EL,go_sem,seval];exact ho.conv (El.ints _);rintro d x r env hp hes ⟨v,rfl,ho⟩;obtain⟨h0,hlt⟩:=hi x (by rw[hes];simp);obtain⟨hget,e1,e2,ew⟩:=cG hes hb;have hx1:(0<=x)=True:=eq_true h0;have hx2:(x<(l.length:Int))=True:=eq_true hlt;obtain⟨y,hy⟩:∃y,l[x.toNat]?=some y:=⟨l[x.toNat]'(by omega),bJ (by omega)⟩
 simp only[EK,EL,e1,e2,hget,hx1,hx2,hy,go_sem,seval];refine kN (kb:=0) (s:=1) (bytes:=8) (es:=(j7 l d).map aE) ho (El.ints _) (xs:=[.int .i64 y]) (by intro z hz;simp at hz;subst hz;exact⟨rfl,rfl,rfl⟩) ?_ (by decide) ?_;have:d.length<ix.length:=by rw[hes];simp
 simp only[j7,bD,List.length_singleton,big]at *;omega;intro v' rd pa ho' hk hpa;simp only[ew,go_sem,seval];exact⟨v',rfl,by simpa[j7,hy,aE] using ho'⟩
end
end
section
def iQ(s:aH):Bool:=decide (s.op.bs=[99,111,110,115,116])||decide (s.op.bs=[116,114,117,116,104])
def m8:List Int->List aH->Option (List Int)
 |l,[]=>some l
 |l,s::r=>bif iQ s then m8 (l++[s.num]) r else bif eS s.op.bs (j7 l s.args.es) then m8 (l++[cR s.op.bs (j7 l s.args.es)]) r else none
def GL(l:List Int):Int:=l.getLast?.getD 0
def lX(fn:List aH)(xs:List Int):Bool:=bK fn xs.length&&(xs.all bR&&(m8 xs fn).isSome)
def F2(fn:List aH)(xs:List Int):Int:=GL ((m8 xs fn).getD [])
def oH(fn:List aH)(xs:List Int):AV:=.tup [.int .i64 (bif lX fn xs then F2 fn xs else 0),.bool (lX fn xs)]
def Gr(h:Hp)(k:Nat)(v:AV)(es:List Int):Prop:=
 (∃nl cl,v = .sl nl (es.map aE) cl/\(nl||cl)=true)\/(∃e,v = .rf k e 0 es.length es.length/\h.get k=some (e,.blk (es.map aE) 1 false false false))
theorem rI:∀(es:List Int)(tl:List AV),iR 1 false es.length (es.map aE++tl)=some (es.map aE)
 |[],_=>rfl
 |x::r,tl=>by simp only[List.length_cons,iR,List.map_cons,List.cons_append,Bool.false_eq_true,if_false,aE,AV.isAgg];rw[rI r tl];rfl
theorem x9:∀es:List Int,u5 (es.map aE)=true
 |[]=>rfl
 |x::r=>by simp[u5,x9 r,aE,AV.flat]
theorem Gr.snap{h:Hp}{k:Nat}{v:AV}{es:List Int}(g:Gr h k v es):∃nl cl keys,Tev.snap depth h v=some (.sl nl (es.map aE) cl,keys)/\(keys=[]\/keys=[k]):=by
 rcases g with ⟨nl,cl,rfl,_⟩|⟨e,rfl,hg⟩
 refine⟨nl,cl,[],?_,.inl rfl⟩;have ht:(AV.sl nl (es.map aE) cl).tree=true:=by simp only[AV.tree,gO]
 show Tev.snap (63+1) h _=_;unfold Tev.snap;rw[if_pos ht];refine⟨false,false&&es.length==es.length,[k],?_,.inr rfl⟩;show Tev.snap (63+1) h _=_;have hc:iR 1 false es.length (es.map aE)=some (es.map aE):=by simpa using rI es []
 unfold Tev.snap;simp only[AV.tree,Bool.false_eq_true,if_false,hg,if_true,List.drop_zero,hc,dK 62 h (gO es),Option.map_some]
theorem Gr.mono{h h':Hp}{k:Nat}{v:AV}{es:List Int}(g:Gr h k v es)(hk:h'.get k=h.get k):Gr h' k v es:=by
 rcases g with g|⟨e,rfl,hg⟩
 exact .inl g;exact .inr ⟨e,rfl,hk.trans hg⟩
section
variable{pg:Pg}{kb:Nat}
theorem oG{bytes s k1:Nat}{h:Hp}{v:AV}{es:List Int}{x:Int}{nl cl:Bool}{Q:AV->Eff->Prop}{t:Tok Q}(o:Gr h k1 v es)(hl:es.length+1<=1073741824)(hb:bytes<=65536)
  (q:∀v' rd pa,Gr (Eff.app h (.pat rd pa)) (kb+s) v' (es++[x])->(∀k,k≠kb+s->k≠k1->(Eff.app h (.pat rd pa)).get k=h.get k)->Q v' (.pat rd pa)) :
  XO pg kb (.app 1 false bytes) s h [v,.sl nl [.int .i64 x] cl] Q t:=by
 rw[eT];have hsrc:aL h 1 false (.sl nl [.int .i64 x] cl)=some ([.int .i64 x],1,[]):=rfl;simp only[i6,hsrc];have hm:es.map aE++[AV.int .i64 x]=(es++[x]).map aE:=by simp[aE]
 rcases o with ⟨nl',cl',rfl,hc⟩|⟨e,rfl,hg⟩
 simp only[gF,Nat.one_ne_zero,if_false,hc,bD,hl,hb,decide_true,Bool.and_self,if_true,cM];refine q _ _ _ (.inr ⟨h.next (kb+s),by simp,?_⟩) ?_;rw[eI,aB,if_pos rfl,hm];intro k hk _;rw[eI,aB,if_neg (Ne.symm hk)];have h1:¬(es.length+1<=es.length):=by omega
 have ht:List.take es.length (es.map aE)=es.map aE:=List.take_of_length_le (by simp);by_cases hk1:k1=kb+s;subst hk1;simp only[gF,hg,Nat.one_ne_zero,if_false,true_and,Nat.zero_add,Nat.mul_one,bD,Nat.le_refl,if_true,h1,hl,hb,decide_true,Bool.true_and,beq_self_eq_true,Bool.not_true,Bool.and_false,Bool.false_eq_true,Bool.not_false,List.drop_zero,ht,hm];refine q _ _ _ (.inr ⟨e+1,by simp,?_⟩) ?_;rw[eI,aB,if_pos rfl];intro k hk _;rw[eI,aB,if_neg (Ne.symm hk)];have h2:(k1==kb+s)=false:=by simpa using hk1
 simp only[gF,hg,Nat.one_ne_zero,if_false,true_and,Nat.zero_add,Nat.mul_one,bD,Nat.le_refl,if_true,h1,hl,hb,decide_true,Bool.true_and,h2,Bool.not_false,Bool.false_eq_true,List.drop_zero,ht,hm];refine q _ _ _ (.inr ⟨h.next (kb+s),by simp,?_⟩) ?_;rw[lL,aB,if_pos rfl];intro k hk hk2;rw[lL,aB,if_neg (Ne.symm hk),aB,if_neg (Ne.symm hk2)]
theorem aEV{f s:Nat}{h:Hp}{vs ts:List AV}{keys:List Nat}{es:List Int}{Q:AV->Eff->Prop}{t:Tok Q}(hr:cB pg f ts (nK 1 false (es.map aE)))(hm:mapS (snap depth h) vs=some (ts,keys))
  (q:∀nl cl,(nl=true->es=[])->Q (.sl nl (es.map aE) cl) (.pat ((kb+s)::keys) [])):XO pg kb (.call f false false) s h vs Q t:=by
 obtain⟨r,hr,⟨he,nl,cl,rfl,hc⟩|rfl⟩:=hr;have he':es=[]:=by simpa using he
 subst he';refine gQ hr hm (v:=.sl nl [] cl) (pa:=[]) rfl ?_;exact q nl cl (λ_=>rfl);refine gQ hr hm (v:=.sl false (es.map aE) false) (pa:=[]) rfl ?_;have:(AV.os (es.map aE) 1 false).flat=true:=x9 es;rw[this];exact q false false (λh=>by cases h)
end
theorem nM:∀{fn:List aH}{n:Int}{d:List aH}{x:aH}{r:List aH},bQ n fn=true->fn=d++x::r->fF x (n+d.length)=true
 |_,n,[],x,r,h,rfl=>by simp only[List.nil_append,bQ,aD]at h;simpa using h.1
 |_,n,y::d,x,r,h,rfl=>by simp only[List.cons_append,bQ,aD]at h;have:=nM h.2 rfl;simp only[List.length_cons,Int.natCast_add,Int.natCast_one]at this ⊢;rw[show n+((d.length:Int)+1)=n+1+d.length by omega];exact this
theorem PX(h:Hp)(nl cl:Bool)(xs:List Int):iA h 1 false true true [.sl nl (xs.map aE) cl,.int .i64 xs.length,.int .i64 xs.length]=some (.sl nl (xs.map aE) true,.pat [] []):=by
 have hall:((xs.map aE).all λv=>v.cells.length==1)=true:=by rw[cO];intro x hx;simp only[List.mem_map]at hx;obtain⟨y,_,rfl⟩:=hx;rfl
 simp only[iA,iK,iI,Bool.false_eq_true,if_false,if_true,Option.getD_none,Option.getD_some,hall,Option.isSome_some,bD];rw[if_pos (by simp)];simp[val,List.take_of_length_le]
theorem AX{l:List Int}(h:l≠[]):l[(l.length-1)]?=some (GL l):=by
 rw[GL,List.getLast?_eq_getElem?];cases h2:l[l.length-1]? with
 |some y=>rfl
 |none=>rw[List.getElem?_eq_none_iff]at h2;have:=List.length_pos_iff.2 h;omega
section
variable{pg:Pg}
set_option maxRecDepth 100000 in
theorem c315(hf:pg.fs 315=some HS)(h148:pg.fs 148=some nG)(h70:∀nl cl (fn:List aH),fn.length<=big->∀n:Int,Ret pg 70 [.sl nl (fn.map aH.av) cl,.int .i64 n] (.bool (bK fn n)))
  (h344:∀op nl cl (xs:List Int),xs.length<=big->Ret pg 344 [.str op,.sl nl (xs.map aE) cl] (eQ op xs)) (h358:pg.fs 358=some BS)
  (nl cl:Bool) (fn:List aH) (hb:fn.length<=big) (nl' cl':Bool) (xs:List Int) (hx:xs.length<=big):Ret pg 315 [.sl nl (fn.map aH.av) cl,.sl nl' (xs.map aE) cl'] (oH fn xs):=by
 refine Ret.ofX hf ?_;unfold HS;refine Wk ?_;refine aC (h70 nl cl fn hb xs.length) ?_;cases hc:bK fn xs.length
 case false=>
  have:lX fn xs=false:=by simp[lX,hc]
  simp only[oH,this,go_sem,seval]
 have hc2:(xs.length:Int)<=20/\(fn.length:Int)<=60/\(xs.length+fn.length:Int)≠0/\bQ xs.length fn=true:=by simp only[bK,aD,aQ,iB,nL]at hc;exact⟨hc.1.1.1.2,hc.1.1.2,hc.1.2,hc.2⟩
 obtain⟨g1,g2,g3,hst⟩:=hc2;refine Wk ?_;refine aM xs (λd r env hp=>env=EZ (.sl nl (fn.map aH.av) cl) (.sl nl' (xs.map aE) cl') (.sl nl' (xs.map aE) cl') (.int .i64 xs.length) (.int .i64 d.length)/\xs.all bR=r.all bR) ?_ ?_ ?_;exact⟨rfl,rfl⟩;rintro env hp ⟨rfl,hA⟩;have hA:xs.all bR=true:=hA;have hB:lX fn xs=(m8 xs fn).isSome:=by simp[lX,hc,hA]
 simp only[EY,EZ,aY,↓PX,go_sem,seval];refine aM fn (λd r env hp=>∃v l,env=qE v (.sl nl (fn.map aH.av) cl) (.int .i64 fn.length) (.int .i64 d.length)/\Gr hp 21 v l/\l.length=xs.length+d.length/\m8 xs fn=m8 l r) ?_ ?_ ?_;exact⟨_,xs,rfl,.inl ⟨nl',true,rfl,by simp⟩,by simp,rfl⟩;rintro env hp ⟨v,l,rfl,hg,hl,hI⟩;have hne:l≠[]:=by intro h;subst h;simp at hl;omega
 have hpos:=List.length_pos_iff.2 hne;have hlast:=AX hne;have hI':m8 xs fn=some l:=hI;have hV:F2 fn xs=GL l:=by simp[F2,hI']
 have hB':lX fn xs=true:=by rw[hB,hI'];rfl
 have w1:wr .i64 ((l.length:Int)-1)=((l.length-1:Nat):Int):=by rw[fX (by omega) (by omega)];omega
 have w2:(((l.length-1:Nat):Int)<(l.length:Int))=True:=eq_true (by omega);have w3:l.length-1<l.length:=by omega
 rcases hg with ⟨n2,c2,rfl,_⟩|⟨e,rfl,hge⟩
 simp only[qD,qE,aY,w1,w2,hlast,oH,hB',hV,go_sem,seval];have w4:0+(l.length-1)*1=l.length-1:=by omega
 simp only[qD,qE,aY,w1,w2,hlast,oH,hB',hV,hge,w4,Option.map_some,go_sem,seval];rintro d x r env hp hes ⟨v,l,rfl,hg,hl,hI⟩;obtain⟨hget,e1,e2,ew⟩:=cG hes hb;have hxo:=nM hst hes;have hroom:l.length+1<=1073741824:=by have:=congrArg List.length hes;simp only[dZ,List.length_cons]at this;omega
 cases b1:decide (x.op.bs=[99,111,110,115,116])
 case true=>
  have hL:iQ x=true:=by simp[iQ,b1]
  simp only[qD,qE,e1,e2,hget,b1,go_sem,seval];refine oG (kb:=0) (s:=21) (k1:=21) (es:=l) (hg.mono ?_) hroom (by decide) ?_;simp only[go_sem,seval];intro v' rd pa ho' hk;simp only[ew,go_sem,seval];exact⟨v',l++[x.num],rfl,ho',by simp;omega,by rw[hI];simp[m8,hL]⟩
 cases b2:decide (x.op.bs=[116,114,117,116,104])
 case true=>
  have hL:iQ x=true:=by simp[iQ,b2]
  simp only[qD,qE,e1,e2,hget,b1,b2,go_sem,seval];refine oG (kb:=0) (s:=21) (k1:=21) (es:=l) (hg.mono ?_) hroom (by decide) ?_;simp only[go_sem,seval];intro v' rd pa ho' hk;simp only[ew,go_sem,seval];exact⟨v',l++[x.num],rfl,ho',by simp;omega,by rw[hI];simp[m8,hL]⟩
 have hL:iQ x=false:=by simp[iQ,b1,b2]
 have hix:∀i∈x.args.es,0<=i/\i<(l.length:Int):=by have n1:=aK b1;have n2:=aK b2;rw[fF,if_neg n1,if_neg n2]at hxo;split at hxo;cases hxo;simp only[aD,gE,cO,aQ]at hxo;intro i hi;have:=hxo.1.1 i hi;omega
 simp only[qD,qE,e1,e2,hget,b1,b2,go_sem,seval];generalize hH:((hp.put 9 _ _).put 9 _ _:Hp)=H;have hg':Gr H 21 v l:=hg.mono (by rw[<-hH,aB,if_neg (by decide),aB,if_neg (by decide)]);obtain⟨n2,c2,keys,hsn,hkeys⟩:=hg'.snap;have hm2:mapS (snap depth H) [.sl x.args.nl (x.args.es.map aE) x.args.cl]=some ([.sl x.args.nl (x.args.es.map aE) x.args.cl],[]):=dK 63 H (by simp only[treeL,AV.tree,gO,Bool.and_self]);have hm:mapS (snap depth H) [v,.sl x.args.nl (x.args.es.map aE) x.args.cl]=some ([.sl n2 (l.map aE) c2,.sl x.args.nl (x.args.es.map aE) x.args.cl],keys++[]):=by rw[cA,hsn];simp only[hm2]
 have hpl:(j7 l x.args.es).length<=big:=by simp only[j7,bD];exact x.args.ok
 refine aEV (kb:=0) (es:=j7 l x.args.es) (c358 h358 n2 c2 l _ _ _ x.args.ok hix) hm ?_;intro n3 c3 _;refine Wk ?_;refine aC (h344 x.op.bs n3 c3 (j7 l x.args.es) hpl) ?_;simp only[eQ,go_sem,seval];refine bI ?_;cases b3:eS x.op.bs (j7 l x.args.es);have hB':lX fn xs=false:=by rw[hB,hI];simp[m8,hL,b3]
 simp only[oH,hB',go_sem,seval];refine Wk ?_;refine oG (kb:=0) (s:=21) (k1:=21) (es:=l) (hg'.mono ?_) hroom (by decide) ?_;simp only[go_sem,seval];intro v' rd pa ho' hk;simp only[ew,go_sem,seval];exact⟨v',_,rfl,ho',by simp;omega,by rw[hI];simp[m8,hL,b3]⟩;rintro d x r env hp hes ⟨rfl,hA⟩;obtain⟨hget,e1,e2,ew⟩:=cG hes hx;simp only[EY,EZ,e1,e2,hget,go_sem,seval];refine aC (CB h148 x) ?_;cases hx:bR x;have hB:lX fn xs=false:=by simp[lX,hA,hx]
 simp only[oH,hB,go_sem,seval];simp only[ew,go_sem,seval];exact⟨rfl,by rw[hA];simp[hx]⟩
end
end
section
theorem Gr.at{h:Hp}{k:Nat}{v:AV}{es:List Int}{i x:Int}(g:Gr h k v es)(h0:0<=i)(hx:es[i.toNat]?=some x) :
  ∃p rd,yE 1 false none [v,.int .i64 i]=some (p,.pat [] [])/\tW h 1 false [p]=some (.int .i64 x,.pat rd []):=by
 have hlt:i<(es.length:Int):=by have:=(bS.1 hx).1;omega
 rcases g with ⟨nl,cl,rfl,_⟩|⟨e,rfl,hg⟩
 refine⟨.fp (.int .i64 x),[],?_,rfl⟩;simp only[yE,if_pos h0,List.getElem?_map,hx,Option.map_some,aE,AV.fits,Bool.not_false,Bool.true_and,beq_self_eq_true,if_true];rfl;refine⟨.pt k e (0+i.toNat*1),[k],?_,?_⟩;simp only[yE,if_pos (And.intro h0 hlt)];rfl;simp only[tW,hg,if_true,fL,Nat.zero_add,Nat.mul_one,Bool.false_eq_true,if_false,List.getElem?_map,hx,Option.map_some,aE]
theorem Gr.flen{h:Hp}{k:Nat}{v:AV}{es:List Int}(g:Gr h k v es)(h':Hp):u9 h' 1 [v]=some (.int .i64 es.length,.pat [] []):=by
 rcases g with ⟨nl,cl,rfl,_⟩|⟨e,rfl,hg⟩
 simp only[u9,bD];rfl;rfl
theorem Gr.snap1{h:Hp}{k:Nat}{v:AV}{es:List Int}(g:Gr h k v es):∃nl cl keys,mapS (Tev.snap depth h) [v]=some ([.sl nl (es.map aE) cl],keys)/\(keys=[]\/keys=[k]):=by obtain⟨nl,cl,keys,h1,h2⟩:=g.snap;refine⟨nl,cl,keys,?_,h2⟩;rw[cA,h1,fY];simp
theorem dS{h:Hp}{x:AV}{vs ts:List AV}{keys:List Nat}(hx:x.tree=true)(hm:mapS (snap depth h) vs=some (ts,keys)):mapS (snap depth h) (x::vs)=some (x::ts,keys):=by
 have e:snap depth h x=some (x,[]):=by show snap (63+1) h x=_;unfold snap;rw[if_pos hx]
 rw[cA,e,hm];rfl
section
variable{pg:Pg}{kb:Nat}
theorem dU{f s:Nat}{h:Hp}{vs ts:List AV}{keys:List Nat}{r:AV}{Q:AV->Eff->Prop}{t:Tok Q}(hr:Ret pg f ts r)(hm:mapS (snap depth h) vs=some (ts,keys))(hfl:r.flat=true)(hos:r.notOs=true)
  (q:Q r (.pat ((kb+s)::keys) [])):XO pg kb (.call f false false) s h vs Q t:=by
 refine gQ hr hm (v:=r) (pa:=[]) (by cases r<;>first|rfl|cases hos) ?_;rw[hfl];exact q
end
section
variable{pg:Pg}
theorem c959(hf:pg.fs 959=some G5)(h125:∀op,cB pg 125 [.str op] (gK op))(op:List UInt8):Ret pg 959 [.str op] (.bool (fK op).isSome):=by
 refine Ret.ofX hf ?_;unfold G5;obtain⟨r,hr,hP⟩:=h125 op;unfold gK at hP;cases hp:fK op with
 |none=>rw[hp]at hP;simp only at hP;subst hP;refine Wk ?_;refine aC (hr) ?_;simp only[go_sem,seval]
 |some p=>rw[hp]at hP;simp only at hP;obtain⟨pn,pc,rfl⟩:=hP;refine Wk ?_;refine aC (hr) ?_;simp only[go_sem,seval]
set_option maxRecDepth 100000 in
theorem c958(hf:pg.fs 958=some G6)(h124:pg.fs 124=some l9)(h87:∀nl cl (fn:List aH),fn.length<=big->∀n:Int,Ret pg 87 [.sl nl (fn.map aH.av) cl,.int .i64 n] (.bool (bK fn n)))
  (h954:∀op nl cl (xs:List Int),xs.length<=big->Ret pg 954 [.str op,.sl nl (xs.map aE) cl] (eQ op xs))
  (nl cl:Bool) (fn:List aH) (hb:fn.length<=big) (nl' cl':Bool) (xs:List Int) (hx:xs.length<=big):Ret pg 958 [.sl nl (fn.map aH.av) cl,.sl nl' (xs.map aE) cl'] (oH fn xs):=by
 refine Ret.ofX hf ?_;unfold G6;refine Wk ?_;refine aC (h87 nl cl fn hb xs.length) ?_;cases hc:bK fn xs.length
 case false=>
  have:lX fn xs=false:=by simp[lX,hc]
  simp only[oH,this,go_sem,seval]
 have hc2:(xs.length:Int)<=20/\(fn.length:Int)<=60/\(xs.length+fn.length:Int)≠0/\bQ xs.length fn=true:=by simp only[bK,aD,aQ,iB,nL]at hc;exact⟨hc.1.1.1.2,hc.1.1.2,hc.1.2,hc.2⟩
 obtain⟨g1,g2,g3,hst⟩:=hc2;refine Wk ?_;refine aM xs (λd r env hp=>∃v,env=DT (.sl nl (fn.map aH.av) cl) (.sl nl' (xs.map aE) cl') v (.int .i64 d.length)/\Gr hp 9 v d/\xs.all bR=r.all bR) ?_ ?_ ?_;exact⟨_,rfl,.inl ⟨true,true,rfl,rfl⟩,rfl⟩;rintro env hp ⟨v,rfl,hg,hA⟩;have hA:xs.all bR=true:=hA;have hB:lX fn xs=(m8 xs fn).isSome:=by simp[lX,hc,hA]
 simp only[DR,DT,aY,go_sem,seval];refine aM fn (λd r env hp=>∃v l k,env=sE (.sl nl (fn.map aH.av) cl) v (.int .i64 d.length)/\(k=9\/k=13\/k=25)/\Gr hp k v l/\l.length=xs.length+d.length/\m8 xs fn=m8 l r) ?_ ?_ ?_;exact⟨v,xs,9,rfl,.inl rfl,hg,by simp,rfl⟩;rintro env hp ⟨v,l,k,rfl,hk,hg,hl,hI⟩;have hne:l≠[]:=by intro h;subst h;simp at hl;omega
 have hpos:=List.length_pos_iff.2 hne;have hlast:=AX hne;have hI':m8 xs fn=some l:=hI;have hV:F2 fn xs=GL l:=by simp[F2,hI']
 have hB':lX fn xs=true:=by rw[hB,hI'];rfl
 have w1:wr .i64 ((l.length:Int)-1)=((l.length-1:Nat):Int):=by rw[fX (by omega) (by omega)];omega
 obtain⟨p,rd,a1,a2⟩:=hg.at (i:=((l.length-1:Nat):Int)) (by omega) (by simpa using hlast);have a3:=hg.flen hp;simp only[sD,sE,aY,↓a3,w1,↓a1,↓a2,oH,hB',hV,go_sem,seval];rintro d x r env hp hes ⟨v,l,k,rfl,hk,hg,hl,hI⟩;obtain⟨hget,e1,e2,ew⟩:=cG hes hb;have hxo:=nM hst hes;have hroom:l.length+1<=1073741824:=by have:=congrArg List.length hes;simp only[dZ,List.length_cons]at this;omega
 cases b1:decide (x.op.bs=[99,111,110,115,116])
 case true=>
  have hL:iQ x=true:=by simp[iQ,b1]
  simp only[sD,sE,e1,e2,hget,b1,go_sem,seval];refine oG (kb:=0) (s:=13) (k1:=k) (es:=l) hg hroom (by decide) ?_;intro v' rd pa ho' hk;simp only[ew,go_sem,seval];exact⟨v',l++[x.num],13,rfl,.inr (.inl rfl),ho',by simp;omega,by rw[hI];simp[m8,hL]⟩
 cases b2:decide (x.op.bs=[116,114,117,116,104])
 case true=>
  have hL:iQ x=true:=by simp[iQ,b2]
  simp only[sD,sE,e1,e2,hget,b1,b2,go_sem,seval];refine oG (kb:=0) (s:=13) (k1:=k) (es:=l) hg hroom (by decide) ?_;intro v' rd pa ho' hk;simp only[ew,go_sem,seval];exact⟨v',l++[x.num],13,rfl,.inr (.inl rfl),ho',by simp;omega,by rw[hI];simp[m8,hL]⟩
 have hL:iQ x=false:=by simp[iQ,b1,b2]
 have hix:∀i∈x.args.es,0<=i/\i<(l.length:Int):=by have n1:=aK b1;have n2:=aK b2;rw[fF,if_neg n1,if_neg n2]at hxo;split at hxo;cases hxo;simp only[aD,gE,cO,aQ]at hxo;intro i hi;have:=hxo.1.1 i hi;omega
 simp only[sD,sE,e1,e2,hget,b1,b2,go_sem,seval];refine aM x.args.es (λd2 r2 env hp=>∃v2,env=DS (.sl nl (fn.map aH.av) cl) v (.int .i64 d.length) v2 (.int .i64 d2.length)/\Gr hp k v l/\Gr hp 17 v2 (j7 l d2)) ?_ ?_ ?_;exact⟨_,rfl,hg,.inl ⟨true,true,rfl,rfl⟩⟩;rintro env hp ⟨v2,rfl,hg,hg2⟩;have hpl:(j7 l x.args.es).length<=big:=by simp only[j7,bD];exact x.args.ok
 obtain⟨n3,c3,keys,hsn,hkeys⟩:=hg2.snap1;simp only[DQ,DS,aY,e2,hget,go_sem,seval];refine dU (kb:=0) (h954 x.op.bs n3 c3 _ hpl) (dS rfl hsn) rfl rfl ?_;simp only[eQ,go_sem,seval];cases b3:eS x.op.bs (j7 l x.args.es);have hB':lX fn xs=false:=by rw[hB,hI];simp[m8,hL,b3]
 simp only[oH,hB',go_sem,seval];refine Wk ?_;refine oG (kb:=0) (s:=25) (k1:=k) (es:=l) hg hroom (by decide) ?_;intro v' rd pa ho' hk;simp only[ew,go_sem,seval];exact⟨v',_,25,rfl,.inr (.inr rfl),ho',by simp;omega,by rw[hI];simp[m8,hL,b3]⟩;rintro d2 y r2 env hp hes2 ⟨v2,rfl,hg,hg2⟩;obtain⟨hget2,f1,f2,fw⟩:=cG hes2 x.args.ok;obtain⟨y0,y1⟩:=hix y (by rw[hes2];simp);obtain⟨z,hz⟩:∃z,l[y.toNat]?=some z:=⟨l[y.toNat]'(by omega),bJ (by omega)⟩
 obtain⟨p,rd,a1,a2⟩:=hg.at y0 hz;have hd2:d2.length<x.args.es.length:=by rw[hes2];simp
 have hax:=x.args.ok;simp only[DQ,DS,f1,f2,e2,hget,hget2,↓a1,↓a2,go_sem,seval];refine oG (kb:=0) (s:=17) (k1:=17) (es:=j7 l d2) hg2 (by simp only[j7,bD,big]at *;omega) (by decide) ?_;intro v' rd pa ho' hk2;simp only[fw,go_sem,seval];exact⟨v',rfl,hg.mono (hk2 k (by omega) (by omega)),by simpa[j7,hz] using ho'⟩;rintro d x r env hp hes ⟨v,rfl,hg,hA⟩;obtain⟨hget,e1,e2,ew⟩:=cG hes hx;simp only[DR,DT,e1,e2,hget,go_sem,seval];refine aC (IM h124 x) ?_;cases hx:bR x;have hB:lX fn xs=false:=by simp[lX,hA,hx]
 simp only[oH,hB,go_sem,seval];simp only[e1,e2,hget,go_sem,seval];refine oG (kb:=0) (s:=9) (k1:=9) (es:=d) hg (by have:=congrArg List.length hes;simp only[dZ,List.length_cons]at this;omega) (by decide) ?_;intro v' rd pa ho' hk;simp only[ew,go_sem,seval];exact⟨v',rfl,ho',by rw[hA];simp[hx]⟩
end
end
section
def aGq(n:Int):List UInt8:=if n<0 then [] else 105::pJ 20 n.toNat
section
variable{pg:Pg}
end
end
section
def Asc(l:List Int):Prop:=l.Pairwise (· < ·)
theorem M6(x:Int):∀l:List Int,Asc l->Asc (fC x l)
 |[],_=>by simp[fC,Asc]
 |y::r,h=>by obtain⟨h1,h2⟩:=List.pairwise_cons.1 h;simp only[fC];by_cases h3:y<x;simp only[h3,decide_true,if_true];refine List.pairwise_cons.2 ⟨λz hz=>?_,M6 x r h2⟩;rcases (xW r).1 hz with rfl|hz;exact h3;exact h1 z hz;simp only[h3,decide_false,Bool.false_eq_true,if_false];by_cases h4:y=x;simp only[h4,decide_true,if_true];exact h4 ▸ h;simp only[h4,decide_false,Bool.false_eq_true,if_false];refine List.pairwise_cons.2 ⟨λz hz=>?_,h⟩;rcases List.mem_cons.1 hz with rfl|hz;omega;have:=h1 z hz;omega
theorem zH:∀(l acc:List Int),Asc acc->Asc (eE acc l)
 |[],acc,h=>h
 |x::r,acc,h=>by simp only[eE,List.foldl_cons];exact zH r _ (M6 x acc h)
theorem zG:∀(l:List aA)(acc:List Int),Asc acc->Asc (cD acc l)
 |[],acc,h=>h
 |p::r,acc,h=>by rw[cD];exact zG r _ (zH _ _ h)
theorem O8(p:aA):Asc (cE p):=by rw[tC];refine zG _ _ ?_;split;simp[fC,Asc];simp[Asc]
theorem zI:∀l:List Int,l.Pairwise (· <= ·)->Asc (bU l)
 |[],_=>by simp[bU,Asc]
 |[x],_=>by simp[bU,Asc]
 |x::y::r,h=>by obtain⟨h1,h2⟩:=List.pairwise_cons.1 h;have ih:=zI (y::r) h2;simp only[bU];split;exact ih;rename_i hne;refine List.pairwise_cons.2 ⟨λz hz=>?_,ih⟩;have hz2:=(j0 z (y::r)).1 hz;have h3:=h1 y (by simp);rcases List.mem_cons.1 hz2 with rfl|hz3;omega;have:=(List.pairwise_cons.1 h2).1 z hz3;omega
theorem K9:∀(a b:List Int),Asc a->Asc b->(∀x,x∈a↔x∈b)->a=b
 |[],[],_,_,_=>rfl
 |[],y::s,_,_,h=>by have:=(h y).2 (by simp);simp at this
 |x::r,[],_,_,h=>by have:=(h x).1 (by simp);simp at this
 |x::r,y::s,ha,hb,h=>by
  obtain⟨a1,a2⟩:=List.pairwise_cons.1 ha;obtain⟨b1,b2⟩:=List.pairwise_cons.1 hb;have hxy:x=y:=by have p1:=(h x).1 (by simp);have p2:=(h y).2 (by simp);rcases List.mem_cons.1 p1 with e|q1;exact e;rcases List.mem_cons.1 p2 with e|q2;exact e.symm;have:=b1 x q1;have:=a1 y q2;omega
  subst hxy;congr 1;refine K9 r s a2 b2 λz=>⟨λhz=>?_,λhz=>?_⟩
  rcases List.mem_cons.1 ((h z).1 (cC _ hz)) with e|q;have:=a1 z hz;omega;exact q;rcases List.mem_cons.1 ((h z).2 (cC _ hz)) with e|q;have:=b1 z hz;omega;exact q
theorem oZ(p:aA):cX p=cE p:=by refine K9 _ _ (zI _ (lG _)) (O8 p) λx=>?_;rw[cX,j0,kK,xV]
end
section
def aEv(i:Nat)(l:Lin):Bool:=decide (l.c=0)&&match l.ts.es with
 |[t]=>decide (t.v.bs=aGq i)&&decide (t.c=1)
 |_=>false
def P9:Nat->List Lin->Bool
 |_,[]=>true
 |i,l::r=>aEv i l&&P9 (i+1) r
def aFN(p:aA)(rank:Int):Bool := !p.dyn&&(decide ((p.at_.es.length:Int)=rank)&&P9 0 p.at_.es)
def aNb(v rank:Int)(p:aA):Bool := !(decide (p.op.bs=[114,101,97,100])&&(decide (p.value=v) && !aFN p rank))
mutual
def aNa(v rank:Int):aA->Bool
 |.mk op num value name at_ dyn check fn knl kids kcl=>aNb v rank (.mk op num value name at_ dyn check fn knl kids kcl)&&YM v rank kids
def YM(v rank:Int):List aA->Bool
 |[]=>true
 |p::r=>aNa v rank p&&YM v rank r
end
end
end Go.Tev
