import Derived.Test.YtagdhpkdbdilaaaGreatDoorSAY
import Derived.Test.YtagdhpkdbdilaaaGreatDoorSAS
import Derived.Test.YtagdhpkdbdilaaaGreatDoorSAX
set_option linter.all false
namespace Go.Tev
section
section
variable{pg:Pg}
theorem c123(hf:pg.fs 123=some D5)(h40:pg.fs 40=some GD)(h164:∀v:Int,∀p:aE,p.ok->∀(nl cl:Bool) (vars:List Str),vars.length+p.sz<=big->Ret pg 164 [p.av,.sl nl (vars.map Str.av) cl,.int .i64 v] (.bool (iI v p vars)))
  (p:aE) (hp:p.ok) (nl cl:Bool) (vars:List Str) (hb:vars.length+p.sz<=big) (v:Int):Ret pg 123 [p.av,.sl nl (vars.map Str.av) cl,.int .i64 v] (.bool (iK p vars v)):=by
 have a1:=c40 h40 p hp;have a2:=h164 v p hp nl cl vars hb;rw[aE.avc]at a1 a2;refine Ret.ofX hf ?_;clear h40 h164;unfold D5;refine Wk ?_;refine aG a1 ?_;cases c1:decide (jA p<=4000);simp only[c1,go_sem,seval];simp[iK,c1];simp only[c1,go_sem,seval];refine aG a2 (Wk ?_);simp[iK,c1]
end
end
section
section
variable{pg:Pg}
theorem c572(hf:pg.fs 572=some vK)(nl cl:Bool)(vars:List Str)(hb:vars.length<=big)(s:List UInt8):Ret pg 572 [.sl nl (vars.map Str.av) cl,.str s] (.bool (cN vars s)):=by
 refine Ret.ofX hf ?_;unfold vK;refine Wk ?_;refine aY vars (λd r env hp=>env=sS (.sl nl (vars.map Str.av) cl) (.str s) (.int .i64 d.length)/\cN vars s=cN r s) ?_ ?_ ?_;exact⟨rfl,rfl⟩;rintro env hp ⟨rfl,hI⟩;simp only[sR,sS,bA,go_sem,seval];rw[hI];rfl;rintro d x r env hp hes ⟨rfl,hI⟩;obtain⟨hget,e1,e2,ew⟩:=cM hes hb;have hsym:decide (x.bs=s)=decide (s=x.bs):=by rw[cJ];exact eq_comm
 cases hx:decide (s=x.bs);simp only[sR,sS,e1,e2,hget,hsym,hx,ew,go_sem,seval];refine⟨rfl,?_⟩;rw[hI];simp[cN,hx];simp only[sR,sS,e1,e2,hget,hsym,hx,go_sem,seval];rw[hI];simp[cN,hx]
theorem c595(hf:pg.fs 595=some x9)(l:Lin):bZ pg 595 [l.av] (wJ 1 false (l.ts.es.map λx => .str x.v.bs)):=by
 refine bZ.ofX hf ?_;have hb:=l.ts.ok
 have hel:∀d:List aN,∀x∈d.map (λx:aN=>AV.str x.v.bs),El 1 false x:=by intro d x hx;simp only[List.mem_map]at hx;obtain⟨y,_,rfl⟩:=hx;exact El.str _
 unfold x9;refine Wk ?_;refine aY l.ts.es (λd r env hp=>∃v,env=AY (.pt 1 0 0) v (.int .i64 d.length)/\hp.get 1=some (0,.blk [.int .i64 l.c,.sl l.ts.nl (l.ts.es.map aN.av) l.ts.cl] 2 true true false)/\Own hp 5 1 false v (d.map λx => .str x.v.bs)) ?_ ?_ ?_;exact⟨_,rfl,rfl,Own.nil _ _ _ _ _ _ rfl⟩;rintro env hp ⟨v,rfl,h1,ho⟩;simp only[AX,AY,h1,bA,go_sem,seval];exact ho.conv (hel _);rintro d x r env hp hes ⟨v,rfl,h1,ho⟩;obtain⟨hget,e1,e2,ew⟩:=cM hes hb;simp only[AX,AY,h1,e1,e2,hget,go_sem,seval];refine nA (kb:=0) (s:=5) (bytes:=16) (es:=d.map λx => .str x.v.bs) ho (hel _) (xs:=[.str x.v.bs]) (by intro y hy;simp at hy;subst hy;exact El.str _) ?_ (by decide) ?_;have:l.ts.es.length=d.length+(r.length+1):=by rw[hes];simp
 simp[big]at hb ⊢;omega;intro v' rd pa ho' hk hpa;simp only[ew,go_sem,seval];exact⟨v',rfl,by rw[hk 1 (by omega)];exact h1,by simpa using ho'⟩
theorem c573(hf:pg.fs 573=some DT)(h54:∀l:Lin,Ret pg 54 [l.av] (.bool (gC l)))(h595:pg.fs 595=some x9)(h572:pg.fs 572=some vK)(l:Lin)(nl cl:Bool)(vars:List Str)(hb:vars.length<=big) :
  Ret pg 573 [l.av,.sl nl (vars.map Str.av) cl] (.bool (jZ vars l)):=by
 have a1:=h54 l;have a2:=c595 h595 l;rw[Lin.avc]at a1 a2;refine Ret.ofX hf ?_;unfold DT;refine Wk ?_;refine aG (a1) ?_;cases b1:gC l;refine Wk ?_;simp[jZ,b1];refine Wk ?_;refine aTd a2 (by simp only[go_sem,seval]) ?_;intro nl2 cl2 _;refine Wk ?_;have hlb:=l.ts.ok;refine aY l.ts.es (λd r env hp=>env=A4 (.sl nl (vars.map Str.av) cl) (.sl nl2 (l.ts.es.map λx => .str x.v.bs) cl2) (.int .i64 d.length)/\l.ts.es.all (λx=>cN vars x.v.bs)=r.all (λx=>cN vars x.v.bs)) ?_ ?_ ?_;exact⟨rfl,rfl⟩;rintro env hp ⟨rfl,hI⟩;simp only[A3,A4,bA,go_sem,seval];simp[jZ,b1,hI];rintro d x r env hp hes ⟨rfl,hI⟩;obtain⟨hget,e1,e2,ew⟩:=cM hes hlb;simp only[A3,A4,e1,e2,hget,go_sem,seval];refine aG (c572 h572 nl cl vars hb x.v.bs) ?_;cases hv:cN vars x.v.bs;refine Wk ?_;simp[jZ,b1,hI,hv];simp only[ew,go_sem,seval];exact⟨rfl,by rw[hI];simp[hv]⟩
theorem c574(hf:pg.fs 574=some DS)(h118:∀p q:aE,p.ok->Ret pg 118 [p.av,q.av] (.bool (bT p q)))(p:aE)(hp:p.ok):Ret pg 574 [p.av] (.bool (bT p kD)):=by have a4:=h118 p kD hp;rw[aE.avc]at a4;have z4:kD.av=_:=aE.avc kD;refine Ret.ofX hf ?_;unfold DS;refine Wk ?_;refine aG a4 ?_;simp only[go_sem,seval]
theorem gW(x:Lin)(r:List Lin)(vars:List Str):bW (x::r) vars=(jZ vars x&&bW r vars):=by simp[bW,jZ]
end
end
end Go.Tev
