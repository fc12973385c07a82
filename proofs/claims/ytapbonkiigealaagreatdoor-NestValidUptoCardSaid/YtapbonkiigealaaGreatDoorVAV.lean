import Derived.Test.YtapbonkiigealaaGreatDoorVAU
import Derived.Test.YtapbonkiigealaaGreatDoorVAN
set_option linter.all false
section
namespace Go.Tev
section
variable {pg:Pg}
theorem c123 (hf:pg.fs 123=some cf123) (h40:pg.fs 40=some cf40) (h164:∀ v:Int,∀ p:Pull,p.ok→∀ (nl cl:Bool) (vars:List Str),vars.length+p.sz≤big→Ret pg 164 [p.av,.sl nl (vars.map Str.av) cl,.int .i64 v] (.bool (validU v p vars)))
  (p:Pull) (hp:p.ok) (nl cl:Bool) (vars:List Str) (hb:vars.length+p.sz≤big) (v:Int):Ret pg 123 [p.av,.sl nl (vars.map Str.av) cl,.int .i64 v] (.bool (pullOK p vars v)):=by
 have a1:=c40 h40 p hp
 have a2:=h164 v p hp nl cl vars hb
 rw [Pull.avc] at a1 a2
 refine Ret.ofX hf ?_
 clear h40 h164
 unfold cf123
 simp only [go_sem,seval]
 refine XO_tree a1 (by simp only [go_sem,seval]) rfl ?_
 cases c1:decide (nodesU p≤4000)
 ·simp only [c1,go_sem,seval]
  simp [pullOK,c1]
 ·simp only [c1,go_sem,seval]
  refine XO_tree a2 (by simp only [go_sem,seval]) rfl ?_
  simp only [go_sem,seval]
  simp [pullOK,c1]
end
end Go.Tev
end
section
namespace Go.Tev
section
variable {pg:Pg}
theorem c572 (hf:pg.fs 572=some cf572) (nl cl:Bool) (vars:List Str) (hb:vars.length≤big) (s:List UInt8):Ret pg 572 [.sl nl (vars.map Str.av) cl,.str s] (.bool (hasS vars s)):=by
 refine Ret.ofX hf ?_
 unfold cf572
 simp only [go_sem,seval]
 refine XX_list vars (fun d r env hp=>env=cf572E0 (.sl nl (vars.map Str.av) cl) (.str s) (.int .i64 d.length)∧hasS vars s=hasS r s) ?_ ?_ ?_
 ·exact ⟨rfl,rfl⟩
 ·rintro env hp ⟨rfl,hI⟩
  simp only [cf572L0,cf572E0,ltSelf,go_sem,seval]
  rw [hI];rfl
 ·rintro d x r env hp hes ⟨rfl,hI⟩
  obtain ⟨hget,e1,e2,ew⟩:=loopF hes hb
  have hsym:decide (x.bs=s)=decide (s=x.bs):=by rw [decide_eq_decide];exact eq_comm
  cases hx:decide (s=x.bs)
  ·simp only [cf572L0,cf572E0,e1,e2,hget,hsym,hx,ew,go_sem,seval]
   refine ⟨rfl,?_⟩
   rw [hI];simp [hasS,hx]
  ·simp only [cf572L0,cf572E0,e1,e2,hget,hsym,hx,go_sem,seval]
   rw [hI];simp [hasS,hx]
theorem c595 (hf:pg.fs 595=some cf595) (l:Lin):RetP pg 595 [l.av] (IsSl 1 false (l.ts.es.map fun x => .str x.v.bs)):=by
 refine RetP.ofX hf ?_
 have hb:=l.ts.ok
 have hel:∀ d:List Coef,∀ x∈d.map (fun x:Coef=>AV.str x.v.bs),El 1 false x:=by
  intro d x hx
  simp only [List.mem_map] at hx
  obtain ⟨y,_,rfl⟩:=hx
  exact El.str _
 unfold cf595
 simp only [go_sem,seval]
 refine XX_list l.ts.es (fun d r env hp=>∃ v,env=cf595E0 (.pt 1 0 0) v (.int .i64 d.length)∧hp.get 1=some (0,.blk [.int .i64 l.c,.sl l.ts.nl (l.ts.es.map Coef.av) l.ts.cl] 2 true true false)∧Own hp 5 1 false v (d.map fun x => .str x.v.bs)) ?_ ?_ ?_
 ·exact ⟨_,rfl,rfl,Own.nil _ _ _ _ _ _ rfl⟩
 ·rintro env hp ⟨v,rfl,h1,ho⟩
  simp only [cf595L0,cf595E0,h1,ltSelf,go_sem,seval]
  exact ho.conv (hel _)
 ·rintro d x r env hp hes ⟨v,rfl,h1,ho⟩
  obtain ⟨hget,e1,e2,ew⟩:=loopF hes hb
  simp only [cf595L0,cf595E0,h1,e1,e2,hget,go_sem,seval]
  refine XO_own (kb:=0) (s:=5) (bytes:=16) (es:=d.map fun x => .str x.v.bs) ho (hel _) (xs:=[.str x.v.bs]) (by intro y hy;simp at hy;subst hy;exact El.str _) ?_ (by decide) ?_
  ·have:l.ts.es.length=d.length+(r.length+1):=by rw [hes];simp
   simp [big] at hb ⊢;omega
  ·intro v' rd pa ho' hk hpa
   simp only [ew,go_sem,seval]
   exact ⟨v',rfl,by rw [hk 1 (by omega)];exact h1,by simpa using ho'⟩
theorem c573 (hf:pg.fs 573=some cf573) (h54:∀ l:Lin,Ret pg 54 [l.av] (.bool (linOK l))) (h595:pg.fs 595=some cf595) (h572:pg.fs 572=some cf572) (l:Lin) (nl cl:Bool) (vars:List Str) (hb:vars.length≤big) :
  Ret pg 573 [l.av,.sl nl (vars.map Str.av) cl] (.bool (linIn vars l)):=by
 have a1:=h54 l
 have a2:=c595 h595 l
 rw [Lin.avc] at a1 a2
 refine Ret.ofX hf ?_
 unfold cf573
 simp only [go_sem,seval]
 refine XO_tree (a1) (by simp only [go_sem,seval]) rfl ?_
 cases b1:linOK l
 ·simp only [go_sem,seval]
  simp [linIn,b1]
 simp only [go_sem,seval]
 refine XO_sl a2 (by simp only [go_sem,seval]) ?_
 intro nl2 cl2 _
 simp only [go_sem,seval]
 have hlb:=l.ts.ok
 refine XX_list l.ts.es (fun d r env hp=>env=cf573E0 (.sl nl (vars.map Str.av) cl) (.sl nl2 (l.ts.es.map fun x => .str x.v.bs) cl2) (.int .i64 d.length)∧l.ts.es.all (fun x=>hasS vars x.v.bs)=r.all (fun x=>hasS vars x.v.bs)) ?_ ?_ ?_
 ·exact ⟨rfl,rfl⟩
 ·rintro env hp ⟨rfl,hI⟩
  simp only [cf573L0,cf573E0,ltSelf,go_sem,seval]
  simp [linIn,b1,hI]
 ·rintro d x r env hp hes ⟨rfl,hI⟩
  obtain ⟨hget,e1,e2,ew⟩:=loopF hes hlb
  simp only [cf573L0,cf573E0,e1,e2,hget,go_sem,seval]
  refine XO_tree (c572 h572 nl cl vars hb x.v.bs) (by simp only [go_sem,seval]) rfl ?_
  cases hv:hasS vars x.v.bs
  ·simp only [go_sem,seval]
   simp [linIn,b1,hI,hv]
  ·simp only [ew,go_sem,seval]
   exact ⟨rfl,by rw [hI];simp [hv]⟩
theorem c574 (hf:pg.fs 574=some cf574) (h118:∀ p q:Pull,p.ok→Ret pg 118 [p.av,q.av] (.bool (pullEq p q))) (p:Pull) (hp:p.ok):Ret pg 574 [p.av] (.bool (pullEq p zeroP)):=by
 have a4:=h118 p zeroP hp
 rw [Pull.avc] at a4
 have z4:zeroP.av=_:=Pull.avc zeroP
 refine Ret.ofX hf ?_
 unfold cf574
 simp only [go_sem,seval]
 refine XO_tree a4 (by simp only [go_sem,seval]) rfl ?_
 simp only [go_sem,seval]
theorem overOK_cons' (x:Lin) (r:List Lin) (vars:List Str):overOK (x :: r) vars=(linIn vars x&&overOK r vars):=by simp [overOK,linIn]
end
end Go.Tev
end
