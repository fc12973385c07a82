import Derived.Test.YtapbonkiigealaaGreatDoorVAW
import Derived.Test.YtapbonkiigealaaGreatDoorVAO
import Derived.Test.YtapbonkiigealaaGreatDoorVAV
set_option linter.all false
section
namespace Go.Tev
section
variable {pg:Pg}
theorem c568 (hf:pg.fs 568=some cf568) (nl cl:Bool) (ls:List Lin) (hb:ls.length≤big):RetP pg 568 [.sl nl (ls.map Lin.av) cl] IsB:=by
 refine RetP.ofX hf ?_
 unfold cf568
 simp only [go_sem,seval]
 refine XX_list ls (fun d r env hp=>env=cf568E1 (.sl nl (ls.map Lin.av) cl) (.int .i64 d.length)) ?_ ?_ ?_
 ·rfl
 ·rintro env hp rfl
  simp only [cf568L1,cf568E1,ltSelf,go_sem,seval]
 ·rintro d x r env hp hes rfl
  obtain ⟨hget,e1,e2,ew⟩:=loopF hes hb
  have hlb:=x.ts.ok
  cases b1:decide (6 < (x.ts.es.length:Int))
  case true=>
   simp only [cf568L1,cf568E1,e1,e2,hget,b1,go_sem,seval]
  cases b2:decide (x.c < -100)
  case true=>
   simp only [cf568L1,cf568E1,e1,e2,hget,b1,b2,go_sem,seval]
  cases b3:decide (100 < x.c)
  case true=>
   simp only [cf568L1,cf568E1,e1,e2,hget,b1,b2,b3,go_sem,seval]
  simp only [cf568L1,cf568E1,e1,e2,hget,b1,b2,b3,go_sem,seval]
  refine XX_list x.ts.es (fun d2 r2 env hp=>env=cf568E0 (.sl nl (ls.map Lin.av) cl) (.int .i64 d.length) (.int .i64 d2.length)) ?_ ?_ ?_
  ·rfl
  ·rintro env hp rfl
   simp only [cf568L0,cf568E0,ltSelf,hget,e1,e2,ew,go_sem,seval]
   rfl
  ·rintro d2 y r2 env hp he2 rfl
   obtain ⟨hget2,f1,f2,fw⟩:=loopF he2 hlb
   cases b4:decide (y.c < -100)
   case true=>
    simp only [cf568L0,cf568E0,e1,e2,hget,hget2,f1,f2,b4,go_sem,seval]
   cases b5:decide (100 < y.c)
   case true=>
    simp only [cf568L0,cf568E0,e1,e2,hget,hget2,f1,f2,b4,b5,go_sem,seval]
   cases b6:decide (35 < (y.v.bs.length:Int))
   case true=>
    simp only [cf568L0,cf568E0,e1,e2,hget,hget2,f1,f2,b4,b5,b6,go_sem,seval]
   simp only [cf568L0,cf568E0,e1,e2,hget,hget2,f1,f2,b4,b5,b6,fw,go_sem,seval]
   rfl
theorem c569 (hf:pg.fs 569=some cf569) (h568:∀ (nl cl:Bool) (ls:List Lin),ls.length≤big→RetP pg 568 [.sl nl (ls.map Lin.av) cl] IsB) (h25:∀ p:Pull,p.ok→Ret pg 25 [p.av] (.bool (few25 p))) :
  ∀ p:Pull,p.ok→RetP pg 569 [p.av] IsB:=by
 refine Pull.ind' fun p ih hp=>?_
 obtain ⟨hb,hk⟩:=(Pull.ok_iff p).1 hp
 obtain ⟨r1,a1,b1,rfl⟩:=h568 p.at_.nl p.at_.cl p.at_.es p.at_.ok
 have a2:=h25 p hp
 rw [Pull.avc] at a2
 refine RetP.ofX hf ?_
 unfold cf569
 simp only [go_sem,seval]
 refine XX_list p.kids (fun d r env hp=>env=cf569E0 (.pt 1 0 0) (.int .i64 d.length)∧hp.get 1=some (0,.blk (pcell p p.kids) 9 true true false)) ?_ ?_ ?_
 ·exact ⟨rfl,rfl⟩
 ·rintro env hp ⟨rfl,h1⟩
  simp only [pcell] at h1
  simp only [cf569L0,cf569E0,ltSelf,h1,go_sem,seval]
  refine XO_tree a1 (by simp only [go_sem,seval]) rfl ?_
  cases b1
  ·simp only [go_sem,seval]
  ·simp only [h1,go_sem,seval]
   refine XO_tree a2 (by simp only [go_sem,seval]) rfl ?_
   simp only [go_sem,seval]
 ·rintro d x r env hp hes ⟨rfl,h1⟩
  have h0:=h1
  simp only [pcell] at h1
  obtain ⟨r3,a3,b3,rfl⟩:=ih x (by rw [hes];simp) (hk x (by rw [hes];simp))
  obtain ⟨hget,e1,e2,ew⟩:=loopF hes hb
  simp only [cf569L0,cf569E0,e1,e2,hget,h1,go_sem,seval]
  refine XO_tree (a3) (by simp only [go_sem,seval]) rfl ?_
  cases b3
  ·simp only [go_sem,seval]
  ·simp only [ew,go_sem,seval]
   exact ⟨rfl,h0⟩
theorem c556 (hf:pg.fs 556=some cf556) (h568:∀ (nl cl:Bool) (ls:List Lin),ls.length≤big→RetP pg 568 [.sl nl (ls.map Lin.av) cl] IsB) (h569:∀ p:Pull,p.ok→RetP pg 569 [p.av] IsB)
  (n:Nest) (hbo:n.body.ok) (hio:n.index.ok):RetP pg 556 [n.av] IsB:=by
 obtain ⟨r1,a1,b1,rfl⟩:=h568 n.at_.nl n.at_.cl n.at_.es n.at_.ok
 obtain ⟨r2,a2,b2,rfl⟩:=h569 n.index hio
 obtain ⟨r3,a3,b3,rfl⟩:=h569 n.body hbo
 rw [Pull.avc] at a2 a3
 have lb:=n.loops.ok
 refine RetP.ofX hf ?_
 unfold cf556
 simp only [go_sem,seval]
 refine XX_list n.loops.es (fun d r env hp=>env=cf556E0 (.pt 1 0 0) (.int .i64 d.length)∧hp.get 1=some (0,.blk n.cells 23 true true false)) ?_ ?_ ?_
 ·exact ⟨rfl,rfl⟩
 ·rintro env hp ⟨rfl,h1⟩
  simp only [Nest.cells,Pull.cells,Sl.av,Pull.kav,List.cons_append,List.nil_append] at h1
  cases b4:decide ((n.loops.es.length:Int)≤5)
  case false=>
   simp only [cf556L0,cf556E0,ltSelf,h1,b4,go_sem,seval]
  simp only [cf556L0,cf556E0,ltSelf,h1,b4,go_sem,seval]
  refine XO_tree a1 (by simp only [go_sem,seval]) rfl ?_
  cases b1
  ·simp only [go_sem,seval]
  simp only [h1,go_sem,seval]
  refine XO_tree a2 (by simp only [go_sem,seval]) rfl ?_
  cases b2
  ·simp only [go_sem,seval]
  simp only [h1,go_sem,seval]
  refine XO_tree a3 (by simp only [go_sem,seval]) rfl ?_
  simp only [go_sem,seval]
 ·rintro d x r env hp hes ⟨rfl,h1⟩
  have h0:=h1
  simp only [Nest.cells,Pull.cells,Sl.av,Pull.kav,List.cons_append,List.nil_append] at h1
  obtain ⟨r4,a4,b4,rfl⟩:=h568 x.hi.nl x.hi.cl x.hi.es x.hi.ok
  obtain ⟨r5,a5,b5,rfl⟩:=h568 false true [x.lo] (by simp [big])
  simp only [List.map_cons,List.map_nil,Lin.avc] at a5
  obtain ⟨hget,e1,e2,ew⟩:=loopF hes lb
  cases b6:decide (35 < (x.v.bs.length:Int))
  case true=>
   simp only [cf556L0,cf556E0,e1,e2,hget,h1,b6,go_sem,seval]
  simp only [cf556L0,cf556E0,e1,e2,hget,h1,b6,go_sem,seval]
  refine XO_tree (a4) (by simp only [go_sem,seval]) rfl ?_
  cases b4
  ·simp only [go_sem,seval]
  simp only [h1,e2,hget,go_sem,seval]
  refine XO_tree (a5) (by simp only [go_sem,seval]) rfl ?_
  cases b5
  ·simp only [go_sem,seval]
  simp only [ew,go_sem,seval]
  exact ⟨rfl,h0⟩
theorem c553 (hf:pg.fs 553=some cf553) (h555:Ret pg 555 [] (.bool true)) (n:Nest) (nl cl:Bool) (vars:List Str) (values:Int) (h556:RetP pg 556 [n.av] IsB)
  (h557:Ret pg 557 [n.av,.sl nl (vars.map Str.av) cl,.int .i64 values] (.bool (nestOK n vars values))) (h558:Ret pg 558 [n.av,.sl nl (vars.map Str.av) cl,.int .i64 values] (.bool (nestOK n vars values))) :
  Ret pg 553 [n.av,.sl nl (vars.map Str.av) cl,.int .i64 values] (.bool true):=by
 obtain ⟨r1,a1,b1,rfl⟩:=h556
 rw [Nest.avc] at a1 h557 h558
 refine Ret.ofX hf ?_
 unfold cf553
 simp only [go_sem,seval]
 refine XO_tree h555 rfl rfl ?_
 simp only [go_sem,seval]
 refine XO_tree a1 (by simp only [go_sem,seval]) rfl ?_
 cases b1
 case false=>simp only [go_sem,seval]
 cases b2:decide (8 < (vars.length:Int))
 case true=>simp only [b2,go_sem,seval]
 simp only [b2,go_sem,seval]
 refine XO_tree h557 (by simp only [go_sem,seval]) rfl ?_
 simp only [go_sem,seval]
 refine XO_tree h558 (by simp only [go_sem,seval]) rfl ?_
 simp only [go_sem,seval]
 first | kernel_rfl | (refine And.intro (by kernel_rfl) ?_;simp only [go_sem,seval]) | skip
end
end Go.Tev
end
section
namespace Go.Tev
section
variable {pg:Pg}
end
end Go.Tev
end
section
namespace Go.Tev
section
variable {pg:Pg}
end
end Go.Tev
end
