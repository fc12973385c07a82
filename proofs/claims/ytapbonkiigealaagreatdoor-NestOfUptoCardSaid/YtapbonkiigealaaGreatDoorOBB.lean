import Derived.Test.YtapbonkiigealaaGreatDoorOBA
import Derived.Test.YtapbonkiigealaaGreatDoorOAN
import Derived.Test.YtapbonkiigealaaGreatDoorOAX
set_option linter.all false
section
namespace Go.Tev
section
variable {pg:Pg}
theorem eqL_one (x y:Lin):eqL linEq [x] [y]=linEq x y:=by simp [eqL]
set_option maxHeartbeats 4000000 in
theorem c562 (hf:pg.fs 562=some cf562) (h583:∀ (nl cl nl' cl':Bool) (a b:List Lin),a.length≤big→Ret pg 583 [.sl nl (a.map Lin.av) cl,.sl nl' (b.map Lin.av) cl'] (.bool (eqL linEq a b)))
  (h118:∀ p q:Pull,p.ok→Ret pg 118 [p.av,q.av] (.bool (pullEq p q))) (a b:Nest) (hbo:a.body.ok) (hio:a.index.ok):Ret pg 562 [a.av,b.av] (.bool (nestEq a b)):=by
 have a1:=h583 a.at_.nl a.at_.cl b.at_.nl b.at_.cl a.at_.es b.at_.es a.at_.ok
 have a2:=h118 a.index b.index hio
 have a3:=h118 a.body b.body hbo
 simp only [Pull.avc] at a2 a3
 have lb:=a.loops.ok
 refine Ret.ofX hf ?_
 unfold cf562
 cases b1:decide ((a.loops.es.length:Int)=(b.loops.es.length:Int))
 case false=>
  simp only [b1,go_sem,seval]
  simp [nestEq,b1]
 have hl:a.loops.es.length=b.loops.es.length:=by have:=of_decide_eq_true b1;omega
 cases b2:decide (a.value=b.value)
 case false=>
  simp only [b1,b2,go_sem,seval]
  simp [nestEq,b1,b2]
 cases b3:(a.dyn == b.dyn)
 case false=>
  simp only [b1,b2,b3,go_sem,seval]
  simp [nestEq,b1,b2,b3]
 cases b4:decide (a.check=b.check)
 case false=>
  simp only [b1,b2,b3,b4,go_sem,seval]
  simp [nestEq,b1,b2,b3,b4]
 simp only [b1,b2,b3,b4,go_sem,seval]
 refine XO_tree a1 (by simp only [go_sem,seval]) rfl ?_
 cases b5:eqL linEq a.at_.es b.at_.es
 case false=>
  simp only [go_sem,seval]
  simp [nestEq,b1,b2,b3,b4,b5]
 simp only [go_sem,seval]
 refine XO_tree a2 (by simp only [go_sem,seval]) rfl ?_
 cases b6:pullEq a.index b.index
 case false=>
  simp only [go_sem,seval]
  simp [nestEq,b1,b2,b3,b4,b5,b6]
 simp only [go_sem,seval]
 refine XO_tree a3 (by simp only [go_sem,seval]) rfl ?_
 cases b7:pullEq a.body b.body
 case false=>
  simp only [go_sem,seval]
  simp [nestEq,b1,b2,b3,b4,b5,b6,b7]
 simp only [go_sem,seval]
 have hspec:nestEq a b=eqL loopEq a.loops.es b.loops.es:=by simp [nestEq,b1,b2,b3,b4,b5,b6,b7]
 rw [hspec]
 clear a1 a2 a3 hspec b1 b2 b3 b4 b5 b6 b7
 refine XX_list a.loops.es (fun d r env hp=>env=cf562E0 (.pt 1 0 0) (.pt 5 0 0) (.int .i64 d.length)∧hp.get 1=some (0,.blk a.cells 23 true true false)∧hp.get 5=some (0,.blk b.cells 23 true true false)∧eqL loopEq a.loops.es b.loops.es=eqL loopEq r (b.loops.es.drop d.length)) ?_ ?_ ?_
 ·exact ⟨rfl,rfl,rfl,rfl⟩
 ·rintro env hp ⟨rfl,h1,h5,hI⟩
  simp only [Nest.cells,Pull.cells,Sl.av,Pull.kav,List.cons_append,List.nil_append] at h1 h5
  simp only [cf562L0,cf562E0,ltSelf,h1,h5,go_sem,seval]
  rw [hI,loopG_end hl]
 ·rintro d x r env hp hes ⟨rfl,h1,h5,hI⟩
  have h10:=h1
  have h50:=h5
  simp only [Nest.cells,Pull.cells,Sl.av,Pull.kav,List.cons_append,List.nil_append] at h1 h5
  obtain ⟨hget,e1,e2,ew⟩:=loopF hes lb
  obtain ⟨y,gy,f1,f2,hq⟩:=loopG (q:=loopEq) hes hl
  rw [hq] at hI
  have a1:=h583 false true false true [x.lo] [y.lo] (by simp [big])
  have a2:=h583 x.hi.nl x.hi.cl y.hi.nl y.hi.cl x.hi.es y.hi.es x.hi.ok
  rw [eqL_one] at a1
  simp only [List.map_cons,List.map_nil,Lin.avc] at a1
  simp only [cf562L0,cf562E0,e1,e2,hget,gy,f1,f2,h1,h5,go_sem,seval]
  refine ⟨by kernel_rfl,?_⟩
  cases b1:decide (x.v.bs=y.v.bs)
  case false=>
   simp only [b1,go_sem,seval]
   rw [hI];simp [loopEq,b1]
  cases b2:decide (x.step=y.step)
  case false=>
   simp only [b1,b2,go_sem,seval]
   rw [hI];simp [loopEq,b1,b2]
  simp only [b1,b2,go_sem,seval]
  refine XO_tree (a1) (by simp only [go_sem,seval]) rfl ?_
  cases b3:linEq x.lo y.lo
  ·simp only [go_sem,seval]
   rw [hI];simp [loopEq,b1,b2,b3]
  simp only [h1,h5,e1,e2,hget,gy,f1,f2,go_sem,seval]
  refine XO_tree (a2) (by simp only [go_sem,seval]) rfl ?_
  cases b4:eqL linEq x.hi.es y.hi.es
  ·simp only [go_sem,seval]
   rw [hI];simp [loopEq,b1,b2,b3,b4]
  ·simp only [ew,go_sem,seval]
   exact ⟨rfl,by first | exact h10 | rfl,by first | exact h50 | rfl,by rw [hI];simp [loopEq,b1,b2,b3,b4]⟩
end
end Go.Tev
end
section
namespace Go.Tev
theorem ofU_ok {k:Kernels} (K:KOK k) (S:Short k) {i:Int} {ip:Bool} {ms:List Nest} (h:ms.map Nest.strip=(ofU k i ip).1):(∀ n∈ms,NestOK n k.vars.es)∧ms.length≤big:=by
 have h2:=congrArg List.length h
 rw [List.length_map] at h2
 have hnil:ms.map Nest.strip=[]→(∀ n∈ms,NestOK n k.vars.es)∧ms.length≤big:=by
  intro h
  have:ms=[]:=by simpa using h
  subst this
  exact ⟨fun n hn=>absurd hn (by simp),by simp [big]⟩
 rw [ofU] at h
 split at h
 ·exact hnil h
 ·split at h
  ·exact hnil h
  ·rename_i x hx
   split at h
   ·exact hnil h
   ·split at h
    ·exact hnil h
    ·rename_i ns hns
     split at h
     ·refine ⟨made_ok K S (List.mem_of_getElem? hx) hns h,?_⟩
      have h3:=congrArg List.length h
      rw [List.length_map] at h3
      have h4:ns.length≤2:=by
       rw [madeS] at hns
       split at hns
       ·cases hns;simp
       ·split at hns
        ·split at hns
         ·cases hns
         ·cases hns;simp
        ·split at hns
         ·cases hns
          split<;>simp
         ·cases hns
      simp only [big];simp only at h3;omega
     ·exact hnil h
theorem nestEq_of_strips:∀ {a b:List Nest},a.map Nest.strip=b.map Nest.strip→a.length=b.length∧∀ (i:Nat) (x y:Nest),a[i]?=some x→b[i]?=some y→nestEq x y=true:=by
 intro a b h
 have h1:=congrArg List.length h
 simp only [List.length_map] at h1
 refine ⟨h1,fun i x y hx hy=>nestEq_of_strip ?_⟩
 have h2:(a.map Nest.strip)[i]?=(b.map Nest.strip)[i]?:=by rw [h]
 rw [List.getElem?_map,List.getElem?_map,hx,hy] at h2
 simpa using h2
section
variable {pg:Pg}
set_option maxHeartbeats 4000000 in
theorem c554 (hf:pg.fs 554=some cf554) (h555:Ret pg 555 [] (.bool true)) (k:Kernels) (K:KOK k) (i:Int) (ip:Bool)
  (h559:RetP pg 559 [k.av] (IsBT (Short k))) (h560:Short k→RetP pg 560 [k.av,.int .i64 i,.bool ip] (ofR k i ip)) (h561:Short k→RetP pg 561 [k.av,.int .i64 i,.bool ip] (ofR k i ip))
  (h562:∀ a b:Nest,a.body.ok→a.index.ok→Ret pg 562 [a.av,b.av] (.bool (nestEq a b))):Ret pg 554 [k.av,.int .i64 i,.bool ip] (.bool true):=by
 obtain ⟨r1,a1,c1,rfl,hs⟩:=h559
 rw [Kernels.avc] at a1
 refine Ret.ofX hf ?_
 unfold cf554
 simp only [go_sem,seval]
 refine XO_tree h555 rfl rfl ?_
 simp only [go_sem,seval]
 refine XO_tree a1 (by simp only [go_sem,seval]) rfl ?_
 cases c1
 ·simp only [go_sem,seval]
 obtain ⟨r2,a2,nl2,cl2,ms2,rfl,e2⟩:=h560 (hs rfl)
 obtain ⟨r3,a3,nl3,cl3,ms3,rfl,e3⟩:=h561 (hs rfl)
 have ok2:=ofU_ok K (hs rfl) e2
 obtain ⟨hl,hq⟩:=nestEq_of_strips (e2.trans e3.symm)
 rw [Kernels.avc] at a2 a3
 generalize (ofU k i ip).2=e at a2 a3
 simp only [go_sem,seval]
 refine XO_tree a2 (by simp only [go_sem,seval]) rfl ?_
 simp only [go_sem,seval]
 refine XO_tree a3 (by simp only [go_sem,seval]) rfl ?_
 have hl':decide ((ms2.length:Int)=(ms3.length:Int))=true:=by rw [hl];simp
 simp only [hl',go_sem,seval]
 refine XX_list ms2 (fun d r env hp=>env=cf554E0 (.sl nl2 (ms2.map Nest.av) cl2) (.sl nl3 (ms3.map Nest.av) cl3) (.int .i64 ms2.length) (.int .i64 d.length)) ?_ ?_ ?_
 ·rfl
 ·rintro env hp rfl
  simp only [cf554L0,cf554E0,ltSelf,go_sem,seval]
 ·rintro d x r env hp hes rfl
  obtain ⟨hget,e1,e2,ew⟩:=loopF hes ok2.2
  obtain ⟨y,gy,f1,f2,_⟩:=loopG (q:=nestEq) hes hl
  have okx:=ok2.1 x (by rw [hes];simp)
  have a4:=h562 x y okx.body okx.index
  rw [hq d.length x y hget gy,Nest.avc,Nest.avc] at a4
  simp only [cf554L0,cf554E0,e1,e2,hget,gy,f1,f2,go_sem,seval]
  refine XO_tree a4 (by simp only [go_sem,seval]) rfl ?_
  simp only [ew,go_sem,seval]
  first | exact ⟨by kernel_rfl,rfl⟩ | skip
end
end Go.Tev
end
section
namespace Go.Tev
structure CodeNO (pg:Pg):Prop where
 f108:pg.fs 108=some cf108
 f122:pg.fs 122=some cf122
 f163:pg.fs 163=some cf163
 f554:pg.fs 554=some cf554
 f559:pg.fs 559=some cf559
 f560:pg.fs 560=some cf560
 f561:pg.fs 561=some cf561
 f562:pg.fs 562=some cf562
 f568:pg.fs 568=some cf568
 f569:pg.fs 569=some cf569
 f575:pg.fs 575=some cf575
 f576:pg.fs 576=some cf576
 f577:pg.fs 577=some cf577
 f578:pg.fs 578=some cf578
 f579:pg.fs 579=some cf579
 f580:pg.fs 580=some cf580
 f581:pg.fs 581=some cf581
 f582:pg.fs 582=some cf582
 f583:pg.fs 583=some cf583
 f596:pg.fs 596=some cf596
 f597:pg.fs 597=some cf597
 f598:pg.fs 598=some cf598
 f599:pg.fs 599=some cf599
 f600:pg.fs 600=some cf600
 f601:pg.fs 601=some cf601
section
variable {pg:Pg}
theorem all554 (C:CodeNV pg) (D:CodeNO pg) (A:Ora pg) (h555:Ret pg 555 [] (.bool true)) (k:Kernels) (K:KOK k) (i:Int) (ip:Bool):Ret pg 554 [k.av,.int .i64 i,.bool ip] (.bool true):=by
 have h77:∀ s:Str,Ret pg 77 [.str s.bs] (.bool (nameU s.bs)):=fun s=>c77 C.f77 C.f114 C.f115 s.bs s.ok
 have h54:∀ l:Lin,Ret pg 54 [l.av] (.bool (linOK l)):=c54 C.f54 h77 C.f90
 have h108:∀ i:Nat,i < 10→Ret pg 108 [.int .i64 i] (.str (loopN' i)):=c108 A D.f108
 have h122:∀ i:Nat,i < 10→Ret pg 122 [.int .i64 i] (.str (loopN' i)):=c122 D.f122 D.f163
 have h162:=c162 C.f162 C.f191
 have h597:=c597 D.f597
 have h596:=c596 h108 h597 D.f596
 have h575:∀ (ds:List Lin),ds.length < 10→∀ (nl cl:Bool) (v:Int) (p:Pull),RetP pg 575 [.int .i64 v,.sl nl (ds.map Lin.av) cl,p.av] (fun r=>∃ n:Nest,r=n.av∧IsWrites n v ds p):=
  fun ds hd nl cl v p=>c575 D.f575 ds hd nl cl (h596 nl cl ds hd) v p
 have h576:=c576 D.f576 h108 h597 D.f596
 have h577:=c577 D.f577 h596 h575
 have h578:=c578 D.f578 D.f598
 have h579:∀ n:Nest,NestOK n k.vars.es→Ret pg 579 [n.av,.fp k.av] (.bool (!nestOK n k.vars.es k.values.es.length)):=
  fun n hn=>c579 D.f579 k n _ (all557 C A n k.vars.nl k.vars.cl k.vars.es K.nl hn k.values.es.length)
 have h580:=c580 h122 D.f582 D.f599 D.f580
 have h581:=c581 D.f581 D.f601 D.f600 h54
 have h558:∀ n:Nest,NestOK n k.vars.es→Ret pg 558 [n.av,.sl k.vars.nl (k.vars.es.map Str.av) k.vars.cl,.int .i64 k.values.es.length] (.bool (nestOK n k.vars.es k.values.es.length)):=
  fun n hn=>all558 C n k.vars.nl k.vars.cl k.vars.es hn k.values.es.length
 have h569:=c569 D.f569 (c568 D.f568) (all25' C)
 exact c554 D.f554 h555 k K i ip (c559 D.f559 (c568r D.f568) h569 k K)
  (fun S=>c560 D.f560 h575 h576 h577 h578 k K S h579 i ip)
  (fun S=>c561 D.f561 h580 (c582 D.f582) h581 k K S h558 i ip)
  (c562 D.f562 (fun nl cl nl' cl' a b hb=>c583 D.f583 h162 nl cl nl' cl' a b hb) (all118 C))
end
end Go.Tev
end
