import Derived.Test.YtdpdokigjeaaiaaGreatDoorRLm
import Derived.Test.YtdpdokigjeaaiaaGreatDoorNHm
import Derived.Test.YtdpdokigjeaaiaaGreatDoorNGm
set_option linter.all false
section
namespace Go.Tev
theorem mapS_four' {h:Hp} {d:Nat} {a b c c' e:AV} {keys:List Nat} (ha:a.tree=true) (hb:b.tree=true) (hc:Tev.snap (d+1) h c=some (c',keys)) (he:e.tree=true):mapS (Tev.snap (d+1) h) [a,b,c,e]=some ([a,b,c',e],keys):=by
 simp [mapS_cons,mapS_nil,snap_tr ha,snap_tr hb,snap_tr he,hc]
section
variable {pg:Pg}
set_option maxRecDepth 8000 in
set_option maxHeartbeats 2000000 in
theorem c31 (hf:pg.fs 31=some cf31) (h49:∀ k:Kernels,Ret pg 49 [k.av] (.bool (outsideOK k)))
  (h50:∀ (k:Kernels),0≤k.inputs→(∀ t∈k.values.es,t.shape.dims.es.length≤6)→∀ (nl cl:Bool) (th:List Bool),th.length=k.values.es.length→∀ (q:Kernel) (second:Bool),
   q.body.ok→q.index.ok→k.vars.es.length+9+q.body.sz≤big→k.vars.es.length+9+q.index.sz≤big →
   Ret pg 50 [k.av,q.av,.sl nl (th.map AV.bool) cl,.bool second] (.bool (refRight k q th second)))
  (k:Kernels) (hq:∀ q∈k.list.es,q.body.ok∧q.index.ok∧k.vars.es.length+9+q.body.sz≤big∧k.vars.es.length+9+q.index.sz≤big) :
  Ret pg 31 [k.av] (.tup [.int .i64 (fuseV k).1,.int .i64 (fuseV k).2]):=by
 have a1:=h49 k
 simp only [Kernels.av,Kernels.cells,Sl.av] at a1
 refine Ret.ofX hf ?_
 unfold cf31
 simp only [Kernels.av,Kernels.cells,go_sem,seval]
 refine XO_tree a1 (by simp only [go_sem,seval]) rfl ?_
 cases ho:outsideOK k
 ·simp only [go_sem,seval]
  simp only [fuseV,ho];rfl
 have hV:((k.values.es.length:Int)≤1073741824)=True:=eq_true (by have:=k.values.ok;simp only [big] at this;omega)
 have hfl:(List.replicate k.values.es.length [AV.bool false]).flatten=(List.replicate k.values.es.length false).map AV.bool:=by
  rw [List.map_replicate]
  induction k.values.es.length with
  | zero=>rfl
  | succ n ih=>rw [List.replicate_succ,List.flatten_cons,ih,List.replicate_succ];rfl
 simp only [hV,hfl,go_sem,seval]
 have hso:=ho
 simp only [outsideOK,Bool.and_eq_true,decide_eq_true_eq] at hso
 obtain ⟨_,⟨⟨⟨⟨⟨⟨_,_⟩,hi0⟩,_⟩,hiV⟩,_⟩,_⟩,hty⟩:=hso
 have hvals:∀ t∈k.values.es,t.shape.dims.es.length≤6:=fun t ht=>typOK_dims (by rw [List.all_eq_true] at hty;exact hty t ht)
 obtain ⟨ins,hins⟩:∃ n:Nat,k.inputs=n:=⟨k.inputs.toNat,by omega⟩
 have hinV:ins≤k.values.es.length:=by omega
 have hVb:=k.values.ok
 have hf0:fillT k.values.es.length 0=List.replicate k.values.es.length false:=by simp [fillT]
 refine XX_list (List.range ins) (fun d r env hp=>env=cf31E0 (.pt 1 0 0) (.rf 9 0 0 k.values.es.length k.values.es.length) (.int .i64 d.length) ∧
  hp.get 1=some (0,.blk (kcellsR k) 6 true true false)∧hp.get 9=some (0,.blk ((fillT k.values.es.length d.length).map AV.bool) 1 false true false)) ?_ ?_ ?_
 ·refine ⟨rfl,?_,?_⟩
  ·simp only [go_sem,seval]
   rfl
  ·rw [show ([]:List Nat).length=0 from rfl,hf0]
   simp only [go_sem,seval]
 ·rintro env hp ⟨rfl,g1,g9⟩
  have hr:(List.range ins).length=ins:=List.length_range
  rw [hr] at g9 ⊢
  have e1:decide ((ins:Int) < k.inputs)=false:=by simp;omega
  have hth0:fillT k.values.es.length ins=inpT k:=by simp [fillT,inpT,hins]
  rw [hth0] at g9
  have hthl:(inpT k).length=k.values.es.length:=by rw [← hth0,fillT_len hinV]
  have g1':=g1
  simp only [kcellsR] at g1
  simp only [cf31L0,cf31E0,e1,g1,go_sem,seval]
  have hrun:runK k (inpT k) k.list.es 0=runK k (thereOf (inpT k) []) k.list.es ([]:List Kernel).length:=rfl
  clear hr hth0 hf0 hV hfl e1
  refine XX_list k.list.es (fun d r env hp=>env=cf31E1 (.pt 1 0 0) (.rf 9 0 0 k.values.es.length k.values.es.length) (.int .i64 d.length) ∧
   runK k (inpT k) k.list.es 0=runK k (thereOf (inpT k) d) r d.length ∧
   hp.get 1=some (0,.blk (kcellsR k) 6 true true false)∧hp.get 9=some (0,.blk ((thereOf (inpT k) d).map AV.bool) 1 false true false)) ?_ ?_ ?_
  ·exact ⟨rfl,hrun,g1',g9⟩
  ·clear g1 g1' g9 hp
   rintro env hp ⟨rfl,hru,g1,g9⟩
   have hthe:(thereOf (inpT k) k.list.es).length=k.values.es.length:=by rw [thereOf_len,hthl]
   generalize hTH:thereOf (inpT k) k.list.es=th at *
   have g1':=g1
   simp only [kcellsR] at g1
   have hfin:∀ ok:Bool,(!resultsBad k th)=ok→fuseV k=((k.list.es.length:Int),if ok then 0 else 22):=by
    intro ok h
    rw [fuseV,ho,hru,runK,hTH]
    cases ok<;>simp at h<;>simp [h]
   have hrb:=k.results.ok
   have hstart:∀ b:Bool,b=(decide (1≤(k.results.es.length:Int))&&decide ((k.results.es.length:Int)≤8))→(!resultsBad k th)=(b&&k.results.es.all fun v => !resBad k th v):=by
    intro b hb
    have h1:decide (1≤(k.results.es.length:Int)) = !decide ((k.results.es.length:Int) < 1):=by rw [← decide_not,decide_eq_decide];omega
    have h2:decide ((k.results.es.length:Int)≤8) = !decide (8 < (k.results.es.length:Int)):=by rw [← decide_not,decide_eq_decide];omega
    rw [hb,h1,h2,resultsBad,← List.not_any_eq_all_not]
    simp only [Bool.not_or]
   clear hru hrun
   cases r1:decide (1≤(k.results.es.length:Int))
   case false=>
    simp only [cf31L1,cf31E1,g1,ltSelf,r1,go_sem,seval]
    refine XX_list k.results.es (fun d r env hp=>∃ ok:Bool,env=cf31E2 (.pt 1 0 0) (.rf 9 0 0 k.values.es.length k.values.es.length) (.bool ok) (.int .i64 d.length) ∧
     hp.get 1=some (0,.blk (kcellsR k) 6 true true false)∧hp.get 9=some (0,.blk (th.map AV.bool) 1 false true false)∧(!resultsBad k th)=(ok&&r.all fun v => !resBad k th v)) ?_ ?_ ?_
    ·exact ⟨_,rfl,g1',g9,hstart _ (by first | rw [r1];rfl | rw [r1,r2];rfl)⟩
    ·rintro env hp ⟨ok,rfl,g1,g9,hI⟩
     simp only [kcellsR] at g1
     have hf2:=hfin ok (by rw [hI];simp)
     rw [hf2]
     cases ok
     ·simp only [cf31L2,cf31E2,g1,ltSelf,go_sem,seval]
     ·simp only [cf31L2,cf31E2,g1,ltSelf,go_sem,seval]
    ·rintro d v r env hp hes ⟨ok,rfl,g1,g9,hI⟩
     obtain ⟨hget,e1,e2,ew⟩:=loopF hes hrb
     have g1'':=g1
     simp only [kcellsR] at g1
     cases ok
     ·have hf2:=hfin false (by rw [hI];simp)
      rw [hf2]
      simp only [cf31L2,cf31E2,g1,e1,go_sem,seval]
     have hI2:(!resultsBad k th)=(!resBad k th v&&r.all fun v => !resBad k th v):=by rw [hI];simp
     cases z1:decide (0≤v)
     ·have:resBad k th v=true:=by
       have h:decide (v < 0)=true:=by simp at z1 ⊢;omega
       simp only [resBad,h,Bool.true_or]
      simp only [cf31L2,cf31E2,g1,e1,e2,hget,z1,ew,go_sem,seval]
      exact ⟨_,rfl,rfl,g9,by rw [hI2,this];simp⟩
     cases z2:decide (v < (k.values.es.length:Int))
     ·have:resBad k th v=true:=by
       have h:decide ((k.values.es.length:Int)≤v)=true:=by simp at z2 ⊢;omega
       simp only [resBad,h,Bool.true_or,Bool.or_true]
      simp only [cf31L2,cf31E2,g1,e1,e2,hget,z1,z2,ew,go_sem,seval]
      exact ⟨_,rfl,rfl,g9,by rw [hI2,this];simp⟩
     have z1':(0≤v)=True:=eq_true (of_decide_eq_true z1)
     have z2':(v < (k.values.es.length:Int))=True:=eq_true (of_decide_eq_true z2)
     obtain ⟨b,hb⟩:∃ b,th[v.toNat]?=some b:=⟨_,List.getElem?_eq_getElem (by simp at z1 z2;omega)⟩
     have:resBad k th v = !b:=by
      have h1:decide (v < 0)=false:=by simp at z1 ⊢;omega
      have h2:decide ((k.values.es.length:Int)≤v)=false:=by simp at z2 ⊢;omega
      simp only [resBad,h1,h2,Bool.false_or,thereB,hb];rfl
     simp only [cf31L2,cf31E2,g1,g9,e1,e2,hget,z1,z2,z1',z2',hb,Nat.mul_one,Nat.zero_add,ew,go_sem,seval]
     exact ⟨_,rfl,rfl,by rw [hI2,this];simp⟩
   case true=>
    cases r2:decide ((k.results.es.length:Int)≤8)
    ·simp only [cf31L1,cf31E1,g1,ltSelf,r1,r2,go_sem,seval]
     refine XX_list k.results.es (fun d r env hp=>∃ ok:Bool,env=cf31E2 (.pt 1 0 0) (.rf 9 0 0 k.values.es.length k.values.es.length) (.bool ok) (.int .i64 d.length) ∧
      hp.get 1=some (0,.blk (kcellsR k) 6 true true false)∧hp.get 9=some (0,.blk (th.map AV.bool) 1 false true false)∧(!resultsBad k th)=(ok&&r.all fun v => !resBad k th v)) ?_ ?_ ?_
     ·exact ⟨_,rfl,g1',g9,hstart _ (by first | rw [r1];rfl | rw [r1,r2];rfl)⟩
     ·rintro env hp ⟨ok,rfl,g1,g9,hI⟩
      simp only [kcellsR] at g1
      have hf2:=hfin ok (by rw [hI];simp)
      rw [hf2]
      cases ok
      ·simp only [cf31L2,cf31E2,g1,ltSelf,go_sem,seval]
      ·simp only [cf31L2,cf31E2,g1,ltSelf,go_sem,seval]
     ·rintro d v r env hp hes ⟨ok,rfl,g1,g9,hI⟩
      obtain ⟨hget,e1,e2,ew⟩:=loopF hes hrb
      have g1'':=g1
      simp only [kcellsR] at g1
      cases ok
      ·have hf2:=hfin false (by rw [hI];simp)
       rw [hf2]
       simp only [cf31L2,cf31E2,g1,e1,go_sem,seval]
      have hI2:(!resultsBad k th)=(!resBad k th v&&r.all fun v => !resBad k th v):=by rw [hI];simp
      cases z1:decide (0≤v)
      ·have:resBad k th v=true:=by
        have h:decide (v < 0)=true:=by simp at z1 ⊢;omega
        simp only [resBad,h,Bool.true_or]
       simp only [cf31L2,cf31E2,g1,e1,e2,hget,z1,ew,go_sem,seval]
       exact ⟨_,rfl,rfl,g9,by rw [hI2,this];simp⟩
      cases z2:decide (v < (k.values.es.length:Int))
      ·have:resBad k th v=true:=by
        have h:decide ((k.values.es.length:Int)≤v)=true:=by simp at z2 ⊢;omega
        simp only [resBad,h,Bool.true_or,Bool.or_true]
       simp only [cf31L2,cf31E2,g1,e1,e2,hget,z1,z2,ew,go_sem,seval]
       exact ⟨_,rfl,rfl,g9,by rw [hI2,this];simp⟩
      have z1':(0≤v)=True:=eq_true (of_decide_eq_true z1)
      have z2':(v < (k.values.es.length:Int))=True:=eq_true (of_decide_eq_true z2)
      obtain ⟨b,hb⟩:∃ b,th[v.toNat]?=some b:=⟨_,List.getElem?_eq_getElem (by simp at z1 z2;omega)⟩
      have:resBad k th v = !b:=by
       have h1:decide (v < 0)=false:=by simp at z1 ⊢;omega
       have h2:decide ((k.values.es.length:Int)≤v)=false:=by simp at z2 ⊢;omega
       simp only [resBad,h1,h2,Bool.false_or,thereB,hb];rfl
      simp only [cf31L2,cf31E2,g1,g9,e1,e2,hget,z1,z2,z1',z2',hb,Nat.mul_one,Nat.zero_add,ew,go_sem,seval]
      exact ⟨_,rfl,rfl,by rw [hI2,this];simp⟩
    ·simp only [cf31L1,cf31E1,g1,ltSelf,r1,r2,go_sem,seval]
     refine XX_list k.results.es (fun d r env hp=>∃ ok:Bool,env=cf31E2 (.pt 1 0 0) (.rf 9 0 0 k.values.es.length k.values.es.length) (.bool ok) (.int .i64 d.length) ∧
      hp.get 1=some (0,.blk (kcellsR k) 6 true true false)∧hp.get 9=some (0,.blk (th.map AV.bool) 1 false true false)∧(!resultsBad k th)=(ok&&r.all fun v => !resBad k th v)) ?_ ?_ ?_
     ·exact ⟨_,rfl,g1',g9,hstart _ (by first | rw [r1];rfl | rw [r1,r2];rfl)⟩
     ·rintro env hp ⟨ok,rfl,g1,g9,hI⟩
      simp only [kcellsR] at g1
      have hf2:=hfin ok (by rw [hI];simp)
      rw [hf2]
      cases ok
      ·simp only [cf31L2,cf31E2,g1,ltSelf,go_sem,seval]
      ·simp only [cf31L2,cf31E2,g1,ltSelf,go_sem,seval]
     ·rintro d v r env hp hes ⟨ok,rfl,g1,g9,hI⟩
      obtain ⟨hget,e1,e2,ew⟩:=loopF hes hrb
      have g1'':=g1
      simp only [kcellsR] at g1
      cases ok
      ·have hf2:=hfin false (by rw [hI];simp)
       rw [hf2]
       simp only [cf31L2,cf31E2,g1,e1,go_sem,seval]
      have hI2:(!resultsBad k th)=(!resBad k th v&&r.all fun v => !resBad k th v):=by rw [hI];simp
      cases z1:decide (0≤v)
      ·have:resBad k th v=true:=by
        have h:decide (v < 0)=true:=by simp at z1 ⊢;omega
        simp only [resBad,h,Bool.true_or]
       simp only [cf31L2,cf31E2,g1,e1,e2,hget,z1,ew,go_sem,seval]
       exact ⟨_,rfl,rfl,g9,by rw [hI2,this];simp⟩
      cases z2:decide (v < (k.values.es.length:Int))
      ·have:resBad k th v=true:=by
        have h:decide ((k.values.es.length:Int)≤v)=true:=by simp at z2 ⊢;omega
        simp only [resBad,h,Bool.true_or,Bool.or_true]
       simp only [cf31L2,cf31E2,g1,e1,e2,hget,z1,z2,ew,go_sem,seval]
       exact ⟨_,rfl,rfl,g9,by rw [hI2,this];simp⟩
      have z1':(0≤v)=True:=eq_true (of_decide_eq_true z1)
      have z2':(v < (k.values.es.length:Int))=True:=eq_true (of_decide_eq_true z2)
      obtain ⟨b,hb⟩:∃ b,th[v.toNat]?=some b:=⟨_,List.getElem?_eq_getElem (by simp at z1 z2;omega)⟩
      have:resBad k th v = !b:=by
       have h1:decide (v < 0)=false:=by simp at z1 ⊢;omega
       have h2:decide ((k.values.es.length:Int)≤v)=false:=by simp at z2 ⊢;omega
       simp only [resBad,h1,h2,Bool.false_or,thereB,hb];rfl
      simp only [cf31L2,cf31E2,g1,g9,e1,e2,hget,z1,z2,z1',z2',hb,Nat.mul_one,Nat.zero_add,ew,go_sem,seval]
      exact ⟨_,rfl,rfl,by rw [hI2,this];simp⟩
  ·clear g1 g1' g9 hp
   rintro d q r env hp hes ⟨rfl,hru,g1,g9⟩
   have hmem:q∈k.list.es:=by rw [hes];simp
   obtain ⟨p1,p2,p3,p4⟩:=hq q hmem
   have hlb:=k.list.ok
   obtain ⟨hget,e1,e2,ew⟩:=loopF hes hlb
   have hkk:=h50 k hi0 hvals false true (thereOf (inpT k) d) (by rw [thereOf_len,hthl]) q (secondOf k q d.length) p1 p2 p3 p4
   rw [refRight_eq k q _ d.length hi0] at hkk
   simp only [Kernels.av,Kernels.cells,Sl.av] at hkk
   have g1':=g1
   simp only [kcellsR] at g1
   rcases List.eq_nil_or_concat d with hd | ⟨d',q0,hd⟩
   ·have e3:decide (0 < (d.length:Int))=false:=by simp [hd]
    have hsec:secondOf k q d.length=false:=by simp [secondOf,hd]
    rw [hsec] at hkk
    simp only [cf31L1,cf31E1,e1,e2,g1,hget,e3,go_sem,seval]
    refine And.intro (by kernel_rfl) ?_
    refine XO_call hkk (mapS_four' (by simp only [go_sem,seval]) (by simp only [go_sem,seval]) (snap_boolsN (l:=thereOf (inpT k) d) (by rw [thereOf_len,hthl]) g9 62) (by simp only [go_sem,seval])) (v:=.bool (kernelOK k (thereOf (inpT k) d) q d.length)) (pa:=[]) rfl ?_
    cases hkq:kernelOK k (thereOf (inpT k) d) q d.length
    ·simp only [go_sem,seval]
     refine And.intro (by kernel_rfl) ?_
     rw [fuseV,ho,hru,runK,hkq]
     rfl
    ·obtain ⟨w1,w2,w3⟩:=kernelOK_in hkq
     have k0:(0≤q.value)=True:=eq_true (by omega)
     have k2':(q.value < (k.values.es.length:Int))=True:=eq_true w2
     have k4:(0+q.value.toNat*1+1≤(thereOf (inpT k) d).length)=True:=eq_true (by rw [thereOf_len,hthl];omega)
     have e4:=set_at (l:=(thereOf (inpT k) d).map AV.bool) (n:=q.value.toNat) (.bool true) (by rw [List.length_map,thereOf_len,hthl];omega)
     rw [map_set_bool] at e4
     simp only [go_sem,seval]
     refine And.intro (by kernel_rfl) ?_
     simp only [g1,g9,hget,e1,e2,k0,k2',k4,e4,ew,go_sem,seval]
     rw [thereOf_snoc]
     refine ⟨rfl,?_,rfl,rfl⟩
     rw [hru,runK,hkq]
     simp
   ·have hd':d=d'++[q0]:=by simpa using hd
    have e3:decide (0 < (d.length:Int))=true:=by simp [hd']
    have e4':wr .i64 ((d.length:Int) - 1)=(d'.length:Int):=by
     have:d.length≤k.list.es.length:=by rw [hes];simp
     simp only [big] at hlb
     rw [wr_small (by omega) (by omega),hd',List.length_append,List.length_singleton];omega
    have e5:k.list.es[d'.length]?=some q0:=by rw [hes,hd'];simp
    have e6:((d'.length:Int) < (k.list.es.length:Int))=True:=eq_true (by rw [hes,hd'];simp;omega)
    have hsec:secondOf k q d.length=(decide (q0.kind=1)&&decide (q0.value=q.value)):=by
     have h1:decide ((d.length:Int)=0)=false:=by simp [hd'];omega
     have h2:((d.length:Int) - 1).toNat=d'.length:=by rw [hd',List.length_append,List.length_singleton];omega
     simp only [secondOf,h1,h2,e5];rfl
    rw [hsec] at hkk
    cases b1:decide (q0.kind=1)
    ·rw [b1] at hkk
     simp only [cf31L1,cf31E1,e1,e2,g1,hget,e3,e4',e5,e6,b1,go_sem,seval]
     refine And.intro (by kernel_rfl) ?_
     refine XO_call hkk (mapS_four' (by simp only [go_sem,seval]) (by simp only [go_sem,seval]) (snap_boolsN (l:=thereOf (inpT k) d) (by rw [thereOf_len,hthl]) g9 62) (by simp only [go_sem,seval])) (v:=.bool (kernelOK k (thereOf (inpT k) d) q d.length)) (pa:=[]) rfl ?_
     cases hkq:kernelOK k (thereOf (inpT k) d) q d.length
     ·simp only [go_sem,seval]
      refine And.intro (by kernel_rfl) ?_
      rw [fuseV,ho,hru,runK,hkq]
      rfl
     ·obtain ⟨w1,w2,w3⟩:=kernelOK_in hkq
      have k0:(0≤q.value)=True:=eq_true (by omega)
      have k2':(q.value < (k.values.es.length:Int))=True:=eq_true w2
      have k4:(0+q.value.toNat*1+1≤(thereOf (inpT k) d).length)=True:=eq_true (by rw [thereOf_len,hthl];omega)
      have e4:=set_at (l:=(thereOf (inpT k) d).map AV.bool) (n:=q.value.toNat) (.bool true) (by rw [List.length_map,thereOf_len,hthl];omega)
      rw [map_set_bool] at e4
      simp only [go_sem,seval]
      refine And.intro (by kernel_rfl) ?_
      simp only [g1,g9,hget,e1,e2,k0,k2',k4,e4,ew,go_sem,seval]
      rw [thereOf_snoc]
      refine ⟨rfl,?_,rfl,rfl⟩
      rw [hru,runK,hkq]
      simp
    ·rw [b1] at hkk
     simp only [cf31L1,cf31E1,e1,e2,g1,hget,e3,e4',e5,e6,b1,go_sem,seval]
     refine And.intro (by kernel_rfl) ?_
     refine XO_call hkk (mapS_four' (by simp only [go_sem,seval]) (by simp only [go_sem,seval]) (snap_boolsN (l:=thereOf (inpT k) d) (by rw [thereOf_len,hthl]) g9 62) (by simp only [go_sem,seval])) (v:=.bool (kernelOK k (thereOf (inpT k) d) q d.length)) (pa:=[]) rfl ?_
     cases hkq:kernelOK k (thereOf (inpT k) d) q d.length
     ·simp only [go_sem,seval]
      refine And.intro (by kernel_rfl) ?_
      rw [fuseV,ho,hru,runK,hkq]
      rfl
     ·obtain ⟨w1,w2,w3⟩:=kernelOK_in hkq
      have k0:(0≤q.value)=True:=eq_true (by omega)
      have k2':(q.value < (k.values.es.length:Int))=True:=eq_true w2
      have k4:(0+q.value.toNat*1+1≤(thereOf (inpT k) d).length)=True:=eq_true (by rw [thereOf_len,hthl];omega)
      have e4:=set_at (l:=(thereOf (inpT k) d).map AV.bool) (n:=q.value.toNat) (.bool true) (by rw [List.length_map,thereOf_len,hthl];omega)
      rw [map_set_bool] at e4
      simp only [go_sem,seval]
      refine And.intro (by kernel_rfl) ?_
      simp only [g1,g9,hget,e1,e2,k0,k2',k4,e4,ew,go_sem,seval]
      rw [thereOf_snoc]
      refine ⟨rfl,?_,rfl,rfl⟩
      rw [hru,runK,hkq]
      simp
 ·rintro d x r env hp hes ⟨rfl,g1,g9⟩
  obtain ⟨hx,hlt⟩:=range_mid hes
  have hb2:(d++x :: r).length≤big:=by rw [← hes];simp;omega
  have e1:decide ((d.length:Int) < k.inputs)=true:=by simp;omega
  have e2:((d.length:Int) < (k.values.es.length:Int))=True:=eq_true (by omega)
  have g1':=g1
  simp only [kcellsR] at g1
  have hfl2:=fillT_len (V:=k.values.es.length) (i:=d.length) (by omega)
  have e3:(0+d.length*1+1≤(fillT k.values.es.length d.length).length)=True:=eq_true (by omega)
  have e4:=set_at (l:=(fillT k.values.es.length d.length).map AV.bool) (n:=d.length) (.bool true) (by simp;omega)
  rw [map_set_bool,fillT_set (by omega)] at e4
  simp only [cf31L0,cf31E0,e1,e2,g1,g9,e3,e4,wr_mid hb2,go_sem,seval]
  rw [List.length_append]
  exact ⟨rfl,rfl,rfl⟩
end
end Go.Tev
end
section
namespace Go.Tev
def sRead (v:Int) (i:Int) (l:List Int) (s:Sp):Sp:=if l.any (fun w=>decide (w=v)) then (s.1,i) else s
theorem sRead_snoc (v i:Int) (d:List Int) (x:Int) (s:Sp):sRead v i (d++[x]) s=if decide (x=v) then ((sRead v i d s).1,i) else sRead v i d s:=by
 simp only [sRead,List.any_append,List.any_cons,List.any_nil,Bool.or_false]
 cases List.any d (fun w=>decide (w=v))<;>cases decide (x=v)<;>simp
def sVal (v:Int) (i:Int) (q:Kernel) (s:Sp):Sp:=if decide (q.value=v) then (if decide (s.1 = -2) then i else s.1,i) else s
def sKer (v:Int) (i:Int) (q:Kernel) (s:Sp):Sp:=sRead v i (refsR q) (sVal v i q s)
def sRun (v:Int):Sp→Nat→List Kernel→Sp
 | s,_,[]=>s
 | s,i,q :: r=>sRun v (sKer v i q s) (i+1) r
theorem sRun_snoc (v:Int):∀ (d:List Kernel) (s:Sp) (i:Nat) (q:Kernel),sRun v s i (d++[q])=sKer v ((i+d.length:Nat):Int) q (sRun v s i d)
 | [],s,i,q=>rfl
 | x :: r,s,i,q=>by
  simp only [List.cons_append,sRun,sRun_snoc v r,List.length_cons]
  rw [show i+1+r.length=i+(r.length+1) from by omega]
def s0 (k:Kernels) (v:Int):Sp:=if decide (v < k.inputs) then (-1,-1) else (-2,-2)
def refSp (k:Kernels) (v:Int):Sp:=sRead v k.list.es.length k.results.es (sRun v (s0 k v) 0 k.list.es)
def refSps (k:Kernels):List Sp:=(List.range k.values.es.length).map fun v=>refSp k (v:Nat)
theorem setTo_at (sp:List Sp) (w x:Int) (v:Nat) (hw:0≤w):(setTo sp w x)[v]?=(sp[v]?).map fun s=>if decide (w=(v:Int)) then (s.1,x) else s:=by
 simp only [setTo,List.getElem?_modify]
 cases sp[v]? with
 | none=>rfl
 | some s=>
  by_cases h:w=v
  ·have:w.toNat=v:=by omega
   simp [h]
  ·have:¬ w.toNat=v:=by omega
   simp [h,this]
theorem setFrom_at (sp:List Sp) (w x:Int) (v:Nat) (hw:0≤w):(setFrom sp w x)[v]?=(sp[v]?).map fun s=>if decide (w=(v:Int)) then (x,s.2) else s:=by
 simp only [setFrom,List.getElem?_modify]
 cases sp[v]? with
 | none=>rfl
 | some s=>
  by_cases h:w=v
  ·have:w.toNat=v:=by omega
   simp [h]
  ·have:¬ w.toNat=v:=by omega
   simp [h,this]
theorem spReads_at (i:Nat) (v:Nat):∀ (l:List Int) (sp:List Sp),(∀ a∈l,0≤a)→(spReads sp i l)[v]?=(sp[v]?).map (sRead v i l)
 | [],sp,_=>by
  simp only [spReads,List.foldl_nil]
  cases sp[v]?<;>simp [sRead]
 | w :: r,sp,h=>by
  have ih:=spReads_at i v r (setTo sp w i) (fun a ha=>h a (List.mem_cons_of_mem _ ha))
  simp only [spReads,List.foldl_cons] at ih ⊢
  rw [ih,setTo_at sp w i v (h w (by simp))]
  cases sp[v]? with
  | none=>rfl
  | some s=>
   simp only [Option.map_some,sRead,List.any_cons]
   by_cases hr:List.any r (fun w=>decide (w=(v:Int)))=true<;>by_cases hw:w=(v:Int)<;>simp only [hr,hw,decide_true,decide_false,if_true,if_false,Bool.true_or,Bool.false_or,Bool.false_eq_true]
theorem spStep_at (sp:List Sp) (i:Nat) (q:Kernel) (v:Nat) (hv:0≤q.value) (hr:∀ a∈readsK q,0≤a):(spStep sp i q)[v]?=(sp[v]?).map (sKer v i q):=by
 rw [spStep,spReads_at i v _ _ hr,setTo_at _ _ _ _ hv]
 have h1:(if decide (fromOf sp q.value = -2) then setFrom sp q.value i else sp)[v]?=(sp[v]?).map fun s=>if decide (q.value=(v:Int))&&decide (fromOf sp q.value = -2) then ((i:Int),s.2) else s:=by
  by_cases h:fromOf sp q.value = -2
  ·simp only [h,decide_true,if_true,Bool.and_true]
   rw [setFrom_at _ _ _ _ hv]
  ·simp only [h,decide_false,Bool.false_eq_true,if_false,Bool.and_false]
   cases sp[v]?<;>rfl
 rw [h1]
 cases hs:sp[v]? with
 | none=>rfl
 | some s=>
  simp only [Option.map_some,Option.some.injEq]
  have hm:∀ a:Int,a∈refsR q++[q.value]↔a∈readsK q∨a=q.value:=fun a=>mem_refL
  simp only [sKer,sVal]
  by_cases hqv:q.value=(v:Int)
  ·have hf:fromOf sp q.value=s.1:=by
    have:q.value.toNat=v:=by omega
    simp only [fromOf,this,hs]
   rw [hf]
   simp only [hqv,decide_true,Bool.true_and,if_true,sRead]
   by_cases h2:s.1 = -2
   ·simp only [h2,decide_true,if_true]
    split<;>split<;>rfl
   ·simp only [h2,decide_false,Bool.false_eq_true,if_false]
    split<;>split<;>rfl
  ·simp only [hqv,decide_false,Bool.false_and,Bool.false_eq_true,if_false]
   have:(readsK q).any (fun w=>decide (w=(v:Int)))=(refsR q).any (fun w=>decide (w=(v:Int))):=by
    rw [Bool.eq_iff_iff]
    simp only [List.any_eq_true,decide_eq_true_eq]
    constructor
    ·rintro ⟨w,hw,rfl⟩
     have:=(hm v).2 (.inl hw)
     rw [List.mem_append] at this
     rcases this with h | h
     ·exact ⟨_,h,rfl⟩
     ·simp only [List.mem_singleton] at h;exact absurd h.symm hqv
    ·rintro ⟨w,hw,rfl⟩
     have:=(hm v).1 (List.mem_append_left _ hw)
     rcases this with h | h
     ·exact ⟨_,h,rfl⟩
     ·exact absurd h.symm hqv
   simp only [sRead,this]
theorem spRun_at (v:Nat):∀ (l:List Kernel) (sp:List Sp) (i:Nat),(∀ q∈l,0≤q.value∧∀ a∈readsK q,0≤a)→(spRun sp i l)[v]?=(sp[v]?).map (fun s=>sRun v s i l)
 | [],sp,i,_=>by simp only [spRun];cases sp[v]?<;>rfl
 | q :: r,sp,i,h=>by
  rw [spRun,spRun_at v r _ _ (fun x hx=>h x (List.mem_cons_of_mem _ hx)),spStep_at sp i q v (h q (by simp)).1 (h q (by simp)).2]
  cases sp[v]?<;>rfl
theorem spInit_at (k:Kernels) (h0:0≤k.inputs) (v:Nat) (hv:v < k.values.es.length) (hi:k.inputs≤k.values.es.length):(spInit k.values.es.length k.inputs.toNat)[v]?=some (s0 k v):=by
 simp only [spInit,s0]
 by_cases h:(v:Int) < k.inputs
 ·rw [List.getElem?_append_left (by simp;omega)]
  simp [List.getElem?_replicate,h]
 ·rw [List.getElem?_append_right (by simp;omega)]
  simp [List.getElem?_replicate,h];omega
theorem spans_ref (k:Kernels) (ok:FuseOK k):spansK k=refSps k:=by
 have hso:=ok.out
 simp only [outsideOK,Bool.and_eq_true,decide_eq_true_eq] at hso
 obtain ⟨_,⟨⟨⟨⟨⟨⟨_,_⟩,hi0⟩,_⟩,hiV⟩,_⟩,_⟩,_⟩:=hso
 have hker:∀ q∈k.list.es,0≤q.value∧∀ a∈readsK q,0≤a:=by
  intro q hq
  obtain ⟨d,r,he⟩:=List.append_of_mem hq
  have h1:=ok.ker d q r he
  have h2:=kernelOK_in h1
  exact ⟨by omega,fun a ha=>(kernelOK_reads h1 a ha).1⟩
 apply List.ext_getElem?
 intro v
 by_cases hv:v < k.values.es.length
 ·have hr:(refSps k)[v]?=some (refSp k v):=by
   simp [refSps,List.getElem?_range hv]
  rw [hr,spansK,show spRes=fun sp n l=>spReads sp n l from rfl]
  dsimp only
  rw [spReads_at _ _ _ _ (fun a ha=>(ok.res a ha).1),spRun_at v _ _ _ hker,spInit_at k hi0 v hv hiV]
  rfl
 ·rw [List.getElem?_eq_none (by rw [spansK_len (by omega)];omega),List.getElem?_eq_none (by simp [refSps];omega)]
def spansRR (k:Kernels) (r:AV):Prop:=
 if (fuseV k).2=0 then ∃ nl cl,r = .tup [.sl nl ((spansK k).map spAV) cl,.int .i64 0] else r = .tup [.sl true [] true,.int .i64 22]
section
variable {pg:Pg}
set_option maxHeartbeats 1000000 in
theorem c10 (hf:pg.fs 10=some cf10) (k:Kernels) (h31:Ret pg 31 [k.av] (.tup [.int .i64 (fuseV k).1,.int .i64 (fuseV k).2]))
  (h22:∀ q∈k.list.es,RetP pg 22 [q.av] (IsSl 1 false ((refsR q).map intA))) (hrl:∀ q∈k.list.es,(refsR q).length≤big):RetP pg 10 [k.av] (spansRR k):=by
 simp only [Kernels.av,Kernels.cells,Sl.av] at h31
 refine RetP.ofX hf ?_
 unfold cf10
 simp only [Kernels.av,Kernels.cells,go_sem,seval]
 refine XO_tree h31 (by simp only [go_sem,seval]) rfl ?_
 rcases fuse_code (k:=k) with hc | hc
 ·have ok:=fuseOK_of hc
  have hVb:=k.values.ok
  have hLb:=k.list.ok
  have hRb:=k.results.ok
  rw [hc]
  simp only [go_sem,seval]
  refine XX_list (List.range k.values.es.length) (fun d r env hp=>∃ w,env=cf10E3 (.pt 1 0 0) w (.int .i64 d.length)∧hp.get 1=some (0,.blk (kcellsR k) 6 true true false) ∧
   Own hp 17 2 true w ((d.map fun v:Nat=>refSp k v).map spAV)) ?_ ?_ ?_
  ·refine ⟨_,rfl,?_,Own.nil _ _ _ _ _ _ rfl⟩
   simp only [go_sem,seval]
   rfl
  ·rintro env hp ⟨w,rfl,g1,ho⟩
   have hr:(List.range k.values.es.length).length=k.values.es.length:=List.length_range
   rw [hr]
   simp only [kcellsR] at g1
   simp only [cf10L3,cf10E3,g1,ltSelf,go_sem,seval]
   have hE:((List.range k.values.es.length).map fun v:Nat=>refSp k v)=spansK k:=by rw [spans_ref k ok];rfl
   rw [hE] at ho
   have hfin:∀ r,(∃ nl cl,r = .tup [.sl nl ((spansK k).map spAV) cl,.int .i64 0])→spansRR k r:=by
    intro r hr
    rw [spansRR,if_pos hc]
    exact hr
   obtain ⟨nl,cl,keys,hsn,_⟩:=ho.snap (spAV_el _) 61
   rcases ho with ⟨he,nl',cl',rfl,_⟩ | ⟨e,cs,rfl,hg,hu⟩
   ·simp only [go_sem,seval]
    exact hfin _ ⟨nl',cl',by rw [he]⟩
   ·simp only [List.length_map] at hsn
    simp only [Tev.conv,depth,snapX,mapS_nil,mapS_cons,↓hsn,go_sem,List.length_map]
    exact hfin _ ⟨_,_,rfl⟩
  ·rintro d x r env hp hes ⟨w,rfl,g1,ho⟩
   obtain ⟨hx,hlt⟩:=range_mid hes
   have e1:decide ((d.length:Int) < (k.values.es.length:Int))=true:=by simp;omega
   have ew:wr .i64 ((d.length:Int)+1)=((d++[x]).length:Int):=wr_mid (r:=r) (by rw [← hes];simpa using hVb)
   have g1':=g1
   simp only [kcellsR] at g1
   cases hin:decide ((d.length:Int) < k.inputs)
   ·simp only [cf10L3,cf10E3,g1,e1,hin,go_sem,seval]
    refine XX_list k.list.es (fun dd r env hp2=>∃ s:Sp,env=cf10E1 (.pt 1 0 0) w (.int .i64 d.length) (.pt 9 (hp.next 9) 0) (.int .i64 dd.length)∧hp2.get 1=some (0,.blk (kcellsR k) 6 true true false) ∧
     hp2.get 17=hp.get 17∧hp2.get 9=some (hp.next 9,.blk [.int .i64 s.1,.int .i64 s.2] 2 true true false)∧s=sRun d.length (s0 k d.length) 0 dd) ?_ ?_ ?_
    ·refine ⟨(-2,-2),rfl,?_,?_,?_,by simp [sRun,s0,hin]⟩
     ·first | (simp only [g1',go_sem,seval];done) | (simp only [g1',go_sem,seval];rfl)
     ·simp only [go_sem,seval]
     ·simp only [go_sem,seval]
    ·rintro env hp2 ⟨s,rfl,q1,q17,q9,hs⟩
     have q1':=q1
     simp only [kcellsR] at q1
     simp only [cf10L1,cf10E1,q1,ltSelf,go_sem,seval]
     refine XX_list k.results.es (fun dd r env hp3=>env=cf10E2 (.pt 1 0 0) w (.int .i64 d.length) (.pt 9 (hp.next 9) 0) (.int .i64 dd.length)∧hp3.get 1=some (0,.blk (kcellsR k) 6 true true false) ∧
      hp3.get 17=hp.get 17∧hp3.get 9=some (hp.next 9,.blk [.int .i64 (sRead d.length k.list.es.length dd s).1,.int .i64 (sRead d.length k.list.es.length dd s).2] 2 true true false)) ?_ ?_ ?_
     ·refine ⟨rfl,q1',q17,q9⟩
     ·rintro env hp3 ⟨rfl,u1,u17,u9⟩
      have u1':=u1
      simp only [kcellsR] at u1
      simp only [cf10L2,cf10E2,u1,ltSelf,u9,go_sem,seval]
      have hE:sRead d.length k.list.es.length k.results.es s=refSp k d.length:=by rw [hs];rfl
      rw [hE] at u9 ⊢
      refine XO_own (kb:=0) (s:=17) (ho.mono u17) (spAV_el _) (xs:=[spAV (refSp k d.length)]) (by intro z hz;simp at hz;subst hz;exact ⟨rfl,rfl,rfl⟩) (by simp only [List.length_map,List.length_singleton];simp only [big] at hVb;omega) (by decide) ?_
      intro v' rd pa ho2 hk2 _
      simp only [ew,go_sem,seval]
      refine ⟨v',rfl,?_,?_⟩
      ·rw [hk2 1 (by omega)];exact u1'
      ·rw [hx];simpa using ho2
     ·rintro dd y r3 env hp3 hes3 ⟨rfl,u1,u17,u9⟩
      obtain ⟨hget3,x1,x2,xw⟩:=loopF hes3 hRb
      have u1':=u1
      simp only [kcellsR] at u1
      cases hy:decide (y=(d.length:Int))
      ·simp only [cf10L2,cf10E2,u1,hget3,x1,x2,hy,xw,go_sem,seval]
       refine ⟨rfl,rfl,u17,?_⟩
       rw [sRead_snoc,hy];exact u9
      ·simp only [cf10L2,cf10E2,u1,hget3,x1,x2,hy,u9,xw,go_sem,seval]
       refine ⟨rfl,?_,u17,?_⟩
       ·first | exact u1' | rfl
       ·rw [sRead_snoc,hy];rfl
    ·rintro dd q r2 env hp2 hes2 ⟨s,rfl,g1',g17,g9,hs⟩
     have hmem:q∈k.list.es:=by rw [hes2];simp
     obtain ⟨hget,f1,f2,fw⟩:=loopF hes2 hLb
     have g1:=g1'
     simp only [kcellsR] at g1
     cases hv:decide (q.value=(d.length:Int))
     ·simp only [cf10L1,cf10E1,g1,f1,f2,hget,hv,go_sem,seval]
      have hs1:s=sVal d.length dd.length q s:=by simp [sVal,hv]
      refine XO_sl (h22 q hmem) (by simp only [go_sem,seval]) ?_
      intro nl3 cl3 _
      simp only [go_sem,seval]
      refine XX_list (refsR q) (fun d3 r3 env hp3=>env=cf10E0 (.pt 1 0 0) w (.int .i64 d.length) (.pt 9 (hp.next 9) 0) (.int .i64 dd.length) (.sl nl3 ((refsR q).map intA) cl3) (.int .i64 d3.length)∧hp3.get 1=some (0,.blk (kcellsR k) 6 true true false) ∧
       hp3.get 17=hp.get 17∧hp3.get 9=some (hp.next 9,.blk [.int .i64 (sRead d.length dd.length d3 s).1,.int .i64 (sRead d.length dd.length d3 s).2] 2 true true false)) ?_ ?_ ?_
      ·refine ⟨rfl,?_,?_,?_⟩
       ·first | exact g1' | (simp only [g1',go_sem,seval];done) | (simp only [g1',go_sem,seval];rfl)
       ·first | exact g17 | (simp only [g17,go_sem,seval];done)
       ·first | exact g9 | (simp only [g9,sRead,go_sem,seval];done) | (simp only [g9,sRead,go_sem,seval];rfl)
      ·rintro env hp3 ⟨rfl,q1,q17,q9⟩
       have q1':=q1
       simp only [kcellsR] at q1
       simp only [cf10L0,cf10E0,ltSelf,fw,go_sem,seval]
       exact ⟨_,rfl,q1',q17,q9,by rw [sRun_snoc,← hs,sKer,Nat.zero_add,← hs1]⟩
      ·rintro d3 y r3 env hp3 hes3 ⟨rfl,q1,q17,q9⟩
       obtain ⟨hget3,x1,x2,xw⟩:=loopF hes3 (hrl q hmem)
       cases hy:decide (y=(d.length:Int))
       ·simp only [cf10L0,cf10E0,hget3,x1,x2,hy,xw,go_sem,seval]
        refine ⟨rfl,q1,q17,?_⟩
        rw [sRead_snoc,hy];exact q9
       ·simp only [cf10L0,cf10E0,hget3,x1,x2,hy,q9,xw,go_sem,seval]
        refine ⟨rfl,q1,q17,?_⟩
        rw [sRead_snoc,hy];rfl
     ·cases h2:decide (s.1 = -2)
      ·simp only [cf10L1,cf10E1,g1,f1,f2,hget,hv,g9,h2,go_sem,seval]
       have hs1:(s.1,(dd.length:Int))=sVal d.length dd.length q s:=by simp [sVal,hv,h2]
       refine XO_sl (h22 q hmem) (by simp only [go_sem,seval]) ?_
       intro nl3 cl3 _
       simp only [go_sem,seval]
       refine XX_list (refsR q) (fun d3 r3 env hp3=>env=cf10E0 (.pt 1 0 0) w (.int .i64 d.length) (.pt 9 (hp.next 9) 0) (.int .i64 dd.length) (.sl nl3 ((refsR q).map intA) cl3) (.int .i64 d3.length)∧hp3.get 1=some (0,.blk (kcellsR k) 6 true true false) ∧
        hp3.get 17=hp.get 17∧hp3.get 9=some (hp.next 9,.blk [.int .i64 (sRead d.length dd.length d3 (s.1,(dd.length:Int))).1,.int .i64 (sRead d.length dd.length d3 (s.1,(dd.length:Int))).2] 2 true true false)) ?_ ?_ ?_
       ·refine ⟨rfl,?_,?_,?_⟩
        ·first | exact g1' | (simp only [g1',go_sem,seval];done) | (simp only [g1',go_sem,seval];rfl)
        ·first | exact g17 | (simp only [g17,go_sem,seval];done)
        ·first | exact g9 | (simp only [g9,sRead,go_sem,seval];done) | (simp only [g9,sRead,go_sem,seval];rfl)
       ·rintro env hp3 ⟨rfl,q1,q17,q9⟩
        have q1':=q1
        simp only [kcellsR] at q1
        simp only [cf10L0,cf10E0,ltSelf,fw,go_sem,seval]
        exact ⟨_,rfl,q1',q17,q9,by rw [sRun_snoc,← hs,sKer,Nat.zero_add,← hs1]⟩
       ·rintro d3 y r3 env hp3 hes3 ⟨rfl,q1,q17,q9⟩
        obtain ⟨hget3,x1,x2,xw⟩:=loopF hes3 (hrl q hmem)
        cases hy:decide (y=(d.length:Int))
        ·simp only [cf10L0,cf10E0,hget3,x1,x2,hy,xw,go_sem,seval]
         refine ⟨rfl,q1,q17,?_⟩
         rw [sRead_snoc,hy];exact q9
        ·simp only [cf10L0,cf10E0,hget3,x1,x2,hy,q9,xw,go_sem,seval]
         refine ⟨rfl,q1,q17,?_⟩
         rw [sRead_snoc,hy];rfl
      ·simp only [cf10L1,cf10E1,g1,f1,f2,hget,hv,g9,h2,go_sem,seval]
       have hs1:((dd.length:Int),(dd.length:Int))=sVal d.length dd.length q s:=by simp [sVal,hv,h2]
       refine XO_sl (h22 q hmem) (by simp only [go_sem,seval]) ?_
       intro nl3 cl3 _
       simp only [go_sem,seval]
       refine XX_list (refsR q) (fun d3 r3 env hp3=>env=cf10E0 (.pt 1 0 0) w (.int .i64 d.length) (.pt 9 (hp.next 9) 0) (.int .i64 dd.length) (.sl nl3 ((refsR q).map intA) cl3) (.int .i64 d3.length)∧hp3.get 1=some (0,.blk (kcellsR k) 6 true true false) ∧
        hp3.get 17=hp.get 17∧hp3.get 9=some (hp.next 9,.blk [.int .i64 (sRead d.length dd.length d3 ((dd.length:Int),(dd.length:Int))).1,.int .i64 (sRead d.length dd.length d3 ((dd.length:Int),(dd.length:Int))).2] 2 true true false)) ?_ ?_ ?_
       ·refine ⟨rfl,?_,?_,?_⟩
        ·first | exact g1' | (simp only [g1',go_sem,seval];done) | (simp only [g1',go_sem,seval];rfl)
        ·first | exact g17 | (simp only [g17,go_sem,seval];done)
        ·first | exact g9 | (simp only [g9,sRead,go_sem,seval];done) | (simp only [g9,sRead,go_sem,seval];rfl)
       ·rintro env hp3 ⟨rfl,q1,q17,q9⟩
        have q1':=q1
        simp only [kcellsR] at q1
        simp only [cf10L0,cf10E0,ltSelf,fw,go_sem,seval]
        exact ⟨_,rfl,q1',q17,q9,by rw [sRun_snoc,← hs,sKer,Nat.zero_add,← hs1]⟩
       ·rintro d3 y r3 env hp3 hes3 ⟨rfl,q1,q17,q9⟩
        obtain ⟨hget3,x1,x2,xw⟩:=loopF hes3 (hrl q hmem)
        cases hy:decide (y=(d.length:Int))
        ·simp only [cf10L0,cf10E0,hget3,x1,x2,hy,xw,go_sem,seval]
         refine ⟨rfl,q1,q17,?_⟩
         rw [sRead_snoc,hy];exact q9
        ·simp only [cf10L0,cf10E0,hget3,x1,x2,hy,q9,xw,go_sem,seval]
         refine ⟨rfl,q1,q17,?_⟩
         rw [sRead_snoc,hy];rfl
   ·simp only [cf10L3,cf10E3,g1,e1,hin,go_sem,seval]
    refine XX_list k.list.es (fun dd r env hp2=>∃ s:Sp,env=cf10E1 (.pt 1 0 0) w (.int .i64 d.length) (.pt 9 (hp.next 9) 0) (.int .i64 dd.length)∧hp2.get 1=some (0,.blk (kcellsR k) 6 true true false) ∧
     hp2.get 17=hp.get 17∧hp2.get 9=some (hp.next 9,.blk [.int .i64 s.1,.int .i64 s.2] 2 true true false)∧s=sRun d.length (s0 k d.length) 0 dd) ?_ ?_ ?_
    ·refine ⟨(-1,-1),rfl,?_,?_,?_,by simp [sRun,s0,hin]⟩
     ·first | (simp only [g1',go_sem,seval];done) | (simp only [g1',go_sem,seval];rfl)
     ·simp only [go_sem,seval]
     ·simp only [go_sem,seval]
    ·rintro env hp2 ⟨s,rfl,q1,q17,q9,hs⟩
     have q1':=q1
     simp only [kcellsR] at q1
     simp only [cf10L1,cf10E1,q1,ltSelf,go_sem,seval]
     refine XX_list k.results.es (fun dd r env hp3=>env=cf10E2 (.pt 1 0 0) w (.int .i64 d.length) (.pt 9 (hp.next 9) 0) (.int .i64 dd.length)∧hp3.get 1=some (0,.blk (kcellsR k) 6 true true false) ∧
      hp3.get 17=hp.get 17∧hp3.get 9=some (hp.next 9,.blk [.int .i64 (sRead d.length k.list.es.length dd s).1,.int .i64 (sRead d.length k.list.es.length dd s).2] 2 true true false)) ?_ ?_ ?_
     ·refine ⟨rfl,q1',q17,q9⟩
     ·rintro env hp3 ⟨rfl,u1,u17,u9⟩
      have u1':=u1
      simp only [kcellsR] at u1
      simp only [cf10L2,cf10E2,u1,ltSelf,u9,go_sem,seval]
      have hE:sRead d.length k.list.es.length k.results.es s=refSp k d.length:=by rw [hs];rfl
      rw [hE] at u9 ⊢
      refine XO_own (kb:=0) (s:=17) (ho.mono u17) (spAV_el _) (xs:=[spAV (refSp k d.length)]) (by intro z hz;simp at hz;subst hz;exact ⟨rfl,rfl,rfl⟩) (by simp only [List.length_map,List.length_singleton];simp only [big] at hVb;omega) (by decide) ?_
      intro v' rd pa ho2 hk2 _
      simp only [ew,go_sem,seval]
      refine ⟨v',rfl,?_,?_⟩
      ·rw [hk2 1 (by omega)];exact u1'
      ·rw [hx];simpa using ho2
     ·rintro dd y r3 env hp3 hes3 ⟨rfl,u1,u17,u9⟩
      obtain ⟨hget3,x1,x2,xw⟩:=loopF hes3 hRb
      have u1':=u1
      simp only [kcellsR] at u1
      cases hy:decide (y=(d.length:Int))
      ·simp only [cf10L2,cf10E2,u1,hget3,x1,x2,hy,xw,go_sem,seval]
       refine ⟨rfl,rfl,u17,?_⟩
       rw [sRead_snoc,hy];exact u9
      ·simp only [cf10L2,cf10E2,u1,hget3,x1,x2,hy,u9,xw,go_sem,seval]
       refine ⟨rfl,?_,u17,?_⟩
       ·first | exact u1' | rfl
       ·rw [sRead_snoc,hy];rfl
    ·rintro dd q r2 env hp2 hes2 ⟨s,rfl,g1',g17,g9,hs⟩
     have hmem:q∈k.list.es:=by rw [hes2];simp
     obtain ⟨hget,f1,f2,fw⟩:=loopF hes2 hLb
     have g1:=g1'
     simp only [kcellsR] at g1
     cases hv:decide (q.value=(d.length:Int))
     ·simp only [cf10L1,cf10E1,g1,f1,f2,hget,hv,go_sem,seval]
      have hs1:s=sVal d.length dd.length q s:=by simp [sVal,hv]
      refine XO_sl (h22 q hmem) (by simp only [go_sem,seval]) ?_
      intro nl3 cl3 _
      simp only [go_sem,seval]
      refine XX_list (refsR q) (fun d3 r3 env hp3=>env=cf10E0 (.pt 1 0 0) w (.int .i64 d.length) (.pt 9 (hp.next 9) 0) (.int .i64 dd.length) (.sl nl3 ((refsR q).map intA) cl3) (.int .i64 d3.length)∧hp3.get 1=some (0,.blk (kcellsR k) 6 true true false) ∧
       hp3.get 17=hp.get 17∧hp3.get 9=some (hp.next 9,.blk [.int .i64 (sRead d.length dd.length d3 s).1,.int .i64 (sRead d.length dd.length d3 s).2] 2 true true false)) ?_ ?_ ?_
      ·refine ⟨rfl,?_,?_,?_⟩
       ·first | exact g1' | (simp only [g1',go_sem,seval];done) | (simp only [g1',go_sem,seval];rfl)
       ·first | exact g17 | (simp only [g17,go_sem,seval];done)
       ·first | exact g9 | (simp only [g9,sRead,go_sem,seval];done) | (simp only [g9,sRead,go_sem,seval];rfl)
      ·rintro env hp3 ⟨rfl,q1,q17,q9⟩
       have q1':=q1
       simp only [kcellsR] at q1
       simp only [cf10L0,cf10E0,ltSelf,fw,go_sem,seval]
       exact ⟨_,rfl,q1',q17,q9,by rw [sRun_snoc,← hs,sKer,Nat.zero_add,← hs1]⟩
      ·rintro d3 y r3 env hp3 hes3 ⟨rfl,q1,q17,q9⟩
       obtain ⟨hget3,x1,x2,xw⟩:=loopF hes3 (hrl q hmem)
       cases hy:decide (y=(d.length:Int))
       ·simp only [cf10L0,cf10E0,hget3,x1,x2,hy,xw,go_sem,seval]
        refine ⟨rfl,q1,q17,?_⟩
        rw [sRead_snoc,hy];exact q9
       ·simp only [cf10L0,cf10E0,hget3,x1,x2,hy,q9,xw,go_sem,seval]
        refine ⟨rfl,q1,q17,?_⟩
        rw [sRead_snoc,hy];rfl
     ·cases h2:decide (s.1 = -2)
      ·simp only [cf10L1,cf10E1,g1,f1,f2,hget,hv,g9,h2,go_sem,seval]
       have hs1:(s.1,(dd.length:Int))=sVal d.length dd.length q s:=by simp [sVal,hv,h2]
       refine XO_sl (h22 q hmem) (by simp only [go_sem,seval]) ?_
       intro nl3 cl3 _
       simp only [go_sem,seval]
       refine XX_list (refsR q) (fun d3 r3 env hp3=>env=cf10E0 (.pt 1 0 0) w (.int .i64 d.length) (.pt 9 (hp.next 9) 0) (.int .i64 dd.length) (.sl nl3 ((refsR q).map intA) cl3) (.int .i64 d3.length)∧hp3.get 1=some (0,.blk (kcellsR k) 6 true true false) ∧
        hp3.get 17=hp.get 17∧hp3.get 9=some (hp.next 9,.blk [.int .i64 (sRead d.length dd.length d3 (s.1,(dd.length:Int))).1,.int .i64 (sRead d.length dd.length d3 (s.1,(dd.length:Int))).2] 2 true true false)) ?_ ?_ ?_
       ·refine ⟨rfl,?_,?_,?_⟩
        ·first | exact g1' | (simp only [g1',go_sem,seval];done) | (simp only [g1',go_sem,seval];rfl)
        ·first | exact g17 | (simp only [g17,go_sem,seval];done)
        ·first | exact g9 | (simp only [g9,sRead,go_sem,seval];done) | (simp only [g9,sRead,go_sem,seval];rfl)
       ·rintro env hp3 ⟨rfl,q1,q17,q9⟩
        have q1':=q1
        simp only [kcellsR] at q1
        simp only [cf10L0,cf10E0,ltSelf,fw,go_sem,seval]
        exact ⟨_,rfl,q1',q17,q9,by rw [sRun_snoc,← hs,sKer,Nat.zero_add,← hs1]⟩
       ·rintro d3 y r3 env hp3 hes3 ⟨rfl,q1,q17,q9⟩
        obtain ⟨hget3,x1,x2,xw⟩:=loopF hes3 (hrl q hmem)
        cases hy:decide (y=(d.length:Int))
        ·simp only [cf10L0,cf10E0,hget3,x1,x2,hy,xw,go_sem,seval]
         refine ⟨rfl,q1,q17,?_⟩
         rw [sRead_snoc,hy];exact q9
        ·simp only [cf10L0,cf10E0,hget3,x1,x2,hy,q9,xw,go_sem,seval]
         refine ⟨rfl,q1,q17,?_⟩
         rw [sRead_snoc,hy];rfl
      ·simp only [cf10L1,cf10E1,g1,f1,f2,hget,hv,g9,h2,go_sem,seval]
       have hs1:((dd.length:Int),(dd.length:Int))=sVal d.length dd.length q s:=by simp [sVal,hv,h2]
       refine XO_sl (h22 q hmem) (by simp only [go_sem,seval]) ?_
       intro nl3 cl3 _
       simp only [go_sem,seval]
       refine XX_list (refsR q) (fun d3 r3 env hp3=>env=cf10E0 (.pt 1 0 0) w (.int .i64 d.length) (.pt 9 (hp.next 9) 0) (.int .i64 dd.length) (.sl nl3 ((refsR q).map intA) cl3) (.int .i64 d3.length)∧hp3.get 1=some (0,.blk (kcellsR k) 6 true true false) ∧
        hp3.get 17=hp.get 17∧hp3.get 9=some (hp.next 9,.blk [.int .i64 (sRead d.length dd.length d3 ((dd.length:Int),(dd.length:Int))).1,.int .i64 (sRead d.length dd.length d3 ((dd.length:Int),(dd.length:Int))).2] 2 true true false)) ?_ ?_ ?_
       ·refine ⟨rfl,?_,?_,?_⟩
        ·first | exact g1' | (simp only [g1',go_sem,seval];done) | (simp only [g1',go_sem,seval];rfl)
        ·first | exact g17 | (simp only [g17,go_sem,seval];done)
        ·first | exact g9 | (simp only [g9,sRead,go_sem,seval];done) | (simp only [g9,sRead,go_sem,seval];rfl)
       ·rintro env hp3 ⟨rfl,q1,q17,q9⟩
        have q1':=q1
        simp only [kcellsR] at q1
        simp only [cf10L0,cf10E0,ltSelf,fw,go_sem,seval]
        exact ⟨_,rfl,q1',q17,q9,by rw [sRun_snoc,← hs,sKer,Nat.zero_add,← hs1]⟩
       ·rintro d3 y r3 env hp3 hes3 ⟨rfl,q1,q17,q9⟩
        obtain ⟨hget3,x1,x2,xw⟩:=loopF hes3 (hrl q hmem)
        cases hy:decide (y=(d.length:Int))
        ·simp only [cf10L0,cf10E0,hget3,x1,x2,hy,xw,go_sem,seval]
         refine ⟨rfl,q1,q17,?_⟩
         rw [sRead_snoc,hy];exact q9
        ·simp only [cf10L0,cf10E0,hget3,x1,x2,hy,q9,xw,go_sem,seval]
         refine ⟨rfl,q1,q17,?_⟩
         rw [sRead_snoc,hy];rfl
 ·rw [hc]
  simp only [go_sem,seval]
  rw [spansRR,if_neg (by rw [hc];decide)]
end
end Go.Tev
end
