import Derived.Test.YtmcadllokkmeiaaGreatDoorSBA
import Derived.Test.YtmcadllokkmeiaaGreatDoorSAX
import Derived.Test.YtmcadllokkmeiaaGreatDoorSAT
set_option linter.all false
section
namespace Go.Tev
theorem rY{h:Hp}{d:Nat}{a b c c' e:AV}{keys:List Nat}(ha:a.tree=true)(hb:b.tree=true)(hc:Tev.snap (d+1) h c=some (c',keys))(he:e.tree=true):cE (Tev.snap (d+1) h) [a,b,c,e]=some ([a,b,c',e],keys):=by
 simp[bA,cD,lY ha,lY hb,lY he,hc]
section
variable{pg:Pg}
set_option maxRecDepth 8000 in
set_option maxHeartbeats 2000000 in
theorem c31(hf:pg.fs 31=some cf31)(h49:∀k:aA,Ret pg 49 [k.av] (.bool (bD k)))
  (h50:∀(k:aA),0<=k.inputs->(∀t∈k.values.es,t.shape.dims.es.length<=6)->∀(nl cl:Bool)(th:List Bool),th.length=k.values.es.length->∀(q:aE)(second:Bool),
   q.body.ok->q.index.ok->k.vars.es.length+9+q.body.sz<=big->k.vars.es.length+9+q.index.sz<=big ->
   Ret pg 50 [k.av,q.av,.sl nl (th.map AV.bool) cl,.bool second] (.bool (j6 k q th second)))
  (k:aA) (hq:∀q∈k.list.es,q.body.ok/\q.index.ok/\k.vars.es.length+9+q.body.sz<=big/\k.vars.es.length+9+q.index.sz<=big) :
  Ret pg 31 [k.av] (.tup [.int .i64 (cB k).1,.int .i64 (cB k).2]):=by
 have a1:=h49 k
 simp only[aA.av,aA.cells,Sl.av]at a1
 refine Ret.ofX hf ?_
 unfold cf31
 simp only[aA.av,aA.cells,go_sem,seval]
 refine aB a1 (by simp only[go_sem,seval]) rfl ?_
 cases ho:bD k
 ·simp only[go_sem,seval]
  simp only[cB,ho];rfl
 have hV:((k.values.es.length:Int)<=1073741824)=True:=eq_true (by have:=k.values.ok;simp only[big]at this;omega)
 have hfl:(List.replicate k.values.es.length [AV.bool false]).flatten=(List.replicate k.values.es.length false).map AV.bool:=by
  rw[List.map_replicate]
  induction k.values.es.length with
  |zero=>rfl
  |succ n ih=>rw[List.replicate_succ,List.flatten_cons,ih,List.replicate_succ];rfl
 simp only[hV,hfl,go_sem,seval]
 have hso:=ho
 simp only[bD,Bool.and_eq_true,decide_eq_true_eq]at hso
 obtain⟨_,⟨⟨⟨⟨⟨⟨_,_⟩,hi0⟩,_⟩,hiV⟩,_⟩,_⟩,hty⟩:=hso
 have hvals:∀t∈k.values.es,t.shape.dims.es.length<=6:=fun t ht=>wO (by rw[List.all_eq_true]at hty;exact hty t ht)
 obtain⟨ins,hins⟩:∃n:Nat,k.inputs=n:=⟨k.inputs.toNat,by omega⟩
 have hinV:ins<=k.values.es.length:=by omega
 have hVb:=k.values.ok
 have hf0:kG k.values.es.length 0=List.replicate k.values.es.length false:=by simp[kG]
 refine aG (List.range ins) (fun d r env hp=>env=cf31E0 (.pt 1 0 0) (.rf 9 0 0 k.values.es.length k.values.es.length) (.int .i64 d.length) /\
  hp.get 1=some (0,.blk (aQ k) 6 true true false)/\hp.get 9=some (0,.blk ((kG k.values.es.length d.length).map AV.bool) 1 false true false)) ?_ ?_ ?_
 ·refine⟨rfl,?_,?_⟩
  ·simp only[go_sem,seval]
   rfl
  ·rw[show ([]:List Nat).length=0 from rfl,hf0]
   simp only[go_sem,seval]
 ·rintro env hp ⟨rfl,g1,g9⟩
  have hr:(List.range ins).length=ins:=List.length_range
  rw[hr]at g9 ⊢
  have e1:decide ((ins:Int)<k.inputs)=false:=by simp;omega
  have hth0:kG k.values.es.length ins=eS k:=by simp[kG,eS,hins]
  rw[hth0]at g9
  have hthl:(eS k).length=k.values.es.length:=by rw[<-hth0,qU hinV]
  have g1':=g1
  simp only[aQ]at g1
  simp only[cf31L0,cf31E0,e1,g1,go_sem,seval]
  have hrun:lQ k (eS k) k.list.es 0=lQ k (aY (eS k) []) k.list.es ([]:List aE).length:=rfl
  clear hr hth0 hf0 hV hfl e1
  refine aG k.list.es (fun d r env hp=>env=cf31E1 (.pt 1 0 0) (.rf 9 0 0 k.values.es.length k.values.es.length) (.int .i64 d.length) /\
   lQ k (eS k) k.list.es 0=lQ k (aY (eS k) d) r d.length /\
   hp.get 1=some (0,.blk (aQ k) 6 true true false)/\hp.get 9=some (0,.blk ((aY (eS k) d).map AV.bool) 1 false true false)) ?_ ?_ ?_
  ·exact⟨rfl,hrun,g1',g9⟩
  ·clear g1 g1' g9 hp
   rintro env hp ⟨rfl,hru,g1,g9⟩
   have hthe:(aY (eS k) k.list.es).length=k.values.es.length:=by rw[cG,hthl]
   generalize hTH:aY (eS k) k.list.es=th at *
   have g1':=g1
   simp only[aQ]at g1
   have hfin:∀ok:Bool,(!cX k th)=ok->cB k=((k.list.es.length:Int),if ok then 0 else 22):=by
    intro ok h
    rw[cB,ho,hru,lQ,hTH]
    cases ok<;>simp at h<;>simp[h]
   have hrb:=k.results.ok
   have hstart:∀b:Bool,b=(decide (1<=(k.results.es.length:Int))&&decide ((k.results.es.length:Int)<=8))->(!cX k th)=(b&&k.results.es.all fun v => !cL k th v):=by
    intro b hb
    have h1:decide (1<=(k.results.es.length:Int)) = !decide ((k.results.es.length:Int)<1):=by rw[<-decide_not,decide_eq_decide];omega
    have h2:decide ((k.results.es.length:Int)<=8) = !decide (8<(k.results.es.length:Int)):=by rw[<-decide_not,decide_eq_decide];omega
    rw[hb,h1,h2,cX,<-List.not_any_eq_all_not]
    simp only[Bool.not_or]
   clear hru hrun
   cases r1:decide (1<=(k.results.es.length:Int))
   case false=>
    simp only[cf31L1,cf31E1,g1,aX,r1,go_sem,seval]
    refine aG k.results.es (fun d r env hp=>∃ok:Bool,env=cf31E2 (.pt 1 0 0) (.rf 9 0 0 k.values.es.length k.values.es.length) (.bool ok) (.int .i64 d.length) /\
     hp.get 1=some (0,.blk (aQ k) 6 true true false)/\hp.get 9=some (0,.blk (th.map AV.bool) 1 false true false)/\(!cX k th)=(ok&&r.all fun v => !cL k th v)) ?_ ?_ ?_
    ·exact⟨_,rfl,g1',g9,hstart _ (by first|rw[r1];rfl|rw[r1,r2];rfl)⟩
    ·rintro env hp ⟨ok,rfl,g1,g9,hI⟩
     simp only[aQ]at g1
     have hf2:=hfin ok (by rw[hI];simp)
     rw[hf2]
     cases ok
     ·simp only[cf31L2,cf31E2,g1,aX,go_sem,seval]
     ·simp only[cf31L2,cf31E2,g1,aX,go_sem,seval]
    ·rintro d v r env hp hes ⟨ok,rfl,g1,g9,hI⟩
     obtain⟨hget,e1,e2,ew⟩:=cJ hes hrb
     have g1'':=g1
     simp only[aQ]at g1
     cases ok
     ·have hf2:=hfin false (by rw[hI];simp)
      rw[hf2]
      simp only[cf31L2,cf31E2,g1,e1,go_sem,seval]
     have hI2:(!cX k th)=(!cL k th v&&r.all fun v => !cL k th v):=by rw[hI];simp
     cases z1:decide (0<=v)
     ·have:cL k th v=true:=by
       have h:decide (v<0)=true:=by simp at z1 ⊢;omega
       simp only[cL,h,Bool.true_or]
      simp only[cf31L2,cf31E2,g1,e1,e2,hget,z1,ew,go_sem,seval]
      exact⟨_,rfl,rfl,g9,by rw[hI2,this];simp⟩
     cases z2:decide (v<(k.values.es.length:Int))
     ·have:cL k th v=true:=by
       have h:decide ((k.values.es.length:Int)<=v)=true:=by simp at z2 ⊢;omega
       simp only[cL,h,Bool.true_or,Bool.or_true]
      simp only[cf31L2,cf31E2,g1,e1,e2,hget,z1,z2,ew,go_sem,seval]
      exact⟨_,rfl,rfl,g9,by rw[hI2,this];simp⟩
     have z1':(0<=v)=True:=eq_true (of_decide_eq_true z1)
     have z2':(v<(k.values.es.length:Int))=True:=eq_true (of_decide_eq_true z2)
     obtain⟨b,hb⟩:∃b,th[v.toNat]?=some b:=⟨_,List.getElem?_eq_getElem (by simp at z1 z2;omega)⟩
     have:cL k th v = !b:=by
      have h1:decide (v<0)=false:=by simp at z1 ⊢;omega
      have h2:decide ((k.values.es.length:Int)<=v)=false:=by simp at z2 ⊢;omega
      simp only[cL,h1,h2,Bool.false_or,aU,hb];rfl
     simp only[cf31L2,cf31E2,g1,g9,e1,e2,hget,z1,z2,z1',z2',hb,Nat.mul_one,Nat.zero_add,ew,go_sem,seval]
     exact⟨_,rfl,rfl,by rw[hI2,this];simp⟩
   case true=>
    cases r2:decide ((k.results.es.length:Int)<=8)
    ·simp only[cf31L1,cf31E1,g1,aX,r1,r2,go_sem,seval]
     refine aG k.results.es (fun d r env hp=>∃ok:Bool,env=cf31E2 (.pt 1 0 0) (.rf 9 0 0 k.values.es.length k.values.es.length) (.bool ok) (.int .i64 d.length) /\
      hp.get 1=some (0,.blk (aQ k) 6 true true false)/\hp.get 9=some (0,.blk (th.map AV.bool) 1 false true false)/\(!cX k th)=(ok&&r.all fun v => !cL k th v)) ?_ ?_ ?_
     ·exact⟨_,rfl,g1',g9,hstart _ (by first|rw[r1];rfl|rw[r1,r2];rfl)⟩
     ·rintro env hp ⟨ok,rfl,g1,g9,hI⟩
      simp only[aQ]at g1
      have hf2:=hfin ok (by rw[hI];simp)
      rw[hf2]
      cases ok
      ·simp only[cf31L2,cf31E2,g1,aX,go_sem,seval]
      ·simp only[cf31L2,cf31E2,g1,aX,go_sem,seval]
     ·rintro d v r env hp hes ⟨ok,rfl,g1,g9,hI⟩
      obtain⟨hget,e1,e2,ew⟩:=cJ hes hrb
      have g1'':=g1
      simp only[aQ]at g1
      cases ok
      ·have hf2:=hfin false (by rw[hI];simp)
       rw[hf2]
       simp only[cf31L2,cf31E2,g1,e1,go_sem,seval]
      have hI2:(!cX k th)=(!cL k th v&&r.all fun v => !cL k th v):=by rw[hI];simp
      cases z1:decide (0<=v)
      ·have:cL k th v=true:=by
        have h:decide (v<0)=true:=by simp at z1 ⊢;omega
        simp only[cL,h,Bool.true_or]
       simp only[cf31L2,cf31E2,g1,e1,e2,hget,z1,ew,go_sem,seval]
       exact⟨_,rfl,rfl,g9,by rw[hI2,this];simp⟩
      cases z2:decide (v<(k.values.es.length:Int))
      ·have:cL k th v=true:=by
        have h:decide ((k.values.es.length:Int)<=v)=true:=by simp at z2 ⊢;omega
        simp only[cL,h,Bool.true_or,Bool.or_true]
       simp only[cf31L2,cf31E2,g1,e1,e2,hget,z1,z2,ew,go_sem,seval]
       exact⟨_,rfl,rfl,g9,by rw[hI2,this];simp⟩
      have z1':(0<=v)=True:=eq_true (of_decide_eq_true z1)
      have z2':(v<(k.values.es.length:Int))=True:=eq_true (of_decide_eq_true z2)
      obtain⟨b,hb⟩:∃b,th[v.toNat]?=some b:=⟨_,List.getElem?_eq_getElem (by simp at z1 z2;omega)⟩
      have:cL k th v = !b:=by
       have h1:decide (v<0)=false:=by simp at z1 ⊢;omega
       have h2:decide ((k.values.es.length:Int)<=v)=false:=by simp at z2 ⊢;omega
       simp only[cL,h1,h2,Bool.false_or,aU,hb];rfl
      simp only[cf31L2,cf31E2,g1,g9,e1,e2,hget,z1,z2,z1',z2',hb,Nat.mul_one,Nat.zero_add,ew,go_sem,seval]
      exact⟨_,rfl,rfl,by rw[hI2,this];simp⟩
    ·simp only[cf31L1,cf31E1,g1,aX,r1,r2,go_sem,seval]
     refine aG k.results.es (fun d r env hp=>∃ok:Bool,env=cf31E2 (.pt 1 0 0) (.rf 9 0 0 k.values.es.length k.values.es.length) (.bool ok) (.int .i64 d.length) /\
      hp.get 1=some (0,.blk (aQ k) 6 true true false)/\hp.get 9=some (0,.blk (th.map AV.bool) 1 false true false)/\(!cX k th)=(ok&&r.all fun v => !cL k th v)) ?_ ?_ ?_
     ·exact⟨_,rfl,g1',g9,hstart _ (by first|rw[r1];rfl|rw[r1,r2];rfl)⟩
     ·rintro env hp ⟨ok,rfl,g1,g9,hI⟩
      simp only[aQ]at g1
      have hf2:=hfin ok (by rw[hI];simp)
      rw[hf2]
      cases ok
      ·simp only[cf31L2,cf31E2,g1,aX,go_sem,seval]
      ·simp only[cf31L2,cf31E2,g1,aX,go_sem,seval]
     ·rintro d v r env hp hes ⟨ok,rfl,g1,g9,hI⟩
      obtain⟨hget,e1,e2,ew⟩:=cJ hes hrb
      have g1'':=g1
      simp only[aQ]at g1
      cases ok
      ·have hf2:=hfin false (by rw[hI];simp)
       rw[hf2]
       simp only[cf31L2,cf31E2,g1,e1,go_sem,seval]
      have hI2:(!cX k th)=(!cL k th v&&r.all fun v => !cL k th v):=by rw[hI];simp
      cases z1:decide (0<=v)
      ·have:cL k th v=true:=by
        have h:decide (v<0)=true:=by simp at z1 ⊢;omega
        simp only[cL,h,Bool.true_or]
       simp only[cf31L2,cf31E2,g1,e1,e2,hget,z1,ew,go_sem,seval]
       exact⟨_,rfl,rfl,g9,by rw[hI2,this];simp⟩
      cases z2:decide (v<(k.values.es.length:Int))
      ·have:cL k th v=true:=by
        have h:decide ((k.values.es.length:Int)<=v)=true:=by simp at z2 ⊢;omega
        simp only[cL,h,Bool.true_or,Bool.or_true]
       simp only[cf31L2,cf31E2,g1,e1,e2,hget,z1,z2,ew,go_sem,seval]
       exact⟨_,rfl,rfl,g9,by rw[hI2,this];simp⟩
      have z1':(0<=v)=True:=eq_true (of_decide_eq_true z1)
      have z2':(v<(k.values.es.length:Int))=True:=eq_true (of_decide_eq_true z2)
      obtain⟨b,hb⟩:∃b,th[v.toNat]?=some b:=⟨_,List.getElem?_eq_getElem (by simp at z1 z2;omega)⟩
      have:cL k th v = !b:=by
       have h1:decide (v<0)=false:=by simp at z1 ⊢;omega
       have h2:decide ((k.values.es.length:Int)<=v)=false:=by simp at z2 ⊢;omega
       simp only[cL,h1,h2,Bool.false_or,aU,hb];rfl
      simp only[cf31L2,cf31E2,g1,g9,e1,e2,hget,z1,z2,z1',z2',hb,Nat.mul_one,Nat.zero_add,ew,go_sem,seval]
      exact⟨_,rfl,rfl,by rw[hI2,this];simp⟩
  ·clear g1 g1' g9 hp
   rintro d q r env hp hes ⟨rfl,hru,g1,g9⟩
   have hmem:q∈k.list.es:=by rw[hes];simp
   obtain⟨p1,p2,p3,p4⟩:=hq q hmem
   have hlb:=k.list.ok
   obtain⟨hget,e1,e2,ew⟩:=cJ hes hlb
   have hkk:=h50 k hi0 hvals false true (aY (eS k) d) (by rw[cG,hthl]) q (j4 k q d.length) p1 p2 p3 p4
   rw[C1 k q _ d.length hi0]at hkk
   simp only[aA.av,aA.cells,Sl.av]at hkk
   have g1':=g1
   simp only[aQ]at g1
   rcases List.eq_nil_or_concat d with hd|⟨d',q0,hd⟩
   ·have e3:decide (0<(d.length:Int))=false:=by simp[hd]
    have hsec:j4 k q d.length=false:=by simp[j4,hd]
    rw[hsec]at hkk
    simp only[cf31L1,cf31E1,e1,e2,g1,hget,e3,go_sem,seval]
    refine And.intro (by kernel_rfl) ?_
    refine bT hkk (rY (by simp only[go_sem,seval]) (by simp only[go_sem,seval]) (eH (l:=aY (eS k) d) (by rw[cG,hthl]) g9 62) (by simp only[go_sem,seval])) (v:=.bool (bI k (aY (eS k) d) q d.length)) (pa:=[]) rfl ?_
    cases hkq:bI k (aY (eS k) d) q d.length
    ·simp only[go_sem,seval]
     refine And.intro (by kernel_rfl) ?_
     rw[cB,ho,hru,lQ,hkq]
     rfl
    ·obtain⟨w1,w2,w3⟩:=iE hkq
     have k0:(0<=q.value)=True:=eq_true (by omega)
     have k2':(q.value<(k.values.es.length:Int))=True:=eq_true w2
     have k4:(0+q.value.toNat*1+1<=(aY (eS k) d).length)=True:=eq_true (by rw[cG,hthl];omega)
     have e4:=nM (l:=(aY (eS k) d).map AV.bool) (n:=q.value.toNat) (.bool true) (by rw[List.length_map,cG,hthl];omega)
     rw[eD]at e4
     simp only[go_sem,seval]
     refine And.intro (by kernel_rfl) ?_
     simp only[g1,g9,hget,e1,e2,k0,k2',k4,e4,ew,go_sem,seval]
     rw[lX]
     refine⟨rfl,?_,rfl,rfl⟩
     rw[hru,lQ,hkq]
     simp
   ·have hd':d=d'++[q0]:=by simpa using hd
    have e3:decide (0<(d.length:Int))=true:=by simp[hd']
    have e4':wr .i64 ((d.length:Int)-1)=(d'.length:Int):=by
     have:d.length<=k.list.es.length:=by rw[hes];simp
     simp only[big]at hlb
     rw[aR (by omega) (by omega),hd',List.length_append,List.length_singleton];omega
    have e5:k.list.es[d'.length]?=some q0:=by rw[hes,hd'];simp
    have e6:((d'.length:Int)<(k.list.es.length:Int))=True:=eq_true (by rw[hes,hd'];simp;omega)
    have hsec:j4 k q d.length=(decide (q0.kind=1)&&decide (q0.value=q.value)):=by
     have h1:decide ((d.length:Int)=0)=false:=by simp[hd'];omega
     have h2:((d.length:Int)-1).toNat=d'.length:=by rw[hd',List.length_append,List.length_singleton];omega
     simp only[j4,h1,h2,e5];rfl
    rw[hsec]at hkk
    cases b1:decide (q0.kind=1)
    ·rw[b1]at hkk
     simp only[cf31L1,cf31E1,e1,e2,g1,hget,e3,e4',e5,e6,b1,go_sem,seval]
     refine And.intro (by kernel_rfl) ?_
     refine bT hkk (rY (by simp only[go_sem,seval]) (by simp only[go_sem,seval]) (eH (l:=aY (eS k) d) (by rw[cG,hthl]) g9 62) (by simp only[go_sem,seval])) (v:=.bool (bI k (aY (eS k) d) q d.length)) (pa:=[]) rfl ?_
     cases hkq:bI k (aY (eS k) d) q d.length
     ·simp only[go_sem,seval]
      refine And.intro (by kernel_rfl) ?_
      rw[cB,ho,hru,lQ,hkq]
      rfl
     ·obtain⟨w1,w2,w3⟩:=iE hkq
      have k0:(0<=q.value)=True:=eq_true (by omega)
      have k2':(q.value<(k.values.es.length:Int))=True:=eq_true w2
      have k4:(0+q.value.toNat*1+1<=(aY (eS k) d).length)=True:=eq_true (by rw[cG,hthl];omega)
      have e4:=nM (l:=(aY (eS k) d).map AV.bool) (n:=q.value.toNat) (.bool true) (by rw[List.length_map,cG,hthl];omega)
      rw[eD]at e4
      simp only[go_sem,seval]
      refine And.intro (by kernel_rfl) ?_
      simp only[g1,g9,hget,e1,e2,k0,k2',k4,e4,ew,go_sem,seval]
      rw[lX]
      refine⟨rfl,?_,rfl,rfl⟩
      rw[hru,lQ,hkq]
      simp
    ·rw[b1]at hkk
     simp only[cf31L1,cf31E1,e1,e2,g1,hget,e3,e4',e5,e6,b1,go_sem,seval]
     refine And.intro (by kernel_rfl) ?_
     refine bT hkk (rY (by simp only[go_sem,seval]) (by simp only[go_sem,seval]) (eH (l:=aY (eS k) d) (by rw[cG,hthl]) g9 62) (by simp only[go_sem,seval])) (v:=.bool (bI k (aY (eS k) d) q d.length)) (pa:=[]) rfl ?_
     cases hkq:bI k (aY (eS k) d) q d.length
     ·simp only[go_sem,seval]
      refine And.intro (by kernel_rfl) ?_
      rw[cB,ho,hru,lQ,hkq]
      rfl
     ·obtain⟨w1,w2,w3⟩:=iE hkq
      have k0:(0<=q.value)=True:=eq_true (by omega)
      have k2':(q.value<(k.values.es.length:Int))=True:=eq_true w2
      have k4:(0+q.value.toNat*1+1<=(aY (eS k) d).length)=True:=eq_true (by rw[cG,hthl];omega)
      have e4:=nM (l:=(aY (eS k) d).map AV.bool) (n:=q.value.toNat) (.bool true) (by rw[List.length_map,cG,hthl];omega)
      rw[eD]at e4
      simp only[go_sem,seval]
      refine And.intro (by kernel_rfl) ?_
      simp only[g1,g9,hget,e1,e2,k0,k2',k4,e4,ew,go_sem,seval]
      rw[lX]
      refine⟨rfl,?_,rfl,rfl⟩
      rw[hru,lQ,hkq]
      simp
 ·rintro d x r env hp hes ⟨rfl,g1,g9⟩
  obtain⟨hx,hlt⟩:=jX hes
  have hb2:(d++x::r).length<=big:=by rw[<-hes];simp;omega
  have e1:decide ((d.length:Int)<k.inputs)=true:=by simp;omega
  have e2:((d.length:Int)<(k.values.es.length:Int))=True:=eq_true (by omega)
  have g1':=g1
  simp only[aQ]at g1
  have hfl2:=qU (V:=k.values.es.length) (i:=d.length) (by omega)
  have e3:(0+d.length*1+1<=(kG k.values.es.length d.length).length)=True:=eq_true (by omega)
  have e4:=nM (l:=(kG k.values.es.length d.length).map AV.bool) (n:=d.length) (.bool true) (by simp;omega)
  rw[eD,AL (by omega)]at e4
  simp only[cf31L0,cf31E0,e1,e2,g1,g9,e3,e4,aM hb2,go_sem,seval]
  rw[List.length_append]
  exact⟨rfl,rfl,rfl⟩
end
end Go.Tev
end
section
namespace Go.Tev
section
variable{pg:Pg}
theorem c22(hf:pg.fs 22=some cf22)(h37:∀p:aC,p.ok->p.sz<=big->bL pg 37 [p.av] (lO 1 false ((aW p).map aH)))(h38:pg.fs 38=some cf55)(q:aE)(h1:q.body.ok)(h2:q.index.ok)(hsz:q.body.sz+q.index.sz+1<=big) :
  bL pg 22 [q.av] (lO 1 false ((gI q).map aH)):=by
 have a1:=h37 q.body h1 (by omega)
 have a2:=h37 q.index h2 (by omega)
 rw[aC.avc]at a1 a2
 have l1:=iC q.body
 have l2:=iC q.index
 refine bL.ofX hf ?_
 unfold cf22
 simp only[go_sem,seval]
 refine u4 a1 (by simp only[go_sem,seval]) (El.ints _) ?_
 intro v rd pa ho hk _
 have k1:=hk 1 (by omega)
 simp only[go_sem,seval]at k1
 generalize hH:Eff.app _ (Eff.pat rd pa)=H at ho k1 ⊢
 clear hH hk
 simp only[k1,go_sem,seval]
 cases h3:decide (q.kind=3)
 ·simp only[go_sem,seval]
  have hr:gI q=aW q.body:=by simp[gI,h3]
  rw[hr]
  exact ho.conv (El.ints _)
 ·simp only[k1,go_sem,seval]
  refine j3 a2 (by simp only[go_sem,seval]) ?_
  intro nl2 cl2 _
  simp only[go_sem,seval]
  obtain⟨C,hC,k1⟩:∃C,C=q.av.cells/\H.get 1=some (0,.blk C 24 true true false):=⟨_,(aE.cells_av q).symm,k1⟩
  refine aG (aW q.index) (fun d r env hp=>∃v k1,env=cf22E0 (.pt 1 0 0) v (.sl nl2 ((aW q.index).map aH) cl2) (.int .i64 d.length)/\Own hp k1 1 false v ((gQ (aW q.body) d).map aH)/\hp.get 1=some (0,.blk C 24 true true false)) ?_ ?_ ?_
  ·refine⟨v,5,rfl,ho.mono ?_,?_⟩
   ·simp only[go_sem,seval]
   ·simp only[go_sem,seval]
    exact k1
  ·clear ho k1 a1 a2
   rintro env hp ⟨v,k2,rfl,ho,g1⟩
   have hr:gI q=if decide (q.source=q.value) then gQ (aW q.body) (aW q.index) else fK q.source (gQ (aW q.body) (aW q.index)):=by simp[gI,h3]
   have hpl:=kU (aW q.index) (aW q.body)
   rw[hC,aE.cells_av]at g1
   simp only[cf22L0,cf22E0,g1,go_sem,seval]
   rw[hr]
   cases h4:decide (q.source=q.value)
   case true=>
    simp only[go_sem,seval]
    exact ho.conv (El.ints _)
   case false=>
    simp only[g1,go_sem,seval]
    refine yS h38 ho (by omega) ?_
    intro r' h' k3 ho' _
    simp only[go_sem,seval]
    exact ho'.conv (El.ints _)
  ·clear ho k1 a1 a2
   rintro d y r env hp hes ⟨v,k2,rfl,ho,g1⟩
   have hd2:d.length<(aW q.index).length:=by rw[hes];simp
   have hget:(aW q.index)[d.length]?=some y:=by rw[hes];simp
   have hpl:=kU d (aW q.body)
   have hbb:(gQ (aW q.body) d).length<big:=by omega
   have f1:decide ((d.length:Int)<((aW q.index).length:Int))=true:=by simp;omega
   have f2:((d.length:Int)<((aW q.index).length:Int))=True:=eq_true (by omega)
   have hw2:wr .i64 ((d.length:Int)+1)=((d++[y]).length:Int):=aM (r:=r) (by rw[<-hes];omega)
   have hsn2:=rU (aW q.body) d y
   simp only[cf22L0,cf22E0,f1,f2,hget,go_sem,seval]
   refine yS h38 ho hbb ?_
   intro r' h' k3 ho' hun
   simp only[hw2,go_sem,seval]
   rw[hsn2]
   exact⟨r',k3,rfl,ho',(hun 1 (by decide)).trans g1⟩
end
end Go.Tev
end
section
namespace Go.Tev
theorem zM(sp:List Sp)(v x:Int)(n:Nat):(iV sp v x)[n]?=(sp[n]?).map (fun s=>if v.toNat=n then (s.1,x) else s):=by
 simp only[iV,List.getElem?_modify]
 split<;>simp[*]
theorem vD(sp:List Sp)(v x:Int)(n:Nat):(gK sp v x)[n]?=(sp[n]?).map (fun s=>if v.toNat=n then (x,s.2) else s):=by
 simp only[gK,List.getElem?_modify]
 split<;>simp[*]
theorem pL(i:Nat):∀(l:List Int)(sp:List Sp)(n:Nat),(c7 sp i l)[n]?=(sp[n]?).map (fun s=>if n∈l.map Int.toNat then (s.1,(i:Int)) else s)
 |[],sp,n=>by simp[c7]
 |v::r,sp,n=>by
  have h:=pL i r (iV sp v i) n
  simp only[c7,List.foldl_cons]at h ⊢
  rw[h,zM,Option.map_map]
  congr 1
  funext s
  simp only[Function.comp,List.map_cons,List.mem_cons]
  by_cases h1:v.toNat=n
  ·subst h1;simp
  ·have h2:¬n=v.toNat:=fun h=>h1 h.symm
   simp[h1,h2]
def uses(q:aE)(n:Nat):Prop:=n=q.value.toNat\/n∈(cP q).map Int.toNat
theorem EW(sp:List Sp)(i:Nat)(q:aE)(n:Nat)(s:Sp)(h:sp[n]?=some s) :
  ∃s',(lP sp i q)[n]?=some s'/\(s'.1=if n=q.value.toNat/\s.1 = -2 then (i:Int) else s.1)/\(uses q n->s'.2=i)/\(¬uses q n->s'.2=s.2):=by
 have hf:i6 sp q.value = -2/\n=q.value.toNat->s.1 = -2:=by
  rintro⟨h1,rfl⟩
  simpa[i6,h] using h1
 have hf2:n=q.value.toNat->s.1 = -2->i6 sp q.value = -2:=by
  rintro rfl h1
  simpa[i6,h] using h1
 simp only[lP,pL,zM]
 by_cases hv:n=q.value.toNat
 ·have hv':q.value.toNat=n:=hv.symm
  by_cases h1:s.1 = -2
  ·have h2:=hf2 hv h1
   simp only[h2,decide_true,if_true,vD,h,Option.map_some,hv']
   refine⟨_,rfl,?_,?_,?_⟩
   ·split<;>simp[h1,hv]
   ·intro _;split<;>rfl
   ·intro hn;exact absurd (.inl hv) hn
  ·have h2:¬i6 sp q.value = -2:=fun h=>h1 (hf ⟨h,hv⟩)
   simp only[h2,decide_false,Bool.false_eq_true,if_false,h,Option.map_some,hv',if_true]
   refine⟨_,rfl,?_,?_,?_⟩
   ·split<;>simp[h1]
   ·intro _;split<;>rfl
   ·intro hn;exact absurd (.inl hv) hn
 ·have hv':¬q.value.toNat=n:=fun h=>hv h.symm
  have e:(if decide (i6 sp q.value = -2)=true then gK sp q.value i else sp)[n]?=some s:=by
   split
   ·rw[vD,h,Option.map_some,if_neg hv']
   ·exact h
  simp only[e,Option.map_some,hv',if_false]
  refine⟨_,rfl,?_,?_,?_⟩
  ·split<;>simp[hv]
  ·rintro(hu|hu)
   ·exact absurd hu hv
   ·rw[if_pos hu]
  ·intro hn
   rw[if_neg (fun h=>hn (.inr h))]
theorem EY(V i n:Nat)(s:Sp)(h:(cQ V i)[n]?=some s):(n<i/\s=(-1,-1))\/(i<=n/\s=(-2,-2)):=by
 simp only[cQ]at h
 rcases Nat.lt_or_ge n i with h1|h1
 ·rw[List.getElem?_append_left (by simpa using h1),List.getElem?_replicate,if_pos h1]at h
  exact .inl ⟨h1,by cases h;rfl⟩
 ·rw[List.getElem?_append_right (by simpa using h1),List.getElem?_replicate]at h
  split at h
  ·exact .inr ⟨h1,by cases h;rfl⟩
  ·cases h
theorem kK.inp{k:aA}(ok:kK k):0<=k.inputs/\k.inputs<=k.values.es.length:=by
 have h:=ok.out
 simp only[bD,Bool.and_eq_true,decide_eq_true_eq]at h
 omega
theorem EU{k:aA}(n:Nat):(aF k)[n]?=((gH (cQ k.values.es.length k.inputs.toNat) 0 k.list.es)[n]?).map (fun s=>if n∈k.results.es.map Int.toNat then (s.1,(k.list.es.length:Int)) else s):=by
 rw[aF,show mZ=fun sp n l=>c7 sp n l from rfl]
 exact pL _ _ _ _
end Go.Tev
end
section
namespace Go.Tev
def TN(q:aE):List Int:=gI q++[q.value]
theorem K2{q:aE}{a:Int}:a∈TN q↔a∈cP q\/a=q.value:=by
 have e1:∀p,a∈bK p↔a∈dA p:=fun p=>by simp only[bK,kZ,l8]
 simp only[TN,gI,cP,List.mem_append,List.mem_singleton]
 cases decide (q.kind=3)
 ·simp[iD,e1]
 ·cases hs:decide (q.source=q.value)
  ·simp only[if_true,Bool.false_eq_true,if_false,sW,qQ,iD,e1,List.mem_append,List.mem_singleton]
   constructor
   ·rintro((h|h|h)|h)<;>simp[h]
   ·rintro((h|h|h)|h)<;>simp[h]
  ·have hs':q.source=q.value:=by simpa using hs
   simp only[if_true,qQ,iD,e1,List.mem_append,List.mem_singleton,hs']
   constructor
   ·rintro((h|h)|h)<;>simp[h]
   ·rintro((h|h|h)|h)<;>simp[h]
end Go.Tev
end
section
namespace Go.Tev
def cT(v:Int)(i:Int)(l:List Int)(s:Sp):Sp:=if l.any (fun w=>decide (w=v)) then (s.1,i) else s
theorem cR(v i:Int)(d:List Int)(x:Int)(s:Sp):cT v i (d++[x]) s=if decide (x=v) then ((cT v i d s).1,i) else cT v i d s:=by
 simp only[cT,List.any_append,List.any_cons,List.any_nil,Bool.or_false]
 cases List.any d (fun w=>decide (w=v))<;>cases decide (x=v)<;>simp
def rO(v:Int)(i:Int)(q:aE)(s:Sp):Sp:=if decide (q.value=v) then (if decide (s.1 = -2) then i else s.1,i) else s
def pG(v:Int)(i:Int)(q:aE)(s:Sp):Sp:=cT v i (gI q) (rO v i q s)
def xD(v:Int):Sp->Nat->List aE->Sp
 |s,_,[]=>s
 |s,i,q::r=>xD v (pG v i q s) (i+1) r
theorem kT(v:Int):∀(d:List aE)(s:Sp)(i:Nat)(q:aE),xD v s i (d++[q])=pG v ((i+d.length:Nat):Int) q (xD v s i d)
 |[],s,i,q=>rfl
 |x::r,s,i,q=>by
  simp only[List.cons_append,xD,kT v r,List.length_cons]
  rw[show i+1+r.length=i+(r.length+1) from by omega]
def s0q(k:aA)(v:Int):Sp:=if decide (v<k.inputs) then (-1,-1) else (-2,-2)
def vG(k:aA)(v:Int):Sp:=cT v k.list.es.length k.results.es (xD v (s0q k v) 0 k.list.es)
def xH(k:aA):List Sp:=(List.range k.values.es.length).map fun v=>vG k (v:Nat)
theorem CV(sp:List Sp)(w x:Int)(v:Nat)(hw:0<=w):(iV sp w x)[v]?=(sp[v]?).map fun s=>if decide (w=(v:Int)) then (s.1,x) else s:=by
 simp only[iV,List.getElem?_modify]
 cases sp[v]? with
 |none=>rfl
 |some s=>
  by_cases h:w=v
  ·have:w.toNat=v:=by omega
   simp[h]
  ·have:¬w.toNat=v:=by omega
   simp[h,this]
theorem E2(sp:List Sp)(w x:Int)(v:Nat)(hw:0<=w):(gK sp w x)[v]?=(sp[v]?).map fun s=>if decide (w=(v:Int)) then (x,s.2) else s:=by
 simp only[gK,List.getElem?_modify]
 cases sp[v]? with
 |none=>rfl
 |some s=>
  by_cases h:w=v
  ·have:w.toNat=v:=by omega
   simp[h]
  ·have:¬w.toNat=v:=by omega
   simp[h,this]
theorem rL(i:Nat)(v:Nat):∀(l:List Int)(sp:List Sp),(∀a∈l,0<=a)->(c7 sp i l)[v]?=(sp[v]?).map (cT v i l)
 |[],sp,_=>by
  simp only[c7,List.foldl_nil]
  cases sp[v]?<;>simp[cT]
 |w::r,sp,h=>by
  have ih:=rL i v r (iV sp w i) (fun a ha=>h a (List.mem_cons_of_mem _ ha))
  simp only[c7,List.foldl_cons]at ih ⊢
  rw[ih,CV sp w i v (h w (by simp))]
  cases sp[v]? with
  |none=>rfl
  |some s=>
   simp only[Option.map_some,cT,List.any_cons]
   by_cases hr:List.any r (fun w=>decide (w=(v:Int)))=true<;>by_cases hw:w=(v:Int)<;>simp only[hr,hw,decide_true,decide_false,if_true,if_false,Bool.true_or,Bool.false_or,Bool.false_eq_true]
theorem HY(sp:List Sp)(i:Nat)(q:aE)(v:Nat)(hv:0<=q.value)(hr:∀a∈cP q,0<=a):(lP sp i q)[v]?=(sp[v]?).map (pG v i q):=by
 rw[lP,rL i v _ _ hr,CV _ _ _ _ hv]
 have h1:(if decide (i6 sp q.value = -2) then gK sp q.value i else sp)[v]?=(sp[v]?).map fun s=>if decide (q.value=(v:Int))&&decide (i6 sp q.value = -2) then ((i:Int),s.2) else s:=by
  by_cases h:i6 sp q.value = -2
  ·simp only[h,decide_true,if_true,Bool.and_true]
   rw[E2 _ _ _ _ hv]
  ·simp only[h,decide_false,Bool.false_eq_true,if_false,Bool.and_false]
   cases sp[v]?<;>rfl
 rw[h1]
 cases hs:sp[v]? with
 |none=>rfl
 |some s=>
  simp only[Option.map_some,Option.some.injEq]
  have hm:∀a:Int,a∈gI q++[q.value]↔a∈cP q\/a=q.value:=fun a=>K2
  simp only[pG,rO]
  by_cases hqv:q.value=(v:Int)
  ·have hf:i6 sp q.value=s.1:=by
    have:q.value.toNat=v:=by omega
    simp only[i6,this,hs]
   rw[hf]
   simp only[hqv,decide_true,Bool.true_and,if_true,cT]
   by_cases h2:s.1 = -2
   ·simp only[h2,decide_true,if_true]
    split<;>split<;>rfl
   ·simp only[h2,decide_false,Bool.false_eq_true,if_false]
    split<;>split<;>rfl
  ·simp only[hqv,decide_false,Bool.false_and,Bool.false_eq_true,if_false]
   have:(cP q).any (fun w=>decide (w=(v:Int)))=(gI q).any (fun w=>decide (w=(v:Int))):=by
    rw[Bool.eq_iff_iff]
    simp only[List.any_eq_true,decide_eq_true_eq]
    constructor
    ·rintro⟨w,hw,rfl⟩
     have:=(hm v).2 (.inl hw)
     rw[List.mem_append]at this
     rcases this with h|h
     ·exact⟨_,h,rfl⟩
     ·simp only[List.mem_singleton]at h;exact absurd h.symm hqv
    ·rintro⟨w,hw,rfl⟩
     have:=(hm v).1 (List.mem_append_left _ hw)
     rcases this with h|h
     ·exact⟨_,h,rfl⟩
     ·exact absurd h.symm hqv
   simp only[cT,this]
theorem CM(v:Nat):∀(l:List aE)(sp:List Sp)(i:Nat),(∀q∈l,0<=q.value/\∀a∈cP q,0<=a)->(gH sp i l)[v]?=(sp[v]?).map (fun s=>xD v s i l)
 |[],sp,i,_=>by simp only[gH];cases sp[v]?<;>rfl
 |q::r,sp,i,h=>by
  rw[gH,CM v r _ _ (fun x hx=>h x (List.mem_cons_of_mem _ hx)),HY sp i q v (h q (by simp)).1 (h q (by simp)).2]
  cases sp[v]?<;>rfl
theorem HZ(k:aA)(h0:0<=k.inputs)(v:Nat)(hv:v<k.values.es.length)(hi:k.inputs<=k.values.es.length):(cQ k.values.es.length k.inputs.toNat)[v]?=some (s0q k v):=by
 simp only[cQ,s0q]
 by_cases h:(v:Int)<k.inputs
 ·rw[List.getElem?_append_left (by simp;omega)]
  simp[List.getElem?_replicate,h]
 ·rw[List.getElem?_append_right (by simp;omega)]
  simp[List.getElem?_replicate,h];omega
theorem zI(k:aA)(ok:kK k):aF k=xH k:=by
 have hso:=ok.out
 simp only[bD,Bool.and_eq_true,decide_eq_true_eq]at hso
 obtain⟨_,⟨⟨⟨⟨⟨⟨_,_⟩,hi0⟩,_⟩,hiV⟩,_⟩,_⟩,_⟩:=hso
 have hker:∀q∈k.list.es,0<=q.value/\∀a∈cP q,0<=a:=by
  intro q hq
  obtain⟨d,r,he⟩:=List.append_of_mem hq
  have h1:=ok.ker d q r he
  have h2:=iE h1
  exact⟨by omega,fun a ha=>(qD h1 a ha).1⟩
 apply List.ext_getElem?
 intro v
 by_cases hv:v<k.values.es.length
 ·have hr:(xH k)[v]?=some (vG k v):=by
   simp[xH,List.getElem?_range hv]
  rw[hr,aF,show mZ=fun sp n l=>c7 sp n l from rfl]
  dsimp only
  rw[rL _ _ _ _ (fun a ha=>(ok.res a ha).1),CM v _ _ _ hker,HZ k hi0 v hv hiV]
  rfl
 ·rw[List.getElem?_eq_none (by rw[jN (by omega)];omega),List.getElem?_eq_none (by simp[xH];omega)]
def fY(k:aA)(r:AV):Prop:=
 if (cB k).2=0 then ∃nl cl,r = .tup [.sl nl ((aF k).map bS) cl,.int .i64 0] else r = .tup [.sl true [] true,.int .i64 22]
section
variable{pg:Pg}
set_option maxHeartbeats 1000000 in
theorem c10(hf:pg.fs 10=some cf10)(k:aA)(h31:Ret pg 31 [k.av] (.tup [.int .i64 (cB k).1,.int .i64 (cB k).2]))
  (h22:∀q∈k.list.es,bL pg 22 [q.av] (lO 1 false ((gI q).map aH))) (hrl:∀q∈k.list.es,(gI q).length<=big):bL pg 10 [k.av] (fY k):=by
 simp only[aA.av,aA.cells,Sl.av]at h31
 refine bL.ofX hf ?_
 unfold cf10
 simp only[aA.av,aA.cells,go_sem,seval]
 refine aB h31 (by simp only[go_sem,seval]) rfl ?_
 rcases j2 (k:=k) with hc|hc
 ·have ok:=fL hc
  have hVb:=k.values.ok
  have hLb:=k.list.ok
  have hRb:=k.results.ok
  rw[hc]
  simp only[go_sem,seval]
  refine aG (List.range k.values.es.length) (fun d r env hp=>∃w,env=cf10E3 (.pt 1 0 0) w (.int .i64 d.length)/\hp.get 1=some (0,.blk (aQ k) 6 true true false) /\
   Own hp 17 2 true w ((d.map fun v:Nat=>vG k v).map bS)) ?_ ?_ ?_
  ·refine⟨_,rfl,?_,Own.nil _ _ _ _ _ _ rfl⟩
   simp only[go_sem,seval]
   rfl
  ·rintro env hp ⟨w,rfl,g1,ho⟩
   have hr:(List.range k.values.es.length).length=k.values.es.length:=List.length_range
   rw[hr]
   simp only[aQ]at g1
   simp only[cf10L3,cf10E3,g1,aX,go_sem,seval]
   have hE:((List.range k.values.es.length).map fun v:Nat=>vG k v)=aF k:=by rw[zI k ok];rfl
   rw[hE]at ho
   have hfin:∀r,(∃nl cl,r = .tup [.sl nl ((aF k).map bS) cl,.int .i64 0])->fY k r:=by
    intro r hr
    rw[fY,if_pos hc]
    exact hr
   obtain⟨nl,cl,keys,hsn,_⟩:=ho.snap (sM _) 61
   rcases ho with ⟨he,nl',cl',rfl,_⟩|⟨e,cs,rfl,hg,hu⟩
   ·simp only[go_sem,seval]
    exact hfin _ ⟨nl',cl',by rw[he]⟩
   ·simp only[List.length_map]at hsn
    simp only[Tev.conv,depth,eI,cD,bA,↓hsn,go_sem,List.length_map]
    exact hfin _ ⟨_,_,rfl⟩
  ·rintro d x r env hp hes ⟨w,rfl,g1,ho⟩
   obtain⟨hx,hlt⟩:=jX hes
   have e1:decide ((d.length:Int)<(k.values.es.length:Int))=true:=by simp;omega
   have ew:wr .i64 ((d.length:Int)+1)=((d++[x]).length:Int):=aM (r:=r) (by rw[<-hes];simpa using hVb)
   have g1':=g1
   simp only[aQ]at g1
   cases hin:decide ((d.length:Int)<k.inputs)
   ·simp only[cf10L3,cf10E3,g1,e1,hin,go_sem,seval]
    refine aG k.list.es (fun dd r env hp2=>∃s:Sp,env=cf10E1 (.pt 1 0 0) w (.int .i64 d.length) (.pt 9 (hp.next 9) 0) (.int .i64 dd.length)/\hp2.get 1=some (0,.blk (aQ k) 6 true true false) /\
     hp2.get 17=hp.get 17/\hp2.get 9=some (hp.next 9,.blk [.int .i64 s.1,.int .i64 s.2] 2 true true false)/\s=xD d.length (s0q k d.length) 0 dd) ?_ ?_ ?_
    ·refine⟨(-2,-2),rfl,?_,?_,?_,by simp[xD,s0q,hin]⟩
     ·first|(simp only[g1',go_sem,seval];done)|(simp only[g1',go_sem,seval];rfl)
     ·simp only[go_sem,seval]
     ·simp only[go_sem,seval]
    ·rintro env hp2 ⟨s,rfl,q1,q17,q9,hs⟩
     have q1':=q1
     simp only[aQ]at q1
     simp only[cf10L1,cf10E1,q1,aX,go_sem,seval]
     refine aG k.results.es (fun dd r env hp3=>env=cf10E2 (.pt 1 0 0) w (.int .i64 d.length) (.pt 9 (hp.next 9) 0) (.int .i64 dd.length)/\hp3.get 1=some (0,.blk (aQ k) 6 true true false) /\
      hp3.get 17=hp.get 17/\hp3.get 9=some (hp.next 9,.blk [.int .i64 (cT d.length k.list.es.length dd s).1,.int .i64 (cT d.length k.list.es.length dd s).2] 2 true true false)) ?_ ?_ ?_
     ·refine⟨rfl,q1',q17,q9⟩
     ·rintro env hp3 ⟨rfl,u1,u17,u9⟩
      have u1':=u1
      simp only[aQ]at u1
      simp only[cf10L2,cf10E2,u1,aX,u9,go_sem,seval]
      have hE:cT d.length k.list.es.length k.results.es s=vG k d.length:=by rw[hs];rfl
      rw[hE]at u9 ⊢
      refine eU (kb:=0) (s:=17) (ho.mono u17) (sM _) (xs:=[bS (vG k d.length)]) (by intro z hz;simp at hz;subst hz;exact⟨rfl,rfl,rfl⟩) (by simp only[List.length_map,List.length_singleton];simp only[big]at hVb;omega) (by decide) ?_
      intro v' rd pa ho2 hk2 _
      simp only[ew,go_sem,seval]
      refine⟨v',rfl,?_,?_⟩
      ·rw[hk2 1 (by omega)];exact u1'
      ·rw[hx];simpa using ho2
     ·rintro dd y r3 env hp3 hes3 ⟨rfl,u1,u17,u9⟩
      obtain⟨hget3,x1,x2,xw⟩:=cJ hes3 hRb
      have u1':=u1
      simp only[aQ]at u1
      cases hy:decide (y=(d.length:Int))
      ·simp only[cf10L2,cf10E2,u1,hget3,x1,x2,hy,xw,go_sem,seval]
       refine⟨rfl,rfl,u17,?_⟩
       rw[cR,hy];exact u9
      ·simp only[cf10L2,cf10E2,u1,hget3,x1,x2,hy,u9,xw,go_sem,seval]
       refine⟨rfl,?_,u17,?_⟩
       ·first|exact u1'|rfl
       ·rw[cR,hy];rfl
    ·rintro dd q r2 env hp2 hes2 ⟨s,rfl,g1',g17,g9,hs⟩
     have hmem:q∈k.list.es:=by rw[hes2];simp
     obtain⟨hget,f1,f2,fw⟩:=cJ hes2 hLb
     have g1:=g1'
     simp only[aQ]at g1
     cases hv:decide (q.value=(d.length:Int))
     ·simp only[cf10L1,cf10E1,g1,f1,f2,hget,hv,go_sem,seval]
      have hs1:s=rO d.length dd.length q s:=by simp[rO,hv]
      refine j3 (h22 q hmem) (by simp only[go_sem,seval]) ?_
      intro nl3 cl3 _
      simp only[go_sem,seval]
      refine aG (gI q) (fun d3 r3 env hp3=>env=cf10E0 (.pt 1 0 0) w (.int .i64 d.length) (.pt 9 (hp.next 9) 0) (.int .i64 dd.length) (.sl nl3 ((gI q).map aH) cl3) (.int .i64 d3.length)/\hp3.get 1=some (0,.blk (aQ k) 6 true true false) /\
       hp3.get 17=hp.get 17/\hp3.get 9=some (hp.next 9,.blk [.int .i64 (cT d.length dd.length d3 s).1,.int .i64 (cT d.length dd.length d3 s).2] 2 true true false)) ?_ ?_ ?_
      ·refine⟨rfl,?_,?_,?_⟩
       ·first|exact g1'|(simp only[g1',go_sem,seval];done)|(simp only[g1',go_sem,seval];rfl)
       ·first|exact g17|(simp only[g17,go_sem,seval];done)
       ·first|exact g9|(simp only[g9,cT,go_sem,seval];done)|(simp only[g9,cT,go_sem,seval];rfl)
      ·rintro env hp3 ⟨rfl,q1,q17,q9⟩
       have q1':=q1
       simp only[aQ]at q1
       simp only[cf10L0,cf10E0,aX,fw,go_sem,seval]
       exact⟨_,rfl,q1',q17,q9,by rw[kT,<-hs,pG,Nat.zero_add,<-hs1]⟩
      ·rintro d3 y r3 env hp3 hes3 ⟨rfl,q1,q17,q9⟩
       obtain⟨hget3,x1,x2,xw⟩:=cJ hes3 (hrl q hmem)
       cases hy:decide (y=(d.length:Int))
       ·simp only[cf10L0,cf10E0,hget3,x1,x2,hy,xw,go_sem,seval]
        refine⟨rfl,q1,q17,?_⟩
        rw[cR,hy];exact q9
       ·simp only[cf10L0,cf10E0,hget3,x1,x2,hy,q9,xw,go_sem,seval]
        refine⟨rfl,q1,q17,?_⟩
        rw[cR,hy];rfl
     ·cases h2:decide (s.1 = -2)
      ·simp only[cf10L1,cf10E1,g1,f1,f2,hget,hv,g9,h2,go_sem,seval]
       have hs1:(s.1,(dd.length:Int))=rO d.length dd.length q s:=by simp[rO,hv,h2]
       refine j3 (h22 q hmem) (by simp only[go_sem,seval]) ?_
       intro nl3 cl3 _
       simp only[go_sem,seval]
       refine aG (gI q) (fun d3 r3 env hp3=>env=cf10E0 (.pt 1 0 0) w (.int .i64 d.length) (.pt 9 (hp.next 9) 0) (.int .i64 dd.length) (.sl nl3 ((gI q).map aH) cl3) (.int .i64 d3.length)/\hp3.get 1=some (0,.blk (aQ k) 6 true true false) /\
        hp3.get 17=hp.get 17/\hp3.get 9=some (hp.next 9,.blk [.int .i64 (cT d.length dd.length d3 (s.1,(dd.length:Int))).1,.int .i64 (cT d.length dd.length d3 (s.1,(dd.length:Int))).2] 2 true true false)) ?_ ?_ ?_
       ·refine⟨rfl,?_,?_,?_⟩
        ·first|exact g1'|(simp only[g1',go_sem,seval];done)|(simp only[g1',go_sem,seval];rfl)
        ·first|exact g17|(simp only[g17,go_sem,seval];done)
        ·first|exact g9|(simp only[g9,cT,go_sem,seval];done)|(simp only[g9,cT,go_sem,seval];rfl)
       ·rintro env hp3 ⟨rfl,q1,q17,q9⟩
        have q1':=q1
        simp only[aQ]at q1
        simp only[cf10L0,cf10E0,aX,fw,go_sem,seval]
        exact⟨_,rfl,q1',q17,q9,by rw[kT,<-hs,pG,Nat.zero_add,<-hs1]⟩
       ·rintro d3 y r3 env hp3 hes3 ⟨rfl,q1,q17,q9⟩
        obtain⟨hget3,x1,x2,xw⟩:=cJ hes3 (hrl q hmem)
        cases hy:decide (y=(d.length:Int))
        ·simp only[cf10L0,cf10E0,hget3,x1,x2,hy,xw,go_sem,seval]
         refine⟨rfl,q1,q17,?_⟩
         rw[cR,hy];exact q9
        ·simp only[cf10L0,cf10E0,hget3,x1,x2,hy,q9,xw,go_sem,seval]
         refine⟨rfl,q1,q17,?_⟩
         rw[cR,hy];rfl
      ·simp only[cf10L1,cf10E1,g1,f1,f2,hget,hv,g9,h2,go_sem,seval]
       have hs1:((dd.length:Int),(dd.length:Int))=rO d.length dd.length q s:=by simp[rO,hv,h2]
       refine j3 (h22 q hmem) (by simp only[go_sem,seval]) ?_
       intro nl3 cl3 _
       simp only[go_sem,seval]
       refine aG (gI q) (fun d3 r3 env hp3=>env=cf10E0 (.pt 1 0 0) w (.int .i64 d.length) (.pt 9 (hp.next 9) 0) (.int .i64 dd.length) (.sl nl3 ((gI q).map aH) cl3) (.int .i64 d3.length)/\hp3.get 1=some (0,.blk (aQ k) 6 true true false) /\
        hp3.get 17=hp.get 17/\hp3.get 9=some (hp.next 9,.blk [.int .i64 (cT d.length dd.length d3 ((dd.length:Int),(dd.length:Int))).1,.int .i64 (cT d.length dd.length d3 ((dd.length:Int),(dd.length:Int))).2] 2 true true false)) ?_ ?_ ?_
       ·refine⟨rfl,?_,?_,?_⟩
        ·first|exact g1'|(simp only[g1',go_sem,seval];done)|(simp only[g1',go_sem,seval];rfl)
        ·first|exact g17|(simp only[g17,go_sem,seval];done)
        ·first|exact g9|(simp only[g9,cT,go_sem,seval];done)|(simp only[g9,cT,go_sem,seval];rfl)
       ·rintro env hp3 ⟨rfl,q1,q17,q9⟩
        have q1':=q1
        simp only[aQ]at q1
        simp only[cf10L0,cf10E0,aX,fw,go_sem,seval]
        exact⟨_,rfl,q1',q17,q9,by rw[kT,<-hs,pG,Nat.zero_add,<-hs1]⟩
       ·rintro d3 y r3 env hp3 hes3 ⟨rfl,q1,q17,q9⟩
        obtain⟨hget3,x1,x2,xw⟩:=cJ hes3 (hrl q hmem)
        cases hy:decide (y=(d.length:Int))
        ·simp only[cf10L0,cf10E0,hget3,x1,x2,hy,xw,go_sem,seval]
         refine⟨rfl,q1,q17,?_⟩
         rw[cR,hy];exact q9
        ·simp only[cf10L0,cf10E0,hget3,x1,x2,hy,q9,xw,go_sem,seval]
         refine⟨rfl,q1,q17,?_⟩
         rw[cR,hy];rfl
   ·simp only[cf10L3,cf10E3,g1,e1,hin,go_sem,seval]
    refine aG k.list.es (fun dd r env hp2=>∃s:Sp,env=cf10E1 (.pt 1 0 0) w (.int .i64 d.length) (.pt 9 (hp.next 9) 0) (.int .i64 dd.length)/\hp2.get 1=some (0,.blk (aQ k) 6 true true false) /\
     hp2.get 17=hp.get 17/\hp2.get 9=some (hp.next 9,.blk [.int .i64 s.1,.int .i64 s.2] 2 true true false)/\s=xD d.length (s0q k d.length) 0 dd) ?_ ?_ ?_
    ·refine⟨(-1,-1),rfl,?_,?_,?_,by simp[xD,s0q,hin]⟩
     ·first|(simp only[g1',go_sem,seval];done)|(simp only[g1',go_sem,seval];rfl)
     ·simp only[go_sem,seval]
     ·simp only[go_sem,seval]
    ·rintro env hp2 ⟨s,rfl,q1,q17,q9,hs⟩
     have q1':=q1
     simp only[aQ]at q1
     simp only[cf10L1,cf10E1,q1,aX,go_sem,seval]
     refine aG k.results.es (fun dd r env hp3=>env=cf10E2 (.pt 1 0 0) w (.int .i64 d.length) (.pt 9 (hp.next 9) 0) (.int .i64 dd.length)/\hp3.get 1=some (0,.blk (aQ k) 6 true true false) /\
      hp3.get 17=hp.get 17/\hp3.get 9=some (hp.next 9,.blk [.int .i64 (cT d.length k.list.es.length dd s).1,.int .i64 (cT d.length k.list.es.length dd s).2] 2 true true false)) ?_ ?_ ?_
     ·refine⟨rfl,q1',q17,q9⟩
     ·rintro env hp3 ⟨rfl,u1,u17,u9⟩
      have u1':=u1
      simp only[aQ]at u1
      simp only[cf10L2,cf10E2,u1,aX,u9,go_sem,seval]
      have hE:cT d.length k.list.es.length k.results.es s=vG k d.length:=by rw[hs];rfl
      rw[hE]at u9 ⊢
      refine eU (kb:=0) (s:=17) (ho.mono u17) (sM _) (xs:=[bS (vG k d.length)]) (by intro z hz;simp at hz;subst hz;exact⟨rfl,rfl,rfl⟩) (by simp only[List.length_map,List.length_singleton];simp only[big]at hVb;omega) (by decide) ?_
      intro v' rd pa ho2 hk2 _
      simp only[ew,go_sem,seval]
      refine⟨v',rfl,?_,?_⟩
      ·rw[hk2 1 (by omega)];exact u1'
      ·rw[hx];simpa using ho2
     ·rintro dd y r3 env hp3 hes3 ⟨rfl,u1,u17,u9⟩
      obtain⟨hget3,x1,x2,xw⟩:=cJ hes3 hRb
      have u1':=u1
      simp only[aQ]at u1
      cases hy:decide (y=(d.length:Int))
      ·simp only[cf10L2,cf10E2,u1,hget3,x1,x2,hy,xw,go_sem,seval]
       refine⟨rfl,rfl,u17,?_⟩
       rw[cR,hy];exact u9
      ·simp only[cf10L2,cf10E2,u1,hget3,x1,x2,hy,u9,xw,go_sem,seval]
       refine⟨rfl,?_,u17,?_⟩
       ·first|exact u1'|rfl
       ·rw[cR,hy];rfl
    ·rintro dd q r2 env hp2 hes2 ⟨s,rfl,g1',g17,g9,hs⟩
     have hmem:q∈k.list.es:=by rw[hes2];simp
     obtain⟨hget,f1,f2,fw⟩:=cJ hes2 hLb
     have g1:=g1'
     simp only[aQ]at g1
     cases hv:decide (q.value=(d.length:Int))
     ·simp only[cf10L1,cf10E1,g1,f1,f2,hget,hv,go_sem,seval]
      have hs1:s=rO d.length dd.length q s:=by simp[rO,hv]
      refine j3 (h22 q hmem) (by simp only[go_sem,seval]) ?_
      intro nl3 cl3 _
      simp only[go_sem,seval]
      refine aG (gI q) (fun d3 r3 env hp3=>env=cf10E0 (.pt 1 0 0) w (.int .i64 d.length) (.pt 9 (hp.next 9) 0) (.int .i64 dd.length) (.sl nl3 ((gI q).map aH) cl3) (.int .i64 d3.length)/\hp3.get 1=some (0,.blk (aQ k) 6 true true false) /\
       hp3.get 17=hp.get 17/\hp3.get 9=some (hp.next 9,.blk [.int .i64 (cT d.length dd.length d3 s).1,.int .i64 (cT d.length dd.length d3 s).2] 2 true true false)) ?_ ?_ ?_
      ·refine⟨rfl,?_,?_,?_⟩
       ·first|exact g1'|(simp only[g1',go_sem,seval];done)|(simp only[g1',go_sem,seval];rfl)
       ·first|exact g17|(simp only[g17,go_sem,seval];done)
       ·first|exact g9|(simp only[g9,cT,go_sem,seval];done)|(simp only[g9,cT,go_sem,seval];rfl)
      ·rintro env hp3 ⟨rfl,q1,q17,q9⟩
       have q1':=q1
       simp only[aQ]at q1
       simp only[cf10L0,cf10E0,aX,fw,go_sem,seval]
       exact⟨_,rfl,q1',q17,q9,by rw[kT,<-hs,pG,Nat.zero_add,<-hs1]⟩
      ·rintro d3 y r3 env hp3 hes3 ⟨rfl,q1,q17,q9⟩
       obtain⟨hget3,x1,x2,xw⟩:=cJ hes3 (hrl q hmem)
       cases hy:decide (y=(d.length:Int))
       ·simp only[cf10L0,cf10E0,hget3,x1,x2,hy,xw,go_sem,seval]
        refine⟨rfl,q1,q17,?_⟩
        rw[cR,hy];exact q9
       ·simp only[cf10L0,cf10E0,hget3,x1,x2,hy,q9,xw,go_sem,seval]
        refine⟨rfl,q1,q17,?_⟩
        rw[cR,hy];rfl
     ·cases h2:decide (s.1 = -2)
      ·simp only[cf10L1,cf10E1,g1,f1,f2,hget,hv,g9,h2,go_sem,seval]
       have hs1:(s.1,(dd.length:Int))=rO d.length dd.length q s:=by simp[rO,hv,h2]
       refine j3 (h22 q hmem) (by simp only[go_sem,seval]) ?_
       intro nl3 cl3 _
       simp only[go_sem,seval]
       refine aG (gI q) (fun d3 r3 env hp3=>env=cf10E0 (.pt 1 0 0) w (.int .i64 d.length) (.pt 9 (hp.next 9) 0) (.int .i64 dd.length) (.sl nl3 ((gI q).map aH) cl3) (.int .i64 d3.length)/\hp3.get 1=some (0,.blk (aQ k) 6 true true false) /\
        hp3.get 17=hp.get 17/\hp3.get 9=some (hp.next 9,.blk [.int .i64 (cT d.length dd.length d3 (s.1,(dd.length:Int))).1,.int .i64 (cT d.length dd.length d3 (s.1,(dd.length:Int))).2] 2 true true false)) ?_ ?_ ?_
       ·refine⟨rfl,?_,?_,?_⟩
        ·first|exact g1'|(simp only[g1',go_sem,seval];done)|(simp only[g1',go_sem,seval];rfl)
        ·first|exact g17|(simp only[g17,go_sem,seval];done)
        ·first|exact g9|(simp only[g9,cT,go_sem,seval];done)|(simp only[g9,cT,go_sem,seval];rfl)
       ·rintro env hp3 ⟨rfl,q1,q17,q9⟩
        have q1':=q1
        simp only[aQ]at q1
        simp only[cf10L0,cf10E0,aX,fw,go_sem,seval]
        exact⟨_,rfl,q1',q17,q9,by rw[kT,<-hs,pG,Nat.zero_add,<-hs1]⟩
       ·rintro d3 y r3 env hp3 hes3 ⟨rfl,q1,q17,q9⟩
        obtain⟨hget3,x1,x2,xw⟩:=cJ hes3 (hrl q hmem)
        cases hy:decide (y=(d.length:Int))
        ·simp only[cf10L0,cf10E0,hget3,x1,x2,hy,xw,go_sem,seval]
         refine⟨rfl,q1,q17,?_⟩
         rw[cR,hy];exact q9
        ·simp only[cf10L0,cf10E0,hget3,x1,x2,hy,q9,xw,go_sem,seval]
         refine⟨rfl,q1,q17,?_⟩
         rw[cR,hy];rfl
      ·simp only[cf10L1,cf10E1,g1,f1,f2,hget,hv,g9,h2,go_sem,seval]
       have hs1:((dd.length:Int),(dd.length:Int))=rO d.length dd.length q s:=by simp[rO,hv,h2]
       refine j3 (h22 q hmem) (by simp only[go_sem,seval]) ?_
       intro nl3 cl3 _
       simp only[go_sem,seval]
       refine aG (gI q) (fun d3 r3 env hp3=>env=cf10E0 (.pt 1 0 0) w (.int .i64 d.length) (.pt 9 (hp.next 9) 0) (.int .i64 dd.length) (.sl nl3 ((gI q).map aH) cl3) (.int .i64 d3.length)/\hp3.get 1=some (0,.blk (aQ k) 6 true true false) /\
        hp3.get 17=hp.get 17/\hp3.get 9=some (hp.next 9,.blk [.int .i64 (cT d.length dd.length d3 ((dd.length:Int),(dd.length:Int))).1,.int .i64 (cT d.length dd.length d3 ((dd.length:Int),(dd.length:Int))).2] 2 true true false)) ?_ ?_ ?_
       ·refine⟨rfl,?_,?_,?_⟩
        ·first|exact g1'|(simp only[g1',go_sem,seval];done)|(simp only[g1',go_sem,seval];rfl)
        ·first|exact g17|(simp only[g17,go_sem,seval];done)
        ·first|exact g9|(simp only[g9,cT,go_sem,seval];done)|(simp only[g9,cT,go_sem,seval];rfl)
       ·rintro env hp3 ⟨rfl,q1,q17,q9⟩
        have q1':=q1
        simp only[aQ]at q1
        simp only[cf10L0,cf10E0,aX,fw,go_sem,seval]
        exact⟨_,rfl,q1',q17,q9,by rw[kT,<-hs,pG,Nat.zero_add,<-hs1]⟩
       ·rintro d3 y r3 env hp3 hes3 ⟨rfl,q1,q17,q9⟩
        obtain⟨hget3,x1,x2,xw⟩:=cJ hes3 (hrl q hmem)
        cases hy:decide (y=(d.length:Int))
        ·simp only[cf10L0,cf10E0,hget3,x1,x2,hy,xw,go_sem,seval]
         refine⟨rfl,q1,q17,?_⟩
         rw[cR,hy];exact q9
        ·simp only[cf10L0,cf10E0,hget3,x1,x2,hy,q9,xw,go_sem,seval]
         refine⟨rfl,q1,q17,?_⟩
         rw[cR,hy];rfl
 ·rw[hc]
  simp only[go_sem,seval]
  rw[fY,if_neg (by rw[hc];decide)]
end
end Go.Tev
end
section
namespace Go.Tev
def xZ(s:Sp):Prop:=s.1 = -2 \/ -1<=s.1
theorem xY{v i:Int}{l:List Int}{s:Sp}(h:xZ s):xZ (cT v i l s):=by
 simp only[cT];split<;>exact h
theorem AJ(v:Int):∀(l:List aE)(s:Sp)(i:Nat),xZ s->xZ (xD v s i l)
 |[],s,i,h=>h
 |q::r,s,i,h=>by
  refine AJ v r _ _ (xY ?_)
  simp only[rO]
  split
  ·split
   ·exact .inr (by show (-1:Int)<=(i:Int);omega)
   ·exact h
  ·exact h
theorem vQ{k:aA}(ok:kK k){s:Sp}(h:s∈aF k):xZ s:=by
 rw[zI k ok,xH,List.mem_map]at h
 obtain⟨v,_,rfl⟩:=h
 refine xY (AJ _ _ _ _ ?_)
 simp only[s0q]
 split
 ·exact .inr (by simp)
 ·exact .inl rfl
section
variable{pg:Pg}
theorem c12(hf:pg.fs 12=some cf12)(k:aA)(h10:bL pg 10 [k.av] (fY k))(at_:Int):bL pg 12 [k.av,.int .i64 at_] (kD k at_):=by
 obtain⟨r9,hr9,hs9⟩:=h10
 simp only[aA.av,aA.cells,Sl.av]at hr9
 refine bL.ofX hf ?_
 unfold cf12
 simp only[aA.av,aA.cells,go_sem,seval]
 rcases j2 (k:=k) with hc|hc
 ·have ok:=fL hc
  have hso:=ok.out
  simp only[bD,Bool.and_eq_true,decide_eq_true_eq]at hso
  obtain⟨_,⟨⟨⟨⟨⟨⟨_,_⟩,hi0⟩,_⟩,hiV⟩,_⟩,_⟩,_⟩:=hso
  have hsl:=jN (k:=k) (by omega)
  have hVb:=k.values.ok
  have htr:treeL ((aF k).map bS)=true:=bG (f:=bS) (fun s=>by simp[bS,go_sem]) _
  rw[fY,if_pos hc]at hs9
  obtain⟨nl9,cl9,rfl⟩:=hs9
  refine aB hr9 (by simp only[go_sem,seval]) (by first|rfl|(simp[AV.tree,htr])) ?_
  simp only[go_sem,seval]
  cases ha:decide (at_ < -1)
  case true=>
   simp only[go_sem,seval]
   rw[kD,if_pos hc,if_pos (.inl (by simpa using ha))]
  case false=>
   simp only[go_sem,seval]
   cases hb:decide ((k.list.es.length:Int)<at_)
   case true=>
    simp only[go_sem,seval]
    rw[kD,if_pos hc,if_pos (.inr (by simpa using hb))]
   case false=>
    simp only[go_sem,seval]
    refine aG (aF k) (fun d r env hp=>∃v,env=cf12E0 (.int .i64 at_) (.sl nl9 ((aF k).map bS) cl9) v (.int .i64 d.length)/\Own hp 9 1 false v ((eJ at_ d).map aH)) ?_ ?_ ?_
    ·exact⟨_,rfl,Own.nil _ _ _ _ _ _ rfl⟩
    ·rintro env hp ⟨v,rfl,ho⟩
     simp only[cf12L0,cf12E0,aX,go_sem,seval]
     have hfin:∀r,(∃nl cl,r = .tup [.sl nl ((eJ at_ (aF k)).map aH) cl,.int .i64 0])->kD k at_ r:=by
      intro r hr
      rw[kD,if_pos hc,if_neg (by simp at ha hb;omega)]
      exact hr
     obtain⟨nl,cl,keys,hsn,_⟩:=ho.snap (El.ints _) 61
     rcases ho with ⟨he,nl',cl',rfl,_⟩|⟨e,cs,rfl,hg,hu⟩
     ·rw[<-he]
      simp only[go_sem,seval]
      exact hfin _ ⟨nl',cl',by rw[he]⟩
     ·simp only[List.length_map]at hsn
      simp only[Tev.conv,depth,eI,cD,bA,↓hsn,go_sem,List.length_map]
      exact hfin _ ⟨_,_,rfl⟩
    ·rintro d x r env hp hes ⟨v,rfl,ho⟩
     have hlb:(aF k).length<=big:=by rw[hsl];exact hVb
     obtain⟨hget,e1,e2,ew⟩:=cJ hes hlb
     have hfx:=vQ ok (show x∈aF k by rw[hes];simp)
     have h3:decide (-1<=x.1) = !decide (x.1 = -2):=by
      rw[<-decide_not,decide_eq_decide]
      rcases hfx with h|h<;>omega
     have hld:=oW at_ d x
     have hlen:(eJ at_ d).length<=d.length:=by
      simp only[eJ,List.length_map]
      exact Nat.le_trans (List.length_filter_le _ _) (by simp)
     have hdl:d.length<=big:=by
      have:d.length<=(aF k).length:=by rw[hes];simp
      omega
     have hx0:bS x = .agg [.int .i64 x.1,.int .i64 x.2]:=rfl
     cases b1:decide (x.1 = -2)
     case true=>
      rw[b1]at h3
      simp only[cf12L0,cf12E0,hget,e1,e2,hx0,h3,ew,go_sem,seval]
      refine⟨v,rfl,?_⟩
      rw[hld];simpa[iH,b1] using ho
     case false=>
     rw[b1]at h3
     cases b2:decide (x.1<=at_)
     case false=>
      simp only[cf12L0,cf12E0,hget,e1,e2,hx0,h3,b2,ew,go_sem,seval]
      refine⟨v,rfl,?_⟩
      rw[hld];simpa[iH,b2] using ho
     case true=>
     cases b3:decide (at_<=x.2)
     case false=>
      simp only[cf12L0,cf12E0,hget,e1,e2,hx0,h3,b2,b3,ew,go_sem,seval]
      refine⟨v,rfl,?_⟩
      rw[hld];simpa[iH,b3] using ho
     case true=>
      simp only[cf12L0,cf12E0,hget,e1,e2,hx0,h3,b2,b3,ew,go_sem,seval]
      refine eU (kb:=0) (s:=9) ho (El.ints _) (xs:=[.int .i64 (d.length:Int)]) (by intro z hz;simp at hz;subst hz;exact El.int _) (by simp only[List.length_map,List.length_singleton];simp only[big]at hdl;omega) (by decide) ?_
      intro v' rd pa ho2 hk2 _
      simp only[ew,go_sem,seval]
      refine⟨v',rfl,?_⟩
      have hil:iH at_ x=true:=by simp[iH,b1,b2,b3]
      rw[hld,hil];simpa[aH] using ho2
 ·rw[fY,if_neg (by rw[hc];decide)]at hs9
  subst hs9
  refine aB hr9 (by simp only[go_sem,seval]) rfl ?_
  simp only[go_sem,seval]
  rw[kD,if_neg (by rw[hc];decide)]
end
end Go.Tev
end
