import Derived.Test.YtdpdokigjeaaiaaGreatDoorNFm
set_option linter.all false
section
namespace Go.Tev
def spansR (k:Kernels) (r:AV):Prop:=
 if (fuseV k).2=0 then r = .tup [.sl false ((spansK k).map spAV) false,.int .i64 0] else r = .tup [.sl true [] true,.int .i64 22]
theorem set_at2 {l:List AV} {n:Nat} (x y:AV) (h:n*2+1 < l.length):List.take (0+n*2) l++[x,y]++List.drop (0+n*2+2) l=(l.set (n*2) x).set (n*2+1) y:=by
 obtain ⟨a,u,v,m,rfl,ha⟩:∃ a u v m,l=a++u :: v :: m∧a.length=n*2:=by
  refine ⟨l.take (n*2),l[n*2],l[n*2+1],l.drop (n*2+1+1),?_,by simp;omega⟩
  rw [← List.drop_eq_getElem_cons h,← List.drop_eq_getElem_cons (by omega),List.take_append_drop]
 rw [Nat.zero_add,← ha]
 simp [List.set_append]
theorem set_at1 {l:List AV} {n:Nat} (x:AV) (h:n < l.length):List.take n l++[x]++List.drop (n+1) l=l.set n x:=by
 rw [List.set_eq_take_append_cons_drop,if_pos h]
 simp
theorem st_to (sp:List Sp) (v x:Int) (h:v.toNat < sp.length):List.take (0+v.toNat*2+1) (spCells sp)++[.int .i64 x]++List.drop (0+v.toNat*2+1+1) (spCells sp)=spCells (setTo sp v x):=by
 rw [Nat.zero_add,set_at1 _ (by rw [spCells_len];omega),spCells_snd]
 rfl
theorem st_from (sp:List Sp) (v x:Int) (h:v.toNat < sp.length):List.take (0+v.toNat*2+0) (spCells sp)++[.int .i64 x]++List.drop (0+v.toNat*2+0+1) (spCells sp)=spCells (setFrom sp v x):=by
 rw [Nat.zero_add,Nat.add_zero,set_at1 _ (by rw [spCells_len];omega),spCells_fst]
 rfl
theorem le_to (sp:List Sp) (v:Int) (h:v.toNat < sp.length):(0+v.toNat*2+1+1≤(spCells sp).length)=True:=eq_true (by rw [spCells_len];omega)
theorem le_from (sp:List Sp) (v:Int) (h:v.toNat < sp.length):(0+v.toNat*2+0+1≤(spCells sp).length)=True:=eq_true (by rw [spCells_len];omega)
theorem ld_from (sp:List Sp) (v:Int) (h:v.toNat < sp.length):(spCells sp)[0+v.toNat*2+0]?=some (.int .i64 (fromOf sp v)):=by
 obtain ⟨s,hs⟩:∃ s,sp[v.toNat]?=some s:=⟨_,List.getElem?_eq_getElem h⟩
 rw [Nat.zero_add,Nat.add_zero,(spCells_0 sp _ s hs).1]
 simp [fromOf,hs]
section
variable {pg:Pg}
theorem c9 (hf:pg.fs 9=some cf9) (h28:∀ k:Kernels,(k.vars.nl=true→k.vars.es=[])→(∀ q∈k.list.es,q.body.ok∧q.index.ok∧k.vars.es.length+9+q.body.sz≤big∧k.vars.es.length+9+q.index.sz≤big) →
   Ret pg 28 [k.av] (.tup [.int .i64 (fuseV k).1,.int .i64 (fuseV k).2]))
  (h29:∀ (nl cl:Bool) (a b:Int) (n:Nat),n≤big→RetP pg 29 [.sl nl [.agg [.int .i64 a,.int .i64 b]] cl,.int .i64 n] (IsSl 2 true (List.replicate n (.agg [.int .i64 a,.int .i64 b]))))
  (h30:∀ q:Kernel,q.body.ok→q.index.ok→q.body.sz+q.index.sz+1≤big→RetP pg 30 [q.av] (IsSl 1 false ((readsK q).map intA)))
  (k:Kernels) (hnl:k.vars.nl=true→k.vars.es=[]) (hq:∀ q∈k.list.es,q.body.ok∧q.index.ok∧k.vars.es.length+9+q.body.sz≤big∧k.vars.es.length+9+q.index.sz≤big) (hq2:∀ q∈k.list.es,q.body.sz+q.index.sz+1≤big) :
  RetP pg 9 [k.av] (spansR k):=by
 have a1:=h28 k hnl hq
 have hVb:=k.values.ok
 have a2:=h29 false true (-2) (-2) k.values.es.length hVb
 clear h28 h29
 refine RetP.ofX hf ?_
 unfold cf9
 simp only [Kernels.av,Kernels.cells,go_sem,seval]
 refine XO_tree a1 (by simp only [Kernels.av,Kernels.cells,go_sem,seval]) rfl ?_
 rcases fuse_code (k:=k) with hc | hc
 ·have ok:=fuseOK_of hc
  have hso:=ok.out
  simp only [outsideOK,Bool.and_eq_true,decide_eq_true_eq] at hso
  obtain ⟨_,⟨⟨⟨⟨⟨⟨_,_⟩,hi0⟩,_⟩,hiV⟩,_⟩,_⟩,_⟩:=hso
  have hV:0 < k.values.es.length:=by
   obtain ⟨v,hv⟩:=List.exists_mem_of_length_pos ok.one
   have:=ok.res v hv
   omega
  have hsp0:List.replicate k.values.es.length (AV.agg [.int .i64 (-2),.int .i64 (-2)])=(spInit k.values.es.length 0).map spAV:=by simp [spInit,spAV]
  have hl0:(spInit k.values.es.length 0).length=k.values.es.length:=spInit_len (Nat.zero_le _)
  rw [hsp0] at a2
  rw [hc]
  simp only [go_sem,seval]
  refine XO_slO' a2 (by simp only [go_sem,seval]) (spAV_el _) (fun he=>?_) (fun cs hcs _=>?_)
  ·have:=congrArg List.length he
   rw [List.length_map,hl0,List.length_nil] at this
   omega
  rw [spCells_un] at hcs
  cases hcs
  rw [List.length_map,hl0]
  generalize hE:Hp.next _ (0+9)=E
  clear hE a1 a2
  obtain ⟨ins,hins⟩:∃ n:Nat,k.inputs=n:=⟨k.inputs.toNat,by omega⟩
  have hinV:ins≤k.values.es.length:=by omega
  have hins':k.inputs.toNat=ins:=by omega
  simp only [go_sem,seval]
  refine XX_list (List.range ins) (fun d r env hp=>env=cf9E0 (.pt 1 0 0) (.rf 9 E 0 k.values.es.length k.values.es.length) (.int .i64 k.inputs) (.int .i64 d.length) ∧
   hp.get 1=some (0,.blk k.cells 6 true true false)∧hp.get 9=some (E,.blk (spCells (spInit k.values.es.length d.length)) 2 true false false)) ?_ ?_ ?_
  ·refine ⟨rfl,?_,?_⟩
   ·simp only [go_sem,seval]
    rfl
   ·simp only [go_sem,seval]
  ·rintro env hp ⟨rfl,g1,g9⟩
   have hr:(List.range ins).length=ins:=List.length_range
   rw [hr] at g9 ⊢
   have e1:decide ((ins:Int) < k.inputs)=false:=by simp;omega
   have g1':=g1
   simp only [Kernels.cells,Sl.av] at g1
   simp only [cf9L0,cf9E0,e1,g1,go_sem,seval]
   refine XX_list k.list.es (fun d r env hp=>env=cf9E2 (.pt 1 0 0) (.rf 9 E 0 k.values.es.length k.values.es.length) (.sl k.list.nl (k.list.es.map Kernel.av) k.list.cl) (.int .i64 k.list.es.length) (.int .i64 d.length) ∧
    hp.get 1=some (0,.blk k.cells 6 true true false)∧hp.get 9=some (E,.blk (spCells (spRun (spInit k.values.es.length ins) 0 d)) 2 true false false)) ?_ ?_ ?_
   ·exact ⟨rfl,g1',g9⟩
   ·clear g9 g1 g1' hp
    rintro env hp ⟨rfl,g1,g9⟩
    have g1':=g1
    simp only [Kernels.cells,Sl.av] at g1
    simp only [cf9L2,cf9E2,g1,go_sem,seval]
    refine XX_list k.results.es (fun d r env hp=>env=cf9E3 (.pt 1 0 0) (.rf 9 E 0 k.values.es.length k.values.es.length) (.sl k.results.nl (k.results.es.map intA) k.results.cl) (.int .i64 k.results.es.length) (.int .i64 d.length) ∧
     hp.get 1=some (0,.blk k.cells 6 true true false)∧hp.get 9=some (E,.blk (spCells (spRes (spRun (spInit k.values.es.length ins) 0 k.list.es) k.list.es.length d)) 2 true false false)) ?_ ?_ ?_
    ·exact ⟨rfl,g1',g9⟩
    ·clear g9 g1 g1' hp
     rintro env hp ⟨rfl,g1,g9⟩
     have hlen:(spansK k).length=k.values.es.length:=by
      simp only [spansK]
      rw [show spRes=fun sp n l=>spReads sp n l from rfl]
      rw [spReads_len,spRun_len,hins',spInit_len hinV]
     have hspk:spRes (spRun (spInit k.values.es.length ins) 0 k.list.es) k.list.es.length k.results.es=spansK k:=by rw [spansK,hins']
     rw [hspk] at g9
     have hsn:=snap_sp g9 61
     rw [hlen] at hsn
     simp only [cf9L3,cf9E3,go_sem,seval]
     simp only [Tev.conv,depth,snapX,mapS_nil,mapS_cons,↓hsn,go_sem]
     rw [spansR,if_pos hc]
    ·clear g9 g1 g1' hp
     rintro d v r env hp hes ⟨rfl,g1,g9⟩
     obtain ⟨v1,v2,_⟩:=ok.res v (by rw [hes];simp)
     have hrb:=k.results.ok
     rw [hes] at hrb
     have hget:k.results.es[d.length]?=some v:=by rw [hes];simp
     have hlt:d.length < k.results.es.length:=by rw [hes];simp
     have e1:decide ((d.length:Int) < (k.results.es.length:Int))=true:=by simp;omega
     have e2:((d.length:Int) < (k.results.es.length:Int))=True:=eq_true (by omega)
     have v1':(0≤v)=True:=eq_true v1
     have v2':(v < (k.values.es.length:Int))=True:=eq_true v2
     have g1':=g1
     simp only [Kernels.cells,Sl.av] at g1
     have hln:(spRes (spRun (spInit k.values.es.length ins) 0 k.list.es) k.list.es.length d).length=k.values.es.length:=by
      rw [show spRes=fun sp n l=>spReads sp n l from rfl]
      rw [spReads_len,spRun_len,spInit_len hinV]
     have hvl:v.toNat < (spRes (spRun (spInit k.values.es.length ins) 0 k.list.es) k.list.es.length d).length:=by rw [hln];omega
     have hsno:setTo (spRes (spRun (spInit k.values.es.length ins) 0 k.list.es) k.list.es.length d) v k.list.es.length=spRes (spRun (spInit k.values.es.length ins) 0 k.list.es) k.list.es.length (d++[v]):=by simp [spRes]
     simp only [cf9L3,cf9E3,e1,e2,g1,g9,hget,v1',v2',le_to _ v hvl,st_to _ v _ hvl,wr_mid hrb,hsno,go_sem,seval]
     exact ⟨rfl,rfl⟩
   ·clear g9 g1 g1' hp
    rintro d q r env hp hes ⟨rfl,g1,g9⟩
    obtain ⟨v0,v2,_⟩:=kernelOK_in (ok.ker d q r hes)
    have hlb:=k.list.ok
    rw [hes] at hlb
    have hget:k.list.es[d.length]?=some q:=by rw [hes];simp
    have hlt:d.length < k.list.es.length:=by rw [hes];simp
    have e1:decide ((d.length:Int) < (k.list.es.length:Int))=true:=by simp;omega
    have e2:((d.length:Int) < (k.list.es.length:Int))=True:=eq_true (by omega)
    have v1':(0≤q.value)=True:=eq_true (by omega)
    have v2':(q.value < (k.values.es.length:Int))=True:=eq_true v2
    obtain ⟨p1,p2,_,_⟩:=hq q (by rw [hes];simp)
    have a3:=h30 q p1 p2 (hq2 q (by rw [hes];simp))
    rw [Kernel.avc] at a3
    have hrd:=kernelOK_reads (ok.ker d q r hes)
    have hrlen:(readsK q).length≤big:=by
     have z1:=hq2 q (by rw [hes];simp)
     have z2:=readsV_len q.body
     have z3:=readsV_len q.index
     simp only [readsK,List.length_append]
     split<;>simp<;>omega
    have hrun:=spRun_snoc d (spInit k.values.es.length ins) 0 q
    rw [Nat.zero_add] at hrun
    rw [hrun]
    have hln:(spRun (spInit k.values.es.length ins) 0 d).length=k.values.es.length:=by rw [spRun_len,spInit_len hinV]
    generalize spRun (spInit k.values.es.length ins) 0 d=sp at g9 hln ⊢
    have hvl:q.value.toNat < sp.length:=by omega
    have hvl2:q.value.toNat < (setFrom sp q.value d.length).length:=by rw [setFrom_len];exact hvl
    have hst:spStep sp d.length q=spReads (setTo (if decide (fromOf sp q.value = -2) then setFrom sp q.value d.length else sp) q.value d.length) d.length (readsK q):=rfl
    rw [hst]
    clear hst hrun h30 hq hq2
    simp only [cf9L2,cf9E2,e1,e2,g9,hget,v1',v2',ld_from sp q.value hvl,go_sem,seval]
    cases hfr:decide (fromOf sp q.value = -2)
    case true=>
     simp only [g9,v1',v2',le_from sp _ hvl,st_from sp _ _ hvl,le_to _ _ hvl2,st_to _ _ _ hvl2,go_sem,seval]
     refine XO_sl a3 (by simp only [go_sem,seval]) ?_
     intro nl3 cl3 _
     simp only [go_sem,seval]
     refine XX_list (readsK q) (fun d2 r2 env hp=>env=cf9E1 (.pt 1 0 0) (.rf 9 E 0 k.values.es.length k.values.es.length) (.int .i64 d.length) (.sl k.list.nl (k.list.es.map Kernel.av) k.list.cl) (.int .i64 k.list.es.length) (.int .i64 d.length) (.sl nl3 ((readsK q).map intA) cl3) (.int .i64 (readsK q).length) (.int .i64 d2.length) ∧
      hp.get 1=some (0,.blk k.cells 6 true true false)∧hp.get 9=some (E,.blk (spCells (spReads (setTo (setFrom sp q.value d.length) q.value d.length) d.length d2)) 2 true false false)) ?_ ?_ ?_
     ·refine ⟨rfl,?_,?_⟩
      ·simp only [go_sem,seval]
       exact g1
      ·simp only [go_sem,seval]
       rfl
     ·clear g9 g1 hp
      rintro env hp ⟨rfl,g1,g9⟩
      simp only [cf9L1,cf9E1,wr_mid hlb,go_sem,seval]
      first | exact ⟨rfl,g1,g9⟩
     ·clear g9 g1 hp
      rintro d2 v r2 env hp hes2 ⟨rfl,g1,g9⟩
      obtain ⟨w1,w2,_⟩:=hrd v (by rw [hes2];simp)
      have hget2:(readsK q)[d2.length]?=some v:=by rw [hes2];simp
      have hlt2:d2.length < (readsK q).length:=by rw [hes2];simp
      have f1:decide ((d2.length:Int) < ((readsK q).length:Int))=true:=by simp;omega
      have f2:((d2.length:Int) < ((readsK q).length:Int))=True:=eq_true (by omega)
      have w1':(0≤v)=True:=eq_true w1
      have w2':(v < (k.values.es.length:Int))=True:=eq_true w2
      have hvl3:v.toNat < (spReads (setTo (setFrom sp q.value d.length) q.value d.length) d.length d2).length:=by rw [spReads_len,setTo_len];rw [setFrom_len];omega
      have hrb2:(d2++v :: r2).length≤big:=by rw [← hes2];exact hrlen
      simp only [cf9L1,cf9E1,f1,f2,g9,hget2,w1',w2',le_to _ v hvl3,st_to _ v _ hvl3,wr_mid hrb2,go_sem,seval]
      rw [spReads_snoc]
      first | exact ⟨rfl,g1,rfl⟩ | exact g1
    case false=>
     simp only [g9,v1',v2',le_to _ _ hvl,st_to _ _ _ hvl,go_sem,seval]
     refine XO_sl a3 (by simp only [go_sem,seval]) ?_
     intro nl3 cl3 _
     simp only [go_sem,seval]
     refine XX_list (readsK q) (fun d2 r2 env hp=>env=cf9E1 (.pt 1 0 0) (.rf 9 E 0 k.values.es.length k.values.es.length) (.int .i64 d.length) (.sl k.list.nl (k.list.es.map Kernel.av) k.list.cl) (.int .i64 k.list.es.length) (.int .i64 d.length) (.sl nl3 ((readsK q).map intA) cl3) (.int .i64 (readsK q).length) (.int .i64 d2.length) ∧
      hp.get 1=some (0,.blk k.cells 6 true true false)∧hp.get 9=some (E,.blk (spCells (spReads (setTo sp q.value d.length) d.length d2)) 2 true false false)) ?_ ?_ ?_
     ·refine ⟨rfl,?_,?_⟩
      ·simp only [go_sem,seval]
       exact g1
      ·simp only [go_sem,seval]
       rfl
     ·clear g9 g1 hp
      rintro env hp ⟨rfl,g1,g9⟩
      simp only [cf9L1,cf9E1,wr_mid hlb,go_sem,seval]
      first | exact ⟨rfl,g1,g9⟩
     ·clear g9 g1 hp
      rintro d2 v r2 env hp hes2 ⟨rfl,g1,g9⟩
      obtain ⟨w1,w2,_⟩:=hrd v (by rw [hes2];simp)
      have hget2:(readsK q)[d2.length]?=some v:=by rw [hes2];simp
      have hlt2:d2.length < (readsK q).length:=by rw [hes2];simp
      have f1:decide ((d2.length:Int) < ((readsK q).length:Int))=true:=by simp;omega
      have f2:((d2.length:Int) < ((readsK q).length:Int))=True:=eq_true (by omega)
      have w1':(0≤v)=True:=eq_true w1
      have w2':(v < (k.values.es.length:Int))=True:=eq_true w2
      have hvl3:v.toNat < (spReads (setTo sp q.value d.length) d.length d2).length:=by rw [spReads_len,setTo_len];omega
      have hrb2:(d2++v :: r2).length≤big:=by rw [← hes2];exact hrlen
      simp only [cf9L1,cf9E1,f1,f2,g9,hget2,w1',w2',le_to _ v hvl3,st_to _ v _ hvl3,wr_mid hrb2,go_sem,seval]
      rw [spReads_snoc]
      first | exact ⟨rfl,g1,rfl⟩ | exact g1
  ·rintro d x r env hp hes ⟨rfl,g1,g9⟩
   obtain ⟨hx,hlt⟩:=range_mid hes
   have hb2:(d++x :: r).length≤big:=by rw [← hes];simp;omega
   have hlen:(spInit k.values.es.length d.length).length=k.values.es.length:=spInit_len (by omega)
   have e1:decide ((d.length:Int) < k.inputs)=true:=by simp;omega
   have e2:((d.length:Int) < (k.values.es.length:Int))=True:=eq_true (by omega)
   have e3:(0+d.length*2+2≤(spCells (spInit k.values.es.length d.length)).length)=True:=eq_true (by rw [spCells_len,hlen];omega)
   have e4:=set_at2 (l:=spCells (spInit k.values.es.length d.length)) (n:=d.length) (.int .i64 (-1)) (.int .i64 (-1)) (by rw [spCells_len,hlen];omega)
   rw [spCells_set,spInit_set (by omega)] at e4
   simp only [cf9L0,cf9E0,e1,e2,g9,e3,e4,wr_mid hb2,go_sem,seval]
   rw [List.length_append]
   exact ⟨rfl,g1,rfl⟩
 ·rw [hc]
  simp only [go_sem,seval]
  rw [spansR,hc]
  rfl
end
end Go.Tev
end
section
namespace Go.Tev
theorem spansK_len {k:Kernels} (h:k.inputs.toNat≤k.values.es.length):(spansK k).length=k.values.es.length:=by
 simp only [spansK]
 rw [show spRes=fun sp n l=>spReads sp n l from rfl]
 rw [spReads_len,spRun_len,spInit_len h]
section
variable {pg:Pg}
end
end Go.Tev
end
section
namespace Go.Tev
theorem setTo_get (sp:List Sp) (v x:Int) (n:Nat):(setTo sp v x)[n]?=(sp[n]?).map (fun s=>if v.toNat=n then (s.1,x) else s):=by
 simp only [setTo,List.getElem?_modify]
 split<;>simp [*]
theorem setFrom_get (sp:List Sp) (v x:Int) (n:Nat):(setFrom sp v x)[n]?=(sp[n]?).map (fun s=>if v.toNat=n then (x,s.2) else s):=by
 simp only [setFrom,List.getElem?_modify]
 split<;>simp [*]
theorem spReads_get (i:Nat):∀ (l:List Int) (sp:List Sp) (n:Nat),(spReads sp i l)[n]?=(sp[n]?).map (fun s=>if n∈l.map Int.toNat then (s.1,(i:Int)) else s)
 | [],sp,n=>by simp [spReads]
 | v :: r,sp,n=>by
  have h:=spReads_get i r (setTo sp v i) n
  simp only [spReads,List.foldl_cons] at h ⊢
  rw [h,setTo_get,Option.map_map]
  congr 1
  funext s
  simp only [Function.comp,List.map_cons,List.mem_cons]
  by_cases h1:v.toNat=n
  ·subst h1;simp
  ·have h2:¬ n=v.toNat:=fun h=>h1 h.symm
   simp [h1,h2]
def uses (q:Kernel) (n:Nat):Prop:=n=q.value.toNat∨n∈(readsK q).map Int.toNat
theorem spStep_get (sp:List Sp) (i:Nat) (q:Kernel) (n:Nat) (s:Sp) (h:sp[n]?=some s) :
  ∃ s',(spStep sp i q)[n]?=some s'∧(s'.1=if n=q.value.toNat∧s.1 = -2 then (i:Int) else s.1)∧(uses q n→s'.2=i)∧(¬ uses q n→s'.2=s.2):=by
 have hf:fromOf sp q.value = -2∧n=q.value.toNat→s.1 = -2:=by
  rintro ⟨h1,rfl⟩
  simpa [fromOf,h] using h1
 have hf2:n=q.value.toNat→s.1 = -2→fromOf sp q.value = -2:=by
  rintro rfl h1
  simpa [fromOf,h] using h1
 simp only [spStep,spReads_get,setTo_get]
 by_cases hv:n=q.value.toNat
 ·have hv':q.value.toNat=n:=hv.symm
  by_cases h1:s.1 = -2
  ·have h2:=hf2 hv h1
   simp only [h2,decide_true,if_true,setFrom_get,h,Option.map_some,hv']
   refine ⟨_,rfl,?_,?_,?_⟩
   ·split<;>simp [h1,hv]
   ·intro _;split<;>rfl
   ·intro hn;exact absurd (.inl hv) hn
  ·have h2:¬ fromOf sp q.value = -2:=fun h=>h1 (hf ⟨h,hv⟩)
   simp only [h2,decide_false,Bool.false_eq_true,if_false,h,Option.map_some,hv',if_true]
   refine ⟨_,rfl,?_,?_,?_⟩
   ·split<;>simp [h1]
   ·intro _;split<;>rfl
   ·intro hn;exact absurd (.inl hv) hn
 ·have hv':¬ q.value.toNat=n:=fun h=>hv h.symm
  have e:(if decide (fromOf sp q.value = -2)=true then setFrom sp q.value i else sp)[n]?=some s:=by
   split
   ·rw [setFrom_get,h,Option.map_some,if_neg hv']
   ·exact h
  simp only [e,Option.map_some,hv',if_false]
  refine ⟨_,rfl,?_,?_,?_⟩
  ·split<;>simp [hv]
  ·rintro (hu | hu)
   ·exact absurd hu hv
   ·rw [if_pos hu]
  ·intro hn
   rw [if_neg (fun h=>hn (.inr h))]
theorem spInit_get (V i n:Nat) (s:Sp) (h:(spInit V i)[n]?=some s):(n < i∧s=(-1,-1))∨(i≤n∧s=(-2,-2)):=by
 simp only [spInit] at h
 rcases Nat.lt_or_ge n i with h1 | h1
 ·rw [List.getElem?_append_left (by simpa using h1),List.getElem?_replicate,if_pos h1] at h
  exact .inl ⟨h1,by cases h;rfl⟩
 ·rw [List.getElem?_append_right (by simpa using h1),List.getElem?_replicate] at h
  split at h
  ·exact .inr ⟨h1,by cases h;rfl⟩
  ·cases h
theorem FuseOK.inp {k:Kernels} (ok:FuseOK k):0≤k.inputs∧k.inputs≤k.values.es.length:=by
 have h:=ok.out
 simp only [outsideOK,Bool.and_eq_true,decide_eq_true_eq] at h
 omega
theorem spansK_get {k:Kernels} (n:Nat):(spansK k)[n]?=((spRun (spInit k.values.es.length k.inputs.toNat) 0 k.list.es)[n]?).map (fun s=>if n∈k.results.es.map Int.toNat then (s.1,(k.list.es.length:Int)) else s):=by
 rw [spansK,show spRes=fun sp n l=>spReads sp n l from rfl]
 exact spReads_get _ _ _ _
end Go.Tev
end
