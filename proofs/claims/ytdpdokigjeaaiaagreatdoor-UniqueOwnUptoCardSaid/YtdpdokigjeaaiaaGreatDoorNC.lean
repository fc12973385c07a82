import Derived.Test.YtdpdokigjeaaiaaGreatDoorNB
import Derived.ChangeArms
set_option linter.all false
section
namespace Go.Tev
def spansR (k:Kernels) (r:AV):Prop:=
 if (fuseV k).2=0 then r = .tup [.sl false ((spansK k).map spAV) false,.int .i64 0] else r = .tup [.sl true [] true,.int .i64 22]
theorem set_at2 {l:List AV} {n:Nat} (x y:AV) (h:n*2+1 < l.length):List.take (0+n*2) l++[x,y]++List.drop (0+n*2+2) l=(l.set (n*2) x).set (n*2+1) y:=by
 obtain ⟨a,u,v,m,rfl,ha⟩:∃ a u v m,l=a++u :: v :: m∧a.length=n*2:=by
  refine ⟨l.take (n*2),l[n*2],l[n*2+1],l.drop (n*2+1+1),?_,by simp;omega⟩
  rw [← List.drop_eq_getElem_cons h,← List.drop_eq_getElem_cons (by omega),List.take_append_drop]
 rw [Nat.zero_add,← ha]
 simp [List.set_append]
theorem set_at1 {l:List AV} {n:Nat} (x:AV) (h:n < l.length):List.take n l++[x]++List.drop (n+1) l=l.set n x:=by
 rw [List.set_eq_take_append_cons_drop,if_pos h]
 simp
theorem st_to (sp:List Sp) (v x:Int) (h:v.toNat < sp.length):List.take (0+v.toNat*2+1) (spCells sp)++[.int .i64 x]++List.drop (0+v.toNat*2+1+1) (spCells sp)=spCells (setTo sp v x):=by
 rw [Nat.zero_add,set_at1 _ (by rw [spCells_len];omega),spCells_snd]
 rfl
theorem st_from (sp:List Sp) (v x:Int) (h:v.toNat < sp.length):List.take (0+v.toNat*2+0) (spCells sp)++[.int .i64 x]++List.drop (0+v.toNat*2+0+1) (spCells sp)=spCells (setFrom sp v x):=by
 rw [Nat.zero_add,Nat.add_zero,set_at1 _ (by rw [spCells_len];omega),spCells_fst]
 rfl
theorem le_to (sp:List Sp) (v:Int) (h:v.toNat < sp.length):(0+v.toNat*2+1+1≤(spCells sp).length)=True:=eq_true (by rw [spCells_len];omega)
theorem le_from (sp:List Sp) (v:Int) (h:v.toNat < sp.length):(0+v.toNat*2+0+1≤(spCells sp).length)=True:=eq_true (by rw [spCells_len];omega)
theorem ld_from (sp:List Sp) (v:Int) (h:v.toNat < sp.length):(spCells sp)[0+v.toNat*2+0]?=some (.int .i64 (fromOf sp v)):=by
 obtain ⟨s,hs⟩:∃ s,sp[v.toNat]?=some s:=⟨_,List.getElem?_eq_getElem h⟩
 rw [Nat.zero_add,Nat.add_zero,(spCells_0 sp _ s hs).1]
 simp [fromOf,hs]
section
variable {pg:Pg}
theorem c9 (hf:pg.fs 9=some cf9) (h28:∀ k:Kernels,(k.vars.nl=true→k.vars.es=[])→(∀ q∈k.list.es,q.body.ok∧q.index.ok∧k.vars.es.length+9+q.body.sz≤big∧k.vars.es.length+9+q.index.sz≤big) →
   Ret pg 28 [k.av] (.tup [.int .i64 (fuseV k).1,.int .i64 (fuseV k).2]))
  (h29:∀ (nl cl:Bool) (a b:Int) (n:Nat),n≤big→RetP pg 29 [.sl nl [.agg [.int .i64 a,.int .i64 b]] cl,.int .i64 n] (IsSl 2 true (List.replicate n (.agg [.int .i64 a,.int .i64 b]))))
  (h30:∀ q:Kernel,q.body.ok→q.index.ok→q.body.sz+q.index.sz+1≤big→RetP pg 30 [q.av] (IsSl 1 false ((readsK q).map intA)))
  (k:Kernels) (hnl:k.vars.nl=true→k.vars.es=[]) (hq:∀ q∈k.list.es,q.body.ok∧q.index.ok∧k.vars.es.length+9+q.body.sz≤big∧k.vars.es.length+9+q.index.sz≤big) (hq2:∀ q∈k.list.es,q.body.sz+q.index.sz+1≤big) :
  RetP pg 9 [k.av] (spansR k):=by
 have a1:=h28 k hnl hq
 have hVb:=k.values.ok
 have a2:=h29 false true (-2) (-2) k.values.es.length hVb
 clear h28 h29
 refine RetP.ofX hf ?_
 unfold cf9
 simp only [Kernels.av,Kernels.cells,go_sem,seval]
 refine XO_tree a1 (by simp only [Kernels.av,Kernels.cells,go_sem,seval]) rfl ?_
 rcases fuse_code (k:=k) with hc | hc
 ·have ok:=fuseOK_of hc
  have hso:=ok.out
  simp only [outsideOK,Bool.and_eq_true,decide_eq_true_eq] at hso
  obtain ⟨_,⟨⟨⟨⟨⟨⟨_,_⟩,hi0⟩,_⟩,hiV⟩,_⟩,_⟩,_⟩:=hso
  have hV:0 < k.values.es.length:=by
   obtain ⟨v,hv⟩:=List.exists_mem_of_length_pos ok.one
   have:=ok.res v hv
   omega
  have hsp0:List.replicate k.values.es.length (AV.agg [.int .i64 (-2),.int .i64 (-2)])=(spInit k.values.es.length 0).map spAV:=by simp [spInit,spAV]
  have hl0:(spInit k.values.es.length 0).length=k.values.es.length:=spInit_len (Nat.zero_le _)
  rw [hsp0] at a2
  rw [hc]
  simp only [go_sem,seval]
  refine XO_slO' a2 (by simp only [go_sem,seval]) (spAV_el _) (fun he=>?_) (fun cs hcs _=>?_)
  ·have:=congrArg List.length he
   rw [List.length_map,hl0,List.length_nil] at this
   omega
  rw [spCells_un] at hcs
  cases hcs
  rw [List.length_map,hl0]
  generalize hE:Hp.next _ (0+9)=E
  clear hE a1 a2
  obtain ⟨ins,hins⟩:∃ n:Nat,k.inputs=n:=⟨k.inputs.toNat,by omega⟩
  have hinV:ins≤k.values.es.length:=by omega
  have hins':k.inputs.toNat=ins:=by omega
  simp only [go_sem,seval]
  refine XX_list (List.range ins) (fun d r env hp=>env=cf9E0 (.pt 1 0 0) (.rf 9 E 0 k.values.es.length k.values.es.length) (.int .i64 k.inputs) (.int .i64 d.length) ∧
   hp.get 1=some (0,.blk k.cells 6 true true false)∧hp.get 9=some (E,.blk (spCells (spInit k.values.es.length d.length)) 2 true false false)) ?_ ?_ ?_
  ·refine ⟨rfl,?_,?_⟩
   ·simp only [go_sem,seval]
    rfl
   ·simp only [go_sem,seval]
  ·rintro env hp ⟨rfl,g1,g9⟩
   have hr:(List.range ins).length=ins:=List.length_range
   rw [hr] at g9 ⊢
   have e1:decide ((ins:Int) < k.inputs)=false:=by simp;omega
   have g1':=g1
   simp only [Kernels.cells,Sl.av] at g1
   simp only [cf9L0,cf9E0,e1,g1,go_sem,seval]
   refine XX_list k.list.es (fun d r env hp=>env=cf9E2 (.pt 1 0 0) (.rf 9 E 0 k.values.es.length k.values.es.length) (.sl k.list.nl (k.list.es.map Kernel.av) k.list.cl) (.int .i64 k.list.es.length) (.int .i64 d.length) ∧
    hp.get 1=some (0,.blk k.cells 6 true true false)∧hp.get 9=some (E,.blk (spCells (spRun (spInit k.values.es.length ins) 0 d)) 2 true false false)) ?_ ?_ ?_
   ·exact ⟨rfl,g1',g9⟩
   ·clear g9 g1 g1' hp
    rintro env hp ⟨rfl,g1,g9⟩
    have g1':=g1
    simp only [Kernels.cells,Sl.av] at g1
    simp only [cf9L2,cf9E2,g1,go_sem,seval]
    refine XX_list k.results.es (fun d r env hp=>env=cf9E3 (.pt 1 0 0) (.rf 9 E 0 k.values.es.length k.values.es.length) (.sl k.results.nl (k.results.es.map intA) k.results.cl) (.int .i64 k.results.es.length) (.int .i64 d.length) ∧
     hp.get 1=some (0,.blk k.cells 6 true true false)∧hp.get 9=some (E,.blk (spCells (spRes (spRun (spInit k.values.es.length ins) 0 k.list.es) k.list.es.length d)) 2 true false false)) ?_ ?_ ?_
    ·exact ⟨rfl,g1',g9⟩
    ·clear g9 g1 g1' hp
     rintro env hp ⟨rfl,g1,g9⟩
     have hlen:(spansK k).length=k.values.es.length:=by
      simp only [spansK]
      rw [show spRes=fun sp n l=>spReads sp n l from rfl]
      rw [spReads_len,spRun_len,hins',spInit_len hinV]
     have hspk:spRes (spRun (spInit k.values.es.length ins) 0 k.list.es) k.list.es.length k.results.es=spansK k:=by rw [spansK,hins']
     rw [hspk] at g9
     have hsn:=snap_sp g9 61
     rw [hlen] at hsn
     simp only [cf9L3,cf9E3,go_sem,seval]
     simp only [Tev.conv,depth,snapX,mapS_nil,mapS_cons,↓hsn,go_sem]
     rw [spansR,if_pos hc]
    ·clear g9 g1 g1' hp
     rintro d v r env hp hes ⟨rfl,g1,g9⟩
     obtain ⟨v1,v2,_⟩:=ok.res v (by rw [hes];simp)
     have hrb:=k.results.ok
     rw [hes] at hrb
     have hget:k.results.es[d.length]?=some v:=by rw [hes];simp
     have hlt:d.length < k.results.es.length:=by rw [hes];simp
     have e1:decide ((d.length:Int) < (k.results.es.length:Int))=true:=by simp;omega
     have e2:((d.length:Int) < (k.results.es.length:Int))=True:=eq_true (by omega)
     have v1':(0≤v)=True:=eq_true v1
     have v2':(v < (k.values.es.length:Int))=True:=eq_true v2
     have g1':=g1
     simp only [Kernels.cells,Sl.av] at g1
     have hln:(spRes (spRun (spInit k.values.es.length ins) 0 k.list.es) k.list.es.length d).length=k.values.es.length:=by
      rw [show spRes=fun sp n l=>spReads sp n l from rfl]
      rw [spReads_len,spRun_len,spInit_len hinV]
     have hvl:v.toNat < (spRes (spRun (spInit k.values.es.length ins) 0 k.list.es) k.list.es.length d).length:=by rw [hln];omega
     have hsno:setTo (spRes (spRun (spInit k.values.es.length ins) 0 k.list.es) k.list.es.length d) v k.list.es.length=spRes (spRun (spInit k.values.es.length ins) 0 k.list.es) k.list.es.length (d++[v]):=by simp [spRes]
     simp only [cf9L3,cf9E3,e1,e2,g1,g9,hget,v1',v2',le_to _ v hvl,st_to _ v _ hvl,wr_mid hrb,hsno,go_sem,seval]
     exact ⟨rfl,rfl⟩
   ·clear g9 g1 g1' hp
    rintro d q r env hp hes ⟨rfl,g1,g9⟩
    obtain ⟨v0,v2,_⟩:=kernelOK_in (ok.ker d q r hes)
    have hlb:=k.list.ok
    rw [hes] at hlb
    have hget:k.list.es[d.length]?=some q:=by rw [hes];simp
    have hlt:d.length < k.list.es.length:=by rw [hes];simp
    have e1:decide ((d.length:Int) < (k.list.es.length:Int))=true:=by simp;omega
    have e2:((d.length:Int) < (k.list.es.length:Int))=True:=eq_true (by omega)
    have v1':(0≤q.value)=True:=eq_true (by omega)
    have v2':(q.value < (k.values.es.length:Int))=True:=eq_true v2
    obtain ⟨p1,p2,_,_⟩:=hq q (by rw [hes];simp)
    have a3:=h30 q p1 p2 (hq2 q (by rw [hes];simp))
    rw [Kernel.avc] at a3
    have hrd:=kernelOK_reads (ok.ker d q r hes)
    have hrlen:(readsK q).length≤big:=by
     have z1:=hq2 q (by rw [hes];simp)
     have z2:=readsV_len q.body
     have z3:=readsV_len q.index
     simp only [readsK,List.length_append]
     split<;>simp<;>omega
    have hrun:=spRun_snoc d (spInit k.values.es.length ins) 0 q
    rw [Nat.zero_add] at hrun
    rw [hrun]
    have hln:(spRun (spInit k.values.es.length ins) 0 d).length=k.values.es.length:=by rw [spRun_len,spInit_len hinV]
    generalize spRun (spInit k.values.es.length ins) 0 d=sp at g9 hln ⊢
    have hvl:q.value.toNat < sp.length:=by omega
    have hvl2:q.value.toNat < (setFrom sp q.value d.length).length:=by rw [setFrom_len];exact hvl
    have hst:spStep sp d.length q=spReads (setTo (if decide (fromOf sp q.value = -2) then setFrom sp q.value d.length else sp) q.value d.length) d.length (readsK q):=rfl
    rw [hst]
    clear hst hrun h30 hq hq2
    simp only [cf9L2,cf9E2,e1,e2,g9,hget,v1',v2',ld_from sp q.value hvl,go_sem,seval]
    cases hfr:decide (fromOf sp q.value = -2)
    case true=>
     simp only [g9,v1',v2',le_from sp _ hvl,st_from sp _ _ hvl,le_to _ _ hvl2,st_to _ _ _ hvl2,go_sem,seval]
     refine XO_sl a3 (by simp only [go_sem,seval]) ?_
     intro nl3 cl3 _
     simp only [go_sem,seval]
     refine XX_list (readsK q) (fun d2 r2 env hp=>env=cf9E1 (.pt 1 0 0) (.rf 9 E 0 k.values.es.length k.values.es.length) (.int .i64 d.length) (.sl k.list.nl (k.list.es.map Kernel.av) k.list.cl) (.int .i64 k.list.es.length) (.int .i64 d.length) (.sl nl3 ((readsK q).map intA) cl3) (.int .i64 (readsK q).length) (.int .i64 d2.length) ∧
      hp.get 1=some (0,.blk k.cells 6 true true false)∧hp.get 9=some (E,.blk (spCells (spReads (setTo (setFrom sp q.value d.length) q.value d.length) d.length d2)) 2 true false false)) ?_ ?_ ?_
     ·refine ⟨rfl,?_,?_⟩
      ·simp only [go_sem,seval]
       exact g1
      ·simp only [go_sem,seval]
       rfl
     ·clear g9 g1 hp
      rintro env hp ⟨rfl,g1,g9⟩
      simp only [cf9L1,cf9E1,wr_mid hlb,go_sem,seval]
      first | exact ⟨rfl,g1,g9⟩
     ·clear g9 g1 hp
      rintro d2 v r2 env hp hes2 ⟨rfl,g1,g9⟩
      obtain ⟨w1,w2,_⟩:=hrd v (by rw [hes2];simp)
      have hget2:(readsK q)[d2.length]?=some v:=by rw [hes2];simp
      have hlt2:d2.length < (readsK q).length:=by rw [hes2];simp
      have f1:decide ((d2.length:Int) < ((readsK q).length:Int))=true:=by simp;omega
      have f2:((d2.length:Int) < ((readsK q).length:Int))=True:=eq_true (by omega)
      have w1':(0≤v)=True:=eq_true w1
      have w2':(v < (k.values.es.length:Int))=True:=eq_true w2
      have hvl3:v.toNat < (spReads (setTo (setFrom sp q.value d.length) q.value d.length) d.length d2).length:=by rw [spReads_len,setTo_len];rw [setFrom_len];omega
      have hrb2:(d2++v :: r2).length≤big:=by rw [← hes2];exact hrlen
      simp only [cf9L1,cf9E1,f1,f2,g9,hget2,w1',w2',le_to _ v hvl3,st_to _ v _ hvl3,wr_mid hrb2,go_sem,seval]
      rw [spReads_snoc]
      first | exact ⟨rfl,g1,rfl⟩ | exact g1
    case false=>
     simp only [g9,v1',v2',le_to _ _ hvl,st_to _ _ _ hvl,go_sem,seval]
     refine XO_sl a3 (by simp only [go_sem,seval]) ?_
     intro nl3 cl3 _
     simp only [go_sem,seval]
     refine XX_list (readsK q) (fun d2 r2 env hp=>env=cf9E1 (.pt 1 0 0) (.rf 9 E 0 k.values.es.length k.values.es.length) (.int .i64 d.length) (.sl k.list.nl (k.list.es.map Kernel.av) k.list.cl) (.int .i64 k.list.es.length) (.int .i64 d.length) (.sl nl3 ((readsK q).map intA) cl3) (.int .i64 (readsK q).length) (.int .i64 d2.length) ∧
      hp.get 1=some (0,.blk k.cells 6 true true false)∧hp.get 9=some (E,.blk (spCells (spReads (setTo sp q.value d.length) d.length d2)) 2 true false false)) ?_ ?_ ?_
     ·refine ⟨rfl,?_,?_⟩
      ·simp only [go_sem,seval]
       exact g1
      ·simp only [go_sem,seval]
       rfl
     ·clear g9 g1 hp
      rintro env hp ⟨rfl,g1,g9⟩
      simp only [cf9L1,cf9E1,wr_mid hlb,go_sem,seval]
      first | exact ⟨rfl,g1,g9⟩
     ·clear g9 g1 hp
      rintro d2 v r2 env hp hes2 ⟨rfl,g1,g9⟩
      obtain ⟨w1,w2,_⟩:=hrd v (by rw [hes2];simp)
      have hget2:(readsK q)[d2.length]?=some v:=by rw [hes2];simp
      have hlt2:d2.length < (readsK q).length:=by rw [hes2];simp
      have f1:decide ((d2.length:Int) < ((readsK q).length:Int))=true:=by simp;omega
      have f2:((d2.length:Int) < ((readsK q).length:Int))=True:=eq_true (by omega)
      have w1':(0≤v)=True:=eq_true w1
      have w2':(v < (k.values.es.length:Int))=True:=eq_true w2
      have hvl3:v.toNat < (spReads (setTo sp q.value d.length) d.length d2).length:=by rw [spReads_len,setTo_len];omega
      have hrb2:(d2++v :: r2).length≤big:=by rw [← hes2];exact hrlen
      simp only [cf9L1,cf9E1,f1,f2,g9,hget2,w1',w2',le_to _ v hvl3,st_to _ v _ hvl3,wr_mid hrb2,go_sem,seval]
      rw [spReads_snoc]
      first | exact ⟨rfl,g1,rfl⟩ | exact g1
  ·rintro d x r env hp hes ⟨rfl,g1,g9⟩
   obtain ⟨hx,hlt⟩:=range_mid hes
   have hb2:(d++x :: r).length≤big:=by rw [← hes];simp;omega
   have hlen:(spInit k.values.es.length d.length).length=k.values.es.length:=spInit_len (by omega)
   have e1:decide ((d.length:Int) < k.inputs)=true:=by simp;omega
   have e2:((d.length:Int) < (k.values.es.length:Int))=True:=eq_true (by omega)
   have e3:(0+d.length*2+2≤(spCells (spInit k.values.es.length d.length)).length)=True:=eq_true (by rw [spCells_len,hlen];omega)
   have e4:=set_at2 (l:=spCells (spInit k.values.es.length d.length)) (n:=d.length) (.int .i64 (-1)) (.int .i64 (-1)) (by rw [spCells_len,hlen];omega)
   rw [spCells_set,spInit_set (by omega)] at e4
   simp only [cf9L0,cf9E0,e1,e2,g9,e3,e4,wr_mid hb2,go_sem,seval]
   rw [List.length_append]
   exact ⟨rfl,g1,rfl⟩
 ·rw [hc]
  simp only [go_sem,seval]
  rw [spansR,hc]
  rfl
end
end Go.Tev
end
section
namespace Go.Tev
section
variable {pg:Pg}
end
end Go.Tev
end
section
namespace Go.Tev
section
variable {pg:Pg}
end
end Go.Tev
end
section
namespace Go.Tev
section
variable {pg:Pg}
end
end Go.Tev
end
section
namespace Go.Tev
section
variable {pg:Pg}
end
end Go.Tev
end
section
namespace Go.Tev
section
variable {pg:Pg}
end
end Go.Tev
end
section
namespace Go.Tev
structure Bulk {H:Type} (b:DataW H→Nat) (bs:List (DataW H)→Nat):Prop where
 nil:bs []=0
 cons:∀ x r,bs (x :: r)=b x+bs r
 sl:∀ e s,b (.slice e s)=bs e+bs s+1
 agg:∀ p,b (.agg p)=bs p+1
 str:∀ s,b (.lit (.string s))=s.length+1
 one:∀ d,1≤b d
theorem Bulk.sum {H:Type} {b:DataW H→Nat} {bs:List (DataW H)→Nat} (B:Bulk b bs):∀ l,bs l=(l.map b).sum
 | []=>by simp [B.nil]
 | x :: r=>by rw [B.cons,B.sum r];simp
theorem le_sum {l:List Nat}:∀ {i:Nat} {m:Nat},l[i]?=some m→m≤l.sum:=by
 induction l with
 | nil=>intro i m h;simp at h
 | cons x r ih=>
  intro i m h
  cases i with
  | zero=>simp at h;subst h;simp
  | succ i=>have:=ih (by simpa using h);simp;omega
theorem length_le_sum:∀ {l:List Nat},(∀ m∈l,1≤m)→l.length≤l.sum
 | [],_=>by simp
 | x :: r,h=>by
  have h1:=h x (by simp)
  have h2:=length_le_sum (l:=r) (fun m hm=>h m (List.mem_cons_of_mem _ hm))
  simp;omega
theorem exists_list {α : Type} {Pr:Nat → α → Prop}:∀ n,(∀ i,i < n→∃ x,Pr i x)→∃ l:List α,l.length=n∧∀ i x,l[i]?=some x→Pr i x
 | 0,_=>⟨[],rfl,fun i x h=>by simp at h⟩
 | n+1,h=>by
  obtain ⟨l,h1,h2⟩:=exists_list n (fun i hi=>h i (by omega))
  obtain ⟨x,hx⟩:=h n (by omega)
  refine ⟨l++[x],by simp [h1],fun i y hy=>?_⟩
  by_cases hi:i < l.length
  ·rw [List.getElem?_append_left hi] at hy;exact h2 i y hy
  ·rw [List.getElem?_append_right (by omega)] at hy
   have:i - l.length=0:=by
    rcases Nat.eq_zero_or_pos (i - l.length) with q | q
    ·exact q
    ·rw [List.getElem?_eq_none (by simp;omega)] at hy;cases hy
   rw [this] at hy
   simp at hy
   subst hy
   have:i=n:=by omega
   subst this
   exact hx
theorem All2.app {α β : Type} {R : α → β → Prop} {a b:List α} {c d:List β} (h1:All2 R a c) (h2:All2 R b d):All2 R (a++b) (c++d):=by
 induction h1 with
 | nil=>exact h2
 | cons h _ ih=>exact .cons h ih
theorem All2.mk_get {α β : Type} {R : α → β → Prop}:∀ {l:List α} {m:List β},l.length=m.length→(∀ (i:Nat) (x : α) (y : β),l[i]?=some x→m[i]?=some y→R x y)→All2 R l m
 | [],[],_,_ => .nil
 | x :: r,y :: s,hl,h => .cons (h 0 x y rfl rfl) (All2.mk_get (by simpa using hl) (fun i a b ha hb=>h (i+1) a b (by simpa using ha) (by simpa using hb)))
 | [],_ :: _,hl,_=>by simp at hl
 | _ :: _,[],hl,_=>by simp at hl
theorem All2.piece {α β : Type} {R : α → β → Prop} {a b:List α} {cs:List β} {o n:Nat} (h1:All2 R a ((cs.drop o).take n)) (h2:All2 R b (cs.drop (o+n))):All2 R (a++b) (cs.drop o):=by
 have:=h1.app h2
 rwa [← List.drop_drop,List.take_append_drop] at this
theorem All2.done {α β : Type} {R : α → β → Prop} {cs:List β} {o:Nat} (h:cs.length=o):All2 R [] (cs.drop o):=by
 subst h;simp;exact .nil
section
variable {H:Type} {enc:TypeId × Value→H} {P:Program} {w:World} {num:Nat→Nat} {ρ : Rho} {b:DataW H→Nat} {bs:List (DataW H)→Nat}
def noF (_:Nat):Prop:=False
def Rd (enc:TypeId × Value→H) (P:Program) (w:World) (num:Nat→Nat) (ρ : Rho) (b:DataW H→Nat) (N:Nat) (t:TypeId) {α : Type} (cells : α → List AV) (good : α → Nat→Prop):Prop:=
 ∀ fuel,fuel≤N→∀ cs d ps,DataW.trod enc P w 0 (fun _=>true) true fuel t cs=some (d,ps)→b d≤1048576→∃ x : α,All2 (Rv num ρ w noF) (cells x) cs∧good x (b d)
theorem Rd.int {N:Nat} {t:TypeId} (ht:P.underlying t=some (.int .i64)):Rd enc P w num ρ b N t (fun n:Int=>[intA n]) (fun _ _=>True):=by
 intro fuel hN cs d ps h _
 obtain ⟨n,rfl,_,_⟩:=DataW.trod_int ht h
 exact ⟨n,.cons (.int _ _) .nil,trivial⟩
theorem Rd.bool {N:Nat} {t:TypeId} (ht:P.underlying t=some .bool):Rd enc P w num ρ b N t (fun n:Bool=>[.bool n]) (fun _ _=>True):=by
 intro fuel hN cs d ps h _
 obtain ⟨n,rfl,_⟩:=DataW.trod_bool ht h
 exact ⟨n,.cons (.bool _) .nil,trivial⟩
theorem Rd.str {N:Nat} (B:Bulk b bs) {t:TypeId} (ht:P.underlying t=some .string):Rd enc P w num ρ b N t (fun s:Str=>[Str.av s]) (fun _ _=>True):=by
 intro fuel hN cs d ps h hb
 obtain ⟨s,rfl,hx,_⟩:=DataW.trod_string ht h
 cases hx
 rw [B.str] at hb
 have hl:s.data.toList.length≤big:=by simp only [big];omega
 refine ⟨⟨s.data.toList,hl⟩,.cons ?_ .nil,trivial⟩
 exact Rv.str (num:=num) (ρ := ρ) (w:=w) (F:=noF) s.data.toList
theorem cells_at {a:Addr} {n:Nat} {cs:List Value} (h:w.cells? 0 a n=some cs):cs.length=n∧∀ j,j < n→w.cell? (a.add j)=cs[j]?:=by
 simp only [World.cells?,Nat.zero_le,if_true] at h
 have hl:∀ (l:List Nat) (r:List Value),(l.mapM fun i=>w.cell? (a.add i))=some r→r.length=l.length∧∀ (j k:Nat),l[j]?=some k→w.cell? (a.add k)=r[j]?:=by
  intro l
  induction l with
  | nil=>intro r hr;simp at hr;subst hr;exact ⟨rfl,fun j k hk=>by simp at hk⟩
  | cons x l ih=>
   intro r hr
   simp only [List.mapM_cons,Option.bind_eq_bind,Option.bind_eq_some_iff,Option.pure_def,Option.some.injEq] at hr
   obtain ⟨v,hv,r',hr',rfl⟩:=hr
   obtain ⟨i1,i2⟩:=ih r' hr'
   refine ⟨by simp [i1],?_⟩
   intro j k hk
   cases j with
   | zero=>simp at hk;subst hk;simpa using hv
   | succ j=>simpa using i2 j k (by simpa using hk)
 obtain ⟨h1,h2⟩:=hl _ _ h
 rw [List.length_range] at h1
 exact ⟨h1,fun j hj=>h2 j j (by rw [List.getElem?_range hj])⟩
theorem add_zero' (a:Addr):a.add 0=a:=by simp [Addr.add]
theorem add_none (b off n:Nat):(Addr.add ⟨b,off,none⟩ n)=⟨b,off+n,none⟩:=by
 unfold Addr.add;split
 ·rename_i h0;simp [h0]
 ·rfl
theorem Rd.slice {N:Nat} (B:Bulk b bs) {t e:TypeId} {sz:Nat} {α : Type} {cells : α → List AV} {good : α → Nat→Prop} (enc1 : α → AV) (ht:P.underlying t=some (.slice e)) (hce:P.cellsOf e=sz) (hsz:0 < sz)
  (hcells:∀ x,(enc1 x).cells=cells x) (hlen:∀ x,(cells x).length=sz) (he:Rd enc P w num ρ b N e cells good) :
  Rd enc P w num ρ b (N+1) t (fun s:Sl α => [s.av enc1]) (fun s n=>(s.nl=true→s.es=[])∧∃ ms:List Nat,All2 good s.es ms∧ms.sum+1≤n∧∀ m∈ms,1≤m):=by
 intro fuel hN cs d ps h hb
 rcases DataW.trod_slice ht h with ⟨rfl,hx⟩ | ⟨a,len,cap,elems,rest,n,hfn,rfl,hx,_,hlc,hcm,hel,hes,_,_⟩
 ·cases hx
  exact ⟨⟨true,[],false,by simp⟩,.cons (.nsl _) .nil,fun _=>rfl,[],.nil,by simpa using B.one _,by simp⟩
 ·cases hx
  rw [B.sl,B.sum,B.sum] at hb ⊢
  rw [hce] at hes
  have hel':elems.length=len:=hel
  have key:∀ i,i < len→∃ x : α,∃ cs',w.cells? 0 (a.add (i*sz)) sz=some cs'∧All2 (Rv num ρ w noF) (cells x) cs'∧good x ((elems.map fun y=>b y.1).getD i 0):=by
   intro i hi
   have h1:=hes i hi
   rw [List.getElem?_eq_getElem (by omega),Option.bind_eq_some_iff] at h1
   obtain ⟨cs',h2,h3⟩:=h1
   have hm:((elems.map (·.1)).map b)[i]?=some (b (elems[i]'(by omega)).1):=by simp [List.getElem?_eq_getElem (show i < elems.length by omega)]
   have hle:=le_sum hm
   obtain ⟨x,h4,h5⟩:=he n (by omega) cs' (elems[i]'(by omega)).1 (elems[i]'(by omega)).2 h3 (by omega)
   refine ⟨x,cs',h2,h4,?_⟩
   rw [List.getD_eq_getElem?_getD]
   simpa [List.getElem?_eq_getElem (show i < elems.length by omega)] using h5
  obtain ⟨es,hesl,hese⟩:=exists_list len key
  have hbig:es.length≤big:=by
   have h1:((elems.map (·.1)).map b).length≤((elems.map (·.1)).map b).sum:=length_le_sum (fun m hm=>by
    obtain ⟨d,_,rfl⟩:=List.mem_map.1 hm
    exact B.one d)
   simp only [List.length_map] at h1
   simp only [big];omega
  refine ⟨⟨false,es,false,hbig⟩,.cons ?_ .nil,(by intro h;cases h),(elems.map fun y=>b y.1),?_,?_,?_⟩
  ·have hne:es ≠ []→a.spot=none:=by
    intro h0
    have hl0:0 < len:=by rw [← hesl];exact List.length_pos_iff.2 h0
    obtain ⟨x,cs',h1,_,_⟩:=key 0 hl0
    obtain ⟨c1,c2⟩:=cells_at h1
    have:=c2 0 hsz
    rw [Nat.zero_mul,add_zero',add_zero',List.getElem?_eq_getElem (by omega)] at this
    simp only [World.cell?] at this
    split at this
    ·cases hs:a.spot with
     | none=>rfl
     | some v=>rw [hs] at this;simp at this
    ·cases this
   obtain ⟨ab,ao,asp⟩:=a
   have hcell:∀ (i:Nat) (x : α),es[i]?=some x→∃ cs',cs'.length=sz∧All2 (Rv num ρ w noF) (cells x) cs'∧∀ j,j < sz→w.cell? ⟨ab,ao+(i*sz+j),none⟩=cs'[j]?:=by
    intro i x hx
    obtain ⟨cs',h1,h2,_⟩:=hese i x hx
    have hn0:es ≠ []:=by intro h;subst h;simp at hx
    have hsp:=hne hn0
    simp only at hsp
    subst hsp
    obtain ⟨c1,c2⟩:=cells_at h1
    refine ⟨cs',c1,h2,fun j hj=>?_⟩
    have:=c2 j hj
    rw [add_none,add_none,Nat.add_assoc] at this
    exact this
   have hmap:∀ (i:Nat) (e':AV),(es.map enc1)[i]?=some e'→∃ x : α,es[i]?=some x∧e'=enc1 x:=by
    intro i e' h
    rw [List.getElem?_map,Option.map_eq_some_iff] at h
    obtain ⟨x,h1,h2⟩:=h
    exact ⟨x,h1,h2.symm⟩
   have hv:(Value.slice (some ⟨ab,ao,asp⟩) len cap) = .slice (some ⟨ab,ao,asp⟩) (es.map enc1).length cap:=by rw [List.length_map,hesl]
   simp only [Sl.av]
   rw [hv]
   refine .sl (es.map enc1) false ab ao cap sz (fun k=>(w.cell? ⟨ab,ao+k,none⟩).getD undef) (by rw [List.length_map,hesl];exact hlc) (by intro h;cases h) ?_ ?_ ?_ ?_ asp ?_
   ·intro h0
    refine ⟨fun h=>h,?_⟩
    obtain ⟨e',r,hr⟩:=List.exists_cons_of_ne_nil h0
    obtain ⟨x,hx,_⟩:=hmap 0 e' (by rw [hr];rfl)
    obtain ⟨cs',c1,_,c3⟩:=hcell 0 x hx
    have h3:=c3 0 hsz
    rw [List.getElem?_eq_getElem (by omega)] at h3
    by_cases hlt:ab < w.heap.size
    ·exact hlt
    ·simp [World.cell?,Array.getElem?_eq_none (Nat.le_of_not_lt hlt)] at h3
   ·intro i e' h
    obtain ⟨x,_,rfl⟩:=hmap i e' h
    rw [hcells,hlen]
   ·intro k hk
    rw [List.length_map] at hk
    have hi:k / sz < es.length:=Nat.div_lt_of_lt_mul (by rw [Nat.mul_comm];exact hk)
    obtain ⟨cs',c1,_,c3⟩:=hcell (k / sz) _ (List.getElem?_eq_getElem hi)
    have hm:k % sz < sz:=Nat.mod_lt _ hsz
    have h3:=c3 (k % sz) hm
    have e1:k / sz*sz+k % sz=k:=by rw [Nat.mul_comm];exact Nat.div_add_mod k sz
    rw [e1,List.getElem?_eq_getElem (by omega)] at h3
    rw [h3];rfl
   ·intro i e' j y h hy
    obtain ⟨x,hx,rfl⟩:=hmap i e' h
    obtain ⟨cs',c1,c2,c3⟩:=hcell i x hx
    rw [hcells] at hy
    have hj:j < sz:=by
     have:=(List.getElem?_eq_some_iff.1 hy).1
     rw [hlen] at this;exact this
    rw [c3 j hj,List.getElem?_eq_getElem (by omega)]
    exact c2.get j y _ hy (List.getElem?_eq_getElem (by omega))
   ·intro h0
    refine hne ?_
    intro h;subst h;simp at h0
  ·refine All2.mk_get (by rw [hesl,List.length_map,hel']) ?_
   intro i x m hx hm
   obtain ⟨_,_,_,hg⟩:=hese i x hx
   rw [List.getD_eq_getElem?_getD,hm] at hg
   exact hg
  ·have:(elems.map fun y=>b y.1)=(elems.map (·.1)).map b:=by simp
   rw [this];omega
  ·intro m hm
   obtain ⟨y,_,rfl⟩:=List.mem_map.1 hm
   exact B.one _
theorem Rd.mono {N M:Nat} {t:TypeId} {α : Type} {cells : α → List AV} {good : α → Nat→Prop} (h:Rd enc P w num ρ b N t cells good) (hM:M≤N):Rd enc P w num ρ b M t cells good:=
 fun fuel hf=>h fuel (by omega)
theorem trod_fields {t:TypeId} {fs:Array Field} {L:List (TypeId × Nat)} {fuel:Nat} {cs:List Value} {x:DataW H × List MemPlace} (ht:P.underlying t=some (.struct fs)) (hL:fs.toList.map (fun f=>(f.type,f.offset))=L)
  (h:DataW.trod enc P w 0 (fun _=>true) true fuel t cs=some x) :
  ∃ (xs:List (DataW H × List MemPlace)) (n:Nat),fuel=n+1∧x.1 = .agg (xs.map (·.1))∧cs.length=P.cellsOf t∧xs.length=L.length ∧
   ∀ (i:Nat) (p:TypeId × Nat),L[i]?=some p→DataW.trod enc P w 0 (fun _=>true) true n p.1 ((cs.drop p.2).take (P.cellsOf p.1))=xs[i]?:=by
 obtain ⟨xs,n,h0,rfl,h1,h2,h3⟩:=DataW.trod_struct ht h
 subst hL
 refine ⟨xs,n,h0,rfl,h1,by simpa using h2,?_⟩
 intro i p hp
 rw [List.getElem?_map,Option.map_eq_some_iff] at hp
 obtain ⟨f,hf,rfl⟩:=hp
 exact h3 i f (by simpa using hf)
end
end Go.Tev
end
section
namespace Go.Tev
structure TyP (P:Program) (tI tS tB tCoef tLin tShape tTyp tStep tPull tKer tKers sCoef sLin sTyp sStep sPull sKer sInt sStr:TypeId):Prop where
 uI:P.underlying tI=some (.int .i64)
 uS:P.underlying tS=some .string
 uB:P.underlying tB=some .bool
 u_tCoef:∃ fs,P.underlying tCoef=some (.struct fs)∧fs.toList.map (fun f=>(f.type,f.offset))=[(tS,0),(tI,1)]
 u_tLin:∃ fs,P.underlying tLin=some (.struct fs)∧fs.toList.map (fun f=>(f.type,f.offset))=[(tI,0),(sCoef,1)]
 u_tShape:∃ fs,P.underlying tShape=some (.struct fs)∧fs.toList.map (fun f=>(f.type,f.offset))=[(tS,0),(sLin,1)]
 u_tTyp:∃ fs,P.underlying tTyp=some (.struct fs)∧fs.toList.map (fun f=>(f.type,f.offset))=[(tS,0),(tShape,1)]
 u_tStep:∃ fs,P.underlying tStep=some (.struct fs)∧fs.toList.map (fun f=>(f.type,f.offset))=[(tS,0),(tI,1),(sInt,2)]
 u_tPull:∃ fs,P.underlying tPull=some (.struct fs)∧fs.toList.map (fun f=>(f.type,f.offset))=[(tS,0),(tI,1),(tI,2),(tS,3),(sLin,4),(tB,5),(tI,6),(sStep,7),(sPull,8)]
 u_tKer:∃ fs,P.underlying tKer=some (.struct fs)∧fs.toList.map (fun f=>(f.type,f.offset))=[(tI,0),(tI,1),(sLin,2),(tPull,3),(sStep,12),(tI,13),(tPull,14),(tI,23)]
 u_tKers:∃ fs,P.underlying tKers=some (.struct fs)∧fs.toList.map (fun f=>(f.type,f.offset))=[(sStr,0),(sLin,1),(tI,2),(sTyp,3),(sKer,4),(sInt,5)]
 u_sCoef:P.underlying sCoef=some (.slice tCoef)
 u_sLin:P.underlying sLin=some (.slice tLin)
 u_sTyp:P.underlying sTyp=some (.slice tTyp)
 u_sStep:P.underlying sStep=some (.slice tStep)
 u_sPull:P.underlying sPull=some (.slice tPull)
 u_sKer:P.underlying sKer=some (.slice tKer)
 u_sInt:P.underlying sInt=some (.slice tI)
 u_sStr:P.underlying sStr=some (.slice tS)
 c_tI:P.cellsOf tI=1
 c_tS:P.cellsOf tS=1
 c_tB:P.cellsOf tB=1
 c_tCoef:P.cellsOf tCoef=2
 c_tLin:P.cellsOf tLin=2
 c_tShape:P.cellsOf tShape=2
 c_tTyp:P.cellsOf tTyp=3
 c_tStep:P.cellsOf tStep=3
 c_tPull:P.cellsOf tPull=9
 c_tKer:P.cellsOf tKer=24
 c_tKers:P.cellsOf tKers=6
 c_sCoef:P.cellsOf sCoef=1
 c_sLin:P.cellsOf sLin=1
 c_sTyp:P.cellsOf sTyp=1
 c_sStep:P.cellsOf sStep=1
 c_sPull:P.cellsOf sPull=1
 c_sKer:P.cellsOf sKer=1
 c_sInt:P.cellsOf sInt=1
 c_sStr:P.cellsOf sStr=1
section
variable {H:Type} {enc:TypeId × Value→H} {P:Program} {w:World} {num:Nat→Nat} {ρ : Rho} {b:DataW H→Nat} {bs:List (DataW H)→Nat} {tI tS tB tCoef tLin tShape tTyp tStep tPull tKer tKers sCoef sLin sTyp sStep sPull sKer sInt sStr:TypeId}
variable (B:Bulk b bs) (T:TyP P tI tS tB tCoef tLin tShape tTyp tStep tPull tKer tKers sCoef sLin sTyp sStep sPull sKer sInt sStr)
include B T
theorem rd_tCoef (N:Nat):Rd enc P w num ρ b N tCoef (fun x:Coef=>[Str.av x.v]++([intA x.c]++[])) (fun _ _=>True):=by
 intro fuel hN cs d ps h hb
 obtain ⟨fs,hu,hL⟩:=T.u_tCoef
 obtain ⟨xs,n,hn,hx,hcl,hl,hf⟩:=trod_fields hu hL h
 rw [T.c_tCoef] at hcl
 obtain ⟨y0,y1,rfl⟩:∃ y0 y1,xs=[y0,y1]:=by
  match xs,hl with
  | [y0,y1],_=>exact ⟨y0,y1,rfl⟩
 have hx':d = .agg [y0.1,y1.1]:=hx
 subst hx'
 rw [B.agg] at hb ⊢
 simp only [B.cons,B.nil] at hb ⊢
 have f0:_=some y0:=hf 0 (tS,0) rfl
 have f1:_=some y1:=hf 1 (tI,1) rfl
 simp only [T.c_tI,T.c_tS] at f0 f1
 obtain ⟨a0,p0,g0⟩:=(Rd.str (enc:=enc) (w:=w) (num:=num) (ρ := ρ) (N:=n) B T.uS) n (Nat.le_refl _) _ y0.1 y0.2 f0 (by omega)
 obtain ⟨a1,p1,g1⟩:=(Rd.int (enc:=enc) (w:=w) (num:=num) (ρ := ρ) (b:=b) (N:=n) T.uI) n (Nat.le_refl _) _ y1.1 y1.2 f1 (by omega)
 refine ⟨⟨a0,a1⟩,?_,trivial⟩
 have q:=(p0.piece (p1.piece (All2.done (by omega))))
 rw [List.drop_zero] at q
 exact q
theorem rd_sCoef (N:Nat):Rd enc P w num ρ b N sCoef (fun s:Sl Coef=>[s.av Coef.av]) (fun s n=>(s.nl=true→s.es=[])∧∃ ms:List Nat,All2 (fun _ _=>True) s.es ms∧ms.sum+1≤n∧∀ m∈ms,1≤m):=
 (Rd.slice B (N:=N) (sz:=2) Coef.av T.u_sCoef T.c_tCoef (by decide) (fun x=>rfl) (fun x=>rfl) (rd_tCoef B T N)).mono (Nat.le_succ N)
theorem rd_tLin (N:Nat):Rd enc P w num ρ b N tLin (fun x:Lin=>[intA x.c]++([x.ts.av Coef.av]++[])) (fun _ _=>True):=by
 intro fuel hN cs d ps h hb
 obtain ⟨fs,hu,hL⟩:=T.u_tLin
 obtain ⟨xs,n,hn,hx,hcl,hl,hf⟩:=trod_fields hu hL h
 rw [T.c_tLin] at hcl
 obtain ⟨y0,y1,rfl⟩:∃ y0 y1,xs=[y0,y1]:=by
  match xs,hl with
  | [y0,y1],_=>exact ⟨y0,y1,rfl⟩
 have hx':d = .agg [y0.1,y1.1]:=hx
 subst hx'
 rw [B.agg] at hb ⊢
 simp only [B.cons,B.nil] at hb ⊢
 have f0:_=some y0:=hf 0 (tI,0) rfl
 have f1:_=some y1:=hf 1 (sCoef,1) rfl
 simp only [T.c_sCoef,T.c_tI] at f0 f1
 obtain ⟨a0,p0,g0⟩:=(Rd.int (enc:=enc) (w:=w) (num:=num) (ρ := ρ) (b:=b) (N:=n) T.uI) n (Nat.le_refl _) _ y0.1 y0.2 f0 (by omega)
 obtain ⟨a1,p1,g1⟩:=(rd_sCoef (enc:=enc) (w:=w) (num:=num) (ρ := ρ) B T n) n (Nat.le_refl _) _ y1.1 y1.2 f1 (by omega)
 refine ⟨⟨a0,a1⟩,?_,trivial⟩
 have q:=(p0.piece (p1.piece (All2.done (by omega))))
 rw [List.drop_zero] at q
 exact q
theorem rd_sLin (N:Nat):Rd enc P w num ρ b N sLin (fun s:Sl Lin=>[s.av Lin.av]) (fun s n=>(s.nl=true→s.es=[])∧∃ ms:List Nat,All2 (fun _ _=>True) s.es ms∧ms.sum+1≤n∧∀ m∈ms,1≤m):=
 (Rd.slice B (N:=N) (sz:=2) Lin.av T.u_sLin T.c_tLin (by decide) (fun x=>rfl) (fun x=>rfl) (rd_tLin B T N)).mono (Nat.le_succ N)
theorem rd_sInt (N:Nat):Rd enc P w num ρ b N sInt (fun s:Sl Int=>[s.av intA]) (fun s n=>(s.nl=true→s.es=[])∧∃ ms:List Nat,All2 (fun _ _=>True) s.es ms∧ms.sum+1≤n∧∀ m∈ms,1≤m):=
 (Rd.slice B (N:=N) (sz:=1) intA T.u_sInt T.c_tI (by decide) (fun x=>rfl) (fun x=>rfl) (Rd.int T.uI)).mono (Nat.le_succ N)
theorem rd_tStep (N:Nat):Rd enc P w num ρ b N tStep (fun x:Step=>[Str.av x.op]++([intA x.num]++([x.args.av intA]++[]))) (fun _ _=>True):=by
 intro fuel hN cs d ps h hb
 obtain ⟨fs,hu,hL⟩:=T.u_tStep
 obtain ⟨xs,n,hn,hx,hcl,hl,hf⟩:=trod_fields hu hL h
 rw [T.c_tStep] at hcl
 obtain ⟨y0,y1,y2,rfl⟩:∃ y0 y1 y2,xs=[y0,y1,y2]:=by
  match xs,hl with
  | [y0,y1,y2],_=>exact ⟨y0,y1,y2,rfl⟩
 have hx':d = .agg [y0.1,y1.1,y2.1]:=hx
 subst hx'
 rw [B.agg] at hb ⊢
 simp only [B.cons,B.nil] at hb ⊢
 have f0:_=some y0:=hf 0 (tS,0) rfl
 have f1:_=some y1:=hf 1 (tI,1) rfl
 have f2:_=some y2:=hf 2 (sInt,2) rfl
 simp only [T.c_sInt,T.c_tI,T.c_tS] at f0 f1 f2
 obtain ⟨a0,p0,g0⟩:=(Rd.str (enc:=enc) (w:=w) (num:=num) (ρ := ρ) (N:=n) B T.uS) n (Nat.le_refl _) _ y0.1 y0.2 f0 (by omega)
 obtain ⟨a1,p1,g1⟩:=(Rd.int (enc:=enc) (w:=w) (num:=num) (ρ := ρ) (b:=b) (N:=n) T.uI) n (Nat.le_refl _) _ y1.1 y1.2 f1 (by omega)
 obtain ⟨a2,p2,g2⟩:=(rd_sInt (enc:=enc) (w:=w) (num:=num) (ρ := ρ) B T n) n (Nat.le_refl _) _ y2.1 y2.2 f2 (by omega)
 refine ⟨⟨a0,a1,a2⟩,?_,trivial⟩
 have q:=(p0.piece (p1.piece (p2.piece (All2.done (by omega)))))
 rw [List.drop_zero] at q
 exact q
theorem rd_sStep (N:Nat):Rd enc P w num ρ b N sStep (fun s:Sl Step=>[s.av Step.av]) (fun s n=>(s.nl=true→s.es=[])∧∃ ms:List Nat,All2 (fun _ _=>True) s.es ms∧ms.sum+1≤n∧∀ m∈ms,1≤m):=
 (Rd.slice B (N:=N) (sz:=3) Step.av T.u_sStep T.c_tStep (by decide) (fun x=>rfl) (fun x=>rfl) (rd_tStep B T N)).mono (Nat.le_succ N)
omit B T in
theorem sum_sz:∀ {l:List Pull} {ms:List Nat},All2 (fun (p:Pull) n=>p.ok∧p.sz≤n) l ms→(∀ p∈l,p.ok)∧Pull.szL l≤ms.sum
 | _,_,.nil=>⟨by simp,by simp [Pull.szL]⟩
 | _,_,.cons h r=>by
  obtain ⟨h1,h2⟩:=sum_sz r
  refine ⟨?_,by simp [Pull.szL];omega⟩
  intro p hp
  rcases List.mem_cons.1 hp with rfl | hp
  ·exact h.1
  ·exact h1 p hp
theorem rd_tPull1 (N:Nat) (hs:∀ n,n+1≤N→Rd enc P w num ρ b n sPull (fun s:Sl Pull=>[s.av Pull.av]) (fun s n=>(s.nl=true→s.es=[])∧∃ ms:List Nat,All2 (fun (p:Pull) n=>p.ok∧p.sz≤n) s.es ms∧ms.sum+1≤n∧∀ m∈ms,1≤m)):Rd enc P w num ρ b N tPull (fun x:Pull=>[Str.av x.op]++([intA x.num]++([intA x.value]++([Str.av x.name]++([x.at_.av Lin.av]++([.bool x.dyn]++([intA x.check]++([x.fn.av Step.av]++([x.kav]++[]))))))))) (fun p n=>p.ok∧p.sz≤n):=by
 intro fuel hN cs d ps h hb
 obtain ⟨fs,hu,hL⟩:=T.u_tPull
 obtain ⟨xs,n,hn,hx,hcl,hl,hf⟩:=trod_fields hu hL h
 rw [T.c_tPull] at hcl
 obtain ⟨y0,y1,y2,y3,y4,y5,y6,y7,y8,rfl⟩:∃ y0 y1 y2 y3 y4 y5 y6 y7 y8,xs=[y0,y1,y2,y3,y4,y5,y6,y7,y8]:=by
  match xs,hl with
  | [y0,y1,y2,y3,y4,y5,y6,y7,y8],_=>exact ⟨y0,y1,y2,y3,y4,y5,y6,y7,y8,rfl⟩
 have hx':d = .agg [y0.1,y1.1,y2.1,y3.1,y4.1,y5.1,y6.1,y7.1,y8.1]:=hx
 subst hx'
 rw [B.agg] at hb ⊢
 simp only [B.cons,B.nil] at hb ⊢
 have f0:_=some y0:=hf 0 (tS,0) rfl
 have f1:_=some y1:=hf 1 (tI,1) rfl
 have f2:_=some y2:=hf 2 (tI,2) rfl
 have f3:_=some y3:=hf 3 (tS,3) rfl
 have f4:_=some y4:=hf 4 (sLin,4) rfl
 have f5:_=some y5:=hf 5 (tB,5) rfl
 have f6:_=some y6:=hf 6 (tI,6) rfl
 have f7:_=some y7:=hf 7 (sStep,7) rfl
 have f8:_=some y8:=hf 8 (sPull,8) rfl
 simp only [T.c_sLin,T.c_sPull,T.c_sStep,T.c_tB,T.c_tI,T.c_tS] at f0 f1 f2 f3 f4 f5 f6 f7 f8
 obtain ⟨a0,p0,g0⟩:=(Rd.str (enc:=enc) (w:=w) (num:=num) (ρ := ρ) (N:=n) B T.uS) n (Nat.le_refl _) _ y0.1 y0.2 f0 (by omega)
 obtain ⟨a1,p1,g1⟩:=(Rd.int (enc:=enc) (w:=w) (num:=num) (ρ := ρ) (b:=b) (N:=n) T.uI) n (Nat.le_refl _) _ y1.1 y1.2 f1 (by omega)
 obtain ⟨a2,p2,g2⟩:=(Rd.int (enc:=enc) (w:=w) (num:=num) (ρ := ρ) (b:=b) (N:=n) T.uI) n (Nat.le_refl _) _ y2.1 y2.2 f2 (by omega)
 obtain ⟨a3,p3,g3⟩:=(Rd.str (enc:=enc) (w:=w) (num:=num) (ρ := ρ) (N:=n) B T.uS) n (Nat.le_refl _) _ y3.1 y3.2 f3 (by omega)
 obtain ⟨a4,p4,g4⟩:=(rd_sLin (enc:=enc) (w:=w) (num:=num) (ρ := ρ) B T n) n (Nat.le_refl _) _ y4.1 y4.2 f4 (by omega)
 obtain ⟨a5,p5,g5⟩:=(Rd.bool (enc:=enc) (w:=w) (num:=num) (ρ := ρ) (b:=b) (N:=n) T.uB) n (Nat.le_refl _) _ y5.1 y5.2 f5 (by omega)
 obtain ⟨a6,p6,g6⟩:=(Rd.int (enc:=enc) (w:=w) (num:=num) (ρ := ρ) (b:=b) (N:=n) T.uI) n (Nat.le_refl _) _ y6.1 y6.2 f6 (by omega)
 obtain ⟨a7,p7,g7⟩:=(rd_sStep (enc:=enc) (w:=w) (num:=num) (ρ := ρ) B T n) n (Nat.le_refl _) _ y7.1 y7.2 f7 (by omega)
 obtain ⟨a8,p8,g8⟩:=(hs n (by omega)) n (Nat.le_refl _) _ y8.1 y8.2 f8 (by omega)
 refine ⟨.mk a0 a1 a2 a3 a4 a5 a6 a7 a8.nl a8.es a8.cl,?_,?_⟩
 rotate_left
 ·obtain ⟨_,ms,m1,m2,_⟩:=g8
  obtain ⟨k1,k2⟩:=sum_sz m1
  refine ⟨(Pull.ok_iff _).2 ⟨a8.ok,k1⟩,?_⟩
  rw [Pull.sz_eq]
  show 1+Pull.szL a8.es≤_
  omega
 have q:=(p0.piece (p1.piece (p2.piece (p3.piece (p4.piece (p5.piece (p6.piece (p7.piece (p8.piece (All2.done (by omega)))))))))))
 rw [List.drop_zero] at q
 exact q
theorem rd_sPull1 (N:Nat) (h:Rd enc P w num ρ b N tPull (fun x:Pull=>[Str.av x.op]++([intA x.num]++([intA x.value]++([Str.av x.name]++([x.at_.av Lin.av]++([.bool x.dyn]++([intA x.check]++([x.fn.av Step.av]++([x.kav]++[]))))))))) (fun p n=>p.ok∧p.sz≤n)):Rd enc P w num ρ b (N+1) sPull (fun s:Sl Pull=>[s.av Pull.av]) (fun s n=>(s.nl=true→s.es=[])∧∃ ms:List Nat,All2 (fun (p:Pull) n=>p.ok∧p.sz≤n) s.es ms∧ms.sum+1≤n∧∀ m∈ms,1≤m):=
 Rd.slice B (N:=N) (sz:=9) Pull.av T.u_sPull T.c_tPull (by decide) (fun x=>by rw [Pull.av_eq];rfl) (fun x=>rfl) h
theorem rd_tPull:∀ N:Nat,Rd enc P w num ρ b N tPull (fun x:Pull=>[Str.av x.op]++([intA x.num]++([intA x.value]++([Str.av x.name]++([x.at_.av Lin.av]++([.bool x.dyn]++([intA x.check]++([x.fn.av Step.av]++([x.kav]++[]))))))))) (fun p n=>p.ok∧p.sz≤n)
 | 0=>rd_tPull1 B T 0 (fun n hn=>by omega)
 | N+1=>rd_tPull1 B T (N+1) (fun n hn=>(rd_sPull1 B T N (rd_tPull N)).mono (by omega))
end
end Go.Tev
end
section
namespace Go.Tev
def putI (x:Int):List Int→List Int
 | []=>[x]
 | y :: r=>if decide (y < x) then y :: putI x r else if decide (y=x) then y :: r else x :: y :: r
theorem mem_putI {x a:Int}:∀ l:List Int,a∈putI x l↔a=x∨a∈l
 | []=>by simp [putI]
 | y :: r=>by
  simp only [putI]
  split
  ·simp only [List.mem_cons,mem_putI r]
   constructor<;>(intro h;rcases h with h | h | h<;>simp [h])
  ·split
   ·rename_i h;simp at h;subst h;simp
   ·simp
theorem putI_len (x:Int):∀ l:List Int,(putI x l).length≤l.length+1
 | []=>by simp [putI]
 | y :: r=>by
  have:=putI_len x r
  simp only [putI]
  split
  ·simp;omega
  ·split<;>simp
def IsL (l:List Int) (r:AV):Prop:=(∃ nl cl,r = .sl nl (l.map intA) cl)∨r = .os (l.map intA) 1 false
theorem IsL.of {l:List Int} {r:AV} (h:IsSl 1 false (l.map intA) r):IsL l r:=by
 rcases h with ⟨he,nl,cl,rfl,_⟩ | h
 ·exact .inl ⟨nl,cl,by rw [he]⟩
 ·exact .inr h
section
variable {pg:Pg}
attribute [local go_sem] Nat.left_eq_add Nat.add_eq_left
end
end Go.Tev
end
section
namespace Go.Tev
def putsI (acc l:List Int):List Int:=l.foldl (fun a x=>putI x a) acc
mutual
def readsR:Pull→List Int
 | .mk op _ value _ _ _ _ _ _ kids _=>readsRs (if decide (op.bs=[114,101,97,100]) then putI value [] else []) kids
def readsRs:List Int→List Pull→List Int
 | acc,[]=>acc
 | acc,p :: r=>readsRs (putsI acc (readsR p)) r
end
theorem putsI_len:∀ (l acc:List Int),(putsI acc l).length≤acc.length+l.length
 | [],acc=>by simp [putsI]
 | x :: r,acc=>by
  have h1:=putsI_len r (putI x acc)
  have h2:=putI_len x acc
  simp only [putsI,List.foldl_cons,List.length_cons] at *
  omega
theorem mem_putsI {a:Int}:∀ (l acc:List Int),a∈putsI acc l↔a∈acc∨a∈l
 | [],acc=>by simp [putsI]
 | x :: r,acc=>by
  have h1:=mem_putsI (a:=a) r (putI x acc)
  simp only [putsI,List.foldl_cons] at *
  rw [h1,mem_putI,List.mem_cons]
  constructor
  ·rintro ((h | h) | h)<;>simp [h]
  ·rintro (h | h | h)<;>simp [h]
mutual
theorem readsR_len:∀ p:Pull,(readsR p).length≤p.sz
 | .mk op _ value _ _ _ _ _ _ kids _=>by
  have h:=readsRs_len kids (if decide (op.bs=[114,101,97,100]) then putI value [] else [])
  rw [readsR,Pull.sz]
  split at h<;>simp_all [putI]<;>omega
theorem readsRs_len:∀ (l:List Pull) (acc:List Int),(readsRs acc l).length≤acc.length+Pull.szL l
 | [],acc=>by simp [readsRs]
 | p :: r,acc=>by
  have h1:=readsR_len p
  have h2:=readsRs_len r (putsI acc (readsR p))
  have h3:=putsI_len (readsR p) acc
  simp only [readsRs,Pull.szL] at *
  omega
end
mutual
theorem mem_readsR (a:Int):∀ p:Pull,a∈readsR p↔a∈readsU p
 | .mk op _ value _ _ _ _ _ _ kids _=>by
  have h:=mem_readsRs a kids (if decide (op.bs=[114,101,97,100]) then putI value [] else [])
  rw [readsR,readsU,h,List.mem_append]
  cases decide (op.bs=[114,101,97,100])<;>simp [putI]
theorem mem_readsRs (a:Int):∀ (l:List Pull) (acc:List Int),a∈readsRs acc l↔a∈acc∨a∈readsL l
 | [],acc=>by simp [readsRs,readsL]
 | p :: r,acc=>by
  have h1:=mem_readsR a p
  have h2:=mem_readsRs a r (putsI acc (readsR p))
  rw [readsRs,h2,mem_putsI,h1,readsL,List.mem_append,or_assoc]
end
def refsR (q:Kernel):List Int:=
 if decide (q.kind=3) then
  (let l:=putsI (readsR q.body) (readsR q.index)
   if decide (q.source=q.value) then l else putI q.source l)
 else readsR q.body
section
variable {pg:Pg}
end
end Go.Tev
end
section
namespace Go.Tev
section
variable {pg:Pg}
end
end Go.Tev
end
section
namespace Go.Tev
def uses (q:Kernel) (n:Nat):Prop:=n=q.value.toNat∨n∈(readsK q).map Int.toNat
end Go.Tev
end
section
namespace Go.Tev
end Go.Tev
end
