import Derived.Test.YtdpdokigjeaaiaaGreatDoorNEm
set_option linter.all false
section
namespace Go.Tev
def inpT (k:Kernels):List Bool:=List.replicate k.inputs.toNat true++List.replicate (k.values.es.length - k.inputs.toNat) false
def setT (th:List Bool) (q:Kernel):List Bool:=th.set q.value.toNat true
def thereOf (th:List Bool) (d:List Kernel):List Bool:=d.foldl setT th
def runK (k:Kernels):List Bool→List Kernel→Nat→Option Nat
 | _,[],_=>none
 | th,q :: r,i=>if kernelOK k th q i then runK k (setT th q) r (i+1) else some i
def resBad (k:Kernels) (th:List Bool) (v:Int):Bool:=decide (v < 0)||decide ((k.values.es.length:Int)≤v) || !thereB th v
def resultsBad (k:Kernels) (th:List Bool):Bool:=
 decide ((k.results.es.length:Int) < 1)||decide (8 < (k.results.es.length:Int))||k.results.es.any (resBad k th)
def fuseV (k:Kernels):Int × Int:=
 if outsideOK k then
  (match runK k (inpT k) k.list.es 0 with
  | some i=>(i,22)
  | none=>if resultsBad k (thereOf (inpT k) k.list.es) then (k.list.es.length,22) else (k.list.es.length,0))
 else (-1,22)
def fillT (V i:Nat):List Bool:=List.replicate i true++List.replicate (V - i) false
theorem fillT_len {V i:Nat} (h:i≤V):(fillT V i).length=V:=by simp [fillT];omega
theorem fillT_set {V i:Nat} (h:i < V):(fillT V i).set i true=fillT V (i+1):=by
 obtain ⟨m,rfl⟩:∃ m,V=i+(m+1):=⟨V - i - 1,by omega⟩
 simp only [fillT]
 rw [List.set_append_right _ _ (by simp)]
 have e1:i+(m+1) - i=m+1:=by omega
 have e2:i+(m+1) - (i+1)=m:=by omega
 rw [e1,e2,List.replicate_succ (n:=m),List.replicate_succ' (n:=i)]
 simp
theorem setT_len (th:List Bool) (q:Kernel):(setT th q).length=th.length:=by simp [setT]
theorem thereOf_len (th:List Bool) (d:List Kernel):(thereOf th d).length=th.length:=by
 induction d generalizing th with
 | nil=>rfl
 | cons x r ih=>simp only [thereOf,List.foldl_cons] at *;rw [ih,setT_len]
theorem thereOf_snoc (th:List Bool) (d:List Kernel) (x:Kernel):thereOf th (d++[x])=setT (thereOf th d) x:=by simp [thereOf]
theorem map_set_bool (l:List Bool) (i:Nat) (b:Bool):(l.map AV.bool).set i (.bool b)=(l.set i b).map AV.bool:=by rw [List.map_set]
theorem set_at {l:List AV} {n:Nat} (x:AV) (h:n < l.length):List.take (0+n*1) l++[x]++List.drop (0+n*1+1) l=l.set n x:=by
 rw [List.set_eq_take_append_cons_drop,if_pos h]
 simp
theorem mapS_two' {h:Hp} {d:Nat} {a b b':AV} {keys:List Nat} (hb:Tev.snap (d+1) h b=some (b',keys)) (ha:a.tree=true):mapS (Tev.snap (d+1) h) [b,a]=some ([b',a],keys):=by
 rw [mapS_cons,hb,mapS_cons,snapX,if_pos ha,mapS_nil]
 simp
theorem kernelOK_in {k:Kernels} {th:List Bool} {q:Kernel} {i:Nat} (h:kernelOK k th q i=true):k.inputs≤q.value∧q.value < k.values.es.length∧0≤q.check:=by
 simp only [kernelOK,kOut,Bool.and_eq_true,Bool.not_eq_true',Bool.or_eq_false_iff,decide_eq_false_iff_not] at h
 omega
theorem typOK_dims {t:Typ} {vars:List Str} (h:typedOK t vars=true):t.shape.dims.es.length≤6:=by
 simp only [typedOK,typOK,shapeOK,Bool.and_eq_true,decide_eq_true_eq] at h
 have:=h.1.1.1.2.1.2
 omega
section
variable {pg:Pg}
theorem c46 (hf:pg.fs 46=some cf46) (k:Kernels) (nl cl:Bool) (there:List Bool) (hth:there.length=k.values.es.length) (m v:Int) :
  Ret pg 46 [.int .i64 v,.fp (.agg k.cells),.fp (.fp (.agg (chkC k nl cl there m)))] (.bool (resBad k there v)):=by
 have h0:decide (v < 0)=false→(0≤v)=True:=fun h=>eq_true (by simpa using h)
 obtain ⟨b,hb⟩:∃ b,decide (v < 0)=false→decide ((k.values.es.length:Int)≤v)=false→there[v.toNat]?=some b:=by
  by_cases hh:v.toNat < there.length
  ·exact ⟨_,fun _ _=>List.getElem?_eq_getElem hh⟩
  ·exact ⟨true,fun x y=>by simp at x y;omega⟩
 have hb':decide (v < 0)=false→decide ((k.values.es.length:Int)≤v)=false→thereB there v=b:=fun x y=>by simp [thereB,hb x y]
 refine Ret.ofX hf ?_
 unfold cf46
 repeat' (first | simp only [chkC,Kernels.cells, *,go_sem,seval] | refine XG_split (fun _=>?_) (fun _=>?_) | refine XC_split (fun _=>?_) (fun _=>?_) | refine And.intro (by kernel_rfl) ?_)
 all_goals (simp_all [resBad])
 all_goals (intro h;omega)
def chkH (k:Kernels):List AV:=
 [.sl k.vars.nl (k.vars.es.map Str.av) k.vars.cl,.sl k.wher.nl (k.wher.es.map Lin.av) k.wher.cl,.int .i64 k.inputs,.sl k.values.nl (k.values.es.map Typ.av) k.values.cl,.sl k.list.nl (k.list.es.map Kernel.av) k.list.cl,.sl k.results.nl (k.results.es.map intA) k.results.cl,
  .rf 9 0 0 k.values.es.length k.values.es.length,.int .i64 0]
theorem snap_there {h:Hp} {th:List Bool} {V:Nat} (hth:th.length=V) (g9:h.get 9=some (0,.blk (th.map AV.bool) 1 false true false)) (d:Nat):Tev.snap (d+2) h (.rf 9 0 0 V V)=some (.sl false (th.map AV.bool) true,[9]):=by
 obtain ⟨cs',h1,h2,h3,h4⟩:=chunk_el (El.bools th)
 have h5:=h4 []
 rw [List.append_nil] at h5
 have h6:mapS (Tev.snap (d+1) h) (th.map AV.bool)=some (th.map AV.bool,[]):=mapS_tree d h (treeL_bools th)
 rw [snapX]
 simp only [List.length_map] at h2 h5
 subst hth
 have h7:cs'=th.map AV.bool:=by
  rw [unchunk_bools] at h1
  exact (Option.some.inj h1).symm
 subst h7
 simp [g9,h5,h6,AV.tree]
theorem snap_chk {h:Hp} {k:Kernels} {th:List Bool} (hth:th.length=k.values.es.length) (g13:h.get 13=some (0,.blk (chkH k) 8 true true false)) (g9:h.get 9=some (0,.blk (th.map AV.bool) 1 false true false)) (d:Nat) :
  Tev.snap (d+3) h (.pt 13 0 0)=some (.fp (.agg (chkC k false true th 0)),[13,9]):=by
 have h7:=snap_there hth g9 d
 simp only [chkH] at g13
 rw [snapX]
 simp only [g13,mapS_nil,mapS_cons,↓h7,snapX,go_sem,Nat.reduceAdd,↓reduceIte]
 rfl
theorem c28 (hf:pg.fs 28=some cf28) (h43:∀ k:Kernels,Ret pg 43 [k.av] (.bool (outsideOK k)))
  (h44:∀ (k:Kernels),(k.vars.nl=true→k.vars.es=[])→0≤k.inputs→(∀ t∈k.values.es,t.shape.dims.es.length≤6)→∀ (nl cl:Bool) (there:List Bool),there.length=k.values.es.length→∀ (m:Int) (i:Nat) (q:Kernel),k.list.es[i]?=some q →
   q.body.ok→q.index.ok→k.vars.es.length+9+q.body.sz≤big→k.vars.es.length+9+q.index.sz≤big →
   Ret pg 44 [.fp (.agg (chkC k nl cl there m)),.int .i64 i] (.bool (kernelOK k there q i)))
  (h45:pg.fs 45=some cf45) (h46:pg.fs 46=some cf46) (h71:pg.fs 71=some cf71)
  (k:Kernels) (hnl:k.vars.nl=true→k.vars.es=[]) (hq:∀ q∈k.list.es,q.body.ok∧q.index.ok∧k.vars.es.length+9+q.body.sz≤big∧k.vars.es.length+9+q.index.sz≤big) :
  Ret pg 28 [k.av] (.tup [.int .i64 (fuseV k).1,.int .i64 (fuseV k).2]):=by
 have a1:=h43 k
 refine Ret.ofX hf ?_
 unfold cf28
 simp only [Kernels.av,Kernels.cells,go_sem,seval]
 refine XO_tree a1 (by simp only [Kernels.av,Kernels.cells,go_sem,seval]) rfl ?_
 cases ho:outsideOK k
 ·simp only [go_sem,seval]
  simp only [fuseV,ho];rfl
 have hV:((k.values.es.length:Int)≤1073741824)=True:=eq_true (by have:=k.values.ok;simp only [big] at this;omega)
 have hfl:(List.replicate k.values.es.length [AV.bool false]).flatten=(List.replicate k.values.es.length false).map AV.bool:=by
  rw [List.map_replicate]
  induction k.values.es.length with
  | zero=>rfl
  | succ n ih=>rw [List.replicate_succ,List.flatten_cons,ih,List.replicate_succ];rfl
 simp only [hV,hfl,go_sem,seval]
 refine And.intro (by kernel_rfl) ?_
 have hso:=ho
 simp only [outsideOK,Bool.and_eq_true,decide_eq_true_eq] at hso
 obtain ⟨_,⟨⟨⟨⟨⟨⟨_,_⟩,hi0⟩,_⟩,hiV⟩,_⟩,_⟩,hty⟩:=hso
 have hvals:∀ t∈k.values.es,t.shape.dims.es.length≤6:=fun t ht=>typOK_dims (by rw [List.all_eq_true] at hty;exact hty t ht)
 obtain ⟨ins,hins⟩:∃ n:Nat,k.inputs=n:=⟨k.inputs.toNat,by omega⟩
 have hinV:ins≤k.values.es.length:=by omega
 have hVb:=k.values.ok
 have hf0:fillT k.values.es.length 0=List.replicate k.values.es.length false:=by simp [fillT]
 refine XX_list (List.range ins) (fun d r env hp=>env=cf28E0 (.pt 1 0 0) (.pt 17 0 0) (.int .i64 k.inputs) (.int .i64 d.length) ∧
  hp.get 1=some (0,.blk k.cells 6 true true false)∧hp.get 13=some (0,.blk (chkH k) 8 true true false)∧hp.get 17=some (0,.blk [.pt 13 0 0] 1 false true false)∧hp.get 9=some (0,.blk ((fillT k.values.es.length d.length).map AV.bool) 1 false true false)) ?_ ?_ ?_
 ·refine ⟨rfl,?_,?_,?_,?_⟩
  ·simp only [go_sem,seval]
   rfl
  ·simp only [go_sem,seval]
   rfl
  ·simp only [go_sem,seval]
  ·rw [show ([]:List Nat).length=0 from rfl,hf0]
   simp only [go_sem,seval]
 ·rintro env hp ⟨rfl,g1,g13,g17,g9⟩
  have hr:(List.range ins).length=ins:=List.length_range
  rw [hr] at g9 ⊢
  have e1:decide ((ins:Int) < k.inputs)=false:=by simp;omega
  have hth0:fillT k.values.es.length ins=inpT k:=by simp [fillT,inpT,hins]
  rw [hth0] at g9
  have hthl:(inpT k).length=k.values.es.length:=by rw [← hth0,fillT_len hinV]
  simp only [Kernels.cells,Sl.av,chkH] at g1 g13
  simp only [cf28L0,cf28E0,e1,g1,go_sem,seval]
  have hrun:runK k (inpT k) k.list.es 0=runK k (thereOf (inpT k) []) k.list.es ([]:List Kernel).length:=rfl
  clear hr hth0 hf0 hV hfl e1
  have hH:∃ H:Hp,H=hp:=⟨_,rfl⟩
  refine XX_list k.list.es (fun d r env hp=>env=cf28E1 (.pt 1 0 0) (.pt 17 0 0) (.sl k.list.nl (k.list.es.map Kernel.av) k.list.cl) (.int .i64 k.list.es.length) (.int .i64 d.length) ∧
   runK k (inpT k) k.list.es 0=runK k (thereOf (inpT k) d) r d.length ∧
   hp.get 1=some (0,.blk k.cells 6 true true false)∧hp.get 13=some (0,.blk (chkH k) 8 true true false)∧hp.get 17=some (0,.blk [.pt 13 0 0] 1 false true false)∧hp.get 9=some (0,.blk ((thereOf (inpT k) d).map AV.bool) 1 false true false)) ?_ ?_ ?_
  ·exact ⟨rfl,hrun,g1,g13,g17,g9⟩
  ·rintro env hp ⟨rfl,hru,g1,g13,g17,g9⟩
   have hthe:(thereOf (inpT k) k.list.es).length=k.values.es.length:=by rw [thereOf_len,hthl]
   have hall:=c45 h45 h71 k.results.nl k.results.cl k.results.es k.results.ok 46 [.fp (.agg k.cells),.fp (.fp (.agg (chkC k false true (thereOf (inpT k) k.list.es) 0)))] (by simp only [treeL,tree_fp,tree_agg,chkC,Kernels.cells];simp only [go_sem,seval])
    (resBad k (thereOf (inpT k) k.list.es)) (fun v _=>c46 h46 k false true (thereOf (inpT k) k.list.es) hthe 0 v)
   have hsn:Tev.snap 62 hp (.pt 13 0 0)=some (.fp (.agg (chkC k false true (thereOf (inpT k) k.list.es) 0)),[13,9]):=snap_chk (k:=k) hthe g13 g9 59
   simp only [Kernels.cells,Sl.av,chkH] at g1 g13
   simp only [cf28L1,cf28E1,g1,go_sem,seval]
   cases r1:decide ((k.results.es.length:Int) < 1)
   case true=>
    simp only [g1,go_sem,seval]
    rw [fuseV,ho,hru,runK]
    simp [resultsBad,r1]
   cases r2:decide (8 < (k.results.es.length:Int))
   case true=>
    simp only [g1,r2,go_sem,seval]
    rw [fuseV,ho,hru,runK]
    simp [resultsBad,r2]
   simp only [g1,r2,go_sem,seval]
   refine XO_call hall (keys:=[1,17,13,9]) ?_ (v:=.bool (k.results.es.any (resBad k (thereOf (inpT k) k.list.es)))) (pa:=[]) rfl ?_
   ·simp only [g1,g17,↓hsn,depth,mapS_nil,mapS_cons,snapX,go_sem,Nat.reduceAdd,↓reduceIte]
    rfl
   cases r3:k.results.es.any (resBad k (thereOf (inpT k) k.list.es))
   case true=>
    simp only [g1,go_sem,seval]
    rw [fuseV,ho,hru,runK]
    simp [resultsBad,r3]
   case false=>
    simp only [g1,go_sem,seval]
    rw [fuseV,ho,hru,runK]
    simp [resultsBad,r1,r2,r3]
  ·rintro d q r env hp hes ⟨rfl,hru,g1,g13,g17,g9⟩
   have hmem:q∈k.list.es:=by rw [hes];simp
   obtain ⟨p1,p2,p3,p4⟩:=hq q hmem
   have hget:k.list.es[d.length]?=some q:=by rw [hes];simp
   have hlb:=k.list.ok
   have hb2:(d++q :: r).length≤big:=by rw [← hes];exact hlb
   have hlt:d.length < k.list.es.length:=by rw [hes];simp
   have e1:decide ((d.length:Int) < (k.list.es.length:Int))=true:=by simp;omega
   have e2:((d.length:Int) < (k.list.es.length:Int))=True:=eq_true (by omega)
   have hkk:=h44 k hnl hi0 hvals false true (thereOf (inpT k) d) (by rw [thereOf_len,hthl]) 0 d.length q hget p1 p2 p3 p4
   have g1':=g1
   have g13':=g13
   simp only [Kernels.cells,Sl.av,chkH] at g1 g13
   have hsn:∀ H:Hp,H.get 13=hp.get 13→H.get 9=hp.get 9→Tev.snap (61+3) H (.pt 13 0 0)=some (.fp (.agg (chkC k false true (thereOf (inpT k) d) 0)),[13,9]):=
    fun H x y=>snap_chk (by rw [thereOf_len,hthl]) (x.trans g13') (y.trans g9) 61
   simp only [cf28L1,cf28E1,e1,e2,g1,g13,g17,g9,hget,go_sem,seval]
   refine XO_call hkk (mapS_two' (hsn _ (by simp only [go_sem,seval]) (by simp only [go_sem,seval])) (by simp only [go_sem,seval])) (v:=.bool (kernelOK k (thereOf (inpT k) d) q d.length)) (pa:=[]) rfl ?_
   cases hkq:kernelOK k (thereOf (inpT k) d) q d.length
   ·simp only [go_sem,seval]
    rw [fuseV,ho,hru,runK,hkq]
    rfl
   ·obtain ⟨k1,k2,k3⟩:=kernelOK_in hkq
    have k0:(0≤q.value)=True:=eq_true (by omega)
    have k2':(q.value < (k.values.es.length:Int))=True:=eq_true k2
    have k4:(0+q.value.toNat*1+1≤(thereOf (inpT k) d).length)=True:=eq_true (by rw [thereOf_len,hthl];omega)
    have e4:=set_at (l:=(thereOf (inpT k) d).map AV.bool) (n:=q.value.toNat) (.bool true) (by rw [List.length_map,thereOf_len,hthl];omega)
    rw [map_set_bool] at e4
    simp only [g13,g17,g9,k0,k2',k4,e4,go_sem,seval]
    refine And.intro (by kernel_rfl) ?_
    simp only [wr_mid hb2,go_sem,seval]
    rw [thereOf_snoc]
    refine ⟨rfl,?_,g1',rfl,rfl⟩
    rw [hru,runK,hkq]
    simp
 ·rintro d x r env hp hes ⟨rfl,g1,g13,g17,g9⟩
  obtain ⟨hx,hlt⟩:=range_mid hes
  have hb2:(d++x :: r).length≤big:=by rw [← hes];simp;omega
  have e1:decide ((d.length:Int) < k.inputs)=true:=by simp;omega
  have e2:((d.length:Int) < (k.values.es.length:Int))=True:=eq_true (by omega)
  have g1':=g1
  have g13':=g13
  simp only [Kernels.cells,Sl.av,chkH] at g1 g13
  have hfl2:=fillT_len (V:=k.values.es.length) (i:=d.length) (by omega)
  have e3:(0+d.length*1+1≤(fillT k.values.es.length d.length).length)=True:=eq_true (by omega)
  have e4:=set_at (l:=(fillT k.values.es.length d.length).map AV.bool) (n:=d.length) (.bool true) (by simp;omega)
  rw [map_set_bool,fillT_set (by omega)] at e4
  simp only [cf28L0,cf28E0,e1,e2,g1,g13,g17,g9,e3,e4,wr_mid hb2,go_sem,seval]
  rw [List.length_append]
  exact ⟨rfl,rfl,rfl,rfl⟩
end
end Go.Tev
end
section
namespace Go.Tev
theorem wru {n:Nat} (h:n≤big):wr .u64 (n:Int)=n:=by
 simp only [big] at h
 simp only [wr]
 rw [if_pos ⟨by omega,by omega⟩]
theorem bits_low {n:Nat} (h:n≤big):bits IntKind.u64 (fun x1 x2=>x1 &&& x2) (n:Int) 4294967295 = .int .u64 n:=by
 simp only [big] at h
 have e2:(BitVec.ofInt 64 (n:Int) &&& BitVec.ofInt 64 4294967295).toNat=n:=by
  rw [BitVec.toNat_and]
  have e3:(BitVec.ofInt 64 4294967295).toNat=2 ^ 32 - 1:=by decide
  have e4:(BitVec.ofInt 64 (n:Int)).toNat=n:=by
   rw [BitVec.toNat_ofInt];omega
  rw [e3,e4,Nat.and_two_pow_sub_one_eq_mod];omega
 show AV.int .u64 (IntKind.u64.wrap ((BitVec.ofInt 64 (n:Int) &&& BitVec.ofInt 64 4294967295).toNat:Int))=_
 rw [e2]
 have:=wru (n:=n) (by simp only [big];omega)
 congr 1
 simp only [IntKind.wrap,IntKind.signed,IntKind.bits,Bool.false_and,Bool.false_eq_true,if_false]
 omega
theorem fbin_and {a b:Int} (h:bits IntKind.u64 (fun x1 x2=>x1 &&& x2) a 4294967295 = .int .u64 b):f_bin .and [.int .u64 a,.int .u64 4294967295]=some (.int .u64 b,.pat [] []):=by
 rw [← h];rfl
def fl2 (n:Nat) (x y:AV):List AV:=(List.replicate n [x,y]).flatten
theorem fl2_len (n:Nat) (x y:AV):(fl2 n x y).length=n*2:=by
 induction n with
 | zero=>rfl
 | succ n ih=>simp only [fl2,List.replicate_succ,List.flatten_cons,List.length_append,List.length_cons,List.length_nil] at *;omega
theorem fl2_add (m n:Nat) (x y:AV):fl2 (m+n) x y=fl2 m x y++fl2 n x y:=by
 simp only [fl2]
 rw [← List.replicate_append_replicate,List.flatten_append]
theorem fl2_take {m n:Nat} (h:m≤n) (x y:AV) (tl:List AV):(fl2 n x y++tl).take (m*2)=fl2 m x y:=by
 obtain ⟨k,rfl⟩:∃ k,n=m+k:=⟨n - m,by omega⟩
 rw [fl2_add,List.append_assoc,List.take_append_of_le_length (by rw [fl2_len];exact Nat.le_refl _),List.take_of_length_le (by rw [fl2_len];exact Nat.le_refl _)]
theorem fl2_drop {m n:Nat} (h:m≤n) (x y:AV) (tl:List AV):(fl2 n x y++tl).drop (m*2)=fl2 (n - m) x y++tl:=by
 obtain ⟨k,rfl⟩:∃ k,n=m+k:=⟨n - m,by omega⟩
 rw [fl2_add,List.append_assoc,List.drop_left' (fl2_len m x y),Nat.add_sub_cancel_left]
theorem fl2_one (l:List AV) (n:Nat) (a b:Int) (h:∀ v∈l,v = .agg [.int .i64 a,.int .i64 b]) (hn:l.length=n):unchunk 2 true l=some (fl2 n (.int .i64 a) (.int .i64 b)):=by
 subst hn
 induction l with
 | nil=>rfl
 | cons v r ih=>
  have hv:=h v (by simp)
  subst hv
  have ih':=ih (fun w hw=>h w (List.mem_cons_of_mem _ hw))
  simp only [List.length_cons]
  rw [show r.length+1=1+r.length from by omega,fl2_add]
  simp [unchunk,ih',AV.fits,fl2,AV.cells]
  rfl
theorem conv_ti {h:Hp} {k e esz:Nat} {ag ti:Bool} {cs es:List AV} (hg:h.get k=some (e,.blk cs esz ag ti false)) (hu:unchunk esz ag es=some cs) (he:∀ x∈es,El esz ag x) :
  Tev.conv h (.rf k e 0 es.length es.length)=some (.os es esz ag):=by
 obtain ⟨cs',h1,h2,h3,h4⟩:=chunk_el he
 rw [hu] at h1
 cases h1
 have h5:=h4 []
 rw [List.append_nil] at h5
 simp [Tev.conv,hg,h5,snaps_el he]
def rep (x y:AV) (V n:Nat):List AV:=fl2 n x y++fl2 (V - n) (.int .i64 0) (.int .i64 0)
theorem rep_len (x y:AV) {V n:Nat} (h:n≤V):(rep x y V n).length=V*2:=by simp only [rep,List.length_append,fl2_len];omega
theorem rep_copy (x y:AV) {V n m:Nat} (h:n≤V) (hm2:m≤V - n):writeA (rep x y V n) (n*2) (fl2 m x y)=rep x y V (n+m):=by
 simp only [writeA,rep]
 rw [fl2_take (Nat.le_refl n),fl2_len,← Nat.add_mul]
 rw [Nat.add_mul,← List.drop_drop,fl2_drop (Nat.le_refl n),Nat.sub_self]
 have:fl2 (V - n) (.int .i64 0) (.int .i64 0)=fl2 (V - n) (.int .i64 0) (.int .i64 0)++[]:=by simp
 rw [show fl2 0 x y=[] from rfl,List.nil_append,this,fl2_drop hm2,fl2_add,List.append_nil]
 congr 2
 omega
theorem cpy_rep {h:Hp} {x y src:AV} {V n j cap off:Nat} {rd:List Nat} (hn:n≤V) (hg:h.get 5=some (0,.blk (rep x y V n) 2 true true false)) (hs:srcCells h 2 true src=some (fl2 j x y,j,rd)) (ho:V - n=0∧off≤V*2∨off=n*2) :
  f_cpy h 2 true [.rf 5 0 off (V - n) cap,src]=some (.int .i64 (min j (V - n):Nat),.pat (5 :: rd) [⟨5,0,.blk (rep x y V (n+min j (V - n))) 2 true true false⟩]):=by
 have hl:=rep_len x y hn
 simp only [f_cpy,hg,hs]
 rw [if_pos ⟨trivial,by omega⟩]
 have ht:(fl2 j x y).take (min j (V - n)*2)=fl2 (min j (V - n)) x y:=by
  have:=fl2_take (Nat.min_le_left j (V - n)) x y []
  rwa [List.append_nil] at this
 rw [ht]
 rcases ho with ⟨h0,hoff⟩ | rfl
 ·rw [h0,Nat.min_zero,show fl2 0 x y=[] from rfl]
  simp [writeA]
 ·rw [rep_copy x y hn (Nat.min_le_right _ _)]
theorem fl2_allOne (n:Nat) (a b:Int):allOne (fl2 n (.int .i64 a) (.int .i64 b))=true:=by
 induction n with
 | zero=>rfl
 | succ n ih=>
  rw [show n+1=1+n from by omega,fl2_add]
  simp only [fl2] at ih
  simp [fl2,allOne,ih]
  exact ⟨rfl,rfl⟩
theorem slc_lo {h:Hp} {cs:List AV} {n j:Nat} (hg:h.get 5=some (0,.blk cs 2 true true false)) (hj:j < n):f_slc h 2 true false false [.rf 5 0 0 n n,.int .i64 j]=some (.rf 5 0 (j*2) (n - j) (n - j),.pat [5] []):=by
 simp only [f_slc,optI,sliceA,hg,Bool.false_eq_true,if_false,if_true,Option.getD_none,Option.getD_some]
 rw [if_pos ⟨trivial,trivial,by omega,by omega,by omega,by omega,by simp,.inr (.inr trivial)⟩,if_neg (by omega)]
 simp
theorem slc_hi {h:Hp} {cs:List AV} {n j:Nat} (hg:h.get 5=some (0,.blk cs 2 true true false)) (hj:j≤n):f_slc h 2 false true false [.rf 5 0 0 n n,.int .i64 j]=some (.rf 5 0 0 j n,.pat [5] []):=by
 simp only [f_slc,optI,sliceA,hg,Bool.false_eq_true,if_false,if_true,Option.getD_none,Option.getD_some]
 rw [if_pos ⟨trivial,trivial,by omega,by omega,by omega,by omega,by simp,.inl trivial⟩]
 simp
section
variable {pg:Pg}
theorem c73 (hf:pg.fs 73=some cf73) (n:Nat) (hn:n≤big):Ret pg 73 [.int .u64 1,.int .u64 n] (.tup [.int .u64 0,.int .u64 n]):=by
 refine Ret.ofX hf ?_
 unfold cf73
 have m0:bits IntKind.u64 (fun x1 x2=>x1 &&& x2) 0 4294967295 = .int .u64 0:=by rfl
 have m1:bits IntKind.u64 (fun x1 x2=>x1 &&& x2) 1 4294967295 = .int .u64 1:=by rfl
 have mn:bits IntKind.u64 (fun x1 x2=>x1 &&& x2) (n:Int) 4294967295 = .int .u64 n:=bits_low hn
 have s0:Int.fdiv 0 (2 ^ min 32 64)=0:=by decide
 have s1:Int.fdiv 1 (2 ^ min 32 64)=0:=by decide
 have sn:(n:Int).fdiv (2 ^ min 32 64)=0:=by
  simp only [big] at hn
  rw [Int.fdiv_eq_ediv_of_nonneg _ (by decide)]
  exact Int.ediv_eq_zero_of_lt (by omega) (by have:(2 ^ min 32 64:Int)=4294967296:=by decide
                                              omega)
 have wn:wr .u64 (n:Int)=n:=wru hn
 have w0:wr .u64 0=0:=by rfl
 simp only [↓fbin_and m0,↓fbin_and m1,↓fbin_and mn,s0,s1,sn,wn,w0,Int.one_mul,Int.zero_mul,Int.mul_zero,Int.zero_add,Int.add_zero,go_sem,seval]
theorem c47 (hf:pg.fs 47=some cf47) (h73:pg.fs 73=some cf73) (n:Nat) (hn:n≤big):Ret pg 47 [.int .u64 1,.int .u64 n] (.tup [.int .u64 0,.int .u64 n]):=by
 refine Ret.ofX hf ?_
 unfold cf47
 simp only [go_sem,seval]
 refine XO_tree (c73 h73 n hn) (by simp only [go_sem,seval]) rfl ?_
 simp only [go_sem,seval]
theorem c29 (hf:pg.fs 29=some cf29) (h47:pg.fs 47=some cf47) (h73:pg.fs 73=some cf73) (nl cl:Bool) (a b:Int) (n:Nat) (hn:n≤big) :
  RetP pg 29 [.sl nl [.agg [.int .i64 a,.int .i64 b]] cl,.int .i64 n] (IsSl 2 true (List.replicate n (.agg [.int .i64 a,.int .i64 b]))):=by
 refine RetP.ofX hf ?_
 unfold cf29
 have e0:decide ((n:Int) < 0)=false:=by simp
 have w1:wr .u64 1=1:=by rfl
 have wn:wr .u64 (n:Int)=n:=wru hn
 have wi:wr .i64 (n:Int)=n:=wr_nat (by simp only [big] at hn;omega)
 have l1:decide (0 < (0:Int))=false:=by decide
 have l2:decide (9223372036854775807 < (n:Int))=false:=by simp only [big] at hn;simp;omega
 have hn':((n:Int)≤1073741824)=True:=by simp only [big] at hn;simp;omega
 have hfl:(List.replicate n [AV.int IntKind.i64 0,AV.int IntKind.i64 0]).flatten=rep (.int .i64 a) (.int .i64 b) n 0:=by simp [rep,fl2]
 have hl0:(0+n*2≤(rep (.int .i64 a) (.int .i64 b) n 0).length)=True:=eq_true (by rw [rep_len _ _ (Nat.zero_le n)];omega)
 simp only [e0,w1,wn,wi,go_sem,seval]
 refine XO_tree (c47 h47 h73 n hn) (by simp only [go_sem,seval]) rfl ?_
 have hc0:=cpy_rep (h:=Hp.put [] 5 0 (.blk (rep (.int .i64 a) (.int .i64 b) n 0) 2 true true false)) (x:=.int .i64 a) (y:=.int .i64 b) (src:=.sl nl [.agg [.int .i64 a,.int .i64 b]] cl) (V:=n) (n:=0) (j:=1) (cap:=n) (off:=0) (rd:=[]) (Nat.zero_le n) (by simp only [go_sem,seval])
  (by simp [srcCells,unchunk,AV.fits,fl2,AV.cells];rfl) (.inr rfl)
 rw [Nat.sub_zero,Nat.zero_add] at hc0
 simp only [wi,l2,hn',hfl,↓hc0,go_sem,seval]
 refine XX_rounds (α:=Nat) (fun j=>n - j) (fun j env hp=>env=cf29E0 (.rf 5 0 0 n n) (.int .i64 j)∧j≤n∧(0 < n→0 < j)∧hp.get 5=some (0,.blk (rep (.int .i64 a) (.int .i64 b) n j) 2 true true false)) (min 1 n) ?_ ?_
 ·refine ⟨rfl,by omega,by omega,?_⟩
  simp only [go_sem,seval]
 ·rintro j env hp ⟨rfl,hj,hj0,hg⟩
  by_cases hjn:j < n
  ·have e1:decide ((j:Int) < (n:Int))=true:=by simp;omega
   have e2:((j:Int)≤(n:Int))=True:=eq_true (by omega)
   have hsr:srcCells hp 2 true (.rf 5 0 0 j n)=some (fl2 j (.int .i64 a) (.int .i64 b),j,[5]):=by
    have ht:((rep (.int .i64 a) (.int .i64 b) n j).drop 0).take (j*2)=fl2 j (.int .i64 a) (.int .i64 b):=by
     rw [List.drop_zero,rep]
     exact fl2_take (Nat.le_refl j) _ _ _
    simp only [srcCells,hg]
    rw [ht,if_pos ⟨trivial,by rw [rep_len _ _ hj];omega,fl2_allOne _ _ _⟩]
   have hc:=cpy_rep (cap:=n - j) hj hg hsr (.inr rfl)
   have hw:wr .i64 ((j:Int)+(min j (n - j):Nat))=((j+min j (n - j):Nat):Int):=by
    simp only [big] at hn
    rw [wr_small (by omega) (by omega)];omega
   simp only [cf29L0,cf29E0,e1,e2,↓slc_lo hg hjn,↓slc_hi hg hj,↓hc,hw,go_sem,seval]
   refine And.intro (by kernel_rfl) ?_
   refine ⟨j+min j (n - j),by omega,?_,by omega,by omega,?_⟩
   ·rfl
   ·simp only [go_sem,seval]
  ·obtain rfl:j=n:=by omega
   have e1:decide ((j:Int) < (j:Int))=false:=by simp
   simp only [cf29L0,cf29E0,e1,hg,go_sem,seval]
   have hu:=fl2_one (List.replicate j (.agg [.int .i64 a,.int .i64 b])) j a b (fun v hv=>(List.mem_replicate.1 hv).2) (by simp)
   have hcv:=conv_ti (es:=List.replicate j (.agg [.int .i64 a,.int .i64 b])) hg (by rw [hu,rep,Nat.sub_self];simp [fl2]) (fun v hv=>by rw [(List.mem_replicate.1 hv).2];exact ⟨rfl,rfl,rfl⟩)
   rw [List.length_replicate] at hcv
   exact ⟨_,hcv,.inr rfl⟩
end
end Go.Tev
end
section
namespace Go.Tev
def few56 (l:Lin):Bool:=(l.ts.es.all fun c => !decide (35 < (c.v.bs.length:Int)))&&decide ((l.ts.es.length:Int)≤14)
def few42 (s:Shape):Bool:=(s.dims.es.all few56)&&(decide ((s.dims.es.length:Int)≤8)&&decide ((s.row.bs.length:Int)≤35))
def few26 (l:List Step):Bool:=(l.all fun s => !(decide (4 < (s.args.es.length:Int))||decide (20 < (s.op.bs.length:Int))))&&decide ((l.length:Int)≤10)
def few27 (t:Typ):Bool:=decide ((t.elem.bs.length:Int)≤35)&&few42 t.shape
def kcell (k:Kernels) (l:List Kernel) (vs:List Typ):List AV:=
 [.sl k.vars.nl (k.vars.es.map Str.av) k.vars.cl,.sl k.wher.nl (k.wher.es.map Lin.av) k.wher.cl,.int .i64 k.inputs,.sl k.values.nl (vs.map Typ.av) k.values.cl,.sl k.list.nl (l.map Kernel.av) k.list.cl,.sl k.results.nl (k.results.es.map intA) k.results.cl]
def pcell (p:Pull) (l:List Pull):List AV:=
 [.str p.op.bs,.int .i64 p.num,.int .i64 p.value,.str p.name.bs,.sl p.at_.nl (p.at_.es.map Lin.av) p.at_.cl,.bool p.dyn,.int .i64 p.check,.sl p.fn.nl (p.fn.es.map Step.av) p.fn.cl,.sl p.knl (l.map Pull.av) p.kcl]
mutual
def few41:Pull→Bool
 | .mk op _ _ name at_ _ _ fn _ kids _=>few41s kids&&(few42 ⟨⟨[],by decide⟩,at_⟩&&few26 fn.es&&decide ((name.bs.length:Int)≤35)&&decide ((op.bs.length:Int)≤20))
def few41s:List Pull→Bool
 | []=>true
 | p :: r=>few41 p&&few41s r
end
theorem few41s_eq:∀ l,few41s l=l.all few41
 | []=>by simp [few41s]
 | p :: r=>by simp [few41s,few41s_eq r]
theorem few41_eq (p:Pull):few41 p=(p.kids.all few41&&(few42 ⟨⟨[],by decide⟩,p.at_⟩&&few26 p.fn.es&&decide ((p.name.bs.length:Int)≤35)&&decide ((p.op.bs.length:Int)≤20))):=by
 cases p;rw [few41,few41s_eq];rfl
def few25 (p:Pull):Bool:=decide (nodesU p≤60)&&few41 p
def few8k (q:Kernel):Bool:=few25 q.body&&few25 q.index && !decide (8 < (q.space.es.length:Int))&&few26 q.fn.es
def few8 (k:Kernels):Bool:=k.list.es.all few8k&&(k.values.es.all few27&&(decide ((k.list.es.length:Int)≤16)&&decide ((k.values.es.length:Int)≤20)&&decide ((k.vars.es.length:Int)≤13)&&decide ((k.wher.es.length:Int)≤12)&&decide ((k.results.es.length:Int)≤10)))
section
variable {pg:Pg}
theorem c56 (hf:pg.fs 56=some cf56) (l:Lin):Ret pg 56 [l.av] (.bool (few56 l)):=by
 have hb:=l.ts.ok
 refine Ret.ofX hf ?_
 unfold cf56
 simp only [go_sem,seval]
 refine XX_listU l.ts.es (fun d e=>setD e (some 3) (.int .i64 d.length)) (fun d r hp=>hp.get 1=some (0,.blk [.int .i64 l.c,.sl l.ts.nl (l.ts.es.map Coef.av) l.ts.cl] 2 true true false)∧(l.ts.es.all fun c => !decide (35 < (c.v.bs.length:Int)))=(r.all fun c => !decide (35 < (c.v.bs.length:Int)))) rfl ?_ ?_ ?_
 ·simp only [go_sem,seval]
 ·rintro hp ⟨h1,hI⟩
  simp only [cf56L0,cf56M0,h1,go_sem,seval]
  simp [few56,hI]
 ·rintro d x r hp hes ⟨h1,hI⟩
  rw [hes] at hb hI h1
  have h0:=h1
  rw [hes]
  simp only [cf56L0,cf56M0,h1,go_sem,seval]
  cases hd:decide (35 < (x.v.bs.length:Int))
  ·simp only [wr_mid hb,go_sem,seval]
   exact ⟨h0,by simpa [hd] using hI⟩
  ·simp only [go_sem,seval]
   simp only [few56,hes,hI,List.all_cons,hd]
   rfl
theorem c42 (hf:pg.fs 42=some cf42) (h56:pg.fs 56=some cf56) (s:Shape):Ret pg 42 [s.av] (.bool (few42 s)):=by
 have hb:=s.dims.ok
 refine Ret.ofX hf ?_
 unfold cf42
 simp only [go_sem,seval]
 refine XX_listU s.dims.es (fun d e=>setD e (some 3) (.int .i64 d.length)) (fun d r hp=>hp.get 1=some (0,.blk [.str s.row.bs,.sl s.dims.nl (s.dims.es.map Lin.av) s.dims.cl] 2 true true false)∧(s.dims.es.all few56)=(r.all few56)) rfl ?_ ?_ ?_
 ·simp only [go_sem,seval]
 ·rintro hp ⟨h1,hI⟩
  repeat' (first | simp only [cf42L0,cf42M0,h1, *,go_sem,seval] | refine XG_split (fun _=>?_) (fun _=>?_) | refine XC_split (fun _=>?_) (fun _=>?_) | refine And.intro (by kernel_rfl) ?_)
  all_goals (simp_all [few42])
  all_goals (intro h;omega)
 ·rintro d x r hp hes ⟨h1,hI⟩
  have hx:=c56 h56 x
  rw [Lin.avc] at hx
  rw [hes] at hb hI h1
  have h0:=h1
  rw [hes]
  simp only [cf42L0,cf42M0,h1,go_sem,seval]
  refine XO_tree (hx) (by simp only [go_sem,seval]) rfl ?_
  cases hd:few56 x
  ·simp only [go_sem,seval]
   simp only [few42,hes,hI,List.all_cons,hd]
   rfl
  ·simp only [wr_mid hb,go_sem,seval]
   exact ⟨h0,by simpa [hd] using hI⟩
theorem c26 (hf:pg.fs 26=some cf26) (nl cl:Bool) (l:List Step) (hb:l.length≤big):Ret pg 26 [.sl nl (l.map Step.av) cl] (.bool (few26 l)):=by
 refine Ret.ofX hf ?_
 unfold cf26
 simp only [go_sem,seval]
 refine XX_listU l (fun d e=>setD e (some 3) (.int .i64 d.length)) (fun d r hp=>(l.all fun s => !(decide (4 < (s.args.es.length:Int))||decide (20 < (s.op.bs.length:Int))))=(r.all fun s => !(decide (4 < (s.args.es.length:Int))||decide (20 < (s.op.bs.length:Int))))) rfl ?_ ?_ ?_
 ·rfl
 ·rintro hp hI
  repeat' (first | simp only [cf26L0,cf26M0, *,go_sem,seval] | refine XG_split (fun _=>?_) (fun _=>?_) | refine XC_split (fun _=>?_) (fun _=>?_) | refine And.intro (by kernel_rfl) ?_)
  all_goals (simp_all [few26])
 ·rintro d x r hp hes hI
  rw [hes] at hb hI
  rw [hes]
  simp only [cf26L0,cf26M0,go_sem,seval]
  cases hd:decide (4 < (x.args.es.length:Int))
  ·simp only [go_sem,seval]
   cases hd2:decide (20 < (x.op.bs.length:Int))
   ·simp only [wr_mid hb,go_sem,seval]
    simpa [hd,hd2] using hI
   ·simp only [go_sem,seval]
    simp only [few26,hes,hI,List.all_cons,hd,hd2]
    rfl
  ·simp only [go_sem,seval]
   simp only [few26,hes,hI,List.all_cons,hd]
   rfl
theorem c27 (hf:pg.fs 27=some cf27) (h42:pg.fs 42=some cf42) (h56:pg.fs 56=some cf56) (t:Typ):Ret pg 27 [t.av] (.bool (few27 t)):=by
 have hx:=c42 h42 h56 t.shape
 rw [Shape.avc] at hx
 refine Ret.ofX hf ?_
 unfold cf27
 repeat' (first | simp only [*,go_sem,seval] | refine XG_split (fun _=>?_) (fun _=>?_) | refine XC_split (fun _=>?_) (fun _=>?_) | (refine XO_tree hx (by simp only [go_sem,seval]) rfl ?_) | refine And.intro (by kernel_rfl) ?_)
 all_goals (simp_all [few27])
 all_goals (intro h;omega)
theorem c40 (hf:pg.fs 40=some cf40):∀ p:Pull,p.ok→Ret pg 40 [p.av] (.int .i64 (nodesU p)):=by
 refine Pull.ind' fun p ih hp=>?_
 obtain ⟨hb,hk⟩:=(Pull.ok_iff p).1 hp
 refine Ret.ofX hf ?_
 unfold cf40
 simp only [go_sem,seval]
 refine XX_listU p.kids (fun d e=>setD (setD e (some 4) (.int .i64 d.length)) (some 3) (.int .i64 (nodesL 1 d))) (fun d r hp=>hp.get 1=some (0,.blk p.cells 9 true true false)) (by simp only [nodesL];rfl) ?_ ?_ ?_
 ·simp only [go_sem,seval]
  rfl
 ·rintro hp h1
  simp only [Pull.cells,Sl.av,Pull.kav] at h1
  simp only [cf40L0,cf40M0,h1,go_sem,seval]
  exact (nodesU_eq p).symm
 ·rintro d x r hp hes h1
  have h0:=h1
  simp only [Pull.cells,Sl.av,Pull.kav] at h1
  have hx:=ih x (by rw [hes];simp) (hk x (by rw [hes];simp))
  rw [hes] at hb h1
  rw [hes]
  have h2:hp.get 1=some (0,.blk [.str p.op.bs,.int .i64 p.num,.int .i64 p.value,.str p.name.bs,.sl p.at_.nl (p.at_.es.map Lin.av) p.at_.cl,.bool p.dyn,.int .i64 p.check,.sl p.fn.nl (p.fn.es.map Step.av) p.fn.cl,.sl p.knl ((d++x :: r).map Pull.av) p.kcl] 9 true true false):=h1
  simp only [cf40L0,cf40M0,h2,go_sem,seval]
  refine XO_tree (hx) (by simp only [go_sem,seval]) rfl ?_
  simp only [wr_mid hb,nodesL_snoc,go_sem,seval]
  exact h0
theorem c41 (hf:pg.fs 41=some cf41) (h42:pg.fs 42=some cf42) (h56:pg.fs 56=some cf56) (h26:pg.fs 26=some cf26):∀ p:Pull,p.ok→Ret pg 41 [p.av] (.bool (few41 p)):=by
 refine Pull.ind' fun p ih hp=>?_
 obtain ⟨hb,hk⟩:=(Pull.ok_iff p).1 hp
 have a1:=c42 h42 h56 ⟨⟨[],by decide⟩,p.at_⟩
 have a2:=c26 h26 p.fn.nl p.fn.cl p.fn.es p.fn.ok
 rw [Shape.avc] at a1
 refine Ret.ofX hf ?_
 unfold cf41
 simp only [go_sem,seval]
 refine XX_listU p.kids (fun d e=>setD e (some 3) (.int .i64 d.length)) (fun d r hp=>hp.get 1=some (0,.blk (pcell p p.kids) 9 true true false)∧p.kids.all few41=r.all few41) rfl ?_ ?_ ?_
 ·exact ⟨by simp only [go_sem,seval];rfl,rfl⟩
 ·rintro hp ⟨h1,hI⟩
  simp only [pcell] at h1
  repeat' (first | simp only [cf41L0,cf41M0, *,go_sem,seval] | refine XG_split (fun _=>?_) (fun _=>?_) | refine XC_split (fun _=>?_) (fun _=>?_) | (refine XO_tree a1 (by simp only [go_sem,seval]) rfl ?_) | (refine XO_tree a2 (by simp only [go_sem,seval]) rfl ?_) | refine And.intro (by kernel_rfl) ?_)
  all_goals (clear h1 a1 a2 hf h42 h56 h26 ih)
  all_goals (rw [few41_eq,hI])
  all_goals (simp_all)
  all_goals (try (intros;omega))
 ·rintro d x r hp hes ⟨h1,hI⟩
  have hx:=ih x (by rw [hes];simp) (hk x (by rw [hes];simp))
  have hI2:=hI
  rw [hes] at hb hI h1
  have h0:=h1
  simp only [pcell] at h1
  rw [hes]
  have hx':=hx
  rw [Pull.avc] at hx'
  simp only [cf41L0,cf41M0,h1,go_sem,seval]
  first | refine XO_tree hx (by simp only [go_sem,seval]) rfl ?_ | refine XO_tree hx' (by simp only [go_sem,seval]) rfl ?_
  cases hd:few41 x
  ·simp only [go_sem,seval]
   rw [few41_eq,hI2,List.all_cons,hd]
   rfl
  ·simp only [wr_mid hb,go_sem,seval]
   exact ⟨h0,by rw [hI,List.all_cons,hd];rfl⟩
theorem c25 (hf:pg.fs 25=some cf25) (h40:pg.fs 40=some cf40) (h41:pg.fs 41=some cf41) (h42:pg.fs 42=some cf42) (h56:pg.fs 56=some cf56) (h26:pg.fs 26=some cf26) (p:Pull) (hp:p.ok):Ret pg 25 [p.av] (.bool (few25 p)):=by
 have a1:=c40 h40 p hp
 have a2:=c41 h41 h42 h56 h26 p hp
 rw [Pull.avc] at a1 a2
 refine Ret.ofX hf ?_
 unfold cf25
 repeat' (first | simp only [*,go_sem,seval] | refine XG_split (fun _=>?_) (fun _=>?_) | refine XC_split (fun _=>?_) (fun _=>?_) | (refine XO_tree a1 (by simp only [go_sem,seval]) rfl ?_) | (refine XO_tree a2 (by simp only [go_sem,seval]) rfl ?_) | refine And.intro (by kernel_rfl) ?_)
 all_goals (simp_all [few25])
 all_goals (try (intros;omega))
theorem c8 (hf:pg.fs 8=some cf8) (h25:∀ p:Pull,p.ok→Ret pg 25 [p.av] (.bool (few25 p))) (h26:pg.fs 26=some cf26) (h27:∀ t:Typ,Ret pg 27 [t.av] (.bool (few27 t))) (k:Kernels) (hk:∀ q∈k.list.es,q.body.ok∧q.index.ok):Ret pg 8 [k.av] (.bool (few8 k)):=by
 have hb:=k.list.ok
 have hv:=k.values.ok
 refine Ret.ofX hf ?_
 unfold cf8
 simp only [Kernels.av,go_sem,seval]
 refine XX_listU k.list.es (fun d e=>setD e (some 3) (.int .i64 d.length)) (fun d r hp=>hp.get 1=some (0,.blk (kcell k k.list.es k.values.es) 6 true true false)∧k.list.es.all few8k=r.all few8k) rfl ?_ ?_ ?_
 ·exact ⟨by simp only [go_sem,seval];rfl,rfl⟩
 ·rintro hp ⟨h1,hI⟩
  have h0:=h1
  simp only [kcell] at h1
  simp only [cf8L0,cf8M0,h1,go_sem,seval]
  refine XX_listU k.values.es (fun d e=>setD e (some 4) (.int .i64 d.length)) (fun d r hp=>hp.get 1=some (0,.blk (kcell k k.list.es k.values.es) 6 true true false)∧k.values.es.all few27=r.all few27) rfl ?_ ?_ ?_
  ·exact ⟨h0,rfl⟩
  ·rintro hp ⟨h1,hI2⟩
   simp only [kcell] at h1
   repeat' (first | simp only [cf8L1,cf8M1,h1, *,go_sem,seval] | refine XG_split (fun _=>?_) (fun _=>?_) | refine XC_split (fun _=>?_) (fun _=>?_) | refine And.intro (by kernel_rfl) ?_)
   all_goals (clear h1 h25 h26 h27 hb hv hf)
   all_goals (rw [few8,hI,hI2])
   all_goals (simp_all)
   all_goals (try (intros;omega))
  ·rintro d x r hp hes ⟨h1,hI2⟩
   have hx:=h27 x
   rw [Typ.avc] at hx
   have hI3:=hI2
   rw [hes] at hv hI2 h1
   have h0:=h1
   simp only [kcell] at h1
   rw [hes]
   simp only [cf8L1,cf8M1,h1,go_sem,seval]
   refine XO_tree (hx) (by simp only [go_sem,seval]) rfl ?_
   cases hd:few27 x
   ·simp only [go_sem,seval]
    rw [few8,hI,hI3,List.all_cons,hd]
    simp
   ·simp only [wr_mid hv,go_sem,seval]
    exact ⟨h0,by rw [hI2,List.all_cons,hd];rfl⟩
 ·rintro d x r hp hes ⟨h1,hI⟩
  obtain ⟨x1,x2⟩:=hk x (by rw [hes];simp)
  have a1:=h25 x.body x1
  have a2:=h25 x.index x2
  have a3:=c26 h26 x.fn.nl x.fn.cl x.fn.es x.fn.ok
  rw [Pull.avc] at a1 a2
  have hI3:=hI
  rw [hes] at hb hI h1
  have h0:=h1
  simp only [kcell] at h1
  have hf8:few8 k=(few8k x&&(r.all few8k&&(k.values.es.all few27&&(decide ((k.list.es.length:Int)≤16)&&decide ((k.values.es.length:Int)≤20)&&decide ((k.vars.es.length:Int)≤13)&&decide ((k.wher.es.length:Int)≤12)&&decide ((k.results.es.length:Int)≤10))))):=by
   rw [few8,hI3,List.all_cons,Bool.and_assoc]
  rw [hes]
  have hw:=wr_mid hb
  rw [List.all_cons] at hI
  have hq:few8k x=(few25 x.body&&few25 x.index && !decide (8 < (x.space.es.length:Int))&&few26 x.fn.es):=rfl
  rw [hq] at hf8 hI
  clear hq hI3 hes
  clear h25 h27 hk
  repeat' (first | simp only [cf8L0,cf8M0,hw, *,go_sem,seval] | refine XG_split (fun _=>?_) (fun _=>?_) | refine XC_split (fun _=>?_) (fun _=>?_) | (refine XO_tree a1 (by simp only [go_sem,seval]) rfl ?_) | (refine XO_tree a2 (by simp only [go_sem,seval]) rfl ?_) | (refine XO_tree a3 (by simp only [go_sem,seval]) rfl ?_) | refine And.intro (by kernel_rfl) ?_)
  all_goals (first | (simp_all;done) | skip)
end
end Go.Tev
end
section
namespace Go.Tev
def readsK (q:Kernel):List Int:=readsV q.body++if decide (q.kind=3) then readsV q.index++[q.source] else []
theorem readsV_len (p:Pull):(readsV p).length≤p.sz:=by
 have e1:=compI_len (sortI (readsU p))
 have e2:=sortI_len (readsU p)
 have e3:=readsU_len p
 simp only [readsV]
 omega
section
variable {pg:Pg} {kb:Nat}
theorem XO_ownE {esz bytes s k1:Nat} {ag:Bool} {h:Hp} {v:AV} {es xs:List AV} {nl cl:Bool} {Q:AV→Eff→Prop} {t:Tok Q} (o:Own h k1 esz ag v es) (hk1:k1 ≠ kb+s) (he:∀ x∈es,El esz ag x) (hx:∀ x∈xs,El esz ag x)
  (hl:es.length+xs.length≤1073741824) (hb:bytes≤65536)
  (q1:xs=[]→∀ rd,(rd=[]∨rd=[k1])→Q v (.pat rd []))
  (q2:xs ≠ []→∀ v' rd pa,Own (Eff.app h (.pat rd pa)) (kb+s) esz ag v' (es++xs)→(∀ k,k ≠ kb+s→k ≠ k1→(Eff.app h (.pat rd pa)).get k=h.get k) →
   ((∃ e ob,rd=[kb+s]∧pa=[⟨kb+s,e,ob⟩])∨(∃ e1 o1 e ob,rd=[kb+s,k1]∧pa=[⟨k1,e1,o1⟩,⟨kb+s,e,ob⟩]))→Q v' (.pat rd pa)) :
  XO pg kb (.app esz ag bytes) s h [v,.sl nl xs cl] Q t:=by
 rw [XO_app]
 obtain ⟨ds,d1,d2,d3,_⟩:=chunk_el hx
 simp only [f_app,srcCells,d1,Option.map_some]
 by_cases hxs:xs=[]
 ·subst hxs
  cases d1
  rcases o with ⟨rfl,nl',cl',rfl,hc⟩ | ⟨e,cs,rfl,hg,hu⟩
  ·simp only [appA,List.length_nil,if_true]
   exact q1 rfl _ (.inl rfl)
  ·obtain ⟨cs',c1,c2,_,_⟩:=chunk_el he
   rw [hu] at c1;cases c1
   simp only [appA,hg,List.length_nil,if_true,true_and,Nat.zero_add]
   rw [if_pos (by omega)]
   exact q1 rfl _ (.inr rfl)
 ·have hn:xs.length ≠ 0:=by simpa using hxs
  rcases o with ⟨rfl,nl',cl',rfl,hc⟩ | ⟨e,cs,rfl,hg,hu⟩
  ·simp only [appA,hn,if_false,hc,List.length_nil,Nat.zero_add,Bool.true_and]
   have hlx:xs.length≤1073741824:=by simpa using hl
   simp only [hlx,hb,decide_true,Bool.and_self,if_true,unchunk,List.nil_append]
   refine q2 hxs _ _ _ (.inr ⟨_,ds,rfl,?_,by simpa using d1⟩) ?_ (.inl ⟨_,_,rfl,rfl⟩)
   ·rw [app_one,get_put,if_pos rfl]
   ·intro k hk _
    rw [app_one,get_put,if_neg (Ne.symm hk)]
  ·obtain ⟨cs',c1,c2,_,_⟩:=chunk_el he
   rw [hu] at c1;cases c1
   have h1:¬ (es.length+xs.length≤es.length):=by omega
   have h2:(k1 == kb+s)=false:=by simpa using hk1
   simp only [appA,hg,hn,if_false,true_and,Nat.zero_add]
   rw [if_pos (by omega)]
   simp only [h1,if_false,hl,hb,decide_true,Bool.true_and,h2,Bool.not_false,if_true,Bool.false_eq_true]
   refine q2 hxs _ _ _ (.inr ⟨h.next (kb+s),cs++ds,by simp,?_,unchunk_append hu d1⟩) ?_ (.inr ⟨_,_,_,_,rfl,rfl⟩)
   ·rw [app_two,get_put,if_pos rfl]
    simp [← c2]
   ·intro k hk hk2
    rw [app_two,get_put,if_neg (Ne.symm hk),get_put,if_neg (Ne.symm hk2)]
end
section
variable {pg:Pg}
theorem c30 (S:BaseS pg) (hf:pg.fs 30=some cf30) (h48:pg.fs 48=some cf48) (h74:pg.fs 74=some cf74) (q:Kernel) (h1:q.body.ok) (h2:q.index.ok) (hsz:q.body.sz+q.index.sz+1≤big) :
  RetP pg 30 [q.av] (IsSl 1 false ((readsK q).map intA)):=by
 have a1:=c48 S h48 h74 q.body h1 (by omega)
 have a2:=c48 S h48 h74 q.index h2 (by omega)
 rw [Pull.avc] at a1 a2
 have l1:=readsV_len q.body
 have l2:=readsV_len q.index
 simp only [big] at hsz
 refine RetP.ofX hf ?_
 unfold cf30
 simp only [go_sem,seval]
 refine XO_slO a1 (by simp only [go_sem,seval]) (El.ints _) ?_
 intro v rd pa ho hk _
 have k1:=hk 1 (by omega)
 simp only [go_sem,seval] at k1
 simp only [k1,go_sem,seval]
 cases h3:decide (q.kind=3)
 ·simp only [go_sem,seval]
  have hr:readsK q=readsV q.body:=by simp [readsK,h3]
  rw [hr]
  exact ho.conv (El.ints _)
 ·simp only [k1,go_sem,seval]
  refine XO_sl a2 (by simp only [go_sem,seval]) ?_
  intro nl2 cl2 _
  simp only [go_sem,seval]
  have hr:readsK q=readsV q.body++(readsV q.index++[q.source]):=by simp [readsK,h3]
  rw [hr]
  have fin:∀ (v2:AV) (kk:Nat) (H:Hp) (es:List Int),Own H kk 1 false v2 (es.map intA)→es=readsV q.body++(readsV q.index++[q.source])→∃ r,Tev.conv H v2=some r∧IsSl 1 false ((readsV q.body++(readsV q.index++[q.source])).map intA) r:=by
   rintro v2 kk H es o rfl
   exact o.conv (El.ints _)
  generalize hH:Eff.app _ (Eff.pat rd pa)=H at ho k1 ⊢
  clear hH hk hr a1 a2
  refine XO_ownE (kb:=0) (s:=13) (k1:=5) ho (by omega) (El.ints _) (El.ints _) (by simp only [List.length_map];omega) (by decide) ?_ ?_
  ·intro hx rd1 hrd1
   have hx':readsV q.index=[]:=by simpa using hx
   have k2:=k1
   simp only [k1,go_sem,seval]
   refine XO_ownE (kb:=0) (s:=17) (k1:=5) ho (by omega) (El.ints _) (xs:=[.int .i64 q.source]) (by intro y hy;simp at hy;subst hy;exact ⟨rfl,rfl,rfl⟩) (by simp only [List.length_map,List.length_singleton];omega) (by decide) (by intro h;cases h) ?_
   intro _ v2 rd2 pa2 ho2 hk2 hform
   have ho3:=fin _ 17 _ (readsV q.body++[q.source]) (by simpa [intA_eq] using ho2) (by rw [hx'];simp)
   clear ho2 hk2 k2 k1 ho
   rcases hrd1 with rfl | rfl<;>rcases hform with ⟨e,ob,rfl,rfl⟩ | ⟨e1,o1,e,ob,rfl,rfl⟩
   all_goals (simp only [go_sem,seval])
   all_goals (refine And.intro (by kernel_rfl) ?_)
   all_goals (exact ho3)
  ·intro hx v1 rd1 pa1 ho1 hk1 hform1
   have k2:=hk1 1 (by omega) (by omega)
   rw [k1] at k2
   simp only [k2,go_sem,seval]
   refine XO_ownE (kb:=0) (s:=17) (k1:=13) ho1 (by omega) (by rw [← List.map_append];exact El.ints _) (xs:=[.int .i64 q.source]) (by intro y hy;simp at hy;subst hy;exact ⟨rfl,rfl,rfl⟩) (by simp only [List.length_map,List.length_append,List.length_singleton];omega) (by decide) (by intro h;cases h) ?_
   intro _ v2 rd2 pa2 ho2 hk2 hform
   have ho3:=fin _ 17 _ (readsV q.body++readsV q.index++[q.source]) (by simpa [intA_eq] using ho2) (by simp)
   clear ho2 hk2 ho1 hk1 k2 k1
   rcases hform1 with ⟨e',ob',rfl,rfl⟩ | ⟨e1',o1',e',ob',rfl,rfl⟩<;>rcases hform with ⟨e,ob,rfl,rfl⟩ | ⟨e1,o1,e,ob,rfl,rfl⟩
   all_goals (simp only [go_sem,seval])
   all_goals (refine And.intro (by kernel_rfl) ?_)
   all_goals (exact ho3)
end
end Go.Tev
end
section
namespace Go.Tev
abbrev Sp:=Int × Int
def spAV (s:Sp):AV:=.agg [.int .i64 s.1,.int .i64 s.2]
def spCells:List Sp→List AV
 | []=>[]
 | s :: r => .int .i64 s.1 :: .int .i64 s.2 :: spCells r
theorem spCells_len:∀ l,(spCells l).length=l.length*2
 | []=>rfl
 | s :: r=>by simp only [spCells,List.length_cons,spCells_len r];omega
theorem spCells_un:∀ l,unchunk 2 true (l.map spAV)=some (spCells l)
 | []=>rfl
 | s :: r=>by
  simp [spAV,unchunk,spCells_un r,AV.fits,spCells,AV.cells]
  rfl
theorem spAV_el (l:List Sp):∀ x∈l.map spAV,El 2 true x:=by
 intro x hx
 obtain ⟨b,_,rfl⟩:=List.mem_map.1 hx
 exact ⟨rfl,rfl,rfl⟩
theorem spCells_0:∀ (l:List Sp) (v:Nat) (s:Sp),l[v]?=some s→(spCells l)[v*2]?=some (.int .i64 s.1)∧(spCells l)[v*2+1]?=some (.int .i64 s.2)
 | [],v,s,h=>by simp at h
 | t :: r,0,s,h=>by simp at h;subst h;exact ⟨rfl,rfl⟩
 | t :: r,v+1,s,h=>by
  have:=spCells_0 r v s (by simpa using h)
  rw [show (v+1)*2=v*2+1+1 from by omega]
  simpa [spCells] using this
theorem spCells_set:∀ (l:List Sp) (v:Nat) (a b:Int),((spCells l).set (v*2) (.int .i64 a)).set (v*2+1) (.int .i64 b)=spCells (l.set v (a,b))
 | [],v,a,b=>by simp [spCells]
 | t :: r,0,a,b=>rfl
 | t :: r,v+1,a,b=>by
  rw [show (v+1)*2=v*2+1+1 from by omega]
  simp only [spCells,List.set_cons_succ]
  rw [spCells_set r v a b]
theorem spCells_fst:∀ (l:List Sp) (v:Nat) (a:Int),(spCells l).set (v*2) (.int .i64 a)=spCells (l.modify v (fun s=>(a,s.2)))
 | [],v,a=>by simp [spCells]
 | t :: r,0,a=>rfl
 | t :: r,v+1,a=>by
  rw [show (v+1)*2=v*2+1+1 from by omega]
  simp only [spCells,List.set_cons_succ,List.modify_succ_cons]
  rw [spCells_fst r v a]
theorem spCells_snd:∀ (l:List Sp) (v:Nat) (a:Int),(spCells l).set (v*2+1) (.int .i64 a)=spCells (l.modify v (fun s=>(s.1,a)))
 | [],v,a=>by simp [spCells]
 | t :: r,0,a=>rfl
 | t :: r,v+1,a=>by
  rw [show (v+1)*2=v*2+1+1 from by omega]
  simp only [spCells,List.set_cons_succ,List.modify_succ_cons]
  rw [spCells_snd r v a]
theorem snap_sp {h:Hp} {e:Nat} {sp:List Sp} (hg:h.get 9=some (e,.blk (spCells sp) 2 true false false)) (d:Nat):Tev.snap (d+2) h (.rf 9 e 0 sp.length sp.length)=some (.sl false (sp.map spAV) false,[9]):=by
 obtain ⟨cs',h1,h2,h3,h4⟩:=chunk_el (spAV_el sp)
 rw [spCells_un] at h1
 cases h1
 have h5:=h4 []
 rw [List.append_nil,List.length_map] at h5
 have ht:treeL (sp.map spAV)=true:=treeL_map (f:=spAV) (fun s=>by simp [spAV,go_sem]) sp
 have h6:mapS (Tev.snap (d+1) h) (sp.map spAV)=some (sp.map spAV,[]):=mapS_tree d h ht
 rw [snapX]
 simp [hg,h5,h6,AV.tree]
def setTo (sp:List Sp) (v:Int) (x:Int):List Sp:=sp.modify v.toNat (fun s=>(s.1,x))
def setFrom (sp:List Sp) (v:Int) (x:Int):List Sp:=sp.modify v.toNat (fun s=>(x,s.2))
def fromOf (sp:List Sp) (v:Int):Int:=match sp[v.toNat]? with | some s=>s.1 | none=>0
def spInit (V i:Nat):List Sp:=List.replicate i (-1,-1)++List.replicate (V - i) (-2,-2)
def spReads (sp:List Sp) (i:Nat) (l:List Int):List Sp:=l.foldl (fun s v=>setTo s v i) sp
def spStep (sp:List Sp) (i:Nat) (q:Kernel):List Sp:=
 spReads (setTo (if decide (fromOf sp q.value = -2) then setFrom sp q.value i else sp) q.value i) i (readsK q)
def spRun:List Sp→Nat→List Kernel→List Sp
 | sp,_,[]=>sp
 | sp,i,q :: r=>spRun (spStep sp i q) (i+1) r
def spRes (sp:List Sp) (n:Nat) (l:List Int):List Sp:=l.foldl (fun s v=>setTo s v n) sp
def spansK (k:Kernels):List Sp:=spRes (spRun (spInit k.values.es.length k.inputs.toNat) 0 k.list.es) k.list.es.length k.results.es
theorem setTo_len (sp:List Sp) (v x:Int):(setTo sp v x).length=sp.length:=by simp [setTo]
theorem setFrom_len (sp:List Sp) (v x:Int):(setFrom sp v x).length=sp.length:=by simp [setFrom]
theorem spReads_len (i:Nat):∀ (l:List Int) (sp:List Sp),(spReads sp i l).length=sp.length
 | [],sp=>rfl
 | v :: r,sp=>by simp only [spReads,List.foldl_cons];exact (spReads_len i r _).trans (setTo_len _ _ _)
theorem spReads_snoc (sp:List Sp) (i:Nat) (d:List Int) (x:Int):spReads sp i (d++[x])=setTo (spReads sp i d) x i:=by simp [spReads]
theorem spStep_len (sp:List Sp) (i:Nat) (q:Kernel):(spStep sp i q).length=sp.length:=by
 simp only [spStep,spReads_len,setTo_len];split<;>simp [setFrom_len]
theorem spRun_len:∀ (l:List Kernel) (sp:List Sp) (i:Nat),(spRun sp i l).length=sp.length
 | [],sp,i=>rfl
 | q :: r,sp,i=>by rw [spRun,spRun_len r,spStep_len]
theorem spRun_snoc:∀ (d:List Kernel) (sp:List Sp) (i:Nat) (q:Kernel),spRun sp i (d++[q])=spStep (spRun sp i d) (i+d.length) q
 | [],sp,i,q=>rfl
 | x :: r,sp,i,q=>by
  simp only [List.cons_append,spRun,spRun_snoc r,List.length_cons]
  congr 1;omega
theorem spInit_len {V i:Nat} (h:i≤V):(spInit V i).length=V:=by simp [spInit];omega
theorem spInit_set {V i:Nat} (h:i < V):(spInit V i).set i (-1,-1)=spInit V (i+1):=by
 obtain ⟨m,rfl⟩:∃ m,V=i+(m+1):=⟨V - i - 1,by omega⟩
 simp only [spInit]
 rw [List.set_append_right _ _ (by simp)]
 have e1:i+(m+1) - i=m+1:=by omega
 have e2:i+(m+1) - (i+1)=m:=by omega
 rw [e1,e2,List.replicate_succ (n:=m),List.replicate_succ' (n:=i)]
 simp
theorem readsOK_mem {k:Kernels} {th:List Bool} {p:Pull} {n:Nat} {nt:Int} (h:readsOK k th p n nt=true):∀ a∈readsV p,0≤a∧a < k.values.es.length∧thereB th a=true∧a ≠ nt:=by
 intro a ha
 simp only [readsOK,pullOK,Bool.and_eq_true,Bool.not_eq_true'] at h
 have h2:=h.2
 rw [List.any_eq_false] at h2
 have h3:=h2 a ha
 simp only [Bool.or_eq_true,Bool.not_eq_true',decide_eq_true_eq,not_or,Bool.not_eq_false] at h3
 have ha':=ha
 simp only [readsV,mem_compI,mem_sortI] at ha'
 obtain ⟨h4,h5⟩:=valid_reads _ p _ h.1.2 a ha'
 exact ⟨h4,h5,h3.1,h3.2⟩
theorem kernelOK_reads {k:Kernels} {th:List Bool} {q:Kernel} {i:Nat} (h:kernelOK k th q i=true):∀ a∈readsK q,0≤a∧a < k.values.es.length∧thereB th a=true:=by
 intro a ha
 simp only [kernelOK,Bool.and_eq_true] at h
 obtain ⟨_,h⟩:=h
 split at h
 ·cases h
 rename_i t ht
 simp only [Bool.and_eq_true,Bool.not_eq_true'] at h
 obtain ⟨⟨⟨⟨_,_⟩,h3⟩,_⟩,h5⟩:=h
 simp only [readsK,List.mem_append] at ha
 simp only [kBody] at h5
 split at h5
 ·rename_i h6
  simp only [Bool.and_eq_true] at h5
  have h7:decide (q.kind=3)=false:=by simp at h6 ⊢;omega
  rw [h7] at ha
  rcases ha with ha | ha
  ·obtain ⟨x1,x2,x3,_⟩:=readsOK_mem h5.2 a ha;exact ⟨x1,x2,x3⟩
  ·simp at ha
 split at h5
 ·rename_i h6
  simp only [Bool.and_eq_true] at h5
  have h7:decide (q.kind=3)=false:=by simp at h6 ⊢;omega
  rw [h7] at ha
  rcases ha with ha | ha
  ·obtain ⟨x1,x2,x3,_⟩:=readsOK_mem h5.2 a ha;exact ⟨x1,x2,x3⟩
  ·simp at ha
 split at h5
 ·rename_i h6
  simp only [Bool.and_eq_true] at h5
  rw [if_pos h6] at h3 ha
  rcases ha with ha | ha
  ·obtain ⟨x1,x2,x3,_⟩:=readsOK_mem h5.1 a ha;exact ⟨x1,x2,x3⟩
  ·rw [List.mem_append] at ha
   rcases ha with ha | ha
   ·obtain ⟨x1,x2,x3,_⟩:=readsOK_mem h5.2 a ha;exact ⟨x1,x2,x3⟩
   ·simp only [List.mem_singleton] at ha
    subst ha
    simp only [kScan,Bool.or_eq_false_iff,decide_eq_false_iff_not,Bool.not_eq_false'] at h3
    exact ⟨by omega,by omega,h3.1.2⟩
 ·cases h5
theorem runK_none {k:Kernels}:∀ (l:List Kernel) (th:List Bool) (i:Nat),runK k th l i=none→∀ d q r,l=d++q :: r→kernelOK k (thereOf th d) q (i+d.length)=true
 | [],th,i,_,d,q,r,he=>by cases d<;>simp at he
 | x :: l,th,i,h,d,q,r,he=>by
  simp only [runK] at h
  split at h
  ·rename_i hx
   cases d with
   | nil=>simp at he;obtain ⟨rfl,rfl⟩:=he;exact hx
   | cons y d=>
    simp at he
    obtain ⟨rfl,rfl⟩:=he
    have:=runK_none _ _ _ h d q r rfl
    rw [List.length_cons,show i+(d.length+1)=i+1+d.length from by omega]
    exact this
  ·cases h
structure FuseOK (k:Kernels):Prop where
 out:outsideOK k=true
 ker:∀ d q r,k.list.es=d++q :: r→kernelOK k (thereOf (inpT k) d) q d.length=true
 res:∀ v∈k.results.es,0≤v∧v < k.values.es.length∧thereB (thereOf (inpT k) k.list.es) v=true
 one:0 < k.results.es.length
theorem fuseOK_of {k:Kernels} (h:(fuseV k).2=0):FuseOK k:=by
 simp only [fuseV] at h
 split at h
 ·rename_i ho
  split at h
  ·simp at h
  ·rename_i hr
   split at h
   ·simp at h
   ·rename_i hb
    simp only [resultsBad,Bool.or_eq_true,not_or,Bool.not_eq_true,decide_eq_true_eq,decide_eq_false_iff_not,List.any_eq_false] at hb
    obtain ⟨⟨h1,h2⟩,h3⟩:=hb
    refine ⟨ho,fun d q r he=>by simpa using runK_none _ _ _ hr d q r he,fun v hv=>?_,by omega⟩
    have h4:=h3 v hv
    simp only [resBad,Bool.or_eq_false_iff,decide_eq_false_iff_not,Bool.not_eq_false',not_or,Bool.not_eq_true,Bool.or_eq_true,decide_eq_true_eq] at h4
    obtain ⟨⟨x1,x2⟩,x3⟩:=h4
    exact ⟨by omega,by omega,by simpa using x3⟩
 ·simp at h
theorem fuse_code {k:Kernels}:(fuseV k).2=0∨(fuseV k).2=22:=by
 simp only [fuseV]
 split
 ·split
  ·exact .inr rfl
  ·split
   ·exact .inr rfl
   ·exact .inl rfl
 ·exact .inr rfl
end Go.Tev
end
