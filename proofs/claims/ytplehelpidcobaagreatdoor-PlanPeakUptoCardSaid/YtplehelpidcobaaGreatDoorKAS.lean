import Derived.Test.YtplehelpidcobaaGreatDoorKAR
import Derived.Test.YtplehelpidcobaaGreatDoorKAH
import Derived.Test.YtplehelpidcobaaGreatDoorKAM
set_option linter.all false
section
namespace Go.Tev
def eQ (k:aA):List Bool:=List.replicate k.inputs.toNat true++List.replicate (k.values.es.length - k.inputs.toNat) false
def LV (th:List Bool) (q:aD):List Bool:=th.set q.value.toNat true
def bC (th:List Bool) (d:List aD):List Bool:=d.foldl LV th
def lL (k:aA):List Bool->List aD->Nat->Option Nat
 | _,[],_=>none
 | th,q :: r,i=>if bI k th q i then lL k (LV th q) r (i+1) else some i
def cL (k:aA) (th:List Bool) (v:Int):Bool:=decide (v < 0)||decide ((k.values.es.length:Int)<=v) || !aY th v
def dA (k:aA) (th:List Bool):Bool:=
 decide ((k.results.es.length:Int) < 1)||decide (8 < (k.results.es.length:Int))||k.results.es.any (cL k th)
def cR (k:aA):Int × Int:=
 if aX k then
  (match lL k (eQ k) k.list.es 0 with
  | some i=>(i,22)
  | none=>if dA k (bC (eQ k) k.list.es) then (k.list.es.length,22) else (k.list.es.length,0))
 else (-1,22)
def j9 (V i:Nat):List Bool:=List.replicate i true++List.replicate (V - i) false
theorem rO {V i:Nat} (h:i<=V):(j9 V i).length=V:=by simp [j9];omega
theorem BQ {V i:Nat} (h:i < V):(j9 V i).set i true=j9 V (i+1):=by
 obtain ⟨m,rfl⟩:∃ m,V=i+(m+1):=⟨V - i - 1,by omega⟩
 simp only [j9]
 rw [List.set_append_right _ _ (by simp)]
 have e1:i+(m+1) - i=m+1:=by omega
 have e2:i+(m+1) - (i+1)=m:=by omega
 rw [e1,e2,List.replicate_succ (n:=m),List.replicate_succ' (n:=i)]
 simp
theorem LU (th:List Bool) (q:aD):(LV th q).length=th.length:=by simp [LV]
theorem cF (th:List Bool) (d:List aD):(bC th d).length=th.length:=by
 induction d generalizing th with
 | nil=>rfl
 | cons x r ih=>simp only [bC,List.foldl_cons] at *;rw [ih,LU]
theorem lW (th:List Bool) (d:List aD) (x:aD):bC th (d++[x])=LV (bC th d) x:=by simp [bC]
theorem eG (l:List Bool) (i:Nat) (b:Bool):(l.map AV.bool).set i (.bool b)=(l.set i b).map AV.bool:=by rw [List.map_set]
theorem nM {l:List AV} {n:Nat} (x:AV) (h:n < l.length):List.take (0+n*1) l++[x]++List.drop (0+n*1+1) l=l.set n x:=by
 rw [List.set_eq_take_append_cons_drop,if_pos h]
 simp
theorem u0 {h:Hp} {d:Nat} {a b b':AV} {keys:List Nat} (hb:Tev.snap (d+1) h b=some (b',keys)) (ha:a.tree=true):cD (Tev.snap (d+1) h) [b,a]=some ([b',a],keys):=by
 rw [bB,hb,bB,eD,if_pos ha,bX]
 simp
theorem dJ {k:aA} {th:List Bool} {q:aD} {i:Nat} (h:bI k th q i=true):k.inputs<=q.value/\q.value < k.values.es.length/\0<=q.check:=by
 simp only [bI,sS,Bool.and_eq_true,Bool.not_eq_true',Bool.or_eq_false_iff,decide_eq_false_iff_not] at h
 omega
theorem xJ {t:Typ} {vars:List Str} (h:eW t vars=true):t.shape.dims.es.length<=6:=by
 simp only [eW,pR,kX,Bool.and_eq_true,decide_eq_true_eq] at h
 have:=h.1.1.1.2.1.2
 omega
section
variable {pg:Pg}
theorem c46 (hf:pg.fs 46=some cf46) (k:aA) (nl cl:Bool) (there:List Bool) (hth:there.length=k.values.es.length) (m v:Int) :
  Ret pg 46 [.int .i64 v,.fp (.agg k.cells),.fp (.fp (.agg (fF k nl cl there m)))] (.bool (cL k there v)):=by
 have h0:decide (v < 0)=false->(0<=v)=True:=fun h=>eq_true (by simpa using h)
 obtain ⟨b,hb⟩:∃ b,decide (v < 0)=false->decide ((k.values.es.length:Int)<=v)=false->there[v.toNat]?=some b:=by
  by_cases hh:v.toNat < there.length
  ·exact ⟨_,fun _ _=>List.getElem?_eq_getElem hh⟩
  ·exact ⟨true,fun x y=>by simp at x y;omega⟩
 have hb':decide (v < 0)=false->decide ((k.values.es.length:Int)<=v)=false->aY there v=b:=fun x y=>by simp [aY,hb x y]
 refine Ret.ofX hf ?_
 unfold cf46
 repeat' (first | simp only [fF,aA.cells, *,go_sem,seval] | refine aM (fun _=>?_) (fun _=>?_) | refine aN (fun _=>?_) (fun _=>?_) | refine And.intro (by kernel_rfl) ?_)
 all_goals (simp_all [cL])
 all_goals (intro h;omega)
def FQ (k:aA):List AV:=
 [.sl k.vars.nl (k.vars.es.map Str.av) k.vars.cl,.sl k.wher.nl (k.wher.es.map Lin.av) k.wher.cl,.int .i64 k.inputs,.sl k.values.nl (k.values.es.map Typ.av) k.values.cl,.sl k.list.nl (k.list.es.map aD.av) k.list.cl,.sl k.results.nl (k.results.es.map aH) k.results.cl,
  .rf 9 0 0 k.values.es.length k.values.es.length,.int .i64 0]
theorem GH {h:Hp} {th:List Bool} {V:Nat} (hth:th.length=V) (g9:h.get 9=some (0,.blk (th.map AV.bool) 1 false true false)) (d:Nat):Tev.snap (d+2) h (.rf 9 0 0 V V)=some (.sl false (th.map AV.bool) true,[9]):=by
 obtain ⟨cs',h1,h2,h3,h4⟩:=cH (El.bools th)
 have h5:=h4 []
 rw [List.append_nil] at h5
 have h6:cD (Tev.snap (d+1) h) (th.map AV.bool)=some (th.map AV.bool,[]):=dY d h (lC th)
 rw [eD]
 simp only [List.length_map] at h2 h5
 subst hth
 have h7:cs'=th.map AV.bool:=by
  rw [cN] at h1
  exact (Option.some.inj h1).symm
 subst h7
 simp [g9,h5,h6,AV.tree]
theorem DZ {h:Hp} {k:aA} {th:List Bool} (hth:th.length=k.values.es.length) (g13:h.get 13=some (0,.blk (FQ k) 8 true true false)) (g9:h.get 9=some (0,.blk (th.map AV.bool) 1 false true false)) (d:Nat) :
  Tev.snap (d+3) h (.pt 13 0 0)=some (.fp (.agg (fF k false true th 0)),[13,9]):=by
 have h7:=GH hth g9 d
 simp only [FQ] at g13
 rw [eD]
 simp only [g13,bX,bB,↓h7,eD,go_sem,Nat.reduceAdd,↓reduceIte]
 rfl
theorem c28 (hf:pg.fs 28=some cf28) (h43:∀ k:aA,Ret pg 43 [k.av] (.bool (aX k)))
  (h44:∀ (k:aA),(k.vars.nl=true->k.vars.es=[])->0<=k.inputs->(∀ t∈k.values.es,t.shape.dims.es.length<=6)->∀ (nl cl:Bool) (there:List Bool),there.length=k.values.es.length->∀ (m:Int) (i:Nat) (q:aD),k.list.es[i]?=some q ->
   q.body.ok->q.index.ok->k.vars.es.length+9+q.body.sz<=big->k.vars.es.length+9+q.index.sz<=big ->
   Ret pg 44 [.fp (.agg (fF k nl cl there m)),.int .i64 i] (.bool (bI k there q i)))
  (h45:pg.fs 45=some cf45) (h46:pg.fs 46=some cf46) (h71:pg.fs 71=some cf71)
  (k:aA) (hnl:k.vars.nl=true->k.vars.es=[]) (hq:∀ q∈k.list.es,q.body.ok/\q.index.ok/\k.vars.es.length+9+q.body.sz<=big/\k.vars.es.length+9+q.index.sz<=big) :
  Ret pg 28 [k.av] (.tup [.int .i64 (cR k).1,.int .i64 (cR k).2]):=by
 have a1:=h43 k
 refine Ret.ofX hf ?_
 unfold cf28
 simp only [aA.av,aA.cells,go_sem,seval]
 refine aB a1 (by simp only [aA.av,aA.cells,go_sem,seval]) rfl ?_
 cases ho:aX k
 ·simp only [go_sem,seval]
  simp only [cR,ho];rfl
 have hV:((k.values.es.length:Int)<=1073741824)=True:=eq_true (by have:=k.values.ok;simp only [big] at this;omega)
 have hfl:(List.replicate k.values.es.length [AV.bool false]).flatten=(List.replicate k.values.es.length false).map AV.bool:=by
  rw [List.map_replicate]
  induction k.values.es.length with
  | zero=>rfl
  | succ n ih=>rw [List.replicate_succ,List.flatten_cons,ih,List.replicate_succ];rfl
 simp only [hV,hfl,go_sem,seval]
 refine And.intro (by kernel_rfl) ?_
 have hso:=ho
 simp only [aX,Bool.and_eq_true,decide_eq_true_eq] at hso
 obtain ⟨_,⟨⟨⟨⟨⟨⟨_,_⟩,hi0⟩,_⟩,hiV⟩,_⟩,_⟩,hty⟩:=hso
 have hvals:∀ t∈k.values.es,t.shape.dims.es.length<=6:=fun t ht=>xJ (by rw [List.all_eq_true] at hty;exact hty t ht)
 obtain ⟨ins,hins⟩:∃ n:Nat,k.inputs=n:=⟨k.inputs.toNat,by omega⟩
 have hinV:ins<=k.values.es.length:=by omega
 have hVb:=k.values.ok
 have hf0:j9 k.values.es.length 0=List.replicate k.values.es.length false:=by simp [j9]
 refine aI (List.range ins) (fun d r env hp=>env=cf28E0 (.pt 1 0 0) (.pt 17 0 0) (.int .i64 k.inputs) (.int .i64 d.length) /\
  hp.get 1=some (0,.blk k.cells 6 true true false)/\hp.get 13=some (0,.blk (FQ k) 8 true true false)/\hp.get 17=some (0,.blk [.pt 13 0 0] 1 false true false)/\hp.get 9=some (0,.blk ((j9 k.values.es.length d.length).map AV.bool) 1 false true false)) ?_ ?_ ?_
 ·refine ⟨rfl,?_,?_,?_,?_⟩
  ·simp only [go_sem,seval]
   rfl
  ·simp only [go_sem,seval]
   rfl
  ·simp only [go_sem,seval]
  ·rw [show ([]:List Nat).length=0 from rfl,hf0]
   simp only [go_sem,seval]
 ·rintro env hp ⟨rfl,g1,g13,g17,g9⟩
  have hr:(List.range ins).length=ins:=List.length_range
  rw [hr] at g9 ⊢
  have e1:decide ((ins:Int) < k.inputs)=false:=by simp;omega
  have hth0:j9 k.values.es.length ins=eQ k:=by simp [j9,eQ,hins]
  rw [hth0] at g9
  have hthl:(eQ k).length=k.values.es.length:=by rw [<- hth0,rO hinV]
  simp only [aA.cells,Sl.av,FQ] at g1 g13
  simp only [cf28L0,cf28E0,e1,g1,go_sem,seval]
  have hrun:lL k (eQ k) k.list.es 0=lL k (bC (eQ k) []) k.list.es ([]:List aD).length:=rfl
  clear hr hth0 hf0 hV hfl e1
  have hH:∃ H:Hp,H=hp:=⟨_,rfl⟩
  refine aI k.list.es (fun d r env hp=>env=cf28E1 (.pt 1 0 0) (.pt 17 0 0) (.sl k.list.nl (k.list.es.map aD.av) k.list.cl) (.int .i64 k.list.es.length) (.int .i64 d.length) /\
   lL k (eQ k) k.list.es 0=lL k (bC (eQ k) d) r d.length /\
   hp.get 1=some (0,.blk k.cells 6 true true false)/\hp.get 13=some (0,.blk (FQ k) 8 true true false)/\hp.get 17=some (0,.blk [.pt 13 0 0] 1 false true false)/\hp.get 9=some (0,.blk ((bC (eQ k) d).map AV.bool) 1 false true false)) ?_ ?_ ?_
  ·exact ⟨rfl,hrun,g1,g13,g17,g9⟩
  ·rintro env hp ⟨rfl,hru,g1,g13,g17,g9⟩
   have hthe:(bC (eQ k) k.list.es).length=k.values.es.length:=by rw [cF,hthl]
   have hall:=c45 h45 h71 k.results.nl k.results.cl k.results.es k.results.ok 46 [.fp (.agg k.cells),.fp (.fp (.agg (fF k false true (bC (eQ k) k.list.es) 0)))] (by simp only [treeL,CA,xR,fF,aA.cells];simp only [go_sem,seval])
    (cL k (bC (eQ k) k.list.es)) (fun v _=>c46 h46 k false true (bC (eQ k) k.list.es) hthe 0 v)
   have hsn:Tev.snap 62 hp (.pt 13 0 0)=some (.fp (.agg (fF k false true (bC (eQ k) k.list.es) 0)),[13,9]):=DZ (k:=k) hthe g13 g9 59
   simp only [aA.cells,Sl.av,FQ] at g1 g13
   simp only [cf28L1,cf28E1,g1,go_sem,seval]
   cases r1:decide ((k.results.es.length:Int) < 1)
   case true=>
    simp only [g1,go_sem,seval]
    rw [cR,ho,hru,lL]
    simp [dA,r1]
   cases r2:decide (8 < (k.results.es.length:Int))
   case true=>
    simp only [g1,r2,go_sem,seval]
    rw [cR,ho,hru,lL]
    simp [dA,r2]
   simp only [g1,r2,go_sem,seval]
   refine bR hall (keys:=[1,17,13,9]) ?_ (v:=.bool (k.results.es.any (cL k (bC (eQ k) k.list.es)))) (pa:=[]) rfl ?_
   ·simp only [g1,g17,↓hsn,depth,bX,bB,eD,go_sem,Nat.reduceAdd,↓reduceIte]
    rfl
   cases r3:k.results.es.any (cL k (bC (eQ k) k.list.es))
   case true=>
    simp only [g1,go_sem,seval]
    rw [cR,ho,hru,lL]
    simp [dA,r3]
   case false=>
    simp only [g1,go_sem,seval]
    rw [cR,ho,hru,lL]
    simp [dA,r1,r2,r3]
  ·rintro d q r env hp hes ⟨rfl,hru,g1,g13,g17,g9⟩
   have hmem:q∈k.list.es:=by rw [hes];simp
   obtain ⟨p1,p2,p3,p4⟩:=hq q hmem
   have hget:k.list.es[d.length]?=some q:=by rw [hes];simp
   have hlb:=k.list.ok
   have hb2:(d++q :: r).length<=big:=by rw [<- hes];exact hlb
   have hlt:d.length < k.list.es.length:=by rw [hes];simp
   have e1:decide ((d.length:Int) < (k.list.es.length:Int))=true:=by simp;omega
   have e2:((d.length:Int) < (k.list.es.length:Int))=True:=eq_true (by omega)
   have hkk:=h44 k hnl hi0 hvals false true (bC (eQ k) d) (by rw [cF,hthl]) 0 d.length q hget p1 p2 p3 p4
   have g1':=g1
   have g13':=g13
   simp only [aA.cells,Sl.av,FQ] at g1 g13
   have hsn:∀ H:Hp,H.get 13=hp.get 13->H.get 9=hp.get 9->Tev.snap (61+3) H (.pt 13 0 0)=some (.fp (.agg (fF k false true (bC (eQ k) d) 0)),[13,9]):=
    fun H x y=>DZ (by rw [cF,hthl]) (x.trans g13') (y.trans g9) 61
   simp only [cf28L1,cf28E1,e1,e2,g1,g13,g17,g9,hget,go_sem,seval]
   refine bR hkk (u0 (hsn _ (by simp only [go_sem,seval]) (by simp only [go_sem,seval])) (by simp only [go_sem,seval])) (v:=.bool (bI k (bC (eQ k) d) q d.length)) (pa:=[]) rfl ?_
   cases hkq:bI k (bC (eQ k) d) q d.length
   ·simp only [go_sem,seval]
    rw [cR,ho,hru,lL,hkq]
    rfl
   ·obtain ⟨k1,k2,k3⟩:=dJ hkq
    have k0:(0<=q.value)=True:=eq_true (by omega)
    have k2':(q.value < (k.values.es.length:Int))=True:=eq_true k2
    have k4:(0+q.value.toNat*1+1<=(bC (eQ k) d).length)=True:=eq_true (by rw [cF,hthl];omega)
    have e4:=nM (l:=(bC (eQ k) d).map AV.bool) (n:=q.value.toNat) (.bool true) (by rw [List.length_map,cF,hthl];omega)
    rw [eG] at e4
    simp only [g13,g17,g9,k0,k2',k4,e4,go_sem,seval]
    refine And.intro (by kernel_rfl) ?_
    simp only [aO hb2,go_sem,seval]
    rw [lW]
    refine ⟨rfl,?_,g1',rfl,rfl⟩
    rw [hru,lL,hkq]
    simp
 ·rintro d x r env hp hes ⟨rfl,g1,g13,g17,g9⟩
  obtain ⟨hx,hlt⟩:=iG hes
  have hb2:(d++x :: r).length<=big:=by rw [<- hes];simp;omega
  have e1:decide ((d.length:Int) < k.inputs)=true:=by simp;omega
  have e2:((d.length:Int) < (k.values.es.length:Int))=True:=eq_true (by omega)
  have g1':=g1
  have g13':=g13
  simp only [aA.cells,Sl.av,FQ] at g1 g13
  have hfl2:=rO (V:=k.values.es.length) (i:=d.length) (by omega)
  have e3:(0+d.length*1+1<=(j9 k.values.es.length d.length).length)=True:=eq_true (by omega)
  have e4:=nM (l:=(j9 k.values.es.length d.length).map AV.bool) (n:=d.length) (.bool true) (by simp;omega)
  rw [eG,BQ (by omega)] at e4
  simp only [cf28L0,cf28E0,e1,e2,g1,g13,g17,g9,e3,e4,aO hb2,go_sem,seval]
  rw [List.length_append]
  exact ⟨rfl,rfl,rfl,rfl⟩
end
end Go.Tev
end
section
namespace Go.Tev
theorem wru {n:Nat} (h:n<=big):wr .u64 (n:Int)=n:=by
 simp only [big] at h
 simp only [wr]
 rw [if_pos ⟨by omega,by omega⟩]
theorem OQ {n:Nat} (h:n<=big):bits IntKind.u64 (fun x1 x2=>x1 &&& x2) (n:Int) 4294967295 = .int .u64 n:=by
 simp only [big] at h
 have e2:(BitVec.ofInt 64 (n:Int) &&& BitVec.ofInt 64 4294967295).toNat=n:=by
  rw [BitVec.toNat_and]
  have e3:(BitVec.ofInt 64 4294967295).toNat=2 ^ 32 - 1:=by decide
  have e4:(BitVec.ofInt 64 (n:Int)).toNat=n:=by
   rw [BitVec.toNat_ofInt];omega
  rw [e3,e4,Nat.and_two_pow_sub_one_eq_mod];omega
 show AV.int .u64 (IntKind.u64.wrap ((BitVec.ofInt 64 (n:Int) &&& BitVec.ofInt 64 4294967295).toNat:Int))=_
 rw [e2]
 have:=wru (n:=n) (by simp only [big];omega)
 congr 1
 simp only [IntKind.wrap,IntKind.signed,IntKind.bits,Bool.false_and,Bool.false_eq_true,if_false]
 omega
theorem zG {a b:Int} (h:bits IntKind.u64 (fun x1 x2=>x1 &&& x2) a 4294967295 = .int .u64 b):I8 .and [.int .u64 a,.int .u64 4294967295]=some (.int .u64 b,.pat [] []):=by
 rw [<- h];rfl
def fl2 (n:Nat) (x y:AV):List AV:=(List.replicate n [x,y]).flatten
theorem tX (n:Nat) (x y:AV):(fl2 n x y).length=n*2:=by
 induction n with
 | zero=>rfl
 | succ n ih=>simp only [fl2,List.replicate_succ,List.flatten_cons,List.length_append,List.length_cons,List.length_nil] at *;omega
theorem tY (m n:Nat) (x y:AV):fl2 (m+n) x y=fl2 m x y++fl2 n x y:=by
 simp only [fl2]
 rw [<- List.replicate_append_replicate,List.flatten_append]
theorem tW {m n:Nat} (h:m<=n) (x y:AV) (tl:List AV):(fl2 n x y++tl).take (m*2)=fl2 m x y:=by
 obtain ⟨k,rfl⟩:∃ k,n=m+k:=⟨n - m,by omega⟩
 rw [tY,List.append_assoc,List.take_append_of_le_length (by rw [tX];exact Nat.le_refl _),List.take_of_length_le (by rw [tX];exact Nat.le_refl _)]
theorem E7 {m n:Nat} (h:m<=n) (x y:AV) (tl:List AV):(fl2 n x y++tl).drop (m*2)=fl2 (n - m) x y++tl:=by
 obtain ⟨k,rfl⟩:∃ k,n=m+k:=⟨n - m,by omega⟩
 rw [tY,List.append_assoc,List.drop_left' (tX m x y),Nat.add_sub_cancel_left]
theorem I6 (l:List AV) (n:Nat) (a b:Int) (h:∀ v∈l,v = .agg [.int .i64 a,.int .i64 b]) (hn:l.length=n):bF 2 true l=some (fl2 n (.int .i64 a) (.int .i64 b)):=by
 subst hn
 induction l with
 | nil=>rfl
 | cons v r ih=>
  have hv:=h v (by simp)
  subst hv
  have ih':=ih (fun w hw=>h w (List.mem_cons_of_mem _ hw))
  simp only [List.length_cons]
  rw [show r.length+1=1+r.length from by omega,tY]
  simp [bF,ih',AV.fits,fl2,AV.cells]
  rfl
theorem JC {h:Hp} {k e esz:Nat} {ag ti:Bool} {cs es:List AV} (hg:h.get k=some (e,.blk cs esz ag ti false)) (hu:bF esz ag es=some cs) (he:∀ x∈es,El esz ag x) :
  Tev.conv h (.rf k e 0 es.length es.length)=some (.os es esz ag):=by
 obtain ⟨cs',h1,h2,h3,h4⟩:=cH he
 rw [hu] at h1
 cases h1
 have h5:=h4 []
 rw [List.append_nil] at h5
 simp [Tev.conv,hg,h5,DX he]
def rep (x y:AV) (V n:Nat):List AV:=fl2 n x y++fl2 (V - n) (.int .i64 0) (.int .i64 0)
theorem tD (x y:AV) {V n:Nat} (h:n<=V):(rep x y V n).length=V*2:=by simp only [rep,List.length_append,tX];omega
theorem L3 (x y:AV) {V n m:Nat} (h:n<=V) (hm2:m<=V - n):c7 (rep x y V n) (n*2) (fl2 m x y)=rep x y V (n+m):=by
 simp only [c7,rep]
 rw [tW (Nat.le_refl n),tX,<- Nat.add_mul]
 rw [Nat.add_mul,<- List.drop_drop,E7 (Nat.le_refl n),Nat.sub_self]
 have:fl2 (V - n) (.int .i64 0) (.int .i64 0)=fl2 (V - n) (.int .i64 0) (.int .i64 0)++[]:=by simp
 rw [show fl2 0 x y=[] from rfl,List.nil_append,this,E7 hm2,tY,List.append_nil]
 congr 2
 omega
theorem xD {h:Hp} {x y src:AV} {V n j cap off:Nat} {rd:List Nat} (hn:n<=V) (hg:h.get 5=some (0,.blk (rep x y V n) 2 true true false)) (hs:aP h 2 true src=some (fl2 j x y,j,rd)) (ho:V - n=0/\off<=V*2\/off=n*2) :
  FC h 2 true [.rf 5 0 off (V - n) cap,src]=some (.int .i64 (min j (V - n):Nat),.pat (5 :: rd) [⟨5,0,.blk (rep x y V (n+min j (V - n))) 2 true true false⟩]):=by
 have hl:=tD x y hn
 simp only [FC,hg,hs]
 rw [if_pos ⟨trivial,by omega⟩]
 have ht:(fl2 j x y).take (min j (V - n)*2)=fl2 (min j (V - n)) x y:=by
  have:=tW (Nat.min_le_left j (V - n)) x y []
  rwa [List.append_nil] at this
 rw [ht]
 rcases ho with ⟨h0,hoff⟩ | rfl
 ·rw [h0,Nat.min_zero,show fl2 0 x y=[] from rfl]
  simp [c7]
 ·rw [L3 x y hn (Nat.min_le_right _ _)]
theorem y9 (n:Nat) (a b:Int):bQ (fl2 n (.int .i64 a) (.int .i64 b))=true:=by
 induction n with
 | zero=>rfl
 | succ n ih=>
  rw [show n+1=1+n from by omega,tY]
  simp only [fl2] at ih
  simp [fl2,bQ,ih]
  exact ⟨rfl,rfl⟩
theorem LS {h:Hp} {cs:List AV} {n j:Nat} (hg:h.get 5=some (0,.blk cs 2 true true false)) (hj:j < n):fW h 2 true false false [.rf 5 0 0 n n,.int .i64 j]=some (.rf 5 0 (j*2) (n - j) (n - j),.pat [5] []):=by
 simp only [fW,gK,gQ,hg,Bool.false_eq_true,if_false,if_true,Option.getD_none,Option.getD_some]
 rw [if_pos ⟨trivial,trivial,by omega,by omega,by omega,by omega,by simp,.inr (.inr trivial)⟩,if_neg (by omega)]
 simp
theorem LT {h:Hp} {cs:List AV} {n j:Nat} (hg:h.get 5=some (0,.blk cs 2 true true false)) (hj:j<=n):fW h 2 false true false [.rf 5 0 0 n n,.int .i64 j]=some (.rf 5 0 0 j n,.pat [5] []):=by
 simp only [fW,gK,gQ,hg,Bool.false_eq_true,if_false,if_true,Option.getD_none,Option.getD_some]
 rw [if_pos ⟨trivial,trivial,by omega,by omega,by omega,by omega,by simp,.inl trivial⟩]
 simp
section
variable {pg:Pg}
theorem c73 (hf:pg.fs 73=some cf73) (n:Nat) (hn:n<=big):Ret pg 73 [.int .u64 1,.int .u64 n] (.tup [.int .u64 0,.int .u64 n]):=by
 refine Ret.ofX hf ?_
 unfold cf73
 have m0:bits IntKind.u64 (fun x1 x2=>x1 &&& x2) 0 4294967295 = .int .u64 0:=by rfl
 have m1:bits IntKind.u64 (fun x1 x2=>x1 &&& x2) 1 4294967295 = .int .u64 1:=by rfl
 have mn:bits IntKind.u64 (fun x1 x2=>x1 &&& x2) (n:Int) 4294967295 = .int .u64 n:=OQ hn
 have s0:Int.fdiv 0 (2 ^ min 32 64)=0:=by decide
 have s1:Int.fdiv 1 (2 ^ min 32 64)=0:=by decide
 have sn:(n:Int).fdiv (2 ^ min 32 64)=0:=by
  simp only [big] at hn
  rw [Int.fdiv_eq_ediv_of_nonneg _ (by decide)]
  exact Int.ediv_eq_zero_of_lt (by omega) (by have:(2 ^ min 32 64:Int)=4294967296:=by decide
                                              omega)
 have wn:wr .u64 (n:Int)=n:=wru hn
 have w0:wr .u64 0=0:=by rfl
 simp only [↓zG m0,↓zG m1,↓zG mn,s0,s1,sn,wn,w0,Int.one_mul,Int.zero_mul,Int.mul_zero,Int.zero_add,Int.add_zero,go_sem,seval]
theorem c47 (hf:pg.fs 47=some cf47) (h73:pg.fs 73=some cf73) (n:Nat) (hn:n<=big):Ret pg 47 [.int .u64 1,.int .u64 n] (.tup [.int .u64 0,.int .u64 n]):=by
 refine Ret.ofX hf ?_
 unfold cf47
 simp only [go_sem,seval]
 refine aB (c73 h73 n hn) (by simp only [go_sem,seval]) rfl ?_
 simp only [go_sem,seval]
theorem c29 (hf:pg.fs 29=some cf29) (h47:pg.fs 47=some cf47) (h73:pg.fs 73=some cf73) (nl cl:Bool) (a b:Int) (n:Nat) (hn:n<=big) :
  bK pg 29 [.sl nl [.agg [.int .i64 a,.int .i64 b]] cl,.int .i64 n] (kI 2 true (List.replicate n (.agg [.int .i64 a,.int .i64 b]))):=by
 refine bK.ofX hf ?_
 unfold cf29
 have e0:decide ((n:Int) < 0)=false:=by simp
 have w1:wr .u64 1=1:=by rfl
 have wn:wr .u64 (n:Int)=n:=wru hn
 have wi:wr .i64 (n:Int)=n:=LF (by simp only [big] at hn;omega)
 have l1:decide (0 < (0:Int))=false:=by decide
 have l2:decide (9223372036854775807 < (n:Int))=false:=by simp only [big] at hn;simp;omega
 have hn':((n:Int)<=1073741824)=True:=by simp only [big] at hn;simp;omega
 have hfl:(List.replicate n [AV.int IntKind.i64 0,AV.int IntKind.i64 0]).flatten=rep (.int .i64 a) (.int .i64 b) n 0:=by simp [rep,fl2]
 have hl0:(0+n*2<=(rep (.int .i64 a) (.int .i64 b) n 0).length)=True:=eq_true (by rw [tD _ _ (Nat.zero_le n)];omega)
 simp only [e0,w1,wn,wi,go_sem,seval]
 refine aB (c47 h47 h73 n hn) (by simp only [go_sem,seval]) rfl ?_
 have hc0:=xD (h:=Hp.put [] 5 0 (.blk (rep (.int .i64 a) (.int .i64 b) n 0) 2 true true false)) (x:=.int .i64 a) (y:=.int .i64 b) (src:=.sl nl [.agg [.int .i64 a,.int .i64 b]] cl) (V:=n) (n:=0) (j:=1) (cap:=n) (off:=0) (rd:=[]) (Nat.zero_le n) (by simp only [go_sem,seval])
  (by simp [aP,bF,AV.fits,fl2,AV.cells];rfl) (.inr rfl)
 rw [Nat.sub_zero,Nat.zero_add] at hc0
 simp only [wi,l2,hn',hfl,↓hc0,go_sem,seval]
 refine oO (α:=Nat) (fun j=>n - j) (fun j env hp=>env=cf29E0 (.rf 5 0 0 n n) (.int .i64 j)/\j<=n/\(0 < n->0 < j)/\hp.get 5=some (0,.blk (rep (.int .i64 a) (.int .i64 b) n j) 2 true true false)) (min 1 n) ?_ ?_
 ·refine ⟨rfl,by omega,by omega,?_⟩
  simp only [go_sem,seval]
 ·rintro j env hp ⟨rfl,hj,hj0,hg⟩
  by_cases hjn:j < n
  ·have e1:decide ((j:Int) < (n:Int))=true:=by simp;omega
   have e2:((j:Int)<=(n:Int))=True:=eq_true (by omega)
   have hsr:aP hp 2 true (.rf 5 0 0 j n)=some (fl2 j (.int .i64 a) (.int .i64 b),j,[5]):=by
    have ht:((rep (.int .i64 a) (.int .i64 b) n j).drop 0).take (j*2)=fl2 j (.int .i64 a) (.int .i64 b):=by
     rw [List.drop_zero,rep]
     exact tW (Nat.le_refl j) _ _ _
    simp only [aP,hg]
    rw [ht,if_pos ⟨trivial,by rw [tD _ _ hj];omega,y9 _ _ _⟩]
   have hc:=xD (cap:=n - j) hj hg hsr (.inr rfl)
   have hw:wr .i64 ((j:Int)+(min j (n - j):Nat))=((j+min j (n - j):Nat):Int):=by
    simp only [big] at hn
    rw [aV (by omega) (by omega)];omega
   simp only [cf29L0,cf29E0,e1,e2,↓LS hg hjn,↓LT hg hj,↓hc,hw,go_sem,seval]
   refine And.intro (by kernel_rfl) ?_
   refine ⟨j+min j (n - j),by omega,?_,by omega,by omega,?_⟩
   ·rfl
   ·simp only [go_sem,seval]
  ·obtain rfl:j=n:=by omega
   have e1:decide ((j:Int) < (j:Int))=false:=by simp
   simp only [cf29L0,cf29E0,e1,hg,go_sem,seval]
   have hu:=I6 (List.replicate j (.agg [.int .i64 a,.int .i64 b])) j a b (fun v hv=>(List.mem_replicate.1 hv).2) (by simp)
   have hcv:=JC (es:=List.replicate j (.agg [.int .i64 a,.int .i64 b])) hg (by rw [hu,rep,Nat.sub_self];simp [fl2]) (fun v hv=>by rw [(List.mem_replicate.1 hv).2];exact ⟨rfl,rfl,rfl⟩)
   rw [List.length_replicate] at hcv
   exact ⟨_,hcv,.inr rfl⟩
end
end Go.Tev
end
section
namespace Go.Tev
def zD (l:Lin):Bool:=(l.ts.es.all fun c => !decide (35 < (c.v.bs.length:Int)))&&decide ((l.ts.es.length:Int)<=14)
def BS (s:bG):Bool:=(s.dims.es.all zD)&&(decide ((s.dims.es.length:Int)<=8)&&decide ((s.row.bs.length:Int)<=35))
def wJ (l:List aJ):Bool:=(l.all fun s => !(decide (4 < (s.args.es.length:Int))||decide (20 < (s.op.bs.length:Int))))&&decide ((l.length:Int)<=10)
def tZ (t:Typ):Bool:=decide ((t.elem.bs.length:Int)<=35)&&BS t.shape
def BI (k:aA) (l:List aD) (vs:List Typ):List AV:=
 [.sl k.vars.nl (k.vars.es.map Str.av) k.vars.cl,.sl k.wher.nl (k.wher.es.map Lin.av) k.wher.cl,.int .i64 k.inputs,.sl k.values.nl (vs.map Typ.av) k.values.cl,.sl k.list.nl (l.map aD.av) k.list.cl,.sl k.results.nl (k.results.es.map aH) k.results.cl]
def qL (p:aC) (l:List aC):List AV:=
 [.str p.op.bs,.int .i64 p.num,.int .i64 p.value,.str p.name.bs,.sl p.at_.nl (p.at_.es.map Lin.av) p.at_.cl,.bool p.dyn,.int .i64 p.check,.sl p.fn.nl (p.fn.es.map aJ.av) p.fn.cl,.sl p.knl (l.map aC.av) p.kcl]
mutual
def rX:aC->Bool
 | .mk op _ _ name at_ _ _ fn _ kids _=>zF kids&&(BS ⟨⟨[],by decide⟩,at_⟩&&wJ fn.es&&decide ((name.bs.length:Int)<=35)&&decide ((op.bs.length:Int)<=20))
def zF:List aC->Bool
 | []=>true
 | p :: r=>rX p&&zF r
end
theorem BU:∀ l,zF l=l.all rX
 | []=>by simp [zF]
 | p :: r=>by simp [zF,BU r]
theorem FA (p:aC):rX p=(p.kids.all rX&&(BS ⟨⟨[],by decide⟩,p.at_⟩&&wJ p.fn.es&&decide ((p.name.bs.length:Int)<=35)&&decide ((p.op.bs.length:Int)<=20))):=by
 cases p;rw [rX,BU];rfl
def wK (p:aC):Bool:=decide (o8 p<=60)&&rX p
def BR (q:aD):Bool:=wK q.body&&wK q.index && !decide (8 < (q.space.es.length:Int))&&wJ q.fn.es
def wX (k:aA):Bool:=k.list.es.all BR&&(k.values.es.all tZ&&(decide ((k.list.es.length:Int)<=16)&&decide ((k.values.es.length:Int)<=20)&&decide ((k.vars.es.length:Int)<=13)&&decide ((k.wher.es.length:Int)<=12)&&decide ((k.results.es.length:Int)<=10)))
section
variable {pg:Pg}
theorem c56 (hf:pg.fs 56=some cf56) (l:Lin):Ret pg 56 [l.av] (.bool (zD l)):=by
 have hb:=l.ts.ok
 refine Ret.ofX hf ?_
 unfold cf56
 simp only [go_sem,seval]
 refine dK l.ts.es (fun d e=>eF e (some 3) (.int .i64 d.length)) (fun d r hp=>hp.get 1=some (0,.blk [.int .i64 l.c,.sl l.ts.nl (l.ts.es.map bO.av) l.ts.cl] 2 true true false)/\(l.ts.es.all fun c => !decide (35 < (c.v.bs.length:Int)))=(r.all fun c => !decide (35 < (c.v.bs.length:Int)))) rfl ?_ ?_ ?_
 ·simp only [go_sem,seval]
 ·rintro hp ⟨h1,hI⟩
  simp only [cf56L0,cf56M0,h1,go_sem,seval]
  simp [zD,hI]
 ·rintro d x r hp hes ⟨h1,hI⟩
  rw [hes] at hb hI h1
  have h0:=h1
  rw [hes]
  simp only [cf56L0,cf56M0,h1,go_sem,seval]
  cases hd:decide (35 < (x.v.bs.length:Int))
  ·simp only [aO hb,go_sem,seval]
   exact ⟨h0,by simpa [hd] using hI⟩
  ·simp only [go_sem,seval]
   simp only [zD,hes,hI,List.all_cons,hd]
   rfl
theorem c42 (hf:pg.fs 42=some cf42) (h56:pg.fs 56=some cf56) (s:bG):Ret pg 42 [s.av] (.bool (BS s)):=by
 have hb:=s.dims.ok
 refine Ret.ofX hf ?_
 unfold cf42
 simp only [go_sem,seval]
 refine dK s.dims.es (fun d e=>eF e (some 3) (.int .i64 d.length)) (fun d r hp=>hp.get 1=some (0,.blk [.str s.row.bs,.sl s.dims.nl (s.dims.es.map Lin.av) s.dims.cl] 2 true true false)/\(s.dims.es.all zD)=(r.all zD)) rfl ?_ ?_ ?_
 ·simp only [go_sem,seval]
 ·rintro hp ⟨h1,hI⟩
  repeat' (first | simp only [cf42L0,cf42M0,h1, *,go_sem,seval] | refine aM (fun _=>?_) (fun _=>?_) | refine aN (fun _=>?_) (fun _=>?_) | refine And.intro (by kernel_rfl) ?_)
  all_goals (simp_all [BS])
  all_goals (intro h;omega)
 ·rintro d x r hp hes ⟨h1,hI⟩
  have hx:=c56 h56 x
  rw [Lin.avc] at hx
  rw [hes] at hb hI h1
  have h0:=h1
  rw [hes]
  simp only [cf42L0,cf42M0,h1,go_sem,seval]
  refine aB (hx) (by simp only [go_sem,seval]) rfl ?_
  cases hd:zD x
  ·simp only [go_sem,seval]
   simp only [BS,hes,hI,List.all_cons,hd]
   rfl
  ·simp only [aO hb,go_sem,seval]
   exact ⟨h0,by simpa [hd] using hI⟩
theorem c26 (hf:pg.fs 26=some cf26) (nl cl:Bool) (l:List aJ) (hb:l.length<=big):Ret pg 26 [.sl nl (l.map aJ.av) cl] (.bool (wJ l)):=by
 refine Ret.ofX hf ?_
 unfold cf26
 simp only [go_sem,seval]
 refine dK l (fun d e=>eF e (some 3) (.int .i64 d.length)) (fun d r hp=>(l.all fun s => !(decide (4 < (s.args.es.length:Int))||decide (20 < (s.op.bs.length:Int))))=(r.all fun s => !(decide (4 < (s.args.es.length:Int))||decide (20 < (s.op.bs.length:Int))))) rfl ?_ ?_ ?_
 ·rfl
 ·rintro hp hI
  repeat' (first | simp only [cf26L0,cf26M0, *,go_sem,seval] | refine aM (fun _=>?_) (fun _=>?_) | refine aN (fun _=>?_) (fun _=>?_) | refine And.intro (by kernel_rfl) ?_)
  all_goals (simp_all [wJ])
 ·rintro d x r hp hes hI
  rw [hes] at hb hI
  rw [hes]
  simp only [cf26L0,cf26M0,go_sem,seval]
  cases hd:decide (4 < (x.args.es.length:Int))
  ·simp only [go_sem,seval]
   cases hd2:decide (20 < (x.op.bs.length:Int))
   ·simp only [aO hb,go_sem,seval]
    simpa [hd,hd2] using hI
   ·simp only [go_sem,seval]
    simp only [wJ,hes,hI,List.all_cons,hd,hd2]
    rfl
  ·simp only [go_sem,seval]
   simp only [wJ,hes,hI,List.all_cons,hd]
   rfl
theorem c27 (hf:pg.fs 27=some cf27) (h42:pg.fs 42=some cf42) (h56:pg.fs 56=some cf56) (t:Typ):Ret pg 27 [t.av] (.bool (tZ t)):=by
 have hx:=c42 h42 h56 t.shape
 rw [bG.avc] at hx
 refine Ret.ofX hf ?_
 unfold cf27
 repeat' (first | simp only [*,go_sem,seval] | refine aM (fun _=>?_) (fun _=>?_) | refine aN (fun _=>?_) (fun _=>?_) | (refine aB hx (by simp only [go_sem,seval]) rfl ?_) | refine And.intro (by kernel_rfl) ?_)
 all_goals (simp_all [tZ])
 all_goals (intro h;omega)
theorem c40 (hf:pg.fs 40=some cf40):∀ p:aC,p.ok->Ret pg 40 [p.av] (.int .i64 (o8 p)):=by
 refine aC.ind' fun p ih hp=>?_
 obtain ⟨hb,hk⟩:=(aC.ok_iff p).1 hp
 refine Ret.ofX hf ?_
 unfold cf40
 simp only [go_sem,seval]
 refine dK p.kids (fun d e=>eF (eF e (some 4) (.int .i64 d.length)) (some 3) (.int .i64 (mI 1 d))) (fun d r hp=>hp.get 1=some (0,.blk p.cells 9 true true false)) (by simp only [mI];rfl) ?_ ?_ ?_
 ·simp only [go_sem,seval]
  rfl
 ·rintro hp h1
  simp only [aC.cells,Sl.av,aC.kav] at h1
  simp only [cf40L0,cf40M0,h1,go_sem,seval]
  exact (BB p).symm
 ·rintro d x r hp hes h1
  have h0:=h1
  simp only [aC.cells,Sl.av,aC.kav] at h1
  have hx:=ih x (by rw [hes];simp) (hk x (by rw [hes];simp))
  rw [hes] at hb h1
  rw [hes]
  have h2:hp.get 1=some (0,.blk [.str p.op.bs,.int .i64 p.num,.int .i64 p.value,.str p.name.bs,.sl p.at_.nl (p.at_.es.map Lin.av) p.at_.cl,.bool p.dyn,.int .i64 p.check,.sl p.fn.nl (p.fn.es.map aJ.av) p.fn.cl,.sl p.knl ((d++x :: r).map aC.av) p.kcl] 9 true true false):=h1
  simp only [cf40L0,cf40M0,h2,go_sem,seval]
  refine aB (hx) (by simp only [go_sem,seval]) rfl ?_
  simp only [aO hb,qP,go_sem,seval]
  exact h0
theorem c41 (hf:pg.fs 41=some cf41) (h42:pg.fs 42=some cf42) (h56:pg.fs 56=some cf56) (h26:pg.fs 26=some cf26):∀ p:aC,p.ok->Ret pg 41 [p.av] (.bool (rX p)):=by
 refine aC.ind' fun p ih hp=>?_
 obtain ⟨hb,hk⟩:=(aC.ok_iff p).1 hp
 have a1:=c42 h42 h56 ⟨⟨[],by decide⟩,p.at_⟩
 have a2:=c26 h26 p.fn.nl p.fn.cl p.fn.es p.fn.ok
 rw [bG.avc] at a1
 refine Ret.ofX hf ?_
 unfold cf41
 simp only [go_sem,seval]
 refine dK p.kids (fun d e=>eF e (some 3) (.int .i64 d.length)) (fun d r hp=>hp.get 1=some (0,.blk (qL p p.kids) 9 true true false)/\p.kids.all rX=r.all rX) rfl ?_ ?_ ?_
 ·exact ⟨by simp only [go_sem,seval];rfl,rfl⟩
 ·rintro hp ⟨h1,hI⟩
  simp only [qL] at h1
  repeat' (first | simp only [cf41L0,cf41M0, *,go_sem,seval] | refine aM (fun _=>?_) (fun _=>?_) | refine aN (fun _=>?_) (fun _=>?_) | (refine aB a1 (by simp only [go_sem,seval]) rfl ?_) | (refine aB a2 (by simp only [go_sem,seval]) rfl ?_) | refine And.intro (by kernel_rfl) ?_)
  all_goals (clear h1 a1 a2 hf h42 h56 h26 ih)
  all_goals (rw [FA,hI])
  all_goals (simp_all)
  all_goals (try (intros;omega))
 ·rintro d x r hp hes ⟨h1,hI⟩
  have hx:=ih x (by rw [hes];simp) (hk x (by rw [hes];simp))
  have hI2:=hI
  rw [hes] at hb hI h1
  have h0:=h1
  simp only [qL] at h1
  rw [hes]
  have hx':=hx
  rw [aC.avc] at hx'
  simp only [cf41L0,cf41M0,h1,go_sem,seval]
  first | refine aB hx (by simp only [go_sem,seval]) rfl ?_ | refine aB hx' (by simp only [go_sem,seval]) rfl ?_
  cases hd:rX x
  ·simp only [go_sem,seval]
   rw [FA,hI2,List.all_cons,hd]
   rfl
  ·simp only [aO hb,go_sem,seval]
   exact ⟨h0,by rw [hI,List.all_cons,hd];rfl⟩
theorem c25 (hf:pg.fs 25=some cf25) (h40:pg.fs 40=some cf40) (h41:pg.fs 41=some cf41) (h42:pg.fs 42=some cf42) (h56:pg.fs 56=some cf56) (h26:pg.fs 26=some cf26) (p:aC) (hp:p.ok):Ret pg 25 [p.av] (.bool (wK p)):=by
 have a1:=c40 h40 p hp
 have a2:=c41 h41 h42 h56 h26 p hp
 rw [aC.avc] at a1 a2
 refine Ret.ofX hf ?_
 unfold cf25
 repeat' (first | simp only [*,go_sem,seval] | refine aM (fun _=>?_) (fun _=>?_) | refine aN (fun _=>?_) (fun _=>?_) | (refine aB a1 (by simp only [go_sem,seval]) rfl ?_) | (refine aB a2 (by simp only [go_sem,seval]) rfl ?_) | refine And.intro (by kernel_rfl) ?_)
 all_goals (simp_all [wK])
 all_goals (try (intros;omega))
theorem c8 (hf:pg.fs 8=some cf8) (h25:∀ p:aC,p.ok->Ret pg 25 [p.av] (.bool (wK p))) (h26:pg.fs 26=some cf26) (h27:∀ t:Typ,Ret pg 27 [t.av] (.bool (tZ t))) (k:aA) (hk:∀ q∈k.list.es,q.body.ok/\q.index.ok):Ret pg 8 [k.av] (.bool (wX k)):=by
 have hb:=k.list.ok
 have hv:=k.values.ok
 refine Ret.ofX hf ?_
 unfold cf8
 simp only [aA.av,go_sem,seval]
 refine dK k.list.es (fun d e=>eF e (some 3) (.int .i64 d.length)) (fun d r hp=>hp.get 1=some (0,.blk (BI k k.list.es k.values.es) 6 true true false)/\k.list.es.all BR=r.all BR) rfl ?_ ?_ ?_
 ·exact ⟨by simp only [go_sem,seval];rfl,rfl⟩
 ·rintro hp ⟨h1,hI⟩
  have h0:=h1
  simp only [BI] at h1
  simp only [cf8L0,cf8M0,h1,go_sem,seval]
  refine dK k.values.es (fun d e=>eF e (some 4) (.int .i64 d.length)) (fun d r hp=>hp.get 1=some (0,.blk (BI k k.list.es k.values.es) 6 true true false)/\k.values.es.all tZ=r.all tZ) rfl ?_ ?_ ?_
  ·exact ⟨h0,rfl⟩
  ·rintro hp ⟨h1,hI2⟩
   simp only [BI] at h1
   repeat' (first | simp only [cf8L1,cf8M1,h1, *,go_sem,seval] | refine aM (fun _=>?_) (fun _=>?_) | refine aN (fun _=>?_) (fun _=>?_) | refine And.intro (by kernel_rfl) ?_)
   all_goals (clear h1 h25 h26 h27 hb hv hf)
   all_goals (rw [wX,hI,hI2])
   all_goals (simp_all)
   all_goals (try (intros;omega))
  ·rintro d x r hp hes ⟨h1,hI2⟩
   have hx:=h27 x
   rw [Typ.avc] at hx
   have hI3:=hI2
   rw [hes] at hv hI2 h1
   have h0:=h1
   simp only [BI] at h1
   rw [hes]
   simp only [cf8L1,cf8M1,h1,go_sem,seval]
   refine aB (hx) (by simp only [go_sem,seval]) rfl ?_
   cases hd:tZ x
   ·simp only [go_sem,seval]
    rw [wX,hI,hI3,List.all_cons,hd]
    simp
   ·simp only [aO hv,go_sem,seval]
    exact ⟨h0,by rw [hI2,List.all_cons,hd];rfl⟩
 ·rintro d x r hp hes ⟨h1,hI⟩
  obtain ⟨x1,x2⟩:=hk x (by rw [hes];simp)
  have a1:=h25 x.body x1
  have a2:=h25 x.index x2
  have a3:=c26 h26 x.fn.nl x.fn.cl x.fn.es x.fn.ok
  rw [aC.avc] at a1 a2
  have hI3:=hI
  rw [hes] at hb hI h1
  have h0:=h1
  simp only [BI] at h1
  have hf8:wX k=(BR x&&(r.all BR&&(k.values.es.all tZ&&(decide ((k.list.es.length:Int)<=16)&&decide ((k.values.es.length:Int)<=20)&&decide ((k.vars.es.length:Int)<=13)&&decide ((k.wher.es.length:Int)<=12)&&decide ((k.results.es.length:Int)<=10))))):=by
   rw [wX,hI3,List.all_cons,Bool.and_assoc]
  rw [hes]
  have hw:=aO hb
  rw [List.all_cons] at hI
  have hq:BR x=(wK x.body&&wK x.index && !decide (8 < (x.space.es.length:Int))&&wJ x.fn.es):=rfl
  rw [hq] at hf8 hI
  clear hq hI3 hes
  clear h25 h27 hk
  repeat' (first | simp only [cf8L0,cf8M0,hw, *,go_sem,seval] | refine aM (fun _=>?_) (fun _=>?_) | refine aN (fun _=>?_) (fun _=>?_) | (refine aB a1 (by simp only [go_sem,seval]) rfl ?_) | (refine aB a2 (by simp only [go_sem,seval]) rfl ?_) | (refine aB a3 (by simp only [go_sem,seval]) rfl ?_) | refine And.intro (by kernel_rfl) ?_)
  all_goals (first | (simp_all;done) | skip)
end
end Go.Tev
end
section
namespace Go.Tev
def cQ (q:aD):List Int:=cC q.body++if decide (q.kind=3) then cC q.index++[q.source] else []
theorem kR (p:aC):(cC p).length<=p.sz:=by
 have e1:=oM (iX (dQ p))
 have e2:=kO (dQ p)
 have e3:=oY p
 simp only [cC]
 omega
section
variable {pg:Pg} {kb:Nat}
theorem DE {esz bytes s k1:Nat} {ag:Bool} {h:Hp} {v:AV} {es xs:List AV} {nl cl:Bool} {Q:AV->Eff->Prop} {t:Tok Q} (o:Own h k1 esz ag v es) (hk1:k1 ≠ kb+s) (he:∀ x∈es,El esz ag x) (hx:∀ x∈xs,El esz ag x)
  (hl:es.length+xs.length<=1073741824) (hb:bytes<=65536)
  (q1:xs=[]->∀ rd,(rd=[]\/rd=[k1])->Q v (.pat rd []))
  (q2:xs ≠ []->∀ v' rd pa,Own (Eff.app h (.pat rd pa)) (kb+s) esz ag v' (es++xs)->(∀ k,k ≠ kb+s->k ≠ k1->(Eff.app h (.pat rd pa)).get k=h.get k) ->
   ((∃ e ob,rd=[kb+s]/\pa=[⟨kb+s,e,ob⟩])\/(∃ e1 o1 e ob,rd=[kb+s,k1]/\pa=[⟨k1,e1,o1⟩,⟨kb+s,e,ob⟩]))->Q v' (.pat rd pa)) :
  XO pg kb (.app esz ag bytes) s h [v,.sl nl xs cl] Q t:=by
 rw [gJ]
 obtain ⟨ds,d1,d2,d3,_⟩:=cH hx
 simp only [lS,aP,d1,Option.map_some]
 by_cases hxs:xs=[]
 ·subst hxs
  cases d1
  rcases o with ⟨rfl,nl',cl',rfl,hc⟩ | ⟨e,cs,rfl,hg,hu⟩
  ·simp only [kB,List.length_nil,if_true]
   exact q1 rfl _ (.inl rfl)
  ·obtain ⟨cs',c1,c2,_,_⟩:=cH he
   rw [hu] at c1;cases c1
   simp only [kB,hg,List.length_nil,if_true,true_and,Nat.zero_add]
   rw [if_pos (by omega)]
   exact q1 rfl _ (.inr rfl)
 ·have hn:xs.length ≠ 0:=by simpa using hxs
  rcases o with ⟨rfl,nl',cl',rfl,hc⟩ | ⟨e,cs,rfl,hg,hu⟩
  ·simp only [kB,hn,if_false,hc,List.length_nil,Nat.zero_add,Bool.true_and]
   have hlx:xs.length<=1073741824:=by simpa using hl
   simp only [hlx,hb,decide_true,Bool.and_self,if_true,bF,List.nil_append]
   refine q2 hxs _ _ _ (.inr ⟨_,ds,rfl,?_,by simpa using d1⟩) ?_ (.inl ⟨_,_,rfl,rfl⟩)
   ·rw [kA,aG,if_pos rfl]
   ·intro k hk _
    rw [kA,aG,if_neg (Ne.symm hk)]
  ·obtain ⟨cs',c1,c2,_,_⟩:=cH he
   rw [hu] at c1;cases c1
   have h1:¬ (es.length+xs.length<=es.length):=by omega
   have h2:(k1 == kb+s)=false:=by simpa using hk1
   simp only [kB,hg,hn,if_false,true_and,Nat.zero_add]
   rw [if_pos (by omega)]
   simp only [h1,if_false,hl,hb,decide_true,Bool.true_and,h2,Bool.not_false,if_true,Bool.false_eq_true]
   refine q2 hxs _ _ _ (.inr ⟨h.next (kb+s),cs++ds,by simp,?_,hY hu d1⟩) ?_ (.inr ⟨_,_,_,_,rfl,rfl⟩)
   ·rw [uE,aG,if_pos rfl]
    simp [<- c2]
   ·intro k hk hk2
    rw [uE,aG,if_neg (Ne.symm hk),aG,if_neg (Ne.symm hk2)]
end
section
variable {pg:Pg}
theorem c30 (S:JL pg) (hf:pg.fs 30=some cf30) (h48:pg.fs 48=some cf48) (h74:pg.fs 74=some cf74) (q:aD) (h1:q.body.ok) (h2:q.index.ok) (hsz:q.body.sz+q.index.sz+1<=big) :
  bK pg 30 [q.av] (kI 1 false ((cQ q).map aH)):=by
 have a1:=c48 S h48 h74 q.body h1 (by omega)
 have a2:=c48 S h48 h74 q.index h2 (by omega)
 rw [aC.avc] at a1 a2
 have l1:=kR q.body
 have l2:=kR q.index
 simp only [big] at hsz
 refine bK.ofX hf ?_
 unfold cf30
 simp only [go_sem,seval]
 refine vM a1 (by simp only [go_sem,seval]) (El.ints _) ?_
 intro v rd pa ho hk _
 have k1:=hk 1 (by omega)
 simp only [go_sem,seval] at k1
 simp only [k1,go_sem,seval]
 cases h3:decide (q.kind=3)
 ·simp only [go_sem,seval]
  have hr:cQ q=cC q.body:=by simp [cQ,h3]
  rw [hr]
  exact ho.conv (El.ints _)
 ·simp only [k1,go_sem,seval]
  refine kD a2 (by simp only [go_sem,seval]) ?_
  intro nl2 cl2 _
  simp only [go_sem,seval]
  have hr:cQ q=cC q.body++(cC q.index++[q.source]):=by simp [cQ,h3]
  rw [hr]
  have fin:∀ (v2:AV) (kk:Nat) (H:Hp) (es:List Int),Own H kk 1 false v2 (es.map aH)->es=cC q.body++(cC q.index++[q.source])->∃ r,Tev.conv H v2=some r/\kI 1 false ((cC q.body++(cC q.index++[q.source])).map aH) r:=by
   rintro v2 kk H es o rfl
   exact o.conv (El.ints _)
  generalize hH:Eff.app _ (Eff.pat rd pa)=H at ho k1 ⊢
  clear hH hk hr a1 a2
  refine DE (kb:=0) (s:=13) (k1:=5) ho (by omega) (El.ints _) (El.ints _) (by simp only [List.length_map];omega) (by decide) ?_ ?_
  ·intro hx rd1 hrd1
   have hx':cC q.index=[]:=by simpa using hx
   have k2:=k1
   simp only [k1,go_sem,seval]
   refine DE (kb:=0) (s:=17) (k1:=5) ho (by omega) (El.ints _) (xs:=[.int .i64 q.source]) (by intro y hy;simp at hy;subst hy;exact ⟨rfl,rfl,rfl⟩) (by simp only [List.length_map,List.length_singleton];omega) (by decide) (by intro h;cases h) ?_
   intro _ v2 rd2 pa2 ho2 hk2 hform
   have ho3:=fin _ 17 _ (cC q.body++[q.source]) (by simpa [rL] using ho2) (by rw [hx'];simp)
   clear ho2 hk2 k2 k1 ho
   rcases hrd1 with rfl | rfl<;>rcases hform with ⟨e,ob,rfl,rfl⟩ | ⟨e1,o1,e,ob,rfl,rfl⟩
   all_goals (simp only [go_sem,seval])
   all_goals (refine And.intro (by kernel_rfl) ?_)
   all_goals (exact ho3)
  ·intro hx v1 rd1 pa1 ho1 hk1 hform1
   have k2:=hk1 1 (by omega) (by omega)
   rw [k1] at k2
   simp only [k2,go_sem,seval]
   refine DE (kb:=0) (s:=17) (k1:=13) ho1 (by omega) (by rw [<- List.map_append];exact El.ints _) (xs:=[.int .i64 q.source]) (by intro y hy;simp at hy;subst hy;exact ⟨rfl,rfl,rfl⟩) (by simp only [List.length_map,List.length_append,List.length_singleton];omega) (by decide) (by intro h;cases h) ?_
   intro _ v2 rd2 pa2 ho2 hk2 hform
   have ho3:=fin _ 17 _ (cC q.body++cC q.index++[q.source]) (by simpa [rL] using ho2) (by simp)
   clear ho2 hk2 ho1 hk1 k2 k1
   rcases hform1 with ⟨e',ob',rfl,rfl⟩ | ⟨e1',o1',e',ob',rfl,rfl⟩<;>rcases hform with ⟨e,ob,rfl,rfl⟩ | ⟨e1,o1,e,ob,rfl,rfl⟩
   all_goals (simp only [go_sem,seval])
   all_goals (refine And.intro (by kernel_rfl) ?_)
   all_goals (exact ho3)
end
end Go.Tev
end
section
namespace Go.Tev
abbrev Sp:=Int × Int
def bS (s:Sp):AV:=.agg [.int .i64 s.1,.int .i64 s.2]
def aK:List Sp->List AV
 | []=>[]
 | s :: r => .int .i64 s.1 :: .int .i64 s.2 :: aK r
theorem cK:∀ l,(aK l).length=l.length*2
 | []=>rfl
 | s :: r=>by simp only [aK,List.length_cons,cK r];omega
theorem kN:∀ l,bF 2 true (l.map bS)=some (aK l)
 | []=>rfl
 | s :: r=>by
  simp [bS,bF,kN r,AV.fits,aK,AV.cells]
  rfl
theorem jF (l:List Sp):∀ x∈l.map bS,El 2 true x:=by
 intro x hx
 obtain ⟨b,_,rfl⟩:=List.mem_map.1 hx
 exact ⟨rfl,rfl,rfl⟩
theorem rE:∀ (l:List Sp) (v:Nat) (s:Sp),l[v]?=some s->(aK l)[v*2]?=some (.int .i64 s.1)/\(aK l)[v*2+1]?=some (.int .i64 s.2)
 | [],v,s,h=>by simp at h
 | t :: r,0,s,h=>by simp at h;subst h;exact ⟨rfl,rfl⟩
 | t :: r,v+1,s,h=>by
  have:=rE r v s (by simpa using h)
  rw [show (v+1)*2=v*2+1+1 from by omega]
  simpa [aK] using this
theorem qC:∀ (l:List Sp) (v:Nat) (a b:Int),((aK l).set (v*2) (.int .i64 a)).set (v*2+1) (.int .i64 b)=aK (l.set v (a,b))
 | [],v,a,b=>by simp [aK]
 | t :: r,0,a,b=>rfl
 | t :: r,v+1,a,b=>by
  rw [show (v+1)*2=v*2+1+1 from by omega]
  simp only [aK,List.set_cons_succ]
  rw [qC r v a b]
theorem vT:∀ (l:List Sp) (v:Nat) (a:Int),(aK l).set (v*2) (.int .i64 a)=aK (l.modify v (fun s=>(a,s.2)))
 | [],v,a=>by simp [aK]
 | t :: r,0,a=>rfl
 | t :: r,v+1,a=>by
  rw [show (v+1)*2=v*2+1+1 from by omega]
  simp only [aK,List.set_cons_succ,List.modify_succ_cons]
  rw [vT r v a]
theorem vS:∀ (l:List Sp) (v:Nat) (a:Int),(aK l).set (v*2+1) (.int .i64 a)=aK (l.modify v (fun s=>(s.1,a)))
 | [],v,a=>by simp [aK]
 | t :: r,0,a=>rfl
 | t :: r,v+1,a=>by
  rw [show (v+1)*2=v*2+1+1 from by omega]
  simp only [aK,List.set_cons_succ,List.modify_succ_cons]
  rw [vS r v a]
theorem PK {h:Hp} {e:Nat} {sp:List Sp} (hg:h.get 9=some (e,.blk (aK sp) 2 true false false)) (d:Nat):Tev.snap (d+2) h (.rf 9 e 0 sp.length sp.length)=some (.sl false (sp.map bS) false,[9]):=by
 obtain ⟨cs',h1,h2,h3,h4⟩:=cH (jF sp)
 rw [kN] at h1
 cases h1
 have h5:=h4 []
 rw [List.append_nil,List.length_map] at h5
 have ht:treeL (sp.map bS)=true:=bH (f:=bS) (fun s=>by simp [bS,go_sem]) sp
 have h6:cD (Tev.snap (d+1) h) (sp.map bS)=some (sp.map bS,[]):=dY d h ht
 rw [eD]
 simp [hg,h5,h6,AV.tree]
def gM (sp:List Sp) (v:Int) (x:Int):List Sp:=sp.modify v.toNat (fun s=>(s.1,x))
def fI (sp:List Sp) (v:Int) (x:Int):List Sp:=sp.modify v.toNat (fun s=>(x,s.2))
def fZ (sp:List Sp) (v:Int):Int:=match sp[v.toNat]? with | some s=>s.1 | none=>0
def cB (V i:Nat):List Sp:=List.replicate i (-1,-1)++List.replicate (V - i) (-2,-2)
def cO (sp:List Sp) (i:Nat) (l:List Int):List Sp:=l.foldl (fun s v=>gM s v i) sp
def gY (sp:List Sp) (i:Nat) (q:aD):List Sp:=
 cO (gM (if decide (fZ sp q.value = -2) then fI sp q.value i else sp) q.value i) i (cQ q)
def eI:List Sp->Nat->List aD->List Sp
 | sp,_,[]=>sp
 | sp,i,q :: r=>eI (gY sp i q) (i+1) r
def lO (sp:List Sp) (n:Nat) (l:List Int):List Sp:=l.foldl (fun s v=>gM s v n) sp
def aF (k:aA):List Sp:=lO (eI (cB k.values.es.length k.inputs.toNat) 0 k.list.es) k.list.es.length k.results.es
theorem rF (sp:List Sp) (v x:Int):(gM sp v x).length=sp.length:=by simp [gM]
theorem qF (sp:List Sp) (v x:Int):(fI sp v x).length=sp.length:=by simp [fI]
theorem hZ (i:Nat):∀ (l:List Int) (sp:List Sp),(cO sp i l).length=sp.length
 | [],sp=>rfl
 | v :: r,sp=>by simp only [cO,List.foldl_cons];exact (hZ i r _).trans (rF _ _ _)
theorem s8 (sp:List Sp) (i:Nat) (d:List Int) (x:Int):cO sp i (d++[x])=gM (cO sp i d) x i:=by simp [cO]
theorem r7 (sp:List Sp) (i:Nat) (q:aD):(gY sp i q).length=sp.length:=by
 simp only [gY,hZ,rF];split<;>simp [qF]
theorem nV:∀ (l:List aD) (sp:List Sp) (i:Nat),(eI sp i l).length=sp.length
 | [],sp,i=>rfl
 | q :: r,sp,i=>by rw [eI,nV r,r7]
theorem sB:∀ (d:List aD) (sp:List Sp) (i:Nat) (q:aD),eI sp i (d++[q])=gY (eI sp i d) (i+d.length) q
 | [],sp,i,q=>rfl
 | x :: r,sp,i,q=>by
  simp only [List.cons_append,eI,sB r,List.length_cons]
  congr 1;omega
theorem jH {V i:Nat} (h:i<=V):(cB V i).length=V:=by simp [cB];omega
theorem GD {V i:Nat} (h:i < V):(cB V i).set i (-1,-1)=cB V (i+1):=by
 obtain ⟨m,rfl⟩:∃ m,V=i+(m+1):=⟨V - i - 1,by omega⟩
 simp only [cB]
 rw [List.set_append_right _ _ (by simp)]
 have e1:i+(m+1) - i=m+1:=by omega
 have e2:i+(m+1) - (i+1)=m:=by omega
 rw [e1,e2,List.replicate_succ (n:=m),List.replicate_succ' (n:=i)]
 simp
theorem nC {k:aA} {th:List Bool} {p:aC} {n:Nat} {nt:Int} (h:d8 k th p n nt=true):∀ a∈cC p,0<=a/\a < k.values.es.length/\aY th a=true/\a ≠ nt:=by
 intro a ha
 simp only [d8,gG,Bool.and_eq_true,Bool.not_eq_true'] at h
 have h2:=h.2
 rw [List.any_eq_false] at h2
 have h3:=h2 a ha
 simp only [Bool.or_eq_true,Bool.not_eq_true',decide_eq_true_eq,not_or,Bool.not_eq_false] at h3
 have ha':=ha
 simp only [cC,oC,oB] at ha'
 obtain ⟨h4,h5⟩:=mY _ p _ h.1.2 a ha'
 exact ⟨h4,h5,h3.1,h3.2⟩
theorem qV {k:aA} {th:List Bool} {q:aD} {i:Nat} (h:bI k th q i=true):∀ a∈cQ q,0<=a/\a < k.values.es.length/\aY th a=true:=by
 intro a ha
 simp only [bI,Bool.and_eq_true] at h
 obtain ⟨_,h⟩:=h
 split at h
 ·cases h
 rename_i t ht
 simp only [Bool.and_eq_true,Bool.not_eq_true'] at h
 obtain ⟨⟨⟨⟨_,_⟩,h3⟩,_⟩,h5⟩:=h
 simp only [cQ,List.mem_append] at ha
 simp only [rV] at h5
 split at h5
 ·rename_i h6
  simp only [Bool.and_eq_true] at h5
  have h7:decide (q.kind=3)=false:=by simp at h6 ⊢;omega
  rw [h7] at ha
  rcases ha with ha | ha
  ·obtain ⟨x1,x2,x3,_⟩:=nC h5.2 a ha;exact ⟨x1,x2,x3⟩
  ·simp at ha
 split at h5
 ·rename_i h6
  simp only [Bool.and_eq_true] at h5
  have h7:decide (q.kind=3)=false:=by simp at h6 ⊢;omega
  rw [h7] at ha
  rcases ha with ha | ha
  ·obtain ⟨x1,x2,x3,_⟩:=nC h5.2 a ha;exact ⟨x1,x2,x3⟩
  ·simp at ha
 split at h5
 ·rename_i h6
  simp only [Bool.and_eq_true] at h5
  rw [if_pos h6] at h3 ha
  rcases ha with ha | ha
  ·obtain ⟨x1,x2,x3,_⟩:=nC h5.1 a ha;exact ⟨x1,x2,x3⟩
  ·rw [List.mem_append] at ha
   rcases ha with ha | ha
   ·obtain ⟨x1,x2,x3,_⟩:=nC h5.2 a ha;exact ⟨x1,x2,x3⟩
   ·simp only [List.mem_singleton] at ha
    subst ha
    simp only [tR,Bool.or_eq_false_iff,decide_eq_false_iff_not,Bool.not_eq_false'] at h3
    exact ⟨by omega,by omega,h3.1.2⟩
 ·cases h5
theorem AZ {k:aA}:∀ (l:List aD) (th:List Bool) (i:Nat),lL k th l i=none->∀ d q r,l=d++q :: r->bI k (bC th d) q (i+d.length)=true
 | [],th,i,_,d,q,r,he=>by cases d<;>simp at he
 | x :: l,th,i,h,d,q,r,he=>by
  simp only [lL] at h
  split at h
  ·rename_i hx
   cases d with
   | nil=>simp at he;obtain ⟨rfl,rfl⟩:=he;exact hx
   | cons y d=>
    simp at he
    obtain ⟨rfl,rfl⟩:=he
    have:=AZ _ _ _ h d q r rfl
    rw [List.length_cons,show i+(d.length+1)=i+1+d.length from by omega]
    exact this
  ·cases h
structure fP (k:aA):Prop where
 out:aX k=true
 ker:∀ d q r,k.list.es=d++q :: r->bI k (bC (eQ k) d) q d.length=true
 res:∀ v∈k.results.es,0<=v/\v < k.values.es.length/\aY (bC (eQ k) k.list.es) v=true
 one:0 < k.results.es.length
theorem dZ {k:aA} (h:(cR k).2=0):fP k:=by
 simp only [cR] at h
 split at h
 ·rename_i ho
  split at h
  ·simp at h
  ·rename_i hr
   split at h
   ·simp at h
   ·rename_i hb
    simp only [dA,Bool.or_eq_true,not_or,Bool.not_eq_true,decide_eq_true_eq,decide_eq_false_iff_not,List.any_eq_false] at hb
    obtain ⟨⟨h1,h2⟩,h3⟩:=hb
    refine ⟨ho,fun d q r he=>by simpa using AZ _ _ _ hr d q r he,fun v hv=>?_,by omega⟩
    have h4:=h3 v hv
    simp only [cL,Bool.or_eq_false_iff,decide_eq_false_iff_not,Bool.not_eq_false',not_or,Bool.not_eq_true,Bool.or_eq_true,decide_eq_true_eq] at h4
    obtain ⟨⟨x1,x2⟩,x3⟩:=h4
    exact ⟨by omega,by omega,by simpa using x3⟩
 ·simp at h
theorem kV {k:aA}:(cR k).2=0\/(cR k).2=22:=by
 simp only [cR]
 split
 ·split
  ·exact .inr rfl
  ·split
   ·exact .inr rfl
   ·exact .inl rfl
 ·exact .inr rfl
end Go.Tev
end
section
namespace Go.Tev
def kM (k:aA) (r:AV):Prop:=
 if (cR k).2=0 then r = .tup [.sl false ((aF k).map bS) false,.int .i64 0] else r = .tup [.sl true [] true,.int .i64 22]
theorem IM {l:List AV} {n:Nat} (x y:AV) (h:n*2+1 < l.length):List.take (0+n*2) l++[x,y]++List.drop (0+n*2+2) l=(l.set (n*2) x).set (n*2+1) y:=by
 obtain ⟨a,u,v,m,rfl,ha⟩:∃ a u v m,l=a++u :: v :: m/\a.length=n*2:=by
  refine ⟨l.take (n*2),l[n*2],l[n*2+1],l.drop (n*2+1+1),?_,by simp;omega⟩
  rw [<- List.drop_eq_getElem_cons h,<- List.drop_eq_getElem_cons (by omega),List.take_append_drop]
 rw [Nat.zero_add,<- ha]
 simp [List.set_append]
theorem Iq {l:List AV} {n:Nat} (x:AV) (h:n < l.length):List.take n l++[x]++List.drop (n+1) l=l.set n x:=by
 rw [List.set_eq_take_append_cons_drop,if_pos h]
 simp
theorem DS (sp:List Sp) (v x:Int) (h:v.toNat < sp.length):List.take (0+v.toNat*2+1) (aK sp)++[.int .i64 x]++List.drop (0+v.toNat*2+1+1) (aK sp)=aK (gM sp v x):=by
 rw [Nat.zero_add,Iq _ (by rw [cK];omega),vS]
 rfl
theorem PH (sp:List Sp) (v x:Int) (h:v.toNat < sp.length):List.take (0+v.toNat*2+0) (aK sp)++[.int .i64 x]++List.drop (0+v.toNat*2+0+1) (aK sp)=aK (fI sp v x):=by
 rw [Nat.zero_add,Nat.add_zero,Iq _ (by rw [cK];omega),vT]
 rfl
theorem ET (sp:List Sp) (v:Int) (h:v.toNat < sp.length):(0+v.toNat*2+1+1<=(aK sp).length)=True:=eq_true (by rw [cK];omega)
theorem QC (sp:List Sp) (v:Int) (h:v.toNat < sp.length):(0+v.toNat*2+0+1<=(aK sp).length)=True:=eq_true (by rw [cK];omega)
theorem QD (sp:List Sp) (v:Int) (h:v.toNat < sp.length):(aK sp)[0+v.toNat*2+0]?=some (.int .i64 (fZ sp v)):=by
 obtain ⟨s,hs⟩:∃ s,sp[v.toNat]?=some s:=⟨_,List.getElem?_eq_getElem h⟩
 rw [Nat.zero_add,Nat.add_zero,(rE sp _ s hs).1]
 simp [fZ,hs]
section
variable {pg:Pg}
theorem c9 (hf:pg.fs 9=some cf9) (h28:∀ k:aA,(k.vars.nl=true->k.vars.es=[])->(∀ q∈k.list.es,q.body.ok/\q.index.ok/\k.vars.es.length+9+q.body.sz<=big/\k.vars.es.length+9+q.index.sz<=big) ->
   Ret pg 28 [k.av] (.tup [.int .i64 (cR k).1,.int .i64 (cR k).2]))
  (h29:∀ (nl cl:Bool) (a b:Int) (n:Nat),n<=big->bK pg 29 [.sl nl [.agg [.int .i64 a,.int .i64 b]] cl,.int .i64 n] (kI 2 true (List.replicate n (.agg [.int .i64 a,.int .i64 b]))))
  (h30:∀ q:aD,q.body.ok->q.index.ok->q.body.sz+q.index.sz+1<=big->bK pg 30 [q.av] (kI 1 false ((cQ q).map aH)))
  (k:aA) (hnl:k.vars.nl=true->k.vars.es=[]) (hq:∀ q∈k.list.es,q.body.ok/\q.index.ok/\k.vars.es.length+9+q.body.sz<=big/\k.vars.es.length+9+q.index.sz<=big) (hq2:∀ q∈k.list.es,q.body.sz+q.index.sz+1<=big) :
  bK pg 9 [k.av] (kM k):=by
 have a1:=h28 k hnl hq
 have hVb:=k.values.ok
 have a2:=h29 false true (-2) (-2) k.values.es.length hVb
 clear h28 h29
 refine bK.ofX hf ?_
 unfold cf9
 simp only [aA.av,aA.cells,go_sem,seval]
 refine aB a1 (by simp only [aA.av,aA.cells,go_sem,seval]) rfl ?_
 rcases kV (k:=k) with hc | hc
 ·have ok:=dZ hc
  have hso:=ok.out
  simp only [aX,Bool.and_eq_true,decide_eq_true_eq] at hso
  obtain ⟨_,⟨⟨⟨⟨⟨⟨_,_⟩,hi0⟩,_⟩,hiV⟩,_⟩,_⟩,_⟩:=hso
  have hV:0 < k.values.es.length:=by
   obtain ⟨v,hv⟩:=List.exists_mem_of_length_pos ok.one
   have:=ok.res v hv
   omega
  have hsp0:List.replicate k.values.es.length (AV.agg [.int .i64 (-2),.int .i64 (-2)])=(cB k.values.es.length 0).map bS:=by simp [cB,bS]
  have hl0:(cB k.values.es.length 0).length=k.values.es.length:=jH (Nat.zero_le _)
  rw [hsp0] at a2
  rw [hc]
  simp only [go_sem,seval]
  refine xF a2 (by simp only [go_sem,seval]) (jF _) (fun he=>?_) (fun cs hcs _=>?_)
  ·have:=congrArg List.length he
   rw [List.length_map,hl0,List.length_nil] at this
   omega
  rw [kN] at hcs
  cases hcs
  rw [List.length_map,hl0]
  generalize hE:Hp.next _ (0+9)=E
  clear hE a1 a2
  obtain ⟨ins,hins⟩:∃ n:Nat,k.inputs=n:=⟨k.inputs.toNat,by omega⟩
  have hinV:ins<=k.values.es.length:=by omega
  have hins':k.inputs.toNat=ins:=by omega
  simp only [go_sem,seval]
  refine aI (List.range ins) (fun d r env hp=>env=cf9E0 (.pt 1 0 0) (.rf 9 E 0 k.values.es.length k.values.es.length) (.int .i64 k.inputs) (.int .i64 d.length) /\
   hp.get 1=some (0,.blk k.cells 6 true true false)/\hp.get 9=some (E,.blk (aK (cB k.values.es.length d.length)) 2 true false false)) ?_ ?_ ?_
  ·refine ⟨rfl,?_,?_⟩
   ·simp only [go_sem,seval]
    rfl
   ·simp only [go_sem,seval]
  ·rintro env hp ⟨rfl,g1,g9⟩
   have hr:(List.range ins).length=ins:=List.length_range
   rw [hr] at g9 ⊢
   have e1:decide ((ins:Int) < k.inputs)=false:=by simp;omega
   have g1':=g1
   simp only [aA.cells,Sl.av] at g1
   simp only [cf9L0,cf9E0,e1,g1,go_sem,seval]
   refine aI k.list.es (fun d r env hp=>env=cf9E2 (.pt 1 0 0) (.rf 9 E 0 k.values.es.length k.values.es.length) (.sl k.list.nl (k.list.es.map aD.av) k.list.cl) (.int .i64 k.list.es.length) (.int .i64 d.length) /\
    hp.get 1=some (0,.blk k.cells 6 true true false)/\hp.get 9=some (E,.blk (aK (eI (cB k.values.es.length ins) 0 d)) 2 true false false)) ?_ ?_ ?_
   ·exact ⟨rfl,g1',g9⟩
   ·clear g9 g1 g1' hp
    rintro env hp ⟨rfl,g1,g9⟩
    have g1':=g1
    simp only [aA.cells,Sl.av] at g1
    simp only [cf9L2,cf9E2,g1,go_sem,seval]
    refine aI k.results.es (fun d r env hp=>env=cf9E3 (.pt 1 0 0) (.rf 9 E 0 k.values.es.length k.values.es.length) (.sl k.results.nl (k.results.es.map aH) k.results.cl) (.int .i64 k.results.es.length) (.int .i64 d.length) /\
     hp.get 1=some (0,.blk k.cells 6 true true false)/\hp.get 9=some (E,.blk (aK (lO (eI (cB k.values.es.length ins) 0 k.list.es) k.list.es.length d)) 2 true false false)) ?_ ?_ ?_
    ·exact ⟨rfl,g1',g9⟩
    ·clear g9 g1 g1' hp
     rintro env hp ⟨rfl,g1,g9⟩
     have hlen:(aF k).length=k.values.es.length:=by
      simp only [aF]
      rw [show lO=fun sp n l=>cO sp n l from rfl]
      rw [hZ,nV,hins',jH hinV]
     have hspk:lO (eI (cB k.values.es.length ins) 0 k.list.es) k.list.es.length k.results.es=aF k:=by rw [aF,hins']
     rw [hspk] at g9
     have hsn:=PK g9 61
     rw [hlen] at hsn
     simp only [cf9L3,cf9E3,go_sem,seval]
     simp only [Tev.conv,depth,eD,bX,bB,↓hsn,go_sem]
     rw [kM,if_pos hc]
    ·clear g9 g1 g1' hp
     rintro d v r env hp hes ⟨rfl,g1,g9⟩
     obtain ⟨v1,v2,_⟩:=ok.res v (by rw [hes];simp)
     have hrb:=k.results.ok
     rw [hes] at hrb
     have hget:k.results.es[d.length]?=some v:=by rw [hes];simp
     have hlt:d.length < k.results.es.length:=by rw [hes];simp
     have e1:decide ((d.length:Int) < (k.results.es.length:Int))=true:=by simp;omega
     have e2:((d.length:Int) < (k.results.es.length:Int))=True:=eq_true (by omega)
     have v1':(0<=v)=True:=eq_true v1
     have v2':(v < (k.values.es.length:Int))=True:=eq_true v2
     have g1':=g1
     simp only [aA.cells,Sl.av] at g1
     have hln:(lO (eI (cB k.values.es.length ins) 0 k.list.es) k.list.es.length d).length=k.values.es.length:=by
      rw [show lO=fun sp n l=>cO sp n l from rfl]
      rw [hZ,nV,jH hinV]
     have hvl:v.toNat < (lO (eI (cB k.values.es.length ins) 0 k.list.es) k.list.es.length d).length:=by rw [hln];omega
     have hsno:gM (lO (eI (cB k.values.es.length ins) 0 k.list.es) k.list.es.length d) v k.list.es.length=lO (eI (cB k.values.es.length ins) 0 k.list.es) k.list.es.length (d++[v]):=by simp [lO]
     simp only [cf9L3,cf9E3,e1,e2,g1,g9,hget,v1',v2',ET _ v hvl,DS _ v _ hvl,aO hrb,hsno,go_sem,seval]
     exact ⟨rfl,rfl⟩
   ·clear g9 g1 g1' hp
    rintro d q r env hp hes ⟨rfl,g1,g9⟩
    obtain ⟨v0,v2,_⟩:=dJ (ok.ker d q r hes)
    have hlb:=k.list.ok
    rw [hes] at hlb
    have hget:k.list.es[d.length]?=some q:=by rw [hes];simp
    have hlt:d.length < k.list.es.length:=by rw [hes];simp
    have e1:decide ((d.length:Int) < (k.list.es.length:Int))=true:=by simp;omega
    have e2:((d.length:Int) < (k.list.es.length:Int))=True:=eq_true (by omega)
    have v1':(0<=q.value)=True:=eq_true (by omega)
    have v2':(q.value < (k.values.es.length:Int))=True:=eq_true v2
    obtain ⟨p1,p2,_,_⟩:=hq q (by rw [hes];simp)
    have a3:=h30 q p1 p2 (hq2 q (by rw [hes];simp))
    rw [aD.avc] at a3
    have hrd:=qV (ok.ker d q r hes)
    have hrlen:(cQ q).length<=big:=by
     have z1:=hq2 q (by rw [hes];simp)
     have z2:=kR q.body
     have z3:=kR q.index
     simp only [cQ,List.length_append]
     split<;>simp<;>omega
    have hrun:=sB d (cB k.values.es.length ins) 0 q
    rw [Nat.zero_add] at hrun
    rw [hrun]
    have hln:(eI (cB k.values.es.length ins) 0 d).length=k.values.es.length:=by rw [nV,jH hinV]
    generalize eI (cB k.values.es.length ins) 0 d=sp at g9 hln ⊢
    have hvl:q.value.toNat < sp.length:=by omega
    have hvl2:q.value.toNat < (fI sp q.value d.length).length:=by rw [qF];exact hvl
    have hst:gY sp d.length q=cO (gM (if decide (fZ sp q.value = -2) then fI sp q.value d.length else sp) q.value d.length) d.length (cQ q):=rfl
    rw [hst]
    clear hst hrun h30 hq hq2
    simp only [cf9L2,cf9E2,e1,e2,g9,hget,v1',v2',QD sp q.value hvl,go_sem,seval]
    cases hfr:decide (fZ sp q.value = -2)
    case true=>
     simp only [g9,v1',v2',QC sp _ hvl,PH sp _ _ hvl,ET _ _ hvl2,DS _ _ _ hvl2,go_sem,seval]
     refine kD a3 (by simp only [go_sem,seval]) ?_
     intro nl3 cl3 _
     simp only [go_sem,seval]
     refine aI (cQ q) (fun d2 r2 env hp=>env=cf9E1 (.pt 1 0 0) (.rf 9 E 0 k.values.es.length k.values.es.length) (.int .i64 d.length) (.sl k.list.nl (k.list.es.map aD.av) k.list.cl) (.int .i64 k.list.es.length) (.int .i64 d.length) (.sl nl3 ((cQ q).map aH) cl3) (.int .i64 (cQ q).length) (.int .i64 d2.length) /\
      hp.get 1=some (0,.blk k.cells 6 true true false)/\hp.get 9=some (E,.blk (aK (cO (gM (fI sp q.value d.length) q.value d.length) d.length d2)) 2 true false false)) ?_ ?_ ?_
     ·refine ⟨rfl,?_,?_⟩
      ·simp only [go_sem,seval]
       exact g1
      ·simp only [go_sem,seval]
       rfl
     ·clear g9 g1 hp
      rintro env hp ⟨rfl,g1,g9⟩
      simp only [cf9L1,cf9E1,aO hlb,go_sem,seval]
      first | exact ⟨rfl,g1,g9⟩
     ·clear g9 g1 hp
      rintro d2 v r2 env hp hes2 ⟨rfl,g1,g9⟩
      obtain ⟨w1,w2,_⟩:=hrd v (by rw [hes2];simp)
      have hget2:(cQ q)[d2.length]?=some v:=by rw [hes2];simp
      have hlt2:d2.length < (cQ q).length:=by rw [hes2];simp
      have f1:decide ((d2.length:Int) < ((cQ q).length:Int))=true:=by simp;omega
      have f2:((d2.length:Int) < ((cQ q).length:Int))=True:=eq_true (by omega)
      have w1':(0<=v)=True:=eq_true w1
      have w2':(v < (k.values.es.length:Int))=True:=eq_true w2
      have hvl3:v.toNat < (cO (gM (fI sp q.value d.length) q.value d.length) d.length d2).length:=by rw [hZ,rF];rw [qF];omega
      have hrb2:(d2++v :: r2).length<=big:=by rw [<- hes2];exact hrlen
      simp only [cf9L1,cf9E1,f1,f2,g9,hget2,w1',w2',ET _ v hvl3,DS _ v _ hvl3,aO hrb2,go_sem,seval]
      rw [s8]
      first | exact ⟨rfl,g1,rfl⟩ | exact g1
    case false=>
     simp only [g9,v1',v2',ET _ _ hvl,DS _ _ _ hvl,go_sem,seval]
     refine kD a3 (by simp only [go_sem,seval]) ?_
     intro nl3 cl3 _
     simp only [go_sem,seval]
     refine aI (cQ q) (fun d2 r2 env hp=>env=cf9E1 (.pt 1 0 0) (.rf 9 E 0 k.values.es.length k.values.es.length) (.int .i64 d.length) (.sl k.list.nl (k.list.es.map aD.av) k.list.cl) (.int .i64 k.list.es.length) (.int .i64 d.length) (.sl nl3 ((cQ q).map aH) cl3) (.int .i64 (cQ q).length) (.int .i64 d2.length) /\
      hp.get 1=some (0,.blk k.cells 6 true true false)/\hp.get 9=some (E,.blk (aK (cO (gM sp q.value d.length) d.length d2)) 2 true false false)) ?_ ?_ ?_
     ·refine ⟨rfl,?_,?_⟩
      ·simp only [go_sem,seval]
       exact g1
      ·simp only [go_sem,seval]
       rfl
     ·clear g9 g1 hp
      rintro env hp ⟨rfl,g1,g9⟩
      simp only [cf9L1,cf9E1,aO hlb,go_sem,seval]
      first | exact ⟨rfl,g1,g9⟩
     ·clear g9 g1 hp
      rintro d2 v r2 env hp hes2 ⟨rfl,g1,g9⟩
      obtain ⟨w1,w2,_⟩:=hrd v (by rw [hes2];simp)
      have hget2:(cQ q)[d2.length]?=some v:=by rw [hes2];simp
      have hlt2:d2.length < (cQ q).length:=by rw [hes2];simp
      have f1:decide ((d2.length:Int) < ((cQ q).length:Int))=true:=by simp;omega
      have f2:((d2.length:Int) < ((cQ q).length:Int))=True:=eq_true (by omega)
      have w1':(0<=v)=True:=eq_true w1
      have w2':(v < (k.values.es.length:Int))=True:=eq_true w2
      have hvl3:v.toNat < (cO (gM sp q.value d.length) d.length d2).length:=by rw [hZ,rF];omega
      have hrb2:(d2++v :: r2).length<=big:=by rw [<- hes2];exact hrlen
      simp only [cf9L1,cf9E1,f1,f2,g9,hget2,w1',w2',ET _ v hvl3,DS _ v _ hvl3,aO hrb2,go_sem,seval]
      rw [s8]
      first | exact ⟨rfl,g1,rfl⟩ | exact g1
  ·rintro d x r env hp hes ⟨rfl,g1,g9⟩
   obtain ⟨hx,hlt⟩:=iG hes
   have hb2:(d++x :: r).length<=big:=by rw [<- hes];simp;omega
   have hlen:(cB k.values.es.length d.length).length=k.values.es.length:=jH (by omega)
   have e1:decide ((d.length:Int) < k.inputs)=true:=by simp;omega
   have e2:((d.length:Int) < (k.values.es.length:Int))=True:=eq_true (by omega)
   have e3:(0+d.length*2+2<=(aK (cB k.values.es.length d.length)).length)=True:=eq_true (by rw [cK,hlen];omega)
   have e4:=IM (l:=aK (cB k.values.es.length d.length)) (n:=d.length) (.int .i64 (-1)) (.int .i64 (-1)) (by rw [cK,hlen];omega)
   rw [qC,GD (by omega)] at e4
   simp only [cf9L0,cf9E0,e1,e2,g9,e3,e4,aO hb2,go_sem,seval]
   rw [List.length_append]
   exact ⟨rfl,g1,rfl⟩
 ·rw [hc]
  simp only [go_sem,seval]
  rw [kM,hc]
  rfl
end
end Go.Tev
end
section
namespace Go.Tev
def gH (p q:Int × Int):Bool:=decide (0 < p.2)&&decide (0 < q.2)&&decide (p.1 < q.1+q.2)&&decide (q.1 < p.1+p.2)
def fitScan (s:Int):List (Int × Int)->Int->Int
 | [],at'=>at'
 | p :: l,at'=>fitScan s l (if gH p (at',s) then p.1+p.2 else at')
def AG (s:Int) (l:List (Int × Int)) (a:Int):Prop:=0<=a/\∀ b,0<=b->b < a->∃ p∈l,gH p (b,s)=true
def uJ (s:Int) (l:List (Int × Int)) (a:Int):Prop:=∀ p∈l,gH p (a,s)=false
theorem fQ {p q:Int × Int}:gH p q=true↔0 < p.2/\0 < q.2/\p.1 < q.1+q.2/\q.1 < p.1+p.2:=by
 simp [gH,and_assoc]
theorem pC (p q:Int × Int):gH p q=gH q p:=by
 rw [Bool.eq_iff_iff,fQ,fQ]
 constructor<;>rintro ⟨a,b,c,d⟩<;>exact ⟨b,a,d,c⟩
theorem fit_uniq {s:Int} {l:List (Int × Int)} {a b:Int} (h1:AG s l a) (h2:uJ s l a) (h3:AG s l b) (h4:uJ s l b):a=b:=by
 rcases Int.lt_trichotomy a b with h | h | h
 ·obtain ⟨p,hp,hm⟩:=h3.2 a h1.1 h
  rw [h2 p hp] at hm
  exact absurd hm (by decide)
 ·exact h
 ·obtain ⟨p,hp,hm⟩:=h1.2 b h3.1 h
  rw [h4 p hp] at hm
  exact absurd hm (by decide)
theorem min_zero (s:Int) (l:List (Int × Int)):AG s l 0:=⟨Int.le_refl 0,fun b h1 h2=>absurd h2 (by omega)⟩
theorem MT {s:Int} {l:List (Int × Int)} {a:Int} {p:Int × Int} (h:AG s l a) (hp:p∈l) (hm:gH p (a,s)=true):AG s l (p.1+p.2)/\a < p.1+p.2:=by
 have hm':=fQ.1 hm
 dsimp only at hm'
 have h0:=h.1
 refine ⟨⟨by omega,fun b h1 h2=>?_⟩,hm'.2.2.2⟩
 by_cases hb:b < a
 ·exact h.2 b h1 hb
 ·refine ⟨p,hp,fQ.2 ⟨hm'.1,hm'.2.1,?_,h2⟩⟩
  dsimp only
  omega
theorem KP {s:Int} {l l':List (Int × Int)} {a:Int} (h:uJ s l a) (hp:∀ p,p∈l'->p∈l):uJ s l' a:=fun p q=>h p (hp p q)
theorem D5 {s:Int} {l0:List (Int × Int)}:∀ {l:List (Int × Int)} {a:Int},(∀ p∈l,p∈l0)->AG s l0 a->AG s l0 (fitScan s l a)
 | [],_,_,h=>h
 | p :: l,a,hs,h=>by
  unfold fitScan
  refine D5 (fun q hq=>hs q (List.mem_cons_of_mem _ hq)) ?_
  split
  ·exact (MT h (hs p List.mem_cons_self) ‹_›).1
  ·exact h
theorem AX {s:Int} (hs:0 < s):∀ {l:List (Int × Int)} {done:List (Int × Int)} {a:Int},l.Pairwise (fun p q=>p.1<=q.1)->(∀ p∈done,∀ q∈l,p.1<=q.1) ->
  uJ s done a->uJ s (done++l) (fitScan s l a)
 | [],done,a,_,_,h=>by
  rw [List.append_nil]
  exact h
 | p :: l,done,a,hp,hd,h=>by
  unfold fitScan
  have hp':=List.pairwise_cons.1 hp
  have key:uJ s (done++[p]) (if gH p (a,s) then p.1+p.2 else a):=by
   intro q hq
   rcases List.mem_append.1 hq with hq | hq
   ·split
    ·have hm:=fQ.1 ‹gH p (a,s)=true›
     have hf:=h q hq
     have hle:=hd q hq p List.mem_cons_self
     dsimp only at hm
     cases hx:gH q (p.1+p.2,s)
     ·rfl
     ·have hx':=fQ.1 hx
      dsimp only at hx'
      rw [fQ.2 ⟨hx'.1,hs,by dsimp only;omega,by dsimp only;omega⟩] at hf
      exact hf
    ·exact h q hq
   ·cases List.mem_singleton.1 hq
    split
    ·cases hx:gH p (p.1+p.2,s)
     ·rfl
     ·have hx':=fQ.1 hx
      dsimp only at hx'
      omega
    ·exact Bool.eq_false_iff.2 ‹_›
  have:=AX hs hp'.2 (done:=done++[p]) (fun r hr q hq=>by
   rcases List.mem_append.1 hr with hr | hr
   ·exact hd r hr q (List.mem_cons_of_mem _ hq)
   ·cases List.mem_singleton.1 hr
    exact hp'.1 q hq) key
  rw [List.append_assoc,List.singleton_append] at this
  exact this
theorem yB {s:Int} (hs:0 < s) {l l':List (Int × Int)} (hp:∀ p,p∈l'↔p∈l) (hq:l'.Pairwise (fun p q=>p.1<=q.1)):AG s l (fitScan s l' 0)/\uJ s l (fitScan s l' 0):=by
 refine ⟨D5 (fun p h=>(hp p).1 h) (min_zero s l),?_⟩
 have:=AX hs hq (done:=[]) (a:=0) (fun _ h=>absurd h List.not_mem_nil) (fun _ h=>absurd h List.not_mem_nil)
 rw [List.nil_append] at this
 exact KP this (fun p h=>(hp p).2 h)
end Go.Tev
end
section
namespace Go.Tev
def iQ (p:Sp):Bool:=decide (p.1 < 0)||decide (p.2 < 0)||decide (1000000000 < p.1)||decide (1000000000 < p.2)
theorem pN {p:Sp} (h:iQ p=false):0<=p.1/\0<=p.2/\p.1<=1000000000/\p.2<=1000000000:=by
 simp only [iQ,Bool.or_eq_false_iff,decide_eq_false_iff_not] at h
 omega
def vU (l:List Sp):List Sp:=l.mergeSort fun a b=>decide (a.1<=b.1)
theorem oV (l:List Sp):(vU l).Pairwise fun a b=>a.1<=b.1:=by
 have:=List.pairwise_mergeSort (le:=fun a b:Sp=>decide (a.1<=b.1)) (by intro a b c h1 h2;simp at *;omega) (by intro a b;simp;omega) l
 exact this.imp (by intro a b h;simpa using h)
theorem nX (l:List Sp) (p:Sp):p∈vU l↔p∈l:=(List.mergeSort_perm l _).mem_iff
def fitS (l:List Sp) (s:Int):Int:=if s < 0\/1000000000 < s\/l.any iQ=true then -1 else fitScan s (vU l) 0
theorem fitScan_zero:∀ (l:List Sp) (a:Int),fitScan 0 l a=a
 | [],_=>rfl
 | p :: l,a=>by
  have:gH p (a,0)=false:=by simp [gH]
  rw [fitScan,this]
  exact fitScan_zero l a
theorem fitScan_bnd {s:Int}:∀ {l:List Sp} {a:Int},(∀ p∈l,iQ p=false)->0<=a->a<=2000000000->0<=fitScan s l a/\fitScan s l a<=2000000000
 | [],_,_,h1,h2=>⟨h1,h2⟩
 | p :: l,a,h,h1,h2=>by
  have hp:=pN (h p (by simp))
  unfold fitScan
  split
  ·exact fitScan_bnd (fun q hq=>h q (by simp [hq])) (by omega) (by omega)
  ·exact fitScan_bnd (fun q hq=>h q (by simp [hq])) h1 h2
theorem fitS_of {l l':List Sp} {s:Int} (h:¬(s < 0\/1000000000 < s\/l.any iQ=true)) (hm:∀ p,p∈l'↔p∈l) (hs:l'.Pairwise fun a b=>a.1<=b.1):fitScan s l' 0=fitS l s:=by
 rw [fitS,if_neg h]
 by_cases h0:s=0
 ·subst h0;rw [fitScan_zero,fitScan_zero]
 ·have h1:=yB (s:=s) (by omega) hm hs
  have h2:=yB (s:=s) (l:=l) (by omega) (nX l) (oV l)
  exact fit_uniq h1.1 h1.2 h2.1 h2.2
section
variable {pg:Pg}
theorem c629 (hf:pg.fs 629=some cf629) (p q:Sp) (h1:wr .i64 (q.1+q.2)=q.1+q.2) (h2:wr .i64 (p.1+p.2)=p.1+p.2):Ret pg 629 [bS p,bS q] (.bool (gH p q)):=by
 refine Ret.ofX hf ?_
 unfold cf629
 have hs:gH p q=(decide (0 < p.2)&&decide (0 < q.2)&&decide (p.1 < q.1+q.2)&&decide (q.1 < p.1+p.2)):=rfl
 rw [hs]
 cases b1:decide (0 < p.2)
 case false=>simp only [bS,b1,go_sem,seval]
 cases b2:decide (0 < q.2)
 case false=>simp only [bS,b1,b2,go_sem,seval]
 cases b3:decide (p.1 < q.1+q.2)
 case false=>simp only [bS,b1,b2,h1,b3,go_sem,seval]
 simp only [bS,b1,b2,h1,b3,h2,go_sem,seval]
theorem c634 (hf:pg.fs 634=some cf634) (p:Sp):Ret pg 634 [bS p] (.bool (iQ p)):=by
 refine Ret.ofX hf ?_
 unfold cf634
 have hs:iQ p=(decide (p.1 < 0)||decide (p.2 < 0)||decide (1000000000 < p.1)||decide (1000000000 < p.2)):=rfl
 rw [hs]
 cases b1:decide (p.1 < 0)
 case true=>simp only [bS,b1,go_sem,seval]
 cases b2:decide (p.2 < 0)
 case true=>simp only [bS,b1,b2,go_sem,seval]
 cases b3:decide (1000000000 < p.1)
 case true=>simp only [bS,b1,b2,b3,go_sem,seval]
 simp only [bS,b1,b2,b3,go_sem,seval]
theorem c644 (hf:pg.fs 644=some cf644) (nl cl:Bool) (es:List Sp) (hb:es.length<=big) (g:Nat) (cs:List AV) (hcs:treeL cs=true) (p:Sp->Bool) (hp:∀ x∈es,Ret pg g (bS x :: cs) (.bool (p x))) :
  bK pg 644 [.sl nl (es.map bS) cl,.fn g cs] (fun r=>∃ i:Int,r = .int .i64 i/\decide (0<=i)=es.any p):=
 rN (f:=644) (esz:=2) (ag:=true) hf bS (fun _=>rfl) (fun s=>by simp [bS,go_sem]) nl cl es hb g cs hcs p hp
theorem oU (l:List Sp):treeL (l.map bS)=true:=bH (f:=bS) (fun s=>by simp [bS,go_sem]) l
theorem c633 (hf:pg.fs 633=some cf633) (h644:pg.fs 644=some cf644) (h634:pg.fs 634=some cf634) (nl cl:Bool) (es:List Sp) (hb:es.length<=big):Ret pg 633 [.sl nl (es.map bS) cl,.fn 634 []] (.bool (es.any iQ)):=
 lY (n:=644) hf (by simp only [treeL,lV,oQ,oU,Bool.and_true]) (c644 h644 nl cl es hb 634 [] rfl iQ (fun x _=>c634 h634 x))
theorem c635 (hf:pg.fs 635=some cf635) (nl cl:Bool) (es:List AV) (hel:∀ x∈es,El 2 true x) (hb:es.length<=big) (hnl:nl=true->es=[]):bK pg 635 [.sl nl es cl] (kI 2 true es):=by
 refine bK.ofX hf ?_
 unfold cf635
 simp only [go_sem,seval]
 cases nl
 ·simp only [go_sem,seval]
  refine fH (kb:=0) (s:=1) (bytes:=16) (es:=[]) (xs:=es) (Own.nil _ _ _ _ _ _ rfl) (by simp) hel ?_ (by decide) ?_
  ·simp only [List.length_nil,big] at *;omega
  ·intro v' rd pa ho hk hpa
   simp only [go_sem,seval]
   exact ho.conv (by simpa using hel)
 ·simp only [go_sem,seval]
  exact .inl ⟨hnl rfl,true,true,rfl,rfl⟩
end
end Go.Tev
end
