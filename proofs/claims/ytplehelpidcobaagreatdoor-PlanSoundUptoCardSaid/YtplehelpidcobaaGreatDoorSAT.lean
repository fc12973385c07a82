import Derived.Test.YtplehelpidcobaaGreatDoorSAS
import Derived.Test.YtplehelpidcobaaGreatDoorSAH
import Derived.Test.YtplehelpidcobaaGreatDoorSAN
set_option linter.all false
section
namespace Go.Tev
def eV(k:aA):List Bool:=List.replicate k.inputs.toNat true++List.replicate (k.values.es.length-k.inputs.toNat) false
def ME(th:List Bool)(q:aD):List Bool:=th.set q.value.toNat true
def bE(th:List Bool)(d:List aD):List Bool:=d.foldl ME th
def lU(k:aA):List Bool->List aD->Nat->Option Nat
 |_,[],_=>none
 |th,q::r,i=>if bL k th q i then lU k (ME th q) r (i+1) else some i
def cP(k:aA)(th:List Bool)(v:Int):Bool:=decide (v<0)||decide ((k.values.es.length:Int)<=v) || !aY th v
def dK(k:aA)(th:List Bool):Bool:=
 decide ((k.results.es.length:Int)<1)||decide (8<(k.results.es.length:Int))||k.results.es.any (cP k th)
def cQ(k:aA):Int×Int:=
 if aZ k then
  (match lU k (eV k) k.list.es 0 with
  |some i=>(i,22)
  |none=>if dK k (bE (eV k) k.list.es) then (k.list.es.length,22) else (k.list.es.length,0))
 else (-1,22)
def kI(V i:Nat):List Bool:=List.replicate i true++List.replicate (V-i) false
theorem rW{V i:Nat}(h:i<=V):(kI V i).length=V:=by simp[kI];omega
theorem B1{V i:Nat}(h:i<V):(kI V i).set i true=kI V (i+1):=by
 obtain⟨m,rfl⟩:∃m,V=i+(m+1):=⟨V-i-1,by omega⟩
 simp only[kI]
 rw[List.set_append_right _ _ (by simp)]
 have e1:i+(m+1)-i=m+1:=by omega
 have e2:i+(m+1)-(i+1)=m:=by omega
 rw[e1,e2,List.replicate_succ (n:=m),List.replicate_succ' (n:=i)]
 simp
theorem MD(th:List Bool)(q:aD):(ME th q).length=th.length:=by simp[ME]
theorem cK(th:List Bool)(d:List aD):(bE th d).length=th.length:=by
 induction d generalizing th with
 |nil=>rfl
 |cons x r ih=>simp only[bE,List.foldl_cons]at *;rw[ih,MD]
theorem mC(th:List Bool)(d:List aD)(x:aD):bE th (d++[x])=ME (bE th d) x:=by simp[bE]
theorem eL(l:List Bool)(i:Nat)(b:Bool):(l.map AV.bool).set i (.bool b)=(l.set i b).map AV.bool:=by rw[List.map_set]
theorem oA{l:List AV}{n:Nat}(x:AV)(h:n<l.length):List.take (0+n*1) l++[x]++List.drop (0+n*1+1) l=l.set n x:=by
 rw[List.set_eq_take_append_cons_drop,if_pos h]
 simp
theorem vK{h:Hp}{d:Nat}{a b b':AV}{keys:List Nat}(hb:Tev.snap (d+1) h b=some (b',keys))(ha:a.tree=true):cG (Tev.snap (d+1) h) [b,a]=some ([b',a],keys):=by
 rw[bB,hb,bB,eD,if_pos ha,bW]
 simp
theorem eA{k:aA}{th:List Bool}{q:aD}{i:Nat}(h:bL k th q i=true):k.inputs<=q.value/\q.value<k.values.es.length/\0<=q.check:=by
 simp only[bL,tA,Bool.and_eq_true,Bool.not_eq_true',Bool.or_eq_false_iff,decide_eq_false_iff_not]at h
 omega
theorem xR{t:Typ}{vars:List Str}(h:fB t vars=true):t.shape.dims.es.length<=6:=by
 simp only[fB,p9,lI,Bool.and_eq_true,decide_eq_true_eq]at h
 have:=h.1.1.1.2.1.2
 omega
section
variable{pg:Pg}
theorem c46(hf:pg.fs 46=some cf46)(k:aA)(nl cl:Bool)(there:List Bool)(hth:there.length=k.values.es.length)(m v:Int) :
  Ret pg 46 [.int .i64 v,.fp (.agg k.cells),.fp (.fp (.agg (fM k nl cl there m)))] (.bool (cP k there v)):=by
 have h0:decide (v<0)=false->(0<=v)=True:=fun h=>eq_true (by simpa using h)
 obtain⟨b,hb⟩:∃b,decide (v<0)=false->decide ((k.values.es.length:Int)<=v)=false->there[v.toNat]?=some b:=by
  by_cases hh:v.toNat<there.length
  ·exact⟨_,fun _ _=>List.getElem?_eq_getElem hh⟩
  ·exact⟨true,fun x y=>by simp at x y;omega⟩
 have hb':decide (v<0)=false->decide ((k.values.es.length:Int)<=v)=false->aY there v=b:=fun x y=>by simp[aY,hb x y]
 refine Ret.ofX hf ?_
 unfold cf46
 repeat' (first|simp only[fM,aA.cells, *,go_sem,seval]|refine aN (fun _=>?_) (fun _=>?_)|refine aO (fun _=>?_) (fun _=>?_)|refine And.intro (by kernel_rfl) ?_)
 all_goals (simp_all [cP])
 all_goals (intro h;omega)
def FS(k:aA):List AV:=
 [.sl k.vars.nl (k.vars.es.map Str.av) k.vars.cl,.sl k.wher.nl (k.wher.es.map Lin.av) k.wher.cl,.int .i64 k.inputs,.sl k.values.nl (k.values.es.map Typ.av) k.values.cl,.sl k.list.nl (k.list.es.map aD.av) k.list.cl,.sl k.results.nl (k.results.es.map aG) k.results.cl,
  .rf 9 0 0 k.values.es.length k.values.es.length,.int .i64 0]
theorem GM{h:Hp}{th:List Bool}{V:Nat}(hth:th.length=V)(g9:h.get 9=some (0,.blk (th.map AV.bool) 1 false true false))(d:Nat):Tev.snap (d+2) h (.rf 9 0 0 V V)=some (.sl false (th.map AV.bool) true,[9]):=by
 obtain⟨cs',h1,h2,h3,h4⟩:=cL (El.bools th)
 have h5:=h4 []
 rw[List.append_nil]at h5
 have h6:cG (Tev.snap (d+1) h) (th.map AV.bool)=some (th.map AV.bool,[]):=d8 d h (lM th)
 rw[eD]
 simp only[List.length_map]at h2 h5
 subst hth
 have h7:cs'=th.map AV.bool:=by
  rw[cT]at h1
  exact(Option.some.inj h1).symm
 subst h7
 simp[g9,h5,h6,AV.tree]
theorem D6{h:Hp}{k:aA}{th:List Bool}(hth:th.length=k.values.es.length)(g13:h.get 13=some (0,.blk (FS k) 8 true true false))(g9:h.get 9=some (0,.blk (th.map AV.bool) 1 false true false))(d:Nat) :
  Tev.snap (d+3) h (.pt 13 0 0)=some (.fp (.agg (fM k false true th 0)),[13,9]):=by
 have h7:=GM hth g9 d
 simp only[FS]at g13
 rw[eD]
 simp only[g13,bW,bB,↓h7,eD,go_sem,Nat.reduceAdd,↓reduceIte]
 rfl
theorem c28(hf:pg.fs 28=some cf28)(h43:∀k:aA,Ret pg 43 [k.av] (.bool (aZ k)))
  (h44:∀(k:aA),(k.vars.nl=true->k.vars.es=[])->0<=k.inputs->(∀t∈k.values.es,t.shape.dims.es.length<=6)->∀(nl cl:Bool)(there:List Bool),there.length=k.values.es.length->∀(m:Int)(i:Nat)(q:aD),k.list.es[i]?=some q ->
   q.body.ok->q.index.ok->k.vars.es.length+9+q.body.sz<=big->k.vars.es.length+9+q.index.sz<=big ->
   Ret pg 44 [.fp (.agg (fM k nl cl there m)),.int .i64 i] (.bool (bL k there q i)))
  (h45:pg.fs 45=some cf45) (h46:pg.fs 46=some cf46) (h71:pg.fs 71=some cf71)
  (k:aA) (hnl:k.vars.nl=true->k.vars.es=[]) (hq:∀q∈k.list.es,q.body.ok/\q.index.ok/\k.vars.es.length+9+q.body.sz<=big/\k.vars.es.length+9+q.index.sz<=big) :
  Ret pg 28 [k.av] (.tup [.int .i64 (cQ k).1,.int .i64 (cQ k).2]):=by
 have a1:=h43 k
 refine Ret.ofX hf ?_
 unfold cf28
 simp only[aA.av,aA.cells,go_sem,seval]
 refine aB a1 (by simp only[aA.av,aA.cells,go_sem,seval]) rfl ?_
 cases ho:aZ k
 ·simp only[go_sem,seval]
  simp only[cQ,ho];rfl
 have hV:((k.values.es.length:Int)<=1073741824)=True:=eq_true (by have:=k.values.ok;simp only[big]at this;omega)
 have hfl:(List.replicate k.values.es.length [AV.bool false]).flatten=(List.replicate k.values.es.length false).map AV.bool:=by
  rw[List.map_replicate]
  induction k.values.es.length with
  |zero=>rfl
  |succ n ih=>rw[List.replicate_succ,List.flatten_cons,ih,List.replicate_succ];rfl
 simp only[hV,hfl,go_sem,seval]
 refine And.intro (by kernel_rfl) ?_
 have hso:=ho
 simp only[aZ,Bool.and_eq_true,decide_eq_true_eq]at hso
 obtain⟨_,⟨⟨⟨⟨⟨⟨_,_⟩,hi0⟩,_⟩,hiV⟩,_⟩,_⟩,hty⟩:=hso
 have hvals:∀t∈k.values.es,t.shape.dims.es.length<=6:=fun t ht=>xR (by rw[List.all_eq_true]at hty;exact hty t ht)
 obtain⟨ins,hins⟩:∃n:Nat,k.inputs=n:=⟨k.inputs.toNat,by omega⟩
 have hinV:ins<=k.values.es.length:=by omega
 have hVb:=k.values.ok
 have hf0:kI k.values.es.length 0=List.replicate k.values.es.length false:=by simp[kI]
 refine aI (List.range ins) (fun d r env hp=>env=cf28E0 (.pt 1 0 0) (.pt 17 0 0) (.int .i64 k.inputs) (.int .i64 d.length) /\
  hp.get 1=some (0,.blk k.cells 6 true true false)/\hp.get 13=some (0,.blk (FS k) 8 true true false)/\hp.get 17=some (0,.blk [.pt 13 0 0] 1 false true false)/\hp.get 9=some (0,.blk ((kI k.values.es.length d.length).map AV.bool) 1 false true false)) ?_ ?_ ?_
 ·refine⟨rfl,?_,?_,?_,?_⟩
  ·simp only[go_sem,seval]
   rfl
  ·simp only[go_sem,seval]
   rfl
  ·simp only[go_sem,seval]
  ·rw[show ([]:List Nat).length=0 from rfl,hf0]
   simp only[go_sem,seval]
 ·rintro env hp ⟨rfl,g1,g13,g17,g9⟩
  have hr:(List.range ins).length=ins:=List.length_range
  rw[hr]at g9 ⊢
  have e1:decide ((ins:Int)<k.inputs)=false:=by simp;omega
  have hth0:kI k.values.es.length ins=eV k:=by simp[kI,eV,hins]
  rw[hth0]at g9
  have hthl:(eV k).length=k.values.es.length:=by rw[<-hth0,rW hinV]
  simp only[aA.cells,Sl.av,FS]at g1 g13
  simp only[cf28L0,cf28E0,e1,g1,go_sem,seval]
  have hrun:lU k (eV k) k.list.es 0=lU k (bE (eV k) []) k.list.es ([]:List aD).length:=rfl
  clear hr hth0 hf0 hV hfl e1
  have hH:∃H:Hp,H=hp:=⟨_,rfl⟩
  refine aI k.list.es (fun d r env hp=>env=cf28E1 (.pt 1 0 0) (.pt 17 0 0) (.sl k.list.nl (k.list.es.map aD.av) k.list.cl) (.int .i64 k.list.es.length) (.int .i64 d.length) /\
   lU k (eV k) k.list.es 0=lU k (bE (eV k) d) r d.length /\
   hp.get 1=some (0,.blk k.cells 6 true true false)/\hp.get 13=some (0,.blk (FS k) 8 true true false)/\hp.get 17=some (0,.blk [.pt 13 0 0] 1 false true false)/\hp.get 9=some (0,.blk ((bE (eV k) d).map AV.bool) 1 false true false)) ?_ ?_ ?_
  ·exact⟨rfl,hrun,g1,g13,g17,g9⟩
  ·rintro env hp ⟨rfl,hru,g1,g13,g17,g9⟩
   have hthe:(bE (eV k) k.list.es).length=k.values.es.length:=by rw[cK,hthl]
   have hall:=c45 h45 h71 k.results.nl k.results.cl k.results.es k.results.ok 46 [.fp (.agg k.cells),.fp (.fp (.agg (fM k false true (bE (eV k) k.list.es) 0)))] (by simp only[treeL,CJ,xY,fM,aA.cells];simp only[go_sem,seval])
    (cP k (bE (eV k) k.list.es)) (fun v _=>c46 h46 k false true (bE (eV k) k.list.es) hthe 0 v)
   have hsn:Tev.snap 62 hp (.pt 13 0 0)=some (.fp (.agg (fM k false true (bE (eV k) k.list.es) 0)),[13,9]):=D6 (k:=k) hthe g13 g9 59
   simp only[aA.cells,Sl.av,FS]at g1 g13
   simp only[cf28L1,cf28E1,g1,go_sem,seval]
   cases r1:decide ((k.results.es.length:Int)<1)
   case true=>
    simp only[g1,go_sem,seval]
    rw[cQ,ho,hru,lU]
    simp[dK,r1]
   cases r2:decide (8<(k.results.es.length:Int))
   case true=>
    simp only[g1,r2,go_sem,seval]
    rw[cQ,ho,hru,lU]
    simp[dK,r2]
   simp only[g1,r2,go_sem,seval]
   refine bQ hall (keys:=[1,17,13,9]) ?_ (v:=.bool (k.results.es.any (cP k (bE (eV k) k.list.es)))) (pa:=[]) rfl ?_
   ·simp only[g1,g17,↓hsn,depth,bW,bB,eD,go_sem,Nat.reduceAdd,↓reduceIte]
    rfl
   cases r3:k.results.es.any (cP k (bE (eV k) k.list.es))
   case true=>
    simp only[g1,go_sem,seval]
    rw[cQ,ho,hru,lU]
    simp[dK,r3]
   case false=>
    simp only[g1,go_sem,seval]
    rw[cQ,ho,hru,lU]
    simp[dK,r1,r2,r3]
  ·rintro d q r env hp hes ⟨rfl,hru,g1,g13,g17,g9⟩
   have hmem:q∈k.list.es:=by rw[hes];simp
   obtain⟨p1,p2,p3,p4⟩:=hq q hmem
   have hget:k.list.es[d.length]?=some q:=by rw[hes];simp
   have hlb:=k.list.ok
   have hb2:(d++q::r).length<=big:=by rw[<-hes];exact hlb
   have hlt:d.length<k.list.es.length:=by rw[hes];simp
   have e1:decide ((d.length:Int)<(k.list.es.length:Int))=true:=by simp;omega
   have e2:((d.length:Int)<(k.list.es.length:Int))=True:=eq_true (by omega)
   have hkk:=h44 k hnl hi0 hvals false true (bE (eV k) d) (by rw[cK,hthl]) 0 d.length q hget p1 p2 p3 p4
   have g1':=g1
   have g13':=g13
   simp only[aA.cells,Sl.av,FS]at g1 g13
   have hsn:∀H:Hp,H.get 13=hp.get 13->H.get 9=hp.get 9->Tev.snap (61+3) H (.pt 13 0 0)=some (.fp (.agg (fM k false true (bE (eV k) d) 0)),[13,9]):=
    fun H x y=>D6 (by rw[cK,hthl]) (x.trans g13') (y.trans g9) 61
   simp only[cf28L1,cf28E1,e1,e2,g1,g13,g17,g9,hget,go_sem,seval]
   refine bQ hkk (vK (hsn _ (by simp only[go_sem,seval]) (by simp only[go_sem,seval])) (by simp only[go_sem,seval])) (v:=.bool (bL k (bE (eV k) d) q d.length)) (pa:=[]) rfl ?_
   cases hkq:bL k (bE (eV k) d) q d.length
   ·simp only[go_sem,seval]
    rw[cQ,ho,hru,lU,hkq]
    rfl
   ·obtain⟨k1,k2,k3⟩:=eA hkq
    have k0:(0<=q.value)=True:=eq_true (by omega)
    have k2':(q.value<(k.values.es.length:Int))=True:=eq_true k2
    have k4:(0+q.value.toNat*1+1<=(bE (eV k) d).length)=True:=eq_true (by rw[cK,hthl];omega)
    have e4:=oA (l:=(bE (eV k) d).map AV.bool) (n:=q.value.toNat) (.bool true) (by rw[List.length_map,cK,hthl];omega)
    rw[eL]at e4
    simp only[g13,g17,g9,k0,k2',k4,e4,go_sem,seval]
    refine And.intro (by kernel_rfl) ?_
    simp only[aM hb2,go_sem,seval]
    rw[mC]
    refine⟨rfl,?_,g1',rfl,rfl⟩
    rw[hru,lU,hkq]
    simp
 ·rintro d x r env hp hes ⟨rfl,g1,g13,g17,g9⟩
  obtain⟨hx,hlt⟩:=hZ hes
  have hb2:(d++x::r).length<=big:=by rw[<-hes];simp;omega
  have e1:decide ((d.length:Int)<k.inputs)=true:=by simp;omega
  have e2:((d.length:Int)<(k.values.es.length:Int))=True:=eq_true (by omega)
  have g1':=g1
  have g13':=g13
  simp only[aA.cells,Sl.av,FS]at g1 g13
  have hfl2:=rW (V:=k.values.es.length) (i:=d.length) (by omega)
  have e3:(0+d.length*1+1<=(kI k.values.es.length d.length).length)=True:=eq_true (by omega)
  have e4:=oA (l:=(kI k.values.es.length d.length).map AV.bool) (n:=d.length) (.bool true) (by simp;omega)
  rw[eL,B1 (by omega)]at e4
  simp only[cf28L0,cf28E0,e1,e2,g1,g13,g17,g9,e3,e4,aM hb2,go_sem,seval]
  rw[List.length_append]
  exact⟨rfl,rfl,rfl,rfl⟩
end
end Go.Tev
end
section
namespace Go.Tev
theorem wru{n:Nat}(h:n<=big):wr .u64 (n:Int)=n:=by
 simp only[big]at h
 simp only[wr]
 rw[if_pos ⟨by omega,by omega⟩]
theorem PA{n:Nat}(h:n<=big):bits IntKind.u64 (fun x1 x2=>x1 &&& x2) (n:Int) 4294967295 = .int .u64 n:=by
 simp only[big]at h
 have e2:(BitVec.ofInt 64 (n:Int) &&& BitVec.ofInt 64 4294967295).toNat=n:=by
  rw[BitVec.toNat_and]
  have e3:(BitVec.ofInt 64 4294967295).toNat=2 ^ 32-1:=by decide
  have e4:(BitVec.ofInt 64 (n:Int)).toNat=n:=by
   rw[BitVec.toNat_ofInt];omega
  rw[e3,e4,Nat.and_two_pow_sub_one_eq_mod];omega
 show AV.int .u64 (IntKind.u64.wrap ((BitVec.ofInt 64 (n:Int) &&& BitVec.ofInt 64 4294967295).toNat:Int))=_
 rw[e2]
 have:=wru (n:=n) (by simp only[big];omega)
 congr 1
 simp only[IntKind.wrap,IntKind.signed,IntKind.bits,Bool.false_and,Bool.false_eq_true,if_false]
 omega
theorem zO{a b:Int}(h:bits IntKind.u64 (fun x1 x2=>x1 &&& x2) a 4294967295 = .int .u64 b):JO .and [.int .u64 a,.int .u64 4294967295]=some (.int .u64 b,.pat [] []):=by
 rw[<-h];rfl
def fl2(n:Nat)(x y:AV):List AV:=(List.replicate n [x,y]).flatten
theorem uM(n:Nat)(x y:AV):(fl2 n x y).length=n*2:=by
 induction n with
 |zero=>rfl
 |succ n ih=>simp only[fl2,List.replicate_succ,List.flatten_cons,List.length_append,List.length_cons,List.length_nil]at *;omega
theorem uN(m n:Nat)(x y:AV):fl2 (m+n) x y=fl2 m x y++fl2 n x y:=by
 simp only[fl2]
 rw[<-List.replicate_append_replicate,List.flatten_append]
theorem uL{m n:Nat}(h:m<=n)(x y:AV)(tl:List AV):(fl2 n x y++tl).take (m*2)=fl2 m x y:=by
 obtain⟨k,rfl⟩:∃k,n=m+k:=⟨n-m,by omega⟩
 rw[uN,List.append_assoc,List.take_append_of_le_length (by rw[uM];exact Nat.le_refl _),List.take_of_length_le (by rw[uM];exact Nat.le_refl _)]
theorem FA{m n:Nat}(h:m<=n)(x y:AV)(tl:List AV):(fl2 n x y++tl).drop (m*2)=fl2 (n-m) x y++tl:=by
 obtain⟨k,rfl⟩:∃k,n=m+k:=⟨n-m,by omega⟩
 rw[uN,List.append_assoc,List.drop_left' (uM m x y),Nat.add_sub_cancel_left]
theorem JM(l:List AV)(n:Nat)(a b:Int)(h:∀v∈l,v = .agg [.int .i64 a,.int .i64 b])(hn:l.length=n):bG 2 true l=some (fl2 n (.int .i64 a) (.int .i64 b)):=by
 subst hn
 induction l with
 |nil=>rfl
 |cons v r ih=>
  have hv:=h v (by simp)
  subst hv
  have ih':=ih (fun w hw=>h w (List.mem_cons_of_mem _ hw))
  simp only[List.length_cons]
  rw[show r.length+1=1+r.length from by omega,uN]
  simp[bG,ih',AV.fits,fl2,AV.cells]
  rfl
theorem JS{h:Hp}{k e esz:Nat}{ag ti:Bool}{cs es:List AV}(hg:h.get k=some (e,.blk cs esz ag ti false))(hu:bG esz ag es=some cs)(he:∀x∈es,El esz ag x) :
  Tev.conv h (.rf k e 0 es.length es.length)=some (.os es esz ag):=by
 obtain⟨cs',h1,h2,h3,h4⟩:=cL he
 rw[hu]at h1
 cases h1
 have h5:=h4 []
 rw[List.append_nil]at h5
 simp[Tev.conv,hg,h5,D4 he]
def rep(x y:AV)(V n:Nat):List AV:=fl2 n x y++fl2 (V-n) (.int .i64 0) (.int .i64 0)
theorem tT(x y:AV){V n:Nat}(h:n<=V):(rep x y V n).length=V*2:=by simp only[rep,List.length_append,uM];omega
theorem MK(x y:AV){V n m:Nat}(h:n<=V)(hm2:m<=V-n):dJ (rep x y V n) (n*2) (fl2 m x y)=rep x y V (n+m):=by
 simp only[dJ,rep]
 rw[uL (Nat.le_refl n),uM,<-Nat.add_mul]
 rw[Nat.add_mul,<-List.drop_drop,FA (Nat.le_refl n),Nat.sub_self]
 have:fl2 (V-n) (.int .i64 0) (.int .i64 0)=fl2 (V-n) (.int .i64 0) (.int .i64 0)++[]:=by simp
 rw[show fl2 0 x y=[] from rfl,List.nil_append,this,FA hm2,uN,List.append_nil]
 congr 2
 omega
theorem xN{h:Hp}{x y src:AV}{V n j cap off:Nat}{rd:List Nat}(hn:n<=V)(hg:h.get 5=some (0,.blk (rep x y V n) 2 true true false))(hs:aP h 2 true src=some (fl2 j x y,j,rd))(ho:V-n=0/\off<=V*2\/off=n*2) :
  FF h 2 true [.rf 5 0 off (V-n) cap,src]=some (.int .i64 (min j (V-n):Nat),.pat (5::rd) [⟨5,0,.blk (rep x y V (n+min j (V-n))) 2 true true false⟩]):=by
 have hl:=tT x y hn
 simp only[FF,hg,hs]
 rw[if_pos ⟨trivial,by omega⟩]
 have ht:(fl2 j x y).take (min j (V-n)*2)=fl2 (min j (V-n)) x y:=by
  have:=uL (Nat.min_le_left j (V-n)) x y []
  rwa [List.append_nil]at this
 rw[ht]
 rcases ho with ⟨h0,hoff⟩|rfl
 ·rw[h0,Nat.min_zero,show fl2 0 x y=[] from rfl]
  simp[dJ]
 ·rw[MK x y hn (Nat.min_le_right _ _)]
theorem zH(n:Nat)(a b:Int):bU (fl2 n (.int .i64 a) (.int .i64 b))=true:=by
 induction n with
 |zero=>rfl
 |succ n ih=>
  rw[show n+1=1+n from by omega,uN]
  simp only[fl2]at ih
  simp[fl2,bU,ih]
  exact⟨rfl,rfl⟩
theorem MB{h:Hp}{cs:List AV}{n j:Nat}(hg:h.get 5=some (0,.blk cs 2 true true false))(hj:j<n):gB h 2 true false false [.rf 5 0 0 n n,.int .i64 j]=some (.rf 5 0 (j*2) (n-j) (n-j),.pat [5] []):=by
 simp only[gB,gS,gW,hg,Bool.false_eq_true,if_false,if_true,Option.getD_none,Option.getD_some]
 rw[if_pos ⟨trivial,trivial,by omega,by omega,by omega,by omega,by simp,.inr (.inr trivial)⟩,if_neg (by omega)]
 simp
theorem MC{h:Hp}{cs:List AV}{n j:Nat}(hg:h.get 5=some (0,.blk cs 2 true true false))(hj:j<=n):gB h 2 false true false [.rf 5 0 0 n n,.int .i64 j]=some (.rf 5 0 0 j n,.pat [5] []):=by
 simp only[gB,gS,gW,hg,Bool.false_eq_true,if_false,if_true,Option.getD_none,Option.getD_some]
 rw[if_pos ⟨trivial,trivial,by omega,by omega,by omega,by omega,by simp,.inl trivial⟩]
 simp
section
variable{pg:Pg}
theorem c73(hf:pg.fs 73=some cf73)(n:Nat)(hn:n<=big):Ret pg 73 [.int .u64 1,.int .u64 n] (.tup [.int .u64 0,.int .u64 n]):=by
 refine Ret.ofX hf ?_
 unfold cf73
 have m0:bits IntKind.u64 (fun x1 x2=>x1 &&& x2) 0 4294967295 = .int .u64 0:=by rfl
 have m1:bits IntKind.u64 (fun x1 x2=>x1 &&& x2) 1 4294967295 = .int .u64 1:=by rfl
 have mn:bits IntKind.u64 (fun x1 x2=>x1 &&& x2) (n:Int) 4294967295 = .int .u64 n:=PA hn
 have s0:Int.fdiv 0 (2 ^ min 32 64)=0:=by decide
 have s1:Int.fdiv 1 (2 ^ min 32 64)=0:=by decide
 have sn:(n:Int).fdiv (2 ^ min 32 64)=0:=by
  simp only[big]at hn
  rw[Int.fdiv_eq_ediv_of_nonneg _ (by decide)]
  exact Int.ediv_eq_zero_of_lt (by omega) (by have:(2 ^ min 32 64:Int)=4294967296:=by decide
                                              omega)
 have wn:wr .u64 (n:Int)=n:=wru hn
 have w0:wr .u64 0=0:=by rfl
 simp only[↓zO m0,↓zO m1,↓zO mn,s0,s1,sn,wn,w0,Int.one_mul,Int.zero_mul,Int.mul_zero,Int.zero_add,Int.add_zero,go_sem,seval]
theorem c47(hf:pg.fs 47=some cf47)(h73:pg.fs 73=some cf73)(n:Nat)(hn:n<=big):Ret pg 47 [.int .u64 1,.int .u64 n] (.tup [.int .u64 0,.int .u64 n]):=by
 refine Ret.ofX hf ?_
 unfold cf47
 simp only[go_sem,seval]
 refine aB (c73 h73 n hn) (by simp only[go_sem,seval]) rfl ?_
 simp only[go_sem,seval]
theorem c29(hf:pg.fs 29=some cf29)(h47:pg.fs 47=some cf47)(h73:pg.fs 73=some cf73)(nl cl:Bool)(a b:Int)(n:Nat)(hn:n<=big) :
  bJ pg 29 [.sl nl [.agg [.int .i64 a,.int .i64 b]] cl,.int .i64 n] (kO 2 true (List.replicate n (.agg [.int .i64 a,.int .i64 b]))):=by
 refine bJ.ofX hf ?_
 unfold cf29
 have e0:decide ((n:Int)<0)=false:=by simp
 have w1:wr .u64 1=1:=by rfl
 have wn:wr .u64 (n:Int)=n:=wru hn
 have wi:wr .i64 (n:Int)=n:=LU (by simp only[big]at hn;omega)
 have l1:decide (0<(0:Int))=false:=by decide
 have l2:decide (9223372036854775807<(n:Int))=false:=by simp only[big]at hn;simp;omega
 have hn':((n:Int)<=1073741824)=True:=by simp only[big]at hn;simp;omega
 have hfl:(List.replicate n [AV.int IntKind.i64 0,AV.int IntKind.i64 0]).flatten=rep (.int .i64 a) (.int .i64 b) n 0:=by simp[rep,fl2]
 have hl0:(0+n*2<=(rep (.int .i64 a) (.int .i64 b) n 0).length)=True:=eq_true (by rw[tT _ _ (Nat.zero_le n)];omega)
 simp only[e0,w1,wn,wi,go_sem,seval]
 refine aB (c47 h47 h73 n hn) (by simp only[go_sem,seval]) rfl ?_
 have hc0:=xN (h:=Hp.put [] 5 0 (.blk (rep (.int .i64 a) (.int .i64 b) n 0) 2 true true false)) (x:=.int .i64 a) (y:=.int .i64 b) (src:=.sl nl [.agg [.int .i64 a,.int .i64 b]] cl) (V:=n) (n:=0) (j:=1) (cap:=n) (off:=0) (rd:=[]) (Nat.zero_le n) (by simp only[go_sem,seval])
  (by simp[aP,bG,AV.fits,fl2,AV.cells];rfl) (.inr rfl)
 rw[Nat.sub_zero,Nat.zero_add]at hc0
 simp only[wi,l2,hn',hfl,↓hc0,go_sem,seval]
 refine o8 (α:=Nat) (fun j=>n-j) (fun j env hp=>env=cf29E0 (.rf 5 0 0 n n) (.int .i64 j)/\j<=n/\(0<n->0<j)/\hp.get 5=some (0,.blk (rep (.int .i64 a) (.int .i64 b) n j) 2 true true false)) (min 1 n) ?_ ?_
 ·refine⟨rfl,by omega,by omega,?_⟩
  simp only[go_sem,seval]
 ·rintro j env hp ⟨rfl,hj,hj0,hg⟩
  by_cases hjn:j<n
  ·have e1:decide ((j:Int)<(n:Int))=true:=by simp;omega
   have e2:((j:Int)<=(n:Int))=True:=eq_true (by omega)
   have hsr:aP hp 2 true (.rf 5 0 0 j n)=some (fl2 j (.int .i64 a) (.int .i64 b),j,[5]):=by
    have ht:((rep (.int .i64 a) (.int .i64 b) n j).drop 0).take (j*2)=fl2 j (.int .i64 a) (.int .i64 b):=by
     rw[List.drop_zero,rep]
     exact uL (Nat.le_refl j) _ _ _
    simp only[aP,hg]
    rw[ht,if_pos ⟨trivial,by rw[tT _ _ hj];omega,zH _ _ _⟩]
   have hc:=xN (cap:=n-j) hj hg hsr (.inr rfl)
   have hw:wr .i64 ((j:Int)+(min j (n-j):Nat))=((j+min j (n-j):Nat):Int):=by
    simp only[big]at hn
    rw[aV (by omega) (by omega)];omega
   simp only[cf29L0,cf29E0,e1,e2,↓MB hg hjn,↓MC hg hj,↓hc,hw,go_sem,seval]
   refine And.intro (by kernel_rfl) ?_
   refine⟨j+min j (n-j),by omega,?_,by omega,by omega,?_⟩
   ·rfl
   ·simp only[go_sem,seval]
  ·obtain rfl:j=n:=by omega
   have e1:decide ((j:Int)<(j:Int))=false:=by simp
   simp only[cf29L0,cf29E0,e1,hg,go_sem,seval]
   have hu:=JM (List.replicate j (.agg [.int .i64 a,.int .i64 b])) j a b (fun v hv=>(List.mem_replicate.1 hv).2) (by simp)
   have hcv:=JS (es:=List.replicate j (.agg [.int .i64 a,.int .i64 b])) hg (by rw[hu,rep,Nat.sub_self];simp[fl2]) (fun v hv=>by rw[(List.mem_replicate.1 hv).2];exact⟨rfl,rfl,rfl⟩)
   rw[List.length_replicate]at hcv
   exact⟨_,hcv,.inr rfl⟩
end
end Go.Tev
end
section
namespace Go.Tev
def zM(l:Lin):Bool:=(l.ts.es.all fun c => !decide (35<(c.v.bs.length:Int)))&&decide ((l.ts.es.length:Int)<=14)
def B3(s:bI):Bool:=(s.dims.es.all zM)&&(decide ((s.dims.es.length:Int)<=8)&&decide ((s.row.bs.length:Int)<=35))
def wW(l:List aJ):Bool:=(l.all fun s => !(decide (4<(s.args.es.length:Int))||decide (20<(s.op.bs.length:Int))))&&decide ((l.length:Int)<=10)
def uO(t:Typ):Bool:=decide ((t.elem.bs.length:Int)<=35)&&B3 t.shape
def BQ(k:aA)(l:List aD)(vs:List Typ):List AV:=
 [.sl k.vars.nl (k.vars.es.map Str.av) k.vars.cl,.sl k.wher.nl (k.wher.es.map Lin.av) k.wher.cl,.int .i64 k.inputs,.sl k.values.nl (vs.map Typ.av) k.values.cl,.sl k.list.nl (l.map aD.av) k.list.cl,.sl k.results.nl (k.results.es.map aG) k.results.cl]
def qX(p:aC)(l:List aC):List AV:=
 [.str p.op.bs,.int .i64 p.num,.int .i64 p.value,.str p.name.bs,.sl p.at_.nl (p.at_.es.map Lin.av) p.at_.cl,.bool p.dyn,.int .i64 p.check,.sl p.fn.nl (p.fn.es.map aJ.av) p.fn.cl,.sl p.knl (l.map aC.av) p.kcl]
mutual
def sF:aC->Bool
 |.mk op _ _ name at_ _ _ fn _ kids _=>zN kids&&(B3 ⟨⟨[],by decide⟩,at_⟩&&wW fn.es&&decide ((name.bs.length:Int)<=35)&&decide ((op.bs.length:Int)<=20))
def zN:List aC->Bool
 |[]=>true
 |p::r=>sF p&&zN r
end
theorem B4:∀l,zN l=l.all sF
 |[]=>by simp[zN]
 |p::r=>by simp[zN,B4 r]
theorem FD(p:aC):sF p=(p.kids.all sF&&(B3 ⟨⟨[],by decide⟩,p.at_⟩&&wW p.fn.es&&decide ((p.name.bs.length:Int)<=35)&&decide ((p.op.bs.length:Int)<=20))):=by
 cases p;rw[sF,B4];rfl
def wX(p:aC):Bool:=decide (pK p<=60)&&sF p
def B2(q:aD):Bool:=wX q.body&&wX q.index && !decide (8<(q.space.es.length:Int))&&wW q.fn.es
def zL(k:aA):Bool:=k.list.es.all B2&&(k.values.es.all uO&&(decide ((k.list.es.length:Int)<=16)&&decide ((k.values.es.length:Int)<=20)&&decide ((k.vars.es.length:Int)<=13)&&decide ((k.wher.es.length:Int)<=12)&&decide ((k.results.es.length:Int)<=10)))
section
variable{pg:Pg}
theorem c56(hf:pg.fs 56=some cf56)(l:Lin):Ret pg 56 [l.av] (.bool (zM l)):=by
 have hb:=l.ts.ok
 refine Ret.ofX hf ?_
 unfold cf56
 simp only[go_sem,seval]
 refine dS l.ts.es (fun d e=>eK e (some 3) (.int .i64 d.length)) (fun d r hp=>hp.get 1=some (0,.blk [.int .i64 l.c,.sl l.ts.nl (l.ts.es.map bS.av) l.ts.cl] 2 true true false)/\(l.ts.es.all fun c => !decide (35<(c.v.bs.length:Int)))=(r.all fun c => !decide (35<(c.v.bs.length:Int)))) rfl ?_ ?_ ?_
 ·simp only[go_sem,seval]
 ·rintro hp ⟨h1,hI⟩
  simp only[cf56L0,cf56M0,h1,go_sem,seval]
  simp[zM,hI]
 ·rintro d x r hp hes ⟨h1,hI⟩
  rw[hes]at hb hI h1
  have h0:=h1
  rw[hes]
  simp only[cf56L0,cf56M0,h1,go_sem,seval]
  cases hd:decide (35<(x.v.bs.length:Int))
  ·simp only[aM hb,go_sem,seval]
   exact⟨h0,by simpa[hd] using hI⟩
  ·simp only[go_sem,seval]
   simp only[zM,hes,hI,List.all_cons,hd]
   rfl
theorem c42(hf:pg.fs 42=some cf42)(h56:pg.fs 56=some cf56)(s:bI):Ret pg 42 [s.av] (.bool (B3 s)):=by
 have hb:=s.dims.ok
 refine Ret.ofX hf ?_
 unfold cf42
 simp only[go_sem,seval]
 refine dS s.dims.es (fun d e=>eK e (some 3) (.int .i64 d.length)) (fun d r hp=>hp.get 1=some (0,.blk [.str s.row.bs,.sl s.dims.nl (s.dims.es.map Lin.av) s.dims.cl] 2 true true false)/\(s.dims.es.all zM)=(r.all zM)) rfl ?_ ?_ ?_
 ·simp only[go_sem,seval]
 ·rintro hp ⟨h1,hI⟩
  repeat' (first|simp only[cf42L0,cf42M0,h1, *,go_sem,seval]|refine aN (fun _=>?_) (fun _=>?_)|refine aO (fun _=>?_) (fun _=>?_)|refine And.intro (by kernel_rfl) ?_)
  all_goals (simp_all [B3])
  all_goals (intro h;omega)
 ·rintro d x r hp hes ⟨h1,hI⟩
  have hx:=c56 h56 x
  rw[Lin.avc]at hx
  rw[hes]at hb hI h1
  have h0:=h1
  rw[hes]
  simp only[cf42L0,cf42M0,h1,go_sem,seval]
  refine aB (hx) (by simp only[go_sem,seval]) rfl ?_
  cases hd:zM x
  ·simp only[go_sem,seval]
   simp only[B3,hes,hI,List.all_cons,hd]
   rfl
  ·simp only[aM hb,go_sem,seval]
   exact⟨h0,by simpa[hd] using hI⟩
theorem c26(hf:pg.fs 26=some cf26)(nl cl:Bool)(l:List aJ)(hb:l.length<=big):Ret pg 26 [.sl nl (l.map aJ.av) cl] (.bool (wW l)):=by
 refine Ret.ofX hf ?_
 unfold cf26
 simp only[go_sem,seval]
 refine dS l (fun d e=>eK e (some 3) (.int .i64 d.length)) (fun d r hp=>(l.all fun s => !(decide (4<(s.args.es.length:Int))||decide (20<(s.op.bs.length:Int))))=(r.all fun s => !(decide (4<(s.args.es.length:Int))||decide (20<(s.op.bs.length:Int))))) rfl ?_ ?_ ?_
 ·rfl
 ·rintro hp hI
  repeat' (first|simp only[cf26L0,cf26M0, *,go_sem,seval]|refine aN (fun _=>?_) (fun _=>?_)|refine aO (fun _=>?_) (fun _=>?_)|refine And.intro (by kernel_rfl) ?_)
  all_goals (simp_all [wW])
 ·rintro d x r hp hes hI
  rw[hes]at hb hI
  rw[hes]
  simp only[cf26L0,cf26M0,go_sem,seval]
  cases hd:decide (4<(x.args.es.length:Int))
  ·simp only[go_sem,seval]
   cases hd2:decide (20<(x.op.bs.length:Int))
   ·simp only[aM hb,go_sem,seval]
    simpa[hd,hd2] using hI
   ·simp only[go_sem,seval]
    simp only[wW,hes,hI,List.all_cons,hd,hd2]
    rfl
  ·simp only[go_sem,seval]
   simp only[wW,hes,hI,List.all_cons,hd]
   rfl
theorem c27(hf:pg.fs 27=some cf27)(h42:pg.fs 42=some cf42)(h56:pg.fs 56=some cf56)(t:Typ):Ret pg 27 [t.av] (.bool (uO t)):=by
 have hx:=c42 h42 h56 t.shape
 rw[bI.avc]at hx
 refine Ret.ofX hf ?_
 unfold cf27
 repeat' (first|simp only[*,go_sem,seval]|refine aN (fun _=>?_) (fun _=>?_)|refine aO (fun _=>?_) (fun _=>?_)|(refine aB hx (by simp only[go_sem,seval]) rfl ?_)|refine And.intro (by kernel_rfl) ?_)
 all_goals (simp_all [uO])
 all_goals (intro h;omega)
theorem c40(hf:pg.fs 40=some cf40):∀p:aC,p.ok->Ret pg 40 [p.av] (.int .i64 (pK p)):=by
 refine aC.ind' fun p ih hp=>?_
 obtain⟨hb,hk⟩:=(aC.ok_iff p).1 hp
 refine Ret.ofX hf ?_
 unfold cf40
 simp only[go_sem,seval]
 refine dS p.kids (fun d e=>eK (eK e (some 4) (.int .i64 d.length)) (some 3) (.int .i64 (mU 1 d))) (fun d r hp=>hp.get 1=some (0,.blk p.cells 9 true true false)) (by simp only[mU];rfl) ?_ ?_ ?_
 ·simp only[go_sem,seval]
  rfl
 ·rintro hp h1
  simp only[aC.cells,Sl.av,aC.kav]at h1
  simp only[cf40L0,cf40M0,h1,go_sem,seval]
  exact(BK p).symm
 ·rintro d x r hp hes h1
  have h0:=h1
  simp only[aC.cells,Sl.av,aC.kav]at h1
  have hx:=ih x (by rw[hes];simp) (hk x (by rw[hes];simp))
  rw[hes]at hb h1
  rw[hes]
  have h2:hp.get 1=some (0,.blk [.str p.op.bs,.int .i64 p.num,.int .i64 p.value,.str p.name.bs,.sl p.at_.nl (p.at_.es.map Lin.av) p.at_.cl,.bool p.dyn,.int .i64 p.check,.sl p.fn.nl (p.fn.es.map aJ.av) p.fn.cl,.sl p.knl ((d++x::r).map aC.av) p.kcl] 9 true true false):=h1
  simp only[cf40L0,cf40M0,h2,go_sem,seval]
  refine aB (hx) (by simp only[go_sem,seval]) rfl ?_
  simp only[aM hb,qZ,go_sem,seval]
  exact h0
theorem c41(hf:pg.fs 41=some cf41)(h42:pg.fs 42=some cf42)(h56:pg.fs 56=some cf56)(h26:pg.fs 26=some cf26):∀p:aC,p.ok->Ret pg 41 [p.av] (.bool (sF p)):=by
 refine aC.ind' fun p ih hp=>?_
 obtain⟨hb,hk⟩:=(aC.ok_iff p).1 hp
 have a1:=c42 h42 h56 ⟨⟨[],by decide⟩,p.at_⟩
 have a2:=c26 h26 p.fn.nl p.fn.cl p.fn.es p.fn.ok
 rw[bI.avc]at a1
 refine Ret.ofX hf ?_
 unfold cf41
 simp only[go_sem,seval]
 refine dS p.kids (fun d e=>eK e (some 3) (.int .i64 d.length)) (fun d r hp=>hp.get 1=some (0,.blk (qX p p.kids) 9 true true false)/\p.kids.all sF=r.all sF) rfl ?_ ?_ ?_
 ·exact⟨by simp only[go_sem,seval];rfl,rfl⟩
 ·rintro hp ⟨h1,hI⟩
  simp only[qX]at h1
  repeat' (first|simp only[cf41L0,cf41M0, *,go_sem,seval]|refine aN (fun _=>?_) (fun _=>?_)|refine aO (fun _=>?_) (fun _=>?_)|(refine aB a1 (by simp only[go_sem,seval]) rfl ?_)|(refine aB a2 (by simp only[go_sem,seval]) rfl ?_)|refine And.intro (by kernel_rfl) ?_)
  all_goals (clear h1 a1 a2 hf h42 h56 h26 ih)
  all_goals (rw[FD,hI])
  all_goals (simp_all)
  all_goals (try (intros;omega))
 ·rintro d x r hp hes ⟨h1,hI⟩
  have hx:=ih x (by rw[hes];simp) (hk x (by rw[hes];simp))
  have hI2:=hI
  rw[hes]at hb hI h1
  have h0:=h1
  simp only[qX]at h1
  rw[hes]
  have hx':=hx
  rw[aC.avc]at hx'
  simp only[cf41L0,cf41M0,h1,go_sem,seval]
  first|refine aB hx (by simp only[go_sem,seval]) rfl ?_|refine aB hx' (by simp only[go_sem,seval]) rfl ?_
  cases hd:sF x
  ·simp only[go_sem,seval]
   rw[FD,hI2,List.all_cons,hd]
   rfl
  ·simp only[aM hb,go_sem,seval]
   exact⟨h0,by rw[hI,List.all_cons,hd];rfl⟩
theorem c25(hf:pg.fs 25=some cf25)(h40:pg.fs 40=some cf40)(h41:pg.fs 41=some cf41)(h42:pg.fs 42=some cf42)(h56:pg.fs 56=some cf56)(h26:pg.fs 26=some cf26)(p:aC)(hp:p.ok):Ret pg 25 [p.av] (.bool (wX p)):=by
 have a1:=c40 h40 p hp
 have a2:=c41 h41 h42 h56 h26 p hp
 rw[aC.avc]at a1 a2
 refine Ret.ofX hf ?_
 unfold cf25
 repeat' (first|simp only[*,go_sem,seval]|refine aN (fun _=>?_) (fun _=>?_)|refine aO (fun _=>?_) (fun _=>?_)|(refine aB a1 (by simp only[go_sem,seval]) rfl ?_)|(refine aB a2 (by simp only[go_sem,seval]) rfl ?_)|refine And.intro (by kernel_rfl) ?_)
 all_goals (simp_all [wX])
 all_goals (try (intros;omega))
theorem c8(hf:pg.fs 8=some cf8)(h25:∀p:aC,p.ok->Ret pg 25 [p.av] (.bool (wX p)))(h26:pg.fs 26=some cf26)(h27:∀t:Typ,Ret pg 27 [t.av] (.bool (uO t)))(k:aA)(hk:∀q∈k.list.es,q.body.ok/\q.index.ok):Ret pg 8 [k.av] (.bool (zL k)):=by
 have hb:=k.list.ok
 have hv:=k.values.ok
 refine Ret.ofX hf ?_
 unfold cf8
 simp only[aA.av,go_sem,seval]
 refine dS k.list.es (fun d e=>eK e (some 3) (.int .i64 d.length)) (fun d r hp=>hp.get 1=some (0,.blk (BQ k k.list.es k.values.es) 6 true true false)/\k.list.es.all B2=r.all B2) rfl ?_ ?_ ?_
 ·exact⟨by simp only[go_sem,seval];rfl,rfl⟩
 ·rintro hp ⟨h1,hI⟩
  have h0:=h1
  simp only[BQ]at h1
  simp only[cf8L0,cf8M0,h1,go_sem,seval]
  refine dS k.values.es (fun d e=>eK e (some 4) (.int .i64 d.length)) (fun d r hp=>hp.get 1=some (0,.blk (BQ k k.list.es k.values.es) 6 true true false)/\k.values.es.all uO=r.all uO) rfl ?_ ?_ ?_
  ·exact⟨h0,rfl⟩
  ·rintro hp ⟨h1,hI2⟩
   simp only[BQ]at h1
   repeat' (first|simp only[cf8L1,cf8M1,h1, *,go_sem,seval]|refine aN (fun _=>?_) (fun _=>?_)|refine aO (fun _=>?_) (fun _=>?_)|refine And.intro (by kernel_rfl) ?_)
   all_goals (clear h1 h25 h26 h27 hb hv hf)
   all_goals (rw[zL,hI,hI2])
   all_goals (simp_all)
   all_goals (try (intros;omega))
  ·rintro d x r hp hes ⟨h1,hI2⟩
   have hx:=h27 x
   rw[Typ.avc]at hx
   have hI3:=hI2
   rw[hes]at hv hI2 h1
   have h0:=h1
   simp only[BQ]at h1
   rw[hes]
   simp only[cf8L1,cf8M1,h1,go_sem,seval]
   refine aB (hx) (by simp only[go_sem,seval]) rfl ?_
   cases hd:uO x
   ·simp only[go_sem,seval]
    rw[zL,hI,hI3,List.all_cons,hd]
    simp
   ·simp only[aM hv,go_sem,seval]
    exact⟨h0,by rw[hI2,List.all_cons,hd];rfl⟩
 ·rintro d x r hp hes ⟨h1,hI⟩
  obtain⟨x1,x2⟩:=hk x (by rw[hes];simp)
  have a1:=h25 x.body x1
  have a2:=h25 x.index x2
  have a3:=c26 h26 x.fn.nl x.fn.cl x.fn.es x.fn.ok
  rw[aC.avc]at a1 a2
  have hI3:=hI
  rw[hes]at hb hI h1
  have h0:=h1
  simp only[BQ]at h1
  have hf8:zL k=(B2 x&&(r.all B2&&(k.values.es.all uO&&(decide ((k.list.es.length:Int)<=16)&&decide ((k.values.es.length:Int)<=20)&&decide ((k.vars.es.length:Int)<=13)&&decide ((k.wher.es.length:Int)<=12)&&decide ((k.results.es.length:Int)<=10))))):=by
   rw[zL,hI3,List.all_cons,Bool.and_assoc]
  rw[hes]
  have hw:=aM hb
  rw[List.all_cons]at hI
  have hq:B2 x=(wX x.body&&wX x.index && !decide (8<(x.space.es.length:Int))&&wW x.fn.es):=rfl
  rw[hq]at hf8 hI
  clear hq hI3 hes
  clear h25 h27 hk
  repeat' (first|simp only[cf8L0,cf8M0,hw, *,go_sem,seval]|refine aN (fun _=>?_) (fun _=>?_)|refine aO (fun _=>?_) (fun _=>?_)|(refine aB a1 (by simp only[go_sem,seval]) rfl ?_)|(refine aB a2 (by simp only[go_sem,seval]) rfl ?_)|(refine aB a3 (by simp only[go_sem,seval]) rfl ?_)|refine And.intro (by kernel_rfl) ?_)
  all_goals (first|(simp_all;done)|skip)
end
end Go.Tev
end
section
namespace Go.Tev
def cX(q:aD):List Int:=bR q.body++if decide (q.kind=3) then bR q.index++[q.source] else []
theorem jS(p:aC):(bR p).length<=p.sz:=by
 have e1:=oZ (jE (dU p))
 have e2:=kX (dU p)
 have e3:=pH p
 simp only[bR]
 omega
section
variable{pg:Pg}{kb:Nat}
theorem DN{esz bytes s k1:Nat}{ag:Bool}{h:Hp}{v:AV}{es xs:List AV}{nl cl:Bool}{Q:AV->Eff->Prop}{t:Tok Q}(o:Own h k1 esz ag v es)(hk1:k1≠kb+s)(he:∀x∈es,El esz ag x)(hx:∀x∈xs,El esz ag x)
  (hl:es.length+xs.length<=1073741824) (hb:bytes<=65536)
  (q1:xs=[]->∀rd,(rd=[]\/rd=[k1])->Q v (.pat rd []))
  (q2:xs≠[]->∀v' rd pa,Own (Eff.app h (.pat rd pa)) (kb+s) esz ag v' (es++xs)->(∀k,k≠kb+s->k≠k1->(Eff.app h (.pat rd pa)).get k=h.get k) ->
   ((∃e ob,rd=[kb+s]/\pa=[⟨kb+s,e,ob⟩])\/(∃e1 o1 e ob,rd=[kb+s,k1]/\pa=[⟨k1,e1,o1⟩,⟨kb+s,e,ob⟩]))->Q v' (.pat rd pa)) :
  XO pg kb (.app esz ag bytes) s h [v,.sl nl xs cl] Q t:=by
 rw[gR]
 obtain⟨ds,d1,d2,d3,_⟩:=cL hx
 simp only[l8,aP,d1,Option.map_some]
 by_cases hxs:xs=[]
 ·subst hxs
  cases d1
  rcases o with ⟨rfl,nl',cl',rfl,hc⟩|⟨e,cs,rfl,hg,hu⟩
  ·simp only[kL,List.length_nil,if_true]
   exact q1 rfl _ (.inl rfl)
  ·obtain⟨cs',c1,c2,_,_⟩:=cL he
   rw[hu]at c1;cases c1
   simp only[kL,hg,List.length_nil,if_true,true_and,Nat.zero_add]
   rw[if_pos (by omega)]
   exact q1 rfl _ (.inr rfl)
 ·have hn:xs.length≠0:=by simpa using hxs
  rcases o with ⟨rfl,nl',cl',rfl,hc⟩|⟨e,cs,rfl,hg,hu⟩
  ·simp only[kL,hn,if_false,hc,List.length_nil,Nat.zero_add,Bool.true_and]
   have hlx:xs.length<=1073741824:=by simpa using hl
   simp only[hlx,hb,decide_true,Bool.and_self,if_true,bG,List.nil_append]
   refine q2 hxs _ _ _ (.inr ⟨_,ds,rfl,?_,by simpa using d1⟩) ?_ (.inl ⟨_,_,rfl,rfl⟩)
   ·rw[kK,aH,if_pos rfl]
   ·intro k hk _
    rw[kK,aH,if_neg (Ne.symm hk)]
  ·obtain⟨cs',c1,c2,_,_⟩:=cL he
   rw[hu]at c1;cases c1
   have h1:¬(es.length+xs.length<=es.length):=by omega
   have h2:(k1==kb+s)=false:=by simpa using hk1
   simp only[kL,hg,hn,if_false,true_and,Nat.zero_add]
   rw[if_pos (by omega)]
   simp only[h1,if_false,hl,hb,decide_true,Bool.true_and,h2,Bool.not_false,if_true,Bool.false_eq_true]
   refine q2 hxs _ _ _ (.inr ⟨h.next (kb+s),cs++ds,by simp,?_,iJ hu d1⟩) ?_ (.inr ⟨_,_,_,_,rfl,rfl⟩)
   ·rw[uW,aH,if_pos rfl]
    simp[<-c2]
   ·intro k hk hk2
    rw[uW,aH,if_neg (Ne.symm hk),aH,if_neg (Ne.symm hk2)]
end
section
variable{pg:Pg}
theorem c30(S:J1 pg)(hf:pg.fs 30=some cf30)(h48:pg.fs 48=some cf48)(h74:pg.fs 74=some cf74)(q:aD)(h1:q.body.ok)(h2:q.index.ok)(hsz:q.body.sz+q.index.sz+1<=big) :
  bJ pg 30 [q.av] (kO 1 false ((cX q).map aG)):=by
 have a1:=c48 S h48 h74 q.body h1 (by omega)
 have a2:=c48 S h48 h74 q.index h2 (by omega)
 rw[aC.avc]at a1 a2
 have l1:=jS q.body
 have l2:=jS q.index
 simp only[big]at hsz
 refine bJ.ofX hf ?_
 unfold cf30
 simp only[go_sem,seval]
 refine wB a1 (by simp only[go_sem,seval]) (El.ints _) ?_
 intro v rd pa ho hk _
 have k1:=hk 1 (by omega)
 simp only[go_sem,seval]at k1
 simp only[k1,go_sem,seval]
 cases h3:decide (q.kind=3)
 ·simp only[go_sem,seval]
  have hr:cX q=bR q.body:=by simp[cX,h3]
  rw[hr]
  exact ho.conv (El.ints _)
 ·simp only[k1,go_sem,seval]
  refine j8 a2 (by simp only[go_sem,seval]) ?_
  intro nl2 cl2 _
  simp only[go_sem,seval]
  have hr:cX q=bR q.body++(bR q.index++[q.source]):=by simp[cX,h3]
  rw[hr]
  have fin:∀(v2:AV)(kk:Nat)(H:Hp)(es:List Int),Own H kk 1 false v2 (es.map aG)->es=bR q.body++(bR q.index++[q.source])->∃r,Tev.conv H v2=some r/\kO 1 false ((bR q.body++(bR q.index++[q.source])).map aG) r:=by
   rintro v2 kk H es o rfl
   exact o.conv (El.ints _)
  generalize hH:Eff.app _ (Eff.pat rd pa)=H at ho k1 ⊢
  clear hH hk hr a1 a2
  refine DN (kb:=0) (s:=13) (k1:=5) ho (by omega) (El.ints _) (El.ints _) (by simp only[List.length_map];omega) (by decide) ?_ ?_
  ·intro hx rd1 hrd1
   have hx':bR q.index=[]:=by simpa using hx
   have k2:=k1
   simp only[k1,go_sem,seval]
   refine DN (kb:=0) (s:=17) (k1:=5) ho (by omega) (El.ints _) (xs:=[.int .i64 q.source]) (by intro y hy;simp at hy;subst hy;exact⟨rfl,rfl,rfl⟩) (by simp only[List.length_map,List.length_singleton];omega) (by decide) (by intro h;cases h) ?_
   intro _ v2 rd2 pa2 ho2 hk2 hform
   have ho3:=fin _ 17 _ (bR q.body++[q.source]) (by simpa[rU] using ho2) (by rw[hx'];simp)
   clear ho2 hk2 k2 k1 ho
   rcases hrd1 with rfl|rfl<;>rcases hform with ⟨e,ob,rfl,rfl⟩|⟨e1,o1,e,ob,rfl,rfl⟩
   all_goals (simp only[go_sem,seval])
   all_goals (refine And.intro (by kernel_rfl) ?_)
   all_goals (exact ho3)
  ·intro hx v1 rd1 pa1 ho1 hk1 hform1
   have k2:=hk1 1 (by omega) (by omega)
   rw[k1]at k2
   simp only[k2,go_sem,seval]
   refine DN (kb:=0) (s:=17) (k1:=13) ho1 (by omega) (by rw[<-List.map_append];exact El.ints _) (xs:=[.int .i64 q.source]) (by intro y hy;simp at hy;subst hy;exact⟨rfl,rfl,rfl⟩) (by simp only[List.length_map,List.length_append,List.length_singleton];omega) (by decide) (by intro h;cases h) ?_
   intro _ v2 rd2 pa2 ho2 hk2 hform
   have ho3:=fin _ 17 _ (bR q.body++bR q.index++[q.source]) (by simpa[rU] using ho2) (by simp)
   clear ho2 hk2 ho1 hk1 k2 k1
   rcases hform1 with ⟨e',ob',rfl,rfl⟩|⟨e1',o1',e',ob',rfl,rfl⟩<;>rcases hform with ⟨e,ob,rfl,rfl⟩|⟨e1,o1,e,ob,rfl,rfl⟩
   all_goals (simp only[go_sem,seval])
   all_goals (refine And.intro (by kernel_rfl) ?_)
   all_goals (exact ho3)
end
end Go.Tev
end
section
namespace Go.Tev
abbrev Sp:=Int×Int
def aR(s:Sp):AV:=.agg [.int .i64 s.1,.int .i64 s.2]
def aK:List Sp->List AV
 |[]=>[]
 |s::r => .int .i64 s.1 :: .int .i64 s.2::aK r
theorem cO:∀l,(aK l).length=l.length*2
 |[]=>rfl
 |s::r=>by simp only[aK,List.length_cons,cO r];omega
theorem kW:∀l,bG 2 true (l.map aR)=some (aK l)
 |[]=>rfl
 |s::r=>by
  simp[aR,bG,kW r,AV.fits,aK,AV.cells]
  rfl
theorem jP(l:List Sp):∀x∈l.map aR,El 2 true x:=by
 intro x hx
 obtain⟨b,_,rfl⟩:=List.mem_map.1 hx
 exact⟨rfl,rfl,rfl⟩
theorem rN:∀(l:List Sp)(v:Nat)(s:Sp),l[v]?=some s->(aK l)[v*2]?=some (.int .i64 s.1)/\(aK l)[v*2+1]?=some (.int .i64 s.2)
 |[],v,s,h=>by simp at h
 |t::r,0,s,h=>by simp at h;subst h;exact⟨rfl,rfl⟩
 |t::r,v+1,s,h=>by
  have:=rN r v s (by simpa using h)
  rw[show (v+1)*2=v*2+1+1 from by omega]
  simpa[aK] using this
theorem qM:∀(l:List Sp)(v:Nat)(a b:Int),((aK l).set (v*2) (.int .i64 a)).set (v*2+1) (.int .i64 b)=aK (l.set v (a,b))
 |[],v,a,b=>by simp[aK]
 |t::r,0,a,b=>rfl
 |t::r,v+1,a,b=>by
  rw[show (v+1)*2=v*2+1+1 from by omega]
  simp only[aK,List.set_cons_succ]
  rw[qM r v a b]
theorem wG:∀(l:List Sp)(v:Nat)(a:Int),(aK l).set (v*2) (.int .i64 a)=aK (l.modify v (fun s=>(a,s.2)))
 |[],v,a=>by simp[aK]
 |t::r,0,a=>rfl
 |t::r,v+1,a=>by
  rw[show (v+1)*2=v*2+1+1 from by omega]
  simp only[aK,List.set_cons_succ,List.modify_succ_cons]
  rw[wG r v a]
theorem wF:∀(l:List Sp)(v:Nat)(a:Int),(aK l).set (v*2+1) (.int .i64 a)=aK (l.modify v (fun s=>(s.1,a)))
 |[],v,a=>by simp[aK]
 |t::r,0,a=>rfl
 |t::r,v+1,a=>by
  rw[show (v+1)*2=v*2+1+1 from by omega]
  simp only[aK,List.set_cons_succ,List.modify_succ_cons]
  rw[wF r v a]
theorem P2{h:Hp}{e:Nat}{sp:List Sp}(hg:h.get 9=some (e,.blk (aK sp) 2 true false false))(d:Nat):Tev.snap (d+2) h (.rf 9 e 0 sp.length sp.length)=some (.sl false (sp.map aR) false,[9]):=by
 obtain⟨cs',h1,h2,h3,h4⟩:=cL (jP sp)
 rw[kW]at h1
 cases h1
 have h5:=h4 []
 rw[List.append_nil,List.length_map]at h5
 have ht:treeL (sp.map aR)=true:=bK (f:=aR) (fun s=>by simp[aR,go_sem]) sp
 have h6:cG (Tev.snap (d+1) h) (sp.map aR)=some (sp.map aR,[]):=d8 d h ht
 rw[eD]
 simp[hg,h5,h6,AV.tree]
def gT(sp:List Sp)(v:Int)(x:Int):List Sp:=sp.modify v.toNat (fun s=>(s.1,x))
def fO(sp:List Sp)(v:Int)(x:Int):List Sp:=sp.modify v.toNat (fun s=>(x,s.2))
def gE(sp:List Sp)(v:Int):Int:=match sp[v.toNat]? with|some s=>s.1|none=>0
def cE(V i:Nat):List Sp:=List.replicate i (-1,-1)++List.replicate (V-i) (-2,-2)
def cU(sp:List Sp)(i:Nat)(l:List Int):List Sp:=l.foldl (fun s v=>gT s v i) sp
def iD(sp:List Sp)(i:Nat)(q:aD):List Sp:=
 cU (gT (if decide (gE sp q.value = -2) then fO sp q.value i else sp) q.value i) i (cX q)
def eO:List Sp->Nat->List aD->List Sp
 |sp,_,[]=>sp
 |sp,i,q::r=>eO (iD sp i q) (i+1) r
def lX(sp:List Sp)(n:Nat)(l:List Int):List Sp:=l.foldl (fun s v=>gT s v n) sp
def aF(k:aA):List Sp:=lX (eO (cE k.values.es.length k.inputs.toNat) 0 k.list.es) k.list.es.length k.results.es
theorem rO(sp:List Sp)(v x:Int):(gT sp v x).length=sp.length:=by simp[gT]
theorem qP(sp:List Sp)(v x:Int):(fO sp v x).length=sp.length:=by simp[fO]
theorem iK(i:Nat):∀(l:List Int)(sp:List Sp),(cU sp i l).length=sp.length
 |[],sp=>rfl
 |v::r,sp=>by simp only[cU,List.foldl_cons];exact(iK i r _).trans (rO _ _ _)
theorem tM(sp:List Sp)(i:Nat)(d:List Int)(x:Int):cU sp i (d++[x])=gT (cU sp i d) x i:=by simp[cU]
theorem sJ(sp:List Sp)(i:Nat)(q:aD):(iD sp i q).length=sp.length:=by
 simp only[iD,iK,rO];split<;>simp[qP]
theorem oK:∀(l:List aD)(sp:List Sp)(i:Nat),(eO sp i l).length=sp.length
 |[],sp,i=>rfl
 |q::r,sp,i=>by rw[eO,oK r,sJ]
theorem sK:∀(d:List aD)(sp:List Sp)(i:Nat)(q:aD),eO sp i (d++[q])=iD (eO sp i d) (i+d.length) q
 |[],sp,i,q=>rfl
 |x::r,sp,i,q=>by
  simp only[List.cons_append,eO,sK r,List.length_cons]
  congr 1;omega
theorem jR{V i:Nat}(h:i<=V):(cE V i).length=V:=by simp[cE];omega
theorem GI{V i:Nat}(h:i<V):(cE V i).set i (-1,-1)=cE V (i+1):=by
 obtain⟨m,rfl⟩:∃m,V=i+(m+1):=⟨V-i-1,by omega⟩
 simp only[cE]
 rw[List.set_append_right _ _ (by simp)]
 have e1:i+(m+1)-i=m+1:=by omega
 have e2:i+(m+1)-(i+1)=m:=by omega
 rw[e1,e2,List.replicate_succ (n:=m),List.replicate_succ' (n:=i)]
 simp
theorem nR{k:aA}{th:List Bool}{p:aC}{n:Nat}{nt:Int}(h:eC k th p n nt=true):∀a∈bR p,0<=a/\a<k.values.es.length/\aY th a=true/\a≠nt:=by
 intro a ha
 simp only[eC,gN,Bool.and_eq_true,Bool.not_eq_true']at h
 have h2:=h.2
 rw[List.any_eq_false]at h2
 have h3:=h2 a ha
 simp only[Bool.or_eq_true,Bool.not_eq_true',decide_eq_true_eq,not_or,Bool.not_eq_false]at h3
 have ha':=ha
 simp only[bR,lD,mK]at ha'
 obtain⟨h4,h5⟩:=nL _ p _ h.1.2 a ha'
 exact⟨h4,h5,h3.1,h3.2⟩
theorem rD{k:aA}{th:List Bool}{q:aD}{i:Nat}(h:bL k th q i=true):∀a∈cX q,0<=a/\a<k.values.es.length/\aY th a=true:=by
 intro a ha
 simp only[bL,Bool.and_eq_true]at h
 obtain⟨_,h⟩:=h
 split at h
 ·cases h
 rename_i t ht
 simp only[Bool.and_eq_true,Bool.not_eq_true']at h
 obtain⟨⟨⟨⟨_,_⟩,h3⟩,_⟩,h5⟩:=h
 simp only[cX,List.mem_append]at ha
 simp only[sD]at h5
 split at h5
 ·rename_i h6
  simp only[Bool.and_eq_true]at h5
  have h7:decide (q.kind=3)=false:=by simp at h6 ⊢;omega
  rw[h7]at ha
  rcases ha with ha|ha
  ·obtain⟨x1,x2,x3,_⟩:=nR h5.2 a ha;exact⟨x1,x2,x3⟩
  ·simp at ha
 split at h5
 ·rename_i h6
  simp only[Bool.and_eq_true]at h5
  have h7:decide (q.kind=3)=false:=by simp at h6 ⊢;omega
  rw[h7]at ha
  rcases ha with ha|ha
  ·obtain⟨x1,x2,x3,_⟩:=nR h5.2 a ha;exact⟨x1,x2,x3⟩
  ·simp at ha
 split at h5
 ·rename_i h6
  simp only[Bool.and_eq_true]at h5
  rw[if_pos h6]at h3 ha
  rcases ha with ha|ha
  ·obtain⟨x1,x2,x3,_⟩:=nR h5.1 a ha;exact⟨x1,x2,x3⟩
  ·rw[List.mem_append]at ha
   rcases ha with ha|ha
   ·obtain⟨x1,x2,x3,_⟩:=nR h5.2 a ha;exact⟨x1,x2,x3⟩
   ·simp only[List.mem_singleton]at ha
    subst ha
    simp only[uG,Bool.or_eq_false_iff,decide_eq_false_iff_not,Bool.not_eq_false']at h3
    exact⟨by omega,by omega,h3.1.2⟩
 ·cases h5
theorem BA{k:aA}:∀(l:List aD)(th:List Bool)(i:Nat),lU k th l i=none->∀d q r,l=d++q::r->bL k (bE th d) q (i+d.length)=true
 |[],th,i,_,d,q,r,he=>by cases d<;>simp at he
 |x::l,th,i,h,d,q,r,he=>by
  simp only[lU]at h
  split at h
  ·rename_i hx
   cases d with
   |nil=>simp at he;obtain⟨rfl,rfl⟩:=he;exact hx
   |cons y d=>
    simp at he
    obtain⟨rfl,rfl⟩:=he
    have:=BA _ _ _ h d q r rfl
    rw[List.length_cons,show i+(d.length+1)=i+1+d.length from by omega]
    exact this
  ·cases h
structure fW(k:aA):Prop where
 out:aZ k=true
 ker:∀d q r,k.list.es=d++q::r->bL k (bE (eV k) d) q d.length=true
 res:∀v∈k.results.es,0<=v/\v<k.values.es.length/\aY (bE (eV k) k.list.es) v=true
 one:0<k.results.es.length
theorem eH{k:aA}(h:(cQ k).2=0):fW k:=by
 simp only[cQ]at h
 split at h
 ·rename_i ho
  split at h
  ·simp at h
  ·rename_i hr
   split at h
   ·simp at h
   ·rename_i hb
    simp only[dK,Bool.or_eq_true,not_or,Bool.not_eq_true,decide_eq_true_eq,decide_eq_false_iff_not,List.any_eq_false]at hb
    obtain⟨⟨h1,h2⟩,h3⟩:=hb
    refine⟨ho,fun d q r he=>by simpa using BA _ _ _ hr d q r he,fun v hv=>?_,by omega⟩
    have h4:=h3 v hv
    simp only[cP,Bool.or_eq_false_iff,decide_eq_false_iff_not,Bool.not_eq_false',not_or,Bool.not_eq_true,Bool.or_eq_true,decide_eq_true_eq]at h4
    obtain⟨⟨x1,x2⟩,x3⟩:=h4
    exact⟨by omega,by omega,by simpa using x3⟩
 ·simp at h
theorem iZ{k:aA}:(cQ k).2=0\/(cQ k).2=22:=by
 simp only[cQ]
 split
 ·split
  ·exact .inr rfl
  ·split
   ·exact .inr rfl
   ·exact .inl rfl
 ·exact .inr rfl
end Go.Tev
end
section
namespace Go.Tev
def iC(k:aA)(r:AV):Prop:=
 if (cQ k).2=0 then r = .tup [.sl false ((aF k).map aR) false,.int .i64 0] else r = .tup [.sl true [] true,.int .i64 22]
theorem I2{l:List AV}{n:Nat}(x y:AV)(h:n*2+1<l.length):List.take (0+n*2) l++[x,y]++List.drop (0+n*2+2) l=(l.set (n*2) x).set (n*2+1) y:=by
 obtain⟨a,u,v,m,rfl,ha⟩:∃a u v m,l=a++u::v::m/\a.length=n*2:=by
  refine⟨l.take (n*2),l[n*2],l[n*2+1],l.drop (n*2+1+1),?_,by simp;omega⟩
  rw[<-List.drop_eq_getElem_cons h,<-List.drop_eq_getElem_cons (by omega),List.take_append_drop]
 rw[Nat.zero_add,<-ha]
 simp[List.set_append]
theorem I3{l:List AV}{n:Nat}(x:AV)(h:n<l.length):List.take n l++[x]++List.drop (n+1) l=l.set n x:=by
 rw[List.set_eq_take_append_cons_drop,if_pos h]
 simp
theorem DZ(sp:List Sp)(v x:Int)(h:v.toNat<sp.length):List.take (0+v.toNat*2+1) (aK sp)++[.int .i64 x]++List.drop (0+v.toNat*2+1+1) (aK sp)=aK (gT sp v x):=by
 rw[Nat.zero_add,I3 _ (by rw[cO];omega),wF]
 rfl
theorem PZ(sp:List Sp)(v x:Int)(h:v.toNat<sp.length):List.take (0+v.toNat*2+0) (aK sp)++[.int .i64 x]++List.drop (0+v.toNat*2+0+1) (aK sp)=aK (fO sp v x):=by
 rw[Nat.zero_add,Nat.add_zero,I3 _ (by rw[cO];omega),wG]
 rfl
theorem EZ(sp:List Sp)(v:Int)(h:v.toNat<sp.length):(0+v.toNat*2+1+1<=(aK sp).length)=True:=eq_true (by rw[cO];omega)
theorem QP(sp:List Sp)(v:Int)(h:v.toNat<sp.length):(0+v.toNat*2+0+1<=(aK sp).length)=True:=eq_true (by rw[cO];omega)
theorem QQ(sp:List Sp)(v:Int)(h:v.toNat<sp.length):(aK sp)[0+v.toNat*2+0]?=some (.int .i64 (gE sp v)):=by
 obtain⟨s,hs⟩:∃s,sp[v.toNat]?=some s:=⟨_,List.getElem?_eq_getElem h⟩
 rw[Nat.zero_add,Nat.add_zero,(rN sp _ s hs).1]
 simp[gE,hs]
section
variable{pg:Pg}
theorem c9 (hf:pg.fs 9=some cf9) (h28:∀k:aA,(k.vars.nl=true->k.vars.es=[])->(∀q∈k.list.es,q.body.ok/\q.index.ok/\k.vars.es.length+9+q.body.sz<=big/\k.vars.es.length+9+q.index.sz<=big) ->
   Ret pg 28 [k.av] (.tup [.int .i64 (cQ k).1,.int .i64 (cQ k).2]))
  (h29:∀(nl cl:Bool)(a b:Int)(n:Nat),n<=big->bJ pg 29 [.sl nl [.agg [.int .i64 a,.int .i64 b]] cl,.int .i64 n] (kO 2 true (List.replicate n (.agg [.int .i64 a,.int .i64 b]))))
  (h30:∀q:aD,q.body.ok->q.index.ok->q.body.sz+q.index.sz+1<=big->bJ pg 30 [q.av] (kO 1 false ((cX q).map aG)))
  (k:aA) (hnl:k.vars.nl=true->k.vars.es=[]) (hq:∀q∈k.list.es,q.body.ok/\q.index.ok/\k.vars.es.length+9+q.body.sz<=big/\k.vars.es.length+9+q.index.sz<=big) (hq2:∀q∈k.list.es,q.body.sz+q.index.sz+1<=big) :
  bJ pg 9 [k.av] (iC k):=by
 have a1:=h28 k hnl hq
 have hVb:=k.values.ok
 have a2:=h29 false true (-2) (-2) k.values.es.length hVb
 clear h28 h29
 refine bJ.ofX hf ?_
 unfold cf9
 simp only[aA.av,aA.cells,go_sem,seval]
 refine aB a1 (by simp only[aA.av,aA.cells,go_sem,seval]) rfl ?_
 rcases iZ (k:=k) with hc|hc
 ·have ok:=eH hc
  have hso:=ok.out
  simp only[aZ,Bool.and_eq_true,decide_eq_true_eq]at hso
  obtain⟨_,⟨⟨⟨⟨⟨⟨_,_⟩,hi0⟩,_⟩,hiV⟩,_⟩,_⟩,_⟩:=hso
  have hV:0<k.values.es.length:=by
   obtain⟨v,hv⟩:=List.exists_mem_of_length_pos ok.one
   have:=ok.res v hv
   omega
  have hsp0:List.replicate k.values.es.length (AV.agg [.int .i64 (-2),.int .i64 (-2)])=(cE k.values.es.length 0).map aR:=by simp[cE,aR]
  have hl0:(cE k.values.es.length 0).length=k.values.es.length:=jR (Nat.zero_le _)
  rw[hsp0]at a2
  rw[hc]
  simp only[go_sem,seval]
  refine xO a2 (by simp only[go_sem,seval]) (jP _) (fun he=>?_) (fun cs hcs _=>?_)
  ·have:=congrArg List.length he
   rw[List.length_map,hl0,List.length_nil]at this
   omega
  rw[kW]at hcs
  cases hcs
  rw[List.length_map,hl0]
  generalize hE:Hp.next _ (0+9)=E
  clear hE a1 a2
  obtain⟨ins,hins⟩:∃n:Nat,k.inputs=n:=⟨k.inputs.toNat,by omega⟩
  have hinV:ins<=k.values.es.length:=by omega
  have hins':k.inputs.toNat=ins:=by omega
  simp only[go_sem,seval]
  refine aI (List.range ins) (fun d r env hp=>env=cf9E0 (.pt 1 0 0) (.rf 9 E 0 k.values.es.length k.values.es.length) (.int .i64 k.inputs) (.int .i64 d.length) /\
   hp.get 1=some (0,.blk k.cells 6 true true false)/\hp.get 9=some (E,.blk (aK (cE k.values.es.length d.length)) 2 true false false)) ?_ ?_ ?_
  ·refine⟨rfl,?_,?_⟩
   ·simp only[go_sem,seval]
    rfl
   ·simp only[go_sem,seval]
  ·rintro env hp ⟨rfl,g1,g9⟩
   have hr:(List.range ins).length=ins:=List.length_range
   rw[hr]at g9 ⊢
   have e1:decide ((ins:Int)<k.inputs)=false:=by simp;omega
   have g1':=g1
   simp only[aA.cells,Sl.av]at g1
   simp only[cf9L0,cf9E0,e1,g1,go_sem,seval]
   refine aI k.list.es (fun d r env hp=>env=cf9E2 (.pt 1 0 0) (.rf 9 E 0 k.values.es.length k.values.es.length) (.sl k.list.nl (k.list.es.map aD.av) k.list.cl) (.int .i64 k.list.es.length) (.int .i64 d.length) /\
    hp.get 1=some (0,.blk k.cells 6 true true false)/\hp.get 9=some (E,.blk (aK (eO (cE k.values.es.length ins) 0 d)) 2 true false false)) ?_ ?_ ?_
   ·exact⟨rfl,g1',g9⟩
   ·clear g9 g1 g1' hp
    rintro env hp ⟨rfl,g1,g9⟩
    have g1':=g1
    simp only[aA.cells,Sl.av]at g1
    simp only[cf9L2,cf9E2,g1,go_sem,seval]
    refine aI k.results.es (fun d r env hp=>env=cf9E3 (.pt 1 0 0) (.rf 9 E 0 k.values.es.length k.values.es.length) (.sl k.results.nl (k.results.es.map aG) k.results.cl) (.int .i64 k.results.es.length) (.int .i64 d.length) /\
     hp.get 1=some (0,.blk k.cells 6 true true false)/\hp.get 9=some (E,.blk (aK (lX (eO (cE k.values.es.length ins) 0 k.list.es) k.list.es.length d)) 2 true false false)) ?_ ?_ ?_
    ·exact⟨rfl,g1',g9⟩
    ·clear g9 g1 g1' hp
     rintro env hp ⟨rfl,g1,g9⟩
     have hlen:(aF k).length=k.values.es.length:=by
      simp only[aF]
      rw[show lX=fun sp n l=>cU sp n l from rfl]
      rw[iK,oK,hins',jR hinV]
     have hspk:lX (eO (cE k.values.es.length ins) 0 k.list.es) k.list.es.length k.results.es=aF k:=by rw[aF,hins']
     rw[hspk]at g9
     have hsn:=P2 g9 61
     rw[hlen]at hsn
     simp only[cf9L3,cf9E3,go_sem,seval]
     simp only[Tev.conv,depth,eD,bW,bB,↓hsn,go_sem]
     rw[iC,if_pos hc]
    ·clear g9 g1 g1' hp
     rintro d v r env hp hes ⟨rfl,g1,g9⟩
     obtain⟨v1,v2,_⟩:=ok.res v (by rw[hes];simp)
     have hrb:=k.results.ok
     rw[hes]at hrb
     have hget:k.results.es[d.length]?=some v:=by rw[hes];simp
     have hlt:d.length<k.results.es.length:=by rw[hes];simp
     have e1:decide ((d.length:Int)<(k.results.es.length:Int))=true:=by simp;omega
     have e2:((d.length:Int)<(k.results.es.length:Int))=True:=eq_true (by omega)
     have v1':(0<=v)=True:=eq_true v1
     have v2':(v<(k.values.es.length:Int))=True:=eq_true v2
     have g1':=g1
     simp only[aA.cells,Sl.av]at g1
     have hln:(lX (eO (cE k.values.es.length ins) 0 k.list.es) k.list.es.length d).length=k.values.es.length:=by
      rw[show lX=fun sp n l=>cU sp n l from rfl]
      rw[iK,oK,jR hinV]
     have hvl:v.toNat<(lX (eO (cE k.values.es.length ins) 0 k.list.es) k.list.es.length d).length:=by rw[hln];omega
     have hsno:gT (lX (eO (cE k.values.es.length ins) 0 k.list.es) k.list.es.length d) v k.list.es.length=lX (eO (cE k.values.es.length ins) 0 k.list.es) k.list.es.length (d++[v]):=by simp[lX]
     simp only[cf9L3,cf9E3,e1,e2,g1,g9,hget,v1',v2',EZ _ v hvl,DZ _ v _ hvl,aM hrb,hsno,go_sem,seval]
     exact⟨rfl,rfl⟩
   ·clear g9 g1 g1' hp
    rintro d q r env hp hes ⟨rfl,g1,g9⟩
    obtain⟨v0,v2,_⟩:=eA (ok.ker d q r hes)
    have hlb:=k.list.ok
    rw[hes]at hlb
    have hget:k.list.es[d.length]?=some q:=by rw[hes];simp
    have hlt:d.length<k.list.es.length:=by rw[hes];simp
    have e1:decide ((d.length:Int)<(k.list.es.length:Int))=true:=by simp;omega
    have e2:((d.length:Int)<(k.list.es.length:Int))=True:=eq_true (by omega)
    have v1':(0<=q.value)=True:=eq_true (by omega)
    have v2':(q.value<(k.values.es.length:Int))=True:=eq_true v2
    obtain⟨p1,p2,_,_⟩:=hq q (by rw[hes];simp)
    have a3:=h30 q p1 p2 (hq2 q (by rw[hes];simp))
    rw[aD.avc]at a3
    have hrd:=rD (ok.ker d q r hes)
    have hrlen:(cX q).length<=big:=by
     have z1:=hq2 q (by rw[hes];simp)
     have z2:=jS q.body
     have z3:=jS q.index
     simp only[cX,List.length_append]
     split<;>simp<;>omega
    have hrun:=sK d (cE k.values.es.length ins) 0 q
    rw[Nat.zero_add]at hrun
    rw[hrun]
    have hln:(eO (cE k.values.es.length ins) 0 d).length=k.values.es.length:=by rw[oK,jR hinV]
    generalize eO (cE k.values.es.length ins) 0 d=sp at g9 hln ⊢
    have hvl:q.value.toNat<sp.length:=by omega
    have hvl2:q.value.toNat<(fO sp q.value d.length).length:=by rw[qP];exact hvl
    have hst:iD sp d.length q=cU (gT (if decide (gE sp q.value = -2) then fO sp q.value d.length else sp) q.value d.length) d.length (cX q):=rfl
    rw[hst]
    clear hst hrun h30 hq hq2
    simp only[cf9L2,cf9E2,e1,e2,g9,hget,v1',v2',QQ sp q.value hvl,go_sem,seval]
    cases hfr:decide (gE sp q.value = -2)
    case true=>
     simp only[g9,v1',v2',QP sp _ hvl,PZ sp _ _ hvl,EZ _ _ hvl2,DZ _ _ _ hvl2,go_sem,seval]
     refine j8 a3 (by simp only[go_sem,seval]) ?_
     intro nl3 cl3 _
     simp only[go_sem,seval]
     refine aI (cX q) (fun d2 r2 env hp=>env=cf9E1 (.pt 1 0 0) (.rf 9 E 0 k.values.es.length k.values.es.length) (.int .i64 d.length) (.sl k.list.nl (k.list.es.map aD.av) k.list.cl) (.int .i64 k.list.es.length) (.int .i64 d.length) (.sl nl3 ((cX q).map aG) cl3) (.int .i64 (cX q).length) (.int .i64 d2.length) /\
      hp.get 1=some (0,.blk k.cells 6 true true false)/\hp.get 9=some (E,.blk (aK (cU (gT (fO sp q.value d.length) q.value d.length) d.length d2)) 2 true false false)) ?_ ?_ ?_
     ·refine⟨rfl,?_,?_⟩
      ·simp only[go_sem,seval]
       exact g1
      ·simp only[go_sem,seval]
       rfl
     ·clear g9 g1 hp
      rintro env hp ⟨rfl,g1,g9⟩
      simp only[cf9L1,cf9E1,aM hlb,go_sem,seval]
      first|exact⟨rfl,g1,g9⟩
     ·clear g9 g1 hp
      rintro d2 v r2 env hp hes2 ⟨rfl,g1,g9⟩
      obtain⟨w1,w2,_⟩:=hrd v (by rw[hes2];simp)
      have hget2:(cX q)[d2.length]?=some v:=by rw[hes2];simp
      have hlt2:d2.length<(cX q).length:=by rw[hes2];simp
      have f1:decide ((d2.length:Int)<((cX q).length:Int))=true:=by simp;omega
      have f2:((d2.length:Int)<((cX q).length:Int))=True:=eq_true (by omega)
      have w1':(0<=v)=True:=eq_true w1
      have w2':(v<(k.values.es.length:Int))=True:=eq_true w2
      have hvl3:v.toNat<(cU (gT (fO sp q.value d.length) q.value d.length) d.length d2).length:=by rw[iK,rO];rw[qP];omega
      have hrb2:(d2++v::r2).length<=big:=by rw[<-hes2];exact hrlen
      simp only[cf9L1,cf9E1,f1,f2,g9,hget2,w1',w2',EZ _ v hvl3,DZ _ v _ hvl3,aM hrb2,go_sem,seval]
      rw[tM]
      first|exact⟨rfl,g1,rfl⟩|exact g1
    case false=>
     simp only[g9,v1',v2',EZ _ _ hvl,DZ _ _ _ hvl,go_sem,seval]
     refine j8 a3 (by simp only[go_sem,seval]) ?_
     intro nl3 cl3 _
     simp only[go_sem,seval]
     refine aI (cX q) (fun d2 r2 env hp=>env=cf9E1 (.pt 1 0 0) (.rf 9 E 0 k.values.es.length k.values.es.length) (.int .i64 d.length) (.sl k.list.nl (k.list.es.map aD.av) k.list.cl) (.int .i64 k.list.es.length) (.int .i64 d.length) (.sl nl3 ((cX q).map aG) cl3) (.int .i64 (cX q).length) (.int .i64 d2.length) /\
      hp.get 1=some (0,.blk k.cells 6 true true false)/\hp.get 9=some (E,.blk (aK (cU (gT sp q.value d.length) d.length d2)) 2 true false false)) ?_ ?_ ?_
     ·refine⟨rfl,?_,?_⟩
      ·simp only[go_sem,seval]
       exact g1
      ·simp only[go_sem,seval]
       rfl
     ·clear g9 g1 hp
      rintro env hp ⟨rfl,g1,g9⟩
      simp only[cf9L1,cf9E1,aM hlb,go_sem,seval]
      first|exact⟨rfl,g1,g9⟩
     ·clear g9 g1 hp
      rintro d2 v r2 env hp hes2 ⟨rfl,g1,g9⟩
      obtain⟨w1,w2,_⟩:=hrd v (by rw[hes2];simp)
      have hget2:(cX q)[d2.length]?=some v:=by rw[hes2];simp
      have hlt2:d2.length<(cX q).length:=by rw[hes2];simp
      have f1:decide ((d2.length:Int)<((cX q).length:Int))=true:=by simp;omega
      have f2:((d2.length:Int)<((cX q).length:Int))=True:=eq_true (by omega)
      have w1':(0<=v)=True:=eq_true w1
      have w2':(v<(k.values.es.length:Int))=True:=eq_true w2
      have hvl3:v.toNat<(cU (gT sp q.value d.length) d.length d2).length:=by rw[iK,rO];omega
      have hrb2:(d2++v::r2).length<=big:=by rw[<-hes2];exact hrlen
      simp only[cf9L1,cf9E1,f1,f2,g9,hget2,w1',w2',EZ _ v hvl3,DZ _ v _ hvl3,aM hrb2,go_sem,seval]
      rw[tM]
      first|exact⟨rfl,g1,rfl⟩|exact g1
  ·rintro d x r env hp hes ⟨rfl,g1,g9⟩
   obtain⟨hx,hlt⟩:=hZ hes
   have hb2:(d++x::r).length<=big:=by rw[<-hes];simp;omega
   have hlen:(cE k.values.es.length d.length).length=k.values.es.length:=jR (by omega)
   have e1:decide ((d.length:Int)<k.inputs)=true:=by simp;omega
   have e2:((d.length:Int)<(k.values.es.length:Int))=True:=eq_true (by omega)
   have e3:(0+d.length*2+2<=(aK (cE k.values.es.length d.length)).length)=True:=eq_true (by rw[cO,hlen];omega)
   have e4:=I2 (l:=aK (cE k.values.es.length d.length)) (n:=d.length) (.int .i64 (-1)) (.int .i64 (-1)) (by rw[cO,hlen];omega)
   rw[qM,GI (by omega)]at e4
   simp only[cf9L0,cf9E0,e1,e2,g9,e3,e4,aM hb2,go_sem,seval]
   rw[List.length_append]
   exact⟨rfl,g1,rfl⟩
 ·rw[hc]
  simp only[go_sem,seval]
  rw[iC,hc]
  rfl
end
end Go.Tev
end
section
namespace Go.Tev
def gP(p q:Int×Int):Bool:=decide (0<p.2)&&decide (0<q.2)&&decide (p.1<q.1+q.2)&&decide (q.1<p.1+p.2)
def fitScan(s:Int):List (Int×Int)->Int->Int
 |[],at'=>at'
 |p::l,at'=>fitScan s l (if gP p (at',s) then p.1+p.2 else at')
def AQ(s:Int)(l:List (Int×Int))(a:Int):Prop:=0<=a/\∀b,0<=b->b<a->∃p∈l,gP p (b,s)=true
def u5(s:Int)(l:List (Int×Int))(a:Int):Prop:=∀p∈l,gP p (a,s)=false
theorem gO{p q:Int×Int}:gP p q=true↔0<p.2/\0<q.2/\p.1<q.1+q.2/\q.1<p.1+p.2:=by
 simp[gP,and_assoc]
theorem s6(p q:Int×Int):gP p q=gP q p:=by
 rw[Bool.eq_iff_iff,gO,gO]
 constructor<;>rintro⟨a,b,c,d⟩<;>exact⟨b,a,d,c⟩
theorem fit_uniq{s:Int}{l:List (Int×Int)}{a b:Int}(h1:AQ s l a)(h2:u5 s l a)(h3:AQ s l b)(h4:u5 s l b):a=b:=by
 rcases Int.lt_trichotomy a b with h|h|h
 ·obtain⟨p,hp,hm⟩:=h3.2 a h1.1 h
  rw[h2 p hp]at hm
  exact absurd hm (by decide)
 ·exact h
 ·obtain⟨p,hp,hm⟩:=h1.2 b h3.1 h
  rw[h4 p hp]at hm
  exact absurd hm (by decide)
theorem min_zero(s:Int)(l:List (Int×Int)):AQ s l 0:=⟨Int.le_refl 0,fun b h1 h2=>absurd h2 (by omega)⟩
theorem NA{s:Int}{l:List (Int×Int)}{a:Int}{p:Int×Int}(h:AQ s l a)(hp:p∈l)(hm:gP p (a,s)=true):AQ s l (p.1+p.2)/\a<p.1+p.2:=by
 have hm':=gO.1 hm
 dsimp only at hm'
 have h0:=h.1
 refine⟨⟨by omega,fun b h1 h2=>?_⟩,hm'.2.2.2⟩
 by_cases hb:b<a
 ·exact h.2 b h1 hb
 ·refine⟨p,hp,gO.2 ⟨hm'.1,hm'.2.1,?_,h2⟩⟩
  dsimp only
  omega
theorem K4{s:Int}{l l':List (Int×Int)}{a:Int}(h:u5 s l a)(hp:∀p,p∈l'->p∈l):u5 s l' a:=fun p q=>h p (hp p q)
theorem ED{s:Int}{l0:List (Int×Int)}:∀{l:List (Int×Int)}{a:Int},(∀p∈l,p∈l0)->AQ s l0 a->AQ s l0 (fitScan s l a)
 |[],_,_,h=>h
 |p::l,a,hs,h=>by
  unfold fitScan
  refine ED (fun q hq=>hs q (List.mem_cons_of_mem _ hq)) ?_
  split
  ·exact(NA h (hs p List.mem_cons_self) ‹_›).1
  ·exact h
theorem A8{s:Int}(hs:0<s):∀{l:List (Int×Int)}{done:List (Int×Int)}{a:Int},l.Pairwise (fun p q=>p.1<=q.1)->(∀p∈done,∀q∈l,p.1<=q.1) ->
  u5 s done a->u5 s (done++l) (fitScan s l a)
 |[],done,a,_,_,h=>by
  rw[List.append_nil]
  exact h
 |p::l,done,a,hp,hd,h=>by
  unfold fitScan
  have hp':=List.pairwise_cons.1 hp
  have key:u5 s (done++[p]) (if gP p (a,s) then p.1+p.2 else a):=by
   intro q hq
   rcases List.mem_append.1 hq with hq|hq
   ·split
    ·have hm:=gO.1 ‹gP p (a,s)=true›
     have hf:=h q hq
     have hle:=hd q hq p List.mem_cons_self
     dsimp only at hm
     cases hx:gP q (p.1+p.2,s)
     ·rfl
     ·have hx':=gO.1 hx
      dsimp only at hx'
      rw[gO.2 ⟨hx'.1,hs,by dsimp only;omega,by dsimp only;omega⟩]at hf
      exact hf
    ·exact h q hq
   ·cases List.mem_singleton.1 hq
    split
    ·cases hx:gP p (p.1+p.2,s)
     ·rfl
     ·have hx':=gO.1 hx
      dsimp only at hx'
      omega
    ·exact Bool.eq_false_iff.2 ‹_›
  have:=A8 hs hp'.2 (done:=done++[p]) (fun r hr q hq=>by
   rcases List.mem_append.1 hr with hr|hr
   ·exact hd r hr q (List.mem_cons_of_mem _ hq)
   ·cases List.mem_singleton.1 hr
    exact hp'.1 q hq) key
  rw[List.append_assoc,List.singleton_append]at this
  exact this
theorem yH{s:Int}(hs:0<s){l l':List (Int×Int)}(hp:∀p,p∈l'↔p∈l)(hq:l'.Pairwise (fun p q=>p.1<=q.1)):AQ s l (fitScan s l' 0)/\u5 s l (fitScan s l' 0):=by
 refine⟨ED (fun p h=>(hp p).1 h) (min_zero s l),?_⟩
 have:=A8 hs hq (done:=[]) (a:=0) (fun _ h=>absurd h List.not_mem_nil) (fun _ h=>absurd h List.not_mem_nil)
 rw[List.nil_append]at this
 exact K4 this (fun p h=>(hp p).2 h)
end Go.Tev
end
section
namespace Go.Tev
def jY(p:Sp):Bool:=decide (p.1<0)||decide (p.2<0)||decide (1000000000<p.1)||decide (1000000000<p.2)
theorem tK{p:Sp}(h:jY p=false):0<=p.1/\0<=p.2/\p.1<=1000000000/\p.2<=1000000000:=by
 simp only[jY,Bool.or_eq_false_iff,decide_eq_false_iff_not]at h
 omega
def IY(l:List Sp):List Sp:=l.mergeSort fun a b=>decide (a.1<=b.1)
theorem tP(l:List Sp):(IY l).Pairwise fun a b=>a.1<=b.1:=by
 have:=List.pairwise_mergeSort (le:=fun a b:Sp=>decide (a.1<=b.1)) (by intro a b c h1 h2;simp at *;omega) (by intro a b;simp;omega) l
 exact this.imp (by intro a b h;simpa using h)
theorem A3(l:List Sp)(p:Sp):p∈IY l↔p∈l:=(List.mergeSort_perm l _).mem_iff
def fitS(l:List Sp)(s:Int):Int:=if s<0\/1000000000<s\/l.any jY=true then -1 else fitScan s (IY l) 0
theorem fitScan_zero:∀(l:List Sp)(a:Int),fitScan 0 l a=a
 |[],_=>rfl
 |p::l,a=>by
  have:gP p (a,0)=false:=by simp[gP]
  rw[fitScan,this]
  exact fitScan_zero l a
theorem fitS_of{l l':List Sp}{s:Int}(h:¬(s<0\/1000000000<s\/l.any jY=true))(hm:∀p,p∈l'↔p∈l)(hs:l'.Pairwise fun a b=>a.1<=b.1):fitScan s l' 0=fitS l s:=by
 rw[fitS,if_neg h]
 by_cases h0:s=0
 ·subst h0;rw[fitScan_zero,fitScan_zero]
 ·have h1:=yH (s:=s) (by omega) hm hs
  have h2:=yH (s:=s) (l:=l) (by omega) (A3 l) (tP l)
  exact fit_uniq h1.1 h1.2 h2.1 h2.2
section
variable{pg:Pg}
theorem c629(hf:pg.fs 629=some cf629)(p q:Sp)(h1:wr .i64 (q.1+q.2)=q.1+q.2)(h2:wr .i64 (p.1+p.2)=p.1+p.2):Ret pg 629 [aR p,aR q] (.bool (gP p q)):=by
 refine Ret.ofX hf ?_
 unfold cf629
 have hs:gP p q=(decide (0<p.2)&&decide (0<q.2)&&decide (p.1<q.1+q.2)&&decide (q.1<p.1+p.2)):=rfl
 rw[hs]
 cases b1:decide (0<p.2)
 case false=>simp only[aR,b1,go_sem,seval]
 cases b2:decide (0<q.2)
 case false=>simp only[aR,b1,b2,go_sem,seval]
 cases b3:decide (p.1<q.1+q.2)
 case false=>simp only[aR,b1,b2,h1,b3,go_sem,seval]
 simp only[aR,b1,b2,h1,b3,h2,go_sem,seval]
theorem c638(hf:pg.fs 638=some cf638)(p q:Sp)(h1:wr .i64 (q.1+q.2)=q.1+q.2)(h2:wr .i64 (p.1+p.2)=p.1+p.2):Ret pg 638 [aR p,aR q] (.bool (gP p q)):=by
 refine Ret.ofX hf ?_
 unfold cf638
 have hs:gP p q=(decide (0<p.2)&&decide (0<q.2)&&decide (p.1<q.1+q.2)&&decide (q.1<p.1+p.2)):=rfl
 rw[hs]
 cases b1:decide (0<p.2)
 case false=>simp only[aR,b1,go_sem,seval]
 cases b2:decide (0<q.2)
 case false=>simp only[aR,b1,b2,go_sem,seval]
 cases b3:decide (p.1<q.1+q.2)
 case false=>simp only[aR,b1,b2,h1,b3,go_sem,seval]
 simp only[aR,b1,b2,h1,b3,h2,go_sem,seval]
theorem c634(hf:pg.fs 634=some cf634)(p:Sp):Ret pg 634 [aR p] (.bool (jY p)):=by
 refine Ret.ofX hf ?_
 unfold cf634
 have hs:jY p=(decide (p.1<0)||decide (p.2<0)||decide (1000000000<p.1)||decide (1000000000<p.2)):=rfl
 rw[hs]
 cases b1:decide (p.1<0)
 case true=>simp only[aR,b1,go_sem,seval]
 cases b2:decide (p.2<0)
 case true=>simp only[aR,b1,b2,go_sem,seval]
 cases b3:decide (1000000000<p.1)
 case true=>simp only[aR,b1,b2,b3,go_sem,seval]
 simp only[aR,b1,b2,b3,go_sem,seval]
theorem c644(hf:pg.fs 644=some cf644)(nl cl:Bool)(es:List Sp)(hb:es.length<=big)(g:Nat)(cs:List AV)(hcs:treeL cs=true)(p:Sp->Bool)(hp:∀x∈es,Ret pg g (aR x::cs) (.bool (p x))) :
  bJ pg 644 [.sl nl (es.map aR) cl,.fn g cs] (fun r=>∃i:Int,r = .int .i64 i/\decide (0<=i)=es.any p):=
 rV (f:=644) (esz:=2) (ag:=true) hf aR (fun _=>rfl) (fun s=>by simp[aR,go_sem]) nl cl es hb g cs hcs p hp
theorem fH(l:List Sp):treeL (l.map aR)=true:=bK (f:=aR) (fun s=>by simp[aR,go_sem]) l
theorem c633(hf:pg.fs 633=some cf633)(h644:pg.fs 644=some cf644)(h634:pg.fs 634=some cf634)(nl cl:Bool)(es:List Sp)(hb:es.length<=big):Ret pg 633 [.sl nl (es.map aR) cl,.fn 634 []] (.bool (es.any jY)):=
 mE (n:=644) hf (by simp only[treeL,mB,pB,fH,Bool.and_true]) (c644 h644 nl cl es hb 634 [] rfl jY (fun x _=>c634 h634 x))
theorem c635(hf:pg.fs 635=some cf635)(nl cl:Bool)(es:List AV)(hel:∀x∈es,El 2 true x)(hb:es.length<=big)(hnl:nl=true->es=[]):bJ pg 635 [.sl nl es cl] (kO 2 true es):=by
 refine bJ.ofX hf ?_
 unfold cf635
 simp only[go_sem,seval]
 cases nl
 ·simp only[go_sem,seval]
  refine fV (kb:=0) (s:=1) (bytes:=16) (es:=[]) (xs:=es) (Own.nil _ _ _ _ _ _ rfl) (by simp) hel ?_ (by decide) ?_
  ·simp only[List.length_nil,big]at *;omega
  ·intro v' rd pa ho hk hpa
   simp only[go_sem,seval]
   exact ho.conv (by simpa using hel)
 ·simp only[go_sem,seval]
  exact .inl ⟨hnl rfl,true,true,rfl,rfl⟩
end
end Go.Tev
end
