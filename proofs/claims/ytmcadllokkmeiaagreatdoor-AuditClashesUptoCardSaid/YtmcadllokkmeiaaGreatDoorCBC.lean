import Derived.Test.YtmcadllokkmeiaaGreatDoorCBB
import Derived.Test.YtmcadllokkmeiaaGreatDoorCAT
set_option linter.all false
namespace Go.Tev
section
theorem wP{h:Hp}{d:Nat}{a b c c' e:AV}{keys:List Nat}(ha:a.tree=true)(hb:b.tree=true)(hc:Tev.snap (d+1) h c=some (c',keys))(he:e.tree=true):dA (Tev.snap (d+1) h) [a,b,c,e]=some ([a,b,c',e],keys):=by simp[bD,cF,oC ha,oC hb,oC he,hc]
section
variable{pg:Pg}
set_option maxRecDepth 8000 in
set_option maxHeartbeats 2000000 in
theorem c31(hf:pg.fs 31=some aBo)(h49:∀k:aA,Ret pg 49 [k.av] (.bool (bO k)))
  (h50:∀(k:aA),0<=k.inputs->(∀t∈k.values.es,t.shape.dims.es.length<=6)->∀(nl cl:Bool)(th:List Bool),th.length=k.values.es.length->∀(q:aH)(second:Bool),
   q.body.ok->q.index.ok->k.vars.es.length+9+q.body.sz<=big->k.vars.es.length+9+q.index.sz<=big ->
   Ret pg 50 [k.av,q.av,.sl nl (th.map AV.bool) cl,.bool second] (.bool (lS k q th second)))
  (k:aA) (hq:∀q∈k.list.es,q.body.ok/\q.index.ok/\k.vars.es.length+9+q.body.sz<=big/\k.vars.es.length+9+q.index.sz<=big) :
  Ret pg 31 [k.av] (.tup [.int .i64 (cP k).1,.int .i64 (cP k).2]):=by
 have a1:=h49 k;simp only[aA.av,aA.cells,Sl.av]at a1;refine Ret.ofX hf ?_;unfold aBo;simp only[aA.av,aA.cells,go_sem,seval];refine aB a1 ?_;cases ho:bO k;refine Wk ?_;simp only[cP,ho];rfl;have hV:((k.values.es.length:Int)<=1073741824)=True:=eq_true (by have:=k.values.ok;simp only[big]at this;omega);have hfl:(List.replicate k.values.es.length [AV.bool false]).flatten=(List.replicate k.values.es.length false).map AV.bool:=by
  rw[List.map_replicate]
  induction k.values.es.length with
  |zero=>rfl
  |succ n ih=>rw[List.replicate_succ,List.flatten_cons,ih,List.replicate_succ];rfl
 simp only[hV,hfl,go_sem,seval];have hso:=ho;simp only[bO,aG,aY]at hso;obtain⟨_,⟨⟨⟨⟨⟨⟨_,_⟩,hi0⟩,_⟩,hiV⟩,_⟩,_⟩,hty⟩:=hso;have hvals:∀t∈k.values.es,t.shape.dims.es.length<=6:=λt ht=>CT (by rw[eG]at hty;exact hty t ht);obtain⟨ins,hins⟩:∃n:Nat,k.inputs=n:=⟨k.inputs.toNat,by omega⟩
 have hinV:ins<=k.values.es.length:=by omega
 have hVb:=k.values.ok;have hf0:l8 k.values.es.length 0=List.replicate k.values.es.length false:=by simp[l8]
 refine aK (List.range ins) (λd r env hp=>env=SR (.pt 1 0 0) (.rf 9 0 0 k.values.es.length k.values.es.length) (.int .i64 d.length) /\
  hp.get 1=some (0,.blk (bG k) 6 true true false)/\hp.get 9=some (0,.blk ((l8 k.values.es.length d.length).map AV.bool) 1 false true false)) ?_ ?_ ?_
 refine⟨rfl,?_,?_⟩;refine Wk ?_;rfl;rw[show ([]:List Nat).length=0 from rfl,hf0];simp only[go_sem,seval];rintro env hp ⟨rfl,g1,g9⟩;have hr:(List.range ins).length=ins:=List.length_range;rw[hr]at g9 ⊢;have e1:decide ((ins:Int)<k.inputs)=false:=by simp;omega
 have hth0:l8 k.values.es.length ins=fX k:=by simp[l8,fX,hins]
 rw[hth0]at g9;have hthl:(fX k).length=k.values.es.length:=by rw[<-hth0,vH hinV]
 have g1':=g1;simp only[bG]at g1;simp only[SQ,SR,e1,g1,go_sem,seval];have hrun:nS k (fX k) k.list.es 0=nS k (bR (fX k) []) k.list.es ([]:List aH).length:=rfl;clear hr hth0 hf0 hV hfl e1
 refine aK k.list.es (λd r env hp=>env=wZ (.pt 1 0 0) (.rf 9 0 0 k.values.es.length k.values.es.length) (.int .i64 d.length) /\
  nS k (fX k) k.list.es 0=nS k (bR (fX k) d) r d.length /\
  hp.get 1=some (0,.blk (bG k) 6 true true false)/\hp.get 9=some (0,.blk ((bR (fX k) d).map AV.bool) 1 false true false)) ?_ ?_ ?_
 exact⟨rfl,hrun,g1',g9⟩;clear g1 g1' g9 hp;rintro env hp ⟨rfl,hru,g1,g9⟩;have hthe:(bR (fX k) k.list.es).length=k.values.es.length:=by rw[dJ,hthl]
 generalize hTH:bR (fX k) k.list.es=th at *;have g1':=g1;simp only[bG]at g1;have hfin:∀ok:Bool,(!eM k th)=ok->cP k=((k.list.es.length:Int),if ok then 0 else 22):=by intro ok h;rw[cP,ho,hru,nS,hTH];cases ok<;>simp at h<;>simp[h]
 have hrb:=k.results.ok
 have hstart:∀b:Bool,b=(decide (1<=(k.results.es.length:Int))&&decide ((k.results.es.length:Int)<=8))->(!eM k th)=(b&&k.results.es.all λv => !dY k th v):=by
  intro b hb;have h1:decide (1<=(k.results.es.length:Int)) = !decide ((k.results.es.length:Int)<1):=by rw[<-decide_not,dC];omega
  have h2:decide ((k.results.es.length:Int)<=8) = !decide (8<(k.results.es.length:Int)):=by rw[<-decide_not,dC];omega
  rw[hb,h1,h2,eM,<-List.not_any_eq_all_not];simp only[Bool.not_or]
 clear hru hrun;cases r1:decide (1<=(k.results.es.length:Int))
 case false=>
  simp only[wY,wZ,g1,bA,r1,go_sem,seval]
  refine aK k.results.es (λd r env hp=>∃ok:Bool,env=iA (.pt 1 0 0) (.rf 9 0 0 k.values.es.length k.values.es.length) (.bool ok) (.int .i64 d.length) /\
   hp.get 1=some (0,.blk (bG k) 6 true true false)/\hp.get 9=some (0,.blk (th.map AV.bool) 1 false true false)/\(!eM k th)=(ok&&r.all λv => !dY k th v)) ?_ ?_ ?_
  exact⟨_,rfl,g1',g9,hstart _ (by first|rw[r1];rfl|rw[r1,r2];rfl)⟩;rintro env hp ⟨ok,rfl,g1,g9,hI⟩;simp only[bG]at g1;have hf2:=hfin ok (by rw[hI];simp);rw[hf2];cases ok;simp only[jA,iA,g1,bA,go_sem,seval];simp only[jA,iA,g1,bA,go_sem,seval];rintro d v r env hp hes ⟨ok,rfl,g1,g9,hI⟩;obtain⟨hget,e1,e2,ew⟩:=cX hes hrb;have g1'':=g1;simp only[bG]at g1;cases ok;have hf2:=hfin false (by rw[hI];simp);rw[hf2];simp only[jA,iA,g1,e1,go_sem,seval];have hI2:(!eM k th)=(!dY k th v&&r.all λv => !dY k th v):=by rw[hI];simp
  cases z1:decide (0<=v);have:dY k th v=true:=by
   have h:decide (v<0)=true:=by simp at z1 ⊢;omega
   simp only[dY,h,Bool.true_or]
  simp only[jA,iA,g1,e1,e2,hget,z1,ew,go_sem,seval];exact⟨_,rfl,rfl,g9,by rw[hI2,this];simp⟩;cases z2:decide (v<(k.values.es.length:Int));have:dY k th v=true:=by
   have h:decide ((k.values.es.length:Int)<=v)=true:=by simp at z2 ⊢;omega
   simp only[dY,h,Bool.true_or,Bool.or_true]
  simp only[jA,iA,g1,e1,e2,hget,z1,z2,ew,go_sem,seval];exact⟨_,rfl,rfl,g9,by rw[hI2,this];simp⟩;have z1':(0<=v)=True:=eq_true (aM z1);have z2':(v<(k.values.es.length:Int))=True:=eq_true (aM z2);obtain⟨b,hb⟩:∃b,th[v.toNat]?=some b:=⟨_,aX (by simp at z1 z2;omega)⟩
  have:dY k th v = !b:=by
   have h1:decide (v<0)=false:=by simp at z1 ⊢;omega
   have h2:decide ((k.values.es.length:Int)<=v)=false:=by simp at z2 ⊢;omega
   simp only[dY,h1,h2,Bool.false_or,bK,hb];rfl
  simp only[jA,iA,g1,g9,e1,e2,hget,z1,z2,z1',z2',hb,Nat.mul_one,Nat.zero_add,ew,go_sem,seval];exact⟨_,rfl,rfl,by rw[hI2,this];simp⟩
 case true=>
  cases r2:decide ((k.results.es.length:Int)<=8);simp only[wY,wZ,g1,bA,r1,r2,go_sem,seval]
  refine aK k.results.es (λd r env hp=>∃ok:Bool,env=iA (.pt 1 0 0) (.rf 9 0 0 k.values.es.length k.values.es.length) (.bool ok) (.int .i64 d.length) /\
   hp.get 1=some (0,.blk (bG k) 6 true true false)/\hp.get 9=some (0,.blk (th.map AV.bool) 1 false true false)/\(!eM k th)=(ok&&r.all λv => !dY k th v)) ?_ ?_ ?_
  exact⟨_,rfl,g1',g9,hstart _ (by first|rw[r1];rfl|rw[r1,r2];rfl)⟩;rintro env hp ⟨ok,rfl,g1,g9,hI⟩;simp only[bG]at g1;have hf2:=hfin ok (by rw[hI];simp);rw[hf2];cases ok;simp only[jA,iA,g1,bA,go_sem,seval];simp only[jA,iA,g1,bA,go_sem,seval];rintro d v r env hp hes ⟨ok,rfl,g1,g9,hI⟩;obtain⟨hget,e1,e2,ew⟩:=cX hes hrb;have g1'':=g1;simp only[bG]at g1;cases ok;have hf2:=hfin false (by rw[hI];simp);rw[hf2];simp only[jA,iA,g1,e1,go_sem,seval];have hI2:(!eM k th)=(!dY k th v&&r.all λv => !dY k th v):=by rw[hI];simp
  cases z1:decide (0<=v);have:dY k th v=true:=by
   have h:decide (v<0)=true:=by simp at z1 ⊢;omega
   simp only[dY,h,Bool.true_or]
  simp only[jA,iA,g1,e1,e2,hget,z1,ew,go_sem,seval];exact⟨_,rfl,rfl,g9,by rw[hI2,this];simp⟩;cases z2:decide (v<(k.values.es.length:Int));have:dY k th v=true:=by
   have h:decide ((k.values.es.length:Int)<=v)=true:=by simp at z2 ⊢;omega
   simp only[dY,h,Bool.true_or,Bool.or_true]
  simp only[jA,iA,g1,e1,e2,hget,z1,z2,ew,go_sem,seval];exact⟨_,rfl,rfl,g9,by rw[hI2,this];simp⟩;have z1':(0<=v)=True:=eq_true (aM z1);have z2':(v<(k.values.es.length:Int))=True:=eq_true (aM z2);obtain⟨b,hb⟩:∃b,th[v.toNat]?=some b:=⟨_,aX (by simp at z1 z2;omega)⟩
  have:dY k th v = !b:=by
   have h1:decide (v<0)=false:=by simp at z1 ⊢;omega
   have h2:decide ((k.values.es.length:Int)<=v)=false:=by simp at z2 ⊢;omega
   simp only[dY,h1,h2,Bool.false_or,bK,hb];rfl
  simp only[jA,iA,g1,g9,e1,e2,hget,z1,z2,z1',z2',hb,Nat.mul_one,Nat.zero_add,ew,go_sem,seval];exact⟨_,rfl,rfl,by rw[hI2,this];simp⟩;simp only[wY,wZ,g1,bA,r1,r2,go_sem,seval]
  refine aK k.results.es (λd r env hp=>∃ok:Bool,env=iA (.pt 1 0 0) (.rf 9 0 0 k.values.es.length k.values.es.length) (.bool ok) (.int .i64 d.length) /\
   hp.get 1=some (0,.blk (bG k) 6 true true false)/\hp.get 9=some (0,.blk (th.map AV.bool) 1 false true false)/\(!eM k th)=(ok&&r.all λv => !dY k th v)) ?_ ?_ ?_
  exact⟨_,rfl,g1',g9,hstart _ (by first|rw[r1];rfl|rw[r1,r2];rfl)⟩;rintro env hp ⟨ok,rfl,g1,g9,hI⟩;simp only[bG]at g1;have hf2:=hfin ok (by rw[hI];simp);rw[hf2];cases ok;simp only[jA,iA,g1,bA,go_sem,seval];simp only[jA,iA,g1,bA,go_sem,seval];rintro d v r env hp hes ⟨ok,rfl,g1,g9,hI⟩;obtain⟨hget,e1,e2,ew⟩:=cX hes hrb;have g1'':=g1;simp only[bG]at g1;cases ok;have hf2:=hfin false (by rw[hI];simp);rw[hf2];simp only[jA,iA,g1,e1,go_sem,seval];have hI2:(!eM k th)=(!dY k th v&&r.all λv => !dY k th v):=by rw[hI];simp
  cases z1:decide (0<=v);have:dY k th v=true:=by
   have h:decide (v<0)=true:=by simp at z1 ⊢;omega
   simp only[dY,h,Bool.true_or]
  simp only[jA,iA,g1,e1,e2,hget,z1,ew,go_sem,seval];exact⟨_,rfl,rfl,g9,by rw[hI2,this];simp⟩;cases z2:decide (v<(k.values.es.length:Int));have:dY k th v=true:=by
   have h:decide ((k.values.es.length:Int)<=v)=true:=by simp at z2 ⊢;omega
   simp only[dY,h,Bool.true_or,Bool.or_true]
  simp only[jA,iA,g1,e1,e2,hget,z1,z2,ew,go_sem,seval];exact⟨_,rfl,rfl,g9,by rw[hI2,this];simp⟩;have z1':(0<=v)=True:=eq_true (aM z1);have z2':(v<(k.values.es.length:Int))=True:=eq_true (aM z2);obtain⟨b,hb⟩:∃b,th[v.toNat]?=some b:=⟨_,aX (by simp at z1 z2;omega)⟩
  have:dY k th v = !b:=by
   have h1:decide (v<0)=false:=by simp at z1 ⊢;omega
   have h2:decide ((k.values.es.length:Int)<=v)=false:=by simp at z2 ⊢;omega
   simp only[dY,h1,h2,Bool.false_or,bK,hb];rfl
  simp only[jA,iA,g1,g9,e1,e2,hget,z1,z2,z1',z2',hb,Nat.mul_one,Nat.zero_add,ew,go_sem,seval];exact⟨_,rfl,rfl,by rw[hI2,this];simp⟩
 clear g1 g1' g9 hp;rintro d q r env hp hes ⟨rfl,hru,g1,g9⟩;have hmem:q∈k.list.es:=by rw[hes];simp
 obtain⟨p1,p2,p3,p4⟩:=hq q hmem;have hlb:=k.list.ok;obtain⟨hget,e1,e2,ew⟩:=cX hes hlb;have hkk:=h50 k hi0 hvals false true (bR (fX k) d) (by rw[dJ,hthl]) q (lR k q d.length) p1 p2 p3 p4;rw[L9 k q _ d.length hi0]at hkk;simp only[aA.av,aA.cells,Sl.av]at hkk;have g1':=g1;simp only[bG]at g1;rcases mK d with hd|⟨d',q0,hd⟩
 have e3:decide (0<(d.length:Int))=false:=by simp[hd]
 have hsec:lR k q d.length=false:=by simp[lR,hd]
 rw[hsec]at hkk;simp only[wY,wZ,e1,e2,g1,hget,e3,go_sem,seval];refine aQ ?_;refine cK hkk (wP (by simp only[go_sem,seval]) (by simp only[go_sem,seval]) (fP (l:=bR (fX k) d) (by rw[dJ,hthl]) g9 62) (by simp only[go_sem,seval])) (v:=.bool (cA k (bR (fX k) d) q d.length)) (pa:=[]) rfl ?_;cases hkq:cA k (bR (fX k) d) q d.length;refine Wk ?_;refine aQ ?_;rw[cP,ho,hru,nS,hkq];rfl;obtain⟨w1,w2,w3⟩:=jZ hkq;have k0:(0<=q.value)=True:=eq_true (by omega);have k2':(q.value<(k.values.es.length:Int))=True:=eq_true w2;have k4:(0+q.value.toNat*1+1<=(bR (fX k) d).length)=True:=eq_true (by rw[dJ,hthl];omega);have e4:=qI (l:=(bR (fX k) d).map AV.bool) (n:=q.value.toNat) (.bool true) (by rw[aI,dJ,hthl];omega);rw[fJ]at e4;refine Wk ?_;refine aQ ?_;simp only[g1,g9,hget,e1,e2,k0,k2',k4,e4,ew,go_sem,seval];rw[oB];refine⟨rfl,?_,rfl,rfl⟩;rw[hru,nS,hkq];simp;have hd':d=d'++[q0]:=by simpa using hd
 have e3:decide (0<(d.length:Int))=true:=by simp[hd']
 have e4':wr .i64 ((d.length:Int)-1)=(d'.length:Int):=by
  have:d.length<=k.list.es.length:=by rw[hes];simp
  simp only[big]at hlb;rw[aO (by omega) (by omega),hd',bX,List.length_singleton];omega
 have e5:k.list.es[d'.length]?=some q0:=by rw[hes,hd'];simp
 have e6:((d'.length:Int)<(k.list.es.length:Int))=True:=eq_true (by rw[hes,hd'];simp;omega);have hsec:lR k q d.length=(decide (q0.kind=1)&&decide (q0.value=q.value)):=by
  have h1:decide ((d.length:Int)=0)=false:=by simp[hd'];omega
  have h2:((d.length:Int)-1).toNat=d'.length:=by rw[hd',bX,List.length_singleton];omega
  simp only[lR,h1,h2,e5];rfl
 rw[hsec]at hkk;cases b1:decide (q0.kind=1);rw[b1]at hkk;simp only[wY,wZ,e1,e2,g1,hget,e3,e4',e5,e6,b1,go_sem,seval];refine aQ ?_;refine cK hkk (wP (by simp only[go_sem,seval]) (by simp only[go_sem,seval]) (fP (l:=bR (fX k) d) (by rw[dJ,hthl]) g9 62) (by simp only[go_sem,seval])) (v:=.bool (cA k (bR (fX k) d) q d.length)) (pa:=[]) rfl ?_;cases hkq:cA k (bR (fX k) d) q d.length;refine Wk ?_;refine aQ ?_;rw[cP,ho,hru,nS,hkq];rfl;obtain⟨w1,w2,w3⟩:=jZ hkq;have k0:(0<=q.value)=True:=eq_true (by omega);have k2':(q.value<(k.values.es.length:Int))=True:=eq_true w2;have k4:(0+q.value.toNat*1+1<=(bR (fX k) d).length)=True:=eq_true (by rw[dJ,hthl];omega);have e4:=qI (l:=(bR (fX k) d).map AV.bool) (n:=q.value.toNat) (.bool true) (by rw[aI,dJ,hthl];omega);rw[fJ]at e4;refine Wk ?_;refine aQ ?_;simp only[g1,g9,hget,e1,e2,k0,k2',k4,e4,ew,go_sem,seval];rw[oB];refine⟨rfl,?_,rfl,rfl⟩;rw[hru,nS,hkq];simp;rw[b1]at hkk;simp only[wY,wZ,e1,e2,g1,hget,e3,e4',e5,e6,b1,go_sem,seval];refine aQ ?_;refine cK hkk (wP (by simp only[go_sem,seval]) (by simp only[go_sem,seval]) (fP (l:=bR (fX k) d) (by rw[dJ,hthl]) g9 62) (by simp only[go_sem,seval])) (v:=.bool (cA k (bR (fX k) d) q d.length)) (pa:=[]) rfl ?_;cases hkq:cA k (bR (fX k) d) q d.length;refine Wk ?_;refine aQ ?_;rw[cP,ho,hru,nS,hkq];rfl;obtain⟨w1,w2,w3⟩:=jZ hkq;have k0:(0<=q.value)=True:=eq_true (by omega);have k2':(q.value<(k.values.es.length:Int))=True:=eq_true w2;have k4:(0+q.value.toNat*1+1<=(bR (fX k) d).length)=True:=eq_true (by rw[dJ,hthl];omega);have e4:=qI (l:=(bR (fX k) d).map AV.bool) (n:=q.value.toNat) (.bool true) (by rw[aI,dJ,hthl];omega);rw[fJ]at e4;refine Wk ?_;refine aQ ?_;simp only[g1,g9,hget,e1,e2,k0,k2',k4,e4,ew,go_sem,seval];rw[oB];refine⟨rfl,?_,rfl,rfl⟩;rw[hru,nS,hkq];simp;rintro d x r env hp hes ⟨rfl,g1,g9⟩;obtain⟨hx,hlt⟩:=gT hes;have hb2:(d++x::r).length<=big:=by rw[<-hes];simp;omega
 have e1:decide ((d.length:Int)<k.inputs)=true:=by simp;omega
 have e2:((d.length:Int)<(k.values.es.length:Int))=True:=eq_true (by omega);have g1':=g1;simp only[bG]at g1;have hfl2:=vH (V:=k.values.es.length) (i:=d.length) (by omega);have e3:(0+d.length*1+1<=(l8 k.values.es.length d.length).length)=True:=eq_true (by omega);have e4:=qI (l:=(l8 k.values.es.length d.length).map AV.bool) (n:=d.length) (.bool true) (by simp;omega);rw[fJ,GX (by omega)]at e4;simp only[SQ,SR,e1,e2,g1,g9,e3,e4,aW hb2,go_sem,seval];rw[bX];exact⟨rfl,rfl,rfl⟩
end
end
section
section
variable{pg:Pg}
theorem c22(hf:pg.fs 22=some aBu)(h37:∀p:aC,p.ok->p.sz<=big->bE pg 37 [p.av] (nP 1 false ((bM p).map aJ)))(h38:pg.fs 38=some AF)(q:aH)(h1:q.body.ok)(h2:q.index.ok)(hsz:q.body.sz+q.index.sz+1<=big) :
  bE pg 22 [q.av] (nP 1 false ((iU q).map aJ)):=by
 have a1:=h37 q.body h1 (by omega);have a2:=h37 q.index h2 (by omega);rw[aC.avc]at a1 a2;have l1:=jX q.body;have l2:=jX q.index;refine bE.ofX hf ?_;unfold aBu;refine Wk ?_;refine AO a1 (by simp only[go_sem,seval]) (El.ints _) ?_;intro v rd pa ho hk _;have k1:=hk 1 (by omega);simp only[go_sem,seval]at k1;generalize hH:Eff.app _ (Eff.pat rd pa)=H at ho k1 ⊢;clear hH hk;simp only[k1,go_sem,seval];cases h3:decide (q.kind=3);refine Wk ?_;have hr:iU q=bM q.body:=by simp[iU,h3]
 rw[hr];exact ho.conv (El.ints _);simp only[k1,go_sem,seval];refine lQ a2 (by simp only[go_sem,seval]) ?_;intro nl2 cl2 _;refine Wk ?_;obtain⟨C,hC,k1⟩:∃C,C=q.av.cells/\H.get 1=some (0,.blk C 24 true true false):=⟨_,(aH.cells_av q).symm,k1⟩
 refine aK (bM q.index) (λd r env hp=>∃v k1,env=S3 (.pt 1 0 0) v (.sl nl2 ((bM q.index).map aJ) cl2) (.int .i64 d.length)/\Own hp k1 1 false v ((jE (bM q.body) d).map aJ)/\hp.get 1=some (0,.blk C 24 true true false)) ?_ ?_ ?_;refine⟨v,5,rfl,ho.mono ?_,?_⟩;simp only[go_sem,seval];refine Wk ?_;exact k1;clear ho k1 a1 a2;rintro env hp ⟨v,k2,rfl,ho,g1⟩;have hr:iU q=if decide (q.source=q.value) then jE (bM q.body) (bM q.index) else gS q.source (jE (bM q.body) (bM q.index)):=by simp[iU,h3]
 have hpl:=mQ (bM q.index) (bM q.body);rw[hC,aH.cells_av]at g1;simp only[S1,S3,g1,go_sem,seval];rw[hr];cases h4:decide (q.source=q.value)
 case true=>refine Wk ?_;exact ho.conv (El.ints _)
 case false=>simp only[g1,go_sem,seval];refine FH h38 ho (by omega) ?_;intro r' h' k3 ho' _;refine Wk ?_;exact ho'.conv (El.ints _)
 clear ho k1 a1 a2;rintro d y r env hp hes ⟨v,k2,rfl,ho,g1⟩;have hd2:d.length<(bM q.index).length:=by rw[hes];simp
 have hget:(bM q.index)[d.length]?=some y:=by rw[hes];simp
 have hpl:=mQ d (bM q.body);have hbb:(jE (bM q.body) d).length<big:=by omega
 have f1:decide ((d.length:Int)<((bM q.index).length:Int))=true:=by simp;omega
 have f2:((d.length:Int)<((bM q.index).length:Int))=True:=eq_true (by omega);have hw2:wr .i64 ((d.length:Int)+1)=((d++[y]).length:Int):=aW (r:=r) (by rw[<-hes];omega);have hsn2:=wM (bM q.body) d y;simp only[S1,S3,f1,f2,hget,go_sem,seval];refine FH h38 ho hbb ?_;intro r' h' k3 ho' hun;simp only[hw2,go_sem,seval];rw[hsn2];exact⟨r',k3,rfl,ho',(hun 1 (by decide)).trans g1⟩
end
end
section
theorem F5(sp:List Sp)(v x:Int)(n:Nat):(kA sp v x)[n]?=(sp[n]?).map (λs=>if v.toNat=n then (s.1,x) else s):=by simp only[kA,List.getElem?_modify];split<;>simp[*]
theorem AY(sp:List Sp)(v x:Int)(n:Nat):(iX sp v x)[n]?=(sp[n]?).map (λs=>if v.toNat=n then (x,s.2) else s):=by simp only[iX,List.getElem?_modify];split<;>simp[*]
theorem tJ(i:Nat):∀(l:List Int)(sp:List Sp)(n:Nat),(eP sp i l)[n]?=(sp[n]?).map (λs=>if n∈l.map Int.toNat then (s.1,(i:Int)) else s)
 |[],sp,n=>by simp[eP]
 |v::r,sp,n=>by have h:=tJ i r (kA sp v i) n;simp only[eP,List.foldl_cons]at h ⊢;rw[h,F5,Option.map_map];congr 1;funext s;simp only[Function.comp,List.map_cons,List.mem_cons];by_cases h1:v.toNat=n;subst h1;simp;have h2:¬n=v.toNat:=λh=>h1 h.symm;simp[h1,h2]
def uses(q:aH)(n:Nat):Prop:=n=q.value.toNat\/n∈(d9 q).map Int.toNat
theorem PM(sp:List Sp)(i:Nat)(q:aH)(n:Nat)(s:Sp)(h:sp[n]?=some s) :
  ∃s',(nR sp i q)[n]?=some s'/\(s'.1=if n=q.value.toNat/\s.1 = -2 then (i:Int) else s.1)/\(uses q n->s'.2=i)/\(¬uses q n->s'.2=s.2):=by
 have hf:kG sp q.value = -2/\n=q.value.toNat->s.1 = -2:=by rintro⟨h1,rfl⟩;simpa[kG,h] using h1
 have hf2:n=q.value.toNat->s.1 = -2->kG sp q.value = -2:=by rintro rfl h1;simpa[kG,h] using h1
 simp only[nR,tJ,F5];by_cases hv:n=q.value.toNat;have hv':q.value.toNat=n:=hv.symm;by_cases h1:s.1 = -2;have h2:=hf2 hv h1;simp only[h2,decide_true,if_true,AY,h,Option.map_some,hv'];refine⟨_,rfl,?_,?_,?_⟩;split<;>simp[h1,hv];intro _;split<;>rfl;intro hn;exact absurd (.inl hv) hn;have h2:¬kG sp q.value = -2:=λh=>h1 (hf ⟨h,hv⟩);simp only[h2,decide_false,Bool.false_eq_true,if_false,h,Option.map_some,hv',if_true];refine⟨_,rfl,?_,?_,?_⟩;split<;>simp[h1];intro _;split<;>rfl;intro hn;exact absurd (.inl hv) hn;have hv':¬q.value.toNat=n:=λh=>hv h.symm;have e:(if decide (kG sp q.value = -2)=true then iX sp q.value i else sp)[n]?=some s:=by split;rw[AY,h,Option.map_some,if_neg hv'];exact h
 simp only[e,Option.map_some,hv',if_false];refine⟨_,rfl,?_,?_,?_⟩;split<;>simp[hv];rintro(hu|hu);exact absurd hu hv;rw[if_pos hu];intro hn;rw[if_neg (λh=>hn (.inr h))]
theorem PO(V i n:Nat)(s:Sp)(h:(eD V i)[n]?=some s):(n<i/\s=(-1,-1))\/(i<=n/\s=(-2,-2)):=by simp only[eD]at h;rcases Nat.lt_or_ge n i with h1|h1;rw[List.getElem?_append_left (by simpa using h1),List.getElem?_replicate,if_pos h1]at h;exact .inl ⟨h1,by cases h;rfl⟩;rw[tH (by simpa using h1),List.getElem?_replicate]at h;split at h;exact .inr ⟨h1,by cases h;rfl⟩;cases h
theorem lH.inp{k:aA}(ok:lH k):0<=k.inputs/\k.inputs<=k.values.es.length:=by have h:=ok.out;simp only[bO,aG,aY]at h;omega
theorem PL{k:aA}(n:Nat):(aF k)[n]?=((iT (eD k.values.es.length k.inputs.toNat) 0 k.list.es)[n]?).map (λs=>if n∈k.results.es.map Int.toNat then (s.1,(k.list.es.length:Int)) else s):=by rw[aF,show pT=λsp n l=>eP sp n l from rfl];exact tJ _ _ _ _
end
section
def aIC(q:aH):List Int:=iU q++[q.value]
theorem ZD{q:aH}{a:Int}:a∈aIC q↔a∈d9 q\/a=q.value:=by
 have e1:∀p,a∈cE p↔a∈eQ p:=λp=>by simp only[cE,mW,oP]
 simp only[aIC,iU,d9,nQ,List.mem_singleton];cases decide (q.kind=3);simp[jY,e1];cases hs:decide (q.source=q.value);simp only[if_true,Bool.false_eq_true,if_false,xT,vC,jY,e1,nQ,List.mem_singleton];constructor;rintro((h|h|h)|h)<;>simp[h];rintro((h|h|h)|h)<;>simp[h];have hs':q.source=q.value:=by simpa using hs
 simp only[if_true,vC,jY,e1,nQ,List.mem_singleton,hs'];constructor;rintro((h|h)|h)<;>simp[h];rintro((h|h|h)|h)<;>simp[h]
end
section
def eH(v:Int)(i:Int)(l:List Int)(s:Sp):Sp:=if l.any (λw=>decide (w=v)) then (s.1,i) else s
theorem eE(v i:Int)(d:List Int)(x:Int)(s:Sp):eH v i (d++[x]) s=if decide (x=v) then ((eH v i d s).1,i) else eH v i d s:=by simp only[eH,List.any_append,List.any_cons,List.any_nil,Bool.or_false];cases List.any d (λw=>decide (w=v))<;>cases decide (x=v)<;>simp
def wG(v:Int)(i:Int)(q:aH)(s:Sp):Sp:=if decide (q.value=v) then (if decide (s.1 = -2) then i else s.1,i) else s
def sZ(v:Int)(i:Int)(q:aH)(s:Sp):Sp:=eH v i (iU q) (wG v i q s)
def DC(v:Int):Sp->Nat->List aH->Sp
 |s,_,[]=>s
 |s,i,q::r=>DC v (sZ v i q s) (i+1) r
theorem mP(v:Int):∀(d:List aH)(s:Sp)(i:Nat)(q:aH),DC v s i (d++[q])=sZ v ((i+d.length:Nat):Int) q (DC v s i d)
 |[],s,i,q=>rfl
 |x::r,s,i,q=>by simp only[List.cons_append,DC,mP v r,List.length_cons];rw[show i+1+r.length=i+(r.length+1) from by omega]
def s0q(k:aA)(v:Int):Sp:=if decide (v<k.inputs) then (-1,-1) else (-2,-2)
def A1(k:aA)(v:Int):Sp:=eH v k.list.es.length k.results.es (DC v (s0q k v) 0 k.list.es)
def DG(k:aA):List Sp:=(List.range k.values.es.length).map λv=>A1 k (v:Nat)
theorem L4(sp:List Sp)(w x:Int)(v:Nat)(hw:0<=w):(kA sp w x)[v]?=(sp[v]?).map λs=>if decide (w=(v:Int)) then (s.1,x) else s:=by
 simp only[kA,List.getElem?_modify];cases sp[v]? with
 |none=>rfl
 |some s=>
  by_cases h:w=v;have:w.toNat=v:=by omega
  simp[h];have:¬w.toNat=v:=by omega
  simp[h,this]
theorem PV(sp:List Sp)(w x:Int)(v:Nat)(hw:0<=w):(iX sp w x)[v]?=(sp[v]?).map λs=>if decide (w=(v:Int)) then (x,s.2) else s:=by
 simp only[iX,List.getElem?_modify];cases sp[v]? with
 |none=>rfl
 |some s=>
  by_cases h:w=v;have:w.toNat=v:=by omega
  simp[h];have:¬w.toNat=v:=by omega
  simp[h,this]
theorem wC(i:Nat)(v:Nat):∀(l:List Int)(sp:List Sp),(∀a∈l,0<=a)->(eP sp i l)[v]?=(sp[v]?).map (eH v i l)
 |[],sp,_=>by simp only[eP,List.foldl_nil];cases sp[v]?<;>simp[eH]
 |w::r,sp,h=>by
  have ih:=wC i v r (kA sp w i) (λa ha=>h a (dH _ ha));simp only[eP,List.foldl_cons]at ih ⊢;rw[ih,L4 sp w i v (h w (by simp))];cases sp[v]? with
  |none=>rfl
  |some s=>simp only[Option.map_some,eH,List.any_cons];by_cases hr:List.any r (λw=>decide (w=(v:Int)))=true<;>by_cases hw:w=(v:Int)<;>simp only[hr,hw,decide_true,decide_false,if_true,if_false,Bool.true_or,Bool.false_or,Bool.false_eq_true]
theorem VP(sp:List Sp)(i:Nat)(q:aH)(v:Nat)(hv:0<=q.value)(hr:∀a∈d9 q,0<=a):(nR sp i q)[v]?=(sp[v]?).map (sZ v i q):=by
 rw[nR,wC i v _ _ hr,L4 _ _ _ _ hv]
 have h1:(if decide (kG sp q.value = -2) then iX sp q.value i else sp)[v]?=(sp[v]?).map λs=>if decide (q.value=(v:Int))&&decide (kG sp q.value = -2) then ((i:Int),s.2) else s:=by by_cases h:kG sp q.value = -2;simp only[h,decide_true,if_true,Bool.and_true];rw[PV _ _ _ _ hv];simp only[h,decide_false,Bool.false_eq_true,if_false,Bool.and_false];cases sp[v]?<;>rfl
 rw[h1];cases hs:sp[v]? with
 |none=>rfl
 |some s=>
  simp only[Option.map_some,bI];have hm:∀a:Int,a∈iU q++[q.value]↔a∈d9 q\/a=q.value:=λa=>ZD;simp only[sZ,wG];by_cases hqv:q.value=(v:Int)
  have hf:kG sp q.value=s.1:=by
   have:q.value.toNat=v:=by omega
   simp only[kG,this,hs]
  rw[hf];simp only[hqv,decide_true,Bool.true_and,if_true,eH];by_cases h2:s.1 = -2;simp only[h2,decide_true,if_true];split<;>split<;>rfl;simp only[h2,decide_false,Bool.false_eq_true,if_false];split<;>split<;>rfl;simp only[hqv,decide_false,Bool.false_and,Bool.false_eq_true,if_false]
  have:(d9 q).any (λw=>decide (w=(v:Int)))=(iU q).any (λw=>decide (w=(v:Int))):=by rw[Bool.eq_iff_iff];simp only[List.any_eq_true,aY];constructor;rintro⟨w,hw,rfl⟩;have:=(hm v).2 (.inl hw);rw[nQ]at this;rcases this with h|h;exact⟨_,h,rfl⟩;simp only[List.mem_singleton]at h;exact absurd h.symm hqv;rintro⟨w,hw,rfl⟩;have:=(hm v).1 (List.mem_append_left _ hw);rcases this with h|h;exact⟨_,h,rfl⟩;exact absurd h.symm hqv
  simp only[eH,this]
theorem LS(v:Nat):∀(l:List aH)(sp:List Sp)(i:Nat),(∀q∈l,0<=q.value/\∀a∈d9 q,0<=a)->(iT sp i l)[v]?=(sp[v]?).map (λs=>DC v s i l)
 |[],sp,i,_=>by simp only[iT];cases sp[v]?<;>rfl
 |q::r,sp,i,h=>by rw[iT,LS v r _ _ (λx hx=>h x (dH _ hx)),VP sp i q v (h q (by simp)).1 (h q (by simp)).2];cases sp[v]?<;>rfl
theorem VQ(k:aA)(h0:0<=k.inputs)(v:Nat)(hv:v<k.values.es.length)(hi:k.inputs<=k.values.es.length):(eD k.values.es.length k.inputs.toNat)[v]?=some (s0q k v):=by simp only[eD,s0q];by_cases h:(v:Int)<k.inputs;rw[List.getElem?_append_left (by simp;omega)];simp[List.getElem?_replicate,h];rw[tH (by simp;omega)];simp[List.getElem?_replicate,h];omega
theorem F2(k:aA)(ok:lH k):aF k=DG k:=by
 have hso:=ok.out;simp only[bO,aG,aY]at hso;obtain⟨_,⟨⟨⟨⟨⟨⟨_,_⟩,hi0⟩,_⟩,hiV⟩,_⟩,_⟩,_⟩:=hso;have hker:∀q∈k.list.es,0<=q.value/\∀a∈d9 q,0<=a:=by intro q hq;obtain⟨d,r,he⟩:=List.append_of_mem hq;have h1:=ok.ker d q r he;have h2:=jZ h1;exact⟨by omega,λa ha=>(uD h1 a ha).1⟩
 apply List.ext_getElem?;intro v;by_cases hv:v<k.values.es.length;have hr:(DG k)[v]?=some (A1 k v):=by simp[DG,List.getElem?_range hv]
 rw[hr,aF,show pT=λsp n l=>eP sp n l from rfl];dsimp only;rw[wC _ _ _ _ (λa ha=>(ok.res a ha).1),LS v _ _ _ hker,VQ k hi0 v hv hiV];rfl;rw[eC (by rw[kZ (by omega)];omega),eC (by simp[DG];omega)]
def gD(k:aA)(r:AV):Prop:=
 if (cP k).2=0 then ∃nl cl,r = .tup [.sl nl ((aF k).map bQ) cl,.int .i64 0] else r = .tup [.sl true [] true,.int .i64 22]
section
variable{pg:Pg}
set_option maxHeartbeats 1000000 in
theorem c10(hf:pg.fs 10=some aBB)(k:aA)(h31:Ret pg 31 [k.av] (.tup [.int .i64 (cP k).1,.int .i64 (cP k).2]))
  (h22:∀q∈k.list.es,bE pg 22 [q.av] (nP 1 false ((iU q).map aJ))) (hrl:∀q∈k.list.es,(iU q).length<=big):bE pg 10 [k.av] (gD k):=by
 simp only[aA.av,aA.cells,Sl.av]at h31;refine bE.ofX hf ?_;unfold aBB;simp only[aA.av,aA.cells,go_sem,seval];refine aB h31 ?_;rcases jH (k:=k) with hc|hc
 ·have ok:=dS hc;have hVb:=k.values.ok;have hLb:=k.list.ok;have hRb:=k.results.ok;rw[hc];refine Wk ?_
  refine aK (List.range k.values.es.length) (λd r env hp=>∃w,env=K9 (.pt 1 0 0) w (.int .i64 d.length)/\hp.get 1=some (0,.blk (bG k) 6 true true false) /\
   Own hp 17 2 true w ((d.map λv:Nat=>A1 k v).map bQ)) ?_ ?_ ?_
  refine⟨_,rfl,?_,Own.nil _ _ _ _ _ _ rfl⟩;refine Wk ?_;rfl;rintro env hp ⟨w,rfl,g1,ho⟩;have hr:(List.range k.values.es.length).length=k.values.es.length:=List.length_range;rw[hr];simp only[bG]at g1;simp only[K8,K9,g1,bA,go_sem,seval];have hE:((List.range k.values.es.length).map λv:Nat=>A1 k v)=aF k:=by rw[F2 k ok];rfl
  rw[hE]at ho;have hfin:∀r,(∃nl cl,r = .tup [.sl nl ((aF k).map bQ) cl,.int .i64 0])->gD k r:=by intro r hr;rw[gD,if_pos hc];exact hr
  obtain⟨nl,cl,keys,hsn,_⟩:=ho.snap (xD _) 61;rcases ho with ⟨he,nl',cl',rfl,_⟩|⟨e,cs,rfl,hg,hu⟩
  refine Wk ?_;exact hfin _ ⟨nl',cl',by rw[he]⟩;simp only[aI]at hsn;simp only[Tev.conv,depth,eK,cF,bD,↓hsn,go_sem,aI];exact hfin _ ⟨_,_,rfl⟩
  ·rintro d x r env hp hes ⟨w,rfl,g1,ho⟩;obtain⟨hx,hlt⟩:=gT hes;have e1:decide ((d.length:Int)<(k.values.es.length:Int))=true:=by simp;omega
   have ew:wr .i64 ((d.length:Int)+1)=((d++[x]).length:Int):=aW (r:=r) (by rw[<-hes];simpa using hVb);have g1':=g1;simp only[bG]at g1;cases hin:decide ((d.length:Int)<k.inputs)
   ·simp only[K8,K9,g1,e1,hin,go_sem,seval]
    refine aK k.list.es (λdd r env hp2=>∃s:Sp,env=qQ (.pt 1 0 0) w (.int .i64 d.length) (.pt 9 (hp.next 9) 0) (.int .i64 dd.length)/\hp2.get 1=some (0,.blk (bG k) 6 true true false) /\
     hp2.get 17=hp.get 17/\hp2.get 9=some (hp.next 9,.blk [.int .i64 s.1,.int .i64 s.2] 2 true true false)/\s=DC d.length (s0q k d.length) 0 dd) ?_ ?_ ?_
    ·refine⟨(-2,-2),rfl,?_,?_,?_,by simp[DC,s0q,hin]⟩
     ·first|(simp only[g1',go_sem,seval];done)|(simp only[g1',go_sem,seval];rfl)
     simp only[go_sem,seval];simp only[go_sem,seval]
    rintro env hp2 ⟨s,rfl,q1,q17,q9,hs⟩;have q1':=q1;simp only[bG]at q1;simp only[sP,qQ,q1,bA,go_sem,seval]
    refine aK k.results.es (λdd r env hp3=>env=uX (.pt 1 0 0) w (.int .i64 d.length) (.pt 9 (hp.next 9) 0) (.int .i64 dd.length)/\hp3.get 1=some (0,.blk (bG k) 6 true true false) /\
     hp3.get 17=hp.get 17/\hp3.get 9=some (hp.next 9,.blk [.int .i64 (eH d.length k.list.es.length dd s).1,.int .i64 (eH d.length k.list.es.length dd s).2] 2 true true false)) ?_ ?_ ?_
    refine⟨rfl,q1',q17,q9⟩;rintro env hp3 ⟨rfl,u1,u17,u9⟩;have u1':=u1;simp only[bG]at u1;simp only[w6,uX,u1,bA,u9,go_sem,seval];have hE:eH d.length k.list.es.length k.results.es s=A1 k d.length:=by rw[hs];rfl
    rw[hE]at u9 ⊢;refine eF (kb:=0) (s:=17) (ho.mono u17) (xD _) (xs:=[bQ (A1 k d.length)]) (by intro z hz;simp at hz;subst hz;exact⟨rfl,rfl,rfl⟩) (by simp only[aI,List.length_singleton];simp only[big]at hVb;omega) (by decide) ?_;intro v' rd pa ho2 hk2 _;simp only[ew,go_sem,seval];refine⟨v',rfl,?_,?_⟩;rw[hk2 1 (by omega)];exact u1';rw[hx];simpa using ho2;rintro dd y r3 env hp3 hes3 ⟨rfl,u1,u17,u9⟩;obtain⟨hget3,x1,x2,xw⟩:=cX hes3 hRb;have u1':=u1;simp only[bG]at u1;cases hy:decide (y=(d.length:Int));simp only[w6,uX,u1,hget3,x1,x2,hy,xw,go_sem,seval];refine⟨rfl,rfl,u17,?_⟩;rw[eE,hy];exact u9;simp only[w6,uX,u1,hget3,x1,x2,hy,u9,xw,go_sem,seval];refine⟨rfl,?_,u17,?_⟩
    first|exact u1'|rfl
    rw[eE,hy];rfl
    ·rintro dd q r2 env hp2 hes2 ⟨s,rfl,g1',g17,g9,hs⟩;have hmem:q∈k.list.es:=by rw[hes2];simp
     obtain⟨hget,f1,f2,fw⟩:=cX hes2 hLb;have g1:=g1';simp only[bG]at g1;cases hv:decide (q.value=(d.length:Int))
     ·simp only[sP,qQ,g1,f1,f2,hget,hv,go_sem,seval];have hs1:s=wG d.length dd.length q s:=by simp[wG,hv]
      refine lQ (h22 q hmem) (by simp only[go_sem,seval]) ?_;intro nl3 cl3 _;refine Wk ?_
      refine aK (iU q) (λd3 r3 env hp3=>env=gE (.pt 1 0 0) w (.int .i64 d.length) (.pt 9 (hp.next 9) 0) (.int .i64 dd.length) (.sl nl3 ((iU q).map aJ) cl3) (.int .i64 d3.length)/\hp3.get 1=some (0,.blk (bG k) 6 true true false) /\
       hp3.get 17=hp.get 17/\hp3.get 9=some (hp.next 9,.blk [.int .i64 (eH d.length dd.length d3 s).1,.int .i64 (eH d.length dd.length d3 s).2] 2 true true false)) ?_ ?_ ?_
      ·refine⟨rfl,?_,?_,?_⟩
       ·first|exact g1'|(simp only[g1',go_sem,seval];done)|(simp only[g1',go_sem,seval];rfl)
       ·first|exact g17|(simp only[g17,go_sem,seval];done)
       ·first|exact g9|(simp only[g9,eH,go_sem,seval];done)|(simp only[g9,eH,go_sem,seval];rfl)
      rintro env hp3 ⟨rfl,q1,q17,q9⟩;have q1':=q1;simp only[bG]at q1;simp only[jB,gE,bA,fw,go_sem,seval];exact⟨_,rfl,q1',q17,q9,by rw[mP,<-hs,sZ,Nat.zero_add,<-hs1]⟩;rintro d3 y r3 env hp3 hes3 ⟨rfl,q1,q17,q9⟩;obtain⟨hget3,x1,x2,xw⟩:=cX hes3 (hrl q hmem);cases hy:decide (y=(d.length:Int));simp only[jB,gE,hget3,x1,x2,hy,xw,go_sem,seval];refine⟨rfl,q1,q17,?_⟩;rw[eE,hy];exact q9;simp only[jB,gE,hget3,x1,x2,hy,q9,xw,go_sem,seval];refine⟨rfl,q1,q17,?_⟩;rw[eE,hy];rfl
     ·cases h2:decide (s.1 = -2)
      ·simp only[sP,qQ,g1,f1,f2,hget,hv,g9,h2,go_sem,seval];have hs1:(s.1,(dd.length:Int))=wG d.length dd.length q s:=by simp[wG,hv,h2]
       refine lQ (h22 q hmem) (by simp only[go_sem,seval]) ?_;intro nl3 cl3 _;refine Wk ?_
       refine aK (iU q) (λd3 r3 env hp3=>env=gE (.pt 1 0 0) w (.int .i64 d.length) (.pt 9 (hp.next 9) 0) (.int .i64 dd.length) (.sl nl3 ((iU q).map aJ) cl3) (.int .i64 d3.length)/\hp3.get 1=some (0,.blk (bG k) 6 true true false) /\
        hp3.get 17=hp.get 17/\hp3.get 9=some (hp.next 9,.blk [.int .i64 (eH d.length dd.length d3 (s.1,(dd.length:Int))).1,.int .i64 (eH d.length dd.length d3 (s.1,(dd.length:Int))).2] 2 true true false)) ?_ ?_ ?_
       ·refine⟨rfl,?_,?_,?_⟩
        ·first|exact g1'|(simp only[g1',go_sem,seval];done)|(simp only[g1',go_sem,seval];rfl)
        ·first|exact g17|(simp only[g17,go_sem,seval];done)
        ·first|exact g9|(simp only[g9,eH,go_sem,seval];done)|(simp only[g9,eH,go_sem,seval];rfl)
       rintro env hp3 ⟨rfl,q1,q17,q9⟩;have q1':=q1;simp only[bG]at q1;simp only[jB,gE,bA,fw,go_sem,seval];exact⟨_,rfl,q1',q17,q9,by rw[mP,<-hs,sZ,Nat.zero_add,<-hs1]⟩;rintro d3 y r3 env hp3 hes3 ⟨rfl,q1,q17,q9⟩;obtain⟨hget3,x1,x2,xw⟩:=cX hes3 (hrl q hmem);cases hy:decide (y=(d.length:Int));simp only[jB,gE,hget3,x1,x2,hy,xw,go_sem,seval];refine⟨rfl,q1,q17,?_⟩;rw[eE,hy];exact q9;simp only[jB,gE,hget3,x1,x2,hy,q9,xw,go_sem,seval];refine⟨rfl,q1,q17,?_⟩;rw[eE,hy];rfl
      ·simp only[sP,qQ,g1,f1,f2,hget,hv,g9,h2,go_sem,seval];have hs1:((dd.length:Int),(dd.length:Int))=wG d.length dd.length q s:=by simp[wG,hv,h2]
       refine lQ (h22 q hmem) (by simp only[go_sem,seval]) ?_;intro nl3 cl3 _;refine Wk ?_
       refine aK (iU q) (λd3 r3 env hp3=>env=gE (.pt 1 0 0) w (.int .i64 d.length) (.pt 9 (hp.next 9) 0) (.int .i64 dd.length) (.sl nl3 ((iU q).map aJ) cl3) (.int .i64 d3.length)/\hp3.get 1=some (0,.blk (bG k) 6 true true false) /\
        hp3.get 17=hp.get 17/\hp3.get 9=some (hp.next 9,.blk [.int .i64 (eH d.length dd.length d3 ((dd.length:Int),(dd.length:Int))).1,.int .i64 (eH d.length dd.length d3 ((dd.length:Int),(dd.length:Int))).2] 2 true true false)) ?_ ?_ ?_
       ·refine⟨rfl,?_,?_,?_⟩
        ·first|exact g1'|(simp only[g1',go_sem,seval];done)|(simp only[g1',go_sem,seval];rfl)
        ·first|exact g17|(simp only[g17,go_sem,seval];done)
        ·first|exact g9|(simp only[g9,eH,go_sem,seval];done)|(simp only[g9,eH,go_sem,seval];rfl)
       rintro env hp3 ⟨rfl,q1,q17,q9⟩;have q1':=q1;simp only[bG]at q1;simp only[jB,gE,bA,fw,go_sem,seval];exact⟨_,rfl,q1',q17,q9,by rw[mP,<-hs,sZ,Nat.zero_add,<-hs1]⟩;rintro d3 y r3 env hp3 hes3 ⟨rfl,q1,q17,q9⟩;obtain⟨hget3,x1,x2,xw⟩:=cX hes3 (hrl q hmem);cases hy:decide (y=(d.length:Int));simp only[jB,gE,hget3,x1,x2,hy,xw,go_sem,seval];refine⟨rfl,q1,q17,?_⟩;rw[eE,hy];exact q9;simp only[jB,gE,hget3,x1,x2,hy,q9,xw,go_sem,seval];refine⟨rfl,q1,q17,?_⟩;rw[eE,hy];rfl
   ·simp only[K8,K9,g1,e1,hin,go_sem,seval]
    refine aK k.list.es (λdd r env hp2=>∃s:Sp,env=qQ (.pt 1 0 0) w (.int .i64 d.length) (.pt 9 (hp.next 9) 0) (.int .i64 dd.length)/\hp2.get 1=some (0,.blk (bG k) 6 true true false) /\
     hp2.get 17=hp.get 17/\hp2.get 9=some (hp.next 9,.blk [.int .i64 s.1,.int .i64 s.2] 2 true true false)/\s=DC d.length (s0q k d.length) 0 dd) ?_ ?_ ?_
    ·refine⟨(-1,-1),rfl,?_,?_,?_,by simp[DC,s0q,hin]⟩
     ·first|(simp only[g1',go_sem,seval];done)|(simp only[g1',go_sem,seval];rfl)
     simp only[go_sem,seval];simp only[go_sem,seval]
    rintro env hp2 ⟨s,rfl,q1,q17,q9,hs⟩;have q1':=q1;simp only[bG]at q1;simp only[sP,qQ,q1,bA,go_sem,seval]
    refine aK k.results.es (λdd r env hp3=>env=uX (.pt 1 0 0) w (.int .i64 d.length) (.pt 9 (hp.next 9) 0) (.int .i64 dd.length)/\hp3.get 1=some (0,.blk (bG k) 6 true true false) /\
     hp3.get 17=hp.get 17/\hp3.get 9=some (hp.next 9,.blk [.int .i64 (eH d.length k.list.es.length dd s).1,.int .i64 (eH d.length k.list.es.length dd s).2] 2 true true false)) ?_ ?_ ?_
    refine⟨rfl,q1',q17,q9⟩;rintro env hp3 ⟨rfl,u1,u17,u9⟩;have u1':=u1;simp only[bG]at u1;simp only[w6,uX,u1,bA,u9,go_sem,seval];have hE:eH d.length k.list.es.length k.results.es s=A1 k d.length:=by rw[hs];rfl
    rw[hE]at u9 ⊢;refine eF (kb:=0) (s:=17) (ho.mono u17) (xD _) (xs:=[bQ (A1 k d.length)]) (by intro z hz;simp at hz;subst hz;exact⟨rfl,rfl,rfl⟩) (by simp only[aI,List.length_singleton];simp only[big]at hVb;omega) (by decide) ?_;intro v' rd pa ho2 hk2 _;simp only[ew,go_sem,seval];refine⟨v',rfl,?_,?_⟩;rw[hk2 1 (by omega)];exact u1';rw[hx];simpa using ho2;rintro dd y r3 env hp3 hes3 ⟨rfl,u1,u17,u9⟩;obtain⟨hget3,x1,x2,xw⟩:=cX hes3 hRb;have u1':=u1;simp only[bG]at u1;cases hy:decide (y=(d.length:Int));simp only[w6,uX,u1,hget3,x1,x2,hy,xw,go_sem,seval];refine⟨rfl,rfl,u17,?_⟩;rw[eE,hy];exact u9;simp only[w6,uX,u1,hget3,x1,x2,hy,u9,xw,go_sem,seval];refine⟨rfl,?_,u17,?_⟩
    first|exact u1'|rfl
    rw[eE,hy];rfl
    ·rintro dd q r2 env hp2 hes2 ⟨s,rfl,g1',g17,g9,hs⟩;have hmem:q∈k.list.es:=by rw[hes2];simp
     obtain⟨hget,f1,f2,fw⟩:=cX hes2 hLb;have g1:=g1';simp only[bG]at g1;cases hv:decide (q.value=(d.length:Int))
     ·simp only[sP,qQ,g1,f1,f2,hget,hv,go_sem,seval];have hs1:s=wG d.length dd.length q s:=by simp[wG,hv]
      refine lQ (h22 q hmem) (by simp only[go_sem,seval]) ?_;intro nl3 cl3 _;refine Wk ?_
      refine aK (iU q) (λd3 r3 env hp3=>env=gE (.pt 1 0 0) w (.int .i64 d.length) (.pt 9 (hp.next 9) 0) (.int .i64 dd.length) (.sl nl3 ((iU q).map aJ) cl3) (.int .i64 d3.length)/\hp3.get 1=some (0,.blk (bG k) 6 true true false) /\
       hp3.get 17=hp.get 17/\hp3.get 9=some (hp.next 9,.blk [.int .i64 (eH d.length dd.length d3 s).1,.int .i64 (eH d.length dd.length d3 s).2] 2 true true false)) ?_ ?_ ?_
      ·refine⟨rfl,?_,?_,?_⟩
       ·first|exact g1'|(simp only[g1',go_sem,seval];done)|(simp only[g1',go_sem,seval];rfl)
       ·first|exact g17|(simp only[g17,go_sem,seval];done)
       ·first|exact g9|(simp only[g9,eH,go_sem,seval];done)|(simp only[g9,eH,go_sem,seval];rfl)
      rintro env hp3 ⟨rfl,q1,q17,q9⟩;have q1':=q1;simp only[bG]at q1;simp only[jB,gE,bA,fw,go_sem,seval];exact⟨_,rfl,q1',q17,q9,by rw[mP,<-hs,sZ,Nat.zero_add,<-hs1]⟩;rintro d3 y r3 env hp3 hes3 ⟨rfl,q1,q17,q9⟩;obtain⟨hget3,x1,x2,xw⟩:=cX hes3 (hrl q hmem);cases hy:decide (y=(d.length:Int));simp only[jB,gE,hget3,x1,x2,hy,xw,go_sem,seval];refine⟨rfl,q1,q17,?_⟩;rw[eE,hy];exact q9;simp only[jB,gE,hget3,x1,x2,hy,q9,xw,go_sem,seval];refine⟨rfl,q1,q17,?_⟩;rw[eE,hy];rfl
     ·cases h2:decide (s.1 = -2)
      ·simp only[sP,qQ,g1,f1,f2,hget,hv,g9,h2,go_sem,seval];have hs1:(s.1,(dd.length:Int))=wG d.length dd.length q s:=by simp[wG,hv,h2]
       refine lQ (h22 q hmem) (by simp only[go_sem,seval]) ?_;intro nl3 cl3 _;refine Wk ?_
       refine aK (iU q) (λd3 r3 env hp3=>env=gE (.pt 1 0 0) w (.int .i64 d.length) (.pt 9 (hp.next 9) 0) (.int .i64 dd.length) (.sl nl3 ((iU q).map aJ) cl3) (.int .i64 d3.length)/\hp3.get 1=some (0,.blk (bG k) 6 true true false) /\
        hp3.get 17=hp.get 17/\hp3.get 9=some (hp.next 9,.blk [.int .i64 (eH d.length dd.length d3 (s.1,(dd.length:Int))).1,.int .i64 (eH d.length dd.length d3 (s.1,(dd.length:Int))).2] 2 true true false)) ?_ ?_ ?_
       ·refine⟨rfl,?_,?_,?_⟩
        ·first|exact g1'|(simp only[g1',go_sem,seval];done)|(simp only[g1',go_sem,seval];rfl)
        ·first|exact g17|(simp only[g17,go_sem,seval];done)
        ·first|exact g9|(simp only[g9,eH,go_sem,seval];done)|(simp only[g9,eH,go_sem,seval];rfl)
       rintro env hp3 ⟨rfl,q1,q17,q9⟩;have q1':=q1;simp only[bG]at q1;simp only[jB,gE,bA,fw,go_sem,seval];exact⟨_,rfl,q1',q17,q9,by rw[mP,<-hs,sZ,Nat.zero_add,<-hs1]⟩;rintro d3 y r3 env hp3 hes3 ⟨rfl,q1,q17,q9⟩;obtain⟨hget3,x1,x2,xw⟩:=cX hes3 (hrl q hmem);cases hy:decide (y=(d.length:Int));simp only[jB,gE,hget3,x1,x2,hy,xw,go_sem,seval];refine⟨rfl,q1,q17,?_⟩;rw[eE,hy];exact q9;simp only[jB,gE,hget3,x1,x2,hy,q9,xw,go_sem,seval];refine⟨rfl,q1,q17,?_⟩;rw[eE,hy];rfl
      ·simp only[sP,qQ,g1,f1,f2,hget,hv,g9,h2,go_sem,seval];have hs1:((dd.length:Int),(dd.length:Int))=wG d.length dd.length q s:=by simp[wG,hv,h2]
       refine lQ (h22 q hmem) (by simp only[go_sem,seval]) ?_;intro nl3 cl3 _;refine Wk ?_
       refine aK (iU q) (λd3 r3 env hp3=>env=gE (.pt 1 0 0) w (.int .i64 d.length) (.pt 9 (hp.next 9) 0) (.int .i64 dd.length) (.sl nl3 ((iU q).map aJ) cl3) (.int .i64 d3.length)/\hp3.get 1=some (0,.blk (bG k) 6 true true false) /\
        hp3.get 17=hp.get 17/\hp3.get 9=some (hp.next 9,.blk [.int .i64 (eH d.length dd.length d3 ((dd.length:Int),(dd.length:Int))).1,.int .i64 (eH d.length dd.length d3 ((dd.length:Int),(dd.length:Int))).2] 2 true true false)) ?_ ?_ ?_
       ·refine⟨rfl,?_,?_,?_⟩
        ·first|exact g1'|(simp only[g1',go_sem,seval];done)|(simp only[g1',go_sem,seval];rfl)
        ·first|exact g17|(simp only[g17,go_sem,seval];done)
        ·first|exact g9|(simp only[g9,eH,go_sem,seval];done)|(simp only[g9,eH,go_sem,seval];rfl)
       rintro env hp3 ⟨rfl,q1,q17,q9⟩;have q1':=q1;simp only[bG]at q1;simp only[jB,gE,bA,fw,go_sem,seval];exact⟨_,rfl,q1',q17,q9,by rw[mP,<-hs,sZ,Nat.zero_add,<-hs1]⟩;rintro d3 y r3 env hp3 hes3 ⟨rfl,q1,q17,q9⟩;obtain⟨hget3,x1,x2,xw⟩:=cX hes3 (hrl q hmem);cases hy:decide (y=(d.length:Int));simp only[jB,gE,hget3,x1,x2,hy,xw,go_sem,seval];refine⟨rfl,q1,q17,?_⟩;rw[eE,hy];exact q9;simp only[jB,gE,hget3,x1,x2,hy,q9,xw,go_sem,seval];refine⟨rfl,q1,q17,?_⟩;rw[eE,hy];rfl
 rw[hc];refine Wk ?_;rw[gD,if_neg (by rw[hc];decide)]
end
end
section
def DZ(s:Sp):Prop:=s.1 = -2 \/ -1<=s.1
theorem DY{v i:Int}{l:List Int}{s:Sp}(h:DZ s):DZ (eH v i l s):=by simp only[eH];split<;>exact h
theorem GV(v:Int):∀(l:List aH)(s:Sp)(i:Nat),DZ s->DZ (DC v s i l)
 |[],s,i,h=>h
 |q::r,s,i,h=>by refine GV v r _ _ (DY ?_);simp only[wG];split;split;exact .inr (by show (-1:Int)<=(i:Int);omega);exact h;exact h
theorem BF{k:aA}(ok:lH k){s:Sp}(h:s∈aF k):DZ s:=by rw[F2 k ok,DG,List.mem_map]at h;obtain⟨v,_,rfl⟩:=h;refine DY (GV _ _ _ _ ?_);simp only[s0q];split;exact .inr (by simp);exact .inl rfl
section
variable{pg:Pg}
theorem c12(hf:pg.fs 12=some aBz)(k:aA)(h10:bE pg 10 [k.av] (gD k))(at_:Int):bE pg 12 [k.av,.int .i64 at_] (kM k at_):=by
 obtain⟨r9,hr9,hs9⟩:=h10;simp only[aA.av,aA.cells,Sl.av]at hr9;refine bE.ofX hf ?_;unfold aBz;simp only[aA.av,aA.cells,go_sem,seval];rcases jH (k:=k) with hc|hc;have ok:=dS hc;have hso:=ok.out;simp only[bO,aG,aY]at hso;obtain⟨_,⟨⟨⟨⟨⟨⟨_,_⟩,hi0⟩,_⟩,hiV⟩,_⟩,_⟩,_⟩:=hso;have hsl:=kZ (k:=k) (by omega);have hVb:=k.values.ok;have htr:treeL ((aF k).map bQ)=true:=bJ (f:=bQ) (λs=>by simp[bQ,go_sem]) _;rw[gD,if_pos hc]at hs9;obtain⟨nl9,cl9,rfl⟩:=hs9;refine bT hr9 (by simp only[go_sem,seval]) (by first|rfl|(simp[AV.tree,htr])) (Wk ?_);cases ha:decide (at_ < -1)
 case true=>refine Wk ?_;rw[kM,if_pos hc,if_pos (.inl (by simpa using ha))]
 case false=>
  refine Wk ?_;cases hb:decide ((k.list.es.length:Int)<at_)
  case true=>refine Wk ?_;rw[kM,if_pos hc,if_pos (.inr (by simpa using hb))]
  case false=>
   refine Wk ?_;refine aK (aF k) (λd r env hp=>∃v,env=AJ (.int .i64 at_) (.sl nl9 ((aF k).map bQ) cl9) v (.int .i64 d.length)/\Own hp 9 1 false v ((cY at_ d).map aJ)) ?_ ?_ ?_;exact⟨_,rfl,Own.nil _ _ _ _ _ _ rfl⟩;rintro env hp ⟨v,rfl,ho⟩;simp only[AI,AJ,bA,go_sem,seval];have hfin:∀r,(∃nl cl,r = .tup [.sl nl ((cY at_ (aF k)).map aJ) cl,.int .i64 0])->kM k at_ r:=by intro r hr;rw[kM,if_pos hc,if_neg (by simp at ha hb;omega)];exact hr
   obtain⟨nl,cl,keys,hsn,_⟩:=ho.snap (El.ints _) 61;rcases ho with ⟨he,nl',cl',rfl,_⟩|⟨e,cs,rfl,hg,hu⟩
   rw[<-he];refine Wk ?_;exact hfin _ ⟨nl',cl',by rw[he]⟩;simp only[aI]at hsn;simp only[Tev.conv,depth,eK,cF,bD,↓hsn,go_sem,aI];exact hfin _ ⟨_,_,rfl⟩
   ·rintro d x r env hp hes ⟨v,rfl,ho⟩;have hlb:(aF k).length<=big:=by rw[hsl];exact hVb
    obtain⟨hget,e1,e2,ew⟩:=cX hes hlb;have hfx:=BF ok (show x∈aF k by rw[hes];simp);have h3:decide (-1<=x.1) = !decide (x.1 = -2):=by rw[<-decide_not,dC];rcases hfx with h|h<;>omega
    have hld:=sC at_ d x;have hlen:(cY at_ d).length<=d.length:=by simp only[cY,aI];exact Nat.le_trans (List.length_filter_le _ _) (by simp)
    have hdl:d.length<=big:=by
     have:d.length<=(aF k).length:=by rw[hes];simp
     omega
    have hx0:bQ x = .agg [.int .i64 x.1,.int .i64 x.2]:=rfl;cases b1:decide (x.1 = -2)
    case true=>rw[b1]at h3;simp only[AI,AJ,hget,e1,e2,hx0,h3,ew,go_sem,seval];refine⟨v,rfl,?_⟩;rw[hld];simpa[jN,b1] using ho
    case false=>
    rw[b1]at h3;cases b2:decide (x.1<=at_)
    case false=>simp only[AI,AJ,hget,e1,e2,hx0,h3,b2,ew,go_sem,seval];refine⟨v,rfl,?_⟩;rw[hld];simpa[jN,b2] using ho
    case true=>
    cases b3:decide (at_<=x.2)
    case false=>simp only[AI,AJ,hget,e1,e2,hx0,h3,b2,b3,ew,go_sem,seval];refine⟨v,rfl,?_⟩;rw[hld];simpa[jN,b3] using ho
    case true=>
     simp only[AI,AJ,hget,e1,e2,hx0,h3,b2,b3,ew,go_sem,seval];refine eF (kb:=0) (s:=9) ho (El.ints _) (xs:=[.int .i64 (d.length:Int)]) (by intro z hz;simp at hz;subst hz;exact El.int _) (by simp only[aI,List.length_singleton];simp only[big]at hdl;omega) (by decide) ?_;intro v' rd pa ho2 hk2 _;simp only[ew,go_sem,seval];refine⟨v',rfl,?_⟩;have hil:jN at_ x=true:=by simp[jN,b1,b2,b3]
     rw[hld,hil];simpa[aJ] using ho2
 rw[gD,if_neg (by rw[hc];decide)]at hs9;subst hs9;refine aB hr9 (Wk ?_);rw[kM,if_neg (by rw[hc];decide)]
end
end
end Go.Tev
