import Derived.Test.YtmcadllokkmeiaaGreatDoorBBB
import Derived.Test.YtmcadllokkmeiaaGreatDoorBAT
set_option linter.all false
namespace Go.Tev
section
theorem yX{h:Hp}{d:Nat}{a b c c' e:AV}{keys:List Nat}(ha:a.tree=true)(hb:b.tree=true)(hc:Tev.snap (d+1) h c=some (c',keys))(he:e.tree=true):eN (Tev.snap (d+1) h) [a,b,c,e]=some ([a,b,c',e],keys):=by simp[bM,cW,pN ha,pN hb,pN he,hc]
section
variable{pg:Pg}
set_option maxRecDepth 8000 in
set_option maxHeartbeats 2000000 in
theorem c31(hf:pg.fs 31=some aDW)(h49:∀k:aA,Ret pg 49 [k.av] (.bool (bJ k)))
  (h50:∀(k:aA),0<=k.aSg->(∀t∈k.aSe.es,t.aSh.aSi.es.length<=6)->∀(nl cl:Bool)(th:List Bool),th.length=k.aSe.es.length->∀(q:aG)(second:Bool),
   q.body.ok->q.index.ok->k.vars.es.length+9+q.body.sz<=big->k.vars.es.length+9+q.index.sz<=big ->
   Ret pg 50 [k.av,q.av,.sl nl (th.map AV.bool) cl,.bool second] (.bool (mT k q th second)))
  (k:aA) (hq:∀q∈k.aSf.es,q.body.ok/\q.index.ok/\k.vars.es.length+9+q.body.sz<=big/\k.vars.es.length+9+q.index.sz<=big) :
  Ret pg 31 [k.av] (.tup [.int .i64 (cY k).1,.int .i64 (cY k).2]):=by
 have a1:=h49 k;simp only[aA.av,aA.cells,Sl.av]at a1;refine Ret.ofX hf ?_;unfold aDW;simp only[aA.av,aA.cells,go_sem,seval];refine aB a1 ?_;cases ho:bJ k;refine Wk ?_;simp only[cY,ho];rfl;have hV:((k.aSe.es.length:Int)<=1073741824)=True:=aK (by have:=k.aSe.ok;simp only[big]at this;omega);have hfl:(List.replicate k.aSe.es.length [AV.bool false]).flatten=(List.replicate k.aSe.es.length false).map AV.bool:=by
  rw[List.map_replicate]
  induction k.aSe.es.length with
  |zero=>rfl
  |succ n ih=>rw[List.replicate_succ,List.flatten_cons,ih,List.replicate_succ];rfl
 simp only[hV,hfl,go_sem,seval];have hso:=ho;simp only[bJ,aF,aR]at hso;obtain⟨_,⟨⟨⟨⟨⟨⟨_,_⟩,hi0⟩,_⟩,hiV⟩,_⟩,_⟩,hty⟩:=hso;have hvals:∀t∈k.aSe.es,t.aSh.aSi.es.length<=6:=λt ht=>ET (by rw[eT]at hty;exact hty t ht);obtain⟨ins,hins⟩:∃n:Nat,k.aSg=n:=⟨k.aSg.toNat,by omega⟩
 have hinV:ins<=k.aSe.es.length:=by omega
 have hVb:=k.aSe.ok;have hf0:nE k.aSe.es.length 0=List.replicate k.aSe.es.length false:=by simp[nE]
 refine aJ (List.range ins) (λd r env hp=>env=WK (.pt 1 0 0) (.rf 9 0 0 k.aSe.es.length k.aSe.es.length) (.int .i64 d.length) /\
  hp.get 1=some (0,.blk (bL k) 6 true true false)/\hp.get 9=some (0,.blk ((nE k.aSe.es.length d.length).map AV.bool) 1 false true false)) ?_ ?_ ?_
 refine⟨rfl,?_,?_⟩;refine Wk ?_;rfl;rw[show ([]:List Nat).length=0 from rfl,hf0];simp only[go_sem,seval];rintro env hp ⟨rfl,g1,g9⟩;have hr:(List.range ins).length=ins:=List.length_range;rw[hr]at g9 ⊢;have e1:decide ((ins:Int)<k.aSg)=false:=by simp;omega
 have hth0:nE k.aSe.es.length ins=gW k:=by simp[nE,gW,hins]
 rw[hth0]at g9;have hthl:(gW k).length=k.aSe.es.length:=by rw[<-hth0,xN hinV]
 have g1':=g1;simp only[bL]at g1;simp only[WJ,WK,e1,g1,go_sem,seval];have hrun:pC k (gW k) k.aSf.es 0=pC k (cB (gW k) []) k.aSf.es ([]:List aG).length:=rfl;clear hr hth0 hf0 hV hfl e1
 refine aJ k.aSf.es (λd r env hp=>env=zI (.pt 1 0 0) (.rf 9 0 0 k.aSe.es.length k.aSe.es.length) (.int .i64 d.length) /\
  pC k (gW k) k.aSf.es 0=pC k (cB (gW k) d) r d.length /\
  hp.get 1=some (0,.blk (bL k) 6 true true false)/\hp.get 9=some (0,.blk ((cB (gW k) d).map AV.bool) 1 false true false)) ?_ ?_ ?_
 exact⟨rfl,hrun,g1',g9⟩;clear g1 g1' g9 hp;rintro env hp ⟨rfl,hru,g1,g9⟩;have hthe:(cB (gW k) k.aSf.es).length=k.aSe.es.length:=by rw[eF,hthl]
 generalize hTH:cB (gW k) k.aSf.es=th at *;have g1':=g1;simp only[bL]at g1;have hfin:∀ok:Bool,(!fG k th)=ok->cY k=((k.aSf.es.length:Int),if ok then 0 else 22):=by intro ok h;rw[cY,ho,hru,pC,hTH];cases ok<;>simp at h<;>simp[h]
 have hrb:=k.results.ok
 have hstart:∀b:Bool,b=(decide (1<=(k.results.es.length:Int))&&decide ((k.results.es.length:Int)<=8))->(!fG k th)=(b&&k.results.es.all λv => !eM k th v):=by
  intro b hb;have h1:decide (1<=(k.results.es.length:Int)) = !decide ((k.results.es.length:Int)<1):=by rw[<-decide_not,eH];omega
  have h2:decide ((k.results.es.length:Int)<=8) = !decide (8<(k.results.es.length:Int)):=by rw[<-decide_not,eH];omega
  rw[hb,h1,h2,fG,<-List.not_any_eq_all_not];simp only[Bool.not_or]
 clear hru hrun;cases r1:decide (1<=(k.results.es.length:Int))
 case false=>
  simp only[zH,zI,g1,bG,r1,go_sem,seval]
  refine aJ k.results.es (λd r env hp=>∃ok:Bool,env=jF (.pt 1 0 0) (.rf 9 0 0 k.aSe.es.length k.aSe.es.length) (.bool ok) (.int .i64 d.length) /\
   hp.get 1=some (0,.blk (bL k) 6 true true false)/\hp.get 9=some (0,.blk (th.map AV.bool) 1 false true false)/\(!fG k th)=(ok&&r.all λv => !eM k th v)) ?_ ?_ ?_
  exact⟨_,rfl,g1',g9,hstart _ (by first|rw[r1];rfl|rw[r1,r2];rfl)⟩;rintro env hp ⟨ok,rfl,g1,g9,hI⟩;simp only[bL]at g1;have hf2:=hfin ok (by rw[hI];simp);rw[hf2];cases ok;simp only[j5,jF,g1,bG,go_sem,seval];simp only[j5,jF,g1,bG,go_sem,seval];rintro d v r env hp hes ⟨ok,rfl,g1,g9,hI⟩;obtain⟨hget,e1,e2,ew⟩:=dJ hes hrb;have g1'':=g1;simp only[bL]at g1;cases ok;have hf2:=hfin false (by rw[hI];simp);rw[hf2];simp only[j5,jF,g1,e1,go_sem,seval];have hI2:(!fG k th)=(!eM k th v&&r.all λv => !eM k th v):=by rw[hI];simp
  cases z1:decide (0<=v);have:eM k th v=true:=by
   have h:decide (v<0)=true:=by simp at z1 ⊢;omega
   simp only[eM,h,Bool.true_or]
  simp only[j5,jF,g1,e1,e2,hget,z1,ew,go_sem,seval];exact⟨_,rfl,rfl,g9,by rw[hI2,this];simp⟩;cases z2:decide (v<(k.aSe.es.length:Int));have:eM k th v=true:=by
   have h:decide ((k.aSe.es.length:Int)<=v)=true:=by simp at z2 ⊢;omega
   simp only[eM,h,Bool.true_or,Bool.or_true]
  simp only[j5,jF,g1,e1,e2,hget,z1,z2,ew,go_sem,seval];exact⟨_,rfl,rfl,g9,by rw[hI2,this];simp⟩;have z1':(0<=v)=True:=aK (aO z1);have z2':(v<(k.aSe.es.length:Int))=True:=aK (aO z2);obtain⟨b,hb⟩:∃b,th[v.toNat]?=some b:=⟨_,aW (by simp at z1 z2;omega)⟩
  have:eM k th v = !b:=by
   have h1:decide (v<0)=false:=by simp at z1 ⊢;omega
   have h2:decide ((k.aSe.es.length:Int)<=v)=false:=by simp at z2 ⊢;omega
   simp only[eM,h1,h2,Bool.false_or,bS,hb];rfl
  simp only[j5,jF,g1,g9,e1,e2,hget,z1,z2,z1',z2',hb,Nat.mul_one,bF,ew,go_sem,seval];exact⟨_,rfl,rfl,by rw[hI2,this];simp⟩
 case true=>
  cases r2:decide ((k.results.es.length:Int)<=8);simp only[zH,zI,g1,bG,r1,r2,go_sem,seval]
  refine aJ k.results.es (λd r env hp=>∃ok:Bool,env=jF (.pt 1 0 0) (.rf 9 0 0 k.aSe.es.length k.aSe.es.length) (.bool ok) (.int .i64 d.length) /\
   hp.get 1=some (0,.blk (bL k) 6 true true false)/\hp.get 9=some (0,.blk (th.map AV.bool) 1 false true false)/\(!fG k th)=(ok&&r.all λv => !eM k th v)) ?_ ?_ ?_
  exact⟨_,rfl,g1',g9,hstart _ (by first|rw[r1];rfl|rw[r1,r2];rfl)⟩;rintro env hp ⟨ok,rfl,g1,g9,hI⟩;simp only[bL]at g1;have hf2:=hfin ok (by rw[hI];simp);rw[hf2];cases ok;simp only[j5,jF,g1,bG,go_sem,seval];simp only[j5,jF,g1,bG,go_sem,seval];rintro d v r env hp hes ⟨ok,rfl,g1,g9,hI⟩;obtain⟨hget,e1,e2,ew⟩:=dJ hes hrb;have g1'':=g1;simp only[bL]at g1;cases ok;have hf2:=hfin false (by rw[hI];simp);rw[hf2];simp only[j5,jF,g1,e1,go_sem,seval];have hI2:(!fG k th)=(!eM k th v&&r.all λv => !eM k th v):=by rw[hI];simp
  cases z1:decide (0<=v);have:eM k th v=true:=by
   have h:decide (v<0)=true:=by simp at z1 ⊢;omega
   simp only[eM,h,Bool.true_or]
  simp only[j5,jF,g1,e1,e2,hget,z1,ew,go_sem,seval];exact⟨_,rfl,rfl,g9,by rw[hI2,this];simp⟩;cases z2:decide (v<(k.aSe.es.length:Int));have:eM k th v=true:=by
   have h:decide ((k.aSe.es.length:Int)<=v)=true:=by simp at z2 ⊢;omega
   simp only[eM,h,Bool.true_or,Bool.or_true]
  simp only[j5,jF,g1,e1,e2,hget,z1,z2,ew,go_sem,seval];exact⟨_,rfl,rfl,g9,by rw[hI2,this];simp⟩;have z1':(0<=v)=True:=aK (aO z1);have z2':(v<(k.aSe.es.length:Int))=True:=aK (aO z2);obtain⟨b,hb⟩:∃b,th[v.toNat]?=some b:=⟨_,aW (by simp at z1 z2;omega)⟩
  have:eM k th v = !b:=by
   have h1:decide (v<0)=false:=by simp at z1 ⊢;omega
   have h2:decide ((k.aSe.es.length:Int)<=v)=false:=by simp at z2 ⊢;omega
   simp only[eM,h1,h2,Bool.false_or,bS,hb];rfl
  simp only[j5,jF,g1,g9,e1,e2,hget,z1,z2,z1',z2',hb,Nat.mul_one,bF,ew,go_sem,seval];exact⟨_,rfl,rfl,by rw[hI2,this];simp⟩;simp only[zH,zI,g1,bG,r1,r2,go_sem,seval]
  refine aJ k.results.es (λd r env hp=>∃ok:Bool,env=jF (.pt 1 0 0) (.rf 9 0 0 k.aSe.es.length k.aSe.es.length) (.bool ok) (.int .i64 d.length) /\
   hp.get 1=some (0,.blk (bL k) 6 true true false)/\hp.get 9=some (0,.blk (th.map AV.bool) 1 false true false)/\(!fG k th)=(ok&&r.all λv => !eM k th v)) ?_ ?_ ?_
  exact⟨_,rfl,g1',g9,hstart _ (by first|rw[r1];rfl|rw[r1,r2];rfl)⟩;rintro env hp ⟨ok,rfl,g1,g9,hI⟩;simp only[bL]at g1;have hf2:=hfin ok (by rw[hI];simp);rw[hf2];cases ok;simp only[j5,jF,g1,bG,go_sem,seval];simp only[j5,jF,g1,bG,go_sem,seval];rintro d v r env hp hes ⟨ok,rfl,g1,g9,hI⟩;obtain⟨hget,e1,e2,ew⟩:=dJ hes hrb;have g1'':=g1;simp only[bL]at g1;cases ok;have hf2:=hfin false (by rw[hI];simp);rw[hf2];simp only[j5,jF,g1,e1,go_sem,seval];have hI2:(!fG k th)=(!eM k th v&&r.all λv => !eM k th v):=by rw[hI];simp
  cases z1:decide (0<=v);have:eM k th v=true:=by
   have h:decide (v<0)=true:=by simp at z1 ⊢;omega
   simp only[eM,h,Bool.true_or]
  simp only[j5,jF,g1,e1,e2,hget,z1,ew,go_sem,seval];exact⟨_,rfl,rfl,g9,by rw[hI2,this];simp⟩;cases z2:decide (v<(k.aSe.es.length:Int));have:eM k th v=true:=by
   have h:decide ((k.aSe.es.length:Int)<=v)=true:=by simp at z2 ⊢;omega
   simp only[eM,h,Bool.true_or,Bool.or_true]
  simp only[j5,jF,g1,e1,e2,hget,z1,z2,ew,go_sem,seval];exact⟨_,rfl,rfl,g9,by rw[hI2,this];simp⟩;have z1':(0<=v)=True:=aK (aO z1);have z2':(v<(k.aSe.es.length:Int))=True:=aK (aO z2);obtain⟨b,hb⟩:∃b,th[v.toNat]?=some b:=⟨_,aW (by simp at z1 z2;omega)⟩
  have:eM k th v = !b:=by
   have h1:decide (v<0)=false:=by simp at z1 ⊢;omega
   have h2:decide ((k.aSe.es.length:Int)<=v)=false:=by simp at z2 ⊢;omega
   simp only[eM,h1,h2,Bool.false_or,bS,hb];rfl
  simp only[j5,jF,g1,g9,e1,e2,hget,z1,z2,z1',z2',hb,Nat.mul_one,bF,ew,go_sem,seval];exact⟨_,rfl,rfl,by rw[hI2,this];simp⟩
 clear g1 g1' g9 hp;rintro d q r env hp hes ⟨rfl,hru,g1,g9⟩;have hmem:q∈k.aSf.es:=by rw[hes];simp
 obtain⟨p1,p2,p3,p4⟩:=hq q hmem;have hlb:=k.aSf.ok;obtain⟨hget,e1,e2,ew⟩:=dJ hes hlb;have hkk:=h50 k hi0 hvals false true (cB (gW k) d) (by rw[eF,hthl]) q (mS k q d.length) p1 p2 p3 p4;rw[PK k q _ d.length hi0]at hkk;simp only[aA.av,aA.cells,Sl.av]at hkk;have g1':=g1;simp only[bL]at g1;rcases mO d with hd|⟨d',q0,hd⟩
 have e3:decide (0<(d.length:Int))=false:=by simp[hd]
 have hsec:mS k q d.length=false:=by simp[mS,hd]
 rw[hsec]at hkk;simp only[zH,zI,e1,e2,g1,hget,e3,go_sem,seval];refine aY ?_;refine cR hkk (yX (by simp only[go_sem,seval]) (by simp only[go_sem,seval]) (gN (l:=cB (gW k) d) (by rw[eF,hthl]) g9 62) (by simp only[go_sem,seval])) (v:=.bool (cO k (cB (gW k) d) q d.length)) (pa:=[]) rfl ?_;cases hkq:cO k (cB (gW k) d) q d.length;refine Wk ?_;refine aY ?_;rw[cY,ho,hru,pC,hkq];rfl;obtain⟨w1,w2,w3⟩:=d5 hkq;have k0:(0<=q.value)=True:=aK (by omega);have k2':(q.value<(k.aSe.es.length:Int))=True:=aK w2;have k4:(0+q.value.toNat*1+1<=(cB (gW k) d).length)=True:=aK (by rw[eF,hthl];omega);have e4:=rW (l:=(cB (gW k) d).map AV.bool) (n:=q.value.toNat) (.bool true) (by rw[aM,eF,hthl];omega);rw[gI]at e4;refine Wk ?_;refine aY ?_;simp only[g1,g9,hget,e1,e2,k0,k2',k4,e4,ew,go_sem,seval];rw[pM];refine⟨rfl,?_,rfl,rfl⟩;rw[hru,pC,hkq];simp;have hd':d=d'++[q0]:=by simpa using hd
 have e3:decide (0<(d.length:Int))=true:=by simp[hd']
 have e4':wr .i64 ((d.length:Int)-1)=(d'.length:Int):=by
  have:d.length<=k.aSf.es.length:=by rw[hes];simp
  simp only[big]at hlb;rw[aU (by omega) (by omega),hd',dC,List.length_singleton];omega
 have e5:k.aSf.es[d'.length]?=some q0:=by rw[hes,hd'];simp
 have e6:((d'.length:Int)<(k.aSf.es.length:Int))=True:=aK (by rw[hes,hd'];simp;omega);have hsec:mS k q d.length=(decide (q0.kind=1)&&decide (q0.value=q.value)):=by
  have h1:decide ((d.length:Int)=0)=false:=by simp[hd'];omega
  have h2:((d.length:Int)-1).toNat=d'.length:=by rw[hd',dC,List.length_singleton];omega
  simp only[mS,h1,h2,e5];rfl
 rw[hsec]at hkk;cases b1:decide (q0.kind=1);rw[b1]at hkk;simp only[zH,zI,e1,e2,g1,hget,e3,e4',e5,e6,b1,go_sem,seval];refine aY ?_;refine cR hkk (yX (by simp only[go_sem,seval]) (by simp only[go_sem,seval]) (gN (l:=cB (gW k) d) (by rw[eF,hthl]) g9 62) (by simp only[go_sem,seval])) (v:=.bool (cO k (cB (gW k) d) q d.length)) (pa:=[]) rfl ?_;cases hkq:cO k (cB (gW k) d) q d.length;refine Wk ?_;refine aY ?_;rw[cY,ho,hru,pC,hkq];rfl;obtain⟨w1,w2,w3⟩:=d5 hkq;have k0:(0<=q.value)=True:=aK (by omega);have k2':(q.value<(k.aSe.es.length:Int))=True:=aK w2;have k4:(0+q.value.toNat*1+1<=(cB (gW k) d).length)=True:=aK (by rw[eF,hthl];omega);have e4:=rW (l:=(cB (gW k) d).map AV.bool) (n:=q.value.toNat) (.bool true) (by rw[aM,eF,hthl];omega);rw[gI]at e4;refine Wk ?_;refine aY ?_;simp only[g1,g9,hget,e1,e2,k0,k2',k4,e4,ew,go_sem,seval];rw[pM];refine⟨rfl,?_,rfl,rfl⟩;rw[hru,pC,hkq];simp;rw[b1]at hkk;simp only[zH,zI,e1,e2,g1,hget,e3,e4',e5,e6,b1,go_sem,seval];refine aY ?_;refine cR hkk (yX (by simp only[go_sem,seval]) (by simp only[go_sem,seval]) (gN (l:=cB (gW k) d) (by rw[eF,hthl]) g9 62) (by simp only[go_sem,seval])) (v:=.bool (cO k (cB (gW k) d) q d.length)) (pa:=[]) rfl ?_;cases hkq:cO k (cB (gW k) d) q d.length;refine Wk ?_;refine aY ?_;rw[cY,ho,hru,pC,hkq];rfl;obtain⟨w1,w2,w3⟩:=d5 hkq;have k0:(0<=q.value)=True:=aK (by omega);have k2':(q.value<(k.aSe.es.length:Int))=True:=aK w2;have k4:(0+q.value.toNat*1+1<=(cB (gW k) d).length)=True:=aK (by rw[eF,hthl];omega);have e4:=rW (l:=(cB (gW k) d).map AV.bool) (n:=q.value.toNat) (.bool true) (by rw[aM,eF,hthl];omega);rw[gI]at e4;refine Wk ?_;refine aY ?_;simp only[g1,g9,hget,e1,e2,k0,k2',k4,e4,ew,go_sem,seval];rw[pM];refine⟨rfl,?_,rfl,rfl⟩;rw[hru,pC,hkq];simp;rintro d x r env hp hes ⟨rfl,g1,g9⟩;obtain⟨hx,hlt⟩:=iD hes;have hb2:(d++x::r).length<=big:=by rw[<-hes];simp;omega
 have e1:decide ((d.length:Int)<k.aSg)=true:=by simp;omega
 have e2:((d.length:Int)<(k.aSe.es.length:Int))=True:=aK (by omega);have g1':=g1;simp only[bL]at g1;have hfl2:=xN (V:=k.aSe.es.length) (i:=d.length) (by omega);have e3:(0+d.length*1+1<=(nE k.aSe.es.length d.length).length)=True:=aK (by omega);have e4:=rW (l:=(nE k.aSe.es.length d.length).map AV.bool) (n:=d.length) (.bool true) (by simp;omega);rw[gI,JM (by omega)]at e4;simp only[WJ,WK,e1,e2,g1,g9,e3,e4,aZ hb2,go_sem,seval];rw[dC];exact⟨rfl,rfl,rfl⟩
end
end
section
section
variable{pg:Pg}
theorem c22(hf:pg.fs 22=some aEd)(h37:∀p:aC,p.ok->p.sz<=big->bQ pg 37 [p.av] (pA 1 false ((bX p).map aH)))(h38:pg.fs 38=some CB)(q:aG)(h1:q.body.ok)(h2:q.index.ok)(hsz:q.body.sz+q.index.sz+1<=big) :
  bQ pg 22 [q.av] (pA 1 false ((jY q).map aH)):=by
 have a1:=h37 q.body h1 (by omega);have a2:=h37 q.index h2 (by omega);rw[aC.avc]at a1 a2;have l1:=kP q.body;have l2:=kP q.index;refine bQ.ofX hf ?_;unfold aEd;refine Wk ?_;refine CL a1 (by simp only[go_sem,seval]) (El.ints _) ?_;intro v rd pa ho hk _;have k1:=hk 1 (by omega);simp only[go_sem,seval]at k1;generalize hH:Eff.app _ (Eff.pat rd pa)=H at ho k1 ⊢;clear hH hk;simp only[k1,go_sem,seval];cases h3:decide (q.kind=3);refine Wk ?_;have hr:jY q=bX q.body:=by simp[jY,h3]
 rw[hr];exact ho.conv (El.ints _);simp only[k1,go_sem,seval];refine mN a2 (by simp only[go_sem,seval]) ?_;intro nl2 cl2 _;refine Wk ?_;obtain⟨C,hC,k1⟩:∃C,C=q.av.cells/\H.get 1=some (0,.blk C 24 true true false):=⟨_,(aG.cells_av q).symm,k1⟩
 refine aJ (bX q.index) (λd r env hp=>∃v k1,env=WY (.pt 1 0 0) v (.sl nl2 ((bX q.index).map aH) cl2) (.int .i64 d.length)/\Own hp k1 1 false v ((j9 (bX q.body) d).map aH)/\hp.get 1=some (0,.blk C 24 true true false)) ?_ ?_ ?_;refine⟨v,5,rfl,ho.mono ?_,?_⟩;simp only[go_sem,seval];refine Wk ?_;exact k1;clear ho k1 a1 a2;rintro env hp ⟨v,k2,rfl,ho,g1⟩;have hr:jY q=if decide (q.source=q.value) then j9 (bX q.body) (bX q.index) else iT q.source (j9 (bX q.body) (bX q.index)):=by simp[jY,h3]
 have hpl:=nW (bX q.index) (bX q.body);rw[hC,aG.cells_av]at g1;simp only[WW,WY,g1,go_sem,seval];rw[hr];cases h4:decide (q.source=q.value)
 case true=>refine Wk ?_;exact ho.conv (El.ints _)
 case false=>simp only[g1,go_sem,seval];refine HP h38 ho (by omega) ?_;intro r' h' k3 ho' _;refine Wk ?_;exact ho'.conv (El.ints _)
 clear ho k1 a1 a2;rintro d y r env hp hes ⟨v,k2,rfl,ho,g1⟩;have hd2:d.length<(bX q.index).length:=by rw[hes];simp
 have hget:(bX q.index)[d.length]?=some y:=by rw[hes];simp
 have hpl:=nW d (bX q.body);have hbb:(j9 (bX q.body) d).length<big:=by omega
 have f1:decide ((d.length:Int)<((bX q.index).length:Int))=true:=by simp;omega
 have f2:((d.length:Int)<((bX q.index).length:Int))=True:=aK (by omega);have hw2:wr .i64 ((d.length:Int)+1)=((d++[y]).length:Int):=aZ (r:=r) (by rw[<-hes];omega);have hsn2:=yS (bX q.body) d y;simp only[WW,WY,f1,f2,hget,go_sem,seval];refine HP h38 ho hbb ?_;intro r' h' k3 ho' hun;simp only[hw2,go_sem,seval];rw[hsn2];exact⟨r',k3,rfl,ho',(hun 1 (by decide)).trans g1⟩
end
end
section
theorem II(sp:List Sp)(v x:Int)(n:Nat):(jX sp v x)[n]?=(sp[n]?).map (λs=>if v.toNat=n then (s.1,x) else s):=by simp only[jX,List.getElem?_modify];split<;>simp[*]
theorem CT(sp:List Sp)(v x:Int)(n:Nat):(iM sp v x)[n]?=(sp[n]?).map (λs=>if v.toNat=n then (x,s.2) else s):=by simp only[iM,List.getElem?_modify];split<;>simp[*]
theorem vH(i:Nat):∀(l:List Int)(sp:List Sp)(n:Nat),(eU sp i l)[n]?=(sp[n]?).map (λs=>if n∈l.map Int.toNat then (s.1,(i:Int)) else s)
 |[],sp,n=>by simp[eU]
 |v::r,sp,n=>by have h:=vH i r (jX sp v i) n;simp only[eU,List.foldl_cons]at h ⊢;rw[h,II,Option.map_map];congr 1;funext s;simp only[Function.comp,List.map_cons,dA];by_cases h1:v.toNat=n;subst h1;simp;have h2:¬n=v.toNat:=λh=>h1 h.symm;simp[h1,h2]
def uses(q:aG)(n:Nat):Prop:=n=q.value.toNat\/n∈(eW q).map Int.toNat
theorem S8(sp:List Sp)(i:Nat)(q:aG)(n:Nat)(s:Sp)(h:sp[n]?=some s) :
  ∃s',(kF sp i q)[n]?=some s'/\(s'.1=if n=q.value.toNat/\s.1 = -2 then (i:Int) else s.1)/\(uses q n->s'.2=i)/\(¬uses q n->s'.2=s.2):=by
 have hf:jD sp q.value = -2/\n=q.value.toNat->s.1 = -2:=by rintro⟨h1,rfl⟩;simpa[jD,h] using h1
 have hf2:n=q.value.toNat->s.1 = -2->jD sp q.value = -2:=by rintro rfl h1;simpa[jD,h] using h1
 simp only[kF,vH,II];by_cases hv:n=q.value.toNat;have hv':q.value.toNat=n:=hv.symm;by_cases h1:s.1 = -2;have h2:=hf2 hv h1;simp only[h2,decide_true,aN,CT,h,Option.map_some,hv'];refine⟨_,rfl,?_,?_,?_⟩;split<;>simp[h1,hv];intro _;split<;>rfl;intro hn;exact absurd (.inl hv) hn;have h2:¬jD sp q.value = -2:=λh=>h1 (hf ⟨h,hv⟩);simp only[h2,decide_false,bR,aL,h,Option.map_some,hv',aN];refine⟨_,rfl,?_,?_,?_⟩;split<;>simp[h1];intro _;split<;>rfl;intro hn;exact absurd (.inl hv) hn;have hv':¬q.value.toNat=n:=λh=>hv h.symm;have e:(if decide (jD sp q.value = -2)=true then iM sp q.value i else sp)[n]?=some s:=by split;rw[CT,h,Option.map_some,if_neg hv'];exact h
 simp only[e,Option.map_some,hv',aL];refine⟨_,rfl,?_,?_,?_⟩;split<;>simp[hv];rintro(hu|hu);exact absurd hu hv;rw[if_pos hu];intro hn;rw[if_neg (λh=>hn (.inr h))]
theorem TA(V i n:Nat)(s:Sp)(h:(d8 V i)[n]?=some s):(n<i/\s=(-1,-1))\/(i<=n/\s=(-2,-2)):=by simp only[d8]at h;rcases eS n i with h1|h1;rw[List.getElem?_append_left (by simpa using h1),List.getElem?_replicate,if_pos h1]at h;exact .inl ⟨h1,by cases h;rfl⟩;rw[yA (by simpa using h1),List.getElem?_replicate]at h;split at h;exact .inr ⟨h1,by cases h;rfl⟩;cases h
theorem gT.inp{k:aA}(ok:gT k):0<=k.aSg/\k.aSg<=k.aSe.es.length:=by have h:=ok.out;simp only[bJ,aF,aR]at h;omega
theorem S6{k:aA}(n:Nat):(aD k)[n]?=((gM (d8 k.aSe.es.length k.aSg.toNat) 0 k.aSf.es)[n]?).map (λs=>if n∈k.results.es.map Int.toNat then (s.1,(k.aSf.es.length:Int)) else s):=by rw[aD,show pG=λsp n l=>eU sp n l from rfl];exact vH _ _ _ _
end
section
def aKX(q:aG):List Int:=jY q++[q.value]
theorem aCd{q:aG}{a:Int}:a∈aKX q↔a∈eW q\/a=q.value:=by
 have e1:∀p,a∈cT p↔a∈fK p:=λp=>by simp only[cT,oB,pX]
 simp only[aKX,jY,eW,jM,List.mem_singleton];cases decide (q.kind=3);simp[kQ,e1];cases hs:decide (q.source=q.value);simp only[aN,bR,aL,zX,xG,kQ,e1,jM,List.mem_singleton];constructor;rintro((h|h|h)|h)<;>simp[h];rintro((h|h|h)|h)<;>simp[h];have hs':q.source=q.value:=by simpa using hs
 simp only[aN,xG,kQ,e1,jM,List.mem_singleton,hs'];constructor;rintro((h|h)|h)<;>simp[h];rintro((h|h|h)|h)<;>simp[h]
end
section
def fB(v:Int)(i:Int)(l:List Int)(s:Sp):Sp:=if l.any (λw=>decide (w=v)) then (s.1,i) else s
theorem eY(v i:Int)(d:List Int)(x:Int)(s:Sp):fB v i (d++[x]) s=if decide (x=v) then ((fB v i d s).1,i) else fB v i d s:=by simp only[fB,List.any_append,List.any_cons,List.any_nil,Bool.or_false];cases List.any d (λw=>decide (w=v))<;>cases decide (x=v)<;>simp
def yN(v:Int)(i:Int)(q:aG)(s:Sp):Sp:=if decide (q.value=v) then (if decide (s.1 = -2) then i else s.1,i) else s
def vB(v:Int)(i:Int)(q:aG)(s:Sp):Sp:=fB v i (jY q) (yN v i q s)
def FJ(v:Int):Sp->Nat->List aG->Sp
 |s,_,[]=>s
 |s,i,q::r=>FJ v (vB v i q s) (i+1) r
theorem nV(v:Int):∀(d:List aG)(s:Sp)(i:Nat)(q:aG),FJ v s i (d++[q])=vB v ((i+d.length:Nat):Int) q (FJ v s i d)
 |[],s,i,q=>rfl
 |x::r,s,i,q=>by simp only[List.cons_append,FJ,nV v r,List.length_cons];rw[show i+1+r.length=i+(r.length+1) from by omega]
def s0q(k:aA)(v:Int):Sp:=if decide (v<k.aSg) then (-1,-1) else (-2,-2)
def CW(k:aA)(v:Int):Sp:=fB v k.aSf.es.length k.results.es (FJ v (s0q k v) 0 k.aSf.es)
def FO(k:aA):List Sp:=(List.range k.aSe.es.length).map λv=>CW k (v:Nat)
theorem PE(sp:List Sp)(w x:Int)(v:Nat)(hw:0<=w):(jX sp w x)[v]?=(sp[v]?).map λs=>if decide (w=(v:Int)) then (s.1,x) else s:=by
 simp only[jX,List.getElem?_modify];cases sp[v]? with
 |none=>rfl
 |some s=>
  by_cases h:w=v;have:w.toNat=v:=by omega
  simp[h];have:¬w.toNat=v:=by omega
  simp[h,this]
theorem TH(sp:List Sp)(w x:Int)(v:Nat)(hw:0<=w):(iM sp w x)[v]?=(sp[v]?).map λs=>if decide (w=(v:Int)) then (x,s.2) else s:=by
 simp only[iM,List.getElem?_modify];cases sp[v]? with
 |none=>rfl
 |some s=>
  by_cases h:w=v;have:w.toNat=v:=by omega
  simp[h];have:¬w.toNat=v:=by omega
  simp[h,this]
theorem yG(i:Nat)(v:Nat):∀(l:List Int)(sp:List Sp),(∀a∈l,0<=a)->(eU sp i l)[v]?=(sp[v]?).map (fB v i l)
 |[],sp,_=>by simp only[eU,List.foldl_nil];cases sp[v]?<;>simp[fB]
 |w::r,sp,h=>by
  have ih:=yG i v r (jX sp w i) (λa ha=>h a (dY _ ha));simp only[eU,List.foldl_cons]at ih ⊢;rw[ih,PE sp w i v (h w (by simp))];cases sp[v]? with
  |none=>rfl
  |some s=>simp only[Option.map_some,fB,List.any_cons];by_cases hr:List.any r (λw=>decide (w=(v:Int)))=true<;>by_cases hw:w=(v:Int)<;>simp only[hr,hw,decide_true,decide_false,aN,aL,Bool.true_or,Bool.false_or,bR]
theorem ZQ(sp:List Sp)(i:Nat)(q:aG)(v:Nat)(hv:0<=q.value)(hr:∀a∈eW q,0<=a):(kF sp i q)[v]?=(sp[v]?).map (vB v i q):=by
 rw[kF,yG i v _ _ hr,PE _ _ _ _ hv]
 have h1:(if decide (jD sp q.value = -2) then iM sp q.value i else sp)[v]?=(sp[v]?).map λs=>if decide (q.value=(v:Int))&&decide (jD sp q.value = -2) then ((i:Int),s.2) else s:=by by_cases h:jD sp q.value = -2;simp only[h,decide_true,aN,fF];rw[TH _ _ _ _ hv];simp only[h,decide_false,bR,aL,gD];cases sp[v]?<;>rfl
 rw[h1];cases hs:sp[v]? with
 |none=>rfl
 |some s=>
  simp only[Option.map_some,cF];have hm:∀a:Int,a∈jY q++[q.value]↔a∈eW q\/a=q.value:=λa=>aCd;simp only[vB,yN];by_cases hqv:q.value=(v:Int)
  have hf:jD sp q.value=s.1:=by
   have:q.value.toNat=v:=by omega
   simp only[jD,this,hs]
  rw[hf];simp only[hqv,decide_true,cE,aN,fB];by_cases h2:s.1 = -2;simp only[h2,decide_true,aN];split<;>split<;>rfl;simp only[h2,decide_false,bR,aL];split<;>split<;>rfl;simp only[hqv,decide_false,d9,bR,aL]
  have:(eW q).any (λw=>decide (w=(v:Int)))=(jY q).any (λw=>decide (w=(v:Int))):=by rw[Bool.eq_iff_iff];simp only[List.any_eq_true,aR];constructor;rintro⟨w,hw,rfl⟩;have:=(hm v).2 (.inl hw);rw[jM]at this;rcases this with h|h;exact⟨_,h,rfl⟩;simp only[List.mem_singleton]at h;exact absurd h.symm hqv;rintro⟨w,hw,rfl⟩;have:=(hm v).1 (List.mem_append_left _ hw);rcases this with h|h;exact⟨_,h,rfl⟩;exact absurd h.symm hqv
  simp only[fB,this]
theorem O4(v:Nat):∀(l:List aG)(sp:List Sp)(i:Nat),(∀q∈l,0<=q.value/\∀a∈eW q,0<=a)->(gM sp i l)[v]?=(sp[v]?).map (λs=>FJ v s i l)
 |[],sp,i,_=>by simp only[gM];cases sp[v]?<;>rfl
 |q::r,sp,i,h=>by rw[gM,O4 v r _ _ (λx hx=>h x (dY _ hx)),ZQ sp i q v (h q (by simp)).1 (h q (by simp)).2];cases sp[v]?<;>rfl
theorem ZS(k:aA)(h0:0<=k.aSg)(v:Nat)(hv:v<k.aSe.es.length)(hi:k.aSg<=k.aSe.es.length):(d8 k.aSe.es.length k.aSg.toNat)[v]?=some (s0q k v):=by simp only[d8,s0q];by_cases h:(v:Int)<k.aSg;rw[List.getElem?_append_left (by simp;omega)];simp[List.getElem?_replicate,h];rw[yA (by simp;omega)];simp[List.getElem?_replicate,h];omega
theorem IE(k:aA)(ok:gT k):aD k=FO k:=by
 have hso:=ok.out;simp only[bJ,aF,aR]at hso;obtain⟨_,⟨⟨⟨⟨⟨⟨_,_⟩,hi0⟩,_⟩,hiV⟩,_⟩,_⟩,_⟩:=hso;have hker:∀q∈k.aSf.es,0<=q.value/\∀a∈eW q,0<=a:=by intro q hq;obtain⟨d,r,he⟩:=List.append_of_mem hq;have h1:=ok.ker d q r he;have h2:=d5 h1;exact⟨by omega,λa ha=>(wE h1 a ha).1⟩
 apply List.ext_getElem?;intro v;by_cases hv:v<k.aSe.es.length;have hr:(FO k)[v]?=some (CW k v):=by simp[FO,List.getElem?_range hv]
 rw[hr,aD,show pG=λsp n l=>eU sp n l from rfl];dsimp only;rw[yG _ _ _ _ (λa ha=>(ok.res a ha).1),O4 v _ _ _ hker,ZS k hi0 v hv hiV];rfl;rw[eK (by rw[jZ (by omega)];omega),eK (by simp[FO];omega)]
def iA(k:aA)(r:AV):Prop:=
 if (cY k).2=0 then ∃nl cl,r = .tup [.sl nl ((aD k).map bO) cl,.int .i64 0] else r = .tup [.sl true [] true,.int .i64 22]
section
variable{pg:Pg}
set_option maxHeartbeats 1000000 in
theorem c10(hf:pg.fs 10=some aEl)(k:aA)(h31:Ret pg 31 [k.av] (.tup [.int .i64 (cY k).1,.int .i64 (cY k).2]))
  (h22:∀q∈k.aSf.es,bQ pg 22 [q.av] (pA 1 false ((jY q).map aH))) (hrl:∀q∈k.aSf.es,(jY q).length<=big):bQ pg 10 [k.av] (iA k):=by
 simp only[aA.av,aA.cells,Sl.av]at h31;refine bQ.ofX hf ?_;unfold aEl;simp only[aA.av,aA.cells,go_sem,seval];refine aB h31 ?_;rcases lD (k:=k) with hc|hc
 ·have ok:=cA hc;have hVb:=k.aSe.ok;have hLb:=k.aSf.ok;have hRb:=k.results.ok;rw[hc];refine Wk ?_
  refine aJ (List.range k.aSe.es.length) (λd r env hp=>∃w,env=N7 (.pt 1 0 0) w (.int .i64 d.length)/\hp.get 1=some (0,.blk (bL k) 6 true true false) /\
   Own hp 17 2 true w ((d.map λv:Nat=>CW k v).map bO)) ?_ ?_ ?_
  refine⟨_,rfl,?_,Own.nil _ _ _ _ _ _ rfl⟩;refine Wk ?_;rfl;rintro env hp ⟨w,rfl,g1,ho⟩;have hr:(List.range k.aSe.es.length).length=k.aSe.es.length:=List.length_range;rw[hr];simp only[bL]at g1;simp only[N6,N7,g1,bG,go_sem,seval];have hE:((List.range k.aSe.es.length).map λv:Nat=>CW k v)=aD k:=by rw[IE k ok];rfl
  rw[hE]at ho;have hfin:∀r,(∃nl cl,r = .tup [.sl nl ((aD k).map bO) cl,.int .i64 0])->iA k r:=by intro r hr;rw[iA,if_pos hc];exact hr
  obtain⟨nl,cl,keys,hsn,_⟩:=ho.snap (mR _) 61;rcases ho with ⟨he,nl',cl',rfl,_⟩|⟨e,cs,rfl,hg,hu⟩
  refine Wk ?_;exact hfin _ ⟨nl',cl',by rw[he]⟩;simp only[aM]at hsn;simp only[Tev.conv,depth,fE,cW,bM,↓hsn,go_sem,aM];exact hfin _ ⟨_,_,rfl⟩
  ·rintro d x r env hp hes ⟨w,rfl,g1,ho⟩;obtain⟨hx,hlt⟩:=iD hes;have e1:decide ((d.length:Int)<(k.aSe.es.length:Int))=true:=by simp;omega
   have ew:wr .i64 ((d.length:Int)+1)=((d++[x]).length:Int):=aZ (r:=r) (by rw[<-hes];simpa using hVb);have g1':=g1;simp only[bL]at g1;cases hin:decide ((d.length:Int)<k.aSg)
   ·simp only[N6,N7,g1,e1,hin,go_sem,seval]
    refine aJ k.aSf.es (λdd r env hp2=>∃s:Sp,env=sE (.pt 1 0 0) w (.int .i64 d.length) (.pt 9 (hp.next 9) 0) (.int .i64 dd.length)/\hp2.get 1=some (0,.blk (bL k) 6 true true false) /\
     hp2.get 17=hp.get 17/\hp2.get 9=some (hp.next 9,.blk [.int .i64 s.1,.int .i64 s.2] 2 true true false)/\s=FJ d.length (s0q k d.length) 0 dd) ?_ ?_ ?_
    ·refine⟨(-2,-2),rfl,?_,?_,?_,by simp[FJ,s0q,hin]⟩
     ·first|(simp only[g1',go_sem,seval];done)|(simp only[g1',go_sem,seval];rfl)
     simp only[go_sem,seval];simp only[go_sem,seval]
    rintro env hp2 ⟨s,rfl,q1,q17,q9,hs⟩;have q1':=q1;simp only[bL]at q1;simp only[uQ,sE,q1,bG,go_sem,seval]
    refine aJ k.results.es (λdd r env hp3=>env=wU (.pt 1 0 0) w (.int .i64 d.length) (.pt 9 (hp.next 9) 0) (.int .i64 dd.length)/\hp3.get 1=some (0,.blk (bL k) 6 true true false) /\
     hp3.get 17=hp.get 17/\hp3.get 9=some (hp.next 9,.blk [.int .i64 (fB d.length k.aSf.es.length dd s).1,.int .i64 (fB d.length k.aSf.es.length dd s).2] 2 true true false)) ?_ ?_ ?_
    refine⟨rfl,q1',q17,q9⟩;rintro env hp3 ⟨rfl,u1,u17,u9⟩;have u1':=u1;simp only[bL]at u1;simp only[zJ,wU,u1,bG,u9,go_sem,seval];have hE:fB d.length k.aSf.es.length k.results.es s=CW k d.length:=by rw[hs];rfl
    rw[hE]at u9 ⊢;refine gR (kb:=0) (s:=17) (ho.mono u17) (mR _) (xs:=[bO (CW k d.length)]) (by intro z hz;simp at hz;subst hz;exact⟨rfl,rfl,rfl⟩) (by simp only[aM,List.length_singleton];simp only[big]at hVb;omega) (by decide) ?_;intro v' rd pa ho2 hk2 _;simp only[ew,go_sem,seval];refine⟨v',rfl,?_,?_⟩;rw[hk2 1 (by omega)];exact u1';rw[hx];simpa using ho2;rintro dd y r3 env hp3 hes3 ⟨rfl,u1,u17,u9⟩;obtain⟨hget3,x1,x2,xw⟩:=dJ hes3 hRb;have u1':=u1;simp only[bL]at u1;cases hy:decide (y=(d.length:Int));simp only[zJ,wU,u1,hget3,x1,x2,hy,xw,go_sem,seval];refine⟨rfl,rfl,u17,?_⟩;rw[eY,hy];exact u9;simp only[zJ,wU,u1,hget3,x1,x2,hy,u9,xw,go_sem,seval];refine⟨rfl,?_,u17,?_⟩
    first|exact u1'|rfl
    rw[eY,hy];rfl
    ·rintro dd q r2 env hp2 hes2 ⟨s,rfl,g1',g17,g9,hs⟩;have hmem:q∈k.aSf.es:=by rw[hes2];simp
     obtain⟨hget,f1,f2,fw⟩:=dJ hes2 hLb;have g1:=g1';simp only[bL]at g1;cases hv:decide (q.value=(d.length:Int))
     ·simp only[uQ,sE,g1,f1,f2,hget,hv,go_sem,seval];have hs1:s=yN d.length dd.length q s:=by simp[yN,hv]
      refine mN (h22 q hmem) (by simp only[go_sem,seval]) ?_;intro nl3 cl3 _;refine Wk ?_
      refine aJ (jY q) (λd3 r3 env hp3=>env=iC (.pt 1 0 0) w (.int .i64 d.length) (.pt 9 (hp.next 9) 0) (.int .i64 dd.length) (.sl nl3 ((jY q).map aH) cl3) (.int .i64 d3.length)/\hp3.get 1=some (0,.blk (bL k) 6 true true false) /\
       hp3.get 17=hp.get 17/\hp3.get 9=some (hp.next 9,.blk [.int .i64 (fB d.length dd.length d3 s).1,.int .i64 (fB d.length dd.length d3 s).2] 2 true true false)) ?_ ?_ ?_
      ·refine⟨rfl,?_,?_,?_⟩
       ·first|exact g1'|(simp only[g1',go_sem,seval];done)|(simp only[g1',go_sem,seval];rfl)
       ·first|exact g17|(simp only[g17,go_sem,seval];done)
       ·first|exact g9|(simp only[g9,fB,go_sem,seval];done)|(simp only[g9,fB,go_sem,seval];rfl)
      rintro env hp3 ⟨rfl,q1,q17,q9⟩;have q1':=q1;simp only[bL]at q1;simp only[j6,iC,bG,fw,go_sem,seval];exact⟨_,rfl,q1',q17,q9,by rw[nV,<-hs,vB,bF,<-hs1]⟩;rintro d3 y r3 env hp3 hes3 ⟨rfl,q1,q17,q9⟩;obtain⟨hget3,x1,x2,xw⟩:=dJ hes3 (hrl q hmem);cases hy:decide (y=(d.length:Int));simp only[j6,iC,hget3,x1,x2,hy,xw,go_sem,seval];refine⟨rfl,q1,q17,?_⟩;rw[eY,hy];exact q9;simp only[j6,iC,hget3,x1,x2,hy,q9,xw,go_sem,seval];refine⟨rfl,q1,q17,?_⟩;rw[eY,hy];rfl
     ·cases h2:decide (s.1 = -2)
      ·simp only[uQ,sE,g1,f1,f2,hget,hv,g9,h2,go_sem,seval];have hs1:(s.1,(dd.length:Int))=yN d.length dd.length q s:=by simp[yN,hv,h2]
       refine mN (h22 q hmem) (by simp only[go_sem,seval]) ?_;intro nl3 cl3 _;refine Wk ?_
       refine aJ (jY q) (λd3 r3 env hp3=>env=iC (.pt 1 0 0) w (.int .i64 d.length) (.pt 9 (hp.next 9) 0) (.int .i64 dd.length) (.sl nl3 ((jY q).map aH) cl3) (.int .i64 d3.length)/\hp3.get 1=some (0,.blk (bL k) 6 true true false) /\
        hp3.get 17=hp.get 17/\hp3.get 9=some (hp.next 9,.blk [.int .i64 (fB d.length dd.length d3 (s.1,(dd.length:Int))).1,.int .i64 (fB d.length dd.length d3 (s.1,(dd.length:Int))).2] 2 true true false)) ?_ ?_ ?_
       ·refine⟨rfl,?_,?_,?_⟩
        ·first|exact g1'|(simp only[g1',go_sem,seval];done)|(simp only[g1',go_sem,seval];rfl)
        ·first|exact g17|(simp only[g17,go_sem,seval];done)
        ·first|exact g9|(simp only[g9,fB,go_sem,seval];done)|(simp only[g9,fB,go_sem,seval];rfl)
       rintro env hp3 ⟨rfl,q1,q17,q9⟩;have q1':=q1;simp only[bL]at q1;simp only[j6,iC,bG,fw,go_sem,seval];exact⟨_,rfl,q1',q17,q9,by rw[nV,<-hs,vB,bF,<-hs1]⟩;rintro d3 y r3 env hp3 hes3 ⟨rfl,q1,q17,q9⟩;obtain⟨hget3,x1,x2,xw⟩:=dJ hes3 (hrl q hmem);cases hy:decide (y=(d.length:Int));simp only[j6,iC,hget3,x1,x2,hy,xw,go_sem,seval];refine⟨rfl,q1,q17,?_⟩;rw[eY,hy];exact q9;simp only[j6,iC,hget3,x1,x2,hy,q9,xw,go_sem,seval];refine⟨rfl,q1,q17,?_⟩;rw[eY,hy];rfl
      ·simp only[uQ,sE,g1,f1,f2,hget,hv,g9,h2,go_sem,seval];have hs1:((dd.length:Int),(dd.length:Int))=yN d.length dd.length q s:=by simp[yN,hv,h2]
       refine mN (h22 q hmem) (by simp only[go_sem,seval]) ?_;intro nl3 cl3 _;refine Wk ?_
       refine aJ (jY q) (λd3 r3 env hp3=>env=iC (.pt 1 0 0) w (.int .i64 d.length) (.pt 9 (hp.next 9) 0) (.int .i64 dd.length) (.sl nl3 ((jY q).map aH) cl3) (.int .i64 d3.length)/\hp3.get 1=some (0,.blk (bL k) 6 true true false) /\
        hp3.get 17=hp.get 17/\hp3.get 9=some (hp.next 9,.blk [.int .i64 (fB d.length dd.length d3 ((dd.length:Int),(dd.length:Int))).1,.int .i64 (fB d.length dd.length d3 ((dd.length:Int),(dd.length:Int))).2] 2 true true false)) ?_ ?_ ?_
       ·refine⟨rfl,?_,?_,?_⟩
        ·first|exact g1'|(simp only[g1',go_sem,seval];done)|(simp only[g1',go_sem,seval];rfl)
        ·first|exact g17|(simp only[g17,go_sem,seval];done)
        ·first|exact g9|(simp only[g9,fB,go_sem,seval];done)|(simp only[g9,fB,go_sem,seval];rfl)
       rintro env hp3 ⟨rfl,q1,q17,q9⟩;have q1':=q1;simp only[bL]at q1;simp only[j6,iC,bG,fw,go_sem,seval];exact⟨_,rfl,q1',q17,q9,by rw[nV,<-hs,vB,bF,<-hs1]⟩;rintro d3 y r3 env hp3 hes3 ⟨rfl,q1,q17,q9⟩;obtain⟨hget3,x1,x2,xw⟩:=dJ hes3 (hrl q hmem);cases hy:decide (y=(d.length:Int));simp only[j6,iC,hget3,x1,x2,hy,xw,go_sem,seval];refine⟨rfl,q1,q17,?_⟩;rw[eY,hy];exact q9;simp only[j6,iC,hget3,x1,x2,hy,q9,xw,go_sem,seval];refine⟨rfl,q1,q17,?_⟩;rw[eY,hy];rfl
   ·simp only[N6,N7,g1,e1,hin,go_sem,seval]
    refine aJ k.aSf.es (λdd r env hp2=>∃s:Sp,env=sE (.pt 1 0 0) w (.int .i64 d.length) (.pt 9 (hp.next 9) 0) (.int .i64 dd.length)/\hp2.get 1=some (0,.blk (bL k) 6 true true false) /\
     hp2.get 17=hp.get 17/\hp2.get 9=some (hp.next 9,.blk [.int .i64 s.1,.int .i64 s.2] 2 true true false)/\s=FJ d.length (s0q k d.length) 0 dd) ?_ ?_ ?_
    ·refine⟨(-1,-1),rfl,?_,?_,?_,by simp[FJ,s0q,hin]⟩
     ·first|(simp only[g1',go_sem,seval];done)|(simp only[g1',go_sem,seval];rfl)
     simp only[go_sem,seval];simp only[go_sem,seval]
    rintro env hp2 ⟨s,rfl,q1,q17,q9,hs⟩;have q1':=q1;simp only[bL]at q1;simp only[uQ,sE,q1,bG,go_sem,seval]
    refine aJ k.results.es (λdd r env hp3=>env=wU (.pt 1 0 0) w (.int .i64 d.length) (.pt 9 (hp.next 9) 0) (.int .i64 dd.length)/\hp3.get 1=some (0,.blk (bL k) 6 true true false) /\
     hp3.get 17=hp.get 17/\hp3.get 9=some (hp.next 9,.blk [.int .i64 (fB d.length k.aSf.es.length dd s).1,.int .i64 (fB d.length k.aSf.es.length dd s).2] 2 true true false)) ?_ ?_ ?_
    refine⟨rfl,q1',q17,q9⟩;rintro env hp3 ⟨rfl,u1,u17,u9⟩;have u1':=u1;simp only[bL]at u1;simp only[zJ,wU,u1,bG,u9,go_sem,seval];have hE:fB d.length k.aSf.es.length k.results.es s=CW k d.length:=by rw[hs];rfl
    rw[hE]at u9 ⊢;refine gR (kb:=0) (s:=17) (ho.mono u17) (mR _) (xs:=[bO (CW k d.length)]) (by intro z hz;simp at hz;subst hz;exact⟨rfl,rfl,rfl⟩) (by simp only[aM,List.length_singleton];simp only[big]at hVb;omega) (by decide) ?_;intro v' rd pa ho2 hk2 _;simp only[ew,go_sem,seval];refine⟨v',rfl,?_,?_⟩;rw[hk2 1 (by omega)];exact u1';rw[hx];simpa using ho2;rintro dd y r3 env hp3 hes3 ⟨rfl,u1,u17,u9⟩;obtain⟨hget3,x1,x2,xw⟩:=dJ hes3 hRb;have u1':=u1;simp only[bL]at u1;cases hy:decide (y=(d.length:Int));simp only[zJ,wU,u1,hget3,x1,x2,hy,xw,go_sem,seval];refine⟨rfl,rfl,u17,?_⟩;rw[eY,hy];exact u9;simp only[zJ,wU,u1,hget3,x1,x2,hy,u9,xw,go_sem,seval];refine⟨rfl,?_,u17,?_⟩
    first|exact u1'|rfl
    rw[eY,hy];rfl
    ·rintro dd q r2 env hp2 hes2 ⟨s,rfl,g1',g17,g9,hs⟩;have hmem:q∈k.aSf.es:=by rw[hes2];simp
     obtain⟨hget,f1,f2,fw⟩:=dJ hes2 hLb;have g1:=g1';simp only[bL]at g1;cases hv:decide (q.value=(d.length:Int))
     ·simp only[uQ,sE,g1,f1,f2,hget,hv,go_sem,seval];have hs1:s=yN d.length dd.length q s:=by simp[yN,hv]
      refine mN (h22 q hmem) (by simp only[go_sem,seval]) ?_;intro nl3 cl3 _;refine Wk ?_
      refine aJ (jY q) (λd3 r3 env hp3=>env=iC (.pt 1 0 0) w (.int .i64 d.length) (.pt 9 (hp.next 9) 0) (.int .i64 dd.length) (.sl nl3 ((jY q).map aH) cl3) (.int .i64 d3.length)/\hp3.get 1=some (0,.blk (bL k) 6 true true false) /\
       hp3.get 17=hp.get 17/\hp3.get 9=some (hp.next 9,.blk [.int .i64 (fB d.length dd.length d3 s).1,.int .i64 (fB d.length dd.length d3 s).2] 2 true true false)) ?_ ?_ ?_
      ·refine⟨rfl,?_,?_,?_⟩
       ·first|exact g1'|(simp only[g1',go_sem,seval];done)|(simp only[g1',go_sem,seval];rfl)
       ·first|exact g17|(simp only[g17,go_sem,seval];done)
       ·first|exact g9|(simp only[g9,fB,go_sem,seval];done)|(simp only[g9,fB,go_sem,seval];rfl)
      rintro env hp3 ⟨rfl,q1,q17,q9⟩;have q1':=q1;simp only[bL]at q1;simp only[j6,iC,bG,fw,go_sem,seval];exact⟨_,rfl,q1',q17,q9,by rw[nV,<-hs,vB,bF,<-hs1]⟩;rintro d3 y r3 env hp3 hes3 ⟨rfl,q1,q17,q9⟩;obtain⟨hget3,x1,x2,xw⟩:=dJ hes3 (hrl q hmem);cases hy:decide (y=(d.length:Int));simp only[j6,iC,hget3,x1,x2,hy,xw,go_sem,seval];refine⟨rfl,q1,q17,?_⟩;rw[eY,hy];exact q9;simp only[j6,iC,hget3,x1,x2,hy,q9,xw,go_sem,seval];refine⟨rfl,q1,q17,?_⟩;rw[eY,hy];rfl
     ·cases h2:decide (s.1 = -2)
      ·simp only[uQ,sE,g1,f1,f2,hget,hv,g9,h2,go_sem,seval];have hs1:(s.1,(dd.length:Int))=yN d.length dd.length q s:=by simp[yN,hv,h2]
       refine mN (h22 q hmem) (by simp only[go_sem,seval]) ?_;intro nl3 cl3 _;refine Wk ?_
       refine aJ (jY q) (λd3 r3 env hp3=>env=iC (.pt 1 0 0) w (.int .i64 d.length) (.pt 9 (hp.next 9) 0) (.int .i64 dd.length) (.sl nl3 ((jY q).map aH) cl3) (.int .i64 d3.length)/\hp3.get 1=some (0,.blk (bL k) 6 true true false) /\
        hp3.get 17=hp.get 17/\hp3.get 9=some (hp.next 9,.blk [.int .i64 (fB d.length dd.length d3 (s.1,(dd.length:Int))).1,.int .i64 (fB d.length dd.length d3 (s.1,(dd.length:Int))).2] 2 true true false)) ?_ ?_ ?_
       ·refine⟨rfl,?_,?_,?_⟩
        ·first|exact g1'|(simp only[g1',go_sem,seval];done)|(simp only[g1',go_sem,seval];rfl)
        ·first|exact g17|(simp only[g17,go_sem,seval];done)
        ·first|exact g9|(simp only[g9,fB,go_sem,seval];done)|(simp only[g9,fB,go_sem,seval];rfl)
       rintro env hp3 ⟨rfl,q1,q17,q9⟩;have q1':=q1;simp only[bL]at q1;simp only[j6,iC,bG,fw,go_sem,seval];exact⟨_,rfl,q1',q17,q9,by rw[nV,<-hs,vB,bF,<-hs1]⟩;rintro d3 y r3 env hp3 hes3 ⟨rfl,q1,q17,q9⟩;obtain⟨hget3,x1,x2,xw⟩:=dJ hes3 (hrl q hmem);cases hy:decide (y=(d.length:Int));simp only[j6,iC,hget3,x1,x2,hy,xw,go_sem,seval];refine⟨rfl,q1,q17,?_⟩;rw[eY,hy];exact q9;simp only[j6,iC,hget3,x1,x2,hy,q9,xw,go_sem,seval];refine⟨rfl,q1,q17,?_⟩;rw[eY,hy];rfl
      ·simp only[uQ,sE,g1,f1,f2,hget,hv,g9,h2,go_sem,seval];have hs1:((dd.length:Int),(dd.length:Int))=yN d.length dd.length q s:=by simp[yN,hv,h2]
       refine mN (h22 q hmem) (by simp only[go_sem,seval]) ?_;intro nl3 cl3 _;refine Wk ?_
       refine aJ (jY q) (λd3 r3 env hp3=>env=iC (.pt 1 0 0) w (.int .i64 d.length) (.pt 9 (hp.next 9) 0) (.int .i64 dd.length) (.sl nl3 ((jY q).map aH) cl3) (.int .i64 d3.length)/\hp3.get 1=some (0,.blk (bL k) 6 true true false) /\
        hp3.get 17=hp.get 17/\hp3.get 9=some (hp.next 9,.blk [.int .i64 (fB d.length dd.length d3 ((dd.length:Int),(dd.length:Int))).1,.int .i64 (fB d.length dd.length d3 ((dd.length:Int),(dd.length:Int))).2] 2 true true false)) ?_ ?_ ?_
       ·refine⟨rfl,?_,?_,?_⟩
        ·first|exact g1'|(simp only[g1',go_sem,seval];done)|(simp only[g1',go_sem,seval];rfl)
        ·first|exact g17|(simp only[g17,go_sem,seval];done)
        ·first|exact g9|(simp only[g9,fB,go_sem,seval];done)|(simp only[g9,fB,go_sem,seval];rfl)
       rintro env hp3 ⟨rfl,q1,q17,q9⟩;have q1':=q1;simp only[bL]at q1;simp only[j6,iC,bG,fw,go_sem,seval];exact⟨_,rfl,q1',q17,q9,by rw[nV,<-hs,vB,bF,<-hs1]⟩;rintro d3 y r3 env hp3 hes3 ⟨rfl,q1,q17,q9⟩;obtain⟨hget3,x1,x2,xw⟩:=dJ hes3 (hrl q hmem);cases hy:decide (y=(d.length:Int));simp only[j6,iC,hget3,x1,x2,hy,xw,go_sem,seval];refine⟨rfl,q1,q17,?_⟩;rw[eY,hy];exact q9;simp only[j6,iC,hget3,x1,x2,hy,q9,xw,go_sem,seval];refine⟨rfl,q1,q17,?_⟩;rw[eY,hy];rfl
 rw[hc];refine Wk ?_;rw[iA,if_neg (by rw[hc];decide)]
end
end
section
def GC(s:Sp):Prop:=s.1 = -2 \/ -1<=s.1
theorem GB{v i:Int}{l:List Int}{s:Sp}(h:GC s):GC (fB v i l s):=by simp only[fB];split<;>exact h
theorem JJ(v:Int):∀(l:List aG)(s:Sp)(i:Nat),GC s->GC (FJ v s i l)
 |[],s,i,h=>h
 |q::r,s,i,h=>by refine JJ v r _ _ (GB ?_);simp only[yN];split;split;exact .inr (by show (-1:Int)<=(i:Int);omega);exact h;exact h
theorem DA{k:aA}(ok:gT k){s:Sp}(h:s∈aD k):GC s:=by rw[IE k ok,FO,List.mem_map]at h;obtain⟨v,_,rfl⟩:=h;refine GB (JJ _ _ _ _ ?_);simp only[s0q];split;exact .inr (by simp);exact .inl rfl
section
variable{pg:Pg}
theorem c12(hf:pg.fs 12=some aEj)(k:aA)(h10:bQ pg 10 [k.av] (iA k))(at_:Int):bQ pg 12 [k.av,.int .i64 at_] (kL k at_):=by
 obtain⟨r9,hr9,hs9⟩:=h10;simp only[aA.av,aA.cells,Sl.av]at hr9;refine bQ.ofX hf ?_;unfold aEj;simp only[aA.av,aA.cells,go_sem,seval];rcases lD (k:=k) with hc|hc;have ok:=cA hc;have hso:=ok.out;simp only[bJ,aF,aR]at hso;obtain⟨_,⟨⟨⟨⟨⟨⟨_,_⟩,hi0⟩,_⟩,hiV⟩,_⟩,_⟩,_⟩:=hso;have hsl:=jZ (k:=k) (by omega);have hVb:=k.aSe.ok;have htr:treeL ((aD k).map bO)=true:=cH (f:=bO) (λs=>by simp[bO,go_sem]) _;rw[iA,if_pos hc]at hs9;obtain⟨nl9,cl9,rfl⟩:=hs9;refine bZ hr9 (by simp only[go_sem,seval]) (by first|rfl|(simp[AV.tree,htr])) (Wk ?_);cases ha:decide (at_ < -1)
 case true=>refine Wk ?_;rw[kL,if_pos hc,if_pos (.inl (by simpa using ha))]
 case false=>
  refine Wk ?_;cases hb:decide ((k.aSf.es.length:Int)<at_)
  case true=>refine Wk ?_;rw[kL,if_pos hc,if_pos (.inr (by simpa using hb))]
  case false=>
   refine Wk ?_;refine aJ (aD k) (λd r env hp=>∃v,env=CG (.int .i64 at_) (.sl nl9 ((aD k).map bO) cl9) v (.int .i64 d.length)/\Own hp 9 1 false v ((cC at_ d).map aH)) ?_ ?_ ?_;exact⟨_,rfl,Own.nil _ _ _ _ _ _ rfl⟩;rintro env hp ⟨v,rfl,ho⟩;simp only[CE,CG,bG,go_sem,seval];have hfin:∀r,(∃nl cl,r = .tup [.sl nl ((cC at_ (aD k)).map aH) cl,.int .i64 0])->kL k at_ r:=by intro r hr;rw[kL,if_pos hc,if_neg (by simp at ha hb;omega)];exact hr
   obtain⟨nl,cl,keys,hsn,_⟩:=ho.snap (El.ints _) 61;rcases ho with ⟨he,nl',cl',rfl,_⟩|⟨e,cs,rfl,hg,hu⟩
   rw[<-he];refine Wk ?_;exact hfin _ ⟨nl',cl',by rw[he]⟩;simp only[aM]at hsn;simp only[Tev.conv,depth,fE,cW,bM,↓hsn,go_sem,aM];exact hfin _ ⟨_,_,rfl⟩
   ·rintro d x r env hp hes ⟨v,rfl,ho⟩;have hlb:(aD k).length<=big:=by rw[hsl];exact hVb
    obtain⟨hget,e1,e2,ew⟩:=dJ hes hlb;have hfx:=DA ok (show x∈aD k by rw[hes];simp);have h3:decide (-1<=x.1) = !decide (x.1 = -2):=by rw[<-decide_not,eH];rcases hfx with h|h<;>omega
    have hld:=qN at_ d x;have hlen:(cC at_ d).length<=d.length:=by simp only[cC,aM];exact Nat.le_trans (List.length_filter_le _ _) (by simp)
    have hdl:d.length<=big:=by
     have:d.length<=(aD k).length:=by rw[hes];simp
     omega
    have hx0:bO x = .agg [.int .i64 x.1,.int .i64 x.2]:=rfl;cases b1:decide (x.1 = -2)
    case true=>rw[b1]at h3;simp only[CE,CG,hget,e1,e2,hx0,h3,ew,go_sem,seval];refine⟨v,rfl,?_⟩;rw[hld];simpa[fQ,b1] using ho
    case false=>
    rw[b1]at h3;cases b2:decide (x.1<=at_)
    case false=>simp only[CE,CG,hget,e1,e2,hx0,h3,b2,ew,go_sem,seval];refine⟨v,rfl,?_⟩;rw[hld];simpa[fQ,b2] using ho
    case true=>
    cases b3:decide (at_<=x.2)
    case false=>simp only[CE,CG,hget,e1,e2,hx0,h3,b2,b3,ew,go_sem,seval];refine⟨v,rfl,?_⟩;rw[hld];simpa[fQ,b3] using ho
    case true=>
     simp only[CE,CG,hget,e1,e2,hx0,h3,b2,b3,ew,go_sem,seval];refine gR (kb:=0) (s:=9) ho (El.ints _) (xs:=[.int .i64 (d.length:Int)]) (by intro z hz;simp at hz;subst hz;exact El.int _) (by simp only[aM,List.length_singleton];simp only[big]at hdl;omega) (by decide) ?_;intro v' rd pa ho2 hk2 _;simp only[ew,go_sem,seval];refine⟨v',rfl,?_⟩;have hil:fQ at_ x=true:=by simp[fQ,b1,b2,b3]
     rw[hld,hil];simpa[aH] using ho2
 rw[iA,if_neg (by rw[hc];decide)]at hs9;subst hs9;refine aB hr9 (Wk ?_);rw[kL,if_neg (by rw[hc];decide)]
theorem aAd{k:aA}{at_:Int}:(cC at_ (aD k)).length<=(aD k).length:=by simp only[cC,aM];exact Nat.le_trans (List.length_filter_le _ _) (by simp)
end
end
end Go.Tev
