import Derived.Test.YtmcadllokkmeiaaGreatDoorBAZ
set_option linter.all false
namespace Go.Tev
section
theorem u7:∀a b:List UInt8,(Op.bytesLess a b||decide (a=b)) = !Op.bytesLess b a
 |[],[]=>rfl
 |[],_::_=>rfl
 |_::_,[]=>rfl
 |x::r,y::s=>by
  have ih:=u7 r s;simp only[Op.bytesLess];by_cases h:x=y;subst h;simp only[List.cons.injEq,true_and,beq_self_eq_true,cE];have:decide (x<x)=false:=by simp
  rw[this];simpa using ih;have h1:(x==y)=false:=by simpa using h
  have h2:(y==x)=false:=by simpa using λe=>h e.symm
  have h3:decide (x::r=y::s)=false:=by simp[h]
  rw[h1,h2,h3];simp only[d9,Bool.or_false];have hne:x.toNat≠y.toNat:=λe=>h (UInt8.toNat_inj.1 e);by_cases hl:x<y;have:¬y<x:=by rw[UInt8.lt_iff_toNat_lt]at *;omega
  simp[hl,this];have:y<x:=by rw[UInt8.lt_iff_toNat_lt]at *;omega
  simp[hl,this]
theorem OC(h:Hp)(nl cl:Bool)(n:Nat)(hn:n<256):QO h [.sl nl [.int .u8 (n:Int)] cl]=some (.str [UInt8.ofNat n],.pat [] []):=by
 have h1:(0<=(n:Int)/\(n:Int)<=255):=by omega
 simp[QO,bH,cK,pU,AV.fits,AV.cells,cX,AV.one,h1]
section
variable{pg:Pg}
theorem c163(hf:pg.fs 163=some AZ)(i:Nat)(hi:i<10):Ret pg 163 [.int .i64 i] (.str [UInt8.ofNat (48+i)]):=by
 refine Ret.ofX hf ?_;have h1:((i:Int).tmod 10)=(i:Int):=by rw[Int.tmod_eq_emod_of_nonneg (by omega)];omega
 have h2:wr .i64 (48+(i:Int))=((48+i:Nat):Int):=by rw[aU (by omega) (by omega)];omega
 have h3:wr .u8 (((48+i:Nat):Int))=((48+i:Nat):Int):=by simp only[wr];rw[if_pos (by omega)]
 have h4:(i:Int).tdiv 10=0:=by rw[Int.tdiv_eq_ediv_of_nonneg (by omega)];omega
 have h5:wr .i64 0=0:=rfl;have h6:=λh nl cl=>OC h nl cl (48+i) (by omega);have h7:((10:Int)=0)=False:=by simp
 unfold AZ;simp only[h1,h2,h3,h4,h5,h7,↓h6,go_sem,seval];rw[pW];simp only[EK,ZA,go_sem,seval]
theorem c122(hf:pg.fs 122=some HE)(h163:pg.fs 163=some AZ)(i:Nat)(hi:i<10):Ret pg 122 [.int .i64 i] (.str (v7 i)):=by
 have a:=c163 h163 i hi;have h1:decide ((i:Int)<0)=false:=by simp
 refine Ret.ofX hf ?_;unfold HE;simp only[h1,go_sem,seval];refine aB a (Wk ?_);rfl
theorem BF(t:Typ)(vars:List Str):hY t vars=(uX t&&(decide (t.aSh.row.bs=[])&&((decide (t.aSl.bs=[105,110,116])||decide (t.aSl.bs=[98,111,111,108]))&&d4 t.aSh.aSi.es vars))):=by
 simp only[hY,uX];by_cases h1:t.aSl.bs=[105,110,116]
 have:iH t.aSl.bs=false:=by rw[h1];rfl
 rw[this,h1];simp only[decide_true,Bool.true_or,cE,Bool.not_false,fF]
 (refine Bool.eq_iff_iff.2 ?_;simp only[aF];constructor<;>(intro h;simp only[h,and_self]))
 by_cases h2:t.aSl.bs=[98,111,111,108]
 have:iH t.aSl.bs=false:=by rw[h2];rfl
 rw[this,h2];simp only[decide_true,Bool.true_or,Bool.or_true,cE,Bool.not_false,fF]
 (refine Bool.eq_iff_iff.2 ?_;simp only[aF];constructor<;>(intro h;simp only[h,and_self]))
 simp only[h1,h2,decide_false,Bool.false_or,d9,gD];cases iH t.aSl.bs<;>simp
theorem S1{p:List Str}{x:Str}{r:List Str}:nQ p (x::r)=(iQ x.bs && !DX x.bs&&(match p.getLast? with|none=>true|some q=>Op.bytesLess q.bs x.bs)&&nQ (p++[x]) r):=rfl
set_option maxHeartbeats 1000000 in
theorem c49(hf:pg.fs 49=some aDP)(h77:∀s:Str,Ret pg 77 [.str s.bs] (.bool (iQ s.bs)))(h78:pg.fs 78=some aAK)(h79:∀t:Typ,Ret pg 79 [t.av] (.bool (uX t)))
  (h80:∀(nl cl:Bool)(ls:List Lin),ls.length<=big->∀(nl' cl':Bool)(vars:List Str),vars.length<=big->Ret pg 80 [.sl nl (ls.map Lin.av) cl,.sl nl' (vars.map Str.av) cl'] (.bool (d4 ls vars)))
  (k:aA):Ret pg 49 [k.av] (.bool (bJ k)):=by
 have hb:=k.vars.ok;have hbl:=k.aSe.ok;have hov:=h80 k.aSk.nl k.aSk.cl k.aSk.es k.aSk.ok k.vars.nl k.vars.cl k.vars.es k.vars.ok;refine Ret.ofX hf ?_;unfold aDP;refine Wk ?_;refine aJ k.vars.es (λd r env hp=>hp.get 1=some (0,.blk k.cells 6 true true false)/\env=V2 (.pt 1 0 0) (.int .i64 d.length)/\nQ [] k.vars.es=nQ d r) ?_ ?_ ?_;exact⟨rfl,rfl,rfl⟩;rintro env hp ⟨g1,rfl,hI⟩;have g1':=g1;simp only[aA.cells,Sl.av]at g1;simp only[nQ]at hI;simp only[V1,V2,g1,bG,go_sem,seval];refine aJ k.aSe.es (λd r env hp=>hp.get 1=some (0,.blk k.cells 6 true true false)/\env=MY (.pt 1 0 0) (.int .i64 d.length)/\(k.aSe.es.all λt=>hY t k.vars.es)=r.all λt=>hY t k.vars.es) ?_ ?_ ?_;exact⟨g1',rfl,rfl⟩;clear g1 g1' hp;rintro env hp ⟨g1,rfl,hJ⟩;simp only[aA.cells,Sl.av]at g1;have hJ':(k.aSe.es.all λt=>hY t k.vars.es)=true:=by rw[hJ];rfl
 have hs:bJ k=(decide ((k.vars.es.length:Int)<=12)&&(d4 k.aSk.es k.vars.es&&(decide (0<=k.aSg)&&(decide (k.aSg<=8)&&(decide (k.aSg<=k.aSe.es.length)&&(decide ((k.aSe.es.length:Int)<=k.aSg+400)&&decide ((k.aSf.es.length:Int)<=400))))))):=by simp only[bJ,hI,hJ'];simp[Bool.and_assoc]
 rw[hs];clear hs;cases b1:decide ((k.vars.es.length:Int)<=12);simp only[MX,MY,g1,bG,b1,go_sem,seval];simp only[MX,MY,g1,bG,b1,go_sem,seval];refine aB hov ?_;cases b2:d4 k.aSk.es k.vars.es;simp only[go_sem,seval];cases b3:decide (0<=k.aSg);simp only[g1,b3,go_sem,seval];cases b4:decide (k.aSg<=8);simp only[g1,b3,b4,go_sem,seval];have hw:wr .i64 (k.aSg+400)=k.aSg+400:=by have:=aO b3;have:=aO b4;exact aU (by omega) (by omega)
 cases b5:decide (k.aSg<=(k.aSe.es.length:Int));simp only[g1,b3,b4,b5,go_sem,seval];cases b6:decide ((k.aSe.es.length:Int)<=k.aSg+400);simp only[g1,b3,b4,b5,hw,b6,go_sem,seval];simp only[g1,b3,b4,b5,hw,b6,go_sem,seval];clear g1 g1' hp;rintro d t r env hp hes ⟨g1,rfl,hJ⟩;have g1':=g1;simp only[aA.cells,Sl.av]at g1;obtain⟨hget,e1,e2,ew⟩:=dJ hes hbl;simp only[fV]at hJ;have hfalse:hY t k.vars.es=false->bJ k=false:=by intro h;simp only[bJ,hJ,h];simp
 rw[BF]at hfalse;have a1:=h79 t;rw[Typ.avc]at a1;have a2:=h80 t.aSh.aSi.nl t.aSh.aSi.cl t.aSh.aSi.es t.aSh.aSi.ok k.vars.nl k.vars.cl k.vars.es k.vars.ok;simp only[MX,MY,g1,hget,e1,e2,go_sem,seval];refine aB a1 ?_;cases c1:uX t;refine Wk ?_;rw[hfalse (by rw[c1];rfl)];cases c2:decide (t.aSh.row.bs=[]);simp only[c2,go_sem,seval];rw[hfalse (by rw[c1,c2];rfl)];cases c3:decide (t.aSl.bs=[105,110,116]);cases c4:decide (t.aSl.bs=[98,111,111,108]);simp only[c2,c3,c4,go_sem,seval];rw[hfalse (by rw[c1,c2,c3,c4];rfl)];simp only[c2,c3,c4,g1,go_sem,seval];refine aB a2 ?_;cases c5:d4 t.aSh.aSi.es k.vars.es;refine Wk ?_;rw[hfalse (by rw[c1,c2,c3,c4,c5];rfl)];simp only[ew,go_sem,seval];refine⟨?_,rfl,?_⟩;simp only[g1',go_sem,seval];rw[hJ,BF,c1,c2,c3,c4,c5];rfl;simp only[c2,c3,g1,go_sem,seval];refine aB a2 ?_;cases c5:d4 t.aSh.aSi.es k.vars.es;refine Wk ?_;rw[hfalse (by rw[c1,c2,c3,c5];simp)];simp only[ew,go_sem,seval];refine⟨?_,rfl,?_⟩;simp only[g1',go_sem,seval];rw[hJ,BF,c1,c2,c3,c5];simp;rintro d x r env hp hes ⟨g1,rfl,hI⟩;have g1':=g1;simp only[aA.cells,Sl.av]at g1;obtain⟨hget,e1,e2,ew⟩:=dJ hes hb;rw[S1]at hI;have hfalse:nQ [] k.vars.es=false->bJ k=false:=by intro h;simp only[bJ,h];simp
 have a1:=h77 x;have a2:=c78 h78 x.bs x.ok;simp only[V1,V2,g1,hget,e1,e2,go_sem,seval];refine aB a1 ?_;cases c1:iQ x.bs;refine Wk ?_;refine aY ?_;rw[hfalse (by rw[hI,c1];rfl)];simp only[g1,hget,e1,e2,go_sem,seval];refine aB a2 ?_;cases c2:DX x.bs
 case true=>refine Wk ?_;refine aY ?_;rw[hfalse (by rw[hI,c1,c2];rfl)]
 rcases mO d with hd|⟨d',q,hd⟩
 have e3:decide (0<(d.length:Int))=false:=by simp[hd]
 simp only[e3,ew,go_sem,seval];refine⟨by kernel_rfl,g1',rfl,?_⟩;rw[hI,c1,c2,hd];simp;have hd':d=d'++[q]:=by simpa using hd
 have e3:decide (0<(d.length:Int))=true:=by simp[hd']
 have e4:wr .i64 ((d.length:Int)-1)=(d'.length:Int):=by
  have:d.length<=k.vars.es.length:=by rw[hes];simp
  simp only[big]at hb;rw[aU (by omega) (by omega),hd',dC,List.length_singleton];omega
 have e5:k.vars.es[d'.length]?=some q:=by rw[hes,hd'];simp
 have e6:((d'.length:Int)<(k.vars.es.length:Int))=True:=aK (by rw[hes,hd'];simp;omega);have hlast:d.getLast?=some q:=by rw[hd'];simp
 have htot:=u7 x.bs q.bs;rw[hlast]at hI;dsimp only at hI;cases hl:Op.bytesLess q.bs x.bs;rw[hl]at htot;simp only[e3,e4,e5,e6,g1,hget,htot,go_sem,seval];refine aY ?_;rw[hfalse (by rw[hI,c1,c2,hl];rfl)];rw[hl]at htot;simp only[e3,e4,e5,e6,g1,hget,htot,ew,go_sem,seval];refine⟨by kernel_rfl,rfl,rfl,?_⟩;rw[hI,c1,c2,hl];rfl
end
end
section
theorem mK{h:Hp}{d:Nat}{a b c e e':AV}{keys:List Nat}(ha:a.tree=true)(hb:b.tree=true)(hc:c.tree=true)(he:Tev.snap (d+1) h e=some (e',keys)):eN (Tev.snap (d+1) h) [a,b,c,e]=some ([a,b,c,e'],keys):=by simp[bM,cW,pN ha,pN hb,pN hc,he]
def bL(k:aA):List AV:=
 [.sl k.vars.nl (k.vars.es.map Str.av) k.vars.cl,.sl k.aSk.nl (k.aSk.es.map Lin.av) k.aSk.cl,.int .i64 k.aSg,.sl k.aSe.nl (k.aSe.es.map Typ.av) k.aSe.cl,.sl k.aSf.nl (k.aSf.es.map aG.av) k.aSf.cl,.sl k.results.nl (k.results.es.map aH) k.results.cl]
def aBK(p:aC):List AV:=
 [.str p.op.bs,.int .i64 p.num,.int .i64 p.value,.str p.name.bs,.sl p.at_.nl (p.at_.es.map Lin.av) p.at_.cl,.bool p.dyn,.int .i64 p.check,.sl p.fn.nl (p.fn.es.map aP.av) p.fn.cl,.sl p.knl (p.aSj.map aC.av) p.kcl]
section
variable{pg:Pg}
set_option maxHeartbeats 1000000 in
theorem c86(hf:pg.fs 86=some aDs)(h122:∀i:Nat,i<10->Ret pg 122 [.int .i64 i] (.str (v7 i)))
  (h123:∀p:aC,p.ok->∀(nl cl:Bool)(vars:List Str),vars.length+p.sz<=big->∀v:Int,Ret pg 123 [p.av,.sl nl (vars.map Str.av) cl,.int .i64 v] (.bool (jQ p vars v)))
  (h37:∀p:aC,p.ok->p.sz<=big->bQ pg 37 [p.av] (pA 1 false ((bX p).map aH)))
  (k:aA) (p:aC) (hpo:p.ok) (n:Nat) (hn:n<=9) (hsz:k.vars.es.length+n+p.sz<=big) (nl cl:Bool) (there:List Bool) (hth:there.length=k.aSe.es.length) :
  Ret pg 86 [p.av,k.av,.int .i64 n,.sl nl (there.map AV.bool) cl] (.bool (cU k p n there)):=by
 refine Ret.ofX hf ?_;unfold aDs;simp only[aA.av,aA.cells,go_sem,seval];refine gR (kb:=0) (s:=9) (Own.nil _ _ _ _ _ _ rfl) (by simp) (El.strs k.vars.es) (by simp only[List.length_nil,aM];simp only[big]at hsz;omega) (by decide) ?_;intro v0 rd pa ho0 hk0 _;have g1:=hk0 1 (by omega);have g5:=hk0 5 (by omega);simp only[go_sem,seval]at g1 g5;generalize hH:Eff.app _ (Eff.pat rd pa)=H at ho0 g1 g5 ⊢;clear hH hk0;refine Wk ?_
 refine aJ (List.range n) (λd r env hp=>∃v kk,env=U9 (.int .i64 n) (.sl nl (there.map AV.bool) cl) (.pt 1 0 0) (.pt 5 0 0) v (.int .i64 d.length)/\(kk=9\/kk=17)/\Own hp kk 1 false v ((k.vars.es++d.map zY).map Str.av) /\
  hp.get 1=some (0,.blk (aBK p) 9 true true false)/\hp.get 5=some (0,.blk (bL k) 6 true true false)) ?_ ?_ ?_
 exact⟨v0,9,rfl,.inl rfl,by simpa using ho0,g1,g5⟩;rintro env hp ⟨v,kk,rfl,hkk,ho,q1,q5⟩;have hr:(List.range n).length=n:=List.length_range;rw[hr];simp only[aBK]at q1;simp only[bL]at q5;have ho':Own hp kk 1 false v ((gE k.vars.es n).map Str.av):=ho;obtain⟨nl8,cl8,keys,hsn,hnl8⟩:=ho'.snap (El.strs _) 62;have h2:=h123 p hpo nl8 cl8 (gE k.vars.es n) (by simp[gE];omega) k.aSe.es.length;rw[aC.avc]at h2;have h3:=h37 p hpo (by omega);rw[aC.avc]at h3;simp only[U8,U9,q1,q5,bG,go_sem,seval];refine cR h2 (uA (by simp only[go_sem,seval]) hsn (by simp only[go_sem,seval])) (v:=.bool (jQ p (gE k.vars.es n) k.aSe.es.length)) (pa:=[]) rfl ?_;cases hv:jQ p (gE k.vars.es n) k.aSe.es.length;refine Wk ?_;simp only[cU,hv];rfl;have hspec:cU k p n there=(bX p).all (λv=>bS there v):=by simp only[cU,hv];rfl
 rw[hspec];simp only[q1,go_sem,seval];refine mN h3 (by simp only[go_sem,seval]) ?_;intro nl9 cl9 hnl9;refine Wk ?_;have hrl:(bX p).length<=big:=by have e3:=kP p;omega
 have hin:∀a∈bX p,0<=a/\a<(there.length:Int):=by intro a ha;rw[kQ]at ha;rw[hth];simp only[jQ,aF]at hv;exact qX _ p (gE k.vars.es n) hv.2 a ha
 generalize bX p=L at hrl hin ⊢;refine aJ L (λd r env hp=>env=LW (.sl nl (there.map AV.bool) cl) (.sl nl9 (L.map aH) cl9) (.int .i64 d.length)/\L.all (λv=>bS there v)=r.all (λv=>bS there v)) ?_ ?_ ?_;exact⟨rfl,rfl⟩;rintro env hp ⟨rfl,hI⟩;simp only[LV,LW,bG,go_sem,seval];rw[hI];rfl;rintro d a r env hp hes ⟨rfl,hI⟩;obtain⟨hget,e1,e2,ew⟩:=dJ hes hrl;obtain⟨z1,z2⟩:=hin a (by rw[hes];simp);have z1':(0<=a)=True:=aK z1;have hla:there[a.toNat]?=some (there[a.toNat]'(by omega)):=aW (by omega);have hta:bS there a=there[a.toNat]'(by omega):=by simp[bS,hla]
 generalize there[a.toNat]'(by omega)=b at hla hta;rw[hI];cases b;simp only[LV,LW,e1,e2,hget,z1',hla,go_sem,seval];simp[hta];simp only[LV,LW,e1,e2,hget,z1',hla,ew,go_sem,seval];refine⟨rfl,?_⟩;simp[hta];rintro d x r env hp hes ⟨v,kk,rfl,hkk,ho,q1,q5⟩;obtain⟨hx,hlt⟩:=iD hes;have hb2:(d++x::r).length<=big:=by rw[<-hes];simp[big];omega
 have e1:decide ((d.length:Int)<(n:Int))=true:=by simp;omega
 simp only[U8,U9,e1,go_sem,seval];refine aB (h122 d.length (by omega)) (Wk ?_);refine uW (kb:=0) (s:=17) (k1:=kk) (ho.mono ?_) (El.strs _) (xs:=[.str (v7 d.length)]) (by intro y hy;simp at hy;subst hy;exact El.str _) (by simp) ?_ (by omega) ?_;simp only[go_sem,seval];simp only[aM,dC,List.length_cons,List.length_nil];simp only[big]at hsz;omega;intro v' rd' pa' ho2 hk2;simp only[aZ hb2,go_sem,seval];refine⟨v',17,rfl,.inr rfl,?_,?_,?_⟩;rw[hx];simpa[Str.av,zY] using ho2;rw[hk2 1 (by omega) (by omega)];exact q1;rw[hk2 5 (by omega) (by omega)];exact q5
end
end
end Go.Tev
