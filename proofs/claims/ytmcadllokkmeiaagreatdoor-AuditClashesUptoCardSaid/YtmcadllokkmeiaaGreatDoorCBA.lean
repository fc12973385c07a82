import Derived.Test.YtmcadllokkmeiaaGreatDoorCAZ
set_option linter.all false
namespace Go.Tev
section
theorem sX:∀a b:List UInt8,(Op.bytesLess a b||decide (a=b)) = !Op.bytesLess b a
 |[],[]=>rfl
 |[],_::_=>rfl
 |_::_,[]=>rfl
 |x::r,y::s=>by
  have ih:=sX r s;simp only[Op.bytesLess];by_cases h:x=y;subst h;simp only[List.cons.injEq,true_and,beq_self_eq_true,Bool.true_and];have:decide (x<x)=false:=by simp
  rw[this];simpa using ih;have h1:(x==y)=false:=by simpa using h
  have h2:(y==x)=false:=by simpa using λe=>h e.symm
  have h3:decide (x::r=y::s)=false:=by simp[h]
  rw[h1,h2,h3];simp only[Bool.false_and,Bool.or_false];have hne:x.toNat≠y.toNat:=λe=>h (UInt8.toNat_inj.1 e);by_cases hl:x<y;have:¬y<x:=by rw[UInt8.lt_iff_toNat_lt]at *;omega
  simp[hl,this];have:y<x:=by rw[UInt8.lt_iff_toNat_lt]at *;omega
  simp[hl,this]
theorem LD(h:Hp)(nl cl:Bool)(n:Nat)(hn:n<256):M6 h [.sl nl [.int .u8 (n:Int)] cl]=some (.str [UInt8.ofNat n],.pat [] []):=by
 have h1:(0<=(n:Int)/\(n:Int)<=255):=by omega
 simp[M6,bB,bV,oM,AV.fits,AV.cells,cH,AV.one,h1]
section
variable{pg:Pg}
theorem c163(hf:pg.fs 163=some yN)(i:Nat)(hi:i<10):Ret pg 163 [.int .i64 i] (.str [UInt8.ofNat (48+i)]):=by
 refine Ret.ofX hf ?_;have h1:((i:Int).tmod 10)=(i:Int):=by rw[Int.tmod_eq_emod_of_nonneg (by omega)];omega
 have h2:wr .i64 (48+(i:Int))=((48+i:Nat):Int):=by rw[aO (by omega) (by omega)];omega
 have h3:wr .u8 (((48+i:Nat):Int))=((48+i:Nat):Int):=by simp only[wr];rw[if_pos (by omega)]
 have h4:(i:Int).tdiv 10=0:=by rw[Int.tdiv_eq_ediv_of_nonneg (by omega)];omega
 have h5:wr .i64 0=0:=rfl;have h6:=λh nl cl=>LD h nl cl (48+i) (by omega);have h7:((10:Int)=0)=False:=by simp
 unfold yN;simp only[h1,h2,h3,h4,h5,h7,↓h6,go_sem,seval];rw[oO];simp only[CO,U6,go_sem,seval]
theorem c122(hf:pg.fs 122=some E5)(h163:pg.fs 163=some yN)(i:Nat)(hi:i<10):Ret pg 122 [.int .i64 i] (.str (t8 i)):=by
 have a:=c163 h163 i hi;have h1:decide ((i:Int)<0)=false:=by simp
 refine Ret.ofX hf ?_;unfold E5;simp only[h1,go_sem,seval];refine aB a (Wk ?_);rfl
theorem zA(t:Typ)(vars:List Str):gB t vars=(sS t&&(decide (t.shape.row.bs=[])&&((decide (t.elem.bs=[105,110,116])||decide (t.elem.bs=[98,111,111,108]))&&cU t.shape.dims.es vars))):=by
 simp only[gB,sS];by_cases h1:t.elem.bs=[105,110,116]
 have:gL t.elem.bs=false:=by rw[h1];rfl
 rw[this,h1];simp only[decide_true,Bool.true_or,Bool.true_and,Bool.not_false,Bool.and_true]
 (refine Bool.eq_iff_iff.2 ?_;simp only[aG];constructor<;>(intro h;simp only[h,and_self]))
 by_cases h2:t.elem.bs=[98,111,111,108]
 have:gL t.elem.bs=false:=by rw[h2];rfl
 rw[this,h2];simp only[decide_true,Bool.true_or,Bool.or_true,Bool.true_and,Bool.not_false,Bool.and_true]
 (refine Bool.eq_iff_iff.2 ?_;simp only[aG];constructor<;>(intro h;simp only[h,and_self]))
 simp only[h1,h2,decide_false,Bool.false_or,Bool.false_and,Bool.and_false];cases gL t.elem.bs<;>simp
theorem PJ{p:List Str}{x:Str}{r:List Str}:mL p (x::r)=(gR x.bs && !BZ x.bs&&(match p.getLast? with|none=>true|some q=>Op.bytesLess q.bs x.bs)&&mL (p++[x]) r):=rfl
set_option maxHeartbeats 1000000 in
theorem c49(hf:pg.fs 49=some aBh)(h77:∀s:Str,Ret pg 77 [.str s.bs] (.bool (gR s.bs)))(h78:pg.fs 78=some W7)(h79:∀t:Typ,Ret pg 79 [t.av] (.bool (sS t)))
  (h80:∀(nl cl:Bool)(ls:List Lin),ls.length<=big->∀(nl' cl':Bool)(vars:List Str),vars.length<=big->Ret pg 80 [.sl nl (ls.map Lin.av) cl,.sl nl' (vars.map Str.av) cl'] (.bool (cU ls vars)))
  (k:aA):Ret pg 49 [k.av] (.bool (bO k)):=by
 have hb:=k.vars.ok;have hbl:=k.values.ok;have hov:=h80 k.wher.nl k.wher.cl k.wher.es k.wher.ok k.vars.nl k.vars.cl k.vars.es k.vars.ok;refine Ret.ofX hf ?_;unfold aBh;refine Wk ?_;refine aK k.vars.es (λd r env hp=>hp.get 1=some (0,.blk k.cells 6 true true false)/\env=R8 (.pt 1 0 0) (.int .i64 d.length)/\mL [] k.vars.es=mL d r) ?_ ?_ ?_;exact⟨rfl,rfl,rfl⟩;rintro env hp ⟨g1,rfl,hI⟩;have g1':=g1;simp only[aA.cells,Sl.av]at g1;simp only[mL]at hI;simp only[R7,R8,g1,bA,go_sem,seval];refine aK k.values.es (λd r env hp=>hp.get 1=some (0,.blk k.cells 6 true true false)/\env=J6 (.pt 1 0 0) (.int .i64 d.length)/\(k.values.es.all λt=>gB t k.vars.es)=r.all λt=>gB t k.vars.es) ?_ ?_ ?_;exact⟨g1',rfl,rfl⟩;clear g1 g1' hp;rintro env hp ⟨g1,rfl,hJ⟩;simp only[aA.cells,Sl.av]at g1;have hJ':(k.values.es.all λt=>gB t k.vars.es)=true:=by rw[hJ];rfl
 have hs:bO k=(decide ((k.vars.es.length:Int)<=12)&&(cU k.wher.es k.vars.es&&(decide (0<=k.inputs)&&(decide (k.inputs<=8)&&(decide (k.inputs<=k.values.es.length)&&(decide ((k.values.es.length:Int)<=k.inputs+400)&&decide ((k.list.es.length:Int)<=400))))))):=by simp only[bO,hI,hJ'];simp[Bool.and_assoc]
 rw[hs];clear hs;cases b1:decide ((k.vars.es.length:Int)<=12);simp only[J5,J6,g1,bA,b1,go_sem,seval];simp only[J5,J6,g1,bA,b1,go_sem,seval];refine aB hov ?_;cases b2:cU k.wher.es k.vars.es;simp only[go_sem,seval];cases b3:decide (0<=k.inputs);simp only[g1,b3,go_sem,seval];cases b4:decide (k.inputs<=8);simp only[g1,b3,b4,go_sem,seval];have hw:wr .i64 (k.inputs+400)=k.inputs+400:=by have:=aM b3;have:=aM b4;exact aO (by omega) (by omega)
 cases b5:decide (k.inputs<=(k.values.es.length:Int));simp only[g1,b3,b4,b5,go_sem,seval];cases b6:decide ((k.values.es.length:Int)<=k.inputs+400);simp only[g1,b3,b4,b5,hw,b6,go_sem,seval];simp only[g1,b3,b4,b5,hw,b6,go_sem,seval];clear g1 g1' hp;rintro d t r env hp hes ⟨g1,rfl,hJ⟩;have g1':=g1;simp only[aA.cells,Sl.av]at g1;obtain⟨hget,e1,e2,ew⟩:=cX hes hbl;simp only[List.all_cons]at hJ;have hfalse:gB t k.vars.es=false->bO k=false:=by intro h;simp only[bO,hJ,h];simp
 rw[zA]at hfalse;have a1:=h79 t;rw[Typ.avc]at a1;have a2:=h80 t.shape.dims.nl t.shape.dims.cl t.shape.dims.es t.shape.dims.ok k.vars.nl k.vars.cl k.vars.es k.vars.ok;simp only[J5,J6,g1,hget,e1,e2,go_sem,seval];refine aB a1 ?_;cases c1:sS t;refine Wk ?_;rw[hfalse (by rw[c1];rfl)];cases c2:decide (t.shape.row.bs=[]);simp only[c2,go_sem,seval];rw[hfalse (by rw[c1,c2];rfl)];cases c3:decide (t.elem.bs=[105,110,116]);cases c4:decide (t.elem.bs=[98,111,111,108]);simp only[c2,c3,c4,go_sem,seval];rw[hfalse (by rw[c1,c2,c3,c4];rfl)];simp only[c2,c3,c4,g1,go_sem,seval];refine aB a2 ?_;cases c5:cU t.shape.dims.es k.vars.es;refine Wk ?_;rw[hfalse (by rw[c1,c2,c3,c4,c5];rfl)];simp only[ew,go_sem,seval];refine⟨?_,rfl,?_⟩;simp only[g1',go_sem,seval];rw[hJ,zA,c1,c2,c3,c4,c5];rfl;simp only[c2,c3,g1,go_sem,seval];refine aB a2 ?_;cases c5:cU t.shape.dims.es k.vars.es;refine Wk ?_;rw[hfalse (by rw[c1,c2,c3,c5];simp)];simp only[ew,go_sem,seval];refine⟨?_,rfl,?_⟩;simp only[g1',go_sem,seval];rw[hJ,zA,c1,c2,c3,c5];simp;rintro d x r env hp hes ⟨g1,rfl,hI⟩;have g1':=g1;simp only[aA.cells,Sl.av]at g1;obtain⟨hget,e1,e2,ew⟩:=cX hes hb;rw[PJ]at hI;have hfalse:mL [] k.vars.es=false->bO k=false:=by intro h;simp only[bO,h];simp
 have a1:=h77 x;have a2:=c78 h78 x.bs x.ok;simp only[R7,R8,g1,hget,e1,e2,go_sem,seval];refine aB a1 ?_;cases c1:gR x.bs;refine Wk ?_;refine aQ ?_;rw[hfalse (by rw[hI,c1];rfl)];simp only[g1,hget,e1,e2,go_sem,seval];refine aB a2 ?_;cases c2:BZ x.bs
 case true=>refine Wk ?_;refine aQ ?_;rw[hfalse (by rw[hI,c1,c2];rfl)]
 rcases mK d with hd|⟨d',q,hd⟩
 have e3:decide (0<(d.length:Int))=false:=by simp[hd]
 simp only[e3,ew,go_sem,seval];refine⟨by kernel_rfl,g1',rfl,?_⟩;rw[hI,c1,c2,hd];simp;have hd':d=d'++[q]:=by simpa using hd
 have e3:decide (0<(d.length:Int))=true:=by simp[hd']
 have e4:wr .i64 ((d.length:Int)-1)=(d'.length:Int):=by
  have:d.length<=k.vars.es.length:=by rw[hes];simp
  simp only[big]at hb;rw[aO (by omega) (by omega),hd',bX,List.length_singleton];omega
 have e5:k.vars.es[d'.length]?=some q:=by rw[hes,hd'];simp
 have e6:((d'.length:Int)<(k.vars.es.length:Int))=True:=eq_true (by rw[hes,hd'];simp;omega);have hlast:d.getLast?=some q:=by rw[hd'];simp
 have htot:=sX x.bs q.bs;rw[hlast]at hI;dsimp only at hI;cases hl:Op.bytesLess q.bs x.bs;rw[hl]at htot;simp only[e3,e4,e5,e6,g1,hget,htot,go_sem,seval];refine aQ ?_;rw[hfalse (by rw[hI,c1,c2,hl];rfl)];rw[hl]at htot;simp only[e3,e4,e5,e6,g1,hget,htot,ew,go_sem,seval];refine⟨by kernel_rfl,rfl,rfl,?_⟩;rw[hI,c1,c2,hl];rfl
end
end
section
theorem lP{h:Hp}{d:Nat}{a b c e e':AV}{keys:List Nat}(ha:a.tree=true)(hb:b.tree=true)(hc:c.tree=true)(he:Tev.snap (d+1) h e=some (e',keys)):dA (Tev.snap (d+1) h) [a,b,c,e]=some ([a,b,c,e'],keys):=by simp[bD,cF,oC ha,oC hb,oC hc,he]
def bG(k:aA):List AV:=
 [.sl k.vars.nl (k.vars.es.map Str.av) k.vars.cl,.sl k.wher.nl (k.wher.es.map Lin.av) k.wher.cl,.int .i64 k.inputs,.sl k.values.nl (k.values.es.map Typ.av) k.values.cl,.sl k.list.nl (k.list.es.map aH.av) k.list.cl,.sl k.results.nl (k.results.es.map aJ) k.results.cl]
def YT(p:aC):List AV:=
 [.str p.op.bs,.int .i64 p.num,.int .i64 p.value,.str p.name.bs,.sl p.at_.nl (p.at_.es.map Lin.av) p.at_.cl,.bool p.dyn,.int .i64 p.check,.sl p.fn.nl (p.fn.es.map aL.av) p.fn.cl,.sl p.knl (p.kids.map aC.av) p.kcl]
section
variable{pg:Pg}
set_option maxHeartbeats 1000000 in
theorem c86(hf:pg.fs 86=some aAK)(h122:∀i:Nat,i<10->Ret pg 122 [.int .i64 i] (.str (t8 i)))
  (h123:∀p:aC,p.ok->∀(nl cl:Bool)(vars:List Str),vars.length+p.sz<=big->∀v:Int,Ret pg 123 [p.av,.sl nl (vars.map Str.av) cl,.int .i64 v] (.bool (iK p vars v)))
  (h37:∀p:aC,p.ok->p.sz<=big->bE pg 37 [p.av] (nP 1 false ((bM p).map aJ)))
  (k:aA) (p:aC) (hpo:p.ok) (n:Nat) (hn:n<=9) (hsz:k.vars.es.length+n+p.sz<=big) (nl cl:Bool) (there:List Bool) (hth:there.length=k.values.es.length) :
  Ret pg 86 [p.av,k.av,.int .i64 n,.sl nl (there.map AV.bool) cl] (.bool (cJ k p n there)):=by
 refine Ret.ofX hf ?_;unfold aAK;simp only[aA.av,aA.cells,go_sem,seval];refine eF (kb:=0) (s:=9) (Own.nil _ _ _ _ _ _ rfl) (by simp) (El.strs k.vars.es) (by simp only[List.length_nil,aI];simp only[big]at hsz;omega) (by decide) ?_;intro v0 rd pa ho0 hk0 _;have g1:=hk0 1 (by omega);have g5:=hk0 5 (by omega);simp only[go_sem,seval]at g1 g5;generalize hH:Eff.app _ (Eff.pat rd pa)=H at ho0 g1 g5 ⊢;clear hH hk0;refine Wk ?_
 refine aK (List.range n) (λd r env hp=>∃v kk,env=RE (.int .i64 n) (.sl nl (there.map AV.bool) cl) (.pt 1 0 0) (.pt 5 0 0) v (.int .i64 d.length)/\(kk=9\/kk=17)/\Own hp kk 1 false v ((k.vars.es++d.map xU).map Str.av) /\
  hp.get 1=some (0,.blk (YT p) 9 true true false)/\hp.get 5=some (0,.blk (bG k) 6 true true false)) ?_ ?_ ?_
 exact⟨v0,9,rfl,.inl rfl,by simpa using ho0,g1,g5⟩;rintro env hp ⟨v,kk,rfl,hkk,ho,q1,q5⟩;have hr:(List.range n).length=n:=List.length_range;rw[hr];simp only[YT]at q1;simp only[bG]at q5;have ho':Own hp kk 1 false v ((fH k.vars.es n).map Str.av):=ho;obtain⟨nl8,cl8,keys,hsn,hnl8⟩:=ho'.snap (El.strs _) 62;have h2:=h123 p hpo nl8 cl8 (fH k.vars.es n) (by simp[fH];omega) k.values.es.length;rw[aC.avc]at h2;have h3:=h37 p hpo (by omega);rw[aC.avc]at h3;simp only[RD,RE,q1,q5,bA,go_sem,seval];refine cK h2 (sB (by simp only[go_sem,seval]) hsn (by simp only[go_sem,seval])) (v:=.bool (iK p (fH k.vars.es n) k.values.es.length)) (pa:=[]) rfl ?_;cases hv:iK p (fH k.vars.es n) k.values.es.length;refine Wk ?_;simp only[cJ,hv];rfl;have hspec:cJ k p n there=(bM p).all (λv=>bK there v):=by simp only[cJ,hv];rfl
 rw[hspec];simp only[q1,go_sem,seval];refine lQ h3 (by simp only[go_sem,seval]) ?_;intro nl9 cl9 hnl9;refine Wk ?_;have hrl:(bM p).length<=big:=by have e3:=jX p;omega
 have hin:∀a∈bM p,0<=a/\a<(there.length:Int):=by intro a ha;rw[jY]at ha;rw[hth];simp only[iK,aG]at hv;exact pN _ p (fH k.vars.es n) hv.2 a ha
 generalize bM p=L at hrl hin ⊢;refine aK L (λd r env hp=>env=JE (.sl nl (there.map AV.bool) cl) (.sl nl9 (L.map aJ) cl9) (.int .i64 d.length)/\L.all (λv=>bK there v)=r.all (λv=>bK there v)) ?_ ?_ ?_;exact⟨rfl,rfl⟩;rintro env hp ⟨rfl,hI⟩;simp only[JD,JE,bA,go_sem,seval];rw[hI];rfl;rintro d a r env hp hes ⟨rfl,hI⟩;obtain⟨hget,e1,e2,ew⟩:=cX hes hrl;obtain⟨z1,z2⟩:=hin a (by rw[hes];simp);have z1':(0<=a)=True:=eq_true z1;have hla:there[a.toNat]?=some (there[a.toNat]'(by omega)):=aX (by omega);have hta:bK there a=there[a.toNat]'(by omega):=by simp[bK,hla]
 generalize there[a.toNat]'(by omega)=b at hla hta;rw[hI];cases b;simp only[JD,JE,e1,e2,hget,z1',hla,go_sem,seval];simp[hta];simp only[JD,JE,e1,e2,hget,z1',hla,ew,go_sem,seval];refine⟨rfl,?_⟩;simp[hta];rintro d x r env hp hes ⟨v,kk,rfl,hkk,ho,q1,q5⟩;obtain⟨hx,hlt⟩:=gT hes;have hb2:(d++x::r).length<=big:=by rw[<-hes];simp[big];omega
 have e1:decide ((d.length:Int)<(n:Int))=true:=by simp;omega
 simp only[RD,RE,e1,go_sem,seval];refine aB (h122 d.length (by omega)) (Wk ?_);refine sR (kb:=0) (s:=17) (k1:=kk) (ho.mono ?_) (El.strs _) (xs:=[.str (t8 d.length)]) (by intro y hy;simp at hy;subst hy;exact El.str _) (by simp) ?_ (by omega) ?_;simp only[go_sem,seval];simp only[aI,bX,List.length_cons,List.length_nil];simp only[big]at hsz;omega;intro v' rd' pa' ho2 hk2;simp only[aW hb2,go_sem,seval];refine⟨v',17,rfl,.inr rfl,?_,?_,?_⟩;rw[hx];simpa[Str.av,xU] using ho2;rw[hk2 1 (by omega) (by omega)];exact q1;rw[hk2 5 (by omega) (by omega)];exact q5
end
end
end Go.Tev
