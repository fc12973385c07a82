import Derived.Test.YtmcadllokkmeiaaGreatDoorBBD
import Derived.Test.YtmcadllokkmeiaaGreatDoorBBC
import Derived.Test.YtmcadllokkmeiaaGreatDoorBAY
set_option linter.all false
namespace Go.Tev
section
def fC(x:Val)(y:Str):Bool:=decide (x.v.bs=y.bs)&&(!decide (x.n<0) && !decide (4096<x.n))
def gH(g:Typ->Bool):List Sp->List Typ->Bool
 | s::r,t::q=>(decide (s.1 = -2)||g t)&&gH g r q
 |_,_=>true
def cL(k:aA)(ds:List Val):Int:=
 if (cY k).2=0 then
  (if eqL fC ds k.vars.es then
   (if k.aSk.es.all (λl=>decide (0<=(cP ds l).1)) then
    (if gH (λt=>(gY ds t).2) (aD k) k.aSe.es then 0 else 3)
   else 2)
  else 1)
 else 22
def fA(ds:List Val)(t:Typ):Int:=(gY ds t).1
def iL(k:aA)(ds:List Val):AV:=
 if cL k ds=0 then .tup [.sl false ((eI (fA ds) (aD k) k.aSe.es).map aH) true,.int .i64 0] else .tup [.sl true [] true,.int .i64 (cL k ds)]
theorem EP:∀(ds:List Val)(vars:List Str)(s:List UInt8),eqL fC ds vars=true->mD vars s=true->∃v,qA ds s=some v/\0<=v.n/\v.n<=4096
 |[],[],s,_,h=>by simp[mD]at h
 |[],_::_,s,h,_=>by simp[eqL]at h
 |_::_,[],s,h,_=>by simp[eqL]at h
 |x::r,y::q,s,h,hs=>by
  simp only[eqL,aF]at h;obtain⟨h1,h2⟩:=h;simp only[fC,aF,aR,eA,eJ]at h1;by_cases he:x.v.bs=s;exact⟨x,by simp[qA,he],by omega,by omega⟩;have hq:mD q s=true:=by simp only[mD,List.any_cons,Bool.or_eq_true,aR]at hs;rcases hs with h|h;exact absurd (h1.1.trans h.symm) he;simpa[mD] using h
  obtain⟨v,q1,q2⟩:=EP r q s h2 hq;exact⟨v,by simpa[qA,he] using q1,q2⟩
theorem QP(ds:List Val)(vars:List Str)(h:eqL fC ds vars=true):∀(ts:List dQ)(n:Int),(ts.all λx=>mD vars x.v.bs)=true->(mL ds n ts).2=0
 |[],n,_=>rfl
 |c::r,n,ht=>by
  simp only[fV,aF]at ht;obtain⟨v,q1,q2,q3⟩:=EP ds vars c.v.bs h ht.1;have b1:decide (v.n < -1000000000)=false:=by simp;omega
  have b2:decide (1000000000<v.n)=false:=by simp;omega
  simp only[mL,q1,b1,b2,Bool.or_false,bR,aL];exact QP ds vars h r _ ht.2
theorem QQ{ds:List Val}{vars:List Str}(h:eqL fC ds vars=true){ls:List Lin}(ho:d4 ls vars=true):∀l∈ls,(cP ds l).2=0:=by intro l hl;simp only[d4,eT,aF]at ho;obtain⟨h1,h2⟩:=ho l hl;simp only[cP,h1,aN];exact QP ds vars h _ _ (by rw[eT];exact h2)
def XP(n:Int)(L:List Int):Int:=L.foldl (λn a=>XQ a n) n
def zS(n:Int)(L:List Int):Int:=L.foldl (λn a=>wr .i64 (n*a)) n
def oX(n a:Int):Int:=if 1099511627776<wr .i64 (n*a) then 1099511627776 else wr .i64 (n*a)
theorem aEr{a n:Int}(h:0<=a):XQ a n=oX n a:=by
 have:¬a<0:=by omega
 simp only[XQ,oX,this,aL]
theorem SK:∀(L:List Int)(n:Int),(∀a∈L,0<=a)->XP n L=L.foldl oX n
 |[],n,_=>rfl
 |a::r,n,h=>by simp only[XP,List.foldl_cons];rw[aEr (h a (by simp))];exact SK r _ (λx hx=>h x (dY _ hx))
theorem aBY{n a:Int}(h0:0<=n)(h1:n<=1099511627776)(h2:0<=a)(h3:a<=4096):0<=n*a/\n*a<=4503599627370496:=by refine⟨Int.mul_nonneg h0 h2,?_⟩;exact Int.le_trans (Int.mul_le_mul h1 h3 h2 (by omega)) (by decide)
theorem FT:∀L:List Int,zS 0 L=0
 |[]=>rfl
 |a::r=>by simp only[zS,List.foldl_cons,Int.zero_mul];exact FT r
theorem KM:∀L:List Int,L.foldl oX 0=0
 |[]=>rfl
 |a::r=>by simp only[List.foldl_cons,oX,Int.zero_mul];exact KM r
theorem B2:∀(L:List Int)(n m:Int),(0:Int)∈L->zS m L=0/\L.foldl oX n=0
 |[],n,m,h=>by simp at h
 |a::r,n,m,h=>by
  by_cases ha:a=0;subst ha;simp only[zS,List.foldl_cons,oX,Int.mul_zero];exact⟨FT r,KM r⟩;have:(0:Int)∈r:=by rcases dA.1 h with h|h;exact absurd h.symm ha;exact h
  simp only[zS,List.foldl_cons];exact B2 r _ _ this
theorem LP:∀(L:List Int)(n:Int),0<=n->n<=1099511627776->(∀a∈L,1<=a/\a<=4096)->n<=L.foldl oX n/\L.foldl oX n<=1099511627776
 |[],n,_,h,_=>⟨Int.le_refl _,h⟩
 |a::r,n,h0,h1,h=>by
  obtain⟨a1,a2⟩:=h a (by simp);obtain⟨m1,m2⟩:=aBY h0 h1 (by omega:0<=a) a2;have hm:n<=n*a:=by have:=Int.mul_le_mul_of_nonneg_left a1 h0;omega
  have hw:wr .i64 (n*a)=n*a:=aU (by omega) (by omega);simp only[List.foldl_cons];have hc:n<=oX n a/\oX n a<=1099511627776/\0<=oX n a:=by simp only[oX,hw];split<;>omega
  obtain⟨q1,q2⟩:=LP r (oX n a) hc.2.2 hc.2.1 (λx hx=>h x (dY _ hx));exact⟨by omega,q2⟩
theorem YW:∀(L:List Int)(n:Int),0<=n->n<=1099511627776->(∀a∈L,1<=a/\a<=4096)->L.foldl oX n<=4096->zS n L=L.foldl oX n
 |[],n,_,_,_,_=>rfl
 |a::r,n,h0,h1,h,hle=>by
  obtain⟨a1,a2⟩:=h a (by simp);obtain⟨m1,m2⟩:=aBY h0 h1 (by omega:0<=a) a2;have hw:wr .i64 (n*a)=n*a:=aU (by omega) (by omega);have hr:∀x∈r,1<=x/\x<=4096:=λx hx=>h x (dY _ hx);simp only[zS,List.foldl_cons]at hle ⊢;by_cases hb:1099511627776<n*a;have:oX n a=1099511627776:=by simp only[oX,hw,hb,aN]
  rw[this]at hle;have:=(LP r 1099511627776 (by decide) (Int.le_refl _) hr).1;omega;have hm:oX n a=n*a:=by simp only[oX,hw,hb,aL]
  rw[hm]at hle ⊢;rw[hw];exact YW r (n*a) m1 (by omega) hr hle
theorem aBI{L:List Int}(h:∀a∈L,0<=a/\a<=4096)(hle:L.foldl oX 1<=4096):zS 1 L=L.foldl oX 1:=by by_cases h0:(0:Int)∈L;obtain⟨a,b⟩:=B2 L 1 1 h0;rw[a,b];refine YW L 1 (by decide) (by decide) (λa ha=>?_) hle;have:=h a ha;have:a≠0:=λe=>h0 (e ▸ ha);omega
def lX(ds:List Val)(l:Lin):Bool:=decide ((cP ds l).2=0)&&(decide (0<=(cP ds l).1)&&decide ((cP ds l).1<=4096))
def tC(ds:List Val)(t:Typ):List Int:=t.aSh.aSi.es.map λl=>(cP ds l).1
def lT(ds:List Val)(t:Typ):Bool:=t.aSh.aSi.es.all (lX ds)&&decide ((tC ds t).foldl oX 1<=4096)
theorem FH(ds:List Val):∀(ls:List Lin)(n:Int)(b:Bool),qF ds n b ls=(XP n (ls.map λl=>(cP ds l).1),b&&ls.all λl=>decide (0<=(cP ds l).1)&&decide ((cP ds l).1<=4096))
 |[],n,b=>by simp[qF,XP]
 |l::r,n,b=>by simp only[qF,FH ds r,XP,List.map_cons,List.foldl_cons,fV,Bool.and_assoc]
theorem PC{ds:List Val}{vars:List Str}(h:eqL fC ds vars=true){t:Typ}(ho:d4 t.aSh.aSi.es vars=true) :
  lT ds t=(gY ds t).2/\((gY ds t).2=true->zS 1 (tC ds t)=fA ds t/\0<=fA ds t/\fA ds t<=4096):=by
 have hev:=QQ h ho
 have h1:t.aSh.aSi.es.all (lX ds)=t.aSh.aSi.es.all λl=>decide (0<=(cP ds l).1)&&decide ((cP ds l).1<=4096):=by rw[Bool.eq_iff_iff,eT,eT];constructor;intro g l hl;have:=g l hl;simp only[lX,aF]at this ⊢;exact this.2;intro g l hl;have:=g l hl;simp only[lX,hev l hl,decide_true,cE];exact this
 have h2:(gY ds t).2=(t.aSh.aSi.es.all (λl=>decide (0<=(cP ds l).1)&&decide ((cP ds l).1<=4096))&&decide (XP 1 (tC ds t)<=4096)):=by simp only[gY,FH,cE];rfl
 have h3:fA ds t=XP 1 (tC ds t):=by simp only[fA,gY,FH];rfl
 rw[lT,h1,h2];cases ha:t.aSh.aSi.es.all (λl=>decide (0<=(cP ds l).1)&&decide ((cP ds l).1<=4096));exact⟨rfl,λh=>by simp at h⟩;have hin:∀a∈tC ds t,0<=a/\a<=4096:=by intro a hm;simp only[tC,List.mem_map]at hm;obtain⟨l,hl,rfl⟩:=hm;rw[eT]at ha;have:=ha l hl;simp only[aF,aR]at this;exact this
 have hcm:=SK (tC ds t) 1 (λa ha=>(hin a ha).1);rw[hcm]at h3 ⊢;refine⟨rfl,λhle=>?_⟩;simp only[cE,aR]at hle;refine⟨by rw[h3];exact aBI hin hle,?_,by rw[h3];exact hle⟩;rw[h3];by_cases h0:(0:Int)∈tC ds t;rw[(B2 _ 1 1 h0).2];decide
 have:=(LP (tC ds t) 1 (by decide) (by decide) (λa ha=>by
  have:=hin a ha;have:a≠0:=λe=>h0 (e ▸ ha);omega)).1
 omega
theorem BZ{k:aA}(ok:gT k):d4 k.aSk.es k.vars.es=true/\∀t∈k.aSe.es,d4 t.aSh.aSi.es k.vars.es=true:=by have hso:=ok.out;simp only[bJ,aF,aR]at hso;obtain⟨_,⟨⟨⟨⟨⟨⟨_,hw⟩,_⟩,_⟩,_⟩,_⟩,_⟩,hty⟩:=hso;refine⟨hw,λt ht=>?_⟩;rw[eT]at hty;have:=hty t ht;simp only[hY,aF]at this;exact this.2
end
section
theorem PA{k:aA}{ds:List Val}(h:¬(cY k).2=0):iL k ds = .tup [.sl true [] true,.int .i64 22]:=by
 have:cL k ds=22:=by rw[cL,if_neg h]
 rw[iL,this];rfl
theorem rC{k:aA}{ds:List Val}(h:(cY k).2=0)(h1:eqL fC ds k.vars.es=false):iL k ds = .tup [.sl true [] true,.int .i64 1]:=by
 have:cL k ds=1:=by rw[cL,if_pos h,h1];rfl
 rw[iL,this];rfl
theorem O9{k:aA}{ds:List Val}(h:(cY k).2=0)(h1:eqL fC ds k.vars.es=true)(h2:k.aSk.es.all (λl=>decide (0<=(cP ds l).1))=false):iL k ds = .tup [.sl true [] true,.int .i64 2]:=by
 have:cL k ds=2:=by rw[cL,if_pos h,h1,h2];rfl
 rw[iL,this];rfl
theorem HS{k:aA}{ds:List Val}(h:(cY k).2=0)(h1:eqL fC ds k.vars.es=true)(h2:k.aSk.es.all (λl=>decide (0<=(cP ds l).1))=true)(h3:gH (λt=>(gY ds t).2) (aD k) k.aSe.es=false):iL k ds = .tup [.sl true [] true,.int .i64 3]:=by
 have:cL k ds=3:=by rw[cL,if_pos h,h1,h2,h3];rfl
 rw[iL,this];rfl
theorem Q0{k:aA}{ds:List Val}(h:(cY k).2=0)(h1:eqL fC ds k.vars.es=true)(h2:k.aSk.es.all (λl=>decide (0<=(cP ds l).1))=true)(h3:gH (λt=>(gY ds t).2) (aD k) k.aSe.es=true):cL k ds=0:=by rw[cL,if_pos h,h1,h2,h3];rfl
theorem TE{k:aA}{ds:List Val}(h:(cY k).2=0)(h1:eqL fC ds k.vars.es=true)(h2:k.aSk.es.all (λl=>decide (0<=(cP ds l).1))=true)(h3:gH (λt=>(gY ds t).2) (aD k) k.aSe.es=true) :
  iL k ds = .tup [.sl false ((eI (fA ds) (aD k) k.aSe.es).map aH) true,.int .i64 0]:=by
 rw[iL,if_pos (Q0 h h1 h2 h3)]
def rN(ds:List Val)(t:Typ)(r:AV):Prop:=if lT ds t then ∃nl cl,r = .tup [.sl nl ((tC ds t).map aH) cl,.int .i64 0] else r = .tup [.sl true [] true,.int .i64 3]
theorem AH{ds:List Val}{t:Typ}(h:lT ds t=false):rN ds t (.tup [.sl true [] true,.int .i64 3]):=by rw[rN,h];rfl
theorem aFK{ds:List Val}{t:Typ}{r:AV}(h:lT ds t=true)(hr:∃nl cl,r = .tup [.sl nl ((tC ds t).map aH) cl,.int .i64 0]):rN ds t r:=by rw[rN,h];exact hr
section
variable{pg:Pg}
theorem aRo(hf:pg.fs 16=some aEi)(k:aA)(h9:bQ pg 9 [k.av] (lI k))(nl cl:Bool)(ds:List Val)(hb:ds.length<=big)
  (h32:∀l:Lin,Ret pg 32 [l.av,.sl nl (ds.map Val.av) cl] (.tup [.int .i64 (cP ds l).1,.int .i64 (cP ds l).2])) (h33:∀t:Typ,Ret pg 33 [t.av,.sl nl (ds.map Val.av) cl] (.tup [.int .i64 (fA ds t),.bool (gY ds t).2])) :
  Ret pg 16 [k.av,.sl nl (ds.map Val.av) cl] (iL k ds):=by
 obtain⟨r9,hr9,hs9⟩:=h9;refine Ret.ofX hf ?_;unfold aEi;simp only[aA.av,aA.cells,go_sem,seval];rcases lD (k:=k) with hc|hc;have ok:=cA hc;have hso:=ok.out;simp only[bJ,aF,aR]at hso;obtain⟨_,⟨⟨⟨⟨⟨⟨_,_⟩,hi0⟩,_⟩,hiV⟩,_⟩,_⟩,_⟩:=hso;have hsl:=jZ (k:=k) (by omega);have hVb:=k.aSe.ok;have htr:treeL ((aD k).map bO)=true:=cH (f:=bO) (λs=>by simp[bO,go_sem]) _;rw[lI,if_pos hc]at hs9;subst hs9;refine bZ hr9 (by simp only[aA.av,aA.cells,go_sem,seval]) (by first|rfl|(simp[AV.tree,htr])) (Wk ?_);cases hl:decide ((ds.length:Int)=k.vars.es.length)
 case false=>simp only[hl,go_sem,seval];rw[rC hc (B5 hl)]
 case true=>
  have hlv:ds.length=k.vars.es.length:=by have:=aO hl;omega
  simp only[hl,go_sem,seval]
  refine aJ ds (λd r env hp=>env=XF (.sl nl (ds.map Val.av) cl) (.pt 1 0 0) (.sl false ((aD k).map bO) false) (.sl nl (ds.map Val.av) cl) (.int .i64 ds.length) (.int .i64 d.length) /\
   hp.get 1=some (0,.blk k.cells 6 true true false)/\eqL fC ds k.vars.es=eqL fC r (k.vars.es.drop d.length)) ?_ ?_ ?_
  refine⟨rfl,?_,rfl⟩;refine Wk ?_;rfl;rintro env hp ⟨rfl,g1,hD⟩;have hD':eqL fC ds k.vars.es=true:=by rw[hD,pY hlv]
  have g1':=g1;simp only[aA.cells,Sl.av]at g1;simp only[XB,XF,g1,go_sem,seval]
  refine aJ k.aSk.es (λd r env hp=>env=XE (.sl nl (ds.map Val.av) cl) (.pt 1 0 0) (.sl false ((aD k).map bO) false) (.sl k.aSk.nl (k.aSk.es.map Lin.av) k.aSk.cl) (.int .i64 k.aSk.es.length) (.int .i64 d.length) /\
   hp.get 1=some (0,.blk k.cells 6 true true false)/\k.aSk.es.all (λl=>decide (0<=(cP ds l).1))=r.all (λl=>decide (0<=(cP ds l).1))) ?_ ?_ ?_
  exact⟨rfl,g1',rfl⟩;clear g1 g1' hp;rintro env hp ⟨rfl,g1,hW⟩;have hW':k.aSk.es.all (λl=>decide (0<=(cP ds l).1))=true:=by rw[hW];rfl
  have g1':=g1;simp only[aA.cells,Sl.av]at g1;simp only[XA,XE,g1,go_sem,seval];have hV30:((k.aSe.es.length:Int)<=1073741824)=True:=aK (by simp only[big]at hVb;omega);generalize hE:hp.next 21=E;simp only[hV30,go_sem,seval]
  refine aJ (aD k) (λd r env hp=>env=XD (.sl nl (ds.map Val.av) cl) (.pt 1 0 0) (.rf 21 E 0 k.aSe.es.length k.aSe.es.length) (.sl false ((aD k).map bO) false) (.int .i64 (aD k).length) (.int .i64 d.length) /\
   hp.get 1=some (0,.blk k.cells 6 true true false)/\hp.get 21=some (E,.blk ((vU (fA ds) d k.aSe.es).map aH) 1 false true false)/\gH (λt=>(gY ds t).2) (aD k) k.aSe.es=gH (λt=>(gY ds t).2) r (k.aSe.es.drop d.length)) ?_ ?_ ?_
  refine⟨rfl,?_,?_,rfl⟩;refine Wk ?_;exact g1';refine Wk ?_;simp[vU,eI,aH,hE];clear g1 g1' hE hp;rintro env hp ⟨rfl,g1,g2,hS⟩;have hS':gH (λt=>(gY ds t).2) (aD k) k.aSe.es=true:=by rw[hS];rfl
  have hpl:vU (fA ds) (aD k) k.aSe.es=eI (fA ds) (aD k) k.aSe.es:=by simp[vU,hsl]
  rw[hpl]at g2;have hsn:=aBp g2 61;rw[nU (fA ds) _ _ (by omega),hsl]at hsn;simp only[W9,XD,go_sem,seval];simp only[Tev.conv,depth,fE,cW,bM,↓hsn,go_sem];rw[TE hc hD' hW' hS'];clear g1 g1' hE hp;rintro d x r env hp hes ⟨rfl,g1,g2,hS⟩;have hlt:d.length<k.aSe.es.length:=by rw[<-hsl,hes];simp
  obtain⟨t,ht⟩:∃t,k.aSe.es[d.length]?=some t:=⟨_,aW hlt⟩
  have hget:(aD k)[d.length]?=some x:=by rw[hes];simp
  have hSx:gH (λt=>(gY ds t).2) (aD k) k.aSe.es=((decide (x.1 = -2)||(gY ds t).2)&&gH (λt=>(gY ds t).2) r (k.aSe.es.drop (d++[x]).length)):=by rw[hS,i8 hlt,gH];rw[aW hlt]at ht;cases ht;simp
  have hvl:((d.length:Int)<(k.aSe.es.length:Int))=True:=aK (by omega);have hsl2:((d.length:Int)<((aD k).length:Int))=True:=aK (by omega);have hsl3:decide ((d.length:Int)<((aD k).length:Int))=true:=by simp;omega
  have g1':=g1;simp only[aA.cells,Sl.av]at g1;have hsb:(d++x::r).length<=big:=by rw[<-hes,hsl];exact hVb
  simp only[W9,XD,g1,hget,hsl2,hsl3,bO,go_sem,seval];cases b1:decide (x.1 = -2)
  case true=>simp only[b1,aZ hsb,go_sem,seval];refine⟨rfl,g1',?_,by rw[hSx,b1];rfl⟩;rw[Z5 (fA ds) x d k.aSe.es t ht (aO b1)];exact g2
  simp only[b1,ht,hvl,g1,go_sem,seval];refine aB (h33 t) (Wk ?_);cases b2:(gY ds t).2
  case false=>refine Wk ?_;rw[HS hc hD' hW' (by rw[hSx,b1,b2];rfl)]
  have b1':¬x.1 = -2:=bW b1;have hpl:=aBM (fA ds) d k.aSe.es (by omega);have hle:(0+d.length*1+1<=(vU (fA ds) d k.aSe.es).length)=True:=aK (by rw[hpl];omega);have hst:List.take (0+d.length*1) ((vU (fA ds) d k.aSe.es).map aH)++[.int .i64 (fA ds t)]++List.drop (0+d.length*1+1) ((vU (fA ds) d k.aSe.es).map aH)=(vU (fA ds) (d++[x]) k.aSe.es).map aH:=by rw[aBL (fA ds) x d k.aSe.es t ht b1',bF,Nat.mul_one]
  simp only[b2,aZ hsb,g2,hvl,hle,hst,go_sem,seval];exact⟨rfl,g1',by rw[hSx,b1,b2];rfl⟩;clear g1 g1' hp;rintro d x r env hp hes ⟨rfl,g1,hW⟩;have hwb:=k.aSk.ok;obtain⟨hget,x1,x2,xw⟩:=dJ hes hwb;have hr32:=h32 x;simp only[XA,XE,hget,x1,x2,go_sem,seval];refine aB hr32 (Wk ?_);cases b1:decide ((cP ds x).1<0)
  case true=>
   have b1':decide (0<=(cP ds x).1)=false:=by simp at b1 ⊢;omega
   simp only[b1,go_sem,seval];rw[O9 hc hD' (by rw[hW,fV,b1'];rfl)]
  have b1':decide (0<=(cP ds x).1)=true:=by simp at b1 ⊢;omega
  simp only[b1,xw,go_sem,seval];exact⟨rfl,g1,by rw[hW,fV,b1'];rfl⟩;rintro d x r env hp hes ⟨rfl,g1,hD⟩;obtain⟨hget,x1,x2,xw⟩:=dJ hes hb;obtain⟨y,hy,_,hvl,hq⟩:=I3 (q:=fC) hes hlv;rw[hq]at hD;have g1':=g1;simp only[aA.cells,Sl.av]at g1;simp only[XB,XF,g1,hy,hvl,hget,x1,x2,go_sem,seval];cases b1:decide (x.v.bs=y.bs)
  case false=>simp only[b1,go_sem,seval];exact⟨by kernel_rfl,by rw[rC hc (by rw[hD,fC,b1];rfl)]⟩
  cases b2:decide (x.n<0)
  case true=>simp only[b1,b2,go_sem,seval];exact⟨by kernel_rfl,by rw[rC hc (by rw[hD,fC,b1,b2];rfl)]⟩
  cases b3:decide (4096<x.n)
  case true=>simp only[b1,b2,b3,go_sem,seval];exact⟨by kernel_rfl,by rw[rC hc (by rw[hD,fC,b1,b2,b3];rfl)]⟩
  simp only[b1,b2,b3,xw,go_sem,seval];exact⟨by kernel_rfl,rfl,g1',by rw[hD,fC,b1,b2,b3];rfl⟩
 rw[lI,if_neg (by omega)]at hs9;subst hs9;refine bZ hr9 (by simp only[aA.av,aA.cells,go_sem,seval]) rfl (Wk ?_);rw[PA (by omega)]
theorem c35(hf:pg.fs 35=some aDS)(h34:∀(l:Lin) (nl cl:Bool) (ds:List Val),ds.length<=big->Ret pg 34 [l.av,.sl nl (ds.map Val.av) cl] (.tup [.int .i64 (cP ds l).1,.int .i64 (cP ds l).2]))(t:Typ)(nl cl:Bool)(ds:List Val)(hb:ds.length<=big) :
  bQ pg 35 [t.av,.sl nl (ds.map Val.av) cl] (rN ds t):=by
 refine bQ.ofX hf ?_;unfold aDS;have hlb:=t.aSh.aSi.ok;have hlb':=hlb;simp only[big]at hlb';refine Wk ?_
 refine aJ t.aSh.aSi.es (λd r env hp=>∃v,env=WE (.sl nl (ds.map Val.av) cl) (.pt 1 0 0) v (.int .i64 1) (.int .i64 d.length)/\hp.get 1=some (0,.blk [.str t.aSl.bs,.str t.aSh.row.bs,.sl t.aSh.aSi.nl (t.aSh.aSi.es.map Lin.av) t.aSh.aSi.cl] 3 true true false) /\
  Own hp 9 1 false v ((d.map λl=>(cP ds l).1).map aH)/\t.aSh.aSi.es.all (lX ds)=r.all (lX ds)) ?_ ?_ ?_
 exact⟨_,rfl,rfl,Own.nil _ _ _ _ _ _ rfl,rfl⟩;rintro env hp ⟨v,rfl,g1,ho,hI⟩;have hI':t.aSh.aSi.es.all (lX ds)=true:=by rw[hI];rfl
 have ho':Own hp 9 1 false v ((tC ds t).map aH):=ho;have hfl:=ho'.flen;have hLb:(tC ds t).length<=big:=by simpa[tC] using hlb
 have hG:lT ds t=decide ((tC ds t).foldl oX 1<=4096):=by rw[lT,hI',cE]
 obtain⟨L,hL⟩:∃L,tC ds t=L:=⟨_,rfl⟩
 rw[hL]at ho' hfl hLb hG;simp only[WD,WE,g1,bG,go_sem,seval];clear ho;refine aJ L (λd r env hp2=>∃n:Int,env=M0 v (.int .i64 n) (.int .i64 d.length)/\hp2=hp/\L.foldl oX 1=r.foldl oX n) ?_ ?_ ?_;exact⟨1,rfl,rfl,rfl⟩;rintro env hp2 ⟨n,rfl,rfl,hJ⟩;have hG2:lT ds t=decide (n<=4096):=by rw[hG,hJ];rfl
 have hle:decide (4096<n) = !decide (n<=4096):=by rw[<-decide_not,eH];omega
 have hl0:(L.map aH).length=L.length:=by simp
 rw[hl0]at hfl;cases hn:decide (n<=4096);rw[hn]at hle;simp only[MZ,M0,↓hfl,bG,hle,go_sem,seval];exact AH (by rw[hG2,hn]);rw[hn]at hle;simp only[MZ,M0,↓hfl,bG,hle,go_sem,seval];have hfin:∀r,(∃nl cl,r = .tup [.sl nl (L.map aH) cl,.int .i64 0])->rN ds t r:=λr hr=>aFK (by rw[hG2,hn]) (by rw[hL];exact hr);obtain⟨nl3,cl3,keys,hsn,_⟩:=ho'.snap (El.ints _) 61;rcases ho' with ⟨he,nl',cl',rfl,_⟩|⟨e,cs,rfl,hg,hu⟩
 refine Wk ?_;exact hfin _ ⟨nl',cl',by rw[he]⟩;simp only[aM]at hsn;simp only[Tev.conv,depth,fE,cW,bM,↓hsn,go_sem,aM];exact hfin _ ⟨_,_,rfl⟩;rintro d a r env hp2 hes ⟨n,rfl,rfl,hJ⟩;obtain⟨hget,e1,e2,ew⟩:=dJ hes hLb;have hl0:(L.map aH).length=L.length:=by simp
 rw[hl0]at hfl;have hgm:(L.map aH)[d.length]?=some (.int .i64 a):=by rw[fX,hget];rfl
 rcases ho' with ⟨he,nl',cl',rfl,_⟩|⟨e,cs,rfl,hg,hu⟩
 have:L=[]:=by simpa using he
 rw[this]at hget;simp at hget;rw[iU]at hu;cases hu;have e2':((d.length:Int)<((L.map aH).length:Int))=True:=by rw[hl0];exact e2
 simp only[MZ,M0,e1,e2,hg,hget,Nat.mul_one,bF,mn2,ew,go_sem,seval];exact⟨_,rfl,hJ⟩;rintro d x r env hp hes ⟨v,rfl,g1,ho,hI⟩;obtain⟨hget,e1,e2,ew⟩:=dJ hes hlb;have hdl:d.length<=t.aSh.aSi.es.length:=by rw[hes];simp
 rw[fV]at hI;have hr34:=h34 x nl cl ds hb;have hbad:lX ds x=false->lT ds t=false:=by intro h;rw[lT,hI,h];rfl
 simp only[WD,WE,g1,hget,e1,e2,go_sem,seval];refine aB hr34 ?_;cases b0:decide ((cP ds x).2=0);simp only[b0,go_sem,seval];exact AH (hbad (by simp[lX,b0]));cases b1:decide (0<=(cP ds x).1);have b1':decide ((cP ds x).1<0)=true:=by simp at b1 ⊢;omega
 simp only[b0,b1',go_sem,seval];exact AH (hbad (by simp[lX,b1]));have b1':decide ((cP ds x).1<0)=false:=by simp at b1 ⊢;omega
 cases b2:decide ((cP ds x).1<=4096);have b2':decide (4096<(cP ds x).1)=true:=by simp at b2 ⊢;omega
 simp only[b0,b1',b2',go_sem,seval];exact AH (hbad (by simp[lX,b2]));have b2':decide (4096<(cP ds x).1)=false:=by simp at b2 ⊢;omega
 simp only[b0,b1',b2',go_sem,seval];refine gR (kb:=0) (s:=9) ho (El.ints _) (xs:=[.int .i64 (cP ds x).1]) (by intro z hz;simp at hz;subst hz;exact El.int _) (by simp only[aM,List.length_singleton];omega) (by decide) ?_;intro v' rd pa ho2 hk2 _;simp only[ew,go_sem,seval];refine⟨v',rfl,?_,by simpa[aH] using ho2,?_⟩;rw[hk2 1 (by omega)];exact g1;rw[hI,lX,b0,b1,b2];rfl
end
end
section
section
variable{pg:Pg}
end
end
section
theorem E6(j:Nat)(p:Sp×Int):∀(d:List (Sp×Int))(a:Int),kI j (d++[p]) a=if fQ ((j:Int)-1) p.1 then wr .i64 (kI j d a+p.2) else kI j d a
 |[],a=>rfl
 |q::r,a=>by simp only[List.cons_append,kI];exact E6 j p r _
section
variable{pg:Pg}
end
end
section
def gA(k:aA)(ds:List Val)(r:AV):Prop:=
 if cL k ds=0 then ∃nl cl,r = .tup [.sl nl ((eI (fA ds) (aD k) k.aSe.es).map aH) cl,.int .i64 0] else r = .tup [.sl true [] true,.int .i64 (cL k ds)]
theorem aIL{k:aA}{ds:List Val}(h:¬(cY k).2=0):gA k ds (.tup [.sl true [] true,.int .i64 22]):=by
 have:cL k ds=22:=by rw[cL,if_neg h]
 rw[gA,this];rfl
theorem LA{k:aA}{ds:List Val}(h:(cY k).2=0)(h1:eqL fC ds k.vars.es=false):gA k ds (.tup [.sl true [] true,.int .i64 1]):=by
 have:cL k ds=1:=by rw[cL,if_pos h,h1];rfl
 rw[gA,this];rfl
theorem aIK{k:aA}{ds:List Val}(h:(cY k).2=0)(h1:eqL fC ds k.vars.es=true)(h2:k.aSk.es.all (λl=>decide (0<=(cP ds l).1))=false):gA k ds (.tup [.sl true [] true,.int .i64 2]):=by
 have:cL k ds=2:=by rw[cL,if_pos h,h1,h2];rfl
 rw[gA,this];rfl
theorem aBx{k:aA}{ds:List Val}(h:(cY k).2=0)(h1:eqL fC ds k.vars.es=true)(h2:k.aSk.es.all (λl=>decide (0<=(cP ds l).1))=true)(h3:gH (λt=>(gY ds t).2) (aD k) k.aSe.es=false):gA k ds (.tup [.sl true [] true,.int .i64 3]):=by
 have:cL k ds=3:=by rw[cL,if_pos h,h1,h2,h3];rfl
 rw[gA,this];rfl
section
variable{pg:Pg}
set_option maxHeartbeats 1000000 in
theorem c17(hf:pg.fs 17=some aEh)(k:aA)(h10:bQ pg 10 [k.av] (iA k))(nl cl:Bool)(ds:List Val)(hb:ds.length<=big)
  (h34:∀l:Lin,Ret pg 34 [l.av,.sl nl (ds.map Val.av) cl] (.tup [.int .i64 (cP ds l).1,.int .i64 (cP ds l).2]))
  (h35:∀t:Typ,bQ pg 35 [t.av,.sl nl (ds.map Val.av) cl] (rN ds t)) :
  bQ pg 17 [k.av,.sl nl (ds.map Val.av) cl] (gA k ds):=by
 obtain⟨r9,hr9,hs9⟩:=h10;simp only[aA.av,aA.cells,Sl.av]at hr9;refine bQ.ofX hf ?_;unfold aEh;simp only[aA.av,aA.cells,go_sem,seval];rcases lD (k:=k) with hc|hc;have ok:=cA hc;have hso:=ok.out;simp only[bJ,aF,aR]at hso;obtain⟨_,⟨⟨⟨⟨⟨⟨_,_⟩,hi0⟩,_⟩,hiV⟩,_⟩,_⟩,_⟩:=hso;obtain⟨hov,hot⟩:=BZ ok;have hsl:=jZ (k:=k) (by omega);have hVb:=k.aSe.ok;have htr:treeL ((aD k).map bO)=true:=cH (f:=bO) (λs=>by simp[bO,go_sem]) _;rw[iA,if_pos hc]at hs9;obtain⟨nl9,cl9,rfl⟩:=hs9;refine bZ hr9 (by simp only[go_sem,seval]) (by first|rfl|(simp[AV.tree,htr])) ?_;cases hl:decide ((ds.length:Int)=k.vars.es.length)
 case false=>simp only[hl,go_sem,seval];exact LA hc (B5 hl)
 case true=>
  have hlv:ds.length=k.vars.es.length:=by have:=aO hl;omega
  simp only[hl,go_sem,seval]
  refine aJ ds (λd r env hp=>env=W8 (.sl nl (ds.map Val.av) cl) (.pt 1 0 0) (.sl nl9 ((aD k).map bO) cl9) (.int .i64 d.length) /\
   hp.get 1=some (0,.blk (bL k) 6 true true false)/\eqL fC ds k.vars.es=eqL fC r (k.vars.es.drop d.length)) ?_ ?_ ?_
  refine⟨rfl,?_,rfl⟩;refine Wk ?_;rfl;rintro env hp ⟨rfl,g1,hD⟩;have hD':eqL fC ds k.vars.es=true:=by rw[hD,pY hlv]
  have hev:=QQ hD' hov;simp only[W5,W8,bG,go_sem,seval]
  refine aJ k.aSk.es (λd r env hp=>env=W7 (.sl nl (ds.map Val.av) cl) (.pt 1 0 0) (.sl nl9 ((aD k).map bO) cl9) (.int .i64 d.length) /\
   hp.get 1=some (0,.blk (bL k) 6 true true false)/\k.aSk.es.all (λl=>decide (0<=(cP ds l).1))=r.all (λl=>decide (0<=(cP ds l).1))) ?_ ?_ ?_
  exact⟨rfl,g1,rfl⟩;clear g1 hp;rintro env hp ⟨rfl,g1,hW⟩;have hW':k.aSk.es.all (λl=>decide (0<=(cP ds l).1))=true:=by rw[hW];rfl
  have g1':=g1;simp only[bL]at g1;simp only[W4,W7,g1,bG,go_sem,seval];have hlb:(aD k).length<=big:=by rw[hsl];exact hVb
  refine aJ (aD k) (λd r env hp=>∃w,env=HA (.sl nl (ds.map Val.av) cl) (.pt 1 0 0) (.sl nl9 ((aD k).map bO) cl9) w (.int .i64 d.length) /\
   hp.get 1=some (0,.blk (bL k) 6 true true false)/\Own hp 17 1 false w ((eI (fA ds) d k.aSe.es).map aH) /\
   gH (λt=>(gY ds t).2) (aD k) k.aSe.es=gH (λt=>(gY ds t).2) r (k.aSe.es.drop d.length)) ?_ ?_ ?_
  exact⟨_,rfl,g1',Own.nil _ _ _ _ _ _ rfl,rfl⟩;clear g1 g1' hp;rintro env hp ⟨w,rfl,g1,ho,hS⟩;have hS':gH (λt=>(gY ds t).2) (aD k) k.aSe.es=true:=by rw[hS];rfl
  have hfin:∀r,(∃nl cl,r = .tup [.sl nl ((eI (fA ds) (aD k) k.aSe.es).map aH) cl,.int .i64 0])->gA k ds r:=by intro r hr;rw[gA,if_pos (Q0 hc hD' hW' hS')];exact hr
  simp only[G9,HA,bG,go_sem,seval];obtain⟨nl3,cl3,keys,hsn,_⟩:=ho.snap (El.ints _) 61;rcases ho with ⟨he,nl',cl',rfl,_⟩|⟨e,cs,rfl,hg,hu⟩
  refine Wk ?_;exact hfin _ ⟨nl',cl',by rw[he]⟩;simp only[aM]at hsn;simp only[Tev.conv,depth,fE,cW,bM,↓hsn,go_sem,aM];exact hfin _ ⟨_,_,rfl⟩
  ·clear g1 g1' hp;rintro d x r env hp hes ⟨w,rfl,g1,ho,hS⟩;obtain⟨hget,x1,x2,xw⟩:=dJ hes hlb;have hlt:d.length<k.aSe.es.length:=by rw[<-hsl,hes];simp
   obtain⟨t,ht⟩:∃t,k.aSe.es[d.length]?=some t:=⟨_,aW hlt⟩
   have hvl:((d.length:Int)<(k.aSe.es.length:Int))=True:=aK (by omega)
   have hSx:gH (λt=>(gY ds t).2) (aD k) k.aSe.es=((decide (x.1 = -2)||(gY ds t).2)&&gH (λt=>(gY ds t).2) r (k.aSe.es.drop (d++[x]).length)):=by rw[hS,i8 hlt,gH];rw[aW hlt]at ht;cases ht;simp
   have hsno:=rB (fA ds) x d k.aSe.es t ht;have hslen:=nU (fA ds) d k.aSe.es (by omega);have hfx:=DA ok (show x∈aD k by rw[hes];simp);have hx0:bO x = .agg [.int .i64 x.1,.int .i64 x.2]:=rfl;have h3:decide (-1<=x.1) = !decide (x.1 = -2):=by rw[<-decide_not,eH];rcases hfx with h|h<;>omega
   have g1':=g1;simp only[bL]at g1;simp only[big]at hVb;cases b1:decide (x.1 = -2)
   case true=>rw[b1]at h3;simp only[G9,HA,hget,x1,x2,hx0,h3,go_sem,seval];refine gR (kb:=0) (s:=17) ho (El.ints _) (xs:=[.int .i64 0]) (by intro z hz;simp at hz;subst hz;exact El.int _) (by simp only[aM,List.length_singleton];omega) (by decide) ?_;intro v' rd pa ho2 hk2 _;simp only[xw,go_sem,seval];refine⟨v',rfl,?_,?_,by rw[hSx,b1];rfl⟩;rw[hk2 1 (by omega)];exact g1';rw[hsno,if_pos (aO b1)];simpa[aH] using ho2
   case false=>
   rw[b1]at h3;obtain⟨r35,hr35,hs35⟩:=h35 t;obtain⟨q1,q2⟩:=PC hD' (hot t (List.mem_of_getElem? ht));rw[rN,q1]at hs35;cases b2:(gY ds t).2
   case false=>rw[b2]at hs35;simp only[bR,aL]at hs35;subst hs35;simp only[G9,HA,hget,x1,x2,hx0,h3,g1,ht,hvl,go_sem,seval];refine aB hr35 (Wk ?_);exact aBx hc hD' hW' (by rw[hSx,b1,b2];rfl)
   case true=>
   rw[b2]at hs35;simp only[aN]at hs35;obtain⟨nl5,cl5,rfl⟩:=hs35;obtain⟨q3,_,_⟩:=q2 b2;simp only[G9,HA,hget,x1,x2,hx0,h3,g1,ht,hvl,go_sem,seval];refine bZ hr35 (by simp only[go_sem,seval]) (by first|rfl|(simp[AV.tree,mC])) (Wk ?_);have hLb:(tC ds t).length<=big:=by have:=t.aSh.aSi.ok;simpa[tC] using this
   have hq3:(tC ds t).foldl (λn a=>wr .i64 (n*a)) 1=fA ds t:=q3;generalize tC ds t=L at hLb hq3;refine aJ L (λd3 r3 env hp3=>∃n:Int,env=W6 (.sl nl (ds.map Val.av) cl) (.pt 1 0 0) (.sl nl9 ((aD k).map bO) cl9) w (.int .i64 d.length) (.int .i64 n) (.sl nl5 (L.map aH) cl5) (.int .i64 d3.length)/\hp3=hp/\L.foldl (λn a=>wr .i64 (n*a)) 1=r3.foldl (λn a=>wr .i64 (n*a)) n) ?_ ?_ ?_;exact⟨1,rfl,rfl,rfl⟩;rintro env hp3 ⟨n,rfl,rfl,hJ⟩;have hn:n=fA ds t:=by rw[<-hq3,hJ];rfl
   simp only[W3,W6,bG,go_sem,seval];refine gR (kb:=0) (s:=17) ho (El.ints _) (xs:=[.int .i64 n]) (by intro z hz;simp at hz;subst hz;exact El.int _) (by simp only[aM,List.length_singleton];omega) (by decide) ?_;intro v' rd pa ho2 hk2 _;simp only[xw,go_sem,seval];refine⟨v',rfl,?_,?_,by rw[hSx,b1,b2];rfl⟩;rw[hk2 1 (by omega)];exact g1';rw[hsno,if_neg (bW b1),<-hn];simpa[aH] using ho2;rintro d3 a r3 env hp3 hes3 ⟨n,rfl,rfl,hJ⟩;obtain⟨hget3,f1,f2,fw⟩:=dJ hes3 hLb;simp only[W3,W6,hget3,f1,f2,fw,go_sem,seval];exact⟨_,rfl,hJ⟩
  clear g1 hp;rintro d x r env hp hes ⟨rfl,g1,hW⟩;have hwb:=k.aSk.ok;obtain⟨hget,x1,x2,xw⟩:=dJ hes hwb;have hr34:=h34 x;rw[hev x (by rw[hes];simp)]at hr34;have g1':=g1;simp only[bL]at g1;simp only[W4,W7,g1,hget,x1,x2,go_sem,seval];refine aB hr34 (Wk ?_);cases b1:decide ((cP ds x).1<0)
  case true=>
   have b1':decide (0<=(cP ds x).1)=false:=by simp at b1 ⊢;omega
   simp only[b1,go_sem,seval];exact aIK hc hD' (by rw[hW,fV,b1'];rfl)
  have b1':decide (0<=(cP ds x).1)=true:=by simp at b1 ⊢;omega
  simp only[b1,xw,go_sem,seval];refine⟨rfl,?_,by rw[hW,fV,b1'];rfl⟩
  first|exact g1'|rfl
  rintro d x r env hp hes ⟨rfl,g1,hD⟩;obtain⟨hget,x1,x2,xw⟩:=dJ hes hb;obtain⟨y,hy,_,hvl,hq⟩:=I3 (q:=fC) hes hlv;rw[hq]at hD;have g1':=g1;simp only[bL]at g1;simp only[W5,W8,g1,hy,hvl,hget,x1,x2,go_sem,seval];cases b1:decide (x.v.bs=y.bs)
  case false=>simp only[b1,go_sem,seval];exact⟨by kernel_rfl,LA hc (by rw[hD,fC,b1];rfl)⟩
  cases b2:decide (x.n<0)
  case true=>simp only[b1,b2,hget,x1,x2,go_sem,seval];exact⟨by kernel_rfl,LA hc (by rw[hD,fC,b1,b2];rfl)⟩
  cases b3:decide (4096<x.n)
  case true=>simp only[b1,b2,b3,hget,x1,x2,go_sem,seval];exact⟨by kernel_rfl,LA hc (by rw[hD,fC,b1,b2,b3];rfl)⟩
  simp only[b1,b2,b3,hget,x1,x2,xw,go_sem,seval];exact⟨by kernel_rfl,rfl,g1',by rw[hD,fC,b1,b2,b3];rfl⟩
 rw[iA,if_neg (by rw[hc];decide)]at hs9;subst hs9;refine aB hr9 (Wk ?_);exact aIL (by rw[hc];decide)
end
end
section
theorem wA(S:List Int)(j:Nat)(a0:Int):∀(n:Nat)(zs:List (Sp×Int)),zs.length=n->(∀(i:Nat)(p:Sp×Int),zs[i]?=some p->S[i]?=some p.2) ->
  (cC ((j:Int)-1) (zs.map (·.1))).foldl (λa v=>wr .i64 (a+(S[v.toNat]?).getD 0)) a0=kI j zs a0
 |0,zs,hn,_=>by have:zs=[]:=iR hn;subst this;rfl
 |n+1,zs,hn,h=>by
  rcases mO zs with hz|⟨d,p,hz⟩
  subst hz;simp at hn;have hz:zs=d++[p]:=by simpa using hz
  subst hz;have hd:d.length=n:=by simpa using hn
  have ih:=wA S j a0 n d hd (λi q hi=>h i q (by rw[List.getElem?_append_left (cJ.1 hi).1];exact hi));have hp:=h d.length p (by simp);rw[List.map_append,List.map_cons,List.map_nil,qN,E6,List.foldl_append,ih];cases fQ ((j:Int)-1) p.1;simp;simp[hp]
theorem BH{ds:List Val}{vars:List Str}(hD:eqL fC ds vars=true):∀(sp:List Sp)(vs:List Typ),(∀t∈vs,d4 t.aSh.aSi.es vars=true)->gH (λt=>(gY ds t).2) sp vs=true->∀z∈eI (fA ds) sp vs,0<=z/\z<=4096
 |[],_,_,_,z,hz=>by simp[eI]at hz
 |_::_,[],_,_,z,hz=>by simp[eI]at hz
 |s::r,t::q,ht,hS,z,hz=>by simp only[gH,aF,Bool.or_eq_true,aR]at hS;simp only[eI,dA]at hz;rcases hz with rfl|hz;by_cases h:s.1 = -2;rw[if_pos h];decide;rw[if_neg h];rcases hS.1 with h2|h2;exact absurd h2 h;exact((PC hD (ht t (by simp))).2 h2).2;exact BH hD r q (λu hu=>ht u (dY _ hu)) hS.2 z hz
def mP(k:aA)(ds:List Val):List (Sp×Int):=(aD k).zip (eI (fA ds) (aD k) k.aSe.es)
def u0(k:aA)(ds:List Val):List Int:=(List.range (k.aSf.es.length+2)).map λj=>kI j (mP k ds) 0
theorem cD{k:aA}{ds:List Val}(h:cL k ds=0):(cY k).2=0/\eqL fC ds k.vars.es=true/\gH (λt=>(gY ds t).2) (aD k) k.aSe.es=true:=by simp only[cL]at h;split at h;rename_i h1;split at h;rename_i h2;split at h;split at h;rename_i h4;exact⟨h1,h2,h4⟩;simp at h;simp at h;simp at h;simp at h
theorem nP{k:aA}{ds:List Val}(ok:gT k):(mP k ds).length=k.aSe.es.length/\(aD k).length=k.aSe.es.length/\(eI (fA ds) (aD k) k.aSe.es).length=k.aSe.es.length:=by have hso:=ok.out;simp only[bJ,aF,aR]at hso;obtain⟨_,⟨⟨⟨⟨⟨⟨_,_⟩,hi0⟩,_⟩,hiV⟩,_⟩,_⟩,_⟩:=hso;have hsl:=jZ (k:=k) (by omega);have hzl:=nU (fA ds) (aD k) k.aSe.es (by omega);exact⟨by simp[mP,List.length_zip,hsl,hzl],hsl,by omega⟩
theorem zL{k:aA}{ds:List Val}(ok:gT k):(mP k ds).map (·.1)=aD k/\∀(i:Nat)(p:Sp×Int),(mP k ds)[i]?=some p->(eI (fA ds) (aD k) k.aSe.es)[i]?=some p.2:=by obtain⟨h1,h2,h3⟩:=nP (ds:=ds) ok;refine⟨by rw[mP,List.map_fst_zip (by omega)],λi p hi=>?_⟩;rw[mP,List.getElem?_zip_eq_some]at hi;exact hi.2
theorem aAa{k:aA}{ds:List Val}(h:cL k ds=0):(u0 k ds).length<=big:=by have hso:=(cA (cD h).1).out;simp only[bJ,aF,aR]at hso;obtain⟨_,⟨⟨⟨⟨⟨⟨_,_⟩,_⟩,_⟩,_⟩,_⟩,hl⟩,_⟩:=hso;simp only[u0,aM,List.length_range,big];omega
def xF(k:aA)(ds:List Val)(r:AV):Prop:=
 if cL k ds=0 then ∃nl cl,r = .tup [.sl nl ((u0 k ds).map aH) cl,.int .i64 0] else r = .tup [.sl true [] true,.int .i64 (cL k ds)]
section
variable{pg:Pg}
theorem c19(hf:pg.fs 19=some aEf)(k:aA)(nl cl:Bool)(ds:List Val)(h17:bQ pg 17 [k.av,.sl nl (ds.map Val.av) cl] (gA k ds))(h12:∀at_:Int,bQ pg 12 [k.av,.int .i64 at_] (kL k at_)) :
  bQ pg 19 [k.av,.sl nl (ds.map Val.av) cl] (xF k ds):=by
 obtain⟨r17,hr17,hs17⟩:=h17;simp only[aA.av,aA.cells,Sl.av]at hr17 h12;refine bQ.ofX hf ?_;unfold aEf;simp only[aA.av,aA.cells,go_sem,seval];by_cases hx:cL k ds=0;obtain⟨hc,hD,hS⟩:=cD hx;have ok:=cA hc;obtain⟨l1,l2,l3⟩:=nP (ds:=ds) ok;obtain⟨p1,p2⟩:=zL (ds:=ds) ok;have hVb:=k.aSe.ok;have hLb:=k.aSf.ok;rw[gA,if_pos hx]at hs17;obtain⟨nl6,cl6,rfl⟩:=hs17;refine bZ hr17 (by simp only[go_sem,seval]) (by first|rfl|(simp[AV.tree,mC])) (Wk ?_);generalize hSz:eI (fA ds) (aD k) k.aSe.es=S at l3 p2 hr17;simp only[big]at hLb hVb
 refine aJ (List.range (k.aSf.es.length+2)) (λd r env hp=>∃w,env=W1 (.pt 1 0 0) (.sl nl6 (S.map aH) cl6) w (.int .i64 ((d.length:Int)-1))/\hp.get 1=some (0,.blk (bL k) 6 true true false) /\
  Own hp 13 1 false w ((d.map λj=>kI j (mP k ds) 0).map aH)) ?_ ?_ ?_
 refine⟨_,rfl,?_,Own.nil _ _ _ _ _ _ rfl⟩;refine Wk ?_;rfl;rintro env hp ⟨w,rfl,g1,ho⟩;have hr:(List.range (k.aSf.es.length+2)).length=k.aSf.es.length+2:=List.length_range;rw[hr];have e1:decide ((((k.aSf.es.length+2:Nat):Int)-1)<=(k.aSf.es.length:Int))=false:=decide_eq_false (by omega);simp only[bL]at g1;have ho':Own hp 13 1 false w ((u0 k ds).map aH):=ho;simp only[WZ,W1,g1,e1,go_sem,seval];have hfin:∀r,(∃nl cl,r = .tup [.sl nl ((u0 k ds).map aH) cl,.int .i64 0])->xF k ds r:=by intro r hr;rw[xF,if_pos hx];exact hr
 obtain⟨nl3,cl3,keys,hsn,_⟩:=ho'.snap (El.ints _) 61;rcases ho' with ⟨he,nl',cl',rfl,_⟩|⟨e,cs,rfl,hg,hu⟩
 refine Wk ?_;exact hfin _ ⟨nl',cl',by rw[he]⟩;simp only[aM]at hsn;simp only[Tev.conv,depth,fE,cW,bM,↓hsn,go_sem,aM];exact hfin _ ⟨_,_,rfl⟩;rintro d x r env hp hes ⟨w,rfl,g1,ho⟩;obtain⟨hxd,hlt⟩:=iD hes;have e1:decide ((d.length:Int)-1<=(k.aSf.es.length:Int))=true:=decide_eq_true (by omega);have ew:wr .i64 ((d.length:Int)-1+1)=((d++[x]).length:Int)-1:=by rw[aU (by omega) (by omega)];simp
 have g1':=g1;simp only[bL]at g1;obtain⟨r12,hr12,hs12⟩:=h12 ((d.length:Int)-1);rw[kL,if_pos hc,if_neg (by omega)]at hs12;obtain⟨nl3,cl3,rfl⟩:=hs12;have hlive:=wA S d.length 0 (mP k ds).length (mP k ds) rfl p2;rw[p1]at hlive;have hin:∀v∈cC ((d.length:Int)-1) (aD k),0<=v/\v<S.length:=by intro v hv;obtain⟨s,h0,h1,_⟩:=eE.1 hv;have:=(cJ.1 h1).1;omega
 have hll:=aAd (k:=k) (at_:=(d.length:Int)-1);simp only[WZ,W1,g1,e1,go_sem,seval];refine bZ hr12 (by simp only[go_sem,seval]) (by first|rfl|(simp[AV.tree,mC])) (Wk ?_);have hLb2:(cC ((d.length:Int)-1) (aD k)).length<=big:=by simp only[big];omega
 generalize cC ((d.length:Int)-1) (aD k)=L at hlive hin hLb2
 refine aJ L (λd3 r3 env hp3=>∃n:Int,env=W2 (.pt 1 0 0) (.sl nl6 (S.map aH) cl6) w (.int .i64 ((d.length:Int)-1)) (.sl nl3 (L.map aH) cl3) (.int .i64 n) (.int .i64 d3.length)/\hp3=hp /\
  L.foldl (λa v=>wr .i64 (a+(S[v.toNat]?).getD 0)) 0=r3.foldl (λa v=>wr .i64 (a+(S[v.toNat]?).getD 0)) n) ?_ ?_ ?_
 exact⟨0,rfl,rfl,rfl⟩;rintro env hp3 ⟨n,rfl,rfl,hJ⟩;have hn:n=kI d.length (mP k ds) 0:=by rw[<-hlive,hJ];rfl
 have hdl:d.length<=k.aSf.es.length+2:=by omega
 simp only[W0,W2,bG,go_sem,seval];refine gR (kb:=0) (s:=13) ho (El.ints _) (xs:=[.int .i64 n]) (by intro z hz;simp at hz;subst hz;exact El.int _) (by simp only[aM,List.length_singleton];omega) (by decide) ?_;intro v' rd pa ho2 hk2 _;simp only[ew,go_sem,seval];refine⟨v',rfl,?_,?_⟩;rw[hk2 1 (by omega)];exact g1';rw[hxd,hn]at *;simpa[aH] using ho2;rintro d3 v r3 env hp3 hes3 ⟨n,rfl,rfl,hJ⟩;obtain⟨hget3,f1,f2,fw⟩:=dJ hes3 hLb2;obtain⟨v1,v2⟩:=hin v (by rw[hes3];simp);obtain⟨z,hz⟩:∃z,S[v.toNat]?=some z:=⟨_,aW (by omega)⟩
 have v1':(0<=v)=True:=aK v1;have v2':(v<(S.length:Int))=True:=aK v2;simp only[W0,W2,hget3,f1,f2,fw,hz,v1',v2',go_sem,seval];refine⟨_,rfl,?_⟩;rw[hJ];simp[hz];rw[gA,if_neg hx]at hs17;subst hs17;refine aB hr17 ?_;have hne:decide (cL k ds=0)=false:=by simpa using hx
 simp only[hne,go_sem,seval];rw[xF,if_neg hx]
end
end
section
def frm(sp:List Sp)(n:Nat):Option Int:=sp[n]?.map (·.1)
theorem B1(sp:List Sp)(v x:Int)(n:Nat):frm (jX sp v x) n=frm sp n:=by
 simp only[frm,jX,List.getElem?_modify];cases sp[n]? with
 |none=>rfl
 |some s=>by_cases h:v.toNat=n<;>simp[h]
theorem sY(i:Nat):∀(l:List Int)(sp:List Sp)(n:Nat),frm (eU sp i l) n=frm sp n
 |[],_,_=>rfl
 |v::r,sp,n=>by have:=sY i r (jX sp v i) n;rw[B1]at this;exact this
theorem QG(sp:List Sp)(i:Nat)(q:aG)(n:Nat)(f:Int)(h:frm (kF sp i q) n=some f):frm sp n=some f\/(q.value.toNat=n/\f=i):=by
 rw[kF,sY,B1]at h;split at h;simp only[frm,iM,List.getElem?_modify]at h;by_cases hv:q.value.toNat=n;right;refine⟨hv,?_⟩;cases hs:sp[n]? with
 |none=>rw[hs]at h;simp at h
 |some s=>rw[hs]at h;simp[hv]at h;omega
 left;cases hs:sp[n]? with
 |none=>rw[hs]at h;simp at h
 |some s=>rw[hs]at h;simp[hv]at h;simp[frm,hs,h]
 exact .inl h
theorem YU:∀(L:List aG)(sp:List Sp)(i n:Nat)(f:Int),frm (gM sp i L) n=some f->frm sp n=some f\/∃(j:Nat)(q:aG),L[j]?=some q/\q.value.toNat=n/\f=((i+j:Nat):Int)
 |[],_,_,_,_,h => .inl h
 |q::r,sp,i,n,f,h=>by
  rcases YU r (kF sp i q) (i+1) n f h with h|⟨j,q',h1,h2,h3⟩
  rcases QG sp i q n f h with h|⟨h1,h2⟩
  exact .inl h;exact .inr ⟨0,q,rfl,h1,by simpa using h2⟩;exact .inr ⟨j+1,q',h1,h2,by rw[h3];omega⟩
theorem oE{k:aA}{n:Nat}{f:Int}(h:frm (aD k) n=some f):f = -2\/(f = -1/\n<k.aSg.toNat)\/∃(j:Nat)(q:aG),k.aSf.es[j]?=some q/\q.value.toNat=n/\f=(j:Int):=by
 rw[aD,show pG=λsp n l=>eU sp n l from rfl]at h;simp only at h;rw[sY]at h;rcases YU _ _ _ _ _ h with h|⟨j,q,h1,h2,h3⟩
 simp only[frm,d8,List.getElem?_append,EN]at h;split at h;rename_i hn;rw[List.getElem?_replicate,if_pos hn]at h;simp at h;exact .inr (.inl ⟨h.symm,hn⟩);rw[List.getElem?_replicate]at h;split at h;simp at h;exact .inl h.symm;simp at h;exact .inr (.inr ⟨j,q,h1,h2,by simpa using h3⟩)
def HQ(i:Int)(sp:List Sp):Prop:=∀s∈sp,s.1<=s.2/\s.1<=i
theorem FB{i:Int}{sp:List Sp}(v:Int){x:Int}(h:HQ i sp)(hx:i<=x):HQ i (jX sp v x):=by
 intro s hs;simp only[jX]at hs;obtain⟨n,hn⟩:=List.mem_iff_getElem?.1 hs;rw[List.getElem?_modify]at hn;cases hg:sp[n]? with
 |none=>rw[hg]at hn;simp at hn
 |some t=>have ht:=h t (List.mem_of_getElem? hg);rw[hg]at hn;by_cases hv:v.toNat=n;simp[hv]at hn;subst hn;exact⟨by simp only;omega,ht.2⟩;simp[hv]at hn;subst hn;exact ht
theorem yH{i:Int}(x:Nat)(hx:i<=x):∀(l:List Int)(sp:List Sp),HQ i sp->HQ i (eU sp x l)
 |[],_,h=>h
 |v::r,sp,h=>yH x hx r (jX sp v x) (FB v h hx)
theorem IG{i j:Int}{sp:List Sp}(h:HQ i sp)(hij:i<=j):HQ j sp:=λs hs=>⟨(h s hs).1,by have:=(h s hs).2;omega⟩
theorem ZR{sp:List Sp}(i:Nat)(q:aG)(h:HQ ((i:Int)-1) sp):HQ i (kF sp i q):=by
 rw[kF];refine yH i (Int.le_refl _) _ _ ?_;have h':=IG h (by omega:(i:Int)-1<=i);split;intro s hs;simp only[jX,iM]at hs;obtain⟨n,hn⟩:=List.mem_iff_getElem?.1 hs;rw[List.getElem?_modify,List.getElem?_modify]at hn;cases hg:sp[n]? with
 |none=>rw[hg]at hn;simp at hn
 |some t=>have ht:=h' t (List.mem_of_getElem? hg);rw[hg]at hn;by_cases hv:q.value.toNat=n;simp[hv]at hn;subst hn;simp;simp[hv]at hn;subst hn;exact ht
 exact FB _ h' (Int.le_refl _)
theorem O5:∀(L:List aG)(sp:List Sp)(i:Nat),HQ ((i:Int)-1) sp->HQ ((i+L.length:Nat)-1:Int) (gM sp i L)
 |[],sp,i,h=>by simpa[gM] using h
 |q::r,sp,i,h=>by have:=O5 r (kF sp i q) (i+1) (by simpa using ZR i q h);rw[gM];refine IG this ?_;simp only[List.length_cons];omega
theorem qE(k:aA):∀s∈aD k,s.1<=s.2:=by
 have h0:HQ ((0:Nat)-1:Int) (d8 k.aSe.es.length k.aSg.toNat):=by intro s hs;simp only[d8,jM,List.mem_replicate]at hs;rcases hs with ⟨_,rfl⟩|⟨_,rfl⟩<;>simp
 have h1:=O5 k.aSf.es _ 0 h0;rw[aD,show pG=λsp n l=>eU sp n l from rfl];intro s hs;exact(yH _ (by omega) _ _ h1 s hs).1
end
section
theorem JW{x y:dQ}(h:iI x y=true):x.v.bs=y.v.bs/\x.c=y.c:=by simpa[iI] using h
theorem E5:∀(a b:List dQ)(p q:List dQ),eqL iI a b=true->(p.getLast?.map λc=>c.v.bs)=(q.getLast?.map λc=>c.v.bs)->mQ p a=mQ q b
 |[],[],_,_,_,_=>rfl
 |[],_::_,_,_,h,_=>by simp[eqL]at h
 |_::_,[],_,_,h,_=>by simp[eqL]at h
 |x::r,y::s,p,q,h,hp=>by
  simp only[eqL,aF]at h;obtain⟨h1,h2⟩:=JW h.1;have ih:=E5 r s (p++[x]) (q++[y]) h.2 (by simp[h1]);simp only[mQ,h1,h2,ih];cases hp1:p.getLast?<;>cases hq1:q.getLast?<;>rw[hp1,hq1]at hp
  all_goals first|rfl|(simp at hp;done)|(simp at hp;simp only[hp])
theorem GK(ds:List Val):∀(a b:List dQ)(n:Int),eqL iI a b=true->mL ds n a=mL ds n b
 |[],[],_,_=>rfl
 |[],_::_,_,h=>by simp[eqL]at h
 |_::_,[],_,h=>by simp[eqL]at h
 |x::r,y::s,n,h=>by
  simp only[eqL,aF]at h;obtain⟨h1,h2⟩:=JW h.1;simp only[mL,h1,h2];cases qA ds y.v.bs with
  |none=>rfl
  |some v=>simp only;rw[GK ds r s _ h.2]
theorem UT(ds:List Val){a b:Lin}(h:cN a b=true):cP ds a=cP ds b:=by simp only[cN,aF,aR]at h;have hl:=AG h.2;simp only[cP,fU,h.1,E5 _ _ [] [] h.2 rfl,hl,GK ds _ _ _ h.2];rfl
theorem qS(f:Nat->Bool):∀(n i:Nat),gQ f i n = -1\/∃v:Nat,gQ f i n=v/\f v=true/\i<=v/\v<i+n
 |0,i => .inl rfl
 |n+1,i=>by
  rw[gQ];by_cases h:f i;rw[if_pos h];exact .inr ⟨i,rfl,h,by omega,by omega⟩;rw[if_neg h];rcases qS f n (i+1) with h|⟨v,h1,h2,h3,h4⟩
  exact .inl h;exact .inr ⟨v,h1,h2,by omega,by omega⟩
end
end Go.Tev
