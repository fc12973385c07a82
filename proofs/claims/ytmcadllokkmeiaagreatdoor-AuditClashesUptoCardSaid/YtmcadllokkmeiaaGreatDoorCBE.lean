import Derived.Test.YtmcadllokkmeiaaGreatDoorCBD
import Derived.Test.YtmcadllokkmeiaaGreatDoorCBC
import Derived.Test.YtmcadllokkmeiaaGreatDoorCAY
set_option linter.all false
namespace Go.Tev
section
def eI(x:Val)(y:Str):Bool:=decide (x.v.bs=y.bs)&&(!decide (x.n<0) && !decide (4096<x.n))
def fI(g:Typ->Bool):List Sp->List Typ->Bool
 | s::r,t::q=>(decide (s.1 = -2)||g t)&&fI g r q
 |_,_=>true
def dU(k:aA)(ds:List Val):Int:=
 if (cP k).2=0 then
  (if eqL eI ds k.vars.es then
   (if k.wher.es.all (λl=>decide (0<=(cG ds l).1)) then
    (if fI (λt=>(gF ds t).2) (aF k) k.values.es then 0 else 3)
   else 2)
  else 1)
 else 22
def fT(ds:List Val)(t:Typ):Int:=(gF ds t).1
def iW(k:aA)(ds:List Val):AV:=
 if dU k ds=0 then .tup [.sl false ((fV (fT ds) (aF k) k.values.es).map aJ) true,.int .i64 0] else .tup [.sl true [] true,.int .i64 (dU k ds)]
theorem CS:∀(ds:List Val)(vars:List Str)(s:List UInt8),eqL eI ds vars=true->lD vars s=true->∃v,pO ds s=some v/\0<=v.n/\v.n<=4096
 |[],[],s,_,h=>by simp[lD]at h
 |[],_::_,s,h,_=>by simp[eqL]at h
 |_::_,[],s,h,_=>by simp[eqL]at h
 |x::r,y::q,s,h,hs=>by
  simp only[eqL,aG]at h;obtain⟨h1,h2⟩:=h;simp only[eI,aG,aY,fB,fL]at h1;by_cases he:x.v.bs=s;exact⟨x,by simp[pO,he],by omega,by omega⟩;have hq:lD q s=true:=by simp only[lD,List.any_cons,Bool.or_eq_true,aY]at hs;rcases hs with h|h;exact absurd (h1.1.trans h.symm) he;simpa[lD] using h
  obtain⟨v,q1,q2⟩:=CS r q s h2 hq;exact⟨v,by simpa[pO,he] using q1,q2⟩
theorem M7(ds:List Val)(vars:List Str)(h:eqL eI ds vars=true):∀(ts:List cL)(n:Int),(ts.all λx=>lD vars x.v.bs)=true->(nM ds n ts).2=0
 |[],n,_=>rfl
 |c::r,n,ht=>by
  simp only[List.all_cons,aG]at ht;obtain⟨v,q1,q2,q3⟩:=CS ds vars c.v.bs h ht.1;have b1:decide (v.n < -1000000000)=false:=by simp;omega
  have b2:decide (1000000000<v.n)=false:=by simp;omega
  simp only[nM,q1,b1,b2,Bool.or_false,Bool.false_eq_true,if_false];exact M7 ds vars h r _ ht.2
theorem M8{ds:List Val}{vars:List Str}(h:eqL eI ds vars=true){ls:List Lin}(ho:cU ls vars=true):∀l∈ls,(cG ds l).2=0:=by intro l hl;simp only[cU,eG,aG]at ho;obtain⟨h1,h2⟩:=ho l hl;simp only[cG,h1,if_true];exact M7 ds vars h _ _ (by rw[eG];exact h2)
def TN(n:Int)(L:List Int):Int:=L.foldl (λn a=>TP a n) n
def xL(n:Int)(L:List Int):Int:=L.foldl (λn a=>wr .i64 (n*a)) n
def nJ(n a:Int):Int:=if 1099511627776<wr .i64 (n*a) then 1099511627776 else wr .i64 (n*a)
theorem aBH{a n:Int}(h:0<=a):TP a n=nJ n a:=by
 have:¬a<0:=by omega
 simp only[TP,nJ,this,if_false]
theorem O5:∀(L:List Int)(n:Int),(∀a∈L,0<=a)->TN n L=L.foldl nJ n
 |[],n,_=>rfl
 |a::r,n,h=>by simp only[TN,List.foldl_cons];rw[aBH (h a (by simp))];exact O5 r _ (λx hx=>h x (dH _ hx))
theorem Y8{n a:Int}(h0:0<=n)(h1:n<=1099511627776)(h2:0<=a)(h3:a<=4096):0<=n*a/\n*a<=4503599627370496:=by refine⟨Int.mul_nonneg h0 h2,?_⟩;exact Int.le_trans (Int.mul_le_mul h1 h3 h2 (by omega)) (by decide)
theorem DK:∀L:List Int,xL 0 L=0
 |[]=>rfl
 |a::r=>by simp only[xL,List.foldl_cons,Int.zero_mul];exact DK r
theorem H5:∀L:List Int,L.foldl nJ 0=0
 |[]=>rfl
 |a::r=>by simp only[List.foldl_cons,nJ,Int.zero_mul];exact H5 r
theorem zW:∀(L:List Int)(n m:Int),(0:Int)∈L->xL m L=0/\L.foldl nJ n=0
 |[],n,m,h=>by simp at h
 |a::r,n,m,h=>by
  by_cases ha:a=0;subst ha;simp only[xL,List.foldl_cons,nJ,Int.mul_zero];exact⟨DK r,H5 r⟩;have:(0:Int)∈r:=by rcases List.mem_cons.1 h with h|h;exact absurd h.symm ha;exact h
  simp only[xL,List.foldl_cons];exact zW r _ _ this
theorem I5:∀(L:List Int)(n:Int),0<=n->n<=1099511627776->(∀a∈L,1<=a/\a<=4096)->n<=L.foldl nJ n/\L.foldl nJ n<=1099511627776
 |[],n,_,h,_=>⟨Int.le_refl _,h⟩
 |a::r,n,h0,h1,h=>by
  obtain⟨a1,a2⟩:=h a (by simp);obtain⟨m1,m2⟩:=Y8 h0 h1 (by omega:0<=a) a2;have hm:n<=n*a:=by have:=Int.mul_le_mul_of_nonneg_left a1 h0;omega
  have hw:wr .i64 (n*a)=n*a:=aO (by omega) (by omega);simp only[List.foldl_cons];have hc:n<=nJ n a/\nJ n a<=1099511627776/\0<=nJ n a:=by simp only[nJ,hw];split<;>omega
  obtain⟨q1,q2⟩:=I5 r (nJ n a) hc.2.2 hc.2.1 (λx hx=>h x (dH _ hx));exact⟨by omega,q2⟩
theorem UR:∀(L:List Int)(n:Int),0<=n->n<=1099511627776->(∀a∈L,1<=a/\a<=4096)->L.foldl nJ n<=4096->xL n L=L.foldl nJ n
 |[],n,_,_,_,_=>rfl
 |a::r,n,h0,h1,h,hle=>by
  obtain⟨a1,a2⟩:=h a (by simp);obtain⟨m1,m2⟩:=Y8 h0 h1 (by omega:0<=a) a2;have hw:wr .i64 (n*a)=n*a:=aO (by omega) (by omega);have hr:∀x∈r,1<=x/\x<=4096:=λx hx=>h x (dH _ hx);simp only[xL,List.foldl_cons]at hle ⊢;by_cases hb:1099511627776<n*a;have:nJ n a=1099511627776:=by simp only[nJ,hw,hb,if_true]
  rw[this]at hle;have:=(I5 r 1099511627776 (by decide) (Int.le_refl _) hr).1;omega;have hm:nJ n a=n*a:=by simp only[nJ,hw,hb,if_false]
  rw[hm]at hle ⊢;rw[hw];exact UR r (n*a) m1 (by omega) hr hle
theorem YR{L:List Int}(h:∀a∈L,0<=a/\a<=4096)(hle:L.foldl nJ 1<=4096):xL 1 L=L.foldl nJ 1:=by by_cases h0:(0:Int)∈L;obtain⟨a,b⟩:=zW L 1 1 h0;rw[a,b];refine UR L 1 (by decide) (by decide) (λa ha=>?_) hle;have:=h a ha;have:a≠0:=λe=>h0 (e ▸ ha);omega
def kX(ds:List Val)(l:Lin):Bool:=decide ((cG ds l).2=0)&&(decide (0<=(cG ds l).1)&&decide ((cG ds l).1<=4096))
def rH(ds:List Val)(t:Typ):List Int:=t.shape.dims.es.map λl=>(cG ds l).1
def kS(ds:List Val)(t:Typ):Bool:=t.shape.dims.es.all (kX ds)&&decide ((rH ds t).foldl nJ 1<=4096)
theorem DA(ds:List Val):∀(ls:List Lin)(n:Int)(b:Bool),tM ds n b ls=(TN n (ls.map λl=>(cG ds l).1),b&&ls.all λl=>decide (0<=(cG ds l).1)&&decide ((cG ds l).1<=4096))
 |[],n,b=>by simp[tM,TN]
 |l::r,n,b=>by simp only[tM,DA ds r,TN,List.map_cons,List.foldl_cons,List.all_cons,Bool.and_assoc]
theorem LZ{ds:List Val}{vars:List Str}(h:eqL eI ds vars=true){t:Typ}(ho:cU t.shape.dims.es vars=true) :
  kS ds t=(gF ds t).2/\((gF ds t).2=true->xL 1 (rH ds t)=fT ds t/\0<=fT ds t/\fT ds t<=4096):=by
 have hev:=M8 h ho
 have h1:t.shape.dims.es.all (kX ds)=t.shape.dims.es.all λl=>decide (0<=(cG ds l).1)&&decide ((cG ds l).1<=4096):=by rw[Bool.eq_iff_iff,eG,eG];constructor;intro g l hl;have:=g l hl;simp only[kX,aG]at this ⊢;exact this.2;intro g l hl;have:=g l hl;simp only[kX,hev l hl,decide_true,Bool.true_and];exact this
 have h2:(gF ds t).2=(t.shape.dims.es.all (λl=>decide (0<=(cG ds l).1)&&decide ((cG ds l).1<=4096))&&decide (TN 1 (rH ds t)<=4096)):=by simp only[gF,DA,Bool.true_and];rfl
 have h3:fT ds t=TN 1 (rH ds t):=by simp only[fT,gF,DA];rfl
 rw[kS,h1,h2];cases ha:t.shape.dims.es.all (λl=>decide (0<=(cG ds l).1)&&decide ((cG ds l).1<=4096));exact⟨rfl,λh=>by simp at h⟩;have hin:∀a∈rH ds t,0<=a/\a<=4096:=by intro a hm;simp only[rH,List.mem_map]at hm;obtain⟨l,hl,rfl⟩:=hm;rw[eG]at ha;have:=ha l hl;simp only[aG,aY]at this;exact this
 have hcm:=O5 (rH ds t) 1 (λa ha=>(hin a ha).1);rw[hcm]at h3 ⊢;refine⟨rfl,λhle=>?_⟩;simp only[Bool.true_and,aY]at hle;refine⟨by rw[h3];exact YR hin hle,?_,by rw[h3];exact hle⟩;rw[h3];by_cases h0:(0:Int)∈rH ds t;rw[(zW _ 1 1 h0).2];decide
 have:=(I5 (rH ds t) 1 (by decide) (by decide) (λa ha=>by
  have:=hin a ha;have:a≠0:=λe=>h0 (e ▸ ha);omega)).1
 omega
theorem GR{k:aA}(ok:lH k):cU k.wher.es k.vars.es=true/\∀t∈k.values.es,cU t.shape.dims.es k.vars.es=true:=by have hso:=ok.out;simp only[bO,aG,aY]at hso;obtain⟨_,⟨⟨⟨⟨⟨⟨_,hw⟩,_⟩,_⟩,_⟩,_⟩,_⟩,hty⟩:=hso;refine⟨hw,λt ht=>?_⟩;rw[eG]at hty;have:=hty t ht;simp only[gB,aG]at this;exact this.2
end
section
theorem LX{k:aA}{ds:List Val}(h:¬(cP k).2=0):iW k ds = .tup [.sl true [] true,.int .i64 22]:=by
 have:dU k ds=22:=by rw[dU,if_neg h]
 rw[iW,this];rfl
theorem pV{k:aA}{ds:List Val}(h:(cP k).2=0)(h1:eqL eI ds k.vars.es=false):iW k ds = .tup [.sl true [] true,.int .i64 1]:=by
 have:dU k ds=1:=by rw[dU,if_pos h,h1];rfl
 rw[iW,this];rfl
theorem LW{k:aA}{ds:List Val}(h:(cP k).2=0)(h1:eqL eI ds k.vars.es=true)(h2:k.wher.es.all (λl=>decide (0<=(cG ds l).1))=false):iW k ds = .tup [.sl true [] true,.int .i64 2]:=by
 have:dU k ds=2:=by rw[dU,if_pos h,h1,h2];rfl
 rw[iW,this];rfl
theorem FJ{k:aA}{ds:List Val}(h:(cP k).2=0)(h1:eqL eI ds k.vars.es=true)(h2:k.wher.es.all (λl=>decide (0<=(cG ds l).1))=true)(h3:fI (λt=>(gF ds t).2) (aF k) k.values.es=false):iW k ds = .tup [.sl true [] true,.int .i64 3]:=by
 have:dU k ds=3:=by rw[dU,if_pos h,h1,h2,h3];rfl
 rw[iW,this];rfl
theorem NH{k:aA}{ds:List Val}(h:(cP k).2=0)(h1:eqL eI ds k.vars.es=true)(h2:k.wher.es.all (λl=>decide (0<=(cG ds l).1))=true)(h3:fI (λt=>(gF ds t).2) (aF k) k.values.es=true):dU k ds=0:=by rw[dU,if_pos h,h1,h2,h3];rfl
theorem PT{k:aA}{ds:List Val}(h:(cP k).2=0)(h1:eqL eI ds k.vars.es=true)(h2:k.wher.es.all (λl=>decide (0<=(cG ds l).1))=true)(h3:fI (λt=>(gF ds t).2) (aF k) k.values.es=true) :
  iW k ds = .tup [.sl false ((fV (fT ds) (aF k) k.values.es).map aJ) true,.int .i64 0]:=by
 rw[iW,if_pos (NH h h1 h2 h3)]
def qB(ds:List Val)(t:Typ)(r:AV):Prop:=if kS ds t then ∃nl cl,r = .tup [.sl nl ((rH ds t).map aJ) cl,.int .i64 0] else r = .tup [.sl true [] true,.int .i64 3]
theorem x8{ds:List Val}{t:Typ}(h:kS ds t=false):qB ds t (.tup [.sl true [] true,.int .i64 3]):=by rw[qB,h];rfl
theorem aCY{ds:List Val}{t:Typ}{r:AV}(h:kS ds t=true)(hr:∃nl cl,r = .tup [.sl nl ((rH ds t).map aJ) cl,.int .i64 0]):qB ds t r:=by rw[qB,h];exact hr
section
variable{pg:Pg}
theorem aOY(hf:pg.fs 16=some aBy)(k:aA)(h9:bE pg 9 [k.av] (kE k))(nl cl:Bool)(ds:List Val)(hb:ds.length<=big)
  (h32:∀l:Lin,Ret pg 32 [l.av,.sl nl (ds.map Val.av) cl] (.tup [.int .i64 (cG ds l).1,.int .i64 (cG ds l).2])) (h33:∀t:Typ,Ret pg 33 [t.av,.sl nl (ds.map Val.av) cl] (.tup [.int .i64 (fT ds t),.bool (gF ds t).2])) :
  Ret pg 16 [k.av,.sl nl (ds.map Val.av) cl] (iW k ds):=by
 obtain⟨r9,hr9,hs9⟩:=h9;refine Ret.ofX hf ?_;unfold aBy;simp only[aA.av,aA.cells,go_sem,seval];rcases jH (k:=k) with hc|hc;have ok:=dS hc;have hso:=ok.out;simp only[bO,aG,aY]at hso;obtain⟨_,⟨⟨⟨⟨⟨⟨_,_⟩,hi0⟩,_⟩,hiV⟩,_⟩,_⟩,_⟩:=hso;have hsl:=kZ (k:=k) (by omega);have hVb:=k.values.ok;have htr:treeL ((aF k).map bQ)=true:=bJ (f:=bQ) (λs=>by simp[bQ,go_sem]) _;rw[kE,if_pos hc]at hs9;subst hs9;refine bT hr9 (by simp only[aA.av,aA.cells,go_sem,seval]) (by first|rfl|(simp[AV.tree,htr])) (Wk ?_);cases hl:decide ((ds.length:Int)=k.vars.es.length)
 case false=>simp only[hl,go_sem,seval];rw[pV hc (zZ hl)]
 case true=>
  have hlv:ds.length=k.vars.es.length:=by have:=aM hl;omega
  simp only[hl,go_sem,seval]
  refine aK ds (λd r env hp=>env=TF (.sl nl (ds.map Val.av) cl) (.pt 1 0 0) (.sl false ((aF k).map bQ) false) (.sl nl (ds.map Val.av) cl) (.int .i64 ds.length) (.int .i64 d.length) /\
   hp.get 1=some (0,.blk k.cells 6 true true false)/\eqL eI ds k.vars.es=eqL eI r (k.vars.es.drop d.length)) ?_ ?_ ?_
  refine⟨rfl,?_,rfl⟩;refine Wk ?_;rfl;rintro env hp ⟨rfl,g1,hD⟩;have hD':eqL eI ds k.vars.es=true:=by rw[hD,oQ hlv]
  have g1':=g1;simp only[aA.cells,Sl.av]at g1;simp only[TC,TF,g1,go_sem,seval]
  refine aK k.wher.es (λd r env hp=>env=TE (.sl nl (ds.map Val.av) cl) (.pt 1 0 0) (.sl false ((aF k).map bQ) false) (.sl k.wher.nl (k.wher.es.map Lin.av) k.wher.cl) (.int .i64 k.wher.es.length) (.int .i64 d.length) /\
   hp.get 1=some (0,.blk k.cells 6 true true false)/\k.wher.es.all (λl=>decide (0<=(cG ds l).1))=r.all (λl=>decide (0<=(cG ds l).1))) ?_ ?_ ?_
  exact⟨rfl,g1',rfl⟩;clear g1 g1' hp;rintro env hp ⟨rfl,g1,hW⟩;have hW':k.wher.es.all (λl=>decide (0<=(cG ds l).1))=true:=by rw[hW];rfl
  have g1':=g1;simp only[aA.cells,Sl.av]at g1;simp only[TB,TE,g1,go_sem,seval];have hV30:((k.values.es.length:Int)<=1073741824)=True:=eq_true (by simp only[big]at hVb;omega);generalize hE:hp.next 21=E;simp only[hV30,go_sem,seval]
  refine aK (aF k) (λd r env hp=>env=TD (.sl nl (ds.map Val.av) cl) (.pt 1 0 0) (.rf 21 E 0 k.values.es.length k.values.es.length) (.sl false ((aF k).map bQ) false) (.int .i64 (aF k).length) (.int .i64 d.length) /\
   hp.get 1=some (0,.blk k.cells 6 true true false)/\hp.get 21=some (E,.blk ((tX (fT ds) d k.values.es).map aJ) 1 false true false)/\fI (λt=>(gF ds t).2) (aF k) k.values.es=fI (λt=>(gF ds t).2) r (k.values.es.drop d.length)) ?_ ?_ ?_
  refine⟨rfl,?_,?_,rfl⟩;refine Wk ?_;exact g1';refine Wk ?_;simp[tX,fV,aJ,hE];clear g1 g1' hE hp;rintro env hp ⟨rfl,g1,g2,hS⟩;have hS':fI (λt=>(gF ds t).2) (aF k) k.values.es=true:=by rw[hS];rfl
  have hpl:tX (fT ds) (aF k) k.values.es=fV (fT ds) (aF k) k.values.es:=by simp[tX,hsl]
  rw[hpl]at g2;have hsn:=X9 g2 61;rw[mO (fT ds) _ _ (by omega),hsl]at hsn;simp only[TA,TD,go_sem,seval];simp only[Tev.conv,depth,eK,cF,bD,↓hsn,go_sem];rw[PT hc hD' hW' hS'];clear g1 g1' hE hp;rintro d x r env hp hes ⟨rfl,g1,g2,hS⟩;have hlt:d.length<k.values.es.length:=by rw[<-hsl,hes];simp
  obtain⟨t,ht⟩:∃t,k.values.es[d.length]?=some t:=⟨_,aX hlt⟩
  have hget:(aF k)[d.length]?=some x:=by rw[hes];simp
  have hSx:fI (λt=>(gF ds t).2) (aF k) k.values.es=((decide (x.1 = -2)||(gF ds t).2)&&fI (λt=>(gF ds t).2) r (k.values.es.drop (d++[x]).length)):=by rw[hS,kY hlt,fI];rw[aX hlt]at ht;cases ht;simp
  have hvl:((d.length:Int)<(k.values.es.length:Int))=True:=eq_true (by omega);have hsl2:((d.length:Int)<((aF k).length:Int))=True:=eq_true (by omega);have hsl3:decide ((d.length:Int)<((aF k).length:Int))=true:=by simp;omega
  have g1':=g1;simp only[aA.cells,Sl.av]at g1;have hsb:(d++x::r).length<=big:=by rw[<-hes,hsl];exact hVb
  simp only[TA,TD,g1,hget,hsl2,hsl3,bQ,go_sem,seval];cases b1:decide (x.1 = -2)
  case true=>simp only[b1,aW hsb,go_sem,seval];refine⟨rfl,g1',?_,by rw[hSx,b1];rfl⟩;rw[V3 (fT ds) x d k.values.es t ht (aM b1)];exact g2
  simp only[b1,ht,hvl,g1,go_sem,seval];refine aB (h33 t) (Wk ?_);cases b2:(gF ds t).2
  case false=>refine Wk ?_;rw[FJ hc hD' hW' (by rw[hSx,b1,b2];rfl)]
  have b1':¬x.1 = -2:=bH b1;have hpl:=YV (fT ds) d k.values.es (by omega);have hle:(0+d.length*1+1<=(tX (fT ds) d k.values.es).length)=True:=eq_true (by rw[hpl];omega);have hst:List.take (0+d.length*1) ((tX (fT ds) d k.values.es).map aJ)++[.int .i64 (fT ds t)]++List.drop (0+d.length*1+1) ((tX (fT ds) d k.values.es).map aJ)=(tX (fT ds) (d++[x]) k.values.es).map aJ:=by rw[YU (fT ds) x d k.values.es t ht b1',Nat.zero_add,Nat.mul_one]
  simp only[b2,aW hsb,g2,hvl,hle,hst,go_sem,seval];exact⟨rfl,g1',by rw[hSx,b1,b2];rfl⟩;clear g1 g1' hp;rintro d x r env hp hes ⟨rfl,g1,hW⟩;have hwb:=k.wher.ok;obtain⟨hget,x1,x2,xw⟩:=cX hes hwb;have hr32:=h32 x;simp only[TB,TE,hget,x1,x2,go_sem,seval];refine aB hr32 (Wk ?_);cases b1:decide ((cG ds x).1<0)
  case true=>
   have b1':decide (0<=(cG ds x).1)=false:=by simp at b1 ⊢;omega
   simp only[b1,go_sem,seval];rw[LW hc hD' (by rw[hW,List.all_cons,b1'];rfl)]
  have b1':decide (0<=(cG ds x).1)=true:=by simp at b1 ⊢;omega
  simp only[b1,xw,go_sem,seval];exact⟨rfl,g1,by rw[hW,List.all_cons,b1'];rfl⟩;rintro d x r env hp hes ⟨rfl,g1,hD⟩;obtain⟨hget,x1,x2,xw⟩:=cX hes hb;obtain⟨y,hy,_,hvl,hq⟩:=GJ (q:=eI) hes hlv;rw[hq]at hD;have g1':=g1;simp only[aA.cells,Sl.av]at g1;simp only[TC,TF,g1,hy,hvl,hget,x1,x2,go_sem,seval];cases b1:decide (x.v.bs=y.bs)
  case false=>simp only[b1,go_sem,seval];exact⟨by kernel_rfl,by rw[pV hc (by rw[hD,eI,b1];rfl)]⟩
  cases b2:decide (x.n<0)
  case true=>simp only[b1,b2,go_sem,seval];exact⟨by kernel_rfl,by rw[pV hc (by rw[hD,eI,b1,b2];rfl)]⟩
  cases b3:decide (4096<x.n)
  case true=>simp only[b1,b2,b3,go_sem,seval];exact⟨by kernel_rfl,by rw[pV hc (by rw[hD,eI,b1,b2,b3];rfl)]⟩
  simp only[b1,b2,b3,xw,go_sem,seval];exact⟨by kernel_rfl,rfl,g1',by rw[hD,eI,b1,b2,b3];rfl⟩
 rw[kE,if_neg (by omega)]at hs9;subst hs9;refine bT hr9 (by simp only[aA.av,aA.cells,go_sem,seval]) rfl (Wk ?_);rw[LX (by omega)]
theorem c35(hf:pg.fs 35=some aBk)(h34:∀(l:Lin) (nl cl:Bool) (ds:List Val),ds.length<=big->Ret pg 34 [l.av,.sl nl (ds.map Val.av) cl] (.tup [.int .i64 (cG ds l).1,.int .i64 (cG ds l).2]))(t:Typ)(nl cl:Bool)(ds:List Val)(hb:ds.length<=big) :
  bE pg 35 [t.av,.sl nl (ds.map Val.av) cl] (qB ds t):=by
 refine bE.ofX hf ?_;unfold aBk;have hlb:=t.shape.dims.ok;have hlb':=hlb;simp only[big]at hlb';refine Wk ?_
 refine aK t.shape.dims.es (λd r env hp=>∃v,env=SL (.sl nl (ds.map Val.av) cl) (.pt 1 0 0) v (.int .i64 1) (.int .i64 d.length)/\hp.get 1=some (0,.blk [.str t.elem.bs,.str t.shape.row.bs,.sl t.shape.dims.nl (t.shape.dims.es.map Lin.av) t.shape.dims.cl] 3 true true false) /\
  Own hp 9 1 false v ((d.map λl=>(cG ds l).1).map aJ)/\t.shape.dims.es.all (kX ds)=r.all (kX ds)) ?_ ?_ ?_
 exact⟨_,rfl,rfl,Own.nil _ _ _ _ _ _ rfl,rfl⟩;rintro env hp ⟨v,rfl,g1,ho,hI⟩;have hI':t.shape.dims.es.all (kX ds)=true:=by rw[hI];rfl
 have ho':Own hp 9 1 false v ((rH ds t).map aJ):=ho;have hfl:=ho'.flen;have hLb:(rH ds t).length<=big:=by simpa[rH] using hlb
 have hG:kS ds t=decide ((rH ds t).foldl nJ 1<=4096):=by rw[kS,hI',Bool.true_and]
 obtain⟨L,hL⟩:∃L,rH ds t=L:=⟨_,rfl⟩
 rw[hL]at ho' hfl hLb hG;simp only[SK,SL,g1,bA,go_sem,seval];clear ho;refine aK L (λd r env hp2=>∃n:Int,env=J8 v (.int .i64 n) (.int .i64 d.length)/\hp2=hp/\L.foldl nJ 1=r.foldl nJ n) ?_ ?_ ?_;exact⟨1,rfl,rfl,rfl⟩;rintro env hp2 ⟨n,rfl,rfl,hJ⟩;have hG2:kS ds t=decide (n<=4096):=by rw[hG,hJ];rfl
 have hle:decide (4096<n) = !decide (n<=4096):=by rw[<-decide_not,dC];omega
 have hl0:(L.map aJ).length=L.length:=by simp
 rw[hl0]at hfl;cases hn:decide (n<=4096);rw[hn]at hle;simp only[J7,J8,↓hfl,bA,hle,go_sem,seval];exact x8 (by rw[hG2,hn]);rw[hn]at hle;simp only[J7,J8,↓hfl,bA,hle,go_sem,seval];have hfin:∀r,(∃nl cl,r = .tup [.sl nl (L.map aJ) cl,.int .i64 0])->qB ds t r:=λr hr=>aCY (by rw[hG2,hn]) (by rw[hL];exact hr);obtain⟨nl3,cl3,keys,hsn,_⟩:=ho'.snap (El.ints _) 61;rcases ho' with ⟨he,nl',cl',rfl,_⟩|⟨e,cs,rfl,hg,hu⟩
 refine Wk ?_;exact hfin _ ⟨nl',cl',by rw[he]⟩;simp only[aI]at hsn;simp only[Tev.conv,depth,eK,cF,bD,↓hsn,go_sem,aI];exact hfin _ ⟨_,_,rfl⟩;rintro d a r env hp2 hes ⟨n,rfl,rfl,hJ⟩;obtain⟨hget,e1,e2,ew⟩:=cX hes hLb;have hl0:(L.map aJ).length=L.length:=by simp
 rw[hl0]at hfl;have hgm:(L.map aJ)[d.length]?=some (.int .i64 a):=by rw[List.getElem?_map,hget];rfl
 rcases ho' with ⟨he,nl',cl',rfl,_⟩|⟨e,cs,rfl,hg,hu⟩
 have:L=[]:=by simpa using he
 rw[this]at hget;simp at hget;rw[gU]at hu;cases hu;have e2':((d.length:Int)<((L.map aJ).length:Int))=True:=by rw[hl0];exact e2
 simp only[J7,J8,e1,e2,hg,hget,Nat.mul_one,Nat.zero_add,mn2,ew,go_sem,seval];exact⟨_,rfl,hJ⟩;rintro d x r env hp hes ⟨v,rfl,g1,ho,hI⟩;obtain⟨hget,e1,e2,ew⟩:=cX hes hlb;have hdl:d.length<=t.shape.dims.es.length:=by rw[hes];simp
 rw[List.all_cons]at hI;have hr34:=h34 x nl cl ds hb;have hbad:kX ds x=false->kS ds t=false:=by intro h;rw[kS,hI,h];rfl
 simp only[SK,SL,g1,hget,e1,e2,go_sem,seval];refine aB hr34 ?_;cases b0:decide ((cG ds x).2=0);simp only[b0,go_sem,seval];exact x8 (hbad (by simp[kX,b0]));cases b1:decide (0<=(cG ds x).1);have b1':decide ((cG ds x).1<0)=true:=by simp at b1 ⊢;omega
 simp only[b0,b1',go_sem,seval];exact x8 (hbad (by simp[kX,b1]));have b1':decide ((cG ds x).1<0)=false:=by simp at b1 ⊢;omega
 cases b2:decide ((cG ds x).1<=4096);have b2':decide (4096<(cG ds x).1)=true:=by simp at b2 ⊢;omega
 simp only[b0,b1',b2',go_sem,seval];exact x8 (hbad (by simp[kX,b2]));have b2':decide (4096<(cG ds x).1)=false:=by simp at b2 ⊢;omega
 simp only[b0,b1',b2',go_sem,seval];refine eF (kb:=0) (s:=9) ho (El.ints _) (xs:=[.int .i64 (cG ds x).1]) (by intro z hz;simp at hz;subst hz;exact El.int _) (by simp only[aI,List.length_singleton];omega) (by decide) ?_;intro v' rd pa ho2 hk2 _;simp only[ew,go_sem,seval];refine⟨v',rfl,?_,by simpa[aJ] using ho2,?_⟩;rw[hk2 1 (by omega)];exact g1;rw[hI,kX,b0,b1,b2];rfl
end
end
section
section
variable{pg:Pg}
end
end
section
section
variable{pg:Pg}
end
end
section
def jQ(k:aA)(ds:List Val)(r:AV):Prop:=
 if dU k ds=0 then ∃nl cl,r = .tup [.sl nl ((fV (fT ds) (aF k) k.values.es).map aJ) cl,.int .i64 0] else r = .tup [.sl true [] true,.int .i64 (dU k ds)]
theorem aGb{k:aA}{ds:List Val}(h:¬(cP k).2=0):jQ k ds (.tup [.sl true [] true,.int .i64 22]):=by
 have:dU k ds=22:=by rw[dU,if_neg h]
 rw[jQ,this];rfl
theorem IR{k:aA}{ds:List Val}(h:(cP k).2=0)(h1:eqL eI ds k.vars.es=false):jQ k ds (.tup [.sl true [] true,.int .i64 1]):=by
 have:dU k ds=1:=by rw[dU,if_pos h,h1];rfl
 rw[jQ,this];rfl
theorem aGa{k:aA}{ds:List Val}(h:(cP k).2=0)(h1:eqL eI ds k.vars.es=true)(h2:k.wher.es.all (λl=>decide (0<=(cG ds l).1))=false):jQ k ds (.tup [.sl true [] true,.int .i64 2]):=by
 have:dU k ds=2:=by rw[dU,if_pos h,h1,h2];rfl
 rw[jQ,this];rfl
theorem YF{k:aA}{ds:List Val}(h:(cP k).2=0)(h1:eqL eI ds k.vars.es=true)(h2:k.wher.es.all (λl=>decide (0<=(cG ds l).1))=true)(h3:fI (λt=>(gF ds t).2) (aF k) k.values.es=false):jQ k ds (.tup [.sl true [] true,.int .i64 3]):=by
 have:dU k ds=3:=by rw[dU,if_pos h,h1,h2,h3];rfl
 rw[jQ,this];rfl
section
variable{pg:Pg}
set_option maxHeartbeats 1000000 in
theorem c17(hf:pg.fs 17=some aBx)(k:aA)(h10:bE pg 10 [k.av] (gD k))(nl cl:Bool)(ds:List Val)(hb:ds.length<=big)
  (h34:∀l:Lin,Ret pg 34 [l.av,.sl nl (ds.map Val.av) cl] (.tup [.int .i64 (cG ds l).1,.int .i64 (cG ds l).2]))
  (h35:∀t:Typ,bE pg 35 [t.av,.sl nl (ds.map Val.av) cl] (qB ds t)) :
  bE pg 17 [k.av,.sl nl (ds.map Val.av) cl] (jQ k ds):=by
 obtain⟨r9,hr9,hs9⟩:=h10;simp only[aA.av,aA.cells,Sl.av]at hr9;refine bE.ofX hf ?_;unfold aBx;simp only[aA.av,aA.cells,go_sem,seval];rcases jH (k:=k) with hc|hc;have ok:=dS hc;have hso:=ok.out;simp only[bO,aG,aY]at hso;obtain⟨_,⟨⟨⟨⟨⟨⟨_,_⟩,hi0⟩,_⟩,hiV⟩,_⟩,_⟩,_⟩:=hso;obtain⟨hov,hot⟩:=GR ok;have hsl:=kZ (k:=k) (by omega);have hVb:=k.values.ok;have htr:treeL ((aF k).map bQ)=true:=bJ (f:=bQ) (λs=>by simp[bQ,go_sem]) _;rw[gD,if_pos hc]at hs9;obtain⟨nl9,cl9,rfl⟩:=hs9;refine bT hr9 (by simp only[go_sem,seval]) (by first|rfl|(simp[AV.tree,htr])) ?_;cases hl:decide ((ds.length:Int)=k.vars.es.length)
 case false=>simp only[hl,go_sem,seval];exact IR hc (zZ hl)
 case true=>
  have hlv:ds.length=k.vars.es.length:=by have:=aM hl;omega
  simp only[hl,go_sem,seval]
  refine aK ds (λd r env hp=>env=S9 (.sl nl (ds.map Val.av) cl) (.pt 1 0 0) (.sl nl9 ((aF k).map bQ) cl9) (.int .i64 d.length) /\
   hp.get 1=some (0,.blk (bG k) 6 true true false)/\eqL eI ds k.vars.es=eqL eI r (k.vars.es.drop d.length)) ?_ ?_ ?_
  refine⟨rfl,?_,rfl⟩;refine Wk ?_;rfl;rintro env hp ⟨rfl,g1,hD⟩;have hD':eqL eI ds k.vars.es=true:=by rw[hD,oQ hlv]
  have hev:=M8 hD' hov;simp only[S6,S9,bA,go_sem,seval]
  refine aK k.wher.es (λd r env hp=>env=S8 (.sl nl (ds.map Val.av) cl) (.pt 1 0 0) (.sl nl9 ((aF k).map bQ) cl9) (.int .i64 d.length) /\
   hp.get 1=some (0,.blk (bG k) 6 true true false)/\k.wher.es.all (λl=>decide (0<=(cG ds l).1))=r.all (λl=>decide (0<=(cG ds l).1))) ?_ ?_ ?_
  exact⟨rfl,g1,rfl⟩;clear g1 hp;rintro env hp ⟨rfl,g1,hW⟩;have hW':k.wher.es.all (λl=>decide (0<=(cG ds l).1))=true:=by rw[hW];rfl
  have g1':=g1;simp only[bG]at g1;simp only[S5,S8,g1,bA,go_sem,seval];have hlb:(aF k).length<=big:=by rw[hsl];exact hVb
  refine aK (aF k) (λd r env hp=>∃w,env=E1 (.sl nl (ds.map Val.av) cl) (.pt 1 0 0) (.sl nl9 ((aF k).map bQ) cl9) w (.int .i64 d.length) /\
   hp.get 1=some (0,.blk (bG k) 6 true true false)/\Own hp 17 1 false w ((fV (fT ds) d k.values.es).map aJ) /\
   fI (λt=>(gF ds t).2) (aF k) k.values.es=fI (λt=>(gF ds t).2) r (k.values.es.drop d.length)) ?_ ?_ ?_
  exact⟨_,rfl,g1',Own.nil _ _ _ _ _ _ rfl,rfl⟩;clear g1 g1' hp;rintro env hp ⟨w,rfl,g1,ho,hS⟩;have hS':fI (λt=>(gF ds t).2) (aF k) k.values.es=true:=by rw[hS];rfl
  have hfin:∀r,(∃nl cl,r = .tup [.sl nl ((fV (fT ds) (aF k) k.values.es).map aJ) cl,.int .i64 0])->jQ k ds r:=by intro r hr;rw[jQ,if_pos (NH hc hD' hW' hS')];exact hr
  simp only[E0,E1,bA,go_sem,seval];obtain⟨nl3,cl3,keys,hsn,_⟩:=ho.snap (El.ints _) 61;rcases ho with ⟨he,nl',cl',rfl,_⟩|⟨e,cs,rfl,hg,hu⟩
  refine Wk ?_;exact hfin _ ⟨nl',cl',by rw[he]⟩;simp only[aI]at hsn;simp only[Tev.conv,depth,eK,cF,bD,↓hsn,go_sem,aI];exact hfin _ ⟨_,_,rfl⟩
  ·clear g1 g1' hp;rintro d x r env hp hes ⟨w,rfl,g1,ho,hS⟩;obtain⟨hget,x1,x2,xw⟩:=cX hes hlb;have hlt:d.length<k.values.es.length:=by rw[<-hsl,hes];simp
   obtain⟨t,ht⟩:∃t,k.values.es[d.length]?=some t:=⟨_,aX hlt⟩
   have hvl:((d.length:Int)<(k.values.es.length:Int))=True:=eq_true (by omega)
   have hSx:fI (λt=>(gF ds t).2) (aF k) k.values.es=((decide (x.1 = -2)||(gF ds t).2)&&fI (λt=>(gF ds t).2) r (k.values.es.drop (d++[x]).length)):=by rw[hS,kY hlt,fI];rw[aX hlt]at ht;cases ht;simp
   have hsno:=pU (fT ds) x d k.values.es t ht;have hslen:=mO (fT ds) d k.values.es (by omega);have hfx:=BF ok (show x∈aF k by rw[hes];simp);have hx0:bQ x = .agg [.int .i64 x.1,.int .i64 x.2]:=rfl;have h3:decide (-1<=x.1) = !decide (x.1 = -2):=by rw[<-decide_not,dC];rcases hfx with h|h<;>omega
   have g1':=g1;simp only[bG]at g1;simp only[big]at hVb;cases b1:decide (x.1 = -2)
   case true=>rw[b1]at h3;simp only[E0,E1,hget,x1,x2,hx0,h3,go_sem,seval];refine eF (kb:=0) (s:=17) ho (El.ints _) (xs:=[.int .i64 0]) (by intro z hz;simp at hz;subst hz;exact El.int _) (by simp only[aI,List.length_singleton];omega) (by decide) ?_;intro v' rd pa ho2 hk2 _;simp only[xw,go_sem,seval];refine⟨v',rfl,?_,?_,by rw[hSx,b1];rfl⟩;rw[hk2 1 (by omega)];exact g1';rw[hsno,if_pos (aM b1)];simpa[aJ] using ho2
   case false=>
   rw[b1]at h3;obtain⟨r35,hr35,hs35⟩:=h35 t;obtain⟨q1,q2⟩:=LZ hD' (hot t (List.mem_of_getElem? ht));rw[qB,q1]at hs35;cases b2:(gF ds t).2
   case false=>rw[b2]at hs35;simp only[Bool.false_eq_true,if_false]at hs35;subst hs35;simp only[E0,E1,hget,x1,x2,hx0,h3,g1,ht,hvl,go_sem,seval];refine aB hr35 (Wk ?_);exact YF hc hD' hW' (by rw[hSx,b1,b2];rfl)
   case true=>
   rw[b2]at hs35;simp only[if_true]at hs35;obtain⟨nl5,cl5,rfl⟩:=hs35;obtain⟨q3,_,_⟩:=q2 b2;simp only[E0,E1,hget,x1,x2,hx0,h3,g1,ht,hvl,go_sem,seval];refine bT hr35 (by simp only[go_sem,seval]) (by first|rfl|(simp[AV.tree,pG])) (Wk ?_);have hLb:(rH ds t).length<=big:=by have:=t.shape.dims.ok;simpa[rH] using this
   have hq3:(rH ds t).foldl (λn a=>wr .i64 (n*a)) 1=fT ds t:=q3;generalize rH ds t=L at hLb hq3;refine aK L (λd3 r3 env hp3=>∃n:Int,env=S7 (.sl nl (ds.map Val.av) cl) (.pt 1 0 0) (.sl nl9 ((aF k).map bQ) cl9) w (.int .i64 d.length) (.int .i64 n) (.sl nl5 (L.map aJ) cl5) (.int .i64 d3.length)/\hp3=hp/\L.foldl (λn a=>wr .i64 (n*a)) 1=r3.foldl (λn a=>wr .i64 (n*a)) n) ?_ ?_ ?_;exact⟨1,rfl,rfl,rfl⟩;rintro env hp3 ⟨n,rfl,rfl,hJ⟩;have hn:n=fT ds t:=by rw[<-hq3,hJ];rfl
   simp only[S4,S7,bA,go_sem,seval];refine eF (kb:=0) (s:=17) ho (El.ints _) (xs:=[.int .i64 n]) (by intro z hz;simp at hz;subst hz;exact El.int _) (by simp only[aI,List.length_singleton];omega) (by decide) ?_;intro v' rd pa ho2 hk2 _;simp only[xw,go_sem,seval];refine⟨v',rfl,?_,?_,by rw[hSx,b1,b2];rfl⟩;rw[hk2 1 (by omega)];exact g1';rw[hsno,if_neg (bH b1),<-hn];simpa[aJ] using ho2;rintro d3 a r3 env hp3 hes3 ⟨n,rfl,rfl,hJ⟩;obtain⟨hget3,f1,f2,fw⟩:=cX hes3 hLb;simp only[S4,S7,hget3,f1,f2,fw,go_sem,seval];exact⟨_,rfl,hJ⟩
  clear g1 hp;rintro d x r env hp hes ⟨rfl,g1,hW⟩;have hwb:=k.wher.ok;obtain⟨hget,x1,x2,xw⟩:=cX hes hwb;have hr34:=h34 x;rw[hev x (by rw[hes];simp)]at hr34;have g1':=g1;simp only[bG]at g1;simp only[S5,S8,g1,hget,x1,x2,go_sem,seval];refine aB hr34 (Wk ?_);cases b1:decide ((cG ds x).1<0)
  case true=>
   have b1':decide (0<=(cG ds x).1)=false:=by simp at b1 ⊢;omega
   simp only[b1,go_sem,seval];exact aGa hc hD' (by rw[hW,List.all_cons,b1'];rfl)
  have b1':decide (0<=(cG ds x).1)=true:=by simp at b1 ⊢;omega
  simp only[b1,xw,go_sem,seval];refine⟨rfl,?_,by rw[hW,List.all_cons,b1'];rfl⟩
  first|exact g1'|rfl
  rintro d x r env hp hes ⟨rfl,g1,hD⟩;obtain⟨hget,x1,x2,xw⟩:=cX hes hb;obtain⟨y,hy,_,hvl,hq⟩:=GJ (q:=eI) hes hlv;rw[hq]at hD;have g1':=g1;simp only[bG]at g1;simp only[S6,S9,g1,hy,hvl,hget,x1,x2,go_sem,seval];cases b1:decide (x.v.bs=y.bs)
  case false=>simp only[b1,go_sem,seval];exact⟨by kernel_rfl,IR hc (by rw[hD,eI,b1];rfl)⟩
  cases b2:decide (x.n<0)
  case true=>simp only[b1,b2,hget,x1,x2,go_sem,seval];exact⟨by kernel_rfl,IR hc (by rw[hD,eI,b1,b2];rfl)⟩
  cases b3:decide (4096<x.n)
  case true=>simp only[b1,b2,b3,hget,x1,x2,go_sem,seval];exact⟨by kernel_rfl,IR hc (by rw[hD,eI,b1,b2,b3];rfl)⟩
  simp only[b1,b2,b3,hget,x1,x2,xw,go_sem,seval];exact⟨by kernel_rfl,rfl,g1',by rw[hD,eI,b1,b2,b3];rfl⟩
 rw[gD,if_neg (by rw[hc];decide)]at hs9;subst hs9;refine aB hr9 (Wk ?_);exact aGb (by rw[hc];decide)
end
end
section
theorem F3{ds:List Val}{vars:List Str}(hD:eqL eI ds vars=true):∀(sp:List Sp)(vs:List Typ),(∀t∈vs,cU t.shape.dims.es vars=true)->fI (λt=>(gF ds t).2) sp vs=true->∀z∈fV (fT ds) sp vs,0<=z/\z<=4096
 |[],_,_,_,z,hz=>by simp[fV]at hz
 |_::_,[],_,_,z,hz=>by simp[fV]at hz
 |s::r,t::q,ht,hS,z,hz=>by simp only[fI,aG,Bool.or_eq_true,aY]at hS;simp only[fV,List.mem_cons]at hz;rcases hz with rfl|hz;by_cases h:s.1 = -2;rw[if_pos h];decide;rw[if_neg h];rcases hS.1 with h2|h2;exact absurd h2 h;exact((LZ hD (ht t (by simp))).2 h2).2;exact F3 hD r q (λu hu=>ht u (dH _ hu)) hS.2 z hz
def aIw(k:aA)(ds:List Val):List (Sp×Int):=(aF k).zip (fV (fT ds) (aF k) k.values.es)
theorem fR{k:aA}{ds:List Val}(h:dU k ds=0):(cP k).2=0/\eqL eI ds k.vars.es=true/\fI (λt=>(gF ds t).2) (aF k) k.values.es=true:=by simp only[dU]at h;split at h;rename_i h1;split at h;rename_i h2;split at h;split at h;rename_i h4;exact⟨h1,h2,h4⟩;simp at h;simp at h;simp at h;simp at h
theorem qG{k:aA}{ds:List Val}(ok:lH k):(aIw k ds).length=k.values.es.length/\(aF k).length=k.values.es.length/\(fV (fT ds) (aF k) k.values.es).length=k.values.es.length:=by have hso:=ok.out;simp only[bO,aG,aY]at hso;obtain⟨_,⟨⟨⟨⟨⟨⟨_,_⟩,hi0⟩,_⟩,hiV⟩,_⟩,_⟩,_⟩:=hso;have hsl:=kZ (k:=k) (by omega);have hzl:=mO (fT ds) (aF k) k.values.es (by omega);exact⟨by simp[aIw,List.length_zip,hsl,hzl],hsl,by omega⟩
section
variable{pg:Pg}
end
end
section
def frm(sp:List Sp)(n:Nat):Option Int:=sp[n]?.map (·.1)
theorem GS(sp:List Sp)(v x:Int)(n:Nat):frm (kA sp v x) n=frm sp n:=by
 simp only[frm,kA,List.getElem?_modify];cases sp[n]? with
 |none=>rfl
 |some s=>by_cases h:v.toNat=n<;>simp[h]
theorem zV(i:Nat):∀(l:List Int)(sp:List Sp)(n:Nat),frm (eP sp i l) n=frm sp n
 |[],_,_=>rfl
 |v::r,sp,n=>by have:=zV i r (kA sp v i) n;rw[GS]at this;exact this
theorem Z0(sp:List Sp)(i:Nat)(q:aH)(n:Nat)(f:Int)(h:frm (nR sp i q) n=some f):frm sp n=some f\/(q.value.toNat=n/\f=i):=by
 rw[nR,zV,GS]at h;split at h;simp only[frm,iX,List.getElem?_modify]at h;by_cases hv:q.value.toNat=n;right;refine⟨hv,?_⟩;cases hs:sp[n]? with
 |none=>rw[hs]at h;simp at h
 |some s=>rw[hs]at h;simp[hv]at h;omega
 left;cases hs:sp[n]? with
 |none=>rw[hs]at h;simp at h
 |some s=>rw[hs]at h;simp[hv]at h;simp[frm,hs,h]
 exact .inl h
theorem UQ:∀(L:List aH)(sp:List Sp)(i n:Nat)(f:Int),frm (iT sp i L) n=some f->frm sp n=some f\/∃(j:Nat)(q:aH),L[j]?=some q/\q.value.toNat=n/\f=((i+j:Nat):Int)
 |[],_,_,_,_,h => .inl h
 |q::r,sp,i,n,f,h=>by
  rcases UQ r (nR sp i q) (i+1) n f h with h|⟨j,q',h1,h2,h3⟩
  rcases Z0 sp i q n f h with h|⟨h1,h2⟩
  exact .inl h;exact .inr ⟨0,q,rfl,h1,by simpa using h2⟩;exact .inr ⟨j+1,q',h1,h2,by rw[h3];omega⟩
theorem WJ{k:aA}{n:Nat}{f:Int}(h:frm (aF k) n=some f):f = -2\/(f = -1/\n<k.inputs.toNat)\/∃(j:Nat)(q:aH),k.list.es[j]?=some q/\q.value.toNat=n/\f=(j:Int):=by
 rw[aF,show pT=λsp n l=>eP sp n l from rfl]at h;simp only at h;rw[zV]at h;rcases UQ _ _ _ _ _ h with h|⟨j,q,h1,h2,h3⟩
 simp only[frm,eD,List.getElem?_append,PH]at h;split at h;rename_i hn;rw[List.getElem?_replicate,if_pos hn]at h;simp at h;exact .inr (.inl ⟨h.symm,hn⟩);rw[List.getElem?_replicate]at h;split at h;simp at h;exact .inl h.symm;simp at h;exact .inr (.inr ⟨j,q,h1,h2,by simpa using h3⟩)
end
section
end
end Go.Tev
