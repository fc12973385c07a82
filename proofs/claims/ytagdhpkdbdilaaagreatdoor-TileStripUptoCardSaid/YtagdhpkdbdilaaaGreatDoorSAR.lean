import Derived.Test.YtagdhpkdbdilaaaGreatDoorSAQ
import Derived.Lib.AtoiAll
import Derived.Lib.AtoiAllCases
import Derived.Test.YtagdhpkdbdilaaaGreatDoorSAH
import Derived.Lib.SlicesCompact
import Derived.Lib.ItoaNum
import Derived.Lib.AtoiErrMem
import Derived.Sort.Grow
import Derived.KernelRfl
import Derived.Shelf.Strconv.Itoa3
import Derived.Shelf.LaysM
import Derived.Shelf.LaysC
import Derived.Shelf.Strconv.AtoiAll
import Derived.Ground.Names2Prog
import Derived.Test.YtagdhpkdbdilaaaGreatDoorProg
set_option linter.all false
namespace Go.Tev
section
mutual
def aE.sz:aE->Nat
 |.mk _ _ _ _ _ _ _ _ _ kids _=>1+aE.szL kids
def aE.szL:List aE->Nat
 |[]=>0
 |p::r=>p.sz+aE.szL r
end
theorem aE.sz_eq(p:aE):p.sz=1+aE.szL p.kids:=by cases p;rw[aE.sz];rfl
theorem aE.szL_mem:∀{l:List aE}{q:aE},q∈l->q.sz<=aE.szL l
 |x::r,q,h=>by rcases List.mem_cons.1 h with rfl|h;rw[aE.szL];omega;have:=aE.szL_mem h;rw[aE.szL];omega
mutual
def iI(values:Int):aE->List Str->Bool
 |.mk op num value name at_ dyn check fn knl kids kcl,vars=>
  iP (.mk op num value name at_ dyn check fn knl kids kcl) vars values&&bW at_.es vars&&fB values (decide (op.bs=[114,101,100,117,99,101])) name vars 0 kids
def fB(values:Int)(red:Bool)(name:Str)(vars:List Str):Nat->List aE->Bool
 |_,[]=>true
 |i,k::r=>iI values k (if red&&decide ((i:Int)=1) then vars++[name] else vars)&&fB values red name vars (i+1) r
end
theorem HP(values:Int)(p:aE)(vars:List Str):iI values p vars=(iP p vars values&&bW p.at_.es vars&&fB values (decide (p.op.bs=[114,101,100,117,99,101])) p.name vars 0 p.kids):=by cases p;rw[iI];rfl
theorem Own.snap{h:Hp}{k0 esz:Nat}{ag:Bool}{v:AV}{es:List AV}(o:Own h k0 esz ag v es)(he:∀x∈es,El esz ag x)(d:Nat):∃nl cl keys,Tev.snap (d+2) h v=some (.sl nl es cl,keys)/\(nl=true->es=[]):=by
 rcases o with ⟨rfl,nl,cl,rfl,hc⟩|⟨e,cs,rfl,hg,hu⟩
 exact⟨nl,cl,[],by rw[l7];rfl,λ_=>rfl⟩;obtain⟨cs',h1,h2,h3,h4⟩:=bE he;rw[hu]at h1;cases h1;have h5:=h4 [];rw[List.append_nil]at h5;have ht:treeL es=true:=by
  clear h2 h4 h5 hu hg
  induction es with
  |nil=>rfl
  |cons x r ih=>simp only[treeL,aF];exact⟨(he x (by simp)).tree,ih (λy hy=>he y (bS _ hy))⟩
 have h6:mapS (Tev.snap (d+1) h) es=some (es,[]):=cX d h ht;exact⟨false,false,[k0],by rw[l7];simp[hg,h5,h6,AV.tree],λh=>by cases h⟩
theorem sI{h:Hp}{d:Nat}{a:AV}(ha:a.tree=true):Tev.snap (d+1) h a=some (a,[]):=by rw[l7,if_pos ha]
theorem lT{h:Hp}{d:Nat}{a b c b':AV}{keys:List Nat}(ha:a.tree=true)(hb:Tev.snap (d+1) h b=some (b',keys))(hc:c.tree=true):mapS (Tev.snap (d+1) h) [a,b,c]=some ([a,b',c],keys):=by simp[fR,lE,sI ha,sI hc,hb]
section
variable{pg:Pg}
def iK(p:aE)(vars:List Str)(v:Int):Bool:=decide (jA p<=4000)&&iI v p vars
def gK(a b:aJ):Bool:=decide (a.op.bs=b.op.bs)&&decide (a.num=b.num)&&eqL (λx y=>decide (x=y)) a.args.es b.args.es
mutual
def bT:aE->aE->Bool
 |.mk op num value name at_ dyn check fn knl kids kcl,q=>decide (op.bs=q.op.bs)&&decide (num=q.num)&&decide (value=q.value)&&decide (name.bs=q.name.bs)&&(dyn==q.dyn)&&decide (check=q.check)&&eqL bU at_.es q.at_.es&&eqL gK fn.es q.fn.es&&kH kids q.kids
def kH:List aE->List aE->Bool
 |[],l=>l.isEmpty
 |p::r,l=>match l with|[]=>false|q::s=>bT p q&&kH r s
end
theorem iL(p q:aE):bT p q=(decide (p.op.bs=q.op.bs)&&decide (p.num=q.num)&&decide (p.value=q.value)&&decide (p.name.bs=q.name.bs)&&(p.dyn==q.dyn)&&decide (p.check=q.check)&&eqL bU p.at_.es q.at_.es&&eqL gK p.fn.es q.fn.es&&kH p.kids q.kids):=by cases p;rw[bT];rfl
theorem fG:∀a b:List aE,kH a b=eqL bT a b
 |[],[]=>by simp[kH,eqL]
 |[],_::_=>by simp[kH,eqL]
 |_::_,[]=>by simp[kH,eqL]
 |p::r,q::s=>by simp[kH,eqL,fG r s]
end
end
section
mutual
def qP:aE->List Int
 |.mk op _ value _ _ _ _ _ _ kids _=>(if decide (op.bs=[114,101,97,100]) then [value] else [])++mS kids
def mS:List aE->List Int
 |[]=>[]
 |p::r=>qP p++mS r
end
mutual
theorem EW:∀p:aE,(qP p).length<=p.sz
 |.mk op num value name at_ dyn check fn knl kids kcl=>by have:=tH kids;rw[qP,aE.sz,cA];split<;>simp<;>omega
theorem tH:∀l:List aE,(mS l).length<=aE.szL l
 |[]=>by simp[mS,aE.szL]
 |p::r=>by have h1:=EW p;have h2:=tH r;simp only[mS,aE.szL,cA];omega
end
def qH(pg:Pg)(f:Nat)(vs:List AV)(kb:Nat)(h:Hp)(P:AV->Hp->Prop):Prop:=∃r h',wI pg f vs kb h r h'/\P r h'
def MR(res:List (Sum Nat (Nat×Nat×Bool)))(P:AV->Hp->Prop)(ex:Ex)(st:St):Prop:=
 match ex with
 |.ext _=>False
 |_=>∃v,result st res=some v/\P v st.hp
theorem JJ(res:List (Sum Nat (Nat×Nat×Bool)))(P:AV->Hp->Prop)(st:St):MR res P .nor st=∃v,result st res=some v/\P v st.hp:=rfl
theorem JI(res:List (Sum Nat (Nat×Nat×Bool)))(P:AV->Hp->Prop)(st:St):MR res P .ret st=∃v,result st res=some v/\P v st.hp:=rfl
attribute [go_sem ↓] JJ JI
section
variable{pg:Pg}{kb:Nat}
theorem qH.ofX{f:Nat}{cf:CF}{vs:List AV}{h:Hp}{P:AV->Hp->Prop}(hf:pg.fs f=some cf)(hw:XX pg kb cf.body ⟨enter cf vs,h⟩ (MR cf.res P) ⟨⟩):qH pg f vs kb h P:=by
 obtain⟨n,ex,st,h1,h2⟩:=hw;cases ex with
 |ext i=>exact h2.elim
 |nor=>obtain⟨v,h3,h4⟩:=h2;exact⟨v,st.hp,wI.of hf ⟨n,.nor,st,h1,trivial,h3,rfl⟩,h4⟩
 |ret=>obtain⟨v,h3,h4⟩:=h2;exact⟨v,st.hp,wI.of hf ⟨n,.ret,st,h1,trivial,h3,rfl⟩,h4⟩
theorem J0{f s:Nat}{th im:Bool}{h:Hp}{vs:List AV}{P:AV->Hp->Prop}{Q:AV->Eff->Prop}{t:Tok Q}(hm:im=true\/mapS (snap depth h) vs=none){B:Nat}(hB:j7 kb s vs=B)(hr:qH pg f vs B h P)
   (hq:∀r h',P r h'->Q r (.whole h')):XO pg kb (.call f th im) s h vs Q t:=by
 obtain⟨r,h',h1,h2⟩:=hr;exact ON hm hB h1 (hq r h' h2)
theorem BO{esz bytes s k1:Nat}{ag:Bool}{h:Hp}{v:AV}{es xs:List AV}{nl cl:Bool}{Q:AV->Eff->Prop}{t:Tok Q}(o:Own h k1 esz ag v es)(he:∀x∈es,El esz ag x)(hx:∀x∈xs,El esz ag x)(hxs:xs≠[])
  (hl:es.length+xs.length<=1073741824) (hb:bytes<=65536)
  (q2:∀v' rd pa,Own (Eff.app h (.pat rd pa)) (kb+s) esz ag v' (es++xs)->(∀k,k≠kb+s->k≠k1->(Eff.app h (.pat rd pa)).get k=h.get k)->Q v' (.pat rd pa)) :
  XO pg kb (.app esz ag bytes) s h [v,.sl nl xs cl] Q t:=by
 by_cases hk:k1=kb+s;subst hk;exact nA o he hx hl hb (λv' rd pa h1 h2 _=>q2 v' rd pa h1 (λk h3 _=>h2 k h3));exact TU o hk he hx hl hb (λh=>absurd h hxs) (λ_ v' rd pa h1 h2=>q2 v' rd pa h1 h2)
def Out(h:Hp)(v:AV)(es:List Int):Prop:=∃k,Own h k 1 false v (es.map bL)/\65536<=k/\k % 65536=5
theorem El.ints(l:List Int):∀x∈l.map bL,El 1 false x:=by intro x hx;simp only[List.mem_map]at hx;obtain⟨y,_,rfl⟩:=hx;exact⟨rfl,rfl,rfl⟩
theorem Out.put{h:Hp}{v:AV}{es:List Int}(o:Out h v es){q e:Nat}{ob:Ob}(hq:q<65536\/q % 65536≠5):Out (h.put q e ob) v es:=by obtain⟨k,o,h1,h2⟩:=o;refine⟨k,o.mono ?_,h1,h2⟩;rw[aI,if_neg (by intro h;subst h;omega)]
theorem Own.one{h:Hp}{k0 esz:Nat}{ag:Bool}{v:AV}{es:List AV}(o:Own h k0 esz ag v es):v.fits 1 false=true/\v.one=true/\v.cells=[v]:=by
 rcases o with ⟨rfl,nl,cl,rfl,hc⟩|⟨e,cs,rfl,hg,hu⟩
 exact⟨rfl,rfl,rfl⟩;exact⟨rfl,rfl,rfl⟩
end
end
section
def aSl(x:Int):List Int->List Int
 |[]=>[x]
 |y::r=>if x<=y then x::y::r else y::aSl x r
def KA:List Int->List Int
 |[]=>[]
 |x::r=>aSl x (KA r)
def x3:List Int->List Int
 |[]=>[]
 |[x]=>[x]
 |x::y::r=>if x=y then x3 (y::r) else x::x3 (y::r)
def KF(p:aE):List Int:=x3 (KA (qP p))
theorem oZ:∀(l:List Int),aP 1 false (l.map bL)=some (l.map bL)
 |[]=>rfl
 |x::r=>by have ih:=oZ r;rw[List.map_cons,aP,ih];rfl
section
variable{pg:Pg}
theorem qH.mono{f:Nat}{vs:List AV}{kb:Nat}{h:Hp}{P P':AV->Hp->Prop}(hr:qH pg f vs kb h P)(hP:∀r h',P r h'->P' r h'):qH pg f vs kb h P':=by obtain⟨r,h',a,b⟩:=hr;exact⟨r,h',a,hP r h' b⟩
end
end
section
def mJ:Nat->Nat->List UInt8
 |0,_=>[]
 |f+1,u=>if u<10 then [UInt8.ofNat (48+u)] else mJ f (u / 10)++[UInt8.ofNat (48+u % 10)]
def fX(acc:Nat)(l:List UInt8):Nat:=l.foldl (λa c=>a*10+(c.toNat-48)) acc
theorem vB:∀(l:List UInt8)(acc:Nat),acc<=fX acc l
 |[],acc=>Nat.le_refl _
 |c::r,acc=>by have:=vB r (acc*10+(c.toNat-48));simp only[fX,List.foldl_cons]at this ⊢;omega
theorem DB:∀(l:List UInt8)(acc:Nat),l.all cD=true->fX acc l<(acc+1)*10 ^ l.length
 |[],acc,_=>by simp[fX]
 |c::r,acc,h=>by simp only[List.all_cons,aF,cD,cY]at h;have:=DB r (acc*10+(c.toNat-48)) (by simpa[cD] using h.2);simp only[fX,List.foldl_cons,List.length_cons,Nat.pow_succ]at this ⊢;refine Nat.lt_of_lt_of_le this ?_;rw[Nat.mul_comm (10 ^ r.length) 10,<-Nat.mul_assoc];exact Nat.mul_le_mul_right _ (by omega)
theorem FS(l:List UInt8)(c:UInt8)(acc:Nat):fX acc (l++[c])=fX acc l*10+(c.toNat-48):=by simp[fX]
theorem pD:∀(l:List UInt8)(acc:Nat),l.all cD=true->fX acc l<1844674407370955162->Lib.parseUint10 acc l = .ok (fX acc l)
 |[],acc,_,_=>rfl
 |c::r,acc,h,hb=>by simp only[List.all_cons,aF]at h;have hd:=h.1;simp only[cD,aF,cY]at hd;have h1:=vB r (acc*10+(c.toNat-48));have e:fX acc (c::r)=fX (acc*10+(c.toNat-48)) r:=rfl;rw[e]at hb ⊢;rw[Lib.parseUint10,if_pos hd,if_neg (by omega),if_neg (by omega)];exact pD r _ h.2 hb
theorem xY{l:List UInt8}(h:l.all cD=true)(h0:l≠[])(hh:l.head? ≠ some 48):0<fX 0 l:=by
 cases l with
 |nil=>exact absurd rfl h0
 |cons c r=>simp only[List.all_cons,aF,cD,cY]at h;have h1:=vB r (0*10+(c.toNat-48));have h2:c.toNat≠48:=λe=>hh (by simp;exact UInt8.toNat_inj.1 e);have e:fX 0 (c::r)=fX (0*10+(c.toNat-48)) r:=rfl;rw[e];omega
theorem DA:∀(n f:Nat)(l:List UInt8),l.length=n->n<=f->l.all cD=true->l≠[]->l.head? ≠ some 48->mJ f (fX 0 l)=l
 |0,f,l,hn,_,_,h0,_=>absurd (eY hn) h0
 |n+1,f,l,hn,hf,hd,h0,hh=>by
  obtain⟨f,rfl⟩:∃g,f=g+1:=⟨f-1,by omega⟩
  obtain⟨l',c,rfl⟩:∃l' c,l=l'++[c]:=by
   rcases EL l with h|⟨l',c,h⟩
   exact absurd h h0;exact⟨l',c,by simpa using h⟩
  simp only[List.all_append,List.all_cons,List.all_nil,Bool.and_true,aF]at hd;have hc:=hd.2;simp only[cD,aF,cY]at hc;have hcc:UInt8.ofNat (48+(c.toNat-48))=c:=by rw[Nat.add_sub_cancel' hc.1];exact UInt8.ofNat_toNat
  rw[FS];by_cases hl:l'=[]
  subst hl;have:fX 0 []=0:=rfl;rw[this,mJ,if_pos (by omega)];simp only[Nat.zero_mul,Nat.zero_add,List.nil_append];rw[hcc];have hh':l'.head? ≠ some 48:=by
   cases l' with
   |nil=>exact absurd rfl hl
   |cons x r=>simpa using hh
  have hp:=xY hd.1 hl hh';rw[mJ,if_neg (by omega)];have e1:(fX 0 l'*10+(c.toNat-48)) / 10=fX 0 l':=by omega
  have e2:(fX 0 l'*10+(c.toNat-48)) % 10=c.toNat-48:=by omega
  rw[e1,e2,hcc,DA n f l' (by simpa using hn) (by omega) hd.1 hl hh']
theorem vA:∀(f u:Nat),0<u->u<10 ^ f->(mJ f u).all cD=true/\mJ f u≠[]/\(mJ f u).head? ≠ some 48
 |0,u,h,hu=>by simp at hu;omega
 |f+1,u,h,hu=>by
  have hof:∀n:Nat,n<10->(UInt8.ofNat (48+n)).toNat=48+n:=λn hn=>by simp;omega
  rw[mJ];split;rename_i h1;refine⟨by simp[cD,hof u h1];omega,by simp,?_⟩;intro he;simp only[List.head?_cons,aU]at he;have:=congrArg UInt8.toNat he;rw[hof u h1]at this;simp at this;omega;obtain⟨a,b,c⟩:=vA f (u / 10) (by omega) (by rw[Nat.pow_succ]at hu;omega);refine⟨?_,by simp,?_⟩;rw[List.all_append,a];simp[cD,hof (u % 10) (by omega)];omega;cases hx:mJ f (u / 10) with
  |nil=>exact absurd hx b
  |cons x r=>rw[hx]at c;simpa using c
def gG(t:List UInt8):Bool:=
 match Lib.atoiAll t with
 |.ok v=>decide (0<v)&&decide ((t.length:Int)+1<=10)&&decide (mJ 20 v.toNat=t)
 |_=>false
theorem EE(t:List UInt8):gG t=(decide (2<=t.length+1)&&decide (t.length+1<=10) && !decide (t.head?=some 48)&&t.all cD):=by
 cases hr:(decide (2<=t.length+1)&&decide (t.length+1<=10) && !decide (t.head?=some 48)&&t.all cD);cases ha:gG t;rfl;exfalso;simp only[gG]at ha;split at ha;rename_i v hv;simp only[aF,cY]at ha;obtain⟨⟨h1,h2⟩,h3⟩:=ha;obtain⟨hb1,hb2⟩:v.toNat<10 ^ 20/\0<v.toNat:=by
  have hv2:v.toNat<18446744073709551616:=by
   cases t with
   |nil=>simp[Lib.atoiAll]at hv
   |cons c r=>
    simp only[Lib.atoiAll]at hv;split at hv;cases hv;cases hv;rename_i u hu;have:=Lib.parseMag_lt hu;split at hv;cases hv;split at hv;cases hv;injection hv with hv
    split at hv<;>omega
  exact⟨by omega,by omega⟩
 obtain⟨a,b,c⟩:=vA 20 v.toNat hb2 hb1;rw[h3]at a b c;have hlen:0<t.length:=List.length_pos_iff.2 b;simp[a,c]at hr;omega;cases ha;simp only[aF,gI,cY,sY]at hr;obtain⟨⟨⟨h1,h2⟩,h3⟩,h4⟩:=hr;have h0:t≠[]:=by rintro rfl;simp at h1
 have hlt:=DB t 0 h4;have hpow:(10:Nat) ^ t.length<=10 ^ 9:=Nat.pow_le_pow_right (by decide) (by omega);have hsm:fX 0 t<1844674407370955162:=by
  have:(10:Nat) ^ 9=1000000000:=by decide
  omega
 have hp:=pD t 0 h4 hsm;have hpos:=xY h4 h0 h3;have hv:Lib.atoiAll t = .ok ((fX 0 t:Nat):Int):=by
  cases t with
  |nil=>exact absurd rfl h0
  |cons c r=>
   have hc:cD c=true:=by simp only[List.all_cons,aF]at h4;exact h4.1
   simp only[cD,aF,cY]at hc;simp only[Lib.atoiAll];rw[if_neg (by omega)];simp only[Lib.parseMag];rw[if_neg (by simp),hp];simp only;rw[if_neg (by omega),if_neg (by omega),if_neg (by omega)]
 have hd:=DA t.length 20 t rfl (by omega) h4 h0 h3;simp only[gG,hv,Int.toNat_natCast,hd,decide_true,Bool.and_true,aF,cY];omega
end
section
def m5(args:List AV)(_:Nat)(h:Hp):Option (AV×Hp):=
 match args with
 |[.str s]=>
  if s.length<=16777216 then
   match Lib.atoiAll s with
   |.ok v=>some (.tup [.int .i64 v,.nili],h)
   |.range=>some (.tup [.int .i64 (Lib.atoiSat s),.ifc .top],h)
   |_=>some (.tup [.int .i64 0,.ifc .top],h)
  else none
 |_=>none
def m0(args:List AV)(_:Nat)(h:Hp):Option (AV×Hp):=
 match args with
 |[.int .i64 n]=>if 0<=n/\n<=9223372036854775807 then some (.str (mJ 20 n.toNat),h) else none
 |_=>none
def FG:List AV->Option (List Int)
 |[]=>some []
 |.int .i64 n::r=>(FG r).map (n :: ·)
 |_=>none
def aID(args:List AV)(_:Nat)(h:Hp):Option (AV×Hp):=
 match args with
 |[.sl _ [] _]=>some (.tup [],h)
 |[.rf k e off len _]=>
  match h.get k with
  |some (e',.blk cs 1 false ti false)=>
   if e'=e/\off+len<=cs.length/\len<=16777216 then
    match FG ((cs.drop off).take len) with
    |some zs=>some (.tup [],h.put k e (.blk (dA cs off ((KA zs).map bL)) 1 false ti false))
    |none=>none
   else none
  |_=>none
 |_=>none
def aIF(args:List AV)(_:Nat)(h:Hp):Option (AV×Hp):=
 match args with
 |[.sl nl [] cl]=>some (.sl nl [] cl,h)
 |[.rf k e off len cap]=>
  match h.get k with
  |some (e',.blk cs 1 false ti false)=>
   if e'=e/\off+len<=cs.length/\len<=16777216 then
    match FG ((cs.drop off).take len) with
    |some zs=>some (.rf k e off (x3 zs).length cap,h.put k e (.blk (dA cs off ((x3 zs++List.replicate (zs.length-(x3 zs).length) 0).map bL)) 1 false ti false))
    |none=>none
   else none
  |_=>none
 |_=>none
structure Ora(pg:Pg):Prop where
 f92:pg.fs 92=none
 f93:pg.fs 93=none
 f75:pg.fs 75=none
 f76:pg.fs 76=none
 atoi:pg.ex 92=some m5
 itoa:pg.ex 93=some m0
 sort:pg.ex 75=some aID
 comp:pg.ex 76=some aIF
structure OraN(pg:Pg):Prop where
 f92:pg.fs 92=none
 f93:pg.fs 93=none
 atoi:pg.ex 92=some m5
 itoa:pg.ex 93=some m0
section
variable{pg:Pg}
theorem Ora.n(A:Ora pg):OraN pg:=⟨A.f92,A.f93,A.atoi,A.itoa⟩
theorem tE{f:Nat}{g:List AV->Nat->Hp->Option (AV×Hp)}(hf:pg.fs f=none)(hx:pg.ex f=some g){vs:List AV}{r:AV}(hg:g vs 0 []=some (r,[]))(hr:r.tree=true):Ret pg f vs r:=
 ⟨1,by simp only[aB,bP,hf,hx,hg,rB hr]⟩
def nm:Bool->List UInt8->Bool
 |_,[]=>true
 | fst,c::r=>(cZ c||(!fst&&cD c))&&nm false r
theorem KV:∀r,nm false r=r.all (λx=>cZ x||cD x)
 |[]=>rfl
 |c::r=>by simp[nm,KV r]
theorem CD{s:List UInt8}(h:s.head? ≠ some 95):c8 s=(nm true s&&(!decide (s=[])&&decide ((s.length:Int)<=30))):=by
 cases s with
 |nil=>rfl
 |cons c t=>
  have hc:c≠95:=λe=>h (by simp[e]);simp only[c8,if_neg hc,nm,KV];have:decide ((c::t).length<=30)=decide (((c::t).length:Int)<=30):=by rw[cJ];omega
  rw[this];cases cZ c<;>cases (t.all λx=>cZ x||cD x)<;>cases decide (((c::t).length:Int)<=30)<;>rfl
theorem CC(t:List UInt8):c8 (95::t)=gG t:=by
 rw[EE];simp only[c8,if_true,List.length_cons];cases h:decide (t.length+1<=10);simp;have:t.length+1<=30:=by simp at h;omega
 simp[this]
set_option maxHeartbeats 8000000 in
theorem bAh(A:OraN pg)(hf:pg.fs 57=some NC)(h91:pg.fs 91=some JK)(h126:pg.fs 126=some vP)(s:Str):Ret pg 57 [.str s.bs] (.bool (c8 s.bs)):=by
 obtain⟨s,hb⟩:=s;have a91:=c91 h91 h126 s [95];have hb':s.length<=16777216:=by simpa[big] using hb
 refine Ret.ofX hf ?_;unfold NC;simp only[go_sem,seval];refine aG a91 ?_;cases hu:(decide ([(95:UInt8)].length<=s.length)&&decide (s.take [(95:UInt8)].length=[95]))
 case true=>
  obtain⟨t,rfl⟩:∃t,s=95::t:=by
   cases s with
   |nil=>simp at hu
   |cons c t=>simp at hu;exact⟨t,by rw[hu]⟩
  have hlen:(((95:UInt8)::t).length:Int)=(t.length:Int)+1:=by simp
  have hlen2:((t.length+1:Nat):Int)=(t.length:Int)+1:=by simp
  have hs1:∀h,rT true false [.str (95::t),.int .i64 1]=some (.str t,.pat [] [])/\h=h:=fun(h:Hp)=>by refine⟨?_,rfl⟩;simp only[rT,gT,Bool.false_eq_true,if_false,if_true,Option.getD_none,Option.getD_some];rw[if_pos ⟨by omega,by simp;omega,by omega⟩];simp[val]
  have hs2:=(hs1 []).1;have hn:c8 (95::t)=gG t:=CC t;have htl:t.length<=16777216:=by simp at hb';omega
  have hex:m5 [.str t] 0 []=(match Lib.atoiAll t with|.ok v=>some (.tup [.int .i64 v,.nili],[])|.range=>some (.tup [.int .i64 (Lib.atoiSat t),.ifc .top],[])|_=>some (.tup [.int .i64 0,.ifc .top],[])):=by simp only[m5];rw[if_pos htl]
  rw[hn];simp only[↓hs2,go_sem,seval];cases hat:Lib.atoiAll t
  case range=>rw[hat]at hex;refine aG (tE A.f92 A.atoi hex (by simp[AV.tree,treeL])) ?_;simp only[go_sem,seval];refine cC ?_;simp only[gG,hat]
  case ok v=>
   rw[hat]at hex;refine aG (tE A.f92 A.atoi hex (by simp[AV.tree,treeL])) ?_;have hres:gG t=(decide (0<v)&&decide ((t.length:Int)+1<=10)&&decide (mJ 20 v.toNat=t)):=by simp only[gG,hat]
   rw[hres];cases b1:decide (0<v)
   case false=>
    simp only[b1,go_sem,seval]
    first|(refine cC ?_;rfl)|kernel_rfl
   have hv0:0<v:=by simpa using b1
   have hvb:=Lib.atoiAll_bounds hat;have hit:Ret pg 93 [.int .i64 v] (.str (mJ 20 v.toNat)):=by refine tE A.f93 A.itoa ?_ rfl;simp only[m0];rw[if_pos (by omega)]
   cases b2:decide ((t.length:Int)+1<=10)
   case false=>
    simp only[b1,hlen,hlen2,b2,go_sem,seval]
    first|(refine cC ?_;rfl)|kernel_rfl
   simp only[b1,hlen,hlen2,b2,go_sem,seval];refine aG hit ?_;simp only[↓hs2,go_sem,seval]
   first|(refine cC ?_;rfl)|kernel_rfl
  rw[hat]at hex;refine aG (tE A.f92 A.atoi hex (by simp[AV.tree,treeL])) ?_;simp only[go_sem,seval];refine cC ?_;simp only[gG,hat]
 case false=>
  have hh:s.head? ≠ some 95:=by
   intro he;cases s with
   |nil=>simp at he
   |cons c t=>simp at he;subst he;simp at hu
  rw[CD hh];simp only[go_sem,seval];refine iB s (λd e=>dC e (some 36) (.int .i64 d.length)) (λd r hp=>nm true s=nm d.isEmpty r) rfl ?_ ?_ ?_;rfl;rintro hp hI;have:nm true s=true:=by rw[hI];simp[nm]
  rw[this];cases c1:decide (s=[]);simp only[A2,A1,c1,go_sem,seval];simp only[A2,A1,c1,go_sem,seval]
  ·rintro d c r hp hes hI;rw[hes]at hb hI;have hw:=gJ hb;rw[hes];have hnm:nm true (d++c::r)=((cZ c||(!d.isEmpty&&cD c))&&nm false r):=hI;have hde:decide ((d.length:Int)=0)=d.isEmpty:=by
    cases d with
    |nil=>simp
    |cons x r=>simp;omega
   have happ:(d++[c]).isEmpty=false:=by simp
   have hlet:cZ c=(!(decide ((c.toNat:Int)<97)) && !(decide ((122:Int)<c.toNat))):=by simp only[cZ];by_cases h1:97<=c.toNat<;>by_cases h2:c.toNat<=122<;>simp[h1,h2]<;>omega
   have hdig:cD c=(!(decide ((c.toNat:Int)<48)) && !(decide ((57:Int)<c.toNat))):=by simp only[cD];by_cases h1:48<=c.toNat<;>by_cases h2:c.toNat<=57<;>simp[h1,h2]<;>omega
   rw[hlet,hdig]at hnm;clear hlet hdig hI hes a91 hu hh hb';cases e1:decide ((c.toNat:Int)<97)<;>cases e2:decide ((122:Int)<c.toNat)<;>cases e3:d.isEmpty<;>cases e4:decide ((c.toNat:Int)<48)<;>cases e5:decide ((57:Int)<c.toNat)
   all_goals (rw[e1,e2,e3,e4,e5]at hnm)
   all_goals (rw[e3]at hde)
   all_goals (simp only[Bool.not_true,Bool.not_false,Bool.and_true,Bool.and_false,Bool.or_true,Bool.or_false,Bool.true_and,Bool.false_and]at hnm)
   all_goals (rw[hnm])
   all_goals (simp only[A2,A1,e1,e2,hde,e4,e5,hw,happ,go_sem,seval])
theorem aZI(A:OraN pg)(i:Nat)(hi:i<10):Ret pg 93 [.int .i64 (i:Int)] (.str [UInt8.ofNat (48+i)]):=by refine tE A.f93 A.itoa ?_ rfl;simp only[m0];rw[if_pos (by omega)];simp only[Int.toNat_natCast,mJ];rw[if_pos hi]
end
end
section
open Go.Sort
theorem m6:∀(f u:Nat),u<10 ^ f->Lib.decDigits u=mJ f u\/f=0
 |0,u,_ => .inr rfl
 |f+1,u,h=>by left;rw[mJ,Lib.decDigits];by_cases h1:u<10;rw[dif_pos h1,if_pos h1];rw[dif_neg h1,if_neg h1];rcases m6 f (u / 10) (by rw[Nat.pow_succ]at h;omega) with h2|h2;rw[h2];subst h2;simp at h;omega
theorem I3{n:Int}(h0:0<=n)(h1:n<=9223372036854775807):Lib.itoa n=mJ 20 n.toNat:=by rw[Lib.itoa,if_neg (by omega)];rcases m6 20 n.toNat (by omega) with h|h;exact h;cases h
section
variable{P:Program}{num:Nm}{gl:Nat->Option AV}{gnum:Nat->Nat}{Fb:Nat->Prop}{B0:Nat}{ρ : Rho}{w w':World}{O:Nat->Prop}{h:Hp}
theorem nQ(H:HpR num Fb B0 ρ w O h)(hb:RowKit.Below w.heap.size w w'):Evo ρ w O ρ w' O/\HpR num Fb B0 ρ w' O h:=by
 have ev:Evo ρ w O ρ w' O:=⟨hb.os,hb.tape,hb.output,hb.size,λb h1 _=>hb.block b h1,λ_ _ h=>h,λ_ _ _ h=>h⟩
 exact⟨ev,H.same ev (λb hO=>hb.block b (H.own b hO).2)⟩
def UC (P:Program) (f:Nat):Prop:=∃fn,P.funcs[f]?=some fn/\fn.body.isSome=true/\fn.name ≠ "runtime.NumGoroutine"
theorem vU{R:AV->Value->Prop}{x:AV}{vs:List Value}(h:aL R [x] vs):∃c,vs=[c]/\R x c:=by
 cases h with
 |cons h1 h2=>cases h2;exact⟨_,rfl,h1⟩
theorem aIu(hfn:UC P (num 93))(g:Nat)(hg:gl g=some (.agg (Lib.pow10Tab.map λn => .int .u64 n)))
  (hc:∀(n:Int),0<=n->n<=9223372036854775807->∀w:World,(∃T fr,w.heap[gnum g]?=some (.cells (Lib.pow10Tab.map λz=>Value.int .u64 z).toArray T fr)) ->
   Calls P (num 93) #[.int .i64 n] w λe w'=>e = .returned (.string ⟨(Lib.itoa n).toArray⟩)/\RowKit.Below w.heap.size w w') :
  iU P num gl gnum ⟨λf' avs kb h=>if f'=93 then m0 avs kb h else none,λ_ _ _ _=>none⟩:=by
 intro f avs kb h r h' hr;dsimp only at hr;split at hr
 case isFalse=>cases hr
 rename_i hf;subst hf;refine⟨hfn,?_⟩;intro Fb B0 ρ O w vs H hG hv;unfold m0 at hr;split at hr
 case h_2=>cases hr
 rename_i n;split at hr
 case isFalse=>cases hr
 rename_i hn;cases hr;obtain⟨c,rfl,hrv⟩:=vU hv;cases hrv
 have htab:∃T fr,w.heap[gnum g]?=some (.cells (Lib.pow10Tab.map λz=>Value.int .u64 z).toArray T fr):=by
  obtain⟨⟨_,c,T,fr,h1,h2⟩,hp⟩:=hG g _ hg;refine⟨T,fr,?_⟩;rw[h1];have hsz:c.size=Lib.pow10Tab.length:=by rw[h2];simp[AV.cells]
  have hce:c=(Lib.pow10Tab.map λz=>Value.int .u64 z).toArray:=by
   apply Array.ext;simp[hsz];intro i hi1 hi2;obtain⟨b,off,m,hx,hF,hb,hm,hr⟩:=hp.of_fp;cases hx;have hil:i<Lib.pow10Tab.length:=by omega
   have h3:=hm i (by simp only[AV.cells,aZ];exact hil);have h4:=hr i (.int .u64 (Lib.pow10Tab[i]'hil)) (by simp only[AV.cells,List.getElem?_map,cK hil];rfl);rw[Nat.zero_add]at h3;simp only[World.cell?,h1,Option.isSome_none,Bool.false_eq_true,if_false,Array.getElem?_eq_getElem hi1,aU]at h3;rw[<-h3]at h4;have h5:=h4.of_int;rw[h5];simp
  rw[hce]
 refine(hc n hn.1 hn.2 w htab).mono ?_;rintro e w' ⟨rfl,hb⟩;obtain⟨ev,H'⟩:=nQ H hb;refine⟨_,ρ,O,rfl,ev,H',?_⟩;rw[I3 hn.1 hn.2];exact .str _
theorem aIX(hfn:UC P (num 92))(g1 g2:Nat)(hg1:gl g1=some (.ifc .top))(hg2:gl g2=some (.ifc .top))
  (hok:∀(s:List UInt8),s.length<=16777216->∀v,Lib.atoiAll s = .ok v->∀w:World,Calls P (num 92) #[.string ⟨s.toArray⟩] w λe w'=>e = .returned (.tuple #[.int .i64 v,.nilIface])/\RowKit.Below w.heap.size w w')
  (hsy:∀(s:List UInt8),s.length<=16777216->(∀v,Lib.atoiAll s ≠ .ok v)->Lib.atoiAll s ≠ .range->∀(w:World)(te:TypeId)(pe:Value),w.cell? ⟨gnum g1,0,none⟩=some (.iface te pe) ->
   Calls P (num 92) #[.string ⟨s.toArray⟩] w λe w'=>∃t p,e = .returned (.tuple #[.int .i64 0,.iface t p])/\RowKit.Below w.heap.size w w')
  (hra:∀(s:List UInt8),s.length<=16777216->Lib.atoiAll s = .range->∀(w:World)(te:TypeId)(pe:Value),w.cell? ⟨gnum g2,0,none⟩=some (.iface te pe) ->
   Calls P (num 92) #[.string ⟨s.toArray⟩] w λe w'=>∃t p,e = .returned (.tuple #[.int .i64 (Lib.atoiSat s),.iface t p])/\RowKit.Below w.heap.size w w') :
  iU P num gl gnum ⟨λf' avs kb h=>if f'=92 then m5 avs kb h else none,λ_ _ _ _=>none⟩:=by
 intro f avs kb h r h' hr;dsimp only at hr;split at hr
 case isFalse=>cases hr
 rename_i hf;subst hf;refine⟨hfn,?_⟩;intro Fb B0 ρ O w vs H hG hv;have hcell:∀g,gl g=some (.ifc .top)->∃te pe,w.cell? ⟨gnum g,0,none⟩=some (.iface te pe):=by
  intro g hg;obtain⟨_,hp⟩:=hG g _ hg;cases hp with
  |fp _ _ _ c hF hb hm hr=>have h1:=hm 0 (by simp[AV.cells]);have h2:=hr 0 (.ifc .top) (by simp[AV.cells]);simp only[Nat.add_zero]at h1;rw[h1];generalize c 0=ci at h2 ⊢;cases h2;exact⟨_,_,rfl⟩
 unfold m5 at hr;split at hr
 case h_2=>cases hr
 rename_i s;split at hr
 case isFalse=>cases hr
 rename_i hs;obtain⟨c,rfl,hrv⟩:=vU hv;cases hrv;split at hr;rename_i v ha;cases hr;refine(hok s hs v ha w).mono ?_;rintro e w' ⟨rfl,hb⟩;obtain⟨ev,H'⟩:=nQ H hb;refine⟨_,ρ,O,rfl,ev,H',?_⟩;refine .tup _ _ rfl ?_;intro i x y hx hy
 match i,hx,hy with
 |0,hx,hy=>simp at hx hy;subst hx;subst hy;exact .int _ _
 |1,hx,hy=>simp at hx hy;subst hx;subst hy;exact .nili
 |i+2,hx,hy=>simp at hx
 rename_i ha;cases hr;obtain⟨te,pe,hce⟩:=hcell g2 hg2;refine(hra s hs ha w te pe hce).mono ?_;rintro e w' ⟨t,p,rfl,hb⟩;obtain⟨ev,H'⟩:=nQ H hb;refine⟨_,ρ,O,rfl,ev,H',?_⟩;refine .tup _ _ rfl ?_;intro i x y hx hy
 match i,hx,hy with
 |0,hx,hy=>simp at hx hy;subst hx;subst hy;exact .int _ _
 |1,hx,hy=>simp at hx hy;subst hx;subst hy;exact .ifc _ _ _ (.top _)
 |i+2,hx,hy=>simp at hx
 rename_i ha1 ha2;cases hr;obtain⟨te,pe,hce⟩:=hcell g1 hg1;refine(hsy s hs (λv e=>ha1 v e) (λe=>ha2 e) w te pe hce).mono ?_;rintro e w' ⟨t,p,rfl,hb⟩;obtain⟨ev,H'⟩:=nQ H hb;refine⟨_,ρ,O,rfl,ev,H',?_⟩;refine .tup _ _ rfl ?_;intro i x y hx hy
 match i,hx,hy with
 |0,hx,hy=>simp at hx hy;subst hx;subst hy;exact .int _ _
 |1,hx,hy=>simp at hx hy;subst hx;subst hy;exact .ifc _ _ _ (.top _)
 |i+2,hx,hy=>simp at hx
end
end
section
open Go.Sort
section
variable{P:Program}{num:Nm}{gl:Nat->Option AV}{gnum:Nat->Nat}{Fb:Nat->Prop}{B0:Nat}{ρ : Rho}{w w':World}{O:Nat->Prop}{h:Hp}
end
end
end Go.Tev
section
namespace Go.Proofs
open Go.Shelf
def Tryz.laysM171_ren:Go.Shelf.Ren:=⟨λ|171=>46|243=>86|246=>116|283=>141|284=>142|285=>143|286=>144|129=>178|317=>177|318=>179|319=>180|320=>181|337=>226|338=>227|n=>n,λ|3=>3|9=>9|2=>2|4=>4|171=>170|0=>0|53=>171|37=>116|5=>5|173=>174|212=>229|51=>230|20=>20|213=>231|46=>222|232=>327|233=>328|n=>n,λ|17=>2|18=>3|19=>4|n=>n⟩
theorem aO{α : Type}{x:Option α}{a b : α}(h:x=some a)(k:a=b:=by kernel_rfl):x=some b:=h.trans (congrArg some k)
theorem Tryz.laysM171:Go.Proofs.LaysM.n171 Tryz.prog Tryz.laysM171_ren:={
 mixed:=by kernel_rfl
 f129:=aO Tryz.func178
 f171:=aO Tryz.func46
 f243:=aO Tryz.func86
 f246:=aO Tryz.func116
 f283:=aO Tryz.func141
 f284:=aO Tryz.func142
 f285:=aO Tryz.func143
 f286:=aO Tryz.func144
 f317:=aO Tryz.func177
 f318:=aO Tryz.func179
 f319:=aO Tryz.func180
 f320:=aO Tryz.func181
 f337:=aO Tryz.func226
 f338:=aO Tryz.func227
 t0:=Tryz.underlying0
 a0:=Tryz.isAgg0
 z0:=Tryz.sizeOf0
 v0:=Tryz.zeroValue0
 t2:=Tryz.underlying2
 a2:=Tryz.isAgg2
 z2:=Tryz.sizeOf2
 v2:=Tryz.zeroValue2
 t3:=Tryz.underlying3
 a3:=Tryz.isAgg3
 z3:=Tryz.sizeOf3
 v3:=Tryz.zeroValue3
 t4:=Tryz.underlying4
 a4:=Tryz.isAgg4
 z4:=Tryz.sizeOf4
 v4:=Tryz.zeroValue4
 t5:=Tryz.underlying5
 a5:=Tryz.isAgg5
 z5:=Tryz.sizeOf5
 v5:=Tryz.zeroValue5
 t9:=Tryz.underlying9
 a9:=Tryz.isAgg9
 z9:=Tryz.sizeOf9
 v9:=Tryz.zeroValue9
 t20:=Tryz.underlying20
 a20:=Tryz.isAgg20
 z20:=Tryz.sizeOf20
 v20:=Tryz.zeroValue20
 t37:=Tryz.underlying116
 a37:=Tryz.isAgg116
 z37:=Tryz.sizeOf116
 v37:=Tryz.zeroValue116
 t46:=Tryz.underlying222
 a46:=Tryz.isAgg222
 z46:=Tryz.sizeOf222
 v46:=Tryz.zeroValue222
 t51:=Tryz.underlying230
 a51:=Tryz.isAgg230
 z51:=Tryz.sizeOf230
 v51:=Tryz.zeroValue230
 t53:=Tryz.underlying171
 a53:=Tryz.isAgg171
 z53:=Tryz.sizeOf171
 v53:=Tryz.zeroValue171
 t171:=Tryz.underlying170
 a171:=Tryz.isAgg170
 z171:=Tryz.sizeOf170
 v171:=Tryz.zeroValue170
 t173:=Tryz.underlying174
 a173:=Tryz.isAgg174
 z173:=Tryz.sizeOf174
 v173:=Tryz.zeroValue174
 t212:=Tryz.underlying229
 a212:=Tryz.isAgg229
 z212:=Tryz.sizeOf229
 v212:=Tryz.zeroValue229
 t213:=Tryz.underlying231
 a213:=Tryz.isAgg231
 z213:=Tryz.sizeOf231
 t232:=Tryz.underlying327
 a232:=Tryz.isAgg327
 z232:=Tryz.sizeOf327
 v232:=Tryz.zeroValue327
 t233:=Tryz.underlying328
 a233:=Tryz.isAgg328
 z233:=Tryz.sizeOf328
 v233:=Tryz.zeroValue328
 g17:=by kernel_rfl
 g18:=by kernel_rfl
 g19:=by kernel_rfl
 i0:=by kernel_rfl
 i2:=by kernel_rfl
 i3:=by kernel_rfl
 i4:=by kernel_rfl
 i5:=by kernel_rfl
 i9:=by kernel_rfl
 i20:=by kernel_rfl
 i37:=by kernel_rfl
 i46:=by kernel_rfl
 i51:=by kernel_rfl
 i53:=by kernel_rfl
 i171:=by kernel_rfl
 i173:=by kernel_rfl
 i212:=by kernel_rfl
 i232:=by kernel_rfl
 i233:=by kernel_rfl
 m17:=by kernel_rfl
 m18:=by kernel_rfl
 m19:=by kernel_rfl}
def Tryz.laysC172_ren:Go.Shelf.Ren:=⟨λ|172=>80|244=>114|245=>115|247=>136|279=>137|280=>138|281=>139|282=>140|287=>174|316=>175|171=>46|205=>176|321=>224|322=>225|243=>86|246=>116|283=>141|284=>142|285=>143|286=>144|129=>178|317=>177|318=>179|319=>180|320=>181|337=>226|338=>227|n=>n,λ|9=>9|3=>3|75=>113|76=>114|4=>4|5=>5|167=>164|37=>116|0=>0|85=>165|2=>2|168=>167|53=>171|175=>220|46=>222|210=>225|127=>286|145=>289|143=>287|21=>21|171=>170|173=>174|212=>229|51=>230|20=>20|213=>231|232=>327|233=>328|80=>370|n=>n,λ|15=>0|16=>1|17=>2|18=>3|19=>4|n=>n⟩
theorem Tryz.laysC172:Go.Proofs.LaysC.n172 Tryz.prog Tryz.laysC172_ren:={
 mixed:=by kernel_rfl
 f129:=aO Tryz.func178
 f171:=aO Tryz.func46
 f172:=aO Tryz.func80
 f205:=aO Tryz.func176
 f243:=aO Tryz.func86
 f244:=aO Tryz.func114
 f245:=aO Tryz.func115
 f246:=aO Tryz.func116
 f247:=aO Tryz.func136
 f279:=aO Tryz.func137
 f280:=aO Tryz.func138
 f281:=aO Tryz.func139
 f282:=aO Tryz.func140
 f283:=aO Tryz.func141
 f284:=aO Tryz.func142
 f285:=aO Tryz.func143
 f286:=aO Tryz.func144
 f287:=aO Tryz.func174
 f316:=aO Tryz.func175
 f317:=aO Tryz.func177
 f318:=aO Tryz.func179
 f319:=aO Tryz.func180
 f320:=aO Tryz.func181
 f321:=aO Tryz.func224
 f322:=aO Tryz.func225
 f337:=aO Tryz.func226
 f338:=aO Tryz.func227
 t0:=Tryz.underlying0
 a0:=Tryz.isAgg0
 z0:=Tryz.sizeOf0
 v0:=Tryz.zeroValue0
 t2:=Tryz.underlying2
 a2:=Tryz.isAgg2
 z2:=Tryz.sizeOf2
 v2:=Tryz.zeroValue2
 t3:=Tryz.underlying3
 a3:=Tryz.isAgg3
 z3:=Tryz.sizeOf3
 v3:=Tryz.zeroValue3
 t4:=Tryz.underlying4
 a4:=Tryz.isAgg4
 z4:=Tryz.sizeOf4
 v4:=Tryz.zeroValue4
 t5:=Tryz.underlying5
 a5:=Tryz.isAgg5
 z5:=Tryz.sizeOf5
 v5:=Tryz.zeroValue5
 t9:=Tryz.underlying9
 a9:=Tryz.isAgg9
 z9:=Tryz.sizeOf9
 v9:=Tryz.zeroValue9
 t20:=Tryz.underlying20
 a20:=Tryz.isAgg20
 z20:=Tryz.sizeOf20
 v20:=Tryz.zeroValue20
 t21:=Tryz.underlying21
 a21:=Tryz.isAgg21
 z21:=Tryz.sizeOf21
 v21:=Tryz.zeroValue21
 t37:=Tryz.underlying116
 a37:=Tryz.isAgg116
 z37:=Tryz.sizeOf116
 v37:=Tryz.zeroValue116
 t46:=Tryz.underlying222
 a46:=Tryz.isAgg222
 z46:=Tryz.sizeOf222
 v46:=Tryz.zeroValue222
 t51:=Tryz.underlying230
 a51:=Tryz.isAgg230
 z51:=Tryz.sizeOf230
 v51:=Tryz.zeroValue230
 t53:=Tryz.underlying171
 a53:=Tryz.isAgg171
 z53:=Tryz.sizeOf171
 v53:=Tryz.zeroValue171
 t75:=Tryz.underlying113
 a75:=Tryz.isAgg113
 z75:=Tryz.sizeOf113
 v75:=Tryz.zeroValue113
 t76:=Tryz.underlying114
 a76:=Tryz.isAgg114
 z76:=Tryz.sizeOf114
 v76:=Tryz.zeroValue114
 t85:=Tryz.underlying165
 a85:=Tryz.isAgg165
 z85:=Tryz.sizeOf165
 v85:=Tryz.zeroValue165
 t127:=Tryz.underlying286
 a127:=Tryz.isAgg286
 z127:=Tryz.sizeOf286
 v127:=Tryz.zeroValue286
 t143:=Tryz.underlying287
 a143:=Tryz.isAgg287
 z143:=Tryz.sizeOf287
 v143:=Tryz.zeroValue287
 t145:=Tryz.underlying289
 a145:=Tryz.isAgg289
 z145:=Tryz.sizeOf289
 v145:=Tryz.zeroValue289
 t167:=Tryz.underlying164
 a167:=Tryz.isAgg164
 z167:=Tryz.sizeOf164
 v167:=Tryz.zeroValue164
 t168:=Tryz.underlying167
 a168:=Tryz.isAgg167
 z168:=Tryz.sizeOf167
 v168:=Tryz.zeroValue167
 t171:=Tryz.underlying170
 a171:=Tryz.isAgg170
 z171:=Tryz.sizeOf170
 v171:=Tryz.zeroValue170
 t173:=Tryz.underlying174
 a173:=Tryz.isAgg174
 z173:=Tryz.sizeOf174
 v173:=Tryz.zeroValue174
 t175:=Tryz.underlying220
 a175:=Tryz.isAgg220
 z175:=Tryz.sizeOf220
 v175:=Tryz.zeroValue220
 t210:=Tryz.underlying225
 a210:=Tryz.isAgg225
 z210:=Tryz.sizeOf225
 v210:=Tryz.zeroValue225
 t212:=Tryz.underlying229
 a212:=Tryz.isAgg229
 z212:=Tryz.sizeOf229
 v212:=Tryz.zeroValue229
 t213:=Tryz.underlying231
 a213:=Tryz.isAgg231
 z213:=Tryz.sizeOf231
 t232:=Tryz.underlying327
 a232:=Tryz.isAgg327
 z232:=Tryz.sizeOf327
 v232:=Tryz.zeroValue327
 t233:=Tryz.underlying328
 a233:=Tryz.isAgg328
 z233:=Tryz.sizeOf328
 v233:=Tryz.zeroValue328
 g15:=by kernel_rfl
 g16:=by kernel_rfl
 g17:=by kernel_rfl
 g18:=by kernel_rfl
 g19:=by kernel_rfl
 t80:=Tryz.underlying370
 a80:=Tryz.isAgg370
 z80:=Tryz.sizeOf370
 v80:=Tryz.zeroValue370
 i0:=by kernel_rfl
 i2:=by kernel_rfl
 i3:=by kernel_rfl
 i4:=by kernel_rfl
 i5:=by kernel_rfl
 i9:=by kernel_rfl
 i20:=by kernel_rfl
 i21:=by kernel_rfl
 i37:=by kernel_rfl
 i46:=by kernel_rfl
 i51:=by kernel_rfl
 i53:=by kernel_rfl
 i75:=by kernel_rfl
 i76:=by kernel_rfl
 i80:=by kernel_rfl
 i85:=by kernel_rfl
 i127:=by kernel_rfl
 i143:=by kernel_rfl
 i145:=by kernel_rfl
 i167:=by kernel_rfl
 i168:=by kernel_rfl
 i171:=by kernel_rfl
 i173:=by kernel_rfl
 i175:=by kernel_rfl
 i210:=by kernel_rfl
 i212:=by kernel_rfl
 i232:=by kernel_rfl
 i233:=by kernel_rfl
 m15:=by kernel_rfl
 m16:=by kernel_rfl
 m17:=by kernel_rfl
 m18:=by kernel_rfl
 m19:=by kernel_rfl
 c0:=by kernel_rfl
 c2:=by kernel_rfl
 c3:=by kernel_rfl
 c4:=by kernel_rfl
 c5:=by kernel_rfl
 c9:=by kernel_rfl
 c20:=by kernel_rfl
 c21:=by kernel_rfl
 c37:=by kernel_rfl
 c46:=by kernel_rfl
 c51:=by kernel_rfl
 c53:=by kernel_rfl
 c75:=by kernel_rfl
 c76:=by kernel_rfl
 c80:=by kernel_rfl
 c85:=by kernel_rfl
 c127:=by kernel_rfl
 c143:=by kernel_rfl
 c145:=by kernel_rfl
 c167:=by kernel_rfl
 c168:=by kernel_rfl
 c171:=by kernel_rfl
 c173:=by kernel_rfl
 c175:=by kernel_rfl
 c210:=by kernel_rfl
 c212:=by kernel_rfl
 c213:=by kernel_rfl
 c232:=by kernel_rfl
 c233:=by kernel_rfl}
open Go.RowKit Go.Sort Go.Lib in
theorem Tryz.strconv_Itoa(n:Int)(h0 : -9223372036854775808<=n)(h1:n<=9223372036854775807)(w:World){T:TypeId}{fr:Nat×Nat}(ht:w.heap[2]?=some (.cells (Lib.pow10Tab.map λz=>Value.int .u64 z).toArray T fr)) :
  Calls Tryz.prog 46 #[.int .i64 n] w λe w'=>e = .returned (.string ⟨(Lib.itoa n).toArray⟩)/\∃k os,w'=grow (w.drewN k) os:=by
 refine Any.strconv_Itoa Tryz.laysM171 n h0 h1 w ?_;unfold Lib.TabIs World.var?;rw[show Tryz.prog.globalNamed _=some 2 by kernel_rfl,Option.bind_some,ht]
open Go.RowKit in
theorem Tryz.strconv_Atoi_ok(s:ByteArray)(hmax:s.size<=9223372036854775806)(v:Int)(h:Lib.atoiAll s.data.toList = .ok v)(w:World) :
  Calls Tryz.prog 80 #[.string s] w λe w'=>e = .returned (.tuple #[.int .i64 v,.nilIface])/\(w'=w\/∃t,w'=Lib.bytesWorld w 5 t):=Any.strconv_Atoi_ok Tryz.laysC172 s hmax v h w
open Go.RowKit in
theorem Tryz.strconv_Atoi_bad(s:ByteArray)(hlim:s.size<=281474976710656)(h1:∀v,Lib.atoiAll s.data.toList ≠ .ok v)(h2:Lib.atoiAll s.data.toList ≠ .range)(ev:Value)(w:World)(hv:w.cell? ⟨0,0,none⟩=some ev)(hev:ev = .nilIface\/∃te pe,ev = .iface te pe) :
  Calls Tryz.prog 80 #[.string s] w λe w'=>∃N,e = .returned (.tuple #[.int .i64 (0),.iface 167 (.pointer (some ⟨N,0,none⟩))])/\w.heap.size<=N/\w'.heap[N]?=some (.cells #[.string ⟨#[65,116,111,105]⟩,.string s,ev] 225 (0,0))/\Below w.heap.size w w':=by
 cases h:Lib.atoiAll s.data.toList
 case ok v=>exact absurd h (h1 v)
 case range=>exact absurd h h2
 exact Any.strconv_Atoi_syntax Tryz.laysC172 s hlim h ev w hv hev
open Go.RowKit in
theorem Tryz.strconv_Atoi_range(s:ByteArray)(hlim:s.size<=281474976710656)(h:Lib.atoiAll s.data.toList = .range)(ev:Value)(w:World)(hv:w.cell? ⟨1,0,none⟩=some ev)(hev:ev = .nilIface\/∃te pe,ev = .iface te pe) :
  Calls Tryz.prog 80 #[.string s] w λe w'=>∃N,e = .returned (.tuple #[.int .i64 (Lib.atoiSat s.data.toList),.iface 167 (.pointer (some ⟨N,0,none⟩))])/\w.heap.size<=N/\w'.heap[N]?=some (.cells #[.string ⟨#[65,116,111,105]⟩,.string s,ev] 225 (0,0))/\Below w.heap.size w w':=Any.strconv_Atoi_range Tryz.laysC172 s hlim h ev w hv hev
end Go.Proofs
end
