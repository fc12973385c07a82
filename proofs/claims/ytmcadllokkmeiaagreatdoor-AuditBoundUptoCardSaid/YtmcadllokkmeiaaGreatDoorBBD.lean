import Derived.Test.YtmcadllokkmeiaaGreatDoorBAY
import Derived.Test.YtmcadllokkmeiaaGreatDoorBBC
import Derived.Test.YtmcadllokkmeiaaGreatDoorBAR
import Derived.Test.YtmcadllokkmeiaaGreatDoorBAH
import Derived.Test.YtmcadllokkmeiaaGreatDoorBAM
import Derived.Test.YtmcadllokkmeiaaGreatDoorBAU
set_option linter.all false
namespace Go.Tev
section
structure Code3(pg:Pg):Prop where
 f10:pg.fs 10=some aEl
 f15:pg.fs 15=some XH
 f22:pg.fs 22=some aEd
 f31:pg.fs 31=some aDW
 f37:pg.fs 37=some aDR
 f38:pg.fs 38=some aJZ
 f49:pg.fs 49=some aDP
 f50:pg.fs 50=some aDO
 f54:pg.fs 54=some aDL
 f55:pg.fs 55=some CB
 f77:pg.fs 77=some aDy
 f78:pg.fs 78=some aAK
 f79:pg.fs 79=some aDx
 f80:pg.fs 80=some aDw
 f81:pg.fs 81=some aDv
 f82:pg.fs 82=some aAJ
 f83:pg.fs 83=some aDu
 f84:pg.fs 84=some aDt
 f85:pg.fs 85=some aAI
 f86:pg.fs 86=some aDs
 f87:pg.fs 87=some aDr
 f88:pg.fs 88=some aDp
 f90:pg.fs 90=some aAG
 f114:pg.fs 114=some KI
 f115:pg.fs 115=some KH
 f116:pg.fs 116=some SA
 f117:pg.fs 117=some R9
 f118:pg.fs 118=some R8
 f119:pg.fs 119=some KG
 f120:pg.fs 120=some R7
 f121:pg.fs 121=some R6
 f122:pg.fs 122=some HE
 f123:pg.fs 123=some R5
 f124:pg.fs 124=some x5
 f125:pg.fs 125=some R4
 f160:pg.fs 160=some KC
 f161:pg.fs 161=some KB
 f162:pg.fs 162=some KA
 f163:pg.fs 163=some AZ
 f164:pg.fs 164=some RW
 f191:pg.fs 191=some G8
 f192:pg.fs 192=some RR
 f193:pg.fs 193=some RQ
 f194:pg.fs 194=some G7
section
variable{pg:Pg}
theorem aMw(C:Go.Tev.Code pg)(D:Code3 pg)(k:aA)(hq:∀q∈k.aSf.es,q.body.ok/\q.index.ok/\k.vars.es.length+9+q.body.sz<=big/\k.vars.es.length+9+q.index.sz<=big) :
  Ret pg 31 [k.av] (.tup [.int .i64 (cY k).1,.int .i64 (cY k).2]):=by
 have h77:∀s:Str,Ret pg 77 [.str s.bs] (.bool (iQ s.bs)):=λs=>c77 D.f77 D.f114 D.f115 s.bs s.ok;have h54:∀l:Lin,Ret pg 54 [l.av] (.bool (fU l)):=c54 D.f54 h77 D.f90;have h80:∀(nl cl:Bool)(ls:List Lin),ls.length<=big->∀(nl' cl':Bool)(vars:List Str),vars.length<=big->Ret pg 80 [.sl nl (ls.map Lin.av) cl,.sl nl' (vars.map Str.av) cl'] (.bool (d4 ls vars)):=
  λnl cl ls hb nl' cl' vars hb'=>c80 D.f80 h54 nl cl ls hb nl' cl' vars hb'
 have h79:=c79 D.f79 (c116 D.f116 D.f160) (c117 D.f117 h54 h77);have h49:=c49 D.f49 h77 D.f78 h79 h80;have h121:=c121 D.f121 D.f162 D.f191;have h118:=c118 D.f118 D.f161 D.f15 h121;have h85:∀(nl cl nl' cl':Bool)(a b:List Lin),a.length<=big->b.length<=big->Ret pg 85 [.sl nl (a.map Lin.av) cl,.sl nl' (b.map Lin.av) cl'] (.bool (eqL cN a b)):=λnl cl nl' cl' a b ha hb=>c85 D.f85 h121 nl cl nl' cl' a b ha hb;have h81:∀x y:aG,x.body.ok->x.index.ok->Ret pg 81 [x.av,y.av] (.bool (mB x y)):=λx y hx hi=>c81 D.f81 D.f85 h121 h118 D.f119 x y hx hi;have h125:=c125 D.f125;have h120:∀(op:List UInt8)(nl cl:Bool)(aSj:List Bool),aSj.length<=big->Ret pg 120 [.str op,.sl nl (aSj.map AV.bool) cl] (.bool (gX op aSj)):=λop nl cl aSj hb=>c120 D.f120 h125 op nl cl aSj hb;have h84:∀(nl cl:Bool)(code:List aP),code.length<=16777216->∀(nl' cl':Bool)(args:List Bool),args.length<=16777216->Ret pg 84 [.sl nl (code.map aP.av) cl,.sl nl' (args.map AV.bool) cl'] (.bool (fD code args)):=
  λnl cl code hb nl' cl' args hb'=>c84 D.f84 h120 nl cl code hb nl' cl' args hb'
 have h83:∀(nl cl:Bool)(vals:List Typ)(p:aC),p.ok->Ret pg 83 [p.av,.sl nl (vals.map Typ.av) cl] (.bool (fO vals p)):=λnl cl vals p hp=>c83 D.f83 h84 h120 nl cl vals p hp;have h87:∀(nl cl:Bool)(fn:List aP),fn.length<=big->∀n:Int,Ret pg 87 [.sl nl (fn.map aP.av) cl,.int .i64 n] (.bool (eO fn n)):=λnl cl fn hb n=>c87 D.f87 D.f124 h125 nl cl fn hb n;have h88:=c88 D.f88 h121;have h192:=c192 D.f192 h125;have h193:∀(nl cl:Bool)(ls:List Lin),ls.length<=big->∀(nl' cl':Bool)(vars:List Str),vars.length<=big->Ret pg 193 [.sl nl (ls.map Lin.av) cl,.sl nl' (vars.map Str.av) cl'] (.bool (d4 ls vars)):=
  λnl cl ls hb nl' cl' vars hb'=>c193 D.f193 h54 D.f194 nl cl ls hb nl' cl' vars hb'
 have h164:=c164 D.f164 h192 h118 h193 D.f124 h77 D.f194 h87;have h123:∀p:aC,p.ok->∀(nl cl:Bool)(vars:List Str),vars.length+p.sz<=big->∀v:Int,Ret pg 123 [p.av,.sl nl (vars.map Str.av) cl,.int .i64 v] (.bool (jQ p vars v)):=
  λp hp nl cl vars hb v=>c123 D.f123 C.f40 h164 p hp nl cl vars hb v
 have h86:∀(k:aA)(p:aC),p.ok->∀n:Nat,n<=9->k.vars.es.length+n+p.sz<=big->∀(nl cl:Bool)(there:List Bool),there.length=k.aSe.es.length->Ret pg 86 [p.av,k.av,.int .i64 n,.sl nl (there.map AV.bool) cl] (.bool (cU k p n there)):=
  λk p hpo n hn hsz nl cl th hth=>c86 D.f86 (c122 D.f122 D.f163) h123 (c37 D.f37 D.f55) k p hpo n hn hsz nl cl th hth
 exact c31 D.f31 h49 (λk hin hvals nl cl th hth q second hbo hio hbs his=>c50 D.f50 D.f82 h81 h83 h84 h85 h86 h87 h88 k hin hvals nl cl th hth q second hbo hio hbs his) k hq
theorem ZX{q:aG}{N:Nat}(h:q.body.sz+q.index.sz+1<=N):(jY q).length<=N:=by have h1:=kP q.body;have h2:=kP q.index;have h4:=nW (bX q.index) (bX q.body);have h5:=FR q.source (j9 (bX q.body) (bX q.index));simp only[jY];split;split<;>omega;omega
theorem aMx(C:Go.Tev.Code pg)(D:Code3 pg)(k:aA)(hk:KOK k):bQ pg 10 [k.av] (iA k):=
 c10 D.f10 k (aMw C D k hk.ks) (λq hq=>c22 D.f22 (c37 D.f37 D.f55) D.f38 q (hk.ks q hq).1 (hk.ks q hq).2.1 (by have:=hk.sz q hq;omega)) (λq hq=>ZX (by have:=hk.sz q hq;omega))
end
end
section
def sU(n:Int):List UInt8:=if n<0 then [] else 105::nF 20 n.toNat
def aBG:Nat->Nat->List Nat
 |0,_=>[]
 |f+1,m=>if m=0 then [] else m::aBG f (m / 10)
def aAz(f m:Nat)(s:List UInt8):List UInt8:=if m=0 then s else nF f m++s
theorem AI:∀f u,(nF f u).length<=f
 |0,u=>by simp[nF]
 |f+1,u=>by have:=AI f (u / 10);simp only[nF];split<;>simp<;>omega
theorem JU{f m:Nat}(hm:m≠0)(s:List UInt8):aAz (f+1) m s=aAz f (m / 10) (UInt8.ofNat (48+m % 10)::s):=by
 simp only[aAz,if_neg hm,nF];by_cases h:m<10;have h1:m / 10=0:=by omega
 have h2:m % 10=m:=by omega
 rw[if_pos h,if_pos h1,h2];rfl;have h1:¬m / 10=0:=by omega
 rw[if_neg h,if_neg h1];simp
section
variable{pg:Pg}
theorem aMj(hf:pg.fs 163=some AZ)(n:Nat)(hn:n<=9223372036854775807):Ret pg 163 [.int .i64 n] (.str (nF 20 n)):=by
 refine Ret.ofX hf ?_;have arith:∀m:Nat,m<=9223372036854775807->((m:Int).tmod 10)=((m % 10:Nat):Int)/\(m:Int).tdiv 10=((m / 10:Nat):Int)/\wr .i64 ((m / 10:Nat):Int)=((m / 10:Nat):Int)/\wr .i64 ((m % 10:Nat):Int)=((m % 10:Nat):Int) /\
   wr .i64 (48+((m % 10:Nat):Int))=((48+m % 10:Nat):Int)/\wr .u8 ((48+m % 10:Nat):Int)=((48+m % 10:Nat):Int):=by
  intro m hm;refine⟨by rw[Int.tmod_eq_emod_of_nonneg (by omega)];omega,by rw[Int.tdiv_eq_ediv_of_nonneg (by omega)];omega,by rw[aU (by omega) (by omega)],by rw[aU (by omega) (by omega)],by rw[aU (by omega) (by omega)];omega,?_⟩;simp only[wr];rw[if_pos (by omega)]
 obtain⟨h1,h2,h3,h3',h4,h5⟩:=arith n hn;have h6:=λh nl cl=>OC h nl cl (48+n % 10) (by omega);have h7:((10:Int)=0)=False:=by simp
 have hD:nF 20 n=aAz 19 (n / 10) [UInt8.ofNat (48+n % 10)]:=by by_cases h0:n=0;subst h0;rfl;have:=JU (f:=19) h0 [];simpa[aAz,h0] using this
 unfold AZ;simp only[h1,h2,h3,h3',h4,h5,h7,↓h6,go_sem,seval];refine aJ (aBG 19 (n / 10)) (λd r env hp=>∃(m f:Nat)(s:List UInt8),env=NM (.int .i64 m) (.str s)/\r=aBG f m/\m<10 ^ f/\m<=9223372036854775807/\nF 20 n=aAz f m s/\s.length=d.length+1/\d.length+f=19) ?_ ?_ ?_;exact⟨n / 10,19,_,rfl,rfl,by omega,by omega,hD,rfl,rfl⟩;rintro env hp ⟨m,f,s,rfl,hr,hm,hm2,hI,_,_⟩;have h0:m=0:=by
  cases f with
  |zero=>simpa using hm
  |succ f=>simp only[aBG]at hr;split at hr;assumption;cases hr
 subst h0;have e1:decide ((((0:Nat):Int))>0)=false:=by decide
 simp only[EK,NM,e1,go_sem,seval];rw[hI];rfl
 ·rintro d x r env hp hes ⟨m,f,s,rfl,hr,hm,hm2,hI,hs,hdf⟩;cases f with
  |zero=>cases hr
  |succ f=>
  simp only[aBG]at hr;split at hr;cases hr;rename_i h0;simp only[List.cons.injEq]at hr;obtain⟨rfl,hr⟩:=hr;obtain⟨a1,a2,a3,a3',a4,a5⟩:=arith x hm2;have a6:=λh nl cl=>OC h nl cl (48+x % 10) (by omega);have e1:decide (0<(x:Int))=true:=by simp;omega
  have e2:(1+s.length<=9223372036854775807)=True:=aK (by omega);simp only[EK,NM,e1,a1,a2,a3,a3',a4,a5,h7,↓a6,e2,go_sem,seval];refine⟨x / 10,f,_,rfl,hr,by rw[Nat.pow_succ]at hm;omega,by omega,by rw[hI,JU h0],by simp[hs],by simp;omega⟩
theorem aMo(hf:pg.fs 122=some HE)(h163:pg.fs 163=some AZ)(n:Int)(hn:n<=9223372036854775807):Ret pg 122 [.int .i64 n] (.str (sU n)):=by refine Ret.ofX hf ?_;unfold HE;by_cases h:n<0;have h1:decide (n<0)=true:=decide_eq_true h;simp only[h1,go_sem,seval];rw[sU,if_pos h];have h1:decide (n<0)=false:=decide_eq_false h;have a:=aMj h163 n.toNat (by omega);rw[Int.toNat_of_nonneg (by omega)]at a;have hl:=AI 20 n.toNat;have e2:(1+(nF 20 n.toNat).length<=9223372036854775807)=True:=aK (by omega);simp only[h1,go_sem,seval];refine aB a ?_;simp only[e2,go_sem,seval];rw[sU,if_neg h]
theorem aMr(A:Ora pg)(hf:pg.fs 108=some x6)(n:Int)(hn:n<=9223372036854775807):Ret pg 108 [.int .i64 n] (.str (sU n)):=by
 refine Ret.ofX hf ?_;unfold x6;by_cases h:n<0;have h1:decide (n<0)=true:=decide_eq_true h;simp only[h1,go_sem,seval];rw[sU,if_pos h];have h1:decide (n<0)=false:=decide_eq_false h;have a:Ret pg 93 [.int .i64 n] (.str (nF 20 n.toNat)):=by refine BI A.f93 A.itoa ?_ rfl;simp only[wK];rw[if_pos (by omega)]
 have hl:=AI 20 n.toNat;have e2:(1+(nF 20 n.toNat).length<=9223372036854775807)=True:=aK (by omega);simp only[h1,go_sem,seval];refine aB a ?_;simp only[e2,go_sem,seval];rw[sU,if_neg h]
end
end
section
def Asc(l:List Int):Prop:=l.Pairwise (· < ·)
theorem ZD(x:Int):∀l:List Int,Asc l->Asc (iT x l)
 |[],_=>by simp[iT,Asc]
 |y::r,h=>by obtain⟨h1,h2⟩:=List.pairwise_cons.1 h;simp only[iT];by_cases h3:y<x;simp only[h3,decide_true,aN];refine List.pairwise_cons.2 ⟨λz hz=>?_,ZD x r h2⟩;rcases (zX r).1 hz with rfl|hz;exact h3;exact h1 z hz;simp only[h3,decide_false,bR,aL];by_cases h4:y=x;simp only[h4,decide_true,aN];exact h4 ▸ h;simp only[h4,decide_false,bR,aL];refine List.pairwise_cons.2 ⟨λz hz=>?_,h⟩;rcases dA.1 hz with rfl|hz;omega;have:=h1 z hz;omega
theorem ST:∀(l acc:List Int),Asc acc->Asc (j9 acc l)
 |[],acc,h=>h
 |x::r,acc,h=>by simp only[j9,List.foldl_cons];exact ST r _ (ZD x acc h)
theorem HJ:∀(l:List aC)(acc:List Int),Asc acc->Asc (eV acc l)
 |[],acc,h=>h
 |p::r,acc,h=>by rw[eV];exact HJ r _ (ST _ _ h)
theorem aBb(p:aC):Asc (bX p):=by rw[BL];refine HJ _ _ ?_;split;simp[iT,Asc];simp[Asc]
theorem SU:∀l:List Int,l.Pairwise (· <= ·)->Asc (fS l)
 |[],_=>by simp[fS,Asc]
 |[x],_=>by simp[fS,Asc]
 |x::y::r,h=>by obtain⟨h1,h2⟩:=List.pairwise_cons.1 h;have ih:=SU (y::r) h2;simp only[fS];split;exact ih;rename_i hne;refine List.pairwise_cons.2 ⟨λz hz=>?_,ih⟩;have hz2:=(oB z (y::r)).1 hz;have h3:=h1 y (by simp);rcases dA.1 hz2 with rfl|hz3;omega;have:=(List.pairwise_cons.1 h2).1 z hz3;omega
theorem aEB:∀(a b:List Int),Asc a->Asc b->(∀x,x∈a↔x∈b)->a=b
 |[],[],_,_,_=>rfl
 |[],y::s,_,_,h=>by have:=(h y).2 (by simp);simp at this
 |x::r,[],_,_,h=>by have:=(h x).1 (by simp);simp at this
 |x::r,y::s,ha,hb,h=>by
  obtain⟨a1,a2⟩:=List.pairwise_cons.1 ha;obtain⟨b1,b2⟩:=List.pairwise_cons.1 hb;have hxy:x=y:=by have p1:=(h x).1 (by simp);have p2:=(h y).2 (by simp);rcases dA.1 p1 with e|q1;exact e;rcases dA.1 p2 with e|q2;exact e.symm;have:=b1 x q1;have:=a1 y q2;omega
  subst hxy;congr 1;refine aEB r s a2 b2 λz=>⟨λhz=>?_,λhz=>?_⟩
  rcases dA.1 ((h z).1 (dY _ hz)) with e|q;have:=a1 z hz;omega;exact q;rcases dA.1 ((h z).2 (dY _ hz)) with e|q;have:=b1 z hz;omega;exact q
theorem aBB(p:aC):cT p=bX p:=by refine aEB _ _ (SU _ (tN _)) (aBb p) λx=>?_;rw[cT,oB,pX,kQ]
end
section
def qQ(i:Nat)(l:Lin):Bool:=decide (l.c=0)&&match l.ts.es with
 |[t]=>decide (t.v.bs=sU i)&&decide (t.c=1)
 |_=>false
def nY:Nat->List Lin->Bool
 |_,[]=>true
 |i,l::r=>qQ i l&&nY (i+1) r
def sR(p:aC)(rank:Int):Bool := !p.dyn&&(decide ((p.at_.es.length:Int)=rank)&&nY 0 p.at_.es)
def vC(v rank:Int)(p:aC):Bool := !(decide (p.op.bs=[114,101,97,100])&&(decide (p.value=v) && !sR p rank))
mutual
def yV(v rank:Int):aC->Bool
 |.mk op num value name at_ dyn check fn knl aSj kcl=>vC v rank (.mk op num value name at_ dyn check fn knl aSj kcl)&&I0 v rank aSj
def I0(v rank:Int):List aC->Bool
 |[]=>true
 |p::r=>yV v rank p&&I0 v rank r
end
theorem YI(v rank:Int)(p:aC):yV v rank p=(vC v rank p&&I0 v rank p.aSj):=by cases p;rw[yV];rfl
theorem BO(v rank:Int):∀l:List aC,I0 v rank l=l.all (yV v rank)
 |[]=>by simp[I0]
 |p::r=>by simp[I0,BO v rank r]
def vG(k:aA)(v:Int):Sp:=((aD k)[v.toNat]?).getD (-2,-1)
def aAb(k:aA)(at_ v:Int)(q:aG)(a b:Typ):Bool:=
 (!decide (v=q.value)&&(decide ((vG k q.value).1=at_)&&(!decide ((vG k v).1 = -2)&&decide ((vG k v).2=at_))))&&(jH a b &&
  if q.kind=3 then decide (v=q.source)&&(!(cT q.body).contains v && !(cT q.index).contains v) else yV v b.aSh.aSi.es.length q.body)
def kS(k:aA)(at_ v:Int):Bool:=
 match k.aSf.es[at_.toNat]?,k.aSe.es[v.toNat]? with
 |some q,some a=>match k.aSe.es[q.value.toNat]? with
  |some b=>decide (0<=at_)&&decide (0<=v)&&aAb k at_ v q a b
  |none=>false
 |_,_=>false
def gQ(f:Nat->Bool):Nat->Nat->Int
 |_,0 => -1
 |i,n+1=>if f i then i else gQ f (i+1) n
def nB(f:Nat->Bool):Nat->Int->Int
 |0,c=>c
 |n+1,c=>nB f n (if f n then n else c)
theorem DB(f:Nat->Bool):∀(n i:Nat),gQ f i (n+1)=if gQ f i n = -1 then (if f (i+n) then ((i+n:Nat):Int) else -1) else gQ f i n
 |0,i=>by simp[gQ]
 |n+1,i=>by
  rw[gQ];by_cases h:f i;have e:gQ f i (n+1)=i:=by rw[gQ,if_pos h]
  rw[if_pos h,e,if_neg (by omega)];have e:gQ f i (n+1)=gQ f (i+1) n:=by rw[gQ,if_neg h]
  have hs:i+1+n=i+(n+1):=by omega
  rw[if_neg h,e,DB f n (i+1),hs]
theorem C4(f:Nat->Bool):∀(n:Nat)(c:Int),nB f n c=if gQ f 0 n = -1 then c else gQ f 0 n
 |0,c=>by simp[nB,gQ]
 |n+1,c=>by
  rw[nB,C4 f n,DB];by_cases h1:gQ f 0 n = -1;rw[if_pos h1,if_pos h1];by_cases h2:f n;have h3:f (0+n):=by rw[bF];exact h2
  rw[if_pos h2,if_pos h3,if_neg (by omega)];simp;have h3:¬f (0+n):=by rw[bF];exact h2
  rw[if_neg h2,if_neg h3,if_pos rfl];rw[if_neg h1,if_neg h1,if_neg h1]
theorem aAB(f:Nat->Bool)(n:Nat):nB f n (-1)=gQ f 0 n:=by rw[C4];split;rename_i h;exact h.symm;rfl
def bV(k:aA):List Int:=(List.range k.aSf.es.length).map fun(i:Nat)=>gQ (λv=>kS k (i:Int) (v:Int)) 0 k.aSe.es.length
end
section
section
variable{pg:Pg}
theorem c292(hf:pg.fs 292=some J2)(nl cl:Bool)(es:List aC)(hb:es.length<=big)(g:Nat)(cs:List AV)(hcs:treeL cs=true)(p:aC->Bool)(hp:∀x∈es,Ret pg g (x.av::cs) (.bool (p x))) :
  bQ pg 292 [.sl nl (es.map aC.av) cl,.fn g cs] (λr=>∃i:Int,r = .int .i64 i/\decide (0<=i)=es.any p):=
 AB (f:=292) (esz:=9) (ag:=true) hf aC.av aC.fits_av aC.tree_av nl cl es hb g cs hcs p hp
theorem c273(hf:pg.fs 273=some RJ)(h292:pg.fs 292=some J2)(nl cl:Bool)(es:List aC)(hb:es.length<=big)(g:Nat)(cs:List AV)(hcs:treeL cs=true)(p:aC->Bool)(hp:∀x∈es,Ret pg g (x.av::cs) (.bool (p x))) :
  Ret pg 273 [.sl nl (es.map aC.av) cl,.fn g cs] (.bool (es.any p)):=
 rO (n:=292) hf (by simp only[treeL,qY,wZ,hcs,aC.treeL_av,fF]) (c292 h292 nl cl es hb g cs hcs p hp)
theorem c274(hf:pg.fs 274=some J3)(p:aC)(v rank:Int)(b:Bool)(h:Ret pg 260 [p.av,.int .i64 v,.int .i64 rank] (.bool b)):Ret pg 274 [p.av,.fp (.int .i64 v),.fp (.int .i64 rank)] (.bool (!b)):=by rw[aC.avc]at h;refine Ret.ofX hf ?_;unfold J3;refine Wk ?_;refine aB h ?_;simp only[go_sem,seval]
theorem c272(A:Ora pg)(hf:pg.fs 272=some J4)(h108:pg.fs 108=some x6)(p:aC)(rank:Int):Ret pg 272 [p.av,.int .i64 rank] (.bool (sR p rank)):=by
 refine Ret.ofX hf ?_;unfold J4;have hb:=p.at_.ok;cases b1:p.dyn
 case true=>simp only[b1,go_sem,seval];simp[sR,b1]
 cases b2:decide ((p.at_.es.length:Int)=rank)
 case false=>simp only[b1,b2,go_sem,seval];simp[sR,b1,b2]
 simp only[b1,b2,go_sem,seval];refine aJ p.at_.es (λd r env hp=>env=AU (.sl p.at_.nl (p.at_.es.map Lin.av) p.at_.cl) (.int .i64 p.at_.es.length) (.int .i64 d.length)/\nY 0 p.at_.es=nY d.length r) ?_ ?_ ?_;exact⟨rfl,rfl⟩;rintro env hp ⟨rfl,hI⟩;simp only[AR,AU,go_sem,seval];simp[sR,b1,b2,hI,nY]
 ·rintro d x r env hp hes ⟨rfl,hI⟩;have hb2:(d++x::r).length<=big:=by rw[<-hes];exact hb
  have hw:=aZ hb2;have hget:p.at_.es[d.length]?=some x:=by rw[hes];simp
  have e1:decide ((d.length:Int)<(p.at_.es.length:Int))=true:=by rw[hes];simp;omega
  have hown:sR p rank=(qQ d.length x&&nY (d.length+1) r):=by simp[sR,b1,b2,hI,nY]
  rw[hown];have hlen:d.length<=9223372036854775807:=by simp only[big]at hb2;simp at hb2;omega
  have h8:=aMr A h108 (d.length:Int) (by omega);clear hown hes hb hb2;cases b3:decide (x.c=0)
  case false=>simp only[AR,AU,e1,hget,b3,go_sem,seval];refine aY ?_;simp[qQ,b3]
  by_cases hl:x.ts.es.length=1
  case neg=>
   have b4:decide ((x.ts.es.length:Int)=1)=false:=by simp;omega
   have hil:qQ d.length x=false:=by
    simp only[qQ,b3,cE];rcases h:x.ts.es with _|⟨t,_|⟨u,s⟩⟩
    rfl;rw[h]at hl;simp at hl;rfl
   simp only[AR,AU,e1,hget,b3,b4,go_sem,seval];refine aY ?_;simp[hil]
  obtain⟨t,ht⟩:∃t,x.ts.es=[t]:=by
   rcases h:x.ts.es with _|⟨t,_|⟨u,s⟩⟩
   rw[h]at hl;simp at hl;exact⟨t,rfl⟩;rw[h]at hl;simp at hl
  have b4:decide ((x.ts.es.length:Int)=1)=true:=by simp;omega
  have hg0:x.ts.es[0]?=some t:=by rw[ht];rfl
  have hil:qQ d.length x=(decide (t.v.bs=sU d.length)&&decide (t.c=1)):=by simp only[qQ,b3,cE,ht]
  rw[hil];clear ht hl;simp only[AR,AU,e1,hget,b3,b4,hg0,go_sem,seval];refine aB h8 ?_;simp only[dQ.avc,go_sem,seval];refine aY ?_;cases b5:decide (t.v.bs=sU d.length)<;>cases b6:decide (t.c=1)
  all_goals (simp only[b5,b6,hw,go_sem,seval])
  exact⟨rfl,by rw[hI,nY,hil,b5,b6];simp⟩
end
end
section
section
variable{pg:Pg}
theorem c260(A:Ora pg)(hf:pg.fs 260=some RO)(h272:pg.fs 272=some J4)(h273:pg.fs 273=some RJ)(h274:pg.fs 274=some J3)(h292:pg.fs 292=some J2)(h108:pg.fs 108=some x6)(v rank:Int) :
  ∀p:aC,p.ok->Ret pg 260 [p.av,.int .i64 v,.int .i64 rank] (.bool (yV v rank p)):=by
 refine aC.ind' λp ih hp=>?_;obtain⟨hk,hks⟩:=(aC.ok_iff p).1 hp;have a1:=c272 A h272 h108 p rank;have a2:=c273 h273 h292 p.knl p.kcl p.aSj hk 274 [.fp (.int .i64 v),.fp (.int .i64 rank)] rfl (λq => !yV v rank q) (λq hq=>c274 h274 q v rank _ (ih q hq (hks q hq)));rw[aC.avc]at a1
 have hall:(p.aSj.any λq => !yV v rank q) = !p.aSj.all (yV v rank):=by rw[Bool.eq_iff_iff];simp
 rw[hall]at a2;rw[YI,BO];refine Ret.ofX hf ?_;unfold RO;clear ih hks hp hk hall;cases b1:decide (p.op.bs=[114,101,97,100])
 case false=>
  have ho:vC v rank p=true:=by simp[vC,b1]
  rw[ho];simp only[b1,go_sem,seval];refine cR (a2) (by simp only[ bF,depth,cW,bM,fE,go_sem,seval];rfl) (by first|rfl|simp only[iO]) ?_;simp only[Bool.not_not,go_sem,seval]
 cases b2:decide (p.value=v)
 case false=>
  have ho:vC v rank p=true:=by simp[vC,b2]
  rw[ho];simp only[b1,b2,go_sem,seval];refine cR (a2) (by simp only[ bF,depth,cW,bM,fE,go_sem,seval];rfl) (by first|rfl|simp only[iO]) ?_;simp only[Bool.not_not,go_sem,seval]
 have ho:vC v rank p=sR p rank:=by simp[vC,b1,b2]
 rw[ho];simp only[b1,b2,go_sem,seval];refine aB a1 ?_;cases b3:sR p rank
 case false=>simp only[go_sem,seval]
 refine Wk ?_;refine cR (a2) (by simp only[ bF,depth,cW,bM,fE,go_sem,seval];rfl) (by first|rfl|simp only[iO]) ?_;simp only[Bool.not_not,go_sem,seval]
def aCg(n:Nat):Lin:=⟨0,⟨false,[⟨⟨sU n,by have:=AI 20 n;simp only[sU];split<;>simp[big];omega⟩,1⟩],true,by simp[big]⟩⟩
theorem T9(n:Nat)(l:Lin):cN l (aCg n)=qQ n l:=by
 simp only[cN,aCg,qQ];congr 1;rcases l.ts.es with _|⟨t,_|⟨u,s⟩⟩
 rfl;simp[eqL,iI];simp[eqL]
theorem c261(hf:pg.fs 261=some RN)(h122:∀n:Int,n<=9223372036854775807->Ret pg 122 [.int .i64 n] (.str (sU n)))(h162:∀a b:Lin,Ret pg 162 [a.av,b.av] (.bool (cN a b)))(v rank:Int) :
  ∀p:aC,p.ok->Ret pg 261 [p.av,.int .i64 v,.int .i64 rank] (.bool (yV v rank p)):=by
 refine aC.ind' λp ih hp=>?_;obtain⟨hk,hks⟩:=(aC.ok_iff p).1 hp;rw[YI,BO];refine Ret.ofX hf ?_;unfold RN;have hb:=p.at_.ok;cases b1:decide (p.op.bs=[114,101,97,100])
 case' false=>
  have ho:vC v rank p=true:=by simp[vC,b1]
  simp only[b1,go_sem,seval]
 case' true=>
  cases b2:decide (p.value=v)
  case' false=>
   have ho:vC v rank p=true:=by simp[vC,b2]
   simp only[b1,b2,go_sem,seval]
  case' true=>
   have ho':vC v rank p=sR p rank:=by simp[vC,b1,b2]
   cases b3:p.dyn
   case true=>
    have:vC v rank p=false:=by simp[ho',sR,b3]
    rw[this];simp only[b1,b2,b3,go_sem,seval]
   cases b4:decide ((p.at_.es.length:Int)=rank)
   case false=>
    have:vC v rank p=false:=by simp[ho',sR,b4]
    rw[this];simp only[b1,b2,b3,b4,go_sem,seval]
   have ho2:vC v rank p=nY 0 p.at_.es:=by simp[ho',sR,b3,b4]
   have hr:rank=(p.at_.es.length:Int):=by
    have:(p.at_.es.length:Int)=rank:=by simpa using b4
    exact this.symm
   simp only[b1,b2,b3,b4,go_sem,seval];refine aJ p.at_.es (λd r env hp=>env=NG (.int .i64 v) (.int .i64 rank) (.pt 1 0 0) (.int .i64 d.length)/\hp.get 1=some (0,.blk p.cells 9 true true false)/\nY 0 p.at_.es=nY d.length r) ?_ ?_ ?_;exact⟨rfl,by simp only[go_sem,seval];simp only[aC.cells,Sl.av,aC.kav,b3],rfl⟩
   rotate_left
   rintro d x r env hp hes ⟨rfl,g1,hI⟩;have g1':=g1;simp only[aC.cells,Sl.av,aC.kav]at g1;have hb2:(d++x::r).length<=big:=by rw[<-hes];exact hb
   have hw:=aZ hb2;have hget:p.at_.es[d.length]?=some x:=by rw[hes];simp
   have e1:decide ((d.length:Int)<rank)=true:=by rw[hr,hes];simp;omega
   have hlen:d.length<=9223372036854775807:=by simp only[big]at hb2;simp at hb2;omega
   have a1:=h122 (d.length:Int) (by omega);have a2:Ret pg 162 [x.av,.agg [.int .i64 0,.sl false [.agg [.str (sU d.length),.int .i64 1]] true]] (.bool (qQ d.length x)):=by rw[<-T9];exact h162 x (aCg d.length)
   rw[ho2,hI];simp only[NE,NG,e1,g1,hget,go_sem,seval];refine aB a1 (Wk ?_);refine aB a2 ?_;cases b5:qQ d.length x;refine Wk ?_;refine aY ?_;simp[nY,b5];simp only[hw,go_sem,seval];refine aY ?_;exact⟨rfl,g1',by simp[nY,b5]⟩;rintro env hp ⟨rfl,g1,hI⟩;have ho:vC v rank p=true:=by rw[ho2,hI];rfl
   have e1:decide ((p.at_.es.length:Int)<rank)=false:=by rw[hr];simp
   simp only[NE,NG,e1,go_sem,seval]
 all_goals (rw[ho,cE])
 all_goals (refine aJ p.aSj (λd r env hp=>env=NF (.int .i64 v) (.int .i64 rank) (.pt 1 0 0) (.int .i64 d.length)/\hp.get 1=some (0,.blk p.cells 9 true true false)/\p.aSj.all (yV v rank)=r.all (yV v rank)) ?_ ?_ ?_)
 all_goals (first|exact⟨rfl,g1,rfl⟩|exact⟨rfl,by simp only[go_sem,seval];rfl,rfl⟩|skip)
 case false.refine_2|true.false.refine_2|true.true.refine_2=>rintro env hp ⟨rfl,g1,hI⟩;simp only[aC.cells,Sl.av,aC.kav]at g1;simp only[ND,NF,g1,go_sem,seval];rw[hI];rfl
 all_goals
  rintro d x r env hp hes ⟨rfl,g1,hI⟩;have g1':=g1;simp only[aC.cells,Sl.av,aC.kav]at g1;have hx:=ih x (by rw[hes];simp) (hks x (by rw[hes];simp));have hb2:(d++x::r).length<=big:=by rw[<-hes];exact hk
  have hw:=aZ hb2;have hget:p.aSj[d.length]?=some x:=by rw[hes];simp
  have e1:decide ((d.length:Int)<(p.aSj.length:Int))=true:=by rw[hes];simp;omega
  simp only[ND,NF,e1,g1,hget,go_sem,seval];refine aB hx ?_;cases b5:yV v rank x;refine Wk ?_;simp[hI,b5];simp only[hw,go_sem,seval];exact⟨rfl,g1',by simp[hI,b5]⟩
theorem c294(hf:pg.fs 294=some RG)(h37:∀p:aC,p.ok->p.sz<=big->bQ pg 37 [p.av] (pA 1 false ((bX p).map aH)))(p:aC)(hp:p.ok)(hsz:p.sz<=big)(v:Int) :
  Ret pg 294 [p.av,.int .i64 v] (.bool ((cT p).contains v)):=by
 have a1:=h37 p hp hsz;have hlen:=lZ p;rw[<-aBB]at a1;rw[aC.avc]at a1;refine Ret.ofX hf ?_;unfold RG;refine Wk ?_;refine mN a1 (by simp only[go_sem,seval]) ?_;intro nl cl _;refine Wk ?_;refine aJ (cT p) (λd r env hp=>env=EE (.int .i64 v) (.sl nl ((cT p).map aH) cl) (.int .i64 d.length)/\(cT p).contains v=r.contains v) ?_ ?_ ?_;exact⟨rfl,rfl⟩;rintro env hp ⟨rfl,hI⟩;simp only[ED,EE,go_sem,seval];rw[hI];rfl;rintro d x r env hp hes ⟨rfl,hI⟩;have hb2:(d++x::r).length<=big:=by rw[<-hes];omega
 have hw:=aZ hb2;have hget:(cT p)[d.length]?=some x:=by rw[hes];simp
 have e1:decide ((d.length:Int)<((cT p).length:Int))=true:=by rw[hes];simp;omega
 rw[hI];cases b1:decide (x=v);have:v≠x:=by intro h;simp[h]at b1
 simp only[ED,EE,e1,hget,b1,hw,go_sem,seval];exact⟨rfl,by simp[this]⟩;have:v=x:=by simp at b1;omega
 simp only[ED,EE,e1,hget,b1,go_sem,seval];simp[this]
theorem c316(hf:pg.fs 316=some RF)(nl cl:Bool)(es:List Int)(hb:es.length<=big)(v:Int) :
  bQ pg 316 [.sl nl (es.map aH) cl,.int .i64 v] (λr=>∃i:Int,r = .int .i64 i/\decide (0<=i)=es.any (λy=>decide (v=y))):=
 LM (f:=316) (k:=.bin .eql) hf aH (λ_=>rfl) nl cl es hb (.int .i64 v) (λy=>decide (v=y)) (by intro kb s h x Q t;simp only[go_sem,seval])
theorem c293(hf:pg.fs 293=some Y7)(h316:pg.fs 316=some RF)(nl cl:Bool)(es:List Int)(hb:es.length<=big)(v:Int) :
  Ret pg 293 [.sl nl (es.map aH) cl,.int .i64 v] (.bool (es.contains v)):=by
 have e:∀l:List Int,l.contains v=l.any λy=>decide (v=y):=by
  intro l
  induction l with
  |nil=>rfl
  |cons x r ih=>simp only[List.contains_cons,List.any_cons];rw[ih];rfl
 rw[e];exact rO (n:=316) hf (by simp only[go_sem,seval]) (c316 h316 nl cl es hb v)
end
end
section
def eI(f:Typ->Int):List Sp->List Typ->List Int
 |s::r,t::q=>(if s.1 = -2 then 0 else f t)::eI f r q
 |_,_=>[]
theorem aBp{h:Hp}{k e:Nat}{l:List Int}{t:Bool}(hg:h.get k=some (e,.blk (l.map aH) 1 false t false))(d:Nat):Tev.snap (d+2) h (.rf k e 0 l.length l.length)=some (.sl false (l.map aH) t,[k]):=by obtain⟨cs',h1,h2,h3,h4⟩:=eD (El.ints l);rw[iU]at h1;cases h1;have h5:=h4 [];rw[List.append_nil,aM]at h5;have h6:eN (Tev.snap (d+1) h) (l.map aH)=some (l.map aH,[]):=fI d h (mC l);rw[fE];simp[hg,h5,h6,AV.tree]
theorem nU(f:Typ->Int):∀(d:List Sp)(vs:List Typ),d.length<=vs.length->(eI f d vs).length=d.length
 |[],_,_=>by simp[eI]
 |s::r,t::q,h=>by simp[eI,nU f r q (by simpa using h)]
 |s::r,[],h=>by simp at h
theorem rB(f:Typ->Int)(s:Sp):∀(d:List Sp)(vs:List Typ)(t:Typ),vs[d.length]?=some t->eI f (d++[s]) vs=eI f d vs++[if s.1 = -2 then 0 else f t]
 |[],[],_,h=>by simp at h
 |[],t' :: q,t,h=>by simp at h;subst h;simp[eI]
 |s' :: r,t' :: q,t,h=>by have:=rB f s r q t (by simpa using h);simp[eI,this]
 |_::_,[],_,h=>by simp at h
def vU(f:Typ->Int)(d:List Sp)(vs:List Typ):List Int:=eI f d vs++List.replicate (vs.length-d.length) 0
theorem aBM(f:Typ->Int)(d:List Sp)(vs:List Typ)(h:d.length<=vs.length):(vU f d vs).length=vs.length:=by simp only[vU,dC,EN,nU f d vs h];omega
theorem Z5(f:Typ->Int)(s:Sp)(d:List Sp)(vs:List Typ)(t:Typ)(ht:vs[d.length]?=some t)(hs:s.1 = -2):vU f (d++[s]) vs=vU f d vs:=by
 have hl:=(cJ.1 ht).1;obtain⟨m,hm⟩:∃m,vs.length-d.length=m+1:=⟨vs.length-d.length-1,by omega⟩
 have hm2:vs.length-(d++[s]).length=m:=by simp;omega
 simp only[vU,rB f s d vs t ht,hm,hm2,if_pos hs,lH,List.replicate_succ,List.singleton_append]
theorem aBL(f:Typ->Int)(s:Sp)(d:List Sp)(vs:List Typ)(t:Typ)(ht:vs[d.length]?=some t)(hs:¬s.1 = -2) :
  (vU f (d++[s]) vs).map aH=List.take d.length ((vU f d vs).map aH)++[.int .i64 (f t)]++List.drop (d.length+1) ((vU f d vs).map aH):=by
 have hl:=(cJ.1 ht).1;obtain⟨m,hm⟩:∃m,vs.length-d.length=m+1:=⟨vs.length-d.length-1,by omega⟩
 have hm2:vs.length-(d++[s]).length=m:=by simp;omega
 have hA:=nU f d vs (by omega);simp only[vU,rB f s d vs t ht,hm,hm2,if_neg hs,List.replicate_succ,List.map_append,List.map_cons,List.map_nil];rw[List.take_append_of_le_length (by simp[hA]),List.drop_append,List.take_of_length_le (by simp[hA]),List.drop_of_length_le (by simp[hA])];simp[hA,aH]
section
variable{pg:Pg}
end
end
section
structure aKR(ins:Nat)(m:Nat)(n:Nat)(s:Sp):Prop where
 inp:n<ins->s.1 = -1 /\ -1<=s.2
 own:ins<=n->s.1 = -2\/(0<=s.1/\s.1<(m:Int))
 lo : -2<=s.2
 hi:s.2<(m:Int)
theorem UX{ins V:Nat}:∀(d:List aG)(n:Nat)(s:Sp),(gM (d8 V ins) 0 d)[n]?=some s->aKR ins d.length n s:=by
 intro d
 induction hn:d.length generalizing d with
 |zero=>
  obtain rfl:=List.length_eq_zero_iff.1 hn;intro n s h;rw[gM]at h;rcases TA V ins n s h with ⟨h1,rfl⟩|⟨h1,rfl⟩
  exact⟨λ_=>by simp,λh=>by omega,by simp,by simp⟩;exact⟨λh=>by omega,λ_ => .inl rfl,by simp,by simp⟩
 |succ m ih=>
  obtain⟨d',q,rfl⟩:∃d' q,d=d'++[q]:=by
   rcases mO d with h|⟨d',q,h⟩
   subst h;simp at hn;exact⟨d',q,by simpa using h⟩
  have hl:d'.length=m:=by simpa using hn
  intro n s h;rw[yF,bF]at h;have hlt:n<(gM (d8 V ins) 0 d').length:=by have:=(cJ.1 h).1;rwa [yE]at this
  obtain⟨s',h1,h2,h3,h4⟩:=S8 (gM (d8 V ins) 0 d') d'.length q n _ (aW hlt);rw[h]at h1;cases h1;have I:=ih d' hl n _ (aW hlt);generalize (gM (d8 V ins) 0 d')[n]=s0 at *;rw[hl]at h2 h3;have hs2:s.2=(m:Int)\/s.2=s0.2:=by by_cases hu:uses q n;exact .inl (h3 hu);exact .inr (h4 hu)
  obtain⟨i1,i2,i3,i4⟩:=I;refine⟨λh=>?_,λh=>?_,?_,?_⟩;obtain⟨a,b⟩:=i1 h;rw[if_neg (by rintro⟨_,c⟩;omega)]at h2;exact⟨by omega,by rcases hs2 with e|e<;>omega⟩;have:=i2 h;split at h2<;>omega;rcases hs2 with e|e<;>omega;rcases hs2 with e|e<;>omega
structure aME(k:aA)(n:Nat)(s:Sp):Prop where
 fst:s.1 = -2\/(-1<=s.1/\s.1<(k.aSf.es.length:Int)+1)
 snd : -2<=s.2/\s.2<=(k.aSf.es.length:Int)
 inp:(s.1 ≠ -2/\s.1 <= -1 /\ -1<=s.2)↔(n:Int)<k.aSg
 res:s.2=(k.aSf.es.length:Int)↔n∈k.results.es.map Int.toNat
theorem aKV{k:aA}(h0:0<=k.aSg){n:Nat}{s:Sp}(h:(aD k)[n]?=some s):aME k n s:=by
 rw[S6,tJ]at h;obtain⟨s0,h1,h2⟩:=h;have I:=UX k.aSf.es n s0 h1;obtain⟨i1,i2,i3,i4⟩:=I;have hfst:s.1=s0.1:=by rw[<-h2];split<;>rfl
 have hsnd:(n∈k.results.es.map Int.toNat/\s.2=(k.aSf.es.length:Int))\/(n ∉ k.results.es.map Int.toNat/\s.2=s0.2):=by rw[<-h2];split;rename_i hh;exact .inl ⟨hh,rfl⟩;rename_i hh;exact .inr ⟨hh,rfl⟩
 refine⟨?_,?_,?_,?_⟩;rcases eS n k.aSg.toNat with c|c;have:=i1 c;omega;have:=i2 c;omega;rcases hsnd with ⟨_,e⟩|⟨_,e⟩<;>omega;constructor;rintro⟨a,b,c⟩;rcases eS n k.aSg.toNat with d|d;omega;have:=i2 d;omega;intro hn;have:=i1 (by omega);rcases hsnd with ⟨_,e⟩|⟨_,e⟩<;>omega;rcases hsnd with ⟨a,e⟩|⟨a,e⟩
 exact⟨λ_=>a,λ_=>e⟩;exact⟨λh=>by omega,λh=>absurd h a⟩
def kI(j:Nat):List (Sp×Int)->Int->Int
 |[],a=>a
 |p::r,a=>kI j r (if fQ ((j:Int)-1) p.1 then wr .i64 (a+p.2) else a)
end
section
theorem YN{k:aA}{at_ v:Nat}{q:aG}{a b:Typ}(hq:k.aSf.es[at_]?=some q)(ha:k.aSe.es[v]?=some a)(hb:k.aSe.es[q.value.toNat]?=some b):kS k at_ v=aAb k at_ v q a b:=by
 have h1:decide (0<=(at_:Int))=true:=by simp
 have h2:decide (0<=(v:Int))=true:=by simp
 simp only[kS,dU,hq,ha,hb,h1,h2,cE]
theorem w9{k:aA}{v:Int}{s:Sp}(h:(aD k)[v.toNat]?=some s):vG k v=s:=by simp[vG,h]
structure aMH(k:aA)(at_ v:Nat)(q:aG)(a b:Typ)(s1 s2:Sp):Prop where
 hq:k.aSf.es[at_]?=some q
 ha:k.aSe.es[v]?=some a
 hb:k.aSe.es[q.value.toNat]?=some b
 h1:(aD k)[q.value.toNat]?=some s1
 h2:(aD k)[v]?=some s2
 q0:0<=q.value
 f2 : -2<=s2.1
 mem:q∈k.aSf.es
theorem aHp{k:aA}(ok:gT k){at_ v:Nat}(ha:at_<k.aSf.es.length)(hv:v<k.aSe.es.length):∃q a b s1 s2,aMH k at_ v q a b s1 s2:=by
 obtain⟨i0,i1⟩:=ok.inp;have hsl:=jZ (k:=k) (by omega);have hg:k.aSf.es[at_]?=some k.aSf.es[at_]:=aW ha;have hsplit:k.aSf.es=k.aSf.es.take at_++k.aSf.es[at_]::k.aSf.es.drop (at_+1):=by rw[<-i8 ha,List.take_append_drop]
 obtain⟨w1,w2,_⟩:=d5 (ok.ker _ _ _ hsplit);have hs2:(aD k)[v]?=some (aD k)[v]:=aW (by omega);have hE:=(aKV i0 hs2).fst;exact⟨_,_,_,_,_,hg,aW hv,aW (by omega),aW (by omega),hs2,by omega,by omega,List.getElem_mem ha⟩
section
variable{pg:Pg}
set_option maxHeartbeats 4000000 in
theorem c275(hf:pg.fs 275=some RI)(h65:∀x y:Typ,Ret pg 65 [x.av,y.av] (.bool (jH x y)))(h48:∀p:aC,p.ok->p.sz<=big->bQ pg 48 [p.av] (pA 1 false ((cT p).map aH)))
  (h293:∀(nl cl:Bool)(es:List Int),es.length<=big->∀v:Int,Ret pg 293 [.sl nl (es.map aH) cl,.int .i64 v] (.bool (es.contains v)))
  (h260:∀(v rank:Int)(p:aC),p.ok->Ret pg 260 [p.av,.int .i64 v,.int .i64 rank] (.bool (yV v rank p))) (k:aA) (ok:gT k)
  (hk:∀q∈k.aSf.es,q.body.ok/\q.index.ok/\q.body.sz+q.index.sz+1<=big) (nl cl:Bool) (at_ v:Nat) (hat:at_<k.aSf.es.length) (hv:v<k.aSe.es.length) :
  Ret pg 275 [k.av,.sl nl ((aD k).map bO) cl,.int .i64 at_,.int .i64 v] (.bool (kS k at_ v)):=by
 obtain⟨q,a,b,s1,s2,M⟩:=aHp ok hat hv;obtain⟨m1,m2,m3,m4,m5,m6,m7,m8⟩:=M;obtain⟨k1,k2,k3⟩:=hk q m8;rw[YN m1 m2 m3];simp only[aAb,w9 m4,w9 (v:=(v:Int)) (by simpa using m5)];have a65:=h65 a b;have a48:=h48 q.body k1 (by omega);have b48:=h48 q.index k2 (by omega);have l1:=lZ q.body;have l2:=lZ q.index;have a260:=h260 v b.aSh.aSi.es.length q.body k1;have m6':(0<=q.value)=True:=aK m6;rw[aC.avc]at a48 b48 a260;clear h65 h48 h260 hk ok m7 m8 k1 k2;refine Ret.ofX hf ?_;unfold RI;cases b1:decide ((v:Int)=q.value)
 case true=>
  simp only[m1,m2,m3,m4,m5,m6',b1,bO,go_sem,seval]
  first|kernel_rfl|(refine aY ?_;simp only[go_sem,seval])
 cases b2:decide (s1.1=(at_:Int))
 case false=>
  simp only[m1,m2,m3,m4,m5,m6',b1,b2,bO,go_sem,seval]
  first|kernel_rfl|(refine aY ?_;simp only[go_sem,seval])
 cases b3:decide (s2.1 = -2)
 case true=>
  simp only[m1,m2,m3,m4,m5,m6',b1,b2,b3,bO,go_sem,seval]
  first|kernel_rfl|(refine aY ?_;simp only[go_sem,seval])
 cases b4:decide (s2.2=(at_:Int))
 case false=>
  simp only[m1,m2,m3,m4,m5,m6',b1,b2,b3,b4,bO,go_sem,seval]
  first|kernel_rfl|(refine aY ?_;simp only[go_sem,seval])
 simp only[m1,m2,m3,m4,m5,m6',b1,b2,b3,b4,bO,go_sem,seval];refine aB a65 ?_;cases b5:jH a b
 case false=>
  simp only[go_sem,seval]
  first|kernel_rfl|(refine aY ?_;simp only[go_sem,seval])
 refine Wk ?_;refine aY ?_;by_cases h6:q.kind=3;have b6:decide (q.kind=3)=true:=decide_eq_true h6;rw[if_pos h6];cases b7:decide ((v:Int)=q.source)
 case false=>simp only[b6,b7,go_sem,seval]
 simp only[b6,b7,go_sem,seval];refine mN a48 (by simp only[go_sem,seval]) ?_;intro nl1 cl1 _;refine Wk ?_;refine aB (h293 nl1 cl1 _ (by omega) v) ?_;cases b8:(cT q.body).contains (v:Int)
 case true=>simp only[go_sem,seval]
 refine Wk ?_;refine mN b48 (by simp only[go_sem,seval]) ?_;intro nl2 cl2 _;refine Wk ?_;refine aB (h293 nl2 cl2 _ (by omega) v) ?_;simp only[go_sem,seval];have b6:decide (q.kind=3)=false:=decide_eq_false h6;rw[if_neg h6];simp only[b6,m3,m6',go_sem,seval];refine aB a260 ?_;simp only[go_sem,seval]
 first|kernel_rfl|(refine aY ?_;simp only[go_sem,seval])
set_option maxHeartbeats 4000000 in
theorem c276(hf:pg.fs 276=some RH)(h88:∀x y:Typ,Ret pg 88 [x.av,y.av] (.bool (jH x y)))(h294:∀p:aC,p.ok->p.sz<=big->∀v:Int,Ret pg 294 [p.av,.int .i64 v] (.bool ((cT p).contains v)))
  (h261:∀(v rank:Int)(p:aC),p.ok->Ret pg 261 [p.av,.int .i64 v,.int .i64 rank] (.bool (yV v rank p))) (k:aA) (ok:gT k)
  (hk:∀q∈k.aSf.es,q.body.ok/\q.index.ok/\q.body.sz+q.index.sz+1<=big) (nl cl:Bool) (at_ v:Nat) (hat:at_<k.aSf.es.length) (hv:v<k.aSe.es.length) :
  Ret pg 276 [k.av,.sl nl ((aD k).map bO) cl,.int .i64 at_,.int .i64 v] (.bool (kS k at_ v)):=by
 obtain⟨q,a,b,s1,s2,M⟩:=aHp ok hat hv;obtain⟨m1,m2,m3,m4,m5,m6,m7,m8⟩:=M;obtain⟨k1,k2,k3⟩:=hk q m8;rw[YN m1 m2 m3];simp only[aAb,w9 m4,w9 (v:=(v:Int)) (by simpa using m5)];have a88:=h88 a b;have a294:=h294 q.body k1 (by omega) v;have b294:=h294 q.index k2 (by omega) v;have a261:=h261 v b.aSh.aSi.es.length q.body k1;have m6':(0<=q.value)=True:=aK m6;have b3':decide (s2.1 < -1)=decide (s2.1 = -2):=by rw[eH];omega
 rw[aC.avc]at a294 b294 a261;clear h88 h294 h261 hk ok m7 m8 k1 k2;refine Ret.ofX hf ?_;unfold RH;cases b1:decide ((v:Int)=q.value)
 case true=>simp only[m1,m2,m3,m4,m5,m6',b1,bO,go_sem,seval]
 cases b2:decide (s1.1=(at_:Int))
 case false=>simp only[m1,m2,m3,m4,m5,m6',b1,b2,bO,go_sem,seval]
 cases b3:decide (s2.1 = -2)
 case true=>rw[b3]at b3';simp only[m1,m2,m3,m4,m5,m6',b1,b2,b3',bO,go_sem,seval]
 rw[b3]at b3';cases b4:decide (s2.2=(at_:Int))
 case false=>simp only[m1,m2,m3,m4,m5,m6',b1,b2,b3',b4,bO,go_sem,seval]
 simp only[m1,m2,m3,m4,m5,m6',b1,b2,b3',b4,bO,go_sem,seval];refine aB a88 ?_;cases b5:jH a b
 case false=>
  simp only[go_sem,seval]
  first|kernel_rfl|(refine aY ?_;simp only[go_sem,seval])
 refine Wk ?_;refine aY ?_;by_cases h6:q.kind=3;have b6:decide (q.kind=3)=true:=decide_eq_true h6;rw[if_pos h6];cases b7:decide ((v:Int)=q.source)
 case false=>simp only[b6,b7,go_sem,seval]
 simp only[b6,b7,go_sem,seval];refine aB a294 ?_;cases b8:(cT q.body).contains (v:Int)
 case true=>simp only[go_sem,seval]
 refine Wk ?_;refine aB b294 ?_;simp only[go_sem,seval];have b6:decide (q.kind=3)=false:=decide_eq_false h6;rw[if_neg h6];simp only[b6,m3,m6',go_sem,seval];refine aB a261 ?_;simp only[go_sem,seval]
 first|kernel_rfl|(refine aY ?_;simp only[go_sem,seval])
end
end
section
def yW(k:aA)(at_ v:Int):Bool:=decide ((cY k).2=0)&&kS k at_ v
theorem v6{k:aA}{at_ v:Int}(h:¬(0<=at_/\at_<k.aSf.es.length/\0<=v/\v<k.aSe.es.length)):kS k at_ v=false:=by
 cases hm:kS k at_ v with
 |false=>rfl
 |true=>simp only[kS]at hm;split at hm;rename_i q a hq ha;split at hm;simp only[aF,aR]at hm;have h1:=(cJ.1 hq).1;have h2:=(cJ.1 ha).1;exact absurd ⟨hm.1.1,by omega,hm.1.2,by omega⟩ h;cases hm;cases hm
section
variable{pg:Pg}
theorem qZ(l:List Sp):treeL (l.map bO)=true:=cH (f:=bO) (λs=>by simp[bO,go_sem]) _
attribute [go_sem] qZ
set_option maxHeartbeats 4000000 in
theorem c265(hf:pg.fs 265=some RK)(k:aA)(h10:bQ pg 10 [k.av] (iA k))
  (h276:gT k->∀(nl cl:Bool)(at_ v:Nat),at_<k.aSf.es.length->v<k.aSe.es.length->Ret pg 276 [k.av,.sl nl ((aD k).map bO) cl,.int .i64 at_,.int .i64 v] (.bool (kS k at_ v)))
  (at_ v:Int):Ret pg 265 [k.av,.int .i64 at_,.int .i64 v] (.bool (yW k at_ v)):=by
 obtain⟨r10,hr10,hs10⟩:=h10;rw[aA.avc]at hr10;refine Ret.ofX hf ?_;unfold RK;rcases lD (k:=k) with hc|hc
 case inr=>
  rw[iA,if_neg (by omega)]at hs10;subst hs10;have:yW k at_ v=false:=by simp[yW,hc]
  rw[this];refine Wk ?_;refine aB hr10 ?_;simp only[go_sem,seval]
 have ok:=cA hc;rw[iA,if_pos hc]at hs10;obtain⟨nl,cl,rfl⟩:=hs10;have hm:yW k at_ v=kS k at_ v:=by simp[yW,hc]
 rw[hm];refine Wk ?_;refine bZ hr10 (by simp only[go_sem,seval]) (by first|rfl|simp[AV.tree,qZ]) ?_;cases b1:decide (0<=at_)
 case false=>rw[v6 (by simp at b1;omega)];simp only[b1,go_sem,seval]
 cases b2:decide (at_<(k.aSf.es.length:Int))
 case false=>rw[v6 (by simp at b2;omega)];simp only[b1,b2,go_sem,seval]
 cases b3:decide (0<=v)
 case false=>rw[v6 (by simp at b3;omega)];simp only[b1,b2,b3,go_sem,seval]
 cases b4:decide (v<(k.aSe.es.length:Int))
 case false=>rw[v6 (by simp at b4;omega)];simp only[b1,b2,b3,b4,go_sem,seval]
 obtain⟨n,rfl⟩:∃n:Nat,at_=n:=⟨at_.toNat,by simp at b1;omega⟩
 obtain⟨m,rfl⟩:∃m:Nat,v=m:=⟨v.toNat,by simp at b3;omega⟩
 have h:=h276 ok nl cl n m (by simp at b2;omega) (by simp at b4;omega);rw[aA.avc]at h;simp only[b1,b2,b3,b4,go_sem,seval];refine aB h ?_;simp only[go_sem,seval]
end
end
section
def AM(k:aA)(r:AV):Prop:=
 if (cY k).2=0 then ∃nl cl,(nl=true->bV k=[])/\r = .tup [.sl nl ((bV k).map aH) cl,.int .i64 0] else r = .tup [.sl true [] true,.int .i64 22]
def d7(k:aA)(i:Nat):Int:=gQ (λv=>kS k (i:Int) (v:Int)) 0 k.aSe.es.length
def lE(k:aA)(n:Nat):List Int:=(List.range n).map (d7 k)
theorem kT(k:aA):bV k=lE k k.aSf.es.length:=rfl
theorem AL(k:aA)(n:Nat):lE k (n+1)=lE k n++[d7 k n]:=by simp[lE,List.range_succ]
theorem mM(k:aA)(n:Nat):(lE k n).length=n:=by simp[lE]
section
variable{pg:Pg}
set_option maxHeartbeats 8000000 in
theorem c262(hf:pg.fs 262=some RM)(k:aA)(h9:bQ pg 9 [k.av] (lI k))
  (h275:gT k->∀(nl cl:Bool)(at_ v:Nat),at_<k.aSf.es.length->v<k.aSe.es.length->Ret pg 275 [k.av,.sl nl ((aD k).map bO) cl,.int .i64 at_,.int .i64 v] (.bool (kS k at_ v))) :
  bQ pg 262 [k.av] (AM k):=by
 obtain⟨r9,hr9,hs9⟩:=h9;rw[aA.avc]at hr9;refine bQ.ofX hf ?_;unfold RM;rcases lD (k:=k) with hc|hc
 case inr=>rw[lI,if_neg (by omega)]at hs9;subst hs9;refine Wk ?_;refine aB hr9 (Wk ?_);rw[AM,if_neg (by omega)]
 have ok:=cA hc;rw[lI,if_pos hc]at hs9;subst hs9;have hlb:=k.aSf.ok;have hvb:=k.aSe.ok;refine Wk ?_;refine bZ hr9 (by simp only[go_sem,seval]) (by first|rfl|simp[AV.tree,qZ]) (Wk ?_)
 refine aJ k.aSf.es (λd r env hp=>∃v,env=NB (.pt 1 0 0) (.sl false ((aD k).map bO) false) v (.int .i64 k.aSf.es.length) (.int .i64 d.length) /\
  hp.get 1=some (0,.blk k.cells 6 true true false)/\Own hp 13 1 false v ((lE k d.length).map aH)) ?_ ?_ ?_
 refine⟨_,rfl,?_,Own.nil _ _ _ _ _ _ rfl⟩;refine Wk ?_;rfl;rintro env hp ⟨v,rfl,g1,ho⟩;simp only[M9,NB,go_sem,seval];rw[<-kT]at ho;have hfin:∀r,(∃nl cl,(nl=true->bV k=[])/\r = .tup [.sl nl ((bV k).map aH) cl,.int .i64 0])->AM k r:=by intro r hr;rw[AM,if_pos hc];exact hr
 obtain⟨nl,cl,keys,hsn,hnl⟩:=ho.snap (El.ints _) 61;rcases ho with ⟨he,nl',cl',rfl,_⟩|⟨e,cs,rfl,hg,hu⟩
 rw[List.map_eq_nil_iff]at he;rw[he]at hfin;refine Wk ?_;exact hfin _ ⟨nl',cl',λ_=>rfl,rfl⟩;simp only[aM]at hsn;simp only[Tev.conv,depth,fE,cW,bM,↓hsn,go_sem,aM];exact hfin _ ⟨_,_,λh=>by simpa using hnl h,rfl⟩;rintro d q r env hp hes ⟨v,rfl,g1,ho⟩;have hlt:d.length<k.aSf.es.length:=by rw[hes];simp
 have hb2:(d++q::r).length<=big:=by rw[<-hes];exact hlb
 have hw:=aZ hb2;have e1:decide ((d.length:Int)<(k.aSf.es.length:Int))=true:=by simp;omega
 have g1':=g1;simp only[aA.cells,Sl.av]at g1;have hdl:d.length+1<=1073741824:=by simp only[big]at hb2;simp at hb2;omega
 have hsno:=AL k d.length;have h275':=h275 ok false false d.length;rw[aA.avc]at h275';clear hes h275 hlb;simp only[M9,NB,e1,g1,go_sem,seval]
 refine aJ (List.range k.aSe.es.length) (λd2 r2 env hp=>env=NC (.pt 1 0 0) (.sl false ((aD k).map bO) false) v (.int .i64 d.length) (.int .i64 (-1)) (.int .i64 k.aSf.es.length) (.int .i64 d.length) (.int .i64 k.aSe.es.length) (.int .i64 d2.length) /\
  hp.get 1=some (0,.blk k.cells 6 true true false)/\Own hp 13 1 false v ((lE k d.length).map aH)/\d7 k d.length=gQ (λv=>kS k (d.length:Int) (v:Int)) d2.length r2.length) ?_ ?_ ?_
 exact⟨rfl,g1',ho,by rw[List.length_range];rfl⟩;clear ho g1 g1' hp;rintro env hp ⟨rfl,g1,ho,hI⟩;rw[List.length_range];simp only[NA,NC,go_sem,seval];refine gR (kb:=0) (s:=13) ho (El.ints _) (xs:=[.int .i64 (-1)]) (by intro y hy;simp at hy;subst hy;exact⟨rfl,rfl,rfl⟩) (by simp only[aM,mM,List.length_singleton];omega) (by decide) ?_;intro v' rd pa ho2 hk2 _;simp only[hw,go_sem,seval];refine⟨v',rfl,by rw[hk2 1 (by omega)];exact g1,?_⟩;rw[dC,List.length_singleton,hsno,hI];simpa[gQ,uE] using ho2;clear ho g1 g1' hp;rintro d2 x r2 env hp hes2 ⟨rfl,g1,ho,hI⟩;obtain⟨rfl,hlt2⟩:=iD hes2;have hb3:(d2++d2.length::r2).length<=big:=by rw[<-hes2];simp;omega
 have hw2:=aZ hb3;have f1:decide ((d2.length:Int)<(k.aSe.es.length:Int))=true:=by simp;omega
 have g1':=g1;simp only[aA.cells,Sl.av]at g1;have a275:=h275' d2.length hlt hlt2
 have hcons:d7 k d.length=if kS k (d.length:Int) (d2.length:Int) then (d2.length:Int) else gQ (λv=>kS k (d.length:Int) (v:Int)) (d2.length+1) r2.length:=by rw[hI];rfl
 clear h275' hes2 hI;simp only[NA,NC,f1,g1,go_sem,seval];refine aB a275 ?_;cases b1:kS k (d.length:Int) (d2.length:Int);rw[b1]at hcons;simp only[hw2,go_sem,seval];exact⟨rfl,g1',ho,by simpa using hcons⟩;rw[b1,if_pos rfl]at hcons;refine Wk ?_;refine gR (kb:=0) (s:=13) (ho.mono ?_) (El.ints _) (xs:=[.int .i64 d2.length]) (by intro y hy;simp at hy;subst hy;exact⟨rfl,rfl,rfl⟩) (by simp only[aM,mM,List.length_singleton];omega) (by decide) ?_;simp only[go_sem,seval];intro v' rd pa ho2 hk2 _;simp only[hw,go_sem,seval];refine⟨v',rfl,?_,?_⟩;rw[hk2 1 (by omega)]
 first|exact g1'|(simp only[go_sem,seval];exact g1')
 rw[dC,List.length_singleton,hsno,hcons];simpa[uE] using ho2
theorem DY(k:aA)(i:Nat):nB (λv=>kS k (i:Int) (v:Int)) k.aSe.es.length (-1)=d7 k i:=aAB _ _
set_option maxHeartbeats 8000000 in
theorem c263(hf:pg.fs 263=some RL)(k:aA)(h10:bQ pg 10 [k.av] (iA k))
  (h276:gT k->∀(nl cl:Bool)(at_ v:Nat),at_<k.aSf.es.length->v<k.aSe.es.length->Ret pg 276 [k.av,.sl nl ((aD k).map bO) cl,.int .i64 at_,.int .i64 v] (.bool (kS k at_ v))) :
  bQ pg 263 [k.av] (AM k):=by
 obtain⟨r10,hr10,hs10⟩:=h10;rw[aA.avc]at hr10;refine bQ.ofX hf ?_;unfold RL;rcases lD (k:=k) with hc|hc
 case inr=>rw[iA,if_neg (by omega)]at hs10;subst hs10;refine Wk ?_;refine aB hr10 (Wk ?_);rw[AM,if_neg (by omega)]
 have ok:=cA hc;rw[iA,if_pos hc]at hs10;obtain⟨nl0,cl0,rfl⟩:=hs10;have hlb:=k.aSf.ok;have hvb:=k.aSe.ok;refine Wk ?_;refine bZ hr10 (by simp only[go_sem,seval]) (by first|rfl|simp[AV.tree,qZ]) (Wk ?_)
 refine aJ k.aSf.es (λd r env hp=>∃v,env=M7 (.pt 1 0 0) (.sl nl0 ((aD k).map bO) cl0) v (.int .i64 d.length) /\
  hp.get 1=some (0,.blk k.cells 6 true true false)/\Own hp 13 1 false v ((lE k d.length).map aH)) ?_ ?_ ?_
 refine⟨_,rfl,?_,Own.nil _ _ _ _ _ _ rfl⟩;refine Wk ?_;rfl;rintro env hp ⟨v,rfl,g1,ho⟩;simp only[aA.cells,Sl.av]at g1;simp only[M5,M7,g1,go_sem,seval];rw[<-kT]at ho;have hfin:∀r,(∃nl cl,(nl=true->bV k=[])/\r = .tup [.sl nl ((bV k).map aH) cl,.int .i64 0])->AM k r:=by intro r hr;rw[AM,if_pos hc];exact hr
 obtain⟨nl,cl,keys,hsn,hnl⟩:=ho.snap (El.ints _) 61;rcases ho with ⟨he,nl',cl',rfl,_⟩|⟨e,cs,rfl,hg,hu⟩
 rw[List.map_eq_nil_iff]at he;rw[he]at hfin;refine Wk ?_;exact hfin _ ⟨nl',cl',λ_=>rfl,rfl⟩;simp only[aM]at hsn;simp only[Tev.conv,depth,fE,cW,bM,↓hsn,go_sem,aM];exact hfin _ ⟨_,_,λh=>by simpa using hnl h,rfl⟩;rintro d q r env hp hes ⟨v,rfl,g1,ho⟩;have hlt:d.length<k.aSf.es.length:=by rw[hes];simp
 have hb2:(d++q::r).length<=big:=by rw[<-hes];exact hlb
 have hw:=aZ hb2;have e1:decide ((d.length:Int)<(k.aSf.es.length:Int))=true:=by simp;omega
 have g1':=g1;simp only[aA.cells,Sl.av]at g1;have hdl:d.length+1<=1073741824:=by simp only[big]at hb2;simp at hb2;omega
 have hsno:=AL k d.length;have h276':=h276 ok nl0 cl0 d.length;rw[aA.avc]at h276';have hs0:wr .i64 ((k.aSe.es.length:Int)-1)=(k.aSe.es.length:Int)-1:=aU (by omega) (by simp only[big]at hvb;omega);clear hes h276 hlb;simp only[M5,M7,e1,g1,hs0,go_sem,seval]
 refine aJ (List.range k.aSe.es.length) (λd2 r2 env hp=>∃c:Int,env=M8 (.pt 1 0 0) (.sl nl0 ((aD k).map bO) cl0) v (.int .i64 d.length) (.int .i64 c) (.int .i64 ((k.aSe.es.length:Int)-1-d2.length)) /\
  hp.get 1=some (0,.blk k.cells 6 true true false)/\Own hp 13 1 false v ((lE k d.length).map aH)/\d7 k d.length=nB (λv=>kS k (d.length:Int) (v:Int)) r2.length c) ?_ ?_ ?_
 exact⟨-1,by simp only[List.length_nil,Int.natCast_zero,Int.sub_zero];rfl,g1',ho,by rw[List.length_range,DY]⟩;clear ho g1 g1' hp;rintro env hp ⟨c,rfl,g1,ho,hI⟩;rw[List.length_range];have f1:decide (0<=(k.aSe.es.length:Int)-1-k.aSe.es.length)=false:=by simp;omega
 simp only[M6,M8,f1,go_sem,seval];refine gR (kb:=0) (s:=13) ho (El.ints _) (xs:=[.int .i64 c]) (by intro y hy;simp at hy;subst hy;exact⟨rfl,rfl,rfl⟩) (by simp only[aM,mM,List.length_singleton];omega) (by decide) ?_;intro v' rd pa ho2 hk2 _;simp only[hw,go_sem,seval];refine⟨v',rfl,by rw[hk2 1 (by omega)];exact g1,?_⟩;rw[dC,List.length_singleton,hsno,hI];simpa[nB,uE] using ho2;clear ho g1 g1' hp;rintro d2 x r2 env hp hes2 ⟨c,rfl,g1,ho,hI⟩;obtain⟨rfl,hlt2⟩:=iD hes2;have hrl:r2.length+d2.length+1=k.aSe.es.length:=by have:=congrArg List.length hes2;simp at this;omega
 have f1:decide (0<=(k.aSe.es.length:Int)-1-d2.length)=true:=by simp;omega
 have hval:(k.aSe.es.length:Int)-1-d2.length=(r2.length:Int):=by omega
 have g1':=g1;simp only[aA.cells,Sl.av]at g1;have a276:=h276' r2.length hlt (by omega)
 have hcons:d7 k d.length=nB (λv=>kS k (d.length:Int) (v:Int)) r2.length (if kS k (d.length:Int) (r2.length:Int) then (r2.length:Int) else c):=by rw[hI];rfl
 have hs1:wr .i64 ((r2.length:Int)-1)=(k.aSe.es.length:Int)-1-((d2++[d2.length]).length:Int):=by rw[aU (by omega) (by simp only[big]at hvb;omega)];simp;omega
 rw[hval];rw[hval]at f1;clear h276' hes2 hI;simp only[M6,M8,f1,g1,go_sem,seval];refine aB a276 ?_;cases b1:kS k (d.length:Int) (r2.length:Int);rw[b1]at hcons;simp only[hs1,go_sem,seval];exact⟨c,rfl,g1',ho,by simpa using hcons⟩;rw[b1,if_pos rfl]at hcons;simp only[hs1,go_sem,seval];exact⟨r2.length,rfl,g1',ho,hcons⟩
end
end
section
def qA(ds:List Val)(v:List UInt8):Option Val:=ds.find? (λx=>decide (x.v.bs=v))
def mL(ds:List Val):Int->List dQ->Int×Int
 |n,[]=>(n,0)
 |n,c::r=>match qA ds c.v.bs with
  |none=>(0,7)
  | some v=>if decide (v.n < -1000000000)||decide (1000000000<v.n) then (0,2) else mL ds (wr .i64 (n+wr .i64 (c.c*v.n))) r
def cP(ds:List Val)(l:Lin):Int×Int:=if fU l then mL ds l.c l.ts.es else (0,1)
theorem GL{ds:List Val}{n:Int}{c:dQ}{r:List dQ}(h:qA ds c.v.bs=none):mL ds n (c::r)=(0,7):=by simp only[mL,h]
theorem GJ{ds:List Val}{n:Int}{c:dQ}{r:List dQ}{v:Val}(h:qA ds c.v.bs=some v) :
  mL ds n (c::r)=(if decide (v.n < -1000000000)||decide (1000000000<v.n) then (0,2) else mL ds (wr .i64 (n+wr .i64 (c.c*v.n))) r):=by
 simp only[mL,h]
section
variable{pg:Pg}
theorem aFG{f:Nat}{esz:Nat}{ag:Bool}(hf:pg.fs f=some (aFH esz ag)){α : Type}(enc : α -> AV)(hfit:∀x,(enc x).fits esz ag=true)(htree:∀x,(enc x).tree=true)
  (nl cl:Bool) (es:List α) (hb:es.length<=big) (g:Nat) (cs:List AV) (hcs:treeL cs=true) (p : α -> Bool) (hp:∀x∈es,Ret pg g (enc x::cs) (.bool (p x))) :
  bQ pg f [.sl nl (es.map enc) cl,.fn g cs] (λr=>∃i:Int,r = .int .i64 i/\((i<0/\es.find? p=none)\/(0<=i/\∃x,es[i.toNat]?=some x/\es.find? p=some x))):=by
 refine bQ.ofX hf ?_;unfold aFH;refine Wk ?_;refine fJ es (λd e=>fP e (some 8) (.int .i64 d.length)) (λd r hp=>es.find? p=r.find? p) rfl ?_ ?_ ?_;rfl;intro hp' hI;simp only[QD,QC,go_sem,seval];simp[hI];intro d x r hp' hes hI;have hx0:(d++x::r)[d.length]?=some x:=by simp
 subst hes;simp only[QD,QC,hfit,go_sem,seval];refine bZ (hp x (by simp)) (by simp only[treeL,htree,hcs,List.cons_append,fW,fF]) rfl (Wk ?_);cases hx:p x;simp only[aZ hb,go_sem,seval];rw[hI];simp[hx];refine Wk ?_;exact .inr (by rw[hI];simp[hx])
theorem aQF(hf:pg.fs 52=some aDM)(h53:pg.fs 53=some VY)(nl cl:Bool)(ds:List Val)(hb:ds.length<=big)(c:dQ) :
  bQ pg 52 [.sl nl (ds.map Val.av) cl,.fn 53 [.fp c.av]] (λr=>∃i:Int,r = .int .i64 i/\((i<0/\qA ds c.v.bs=none)\/(0<=i/\∃x,ds[i.toNat]?=some x/\qA ds c.v.bs=some x))):=
 aFG (f:=52) (esz:=2) (ag:=true) hf Val.av (λ_=>by simp only[go_sem,seval]) (λ_=>by simp only[go_sem,seval]) nl cl ds hb 53 [.fp c.av] (by simp only[go_sem,seval]) (λv=>decide (v.v.bs=c.v.bs)) (λv _=>c53 h53 c v)
theorem aQL(hf:pg.fs 32=some aDV)(h51:∀l:Lin,Ret pg 51 [l.av] (.bool (fU l)))(h52:pg.fs 52=some aDM)(h53:pg.fs 53=some VY)(l:Lin)(nl cl:Bool)(ds:List Val)(hb:ds.length<=big) :
  Ret pg 32 [l.av,.sl nl (ds.map Val.av) cl] (.tup [.int .i64 (cP ds l).1,.int .i64 (cP ds l).2]):=by
 refine Ret.ofX hf ?_;unfold aDV;have hlb:=l.ts.ok;refine Wk ?_;refine aB (h51 l) (Wk ?_);cases hx:fU l;refine Wk ?_;simp[cP,hx];have hev:cP ds l=mL ds l.c l.ts.es:=by simp[cP,hx]
 rw[hev];refine Wk ?_;refine aJ l.ts.es (λd r env hp=>∃n:Int,env=WI (.sl nl (ds.map Val.av) cl) (.int .i64 n) (.sl l.ts.nl (l.ts.es.map dQ.av) l.ts.cl) (.int .i64 l.ts.es.length) (.int .i64 d.length)/\mL ds l.c l.ts.es=mL ds n r) ?_ ?_ ?_;exact⟨_,rfl,rfl⟩;rintro env hp ⟨n,rfl,hI⟩;rw[hI];simp only[WH,WI,mL,go_sem,seval];rintro d x r env hp hes ⟨n,rfl,hI⟩;obtain⟨hget,e1,e2,ew⟩:=dJ hes hlb;rw[hI];obtain⟨r52,hr52,i,rfl,hi⟩:=aQF h52 h53 nl cl ds hb x;simp only[WH,WI,hget,e1,e2,go_sem,seval];refine cR (hr52) (by simp only[ dQ.avc,depth,cW,bM,fE,go_sem,seval];rfl) (by first|rfl|simp only[iO]) (Wk ?_);rcases hi with ⟨h1,h2⟩|⟨h1,v,hv,h2⟩
 have b1:decide (i<0)=true:=by simpa using h1
 rw[GL h2];simp only[b1,go_sem,seval];have b1:decide (i<0)=false:=by simp;omega
 have h0t:(0<=i)=True:=aK h1;rw[GJ h2];simp only[b1,hv,h0t,go_sem,seval];cases b2:decide (v.n < -1000000000)
 case true=>simp only[b2,go_sem,seval]
 cases b3:decide (1000000000<v.n)
 case true=>simp only[b2,b3,go_sem,seval]
 simp only[b2,b3,hv,h0t,ew,go_sem,seval];exact⟨by kernel_rfl,_,rfl,rfl⟩
def qF(ds:List Val):Int->Bool->List Lin->Int×Bool
 |n,b,[]=>(n,b)
 |n,b,l::r=>qF ds (XQ (cP ds l).1 n) (b&&(decide (0<=(cP ds l).1)&&decide ((cP ds l).1<=4096))) r
def gY(ds:List Val)(t:Typ):Int×Bool:=((qF ds 1 true t.aSh.aSi.es).1,(qF ds 1 true t.aSh.aSi.es).2&&decide ((qF ds 1 true t.aSh.aSi.es).1<=4096))
theorem aQK(hf:pg.fs 33=some aDU)(h32:∀(l:Lin) (nl cl:Bool) (ds:List Val),ds.length<=big->Ret pg 32 [l.av,.sl nl (ds.map Val.av) cl] (.tup [.int .i64 (cP ds l).1,.int .i64 (cP ds l).2]))(t:Typ)(nl cl:Bool)(ds:List Val)(hb:ds.length<=big) :
  Ret pg 33 [t.av,.sl nl (ds.map Val.av) cl] (.tup [.int .i64 (gY ds t).1,.bool (gY ds t).2]):=by
 refine Ret.ofX hf ?_;unfold aDU;have hlb:=t.aSh.aSi.ok;refine Wk ?_;refine aJ t.aSh.aSi.es (λd r env hp=>∃(n:Int)(b:Bool),env=M4 (.sl nl (ds.map Val.av) cl) (.int .i64 n) (.bool b) (.sl t.aSh.aSi.nl (t.aSh.aSi.es.map Lin.av) t.aSh.aSi.cl) (.int .i64 t.aSh.aSi.es.length) (.int .i64 d.length)/\qF ds 1 true t.aSh.aSi.es=qF ds n b r) ?_ ?_ ?_;exact⟨_,_,rfl,rfl⟩;rintro env hp ⟨n,b,rfl,hI⟩;have h1:gY ds t=(n,b&&decide (n<=4096)):=by simp only[gY,hI,qF]
 rw[h1];cases b;simp only[M3,M4,go_sem,seval];simp only[M3,M4,go_sem,seval];rintro d x r env hp hes ⟨n,b,rfl,hI⟩;obtain⟨hget,e1,e2,ew⟩:=dJ hes hlb;have hr32:=h32 x nl cl ds hb;simp only[qF]at hI;generalize (cP ds x).1=a32 at hr32 hI;generalize (cP ds x).2=b32 at hr32;rw[Lin.avc]at hr32;simp only[M3,M4,hget,e1,e2,go_sem,seval];refine aB hr32 ?_;cases b;simp only[ew,mx2,mn2,go_sem,seval];exact⟨XQ a32 n,false,rfl,by simpa using hI⟩;cases b1:decide (0<=a32);simp only[b1,ew,mx2,mn2,go_sem,seval];exact⟨XQ a32 n,false,rfl,by simpa[b1] using hI⟩;simp only[b1,ew,mx2,mn2,go_sem,seval];exact⟨XQ a32 n,decide (a32<=4096),rfl,by simpa[b1] using hI⟩
theorem aQJ(hf:pg.fs 34=some aDT)(h54:∀l:Lin,Ret pg 54 [l.av] (.bool (fU l)))(l:Lin)(nl cl:Bool)(ds:List Val)(hb:ds.length<=big) :
  Ret pg 34 [l.av,.sl nl (ds.map Val.av) cl] (.tup [.int .i64 (cP ds l).1,.int .i64 (cP ds l).2]):=by
 refine Ret.ofX hf ?_;unfold aDT;have hlb:=l.ts.ok;have a1:=h54 l;rw[Lin.avc]at a1;refine Wk ?_;refine aB a1 ?_;cases hx:fU l;refine Wk ?_;simp[cP,hx];have hev:cP ds l=mL ds l.c l.ts.es:=by simp[cP,hx]
 rw[hev];refine Wk ?_;refine aJ l.ts.es (λd r env hp=>∃n:Int,env=WG (.sl nl (ds.map Val.av) cl) (.pt 1 0 0) (.int .i64 n) (.int .i64 d.length)/\hp.get 1=some (0,.blk [.int .i64 l.c,.sl l.ts.nl (l.ts.es.map dQ.av) l.ts.cl] 2 true true false)/\mL ds l.c l.ts.es=mL ds n r) ?_ ?_ ?_;exact⟨_,rfl,rfl,rfl⟩;rintro env hp ⟨n,rfl,g1,hI⟩;rw[hI];simp only[WF,WG,g1,bG,mL,go_sem,seval];rintro d c r env hp hes ⟨n,rfl,g1,hI⟩;obtain⟨hget,e1,e2,ew⟩:=dJ hes hlb;rw[hI];clear hI;simp only[WF,WG,g1,e1,e2,go_sem,seval];refine aJ ds (λd2 r2 env hp=>env=M2 (.sl nl (ds.map Val.av) cl) (.pt 1 0 0) (.int .i64 n) (.int .i64 d.length) (.int .i64 d2.length)/\hp.get 1=some (0,.blk [.int .i64 l.c,.sl l.ts.nl (l.ts.es.map dQ.av) l.ts.cl] 2 true true false)/\qA ds c.v.bs=qA r2 c.v.bs) ?_ ?_ ?_;exact⟨rfl,g1,rfl⟩;rintro env hp2 ⟨rfl,q1,hI⟩;have hn:qA ds c.v.bs=none:=by rw[hI];rfl
 rw[GL hn];simp only[M1,M2,bG,go_sem,seval];show _=true;kernel_rfl;rintro d2 v r2 env hp2 hes2 ⟨rfl,q1,hI⟩;obtain⟨hget2,f1,f2,fw⟩:=dJ hes2 hb;cases b0:decide (v.v.bs=c.v.bs)
 case false=>simp only[M1,M2,q1,hget,hget2,e1,e2,f1,f2,b0,fw,go_sem,seval];refine⟨by kernel_rfl,rfl,?_⟩;rw[hI];simp[qA,b0]
 case true=>
  have hs:qA ds c.v.bs=some v:=by rw[hI];simp[qA,b0]
  have hne:decide ((d2.length:Int)=(ds.length:Int))=false:=by have:=aO f1;simp;omega
  rw[GJ hs];simp only[M1,M2,q1,hget,hget2,e1,e2,f1,f2,b0,go_sem,seval];refine aY ?_;simp only[hne,hget2,f2,go_sem,seval];cases b2:decide (v.n < -1000000000)
  case true=>simp only[b2,go_sem,seval]
  cases b3:decide (1000000000<v.n)
  case true=>simp only[b2,b3,go_sem,seval]
  simp only[b2,b3,q1,hget,e2,ew,go_sem,seval];exact⟨_,rfl,rfl⟩
end
end
end Go.Tev
