import Derived.Test.YtmcadllokkmeiaaGreatDoorCAY
import Derived.Test.YtmcadllokkmeiaaGreatDoorCBC
import Derived.Test.YtmcadllokkmeiaaGreatDoorCAR
import Derived.Test.YtmcadllokkmeiaaGreatDoorCAH
import Derived.Test.YtmcadllokkmeiaaGreatDoorCAM
import Derived.Test.YtmcadllokkmeiaaGreatDoorCAU
set_option linter.all false
namespace Go.Tev
section
structure Code3(pg:Pg):Prop where
 f10:pg.fs 10=some aBB
 f15:pg.fs 15=some TG
 f22:pg.fs 22=some aBu
 f31:pg.fs 31=some aBo
 f37:pg.fs 37=some aBj
 f38:pg.fs 38=some aHx
 f49:pg.fs 49=some aBh
 f50:pg.fs 50=some aBg
 f54:pg.fs 54=some aBd
 f55:pg.fs 55=some AF
 f77:pg.fs 77=some aAQ
 f78:pg.fs 78=some W7
 f79:pg.fs 79=some aAP
 f80:pg.fs 80=some aAO
 f81:pg.fs 81=some aAN
 f82:pg.fs 82=some W6
 f83:pg.fs 83=some aAM
 f84:pg.fs 84=some aAL
 f85:pg.fs 85=some W5
 f86:pg.fs 86=some aAK
 f87:pg.fs 87=some aAJ
 f88:pg.fs 88=some aAH
 f90:pg.fs 90=some W3
 f114:pg.fs 114=some HW
 f115:pg.fs 115=some HV
 f116:pg.fs 116=some OS
 f117:pg.fs 117=some OQ
 f118:pg.fs 118=some OP
 f119:pg.fs 119=some HU
 f120:pg.fs 120=some OO
 f121:pg.fs 121=some ON
 f122:pg.fs 122=some E5
 f123:pg.fs 123=some OM
 f124:pg.fs 124=some vW
 f125:pg.fs 125=some OL
 f160:pg.fs 160=some HQ
 f161:pg.fs 161=some HP
 f162:pg.fs 162=some HO
 f163:pg.fs 163=some yN
 f164:pg.fs 164=some OE
 f191:pg.fs 191=some EZ
 f192:pg.fs 192=some N9
 f193:pg.fs 193=some N8
 f194:pg.fs 194=some EY
section
variable{pg:Pg}
theorem aKg(C:Go.Tev.Code pg)(D:Code3 pg)(k:aA)(hq:∀q∈k.list.es,q.body.ok/\q.index.ok/\k.vars.es.length+9+q.body.sz<=big/\k.vars.es.length+9+q.index.sz<=big) :
  Ret pg 31 [k.av] (.tup [.int .i64 (cP k).1,.int .i64 (cP k).2]):=by
 have h77:∀s:Str,Ret pg 77 [.str s.bs] (.bool (gR s.bs)):=λs=>c77 D.f77 D.f114 D.f115 s.bs s.ok;have h54:∀l:Lin,Ret pg 54 [l.av] (.bool (fE l)):=c54 D.f54 h77 D.f90;have h80:∀(nl cl:Bool)(ls:List Lin),ls.length<=big->∀(nl' cl':Bool)(vars:List Str),vars.length<=big->Ret pg 80 [.sl nl (ls.map Lin.av) cl,.sl nl' (vars.map Str.av) cl'] (.bool (cU ls vars)):=
  λnl cl ls hb nl' cl' vars hb'=>c80 D.f80 h54 nl cl ls hb nl' cl' vars hb'
 have h79:=c79 D.f79 (c116 D.f116 D.f160) (c117 D.f117 h54 h77);have h49:=c49 D.f49 h77 D.f78 h79 h80;have h121:=c121 D.f121 D.f162 D.f191;have h118:=c118 D.f118 D.f161 D.f15 h121;have h85:∀(nl cl nl' cl':Bool)(a b:List Lin),a.length<=big->b.length<=big->Ret pg 85 [.sl nl (a.map Lin.av) cl,.sl nl' (b.map Lin.av) cl'] (.bool (eqL cC a b)):=λnl cl nl' cl' a b ha hb=>c85 D.f85 h121 nl cl nl' cl' a b ha hb;have h81:∀x y:aH,x.body.ok->x.index.ok->Ret pg 81 [x.av,y.av] (.bool (lC x y)):=λx y hx hi=>c81 D.f81 D.f85 h121 h118 D.f119 x y hx hi;have h125:=c125 D.f125;have h120:∀(op:List UInt8)(nl cl:Bool)(kids:List Bool),kids.length<=big->Ret pg 120 [.str op,.sl nl (kids.map AV.bool) cl] (.bool (fY op kids)):=λop nl cl kids hb=>c120 D.f120 h125 op nl cl kids hb;have h84:∀(nl cl:Bool)(code:List aL),code.length<=16777216->∀(nl' cl':Bool)(args:List Bool),args.length<=16777216->Ret pg 84 [.sl nl (code.map aL.av) cl,.sl nl' (args.map AV.bool) cl'] (.bool (eJ code args)):=
  λnl cl code hb nl' cl' args hb'=>c84 D.f84 h120 nl cl code hb nl' cl' args hb'
 have h83:∀(nl cl:Bool)(vals:List Typ)(p:aC),p.ok->Ret pg 83 [p.av,.sl nl (vals.map Typ.av) cl] (.bool (eU vals p)):=λnl cl vals p hp=>c83 D.f83 h84 h120 nl cl vals p hp;have h87:∀(nl cl:Bool)(fn:List aL),fn.length<=big->∀n:Int,Ret pg 87 [.sl nl (fn.map aL.av) cl,.int .i64 n] (.bool (d6 fn n)):=λnl cl fn hb n=>c87 D.f87 D.f124 h125 nl cl fn hb n;have h88:=c88 D.f88 h121;have h192:=c192 D.f192 h125;have h193:∀(nl cl:Bool)(ls:List Lin),ls.length<=big->∀(nl' cl':Bool)(vars:List Str),vars.length<=big->Ret pg 193 [.sl nl (ls.map Lin.av) cl,.sl nl' (vars.map Str.av) cl'] (.bool (cU ls vars)):=
  λnl cl ls hb nl' cl' vars hb'=>c193 D.f193 h54 D.f194 nl cl ls hb nl' cl' vars hb'
 have h164:=c164 D.f164 h192 h118 h193 D.f124 h77 D.f194 h87;have h123:∀p:aC,p.ok->∀(nl cl:Bool)(vars:List Str),vars.length+p.sz<=big->∀v:Int,Ret pg 123 [p.av,.sl nl (vars.map Str.av) cl,.int .i64 v] (.bool (iK p vars v)):=
  λp hp nl cl vars hb v=>c123 D.f123 C.f40 h164 p hp nl cl vars hb v
 have h86:∀(k:aA)(p:aC),p.ok->∀n:Nat,n<=9->k.vars.es.length+n+p.sz<=big->∀(nl cl:Bool)(there:List Bool),there.length=k.values.es.length->Ret pg 86 [p.av,k.av,.int .i64 n,.sl nl (there.map AV.bool) cl] (.bool (cJ k p n there)):=
  λk p hpo n hn hsz nl cl th hth=>c86 D.f86 (c122 D.f122 D.f163) h123 (c37 D.f37 D.f55) k p hpo n hn hsz nl cl th hth
 exact c31 D.f31 h49 (λk hin hvals nl cl th hth q second hbo hio hbs his=>c50 D.f50 D.f82 h81 h83 h84 h85 h86 h87 h88 k hin hvals nl cl th hth q second hbo hio hbs his) k hq
theorem VV{q:aH}{N:Nat}(h:q.body.sz+q.index.sz+1<=N):(iU q).length<=N:=by have h1:=jX q.body;have h2:=jX q.index;have h4:=mQ (bM q.index) (bM q.body);have h5:=DI q.source (jE (bM q.body) (bM q.index));simp only[iU];split;split<;>omega;omega
theorem aKh(C:Go.Tev.Code pg)(D:Code3 pg)(k:aA)(hk:KOK k):bE pg 10 [k.av] (gD k):=
 c10 D.f10 k (aKg C D k hk.ks) (λq hq=>c22 D.f22 (c37 D.f37 D.f55) D.f38 q (hk.ks q hq).1 (hk.ks q hq).2.1 (by have:=hk.sz q hq;omega)) (λq hq=>VV (by have:=hk.sz q hq;omega))
end
end
section
def rD(n:Int):List UInt8:=if n<0 then [] else 105::l9 20 n.toNat
def YO:Nat->Nat->List Nat
 |0,_=>[]
 |f+1,m=>if m=0 then [] else m::YO f (m / 10)
def WV(f m:Nat)(s:List UInt8):List UInt8:=if m=0 then s else l9 f m++s
theorem x9:∀f u,(l9 f u).length<=f
 |0,u=>by simp[l9]
 |f+1,u=>by have:=x9 f (u / 10);simp only[l9];split<;>simp<;>omega
theorem G5{f m:Nat}(hm:m≠0)(s:List UInt8):WV (f+1) m s=WV f (m / 10) (UInt8.ofNat (48+m % 10)::s):=by
 simp only[WV,if_neg hm,l9];by_cases h:m<10;have h1:m / 10=0:=by omega
 have h2:m % 10=m:=by omega
 rw[if_pos h,if_pos h1,h2];rfl;have h1:¬m / 10=0:=by omega
 rw[if_neg h,if_neg h1];simp
section
variable{pg:Pg}
theorem aJT(hf:pg.fs 163=some yN)(n:Nat)(hn:n<=9223372036854775807):Ret pg 163 [.int .i64 n] (.str (l9 20 n)):=by
 refine Ret.ofX hf ?_;have arith:∀m:Nat,m<=9223372036854775807->((m:Int).tmod 10)=((m % 10:Nat):Int)/\(m:Int).tdiv 10=((m / 10:Nat):Int)/\wr .i64 ((m / 10:Nat):Int)=((m / 10:Nat):Int)/\wr .i64 ((m % 10:Nat):Int)=((m % 10:Nat):Int) /\
   wr .i64 (48+((m % 10:Nat):Int))=((48+m % 10:Nat):Int)/\wr .u8 ((48+m % 10:Nat):Int)=((48+m % 10:Nat):Int):=by
  intro m hm;refine⟨by rw[Int.tmod_eq_emod_of_nonneg (by omega)];omega,by rw[Int.tdiv_eq_ediv_of_nonneg (by omega)];omega,by rw[aO (by omega) (by omega)],by rw[aO (by omega) (by omega)],by rw[aO (by omega) (by omega)];omega,?_⟩;simp only[wr];rw[if_pos (by omega)]
 obtain⟨h1,h2,h3,h3',h4,h5⟩:=arith n hn;have h6:=λh nl cl=>LD h nl cl (48+n % 10) (by omega);have h7:((10:Int)=0)=False:=by simp
 have hD:l9 20 n=WV 19 (n / 10) [UInt8.ofNat (48+n % 10)]:=by by_cases h0:n=0;subst h0;rfl;have:=G5 (f:=19) h0 [];simpa[WV,h0] using this
 unfold yN;simp only[h1,h2,h3,h3',h4,h5,h7,↓h6,go_sem,seval];refine aK (YO 19 (n / 10)) (λd r env hp=>∃(m f:Nat)(s:List UInt8),env=KQ (.int .i64 m) (.str s)/\r=YO f m/\m<10 ^ f/\m<=9223372036854775807/\l9 20 n=WV f m s/\s.length=d.length+1/\d.length+f=19) ?_ ?_ ?_;exact⟨n / 10,19,_,rfl,rfl,by omega,by omega,hD,rfl,rfl⟩;rintro env hp ⟨m,f,s,rfl,hr,hm,hm2,hI,_,_⟩;have h0:m=0:=by
  cases f with
  |zero=>simpa using hm
  |succ f=>simp only[YO]at hr;split at hr;assumption;cases hr
 subst h0;have e1:decide ((((0:Nat):Int))>0)=false:=by decide
 simp only[CO,KQ,e1,go_sem,seval];rw[hI];rfl
 ·rintro d x r env hp hes ⟨m,f,s,rfl,hr,hm,hm2,hI,hs,hdf⟩;cases f with
  |zero=>cases hr
  |succ f=>
  simp only[YO]at hr;split at hr;cases hr;rename_i h0;simp only[List.cons.injEq]at hr;obtain⟨rfl,hr⟩:=hr;obtain⟨a1,a2,a3,a3',a4,a5⟩:=arith x hm2;have a6:=λh nl cl=>LD h nl cl (48+x % 10) (by omega);have e1:decide (0<(x:Int))=true:=by simp;omega
  have e2:(1+s.length<=9223372036854775807)=True:=eq_true (by omega);simp only[CO,KQ,e1,a1,a2,a3,a3',a4,a5,h7,↓a6,e2,go_sem,seval];refine⟨x / 10,f,_,rfl,hr,by rw[Nat.pow_succ]at hm;omega,by omega,by rw[hI,G5 h0],by simp[hs],by simp;omega⟩
theorem aJY(hf:pg.fs 122=some E5)(h163:pg.fs 163=some yN)(n:Int)(hn:n<=9223372036854775807):Ret pg 122 [.int .i64 n] (.str (rD n)):=by refine Ret.ofX hf ?_;unfold E5;by_cases h:n<0;have h1:decide (n<0)=true:=decide_eq_true h;simp only[h1,go_sem,seval];rw[rD,if_pos h];have h1:decide (n<0)=false:=decide_eq_false h;have a:=aJT h163 n.toNat (by omega);rw[Int.toNat_of_nonneg (by omega)]at a;have hl:=x9 20 n.toNat;have e2:(1+(l9 20 n.toNat).length<=9223372036854775807)=True:=eq_true (by omega);simp only[h1,go_sem,seval];refine aB a ?_;simp only[e2,go_sem,seval];rw[rD,if_neg h]
theorem aKb(A:Ora pg)(hf:pg.fs 108=some vX)(n:Int)(hn:n<=9223372036854775807):Ret pg 108 [.int .i64 n] (.str (rD n)):=by
 refine Ret.ofX hf ?_;unfold vX;by_cases h:n<0;have h1:decide (n<0)=true:=decide_eq_true h;simp only[h1,go_sem,seval];rw[rD,if_pos h];have h1:decide (n<0)=false:=decide_eq_false h;have a:Ret pg 93 [.int .i64 n] (.str (l9 20 n.toNat)):=by refine zH A.f93 A.itoa ?_ rfl;simp only[uK];rw[if_pos (by omega)]
 have hl:=x9 20 n.toNat;have e2:(1+(l9 20 n.toNat).length<=9223372036854775807)=True:=eq_true (by omega);simp only[h1,go_sem,seval];refine aB a ?_;simp only[e2,go_sem,seval];rw[rD,if_neg h]
end
end
section
def Asc(l:List Int):Prop:=l.Pairwise (· < ·)
theorem U9(x:Int):∀l:List Int,Asc l->Asc (gS x l)
 |[],_=>by simp[gS,Asc]
 |y::r,h=>by obtain⟨h1,h2⟩:=List.pairwise_cons.1 h;simp only[gS];by_cases h3:y<x;simp only[h3,decide_true,if_true];refine List.pairwise_cons.2 ⟨λz hz=>?_,U9 x r h2⟩;rcases (xT r).1 hz with rfl|hz;exact h3;exact h1 z hz;simp only[h3,decide_false,Bool.false_eq_true,if_false];by_cases h4:y=x;simp only[h4,decide_true,if_true];exact h4 ▸ h;simp only[h4,decide_false,Bool.false_eq_true,if_false];refine List.pairwise_cons.2 ⟨λz hz=>?_,h⟩;rcases List.mem_cons.1 hz with rfl|hz;omega;have:=h1 z hz;omega
theorem PB:∀(l acc:List Int),Asc acc->Asc (jE acc l)
 |[],acc,h=>h
 |x::r,acc,h=>by simp only[jE,List.foldl_cons];exact PB r _ (U9 x acc h)
theorem FB:∀(l:List aC)(acc:List Int),Asc acc->Asc (d8 acc l)
 |[],acc,h=>h
 |p::r,acc,h=>by rw[d8];exact FB r _ (PB _ _ h)
theorem XQ(p:aC):Asc (bM p):=by rw[zK];refine FB _ _ ?_;split;simp[gS,Asc];simp[Asc]
theorem PC:∀l:List Int,l.Pairwise (· <= ·)->Asc (eX l)
 |[],_=>by simp[eX,Asc]
 |[x],_=>by simp[eX,Asc]
 |x::y::r,h=>by obtain⟨h1,h2⟩:=List.pairwise_cons.1 h;have ih:=PC (y::r) h2;simp only[eX];split;exact ih;rename_i hne;refine List.pairwise_cons.2 ⟨λz hz=>?_,ih⟩;have hz2:=(mW z (y::r)).1 hz;have h3:=h1 y (by simp);rcases List.mem_cons.1 hz2 with rfl|hz3;omega;have:=(List.pairwise_cons.1 h2).1 z hz3;omega
theorem aBR:∀(a b:List Int),Asc a->Asc b->(∀x,x∈a↔x∈b)->a=b
 |[],[],_,_,_=>rfl
 |[],y::s,_,_,h=>by have:=(h y).2 (by simp);simp at this
 |x::r,[],_,_,h=>by have:=(h x).1 (by simp);simp at this
 |x::r,y::s,ha,hb,h=>by
  obtain⟨a1,a2⟩:=List.pairwise_cons.1 ha;obtain⟨b1,b2⟩:=List.pairwise_cons.1 hb;have hxy:x=y:=by have p1:=(h x).1 (by simp);have p2:=(h y).2 (by simp);rcases List.mem_cons.1 p1 with e|q1;exact e;rcases List.mem_cons.1 p2 with e|q2;exact e.symm;have:=b1 x q1;have:=a1 y q2;omega
  subst hxy;congr 1;refine aBR r s a2 b2 λz=>⟨λhz=>?_,λhz=>?_⟩
  rcases List.mem_cons.1 ((h z).1 (dH _ hz)) with e|q;have:=a1 z hz;omega;exact q;rcases List.mem_cons.1 ((h z).2 (dH _ hz)) with e|q;have:=b1 z hz;omega;exact q
theorem YJ(p:aC):cE p=bM p:=by refine aBR _ _ (PC _ (rQ _)) (XQ p) λx=>?_;rw[cE,mW,oP,jY]
end
section
def pF(i:Nat)(l:Lin):Bool:=decide (l.c=0)&&match l.ts.es with
 |[t]=>decide (t.v.bs=rD i)&&decide (t.c=1)
 |_=>false
def mT:Nat->List Lin->Bool
 |_,[]=>true
 |i,l::r=>pF i l&&mT (i+1) r
def rA(p:aC)(rank:Int):Bool := !p.dyn&&(decide ((p.at_.es.length:Int)=rank)&&mT 0 p.at_.es)
def tD(v rank:Int)(p:aC):Bool := !(decide (p.op.bs=[114,101,97,100])&&(decide (p.value=v) && !rA p rank))
mutual
def wN(v rank:Int):aC->Bool
 |.mk op num value name at_ dyn check fn knl kids kcl=>tD v rank (.mk op num value name at_ dyn check fn knl kids kcl)&&GG v rank kids
def GG(v rank:Int):List aC->Bool
 |[]=>true
 |p::r=>wN v rank p&&GG v rank r
end
theorem UG(v rank:Int)(p:aC):wN v rank p=(tD v rank p&&GG v rank p.kids):=by cases p;rw[wN];rfl
theorem zN(v rank:Int):∀l:List aC,GG v rank l=l.all (wN v rank)
 |[]=>by simp[GG]
 |p::r=>by simp[GG,zN v rank r]
def C6(k:aA)(v:Int):Sp:=((aF k)[v.toNat]?).getD (-2,-1)
def aCQ(k:aA)(at_ v:Int)(q:aH)(a b:Typ):Bool:=
 (!decide (v=q.value)&&(decide ((C6 k q.value).1=at_)&&(!decide ((C6 k v).1 = -2)&&decide ((C6 k v).2=at_))))&&(iR a b &&
  if q.kind=3 then decide (v=q.source)&&(!(cE q.body).contains v && !(cE q.index).contains v) else wN v b.shape.dims.es.length q.body)
def pL(k:aA)(at_ v:Int):Bool:=
 match k.list.es[at_.toNat]?,k.values.es[v.toNat]? with
 |some q,some a=>match k.values.es[q.value.toNat]? with
  |some b=>decide (0<=at_)&&decide (0<=v)&&aCQ k at_ v q a b
  |none=>false
 |_,_=>false
def jO(f:Nat->Bool):Nat->Nat->Int
 |_,0 => -1
 |i,n+1=>if f i then i else jO f (i+1) n
def l0(f:Nat->Bool):Nat->Int->Int
 |0,c=>c
 |n+1,c=>l0 f n (if f n then n else c)
theorem BG(f:Nat->Bool):∀(n i:Nat),jO f i (n+1)=if jO f i n = -1 then (if f (i+n) then ((i+n:Nat):Int) else -1) else jO f i n
 |0,i=>by simp[jO]
 |n+1,i=>by
  rw[jO];by_cases h:f i;have e:jO f i (n+1)=i:=by rw[jO,if_pos h]
  rw[if_pos h,e,if_neg (by omega)];have e:jO f i (n+1)=jO f (i+1) n:=by rw[jO,if_neg h]
  have hs:i+1+n=i+(n+1):=by omega
  rw[if_neg h,e,BG f n (i+1),hs]
theorem BB(f:Nat->Bool):∀(n:Nat)(c:Int),l0 f n c=if jO f 0 n = -1 then c else jO f 0 n
 |0,c=>by simp[l0,jO]
 |n+1,c=>by
  rw[l0,BB f n,BG];by_cases h1:jO f 0 n = -1;rw[if_pos h1,if_pos h1];by_cases h2:f n;have h3:f (0+n):=by rw[Nat.zero_add];exact h2
  rw[if_pos h2,if_pos h3,if_neg (by omega)];simp;have h3:¬f (0+n):=by rw[Nat.zero_add];exact h2
  rw[if_neg h2,if_neg h3,if_pos rfl];rw[if_neg h1,if_neg h1,if_neg h1]
theorem WY(f:Nat->Bool)(n:Nat):l0 f n (-1)=jO f 0 n:=by rw[BB];split;rename_i h;exact h.symm;rfl
def kT(k:aA):List Int:=(List.range k.list.es.length).map fun(i:Nat)=>jO (λv=>pL k (i:Int) (v:Int)) 0 k.values.es.length
end
section
section
variable{pg:Pg}
theorem c292(hf:pg.fs 292=some HG)(nl cl:Bool)(es:List aC)(hb:es.length<=big)(g:Nat)(cs:List AV)(hcs:treeL cs=true)(p:aC->Bool)(hp:∀x∈es,Ret pg g (x.av::cs) (.bool (p x))) :
  bE pg 292 [.sl nl (es.map aC.av) cl,.fn g cs] (λr=>∃i:Int,r = .int .i64 i/\decide (0<=i)=es.any p):=
 x4 (f:=292) (esz:=9) (ag:=true) hf aC.av aC.fits_av aC.tree_av nl cl es hb g cs hcs p hp
theorem c273(hf:pg.fs 273=some N1)(h292:pg.fs 292=some HG)(nl cl:Bool)(es:List aC)(hb:es.length<=big)(g:Nat)(cs:List AV)(hcs:treeL cs=true)(p:aC->Bool)(hp:∀x∈es,Ret pg g (x.av::cs) (.bool (p x))) :
  Ret pg 273 [.sl nl (es.map aC.av) cl,.fn g cs] (.bool (es.any p)):=
 qC (n:=292) hf (by simp only[treeL,pP,u4,hcs,aC.treeL_av,Bool.and_true]) (c292 h292 nl cl es hb g cs hcs p hp)
theorem c274(hf:pg.fs 274=some HH)(p:aC)(v rank:Int)(b:Bool)(h:Ret pg 260 [p.av,.int .i64 v,.int .i64 rank] (.bool b)):Ret pg 274 [p.av,.fp (.int .i64 v),.fp (.int .i64 rank)] (.bool (!b)):=by rw[aC.avc]at h;refine Ret.ofX hf ?_;unfold HH;refine Wk ?_;refine aB h ?_;simp only[go_sem,seval]
theorem c272(A:Ora pg)(hf:pg.fs 272=some HI)(h108:pg.fs 108=some vX)(p:aC)(rank:Int):Ret pg 272 [p.av,.int .i64 rank] (.bool (rA p rank)):=by
 refine Ret.ofX hf ?_;unfold HI;have hb:=p.at_.ok;cases b1:p.dyn
 case true=>simp only[b1,go_sem,seval];simp[rA,b1]
 cases b2:decide ((p.at_.es.length:Int)=rank)
 case false=>simp only[b1,b2,go_sem,seval];simp[rA,b1,b2]
 simp only[b1,b2,go_sem,seval];refine aK p.at_.es (λd r env hp=>env=yJ (.sl p.at_.nl (p.at_.es.map Lin.av) p.at_.cl) (.int .i64 p.at_.es.length) (.int .i64 d.length)/\mT 0 p.at_.es=mT d.length r) ?_ ?_ ?_;exact⟨rfl,rfl⟩;rintro env hp ⟨rfl,hI⟩;simp only[yI,yJ,go_sem,seval];simp[rA,b1,b2,hI,mT]
 ·rintro d x r env hp hes ⟨rfl,hI⟩;have hb2:(d++x::r).length<=big:=by rw[<-hes];exact hb
  have hw:=aW hb2;have hget:p.at_.es[d.length]?=some x:=by rw[hes];simp
  have e1:decide ((d.length:Int)<(p.at_.es.length:Int))=true:=by rw[hes];simp;omega
  have hown:rA p rank=(pF d.length x&&mT (d.length+1) r):=by simp[rA,b1,b2,hI,mT]
  rw[hown];have hlen:d.length<=9223372036854775807:=by simp only[big]at hb2;simp at hb2;omega
  have h8:=aKb A h108 (d.length:Int) (by omega);clear hown hes hb hb2;cases b3:decide (x.c=0)
  case false=>simp only[yI,yJ,e1,hget,b3,go_sem,seval];refine aQ ?_;simp[pF,b3]
  by_cases hl:x.ts.es.length=1
  case neg=>
   have b4:decide ((x.ts.es.length:Int)=1)=false:=by simp;omega
   have hil:pF d.length x=false:=by
    simp only[pF,b3,Bool.true_and];rcases h:x.ts.es with _|⟨t,_|⟨u,s⟩⟩
    rfl;rw[h]at hl;simp at hl;rfl
   simp only[yI,yJ,e1,hget,b3,b4,go_sem,seval];refine aQ ?_;simp[hil]
  obtain⟨t,ht⟩:∃t,x.ts.es=[t]:=by
   rcases h:x.ts.es with _|⟨t,_|⟨u,s⟩⟩
   rw[h]at hl;simp at hl;exact⟨t,rfl⟩;rw[h]at hl;simp at hl
  have b4:decide ((x.ts.es.length:Int)=1)=true:=by simp;omega
  have hg0:x.ts.es[0]?=some t:=by rw[ht];rfl
  have hil:pF d.length x=(decide (t.v.bs=rD d.length)&&decide (t.c=1)):=by simp only[pF,b3,Bool.true_and,ht]
  rw[hil];clear ht hl;simp only[yI,yJ,e1,hget,b3,b4,hg0,go_sem,seval];refine aB h8 ?_;simp only[cL.avc,go_sem,seval];refine aQ ?_;cases b5:decide (t.v.bs=rD d.length)<;>cases b6:decide (t.c=1)
  all_goals (simp only[b5,b6,hw,go_sem,seval])
  exact⟨rfl,by rw[hI,mT,hil,b5,b6];simp⟩
end
end
section
section
variable{pg:Pg}
theorem c260(A:Ora pg)(hf:pg.fs 260=some N6)(h272:pg.fs 272=some HI)(h273:pg.fs 273=some N1)(h274:pg.fs 274=some HH)(h292:pg.fs 292=some HG)(h108:pg.fs 108=some vX)(v rank:Int) :
  ∀p:aC,p.ok->Ret pg 260 [p.av,.int .i64 v,.int .i64 rank] (.bool (wN v rank p)):=by
 refine aC.ind' λp ih hp=>?_;obtain⟨hk,hks⟩:=(aC.ok_iff p).1 hp;have a1:=c272 A h272 h108 p rank;have a2:=c273 h273 h292 p.knl p.kcl p.kids hk 274 [.fp (.int .i64 v),.fp (.int .i64 rank)] rfl (λq => !wN v rank q) (λq hq=>c274 h274 q v rank _ (ih q hq (hks q hq)));rw[aC.avc]at a1
 have hall:(p.kids.any λq => !wN v rank q) = !p.kids.all (wN v rank):=by rw[Bool.eq_iff_iff];simp
 rw[hall]at a2;rw[UG,zN];refine Ret.ofX hf ?_;unfold N6;clear ih hks hp hk hall;cases b1:decide (p.op.bs=[114,101,97,100])
 case false=>
  have ho:tD v rank p=true:=by simp[tD,b1]
  rw[ho];simp only[b1,go_sem,seval];refine cK (a2) (by simp only[ Nat.zero_add,depth,cF,bD,eK,go_sem,seval];rfl) (by first|rfl|simp only[gO]) ?_;simp only[Bool.not_not,go_sem,seval]
 cases b2:decide (p.value=v)
 case false=>
  have ho:tD v rank p=true:=by simp[tD,b2]
  rw[ho];simp only[b1,b2,go_sem,seval];refine cK (a2) (by simp only[ Nat.zero_add,depth,cF,bD,eK,go_sem,seval];rfl) (by first|rfl|simp only[gO]) ?_;simp only[Bool.not_not,go_sem,seval]
 have ho:tD v rank p=rA p rank:=by simp[tD,b1,b2]
 rw[ho];simp only[b1,b2,go_sem,seval];refine aB a1 ?_;cases b3:rA p rank
 case false=>simp only[go_sem,seval]
 refine Wk ?_;refine cK (a2) (by simp only[ Nat.zero_add,depth,cF,bD,eK,go_sem,seval];rfl) (by first|rfl|simp only[gO]) ?_;simp only[Bool.not_not,go_sem,seval]
def ZF(n:Nat):Lin:=⟨0,⟨false,[⟨⟨rD n,by have:=x9 20 n;simp only[rD];split<;>simp[big];omega⟩,1⟩],true,by simp[big]⟩⟩
theorem QD(n:Nat)(l:Lin):cC l (ZF n)=pF n l:=by
 simp only[cC,ZF,pF];congr 1;rcases l.ts.es with _|⟨t,_|⟨u,s⟩⟩
 rfl;simp[eqL,i8];simp[eqL]
theorem c261(hf:pg.fs 261=some N5)(h122:∀n:Int,n<=9223372036854775807->Ret pg 122 [.int .i64 n] (.str (rD n)))(h162:∀a b:Lin,Ret pg 162 [a.av,b.av] (.bool (cC a b)))(v rank:Int) :
  ∀p:aC,p.ok->Ret pg 261 [p.av,.int .i64 v,.int .i64 rank] (.bool (wN v rank p)):=by
 refine aC.ind' λp ih hp=>?_;obtain⟨hk,hks⟩:=(aC.ok_iff p).1 hp;rw[UG,zN];refine Ret.ofX hf ?_;unfold N5;have hb:=p.at_.ok;cases b1:decide (p.op.bs=[114,101,97,100])
 case' false=>
  have ho:tD v rank p=true:=by simp[tD,b1]
  simp only[b1,go_sem,seval]
 case' true=>
  cases b2:decide (p.value=v)
  case' false=>
   have ho:tD v rank p=true:=by simp[tD,b2]
   simp only[b1,b2,go_sem,seval]
  case' true=>
   have ho':tD v rank p=rA p rank:=by simp[tD,b1,b2]
   cases b3:p.dyn
   case true=>
    have:tD v rank p=false:=by simp[ho',rA,b3]
    rw[this];simp only[b1,b2,b3,go_sem,seval]
   cases b4:decide ((p.at_.es.length:Int)=rank)
   case false=>
    have:tD v rank p=false:=by simp[ho',rA,b4]
    rw[this];simp only[b1,b2,b3,b4,go_sem,seval]
   have ho2:tD v rank p=mT 0 p.at_.es:=by simp[ho',rA,b3,b4]
   have hr:rank=(p.at_.es.length:Int):=by
    have:(p.at_.es.length:Int)=rank:=by simpa using b4
    exact this.symm
   simp only[b1,b2,b3,b4,go_sem,seval];refine aK p.at_.es (λd r env hp=>env=KK (.int .i64 v) (.int .i64 rank) (.pt 1 0 0) (.int .i64 d.length)/\hp.get 1=some (0,.blk p.cells 9 true true false)/\mT 0 p.at_.es=mT d.length r) ?_ ?_ ?_;exact⟨rfl,by simp only[go_sem,seval];simp only[aC.cells,Sl.av,aC.kav,b3],rfl⟩
   rotate_left
   rintro d x r env hp hes ⟨rfl,g1,hI⟩;have g1':=g1;simp only[aC.cells,Sl.av,aC.kav]at g1;have hb2:(d++x::r).length<=big:=by rw[<-hes];exact hb
   have hw:=aW hb2;have hget:p.at_.es[d.length]?=some x:=by rw[hes];simp
   have e1:decide ((d.length:Int)<rank)=true:=by rw[hr,hes];simp;omega
   have hlen:d.length<=9223372036854775807:=by simp only[big]at hb2;simp at hb2;omega
   have a1:=h122 (d.length:Int) (by omega);have a2:Ret pg 162 [x.av,.agg [.int .i64 0,.sl false [.agg [.str (rD d.length),.int .i64 1]] true]] (.bool (pF d.length x)):=by rw[<-QD];exact h162 x (ZF d.length)
   rw[ho2,hI];simp only[KI,KK,e1,g1,hget,go_sem,seval];refine aB a1 (Wk ?_);refine aB a2 ?_;cases b5:pF d.length x;refine Wk ?_;refine aQ ?_;simp[mT,b5];simp only[hw,go_sem,seval];refine aQ ?_;exact⟨rfl,g1',by simp[mT,b5]⟩;rintro env hp ⟨rfl,g1,hI⟩;have ho:tD v rank p=true:=by rw[ho2,hI];rfl
   have e1:decide ((p.at_.es.length:Int)<rank)=false:=by rw[hr];simp
   simp only[KI,KK,e1,go_sem,seval]
 all_goals (rw[ho,Bool.true_and])
 all_goals (refine aK p.kids (λd r env hp=>env=KJ (.int .i64 v) (.int .i64 rank) (.pt 1 0 0) (.int .i64 d.length)/\hp.get 1=some (0,.blk p.cells 9 true true false)/\p.kids.all (wN v rank)=r.all (wN v rank)) ?_ ?_ ?_)
 all_goals (first|exact⟨rfl,g1,rfl⟩|exact⟨rfl,by simp only[go_sem,seval];rfl,rfl⟩|skip)
 case false.refine_2|true.false.refine_2|true.true.refine_2=>rintro env hp ⟨rfl,g1,hI⟩;simp only[aC.cells,Sl.av,aC.kav]at g1;simp only[KH,KJ,g1,go_sem,seval];rw[hI];rfl
 all_goals
  rintro d x r env hp hes ⟨rfl,g1,hI⟩;have g1':=g1;simp only[aC.cells,Sl.av,aC.kav]at g1;have hx:=ih x (by rw[hes];simp) (hks x (by rw[hes];simp));have hb2:(d++x::r).length<=big:=by rw[<-hes];exact hk
  have hw:=aW hb2;have hget:p.kids[d.length]?=some x:=by rw[hes];simp
  have e1:decide ((d.length:Int)<(p.kids.length:Int))=true:=by rw[hes];simp;omega
  simp only[KH,KJ,e1,g1,hget,go_sem,seval];refine aB hx ?_;cases b5:wN v rank x;refine Wk ?_;simp[hI,b5];simp only[hw,go_sem,seval];exact⟨rfl,g1',by simp[hI,b5]⟩
theorem c294(hf:pg.fs 294=some NY)(h37:∀p:aC,p.ok->p.sz<=big->bE pg 37 [p.av] (nP 1 false ((bM p).map aJ)))(p:aC)(hp:p.ok)(hsz:p.sz<=big)(v:Int) :
  Ret pg 294 [p.av,.int .i64 v] (.bool ((cE p).contains v)):=by
 have a1:=h37 p hp hsz;have hlen:=lA p;rw[<-YJ]at a1;rw[aC.avc]at a1;refine Ret.ofX hf ?_;unfold NY;refine Wk ?_;refine lQ a1 (by simp only[go_sem,seval]) ?_;intro nl cl _;refine Wk ?_;refine aK (cE p) (λd r env hp=>env=CJ (.int .i64 v) (.sl nl ((cE p).map aJ) cl) (.int .i64 d.length)/\(cE p).contains v=r.contains v) ?_ ?_ ?_;exact⟨rfl,rfl⟩;rintro env hp ⟨rfl,hI⟩;simp only[CI,CJ,go_sem,seval];rw[hI];rfl;rintro d x r env hp hes ⟨rfl,hI⟩;have hb2:(d++x::r).length<=big:=by rw[<-hes];omega
 have hw:=aW hb2;have hget:(cE p)[d.length]?=some x:=by rw[hes];simp
 have e1:decide ((d.length:Int)<((cE p).length:Int))=true:=by rw[hes];simp;omega
 rw[hI];cases b1:decide (x=v);have:v≠x:=by intro h;simp[h]at b1
 simp only[CI,CJ,e1,hget,b1,hw,go_sem,seval];exact⟨rfl,by simp[this]⟩;have:v=x:=by simp at b1;omega
 simp only[CI,CJ,e1,hget,b1,go_sem,seval];simp[this]
theorem c316(hf:pg.fs 316=some NX)(nl cl:Bool)(es:List Int)(hb:es.length<=big)(v:Int) :
  bE pg 316 [.sl nl (es.map aJ) cl,.int .i64 v] (λr=>∃i:Int,r = .int .i64 i/\decide (0<=i)=es.any (λy=>decide (v=y))):=
 I2 (f:=316) (k:=.bin .eql) hf aJ (λ_=>rfl) nl cl es hb (.int .i64 v) (λy=>decide (v=y)) (by intro kb s h x Q t;simp only[go_sem,seval])
theorem c293(hf:pg.fs 293=some U3)(h316:pg.fs 316=some NX)(nl cl:Bool)(es:List Int)(hb:es.length<=big)(v:Int) :
  Ret pg 293 [.sl nl (es.map aJ) cl,.int .i64 v] (.bool (es.contains v)):=by
 have e:∀l:List Int,l.contains v=l.any λy=>decide (v=y):=by
  intro l
  induction l with
  |nil=>rfl
  |cons x r ih=>simp only[List.contains_cons,List.any_cons];rw[ih];rfl
 rw[e];exact qC (n:=316) hf (by simp only[go_sem,seval]) (c316 h316 nl cl es hb v)
end
end
section
def fV(f:Typ->Int):List Sp->List Typ->List Int
 |s::r,t::q=>(if s.1 = -2 then 0 else f t)::fV f r q
 |_,_=>[]
theorem X9{h:Hp}{k e:Nat}{l:List Int}{t:Bool}(hg:h.get k=some (e,.blk (l.map aJ) 1 false t false))(d:Nat):Tev.snap (d+2) h (.rf k e 0 l.length l.length)=some (.sl false (l.map aJ) t,[k]):=by obtain⟨cs',h1,h2,h3,h4⟩:=dQ (El.ints l);rw[gU]at h1;cases h1;have h5:=h4 [];rw[List.append_nil,aI]at h5;have h6:dA (Tev.snap (d+1) h) (l.map aJ)=some (l.map aJ,[]):=eZ d h (pG l);rw[eK];simp[hg,h5,h6,AV.tree]
theorem mO(f:Typ->Int):∀(d:List Sp)(vs:List Typ),d.length<=vs.length->(fV f d vs).length=d.length
 |[],_,_=>by simp[fV]
 |s::r,t::q,h=>by simp[fV,mO f r q (by simpa using h)]
 |s::r,[],h=>by simp at h
theorem pU(f:Typ->Int)(s:Sp):∀(d:List Sp)(vs:List Typ)(t:Typ),vs[d.length]?=some t->fV f (d++[s]) vs=fV f d vs++[if s.1 = -2 then 0 else f t]
 |[],[],_,h=>by simp at h
 |[],t' :: q,t,h=>by simp at h;subst h;simp[fV]
 |s' :: r,t' :: q,t,h=>by have:=pU f s r q t (by simpa using h);simp[fV,this]
 |_::_,[],_,h=>by simp at h
def tX(f:Typ->Int)(d:List Sp)(vs:List Typ):List Int:=fV f d vs++List.replicate (vs.length-d.length) 0
theorem YV(f:Typ->Int)(d:List Sp)(vs:List Typ)(h:d.length<=vs.length):(tX f d vs).length=vs.length:=by simp only[tX,bX,PH,mO f d vs h];omega
theorem V3(f:Typ->Int)(s:Sp)(d:List Sp)(vs:List Typ)(t:Typ)(ht:vs[d.length]?=some t)(hs:s.1 = -2):tX f (d++[s]) vs=tX f d vs:=by
 have hl:=(cD.1 ht).1;obtain⟨m,hm⟩:∃m,vs.length-d.length=m+1:=⟨vs.length-d.length-1,by omega⟩
 have hm2:vs.length-(d++[s]).length=m:=by simp;omega
 simp only[tX,pU f s d vs t ht,hm,hm2,if_pos hs,List.append_assoc,List.replicate_succ,List.singleton_append]
theorem YU(f:Typ->Int)(s:Sp)(d:List Sp)(vs:List Typ)(t:Typ)(ht:vs[d.length]?=some t)(hs:¬s.1 = -2) :
  (tX f (d++[s]) vs).map aJ=List.take d.length ((tX f d vs).map aJ)++[.int .i64 (f t)]++List.drop (d.length+1) ((tX f d vs).map aJ):=by
 have hl:=(cD.1 ht).1;obtain⟨m,hm⟩:∃m,vs.length-d.length=m+1:=⟨vs.length-d.length-1,by omega⟩
 have hm2:vs.length-(d++[s]).length=m:=by simp;omega
 have hA:=mO f d vs (by omega);simp only[tX,pU f s d vs t ht,hm,hm2,if_neg hs,List.replicate_succ,List.map_append,List.map_cons,List.map_nil];rw[List.take_append_of_le_length (by simp[hA]),List.drop_append,List.take_of_length_le (by simp[hA]),List.drop_of_length_le (by simp[hA])];simp[hA,aJ]
section
variable{pg:Pg}
end
end
section
structure aIu(ins:Nat)(m:Nat)(n:Nat)(s:Sp):Prop where
 inp:n<ins->s.1 = -1 /\ -1<=s.2
 own:ins<=n->s.1 = -2\/(0<=s.1/\s.1<(m:Int))
 lo : -2<=s.2
 hi:s.2<(m:Int)
theorem Q0{ins V:Nat}:∀(d:List aH)(n:Nat)(s:Sp),(iT (eD V ins) 0 d)[n]?=some s->aIu ins d.length n s:=by
 intro d
 induction hn:d.length generalizing d with
 |zero=>
  obtain rfl:=List.length_eq_zero_iff.1 hn;intro n s h;rw[iT]at h;rcases PO V ins n s h with ⟨h1,rfl⟩|⟨h1,rfl⟩
  exact⟨λ_=>by simp,λh=>by omega,by simp,by simp⟩;exact⟨λh=>by omega,λ_ => .inl rfl,by simp,by simp⟩
 |succ m ih=>
  obtain⟨d',q,rfl⟩:∃d' q,d=d'++[q]:=by
   rcases mK d with h|⟨d',q,h⟩
   subst h;simp at hn;exact⟨d',q,by simpa using h⟩
  have hl:d'.length=m:=by simpa using hn
  intro n s h;rw[wB,Nat.zero_add]at h;have hlt:n<(iT (eD V ins) 0 d').length:=by have:=(cD.1 h).1;rwa [C7]at this
  obtain⟨s',h1,h2,h3,h4⟩:=PM (iT (eD V ins) 0 d') d'.length q n _ (aX hlt);rw[h]at h1;cases h1;have I:=ih d' hl n _ (aX hlt);generalize (iT (eD V ins) 0 d')[n]=s0 at *;rw[hl]at h2 h3;have hs2:s.2=(m:Int)\/s.2=s0.2:=by by_cases hu:uses q n;exact .inl (h3 hu);exact .inr (h4 hu)
  obtain⟨i1,i2,i3,i4⟩:=I;refine⟨λh=>?_,λh=>?_,?_,?_⟩;obtain⟨a,b⟩:=i1 h;rw[if_neg (by rintro⟨_,c⟩;omega)]at h2;exact⟨by omega,by rcases hs2 with e|e<;>omega⟩;have:=i2 h;split at h2<;>omega;rcases hs2 with e|e<;>omega;rcases hs2 with e|e<;>omega
structure aKo(k:aA)(n:Nat)(s:Sp):Prop where
 fst:s.1 = -2\/(-1<=s.1/\s.1<(k.list.es.length:Int)+1)
 snd : -2<=s.2/\s.2<=(k.list.es.length:Int)
 inp:(s.1 ≠ -2/\s.1 <= -1 /\ -1<=s.2)↔(n:Int)<k.inputs
 res:s.2=(k.list.es.length:Int)↔n∈k.results.es.map Int.toNat
theorem aIz{k:aA}(h0:0<=k.inputs){n:Nat}{s:Sp}(h:(aF k)[n]?=some s):aKo k n s:=by
 rw[PL,rN]at h;obtain⟨s0,h1,h2⟩:=h;have I:=Q0 k.list.es n s0 h1;obtain⟨i1,i2,i3,i4⟩:=I;have hfst:s.1=s0.1:=by rw[<-h2];split<;>rfl
 have hsnd:(n∈k.results.es.map Int.toNat/\s.2=(k.list.es.length:Int))\/(n ∉ k.results.es.map Int.toNat/\s.2=s0.2):=by rw[<-h2];split;rename_i hh;exact .inl ⟨hh,rfl⟩;rename_i hh;exact .inr ⟨hh,rfl⟩
 refine⟨?_,?_,?_,?_⟩;rcases Nat.lt_or_ge n k.inputs.toNat with c|c;have:=i1 c;omega;have:=i2 c;omega;rcases hsnd with ⟨_,e⟩|⟨_,e⟩<;>omega;constructor;rintro⟨a,b,c⟩;rcases Nat.lt_or_ge n k.inputs.toNat with d|d;omega;have:=i2 d;omega;intro hn;have:=i1 (by omega);rcases hsnd with ⟨_,e⟩|⟨_,e⟩<;>omega;rcases hsnd with ⟨a,e⟩|⟨a,e⟩
 exact⟨λ_=>a,λ_=>e⟩;exact⟨λh=>by omega,λh=>absurd h a⟩
end
section
theorem UL{k:aA}{at_ v:Nat}{q:aH}{a b:Typ}(hq:k.list.es[at_]?=some q)(ha:k.values.es[v]?=some a)(hb:k.values.es[q.value.toNat]?=some b):pL k at_ v=aCQ k at_ v q a b:=by
 have h1:decide (0<=(at_:Int))=true:=by simp
 have h2:decide (0<=(v:Int))=true:=by simp
 simp only[pL,Int.toNat_natCast,hq,ha,hb,h1,h2,Bool.true_and]
theorem u6{k:aA}{v:Int}{s:Sp}(h:(aF k)[v.toNat]?=some s):C6 k v=s:=by simp[C6,h]
structure aKq(k:aA)(at_ v:Nat)(q:aH)(a b:Typ)(s1 s2:Sp):Prop where
 hq:k.list.es[at_]?=some q
 ha:k.values.es[v]?=some a
 hb:k.values.es[q.value.toNat]?=some b
 h1:(aF k)[q.value.toNat]?=some s1
 h2:(aF k)[v]?=some s2
 q0:0<=q.value
 f2 : -2<=s2.1
 mem:q∈k.list.es
theorem aEF{k:aA}(ok:lH k){at_ v:Nat}(ha:at_<k.list.es.length)(hv:v<k.values.es.length):∃q a b s1 s2,aKq k at_ v q a b s1 s2:=by
 obtain⟨i0,i1⟩:=ok.inp;have hsl:=kZ (k:=k) (by omega);have hg:k.list.es[at_]?=some k.list.es[at_]:=aX ha;have hsplit:k.list.es=k.list.es.take at_++k.list.es[at_]::k.list.es.drop (at_+1):=by rw[<-kY ha,List.take_append_drop]
 obtain⟨w1,w2,_⟩:=jZ (ok.ker _ _ _ hsplit);have hs2:(aF k)[v]?=some (aF k)[v]:=aX (by omega);have hE:=(aIz i0 hs2).fst;exact⟨_,_,_,_,_,hg,aX hv,aX (by omega),aX (by omega),hs2,by omega,by omega,List.getElem_mem ha⟩
section
variable{pg:Pg}
set_option maxHeartbeats 4000000 in
theorem c275(hf:pg.fs 275=some N0)(h65:∀x y:Typ,Ret pg 65 [x.av,y.av] (.bool (iR x y)))(h48:∀p:aC,p.ok->p.sz<=big->bE pg 48 [p.av] (nP 1 false ((cE p).map aJ)))
  (h293:∀(nl cl:Bool)(es:List Int),es.length<=big->∀v:Int,Ret pg 293 [.sl nl (es.map aJ) cl,.int .i64 v] (.bool (es.contains v)))
  (h260:∀(v rank:Int)(p:aC),p.ok->Ret pg 260 [p.av,.int .i64 v,.int .i64 rank] (.bool (wN v rank p))) (k:aA) (ok:lH k)
  (hk:∀q∈k.list.es,q.body.ok/\q.index.ok/\q.body.sz+q.index.sz+1<=big) (nl cl:Bool) (at_ v:Nat) (hat:at_<k.list.es.length) (hv:v<k.values.es.length) :
  Ret pg 275 [k.av,.sl nl ((aF k).map bQ) cl,.int .i64 at_,.int .i64 v] (.bool (pL k at_ v)):=by
 obtain⟨q,a,b,s1,s2,M⟩:=aEF ok hat hv;obtain⟨m1,m2,m3,m4,m5,m6,m7,m8⟩:=M;obtain⟨k1,k2,k3⟩:=hk q m8;rw[UL m1 m2 m3];simp only[aCQ,u6 m4,u6 (v:=(v:Int)) (by simpa using m5)];have a65:=h65 a b;have a48:=h48 q.body k1 (by omega);have b48:=h48 q.index k2 (by omega);have l1:=lA q.body;have l2:=lA q.index;have a260:=h260 v b.shape.dims.es.length q.body k1;have m6':(0<=q.value)=True:=eq_true m6;rw[aC.avc]at a48 b48 a260;clear h65 h48 h260 hk ok m7 m8 k1 k2;refine Ret.ofX hf ?_;unfold N0;cases b1:decide ((v:Int)=q.value)
 case true=>
  simp only[m1,m2,m3,m4,m5,m6',b1,bQ,go_sem,seval]
  first|kernel_rfl|(refine aQ ?_;simp only[go_sem,seval])
 cases b2:decide (s1.1=(at_:Int))
 case false=>
  simp only[m1,m2,m3,m4,m5,m6',b1,b2,bQ,go_sem,seval]
  first|kernel_rfl|(refine aQ ?_;simp only[go_sem,seval])
 cases b3:decide (s2.1 = -2)
 case true=>
  simp only[m1,m2,m3,m4,m5,m6',b1,b2,b3,bQ,go_sem,seval]
  first|kernel_rfl|(refine aQ ?_;simp only[go_sem,seval])
 cases b4:decide (s2.2=(at_:Int))
 case false=>
  simp only[m1,m2,m3,m4,m5,m6',b1,b2,b3,b4,bQ,go_sem,seval]
  first|kernel_rfl|(refine aQ ?_;simp only[go_sem,seval])
 simp only[m1,m2,m3,m4,m5,m6',b1,b2,b3,b4,bQ,go_sem,seval];refine aB a65 ?_;cases b5:iR a b
 case false=>
  simp only[go_sem,seval]
  first|kernel_rfl|(refine aQ ?_;simp only[go_sem,seval])
 refine Wk ?_;refine aQ ?_;by_cases h6:q.kind=3;have b6:decide (q.kind=3)=true:=decide_eq_true h6;rw[if_pos h6];cases b7:decide ((v:Int)=q.source)
 case false=>simp only[b6,b7,go_sem,seval]
 simp only[b6,b7,go_sem,seval];refine lQ a48 (by simp only[go_sem,seval]) ?_;intro nl1 cl1 _;refine Wk ?_;refine aB (h293 nl1 cl1 _ (by omega) v) ?_;cases b8:(cE q.body).contains (v:Int)
 case true=>simp only[go_sem,seval]
 refine Wk ?_;refine lQ b48 (by simp only[go_sem,seval]) ?_;intro nl2 cl2 _;refine Wk ?_;refine aB (h293 nl2 cl2 _ (by omega) v) ?_;simp only[go_sem,seval];have b6:decide (q.kind=3)=false:=decide_eq_false h6;rw[if_neg h6];simp only[b6,m3,m6',go_sem,seval];refine aB a260 ?_;simp only[go_sem,seval]
 first|kernel_rfl|(refine aQ ?_;simp only[go_sem,seval])
set_option maxHeartbeats 4000000 in
theorem c276(hf:pg.fs 276=some NZ)(h88:∀x y:Typ,Ret pg 88 [x.av,y.av] (.bool (iR x y)))(h294:∀p:aC,p.ok->p.sz<=big->∀v:Int,Ret pg 294 [p.av,.int .i64 v] (.bool ((cE p).contains v)))
  (h261:∀(v rank:Int)(p:aC),p.ok->Ret pg 261 [p.av,.int .i64 v,.int .i64 rank] (.bool (wN v rank p))) (k:aA) (ok:lH k)
  (hk:∀q∈k.list.es,q.body.ok/\q.index.ok/\q.body.sz+q.index.sz+1<=big) (nl cl:Bool) (at_ v:Nat) (hat:at_<k.list.es.length) (hv:v<k.values.es.length) :
  Ret pg 276 [k.av,.sl nl ((aF k).map bQ) cl,.int .i64 at_,.int .i64 v] (.bool (pL k at_ v)):=by
 obtain⟨q,a,b,s1,s2,M⟩:=aEF ok hat hv;obtain⟨m1,m2,m3,m4,m5,m6,m7,m8⟩:=M;obtain⟨k1,k2,k3⟩:=hk q m8;rw[UL m1 m2 m3];simp only[aCQ,u6 m4,u6 (v:=(v:Int)) (by simpa using m5)];have a88:=h88 a b;have a294:=h294 q.body k1 (by omega) v;have b294:=h294 q.index k2 (by omega) v;have a261:=h261 v b.shape.dims.es.length q.body k1;have m6':(0<=q.value)=True:=eq_true m6;have b3':decide (s2.1 < -1)=decide (s2.1 = -2):=by rw[dC];omega
 rw[aC.avc]at a294 b294 a261;clear h88 h294 h261 hk ok m7 m8 k1 k2;refine Ret.ofX hf ?_;unfold NZ;cases b1:decide ((v:Int)=q.value)
 case true=>simp only[m1,m2,m3,m4,m5,m6',b1,bQ,go_sem,seval]
 cases b2:decide (s1.1=(at_:Int))
 case false=>simp only[m1,m2,m3,m4,m5,m6',b1,b2,bQ,go_sem,seval]
 cases b3:decide (s2.1 = -2)
 case true=>rw[b3]at b3';simp only[m1,m2,m3,m4,m5,m6',b1,b2,b3',bQ,go_sem,seval]
 rw[b3]at b3';cases b4:decide (s2.2=(at_:Int))
 case false=>simp only[m1,m2,m3,m4,m5,m6',b1,b2,b3',b4,bQ,go_sem,seval]
 simp only[m1,m2,m3,m4,m5,m6',b1,b2,b3',b4,bQ,go_sem,seval];refine aB a88 ?_;cases b5:iR a b
 case false=>
  simp only[go_sem,seval]
  first|kernel_rfl|(refine aQ ?_;simp only[go_sem,seval])
 refine Wk ?_;refine aQ ?_;by_cases h6:q.kind=3;have b6:decide (q.kind=3)=true:=decide_eq_true h6;rw[if_pos h6];cases b7:decide ((v:Int)=q.source)
 case false=>simp only[b6,b7,go_sem,seval]
 simp only[b6,b7,go_sem,seval];refine aB a294 ?_;cases b8:(cE q.body).contains (v:Int)
 case true=>simp only[go_sem,seval]
 refine Wk ?_;refine aB b294 ?_;simp only[go_sem,seval];have b6:decide (q.kind=3)=false:=decide_eq_false h6;rw[if_neg h6];simp only[b6,m3,m6',go_sem,seval];refine aB a261 ?_;simp only[go_sem,seval]
 first|kernel_rfl|(refine aQ ?_;simp only[go_sem,seval])
end
end
section
def pB(k:aA)(at_ v:Int):Bool:=decide ((cP k).2=0)&&pL k at_ v
theorem nL{k:aA}{at_ v:Int}(h:¬(0<=at_/\at_<k.list.es.length/\0<=v/\v<k.values.es.length)):pL k at_ v=false:=by
 cases hm:pL k at_ v with
 |false=>rfl
 |true=>simp only[pL]at hm;split at hm;rename_i q a hq ha;split at hm;simp only[aG,aY]at hm;have h1:=(cD.1 hq).1;have h2:=(cD.1 ha).1;exact absurd ⟨hm.1.1,by omega,hm.1.2,by omega⟩ h;cases hm;cases hm
section
variable{pg:Pg}
theorem pQ(l:List Sp):treeL (l.map bQ)=true:=bJ (f:=bQ) (λs=>by simp[bQ,go_sem]) _
attribute [go_sem] pQ
set_option maxHeartbeats 4000000 in
theorem c264(hf:pg.fs 264=some N3)(k:aA)(h9:bE pg 9 [k.av] (kE k))
  (h275:lH k->∀(nl cl:Bool)(at_ v:Nat),at_<k.list.es.length->v<k.values.es.length->Ret pg 275 [k.av,.sl nl ((aF k).map bQ) cl,.int .i64 at_,.int .i64 v] (.bool (pL k at_ v)))
  (at_ v:Int):Ret pg 264 [k.av,.int .i64 at_,.int .i64 v] (.bool (pB k at_ v)):=by
 obtain⟨r9,hr9,hs9⟩:=h9;rw[aA.avc]at hr9;refine Ret.ofX hf ?_;unfold N3;rcases jH (k:=k) with hc|hc
 case inr=>
  rw[kE,if_neg (by omega)]at hs9;subst hs9;have:pB k at_ v=false:=by simp[pB,hc]
  rw[this];refine Wk ?_;refine aB hr9 ?_;simp only[go_sem,seval]
 have ok:=dS hc;rw[kE,if_pos hc]at hs9;subst hs9;have hm:pB k at_ v=pL k at_ v:=by simp[pB,hc]
 rw[hm];refine Wk ?_;refine bT hr9 (by simp only[go_sem,seval]) (by first|rfl|simp[AV.tree,pQ]) ?_;cases b1:decide (0<=at_)
 case false=>rw[nL (by simp at b1;omega)];simp only[b1,go_sem,seval]
 cases b2:decide (at_<(k.list.es.length:Int))
 case false=>rw[nL (by simp at b2;omega)];simp only[b1,b2,go_sem,seval]
 cases b3:decide (0<=v)
 case false=>rw[nL (by simp at b3;omega)];simp only[b1,b2,b3,go_sem,seval]
 cases b4:decide (v<(k.values.es.length:Int))
 case false=>rw[nL (by simp at b4;omega)];simp only[b1,b2,b3,b4,go_sem,seval]
 obtain⟨n,rfl⟩:∃n:Nat,at_=n:=⟨at_.toNat,by simp at b1;omega⟩
 obtain⟨m,rfl⟩:∃m:Nat,v=m:=⟨v.toNat,by simp at b3;omega⟩
 have h:=h275 ok false false n m (by simp at b2;omega) (by simp at b4;omega);rw[aA.avc]at h;simp only[b1,b2,b3,b4,go_sem,seval];refine aB h ?_;simp only[go_sem,seval]
set_option maxHeartbeats 4000000 in
theorem c265(hf:pg.fs 265=some N2)(k:aA)(h10:bE pg 10 [k.av] (gD k))
  (h276:lH k->∀(nl cl:Bool)(at_ v:Nat),at_<k.list.es.length->v<k.values.es.length->Ret pg 276 [k.av,.sl nl ((aF k).map bQ) cl,.int .i64 at_,.int .i64 v] (.bool (pL k at_ v)))
  (at_ v:Int):Ret pg 265 [k.av,.int .i64 at_,.int .i64 v] (.bool (pB k at_ v)):=by
 obtain⟨r10,hr10,hs10⟩:=h10;rw[aA.avc]at hr10;refine Ret.ofX hf ?_;unfold N2;rcases jH (k:=k) with hc|hc
 case inr=>
  rw[gD,if_neg (by omega)]at hs10;subst hs10;have:pB k at_ v=false:=by simp[pB,hc]
  rw[this];refine Wk ?_;refine aB hr10 ?_;simp only[go_sem,seval]
 have ok:=dS hc;rw[gD,if_pos hc]at hs10;obtain⟨nl,cl,rfl⟩:=hs10;have hm:pB k at_ v=pL k at_ v:=by simp[pB,hc]
 rw[hm];refine Wk ?_;refine bT hr10 (by simp only[go_sem,seval]) (by first|rfl|simp[AV.tree,pQ]) ?_;cases b1:decide (0<=at_)
 case false=>rw[nL (by simp at b1;omega)];simp only[b1,go_sem,seval]
 cases b2:decide (at_<(k.list.es.length:Int))
 case false=>rw[nL (by simp at b2;omega)];simp only[b1,b2,go_sem,seval]
 cases b3:decide (0<=v)
 case false=>rw[nL (by simp at b3;omega)];simp only[b1,b2,b3,go_sem,seval]
 cases b4:decide (v<(k.values.es.length:Int))
 case false=>rw[nL (by simp at b4;omega)];simp only[b1,b2,b3,b4,go_sem,seval]
 obtain⟨n,rfl⟩:∃n:Nat,at_=n:=⟨at_.toNat,by simp at b1;omega⟩
 obtain⟨m,rfl⟩:∃m:Nat,v=m:=⟨v.toNat,by simp at b3;omega⟩
 have h:=h276 ok nl cl n m (by simp at b2;omega) (by simp at b4;omega);rw[aA.avc]at h;simp only[b1,b2,b3,b4,go_sem,seval];refine aB h ?_;simp only[go_sem,seval]
end
end
section
def Q8(k:aA)(r:AV):Prop:=
 if (cP k).2=0 then ∃nl cl,(nl=true->kT k=[])/\r = .tup [.sl nl ((kT k).map aJ) cl,.int .i64 0] else r = .tup [.sl true [] true,.int .i64 22]
def AD(k:aA)(i:Nat):Int:=jO (λv=>pL k (i:Int) (v:Int)) 0 k.values.es.length
def oF(k:aA)(n:Nat):List Int:=(List.range n).map (AD k)
theorem EJ(k:aA):kT k=oF k k.list.es.length:=rfl
theorem JC(k:aA)(n:Nat):oF k (n+1)=oF k n++[AD k n]:=by simp[oF,List.range_succ]
theorem NJ(k:aA)(n:Nat):(oF k n).length=n:=by simp[oF]
section
variable{pg:Pg}
theorem B2(k:aA)(i:Nat):l0 (λv=>pL k (i:Int) (v:Int)) k.values.es.length (-1)=AD k i:=WY _ _
set_option maxHeartbeats 8000000 in
theorem c263(hf:pg.fs 263=some N4)(k:aA)(h10:bE pg 10 [k.av] (gD k))
  (h276:lH k->∀(nl cl:Bool)(at_ v:Nat),at_<k.list.es.length->v<k.values.es.length->Ret pg 276 [k.av,.sl nl ((aF k).map bQ) cl,.int .i64 at_,.int .i64 v] (.bool (pL k at_ v))) :
  bE pg 263 [k.av] (Q8 k):=by
 obtain⟨r10,hr10,hs10⟩:=h10;rw[aA.avc]at hr10;refine bE.ofX hf ?_;unfold N4;rcases jH (k:=k) with hc|hc
 case inr=>rw[gD,if_neg (by omega)]at hs10;subst hs10;refine Wk ?_;refine aB hr10 (Wk ?_);rw[Q8,if_neg (by omega)]
 have ok:=dS hc;rw[gD,if_pos hc]at hs10;obtain⟨nl0,cl0,rfl⟩:=hs10;have hlb:=k.list.ok;have hvb:=k.values.ok;refine Wk ?_;refine bT hr10 (by simp only[go_sem,seval]) (by first|rfl|simp[AV.tree,pQ]) (Wk ?_)
 refine aK k.list.es (λd r env hp=>∃v,env=KF (.pt 1 0 0) (.sl nl0 ((aF k).map bQ) cl0) v (.int .i64 d.length) /\
  hp.get 1=some (0,.blk k.cells 6 true true false)/\Own hp 13 1 false v ((oF k d.length).map aJ)) ?_ ?_ ?_
 refine⟨_,rfl,?_,Own.nil _ _ _ _ _ _ rfl⟩;refine Wk ?_;rfl;rintro env hp ⟨v,rfl,g1,ho⟩;simp only[aA.cells,Sl.av]at g1;simp only[KD,KF,g1,go_sem,seval];rw[<-EJ]at ho;have hfin:∀r,(∃nl cl,(nl=true->kT k=[])/\r = .tup [.sl nl ((kT k).map aJ) cl,.int .i64 0])->Q8 k r:=by intro r hr;rw[Q8,if_pos hc];exact hr
 obtain⟨nl,cl,keys,hsn,hnl⟩:=ho.snap (El.ints _) 61;rcases ho with ⟨he,nl',cl',rfl,_⟩|⟨e,cs,rfl,hg,hu⟩
 rw[List.map_eq_nil_iff]at he;rw[he]at hfin;refine Wk ?_;exact hfin _ ⟨nl',cl',λ_=>rfl,rfl⟩;simp only[aI]at hsn;simp only[Tev.conv,depth,eK,cF,bD,↓hsn,go_sem,aI];exact hfin _ ⟨_,_,λh=>by simpa using hnl h,rfl⟩;rintro d q r env hp hes ⟨v,rfl,g1,ho⟩;have hlt:d.length<k.list.es.length:=by rw[hes];simp
 have hb2:(d++q::r).length<=big:=by rw[<-hes];exact hlb
 have hw:=aW hb2;have e1:decide ((d.length:Int)<(k.list.es.length:Int))=true:=by simp;omega
 have g1':=g1;simp only[aA.cells,Sl.av]at g1;have hdl:d.length+1<=1073741824:=by simp only[big]at hb2;simp at hb2;omega
 have hsno:=JC k d.length;have h276':=h276 ok nl0 cl0 d.length;rw[aA.avc]at h276';have hs0:wr .i64 ((k.values.es.length:Int)-1)=(k.values.es.length:Int)-1:=aO (by omega) (by simp only[big]at hvb;omega);clear hes h276 hlb;simp only[KD,KF,e1,g1,hs0,go_sem,seval]
 refine aK (List.range k.values.es.length) (λd2 r2 env hp=>∃c:Int,env=KG (.pt 1 0 0) (.sl nl0 ((aF k).map bQ) cl0) v (.int .i64 d.length) (.int .i64 c) (.int .i64 ((k.values.es.length:Int)-1-d2.length)) /\
  hp.get 1=some (0,.blk k.cells 6 true true false)/\Own hp 13 1 false v ((oF k d.length).map aJ)/\AD k d.length=l0 (λv=>pL k (d.length:Int) (v:Int)) r2.length c) ?_ ?_ ?_
 exact⟨-1,by simp only[List.length_nil,Int.natCast_zero,Int.sub_zero];rfl,g1',ho,by rw[List.length_range,B2]⟩;clear ho g1 g1' hp;rintro env hp ⟨c,rfl,g1,ho,hI⟩;rw[List.length_range];have f1:decide (0<=(k.values.es.length:Int)-1-k.values.es.length)=false:=by simp;omega
 simp only[KE,KG,f1,go_sem,seval];refine eF (kb:=0) (s:=13) ho (El.ints _) (xs:=[.int .i64 c]) (by intro y hy;simp at hy;subst hy;exact⟨rfl,rfl,rfl⟩) (by simp only[aI,NJ,List.length_singleton];omega) (by decide) ?_;intro v' rd pa ho2 hk2 _;simp only[hw,go_sem,seval];refine⟨v',rfl,by rw[hk2 1 (by omega)];exact g1,?_⟩;rw[bX,List.length_singleton,hsno,hI];simpa[l0,xZ] using ho2;clear ho g1 g1' hp;rintro d2 x r2 env hp hes2 ⟨c,rfl,g1,ho,hI⟩;obtain⟨rfl,hlt2⟩:=gT hes2;have hrl:r2.length+d2.length+1=k.values.es.length:=by have:=congrArg List.length hes2;simp at this;omega
 have f1:decide (0<=(k.values.es.length:Int)-1-d2.length)=true:=by simp;omega
 have hval:(k.values.es.length:Int)-1-d2.length=(r2.length:Int):=by omega
 have g1':=g1;simp only[aA.cells,Sl.av]at g1;have a276:=h276' r2.length hlt (by omega)
 have hcons:AD k d.length=l0 (λv=>pL k (d.length:Int) (v:Int)) r2.length (if pL k (d.length:Int) (r2.length:Int) then (r2.length:Int) else c):=by rw[hI];rfl
 have hs1:wr .i64 ((r2.length:Int)-1)=(k.values.es.length:Int)-1-((d2++[d2.length]).length:Int):=by rw[aO (by omega) (by simp only[big]at hvb;omega)];simp;omega
 rw[hval];rw[hval]at f1;clear h276' hes2 hI;simp only[KE,KG,f1,g1,go_sem,seval];refine aB a276 ?_;cases b1:pL k (d.length:Int) (r2.length:Int);rw[b1]at hcons;simp only[hs1,go_sem,seval];exact⟨c,rfl,g1',ho,by simpa using hcons⟩;rw[b1,if_pos rfl]at hcons;simp only[hs1,go_sem,seval];exact⟨r2.length,rfl,g1',ho,hcons⟩
end
end
section
def pO(ds:List Val)(v:List UInt8):Option Val:=ds.find? (λx=>decide (x.v.bs=v))
def nM(ds:List Val):Int->List cL->Int×Int
 |n,[]=>(n,0)
 |n,c::r=>match pO ds c.v.bs with
  |none=>(0,7)
  | some v=>if decide (v.n < -1000000000)||decide (1000000000<v.n) then (0,2) else nM ds (wr .i64 (n+wr .i64 (c.c*v.n))) r
def cG(ds:List Val)(l:Lin):Int×Int:=if fE l then nM ds l.c l.ts.es else (0,1)
theorem D7{ds:List Val}{n:Int}{c:cL}{r:List cL}(h:pO ds c.v.bs=none):nM ds n (c::r)=(0,7):=by simp only[nM,h]
theorem D6{ds:List Val}{n:Int}{c:cL}{r:List cL}{v:Val}(h:pO ds c.v.bs=some v) :
  nM ds n (c::r)=(if decide (v.n < -1000000000)||decide (1000000000<v.n) then (0,2) else nM ds (wr .i64 (n+wr .i64 (c.c*v.n))) r):=by
 simp only[nM,h]
section
variable{pg:Pg}
theorem aCU{f:Nat}{esz:Nat}{ag:Bool}(hf:pg.fs f=some (aCV esz ag)){α : Type}(enc : α -> AV)(hfit:∀x,(enc x).fits esz ag=true)(htree:∀x,(enc x).tree=true)
  (nl cl:Bool) (es:List α) (hb:es.length<=big) (g:Nat) (cs:List AV) (hcs:treeL cs=true) (p : α -> Bool) (hp:∀x∈es,Ret pg g (enc x::cs) (.bool (p x))) :
  bE pg f [.sl nl (es.map enc) cl,.fn g cs] (λr=>∃i:Int,r = .int .i64 i/\((i<0/\es.find? p=none)\/(0<=i/\∃x,es[i.toNat]?=some x/\es.find? p=some x))):=by
 refine bE.ofX hf ?_;unfold aCV;refine Wk ?_;refine eO es (λd e=>eV e (some 8) (.int .i64 d.length)) (λd r hp=>es.find? p=r.find? p) rfl ?_ ?_ ?_;rfl;intro hp' hI;simp only[MZ,MY,go_sem,seval];simp[hI];intro d x r hp' hes hI;have hx0:(d++x::r)[d.length]?=some x:=by simp
 subst hes;simp only[MZ,MY,hfit,go_sem,seval];refine bT (hp x (by simp)) (by simp only[treeL,htree,hcs,List.cons_append,List.nil_append,Bool.and_true]) rfl (Wk ?_);cases hx:p x;simp only[aW hb,go_sem,seval];rw[hI];simp[hx];refine Wk ?_;exact .inr (by rw[hI];simp[hx])
theorem aOp(hf:pg.fs 52=some aBe)(h53:pg.fs 53=some R4)(nl cl:Bool)(ds:List Val)(hb:ds.length<=big)(c:cL) :
  bE pg 52 [.sl nl (ds.map Val.av) cl,.fn 53 [.fp c.av]] (λr=>∃i:Int,r = .int .i64 i/\((i<0/\pO ds c.v.bs=none)\/(0<=i/\∃x,ds[i.toNat]?=some x/\pO ds c.v.bs=some x))):=
 aCU (f:=52) (esz:=2) (ag:=true) hf Val.av (λ_=>by simp only[go_sem,seval]) (λ_=>by simp only[go_sem,seval]) nl cl ds hb 53 [.fp c.av] (by simp only[go_sem,seval]) (λv=>decide (v.v.bs=c.v.bs)) (λv _=>c53 h53 c v)
theorem aOv(hf:pg.fs 32=some aBn)(h51:∀l:Lin,Ret pg 51 [l.av] (.bool (fE l)))(h52:pg.fs 52=some aBe)(h53:pg.fs 53=some R4)(l:Lin)(nl cl:Bool)(ds:List Val)(hb:ds.length<=big) :
  Ret pg 32 [l.av,.sl nl (ds.map Val.av) cl] (.tup [.int .i64 (cG ds l).1,.int .i64 (cG ds l).2]):=by
 refine Ret.ofX hf ?_;unfold aBn;have hlb:=l.ts.ok;refine Wk ?_;refine aB (h51 l) (Wk ?_);cases hx:fE l;refine Wk ?_;simp[cG,hx];have hev:cG ds l=nM ds l.c l.ts.es:=by simp[cG,hx]
 rw[hev];refine Wk ?_;refine aK l.ts.es (λd r env hp=>∃n:Int,env=SP (.sl nl (ds.map Val.av) cl) (.int .i64 n) (.sl l.ts.nl (l.ts.es.map cL.av) l.ts.cl) (.int .i64 l.ts.es.length) (.int .i64 d.length)/\nM ds l.c l.ts.es=nM ds n r) ?_ ?_ ?_;exact⟨_,rfl,rfl⟩;rintro env hp ⟨n,rfl,hI⟩;rw[hI];simp only[SO,SP,nM,go_sem,seval];rintro d x r env hp hes ⟨n,rfl,hI⟩;obtain⟨hget,e1,e2,ew⟩:=cX hes hlb;rw[hI];obtain⟨r52,hr52,i,rfl,hi⟩:=aOp h52 h53 nl cl ds hb x;simp only[SO,SP,hget,e1,e2,go_sem,seval];refine cK (hr52) (by simp only[ cL.avc,depth,cF,bD,eK,go_sem,seval];rfl) (by first|rfl|simp only[gO]) (Wk ?_);rcases hi with ⟨h1,h2⟩|⟨h1,v,hv,h2⟩
 have b1:decide (i<0)=true:=by simpa using h1
 rw[D7 h2];simp only[b1,go_sem,seval];have b1:decide (i<0)=false:=by simp;omega
 have h0t:(0<=i)=True:=eq_true h1;rw[D6 h2];simp only[b1,hv,h0t,go_sem,seval];cases b2:decide (v.n < -1000000000)
 case true=>simp only[b2,go_sem,seval]
 cases b3:decide (1000000000<v.n)
 case true=>simp only[b2,b3,go_sem,seval]
 simp only[b2,b3,hv,h0t,ew,go_sem,seval];exact⟨by kernel_rfl,_,rfl,rfl⟩
def tM(ds:List Val):Int->Bool->List Lin->Int×Bool
 |n,b,[]=>(n,b)
 |n,b,l::r=>tM ds (TP (cG ds l).1 n) (b&&(decide (0<=(cG ds l).1)&&decide ((cG ds l).1<=4096))) r
def gF(ds:List Val)(t:Typ):Int×Bool:=((tM ds 1 true t.shape.dims.es).1,(tM ds 1 true t.shape.dims.es).2&&decide ((tM ds 1 true t.shape.dims.es).1<=4096))
theorem aOu(hf:pg.fs 33=some aBm)(h32:∀(l:Lin) (nl cl:Bool) (ds:List Val),ds.length<=big->Ret pg 32 [l.av,.sl nl (ds.map Val.av) cl] (.tup [.int .i64 (cG ds l).1,.int .i64 (cG ds l).2]))(t:Typ)(nl cl:Bool)(ds:List Val)(hb:ds.length<=big) :
  Ret pg 33 [t.av,.sl nl (ds.map Val.av) cl] (.tup [.int .i64 (gF ds t).1,.bool (gF ds t).2]):=by
 refine Ret.ofX hf ?_;unfold aBm;have hlb:=t.shape.dims.ok;refine Wk ?_;refine aK t.shape.dims.es (λd r env hp=>∃(n:Int)(b:Bool),env=KC (.sl nl (ds.map Val.av) cl) (.int .i64 n) (.bool b) (.sl t.shape.dims.nl (t.shape.dims.es.map Lin.av) t.shape.dims.cl) (.int .i64 t.shape.dims.es.length) (.int .i64 d.length)/\tM ds 1 true t.shape.dims.es=tM ds n b r) ?_ ?_ ?_;exact⟨_,_,rfl,rfl⟩;rintro env hp ⟨n,b,rfl,hI⟩;have h1:gF ds t=(n,b&&decide (n<=4096)):=by simp only[gF,hI,tM]
 rw[h1];cases b;simp only[KB,KC,go_sem,seval];simp only[KB,KC,go_sem,seval];rintro d x r env hp hes ⟨n,b,rfl,hI⟩;obtain⟨hget,e1,e2,ew⟩:=cX hes hlb;have hr32:=h32 x nl cl ds hb;simp only[tM]at hI;generalize (cG ds x).1=a32 at hr32 hI;generalize (cG ds x).2=b32 at hr32;rw[Lin.avc]at hr32;simp only[KB,KC,hget,e1,e2,go_sem,seval];refine aB hr32 ?_;cases b;simp only[ew,mx2,mn2,go_sem,seval];exact⟨TP a32 n,false,rfl,by simpa using hI⟩;cases b1:decide (0<=a32);simp only[b1,ew,mx2,mn2,go_sem,seval];exact⟨TP a32 n,false,rfl,by simpa[b1] using hI⟩;simp only[b1,ew,mx2,mn2,go_sem,seval];exact⟨TP a32 n,decide (a32<=4096),rfl,by simpa[b1] using hI⟩
theorem aOt(hf:pg.fs 34=some aBl)(h54:∀l:Lin,Ret pg 54 [l.av] (.bool (fE l)))(l:Lin)(nl cl:Bool)(ds:List Val)(hb:ds.length<=big) :
  Ret pg 34 [l.av,.sl nl (ds.map Val.av) cl] (.tup [.int .i64 (cG ds l).1,.int .i64 (cG ds l).2]):=by
 refine Ret.ofX hf ?_;unfold aBl;have hlb:=l.ts.ok;have a1:=h54 l;rw[Lin.avc]at a1;refine Wk ?_;refine aB a1 ?_;cases hx:fE l;refine Wk ?_;simp[cG,hx];have hev:cG ds l=nM ds l.c l.ts.es:=by simp[cG,hx]
 rw[hev];refine Wk ?_;refine aK l.ts.es (λd r env hp=>∃n:Int,env=SN (.sl nl (ds.map Val.av) cl) (.pt 1 0 0) (.int .i64 n) (.int .i64 d.length)/\hp.get 1=some (0,.blk [.int .i64 l.c,.sl l.ts.nl (l.ts.es.map cL.av) l.ts.cl] 2 true true false)/\nM ds l.c l.ts.es=nM ds n r) ?_ ?_ ?_;exact⟨_,rfl,rfl,rfl⟩;rintro env hp ⟨n,rfl,g1,hI⟩;rw[hI];simp only[SM,SN,g1,bA,nM,go_sem,seval];rintro d c r env hp hes ⟨n,rfl,g1,hI⟩;obtain⟨hget,e1,e2,ew⟩:=cX hes hlb;rw[hI];clear hI;simp only[SM,SN,g1,e1,e2,go_sem,seval];refine aK ds (λd2 r2 env hp=>env=KA (.sl nl (ds.map Val.av) cl) (.pt 1 0 0) (.int .i64 n) (.int .i64 d.length) (.int .i64 d2.length)/\hp.get 1=some (0,.blk [.int .i64 l.c,.sl l.ts.nl (l.ts.es.map cL.av) l.ts.cl] 2 true true false)/\pO ds c.v.bs=pO r2 c.v.bs) ?_ ?_ ?_;exact⟨rfl,g1,rfl⟩;rintro env hp2 ⟨rfl,q1,hI⟩;have hn:pO ds c.v.bs=none:=by rw[hI];rfl
 rw[D7 hn];simp only[J9,KA,bA,go_sem,seval];show _=true;kernel_rfl;rintro d2 v r2 env hp2 hes2 ⟨rfl,q1,hI⟩;obtain⟨hget2,f1,f2,fw⟩:=cX hes2 hb;cases b0:decide (v.v.bs=c.v.bs)
 case false=>simp only[J9,KA,q1,hget,hget2,e1,e2,f1,f2,b0,fw,go_sem,seval];refine⟨by kernel_rfl,rfl,?_⟩;rw[hI];simp[pO,b0]
 case true=>
  have hs:pO ds c.v.bs=some v:=by rw[hI];simp[pO,b0]
  have hne:decide ((d2.length:Int)=(ds.length:Int))=false:=by have:=aM f1;simp;omega
  rw[D6 hs];simp only[J9,KA,q1,hget,hget2,e1,e2,f1,f2,b0,go_sem,seval];refine aQ ?_;simp only[hne,hget2,f2,go_sem,seval];cases b2:decide (v.n < -1000000000)
  case true=>simp only[b2,go_sem,seval]
  cases b3:decide (1000000000<v.n)
  case true=>simp only[b2,b3,go_sem,seval]
  simp only[b2,b3,q1,hget,e2,ew,go_sem,seval];exact⟨_,rfl,rfl⟩
end
end
end Go.Tev
