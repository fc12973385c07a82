import Derived.Test.YtmcadllokkmeiaaGreatDoorSAW
import Derived.Test.YtmcadllokkmeiaaGreatDoorSBB
import Derived.Test.YtmcadllokkmeiaaGreatDoorSAR
import Derived.Test.YtmcadllokkmeiaaGreatDoorSAH
import Derived.Test.YtmcadllokkmeiaaGreatDoorSAM
import Derived.Test.YtmcadllokkmeiaaGreatDoorSAY
import Derived.Test.YtmcadllokkmeiaaGreatDoorSAX
set_option linter.all false
section
namespace Go.Tev
structure Code3(pg:Pg):Prop where
 f10:pg.fs 10=some cf10
 f15:pg.fs 15=some cf15
 f22:pg.fs 22=some cf22
 f31:pg.fs 31=some cf31
 f37:pg.fs 37=some cf37
 f38:pg.fs 38=some cf38
 f49:pg.fs 49=some cf49
 f50:pg.fs 50=some cf50
 f54:pg.fs 54=some cf54
 f55:pg.fs 55=some cf55
 f77:pg.fs 77=some cf77
 f78:pg.fs 78=some cf78
 f79:pg.fs 79=some cf79
 f80:pg.fs 80=some cf80
 f81:pg.fs 81=some cf81
 f82:pg.fs 82=some cf82
 f83:pg.fs 83=some cf83
 f84:pg.fs 84=some cf84
 f85:pg.fs 85=some cf85
 f86:pg.fs 86=some cf86
 f87:pg.fs 87=some cf87
 f88:pg.fs 88=some cf88
 f90:pg.fs 90=some cf90
 f114:pg.fs 114=some cf114
 f115:pg.fs 115=some cf115
 f116:pg.fs 116=some cf116
 f117:pg.fs 117=some cf117
 f118:pg.fs 118=some cf118
 f119:pg.fs 119=some cf119
 f120:pg.fs 120=some cf120
 f121:pg.fs 121=some cf121
 f122:pg.fs 122=some cf122
 f123:pg.fs 123=some cf123
 f124:pg.fs 124=some cf124
 f125:pg.fs 125=some cf125
 f160:pg.fs 160=some cf160
 f161:pg.fs 161=some cf161
 f162:pg.fs 162=some cf162
 f163:pg.fs 163=some cf163
 f164:pg.fs 164=some cf164
 f191:pg.fs 191=some cf191
 f192:pg.fs 192=some cf192
 f193:pg.fs 193=some cf193
 f194:pg.fs 194=some cf194
section
variable{pg:Pg}
theorem VY(C:Go.Tev.Code pg)(D:Code3 pg)(k:aA)(hq:∀q∈k.list.es,q.body.ok/\q.index.ok/\k.vars.es.length+9+q.body.sz<=big/\k.vars.es.length+9+q.index.sz<=big) :
  Ret pg 31 [k.av] (.tup [.int .i64 (cB k).1,.int .i64 (cB k).2]):=by
 have h77:∀s:Str,Ret pg 77 [.str s.bs] (.bool (fJ s.bs)):=fun s=>c77 D.f77 D.f114 D.f115 s.bs s.ok
 have h54:∀l:Lin,Ret pg 54 [l.av] (.bool (d9 l)):=c54 D.f54 h77 D.f90
 have h80:∀(nl cl:Bool)(ls:List Lin),ls.length<=big->∀(nl' cl':Bool)(vars:List Str),vars.length<=big->Ret pg 80 [.sl nl (ls.map Lin.av) cl,.sl nl' (vars.map Str.av) cl'] (.bool (bZ ls vars)):=
  fun nl cl ls hb nl' cl' vars hb'=>c80 D.f80 h54 nl cl ls hb nl' cl' vars hb'
 have h79:=c79 D.f79 (c116 D.f116 D.f160) (c117 D.f117 h54 h77)
 have h49:=c49 D.f49 h77 D.f78 h79 h80
 have h121:=c121 D.f121 D.f162 D.f191
 have h118:=c118 D.f118 D.f161 D.f15 h121
 have h85:∀(nl cl nl' cl':Bool)(a b:List Lin),a.length<=big->b.length<=big->Ret pg 85 [.sl nl (a.map Lin.av) cl,.sl nl' (b.map Lin.av) cl'] (.bool (eqL bJ a b)):=fun nl cl nl' cl' a b ha hb=>c85 D.f85 h121 nl cl nl' cl' a b ha hb
 have h81:∀x y:aE,x.body.ok->x.index.ok->Ret pg 81 [x.av,y.av] (.bool (jQ x y)):=fun x y hx hi=>c81 D.f81 D.f85 h121 h118 D.f119 x y hx hi
 have h125:=c125 D.f125
 have h120:∀(op:List UInt8)(nl cl:Bool)(kids:List Bool),kids.length<=big->Ret pg 120 [.str op,.sl nl (kids.map AV.bool) cl] (.bool (eT op kids)):=fun op nl cl kids hb=>c120 D.f120 h125 op nl cl kids hb
 have h84:∀(nl cl:Bool)(code:List aI),code.length<=16777216->∀(nl' cl':Bool)(args:List Bool),args.length<=16777216->Ret pg 84 [.sl nl (code.map aI.av) cl,.sl nl' (args.map AV.bool) cl'] (.bool (cW code args)):=
  fun nl cl code hb nl' cl' args hb'=>c84 D.f84 h120 nl cl code hb nl' cl' args hb'
 have h83:∀(nl cl:Bool)(vals:List Typ)(p:aC),p.ok->Ret pg 83 [p.av,.sl nl (vals.map Typ.av) cl] (.bool (dQ vals p)):=fun nl cl vals p hp=>c83 D.f83 h84 h120 nl cl vals p hp
 have h87:∀(nl cl:Bool)(fn:List aI),fn.length<=big->∀n:Int,Ret pg 87 [.sl nl (fn.map aI.av) cl,.int .i64 n] (.bool (cM fn n)):=fun nl cl fn hb n=>c87 D.f87 D.f124 h125 nl cl fn hb n
 have h88:=c88 D.f88 h121
 have h192:=c192 D.f192 h125
 have h193:∀(nl cl:Bool)(ls:List Lin),ls.length<=big->∀(nl' cl':Bool)(vars:List Str),vars.length<=big->Ret pg 193 [.sl nl (ls.map Lin.av) cl,.sl nl' (vars.map Str.av) cl'] (.bool (bZ ls vars)):=
  fun nl cl ls hb nl' cl' vars hb'=>c193 D.f193 h54 D.f194 nl cl ls hb nl' cl' vars hb'
 have h164:=c164 D.f164 h192 h118 h193 D.f124 h77 D.f194 h87
 have h123:∀p:aC,p.ok->∀(nl cl:Bool)(vars:List Str),vars.length+p.sz<=big->∀v:Int,Ret pg 123 [p.av,.sl nl (vars.map Str.av) cl,.int .i64 v] (.bool (gB p vars v)):=
  fun p hp nl cl vars hb v=>c123 D.f123 C.f40 h164 p hp nl cl vars hb v
 have h86:∀(k:aA)(p:aC),p.ok->∀n:Nat,n<=9->k.vars.es.length+n+p.sz<=big->∀(nl cl:Bool)(there:List Bool),there.length=k.values.es.length->Ret pg 86 [p.av,k.av,.int .i64 n,.sl nl (there.map AV.bool) cl] (.bool (bO k p n there)):=
  fun k p hpo n hn hsz nl cl th hth=>c86 D.f86 (c122 D.f122 D.f163) h123 (c37 D.f37 D.f55) k p hpo n hn hsz nl cl th hth
 exact c31 D.f31 h49 (fun k hin hvals nl cl th hth q second hbo hio hbs his=>c50 D.f50 D.f82 h81 h83 h84 h85 h86 h87 h88 k hin hvals nl cl th hth q second hbo hio hbs his) k hq
theorem H9{q:aE}{N:Nat}(h:q.body.sz+q.index.sz+1<=N):(gI q).length<=N:=by
 have h1:=iC q.body
 have h2:=iC q.index
 have h4:=kU (aW q.index) (aW q.body)
 have h5:=xJ q.source (gQ (aW q.body) (aW q.index))
 simp only[gI]
 split
 ·split<;>omega
 ·omega
theorem VZ(C:Go.Tev.Code pg)(D:Code3 pg)(k:aA)(hk:KOK k):bL pg 10 [k.av] (fY k):=
 c10 D.f10 k (VY C D k hk.ks) (fun q hq=>c22 D.f22 (c37 D.f37 D.f55) D.f38 q (hk.ks q hq).1 (hk.ks q hq).2.1 (by have:=hk.sz q hq;omega)) (fun q hq=>H9 (by have:=hk.sz q hq;omega))
end
end Go.Tev
end
section
namespace Go.Tev
def oA(n:Int):List UInt8:=if n<0 then [] else 105::kH 20 n.toNat
def KD:Nat->Nat->List Nat
 |0,_=>[]
 |f+1,m=>if m=0 then [] else m::KD f (m / 10)
def I8(f m:Nat)(s:List UInt8):List UInt8:=if m=0 then s else kH f m++s
theorem tH:∀f u,(kH f u).length<=f
 |0,u=>by simp[kH]
 |f+1,u=>by
  have:=tH f (u / 10)
  simp only[kH]
  split<;>simp<;>omega
theorem AU{f m:Nat}(hm:m≠0)(s:List UInt8):I8 (f+1) m s=I8 f (m / 10) (UInt8.ofNat (48+m % 10)::s):=by
 simp only[I8,if_neg hm,kH]
 by_cases h:m<10
 ·have h1:m / 10=0:=by omega
  have h2:m % 10=m:=by omega
  rw[if_pos h,if_pos h1,h2];rfl
 ·have h1:¬m / 10=0:=by omega
  rw[if_neg h,if_neg h1];simp
section
variable{pg:Pg}
theorem VL(hf:pg.fs 163=some cf163)(n:Nat)(hn:n<=9223372036854775807):Ret pg 163 [.int .i64 n] (.str (kH 20 n)):=by
 refine Ret.ofX hf ?_
 have arith:∀m:Nat,m<=9223372036854775807->((m:Int).tmod 10)=((m % 10:Nat):Int)/\(m:Int).tdiv 10=((m / 10:Nat):Int)/\wr .i64 ((m / 10:Nat):Int)=((m / 10:Nat):Int)/\wr .i64 ((m % 10:Nat):Int)=((m % 10:Nat):Int) /\
   wr .i64 (48+((m % 10:Nat):Int))=((48+m % 10:Nat):Int)/\wr .u8 ((48+m % 10:Nat):Int)=((48+m % 10:Nat):Int):=by
  intro m hm
  refine⟨by rw[Int.tmod_eq_emod_of_nonneg (by omega)];omega,by rw[Int.tdiv_eq_ediv_of_nonneg (by omega)];omega,by rw[aR (by omega) (by omega)],by rw[aR (by omega) (by omega)],by rw[aR (by omega) (by omega)];omega,?_⟩
  simp only[wr];rw[if_pos (by omega)]
 obtain⟨h1,h2,h3,h3',h4,h5⟩:=arith n hn
 have h6:=fun h nl cl=>B9 h nl cl (48+n % 10) (by omega)
 have h7:((10:Int)=0)=False:=by simp
 have hD:kH 20 n=I8 19 (n / 10) [UInt8.ofNat (48+n % 10)]:=by
  by_cases h0:n=0
  ·subst h0;rfl
  ·have:=AU (f:=19) h0 []
   simpa[I8,h0] using this
 unfold cf163
 simp only[h1,h2,h3,h3',h4,h5,h7,↓h6,go_sem,seval]
 refine aG (KD 19 (n / 10)) (fun d r env hp=>∃(m f:Nat)(s:List UInt8),env=cf163E0 (.int .i64 m) (.str s)/\r=KD f m/\m<10 ^ f/\m<=9223372036854775807/\kH 20 n=I8 f m s/\s.length=d.length+1/\d.length+f=19) ?_ ?_ ?_
 ·exact⟨n / 10,19,_,rfl,rfl,by omega,by omega,hD,rfl,rfl⟩
 ·rintro env hp ⟨m,f,s,rfl,hr,hm,hm2,hI,_,_⟩
  have h0:m=0:=by
   cases f with
   |zero=>simpa using hm
   |succ f=>
    simp only[KD]at hr
    split at hr
    ·assumption
    ·cases hr
  subst h0
  have e1:decide ((((0:Nat):Int))>0)=false:=by decide
  simp only[cf163L0,cf163E0,e1,go_sem,seval]
  rw[hI];rfl
 ·rintro d x r env hp hes ⟨m,f,s,rfl,hr,hm,hm2,hI,hs,hdf⟩
  cases f with
  |zero=>cases hr
  |succ f=>
  simp only[KD]at hr
  split at hr
  ·cases hr
  rename_i h0
  simp only[List.cons.injEq]at hr
  obtain⟨rfl,hr⟩:=hr
  obtain⟨a1,a2,a3,a3',a4,a5⟩:=arith x hm2
  have a6:=fun h nl cl=>B9 h nl cl (48+x % 10) (by omega)
  have e1:decide (0<(x:Int))=true:=by simp;omega
  have e2:(1+s.length<=9223372036854775807)=True:=eq_true (by omega)
  simp only[cf163L0,cf163E0,e1,a1,a2,a3,a3',a4,a5,h7,↓a6,e2,go_sem,seval]
  refine⟨x / 10,f,_,rfl,hr,by rw[Nat.pow_succ]at hm;omega,by omega,by rw[hI,AU h0],by simp[hs],by simp;omega⟩
theorem VQ(hf:pg.fs 122=some cf122)(h163:pg.fs 163=some cf163)(n:Int)(hn:n<=9223372036854775807):Ret pg 122 [.int .i64 n] (.str (oA n)):=by
 refine Ret.ofX hf ?_
 unfold cf122
 by_cases h:n<0
 ·have h1:decide (n<0)=true:=decide_eq_true h
  simp only[h1,go_sem,seval]
  rw[oA,if_pos h]
 ·have h1:decide (n<0)=false:=decide_eq_false h
  have a:=VL h163 n.toNat (by omega)
  rw[Int.toNat_of_nonneg (by omega)]at a
  have hl:=tH 20 n.toNat
  have e2:(1+(kH 20 n.toNat).length<=9223372036854775807)=True:=eq_true (by omega)
  simp only[h1,go_sem,seval]
  refine aB a (by simp only[go_sem,seval]) rfl ?_
  simp only[e2,go_sem,seval]
  rw[oA,if_neg h]
theorem VT(A:Ora pg)(hf:pg.fs 108=some cf108)(n:Int)(hn:n<=9223372036854775807):Ret pg 108 [.int .i64 n] (.str (oA n)):=by
 refine Ret.ofX hf ?_
 unfold cf108
 by_cases h:n<0
 ·have h1:decide (n<0)=true:=decide_eq_true h
  simp only[h1,go_sem,seval]
  rw[oA,if_pos h]
 ·have h1:decide (n<0)=false:=decide_eq_false h
  have a:Ret pg 93 [.int .i64 n] (.str (kH 20 n.toNat)):=by
   refine tU A.f93 A.itoa ?_ rfl
   simp only[qI]
   rw[if_pos (by omega)]
  have hl:=tH 20 n.toNat
  have e2:(1+(kH 20 n.toNat).length<=9223372036854775807)=True:=eq_true (by omega)
  simp only[h1,go_sem,seval]
  refine aB a (by simp only[go_sem,seval]) rfl ?_
  simp only[e2,go_sem,seval]
  rw[oA,if_neg h]
end
end Go.Tev
end
section
namespace Go.Tev
def Asc(l:List Int):Prop:=l.Pairwise (· < ·)
theorem HJ(x:Int):∀l:List Int,Asc l->Asc (fK x l)
 |[],_=>by simp[fK,Asc]
 |y::r,h=>by
  obtain⟨h1,h2⟩:=List.pairwise_cons.1 h
  simp only[fK]
  by_cases h3:y<x
  ·simp only[h3,decide_true,if_true]
   refine List.pairwise_cons.2 ⟨fun z hz=>?_,HJ x r h2⟩
   rcases (sW r).1 hz with rfl|hz
   ·exact h3
   ·exact h1 z hz
  ·simp only[h3,decide_false,Bool.false_eq_true,if_false]
   by_cases h4:y=x
   ·simp only[h4,decide_true,if_true]
    exact h4 ▸ h
   ·simp only[h4,decide_false,Bool.false_eq_true,if_false]
    refine List.pairwise_cons.2 ⟨fun z hz=>?_,h⟩
    rcases List.mem_cons.1 hz with rfl|hz
    ·omega
    ·have:=h1 z hz
     omega
theorem EH:∀(l acc:List Int),Asc acc->Asc (gQ acc l)
 |[],acc,h=>h
 |x::r,acc,h=>by
  simp only[gQ,List.foldl_cons]
  exact EH r _ (HJ x acc h)
theorem yN:∀(l:List aC)(acc:List Int),Asc acc->Asc (cO acc l)
 |[],acc,h=>h
 |p::r,acc,h=>by
  rw[cO]
  exact yN r _ (EH _ _ h)
theorem JK(p:aC):Asc (aW p):=by
 rw[tY]
 refine yN _ _ ?_
 split
 ·simp[fK,Asc]
 ·simp[Asc]
theorem EI:∀l:List Int,l.Pairwise (· <= ·)->Asc (dU l)
 |[],_=>by simp[dU,Asc]
 |[x],_=>by simp[dU,Asc]
 |x::y::r,h=>by
  obtain⟨h1,h2⟩:=List.pairwise_cons.1 h
  have ih:=EI (y::r) h2
  simp only[dU]
  split
  ·exact ih
  ·rename_i hne
   refine List.pairwise_cons.2 ⟨fun z hz=>?_,ih⟩
   have hz2:=(kZ z (y::r)).1 hz
   have h3:=h1 y (by simp)
   rcases List.mem_cons.1 hz2 with rfl|hz3
   ·omega
   ·have:=(List.pairwise_cons.1 h2).1 z hz3
    omega
theorem MZ:∀(a b:List Int),Asc a->Asc b->(∀x,x∈a↔x∈b)->a=b
 |[],[],_,_,_=>rfl
 |[],y::s,_,_,h=>by have:=(h y).2 (by simp);simp at this
 |x::r,[],_,_,h=>by have:=(h x).1 (by simp);simp at this
 |x::r,y::s,ha,hb,h=>by
  obtain⟨a1,a2⟩:=List.pairwise_cons.1 ha
  obtain⟨b1,b2⟩:=List.pairwise_cons.1 hb
  have hxy:x=y:=by
   have p1:=(h x).1 (by simp)
   have p2:=(h y).2 (by simp)
   rcases List.mem_cons.1 p1 with e|q1
   ·exact e
   ·rcases List.mem_cons.1 p2 with e|q2
    ·exact e.symm
    ·have:=b1 x q1
     have:=a1 y q2
     omega
  subst hxy
  congr 1
  refine MZ r s a2 b2 fun z=>⟨fun hz=>?_,fun hz=>?_⟩
  ·rcases List.mem_cons.1 ((h z).1 (List.mem_cons_of_mem _ hz)) with e|q
   ·have:=a1 z hz;omega
   ·exact q
  ·rcases List.mem_cons.1 ((h z).2 (List.mem_cons_of_mem _ hz)) with e|q
   ·have:=b1 z hz;omega
   ·exact q
theorem J8(p:aC):bK p=aW p:=by
 refine MZ _ _ (EI _ (oL _)) (JK p) fun x=>?_
 rw[bK,kZ,l8,iD]
end Go.Tev
end
section
namespace Go.Tev
def mM(i:Nat)(l:Lin):Bool:=decide (l.c=0)&&match l.ts.es with
 |[t]=>decide (t.v.bs=oA i)&&decide (t.c=1)
 |_=>false
def kW:Nat->List Lin->Bool
 |_,[]=>true
 |i,l::r=>mM i l&&kW (i+1) r
def nX(p:aC)(rank:Int):Bool := !p.dyn&&(decide ((p.at_.es.length:Int)=rank)&&kW 0 p.at_.es)
def pH(v rank:Int)(p:aC):Bool := !(decide (p.op.bs=[114,101,97,100])&&(decide (p.value=v) && !nX p rank))
mutual
def rV(v rank:Int):aC->Bool
 |.mk op num value name at_ dyn check fn knl kids kcl=>pH v rank (.mk op num value name at_ dyn check fn knl kids kcl)&&zY v rank kids
def zY(v rank:Int):List aC->Bool
 |[]=>true
 |p::r=>rV v rank p&&zY v rank r
end
theorem G0(v rank:Int)(p:aC):rV v rank p=(pH v rank p&&zY v rank p.kids):=by cases p;rw[rV];rfl
theorem uA(v rank:Int):∀l:List aC,zY v rank l=l.all (rV v rank)
 |[]=>by simp[zY]
 |p::r=>by simp[zY,uA v rank r]
def w6(k:aA)(v:Int):Sp:=((aF k)[v.toNat]?).getD (-2,-1)
def OC(k:aA)(at_ v:Int)(q:aE)(a b:Typ):Bool:=
 (!decide (v=q.value)&&(decide ((w6 k q.value).1=at_)&&(!decide ((w6 k v).1 = -2)&&decide ((w6 k v).2=at_))))&&(gG a b &&
  if q.kind=3 then decide (v=q.source)&&(!(bK q.body).contains v && !(bK q.index).contains v) else rV v b.shape.dims.es.length q.body)
def qY(k:aA)(at_ v:Int):Bool:=
 match k.list.es[at_.toNat]?,k.values.es[v.toNat]? with
 |some q,some a=>match k.values.es[q.value.toNat]? with
  |some b=>decide (0<=at_)&&decide (0<=v)&&OC k at_ v q a b
  |none=>false
 |_,_=>false
def FS(f:Nat->Bool):Nat->Nat->Int
 |_,0 => -1
 |i,n+1=>if f i then i else FS f (i+1) n
def yK(k:aA):List Int:=(List.range k.list.es.length).map fun(i:Nat)=>FS (fun v=>qY k (i:Int) (v:Int)) 0 k.values.es.length
end Go.Tev
end
section
namespace Go.Tev
section
variable{pg:Pg}
theorem c292(hf:pg.fs 292=some cf292)(nl cl:Bool)(es:List aC)(hb:es.length<=big)(g:Nat)(cs:List AV)(hcs:treeL cs=true)(p:aC->Bool)(hp:∀x∈es,Ret pg g (x.av::cs) (.bool (p x))) :
  bL pg 292 [.sl nl (es.map aC.av) cl,.fn g cs] (fun r=>∃i:Int,r = .int .i64 i/\decide (0<=i)=es.any p):=
 s8 (f:=292) (esz:=9) (ag:=true) hf aC.av aC.fits_av aC.tree_av nl cl es hb g cs hcs p hp
theorem c273(hf:pg.fs 273=some cf273)(h292:pg.fs 292=some cf292)(nl cl:Bool)(es:List aC)(hb:es.length<=big)(g:Nat)(cs:List AV)(hcs:treeL cs=true)(p:aC->Bool)(hp:∀x∈es,Ret pg g (x.av::cs) (.bool (p x))) :
  Ret pg 273 [.sl nl (es.map aC.av) cl,.fn g cs] (.bool (es.any p)):=
 nI (n:=292) hf (by simp only[treeL,mW,qM,hcs,aC.treeL_av,Bool.and_true]) (c292 h292 nl cl es hb g cs hcs p hp)
theorem c274(hf:pg.fs 274=some cf274)(p:aC)(v rank:Int)(b:Bool)(h:Ret pg 260 [p.av,.int .i64 v,.int .i64 rank] (.bool b)):Ret pg 274 [p.av,.fp (.int .i64 v),.fp (.int .i64 rank)] (.bool (!b)):=by
 rw[aC.avc]at h
 refine Ret.ofX hf ?_
 unfold cf274
 simp only[go_sem,seval]
 refine aB h (by simp only[go_sem,seval]) rfl ?_
 simp only[go_sem,seval]
theorem c272(A:Ora pg)(hf:pg.fs 272=some cf272)(h108:pg.fs 108=some cf108)(p:aC)(rank:Int):Ret pg 272 [p.av,.int .i64 rank] (.bool (nX p rank)):=by
 refine Ret.ofX hf ?_
 unfold cf272
 have hb:=p.at_.ok
 cases b1:p.dyn
 case true=>
  simp only[b1,go_sem,seval]
  simp[nX,b1]
 cases b2:decide ((p.at_.es.length:Int)=rank)
 case false=>
  simp only[b1,b2,go_sem,seval]
  simp[nX,b1,b2]
 simp only[b1,b2,go_sem,seval]
 refine aG p.at_.es (fun d r env hp=>env=cf272E0 (.sl p.at_.nl (p.at_.es.map Lin.av) p.at_.cl) (.int .i64 p.at_.es.length) (.int .i64 d.length)/\kW 0 p.at_.es=kW d.length r) ?_ ?_ ?_
 ·exact⟨rfl,rfl⟩
 ·rintro env hp ⟨rfl,hI⟩
  simp only[cf272L0,cf272E0,go_sem,seval]
  simp[nX,b1,b2,hI,kW]
 ·rintro d x r env hp hes ⟨rfl,hI⟩
  have hb2:(d++x::r).length<=big:=by rw[<-hes];exact hb
  have hw:=aM hb2
  have hget:p.at_.es[d.length]?=some x:=by rw[hes];simp
  have e1:decide ((d.length:Int)<(p.at_.es.length:Int))=true:=by rw[hes];simp;omega
  have hown:nX p rank=(mM d.length x&&kW (d.length+1) r):=by simp[nX,b1,b2,hI,kW]
  rw[hown]
  have hlen:d.length<=9223372036854775807:=by simp only[big]at hb2;simp at hb2;omega
  have h8:=VT A h108 (d.length:Int) (by omega)
  clear hown hes hb hb2
  cases b3:decide (x.c=0)
  case false=>
   simp only[cf272L0,cf272E0,e1,hget,b3,go_sem,seval]
   refine And.intro (by kernel_rfl) ?_
   simp[mM,b3]
  by_cases hl:x.ts.es.length=1
  case neg=>
   have b4:decide ((x.ts.es.length:Int)=1)=false:=by simp;omega
   have hil:mM d.length x=false:=by
    simp only[mM,b3,Bool.true_and]
    rcases h:x.ts.es with _|⟨t,_|⟨u,s⟩⟩
    ·rfl
    ·rw[h]at hl;simp at hl
    ·rfl
   simp only[cf272L0,cf272E0,e1,hget,b3,b4,go_sem,seval]
   refine And.intro (by kernel_rfl) ?_
   simp[hil]
  obtain⟨t,ht⟩:∃t,x.ts.es=[t]:=by
   rcases h:x.ts.es with _|⟨t,_|⟨u,s⟩⟩
   ·rw[h]at hl;simp at hl
   ·exact⟨t,rfl⟩
   ·rw[h]at hl;simp at hl
  have b4:decide ((x.ts.es.length:Int)=1)=true:=by simp;omega
  have hg0:x.ts.es[0]?=some t:=by rw[ht];rfl
  have hil:mM d.length x=(decide (t.v.bs=oA d.length)&&decide (t.c=1)):=by simp only[mM,b3,Bool.true_and,ht]
  rw[hil]
  clear ht hl
  simp only[cf272L0,cf272E0,e1,hget,b3,b4,hg0,go_sem,seval]
  refine aB h8 (by simp only[go_sem,seval]) rfl ?_
  simp only[bR.avc,go_sem,seval]
  refine And.intro (by kernel_rfl) ?_
  cases b5:decide (t.v.bs=oA d.length)<;>cases b6:decide (t.c=1)
  all_goals (simp only[b5,b6,hw,go_sem,seval])
  exact⟨rfl,by rw[hI,kW,hil,b5,b6];simp⟩
end
end Go.Tev
end
section
namespace Go.Tev
section
variable{pg:Pg}
theorem c260(A:Ora pg)(hf:pg.fs 260=some cf260)(h272:pg.fs 272=some cf272)(h273:pg.fs 273=some cf273)(h274:pg.fs 274=some cf274)(h292:pg.fs 292=some cf292)(h108:pg.fs 108=some cf108)(v rank:Int) :
  ∀p:aC,p.ok->Ret pg 260 [p.av,.int .i64 v,.int .i64 rank] (.bool (rV v rank p)):=by
 refine aC.ind' fun p ih hp=>?_
 obtain⟨hk,hks⟩:=(aC.ok_iff p).1 hp
 have a1:=c272 A h272 h108 p rank
 have a2:=c273 h273 h292 p.knl p.kcl p.kids hk 274 [.fp (.int .i64 v),.fp (.int .i64 rank)] rfl (fun q => !rV v rank q) (fun q hq=>c274 h274 q v rank _ (ih q hq (hks q hq)))
 rw[aC.avc]at a1
 have hall:(p.kids.any fun q => !rV v rank q) = !p.kids.all (rV v rank):=by
  rw[Bool.eq_iff_iff];simp
 rw[hall]at a2
 rw[G0,uA]
 refine Ret.ofX hf ?_
 unfold cf260
 clear ih hks hp hk hall
 cases b1:decide (p.op.bs=[114,101,97,100])
 case false=>
  have ho:pH v rank p=true:=by simp[pH,b1]
  rw[ho]
  simp only[b1,go_sem,seval]
  refine bT (a2) (by simp only[ Nat.zero_add,depth,cD,bA,eI,go_sem,seval];rfl) (by first|rfl|simp only[fG]) ?_
  simp only[Bool.not_not,go_sem,seval]
 cases b2:decide (p.value=v)
 case false=>
  have ho:pH v rank p=true:=by simp[pH,b2]
  rw[ho]
  simp only[b1,b2,go_sem,seval]
  refine bT (a2) (by simp only[ Nat.zero_add,depth,cD,bA,eI,go_sem,seval];rfl) (by first|rfl|simp only[fG]) ?_
  simp only[Bool.not_not,go_sem,seval]
 have ho:pH v rank p=nX p rank:=by simp[pH,b1,b2]
 rw[ho]
 simp only[b1,b2,go_sem,seval]
 refine aB a1 (by simp only[go_sem,seval]) rfl ?_
 cases b3:nX p rank
 case false=>
  simp only[go_sem,seval]
 simp only[go_sem,seval]
 refine bT (a2) (by simp only[ Nat.zero_add,depth,cD,bA,eI,go_sem,seval];rfl) (by first|rfl|simp only[fG]) ?_
 simp only[Bool.not_not,go_sem,seval]
def K4(n:Nat):Lin:=⟨0,⟨false,[⟨⟨oA n,by have:=tH 20 n;simp only[oA];split<;>simp[big];omega⟩,1⟩],true,by simp[big]⟩⟩
theorem FG(n:Nat)(l:Lin):bJ l (K4 n)=mM n l:=by
 simp only[bJ,K4,mM]
 congr 1
 rcases l.ts.es with _|⟨t,_|⟨u,s⟩⟩
 ·rfl
 ·simp[eqL,gP]
 ·simp[eqL]
theorem c261(hf:pg.fs 261=some cf261)(h122:∀n:Int,n<=9223372036854775807->Ret pg 122 [.int .i64 n] (.str (oA n)))(h162:∀a b:Lin,Ret pg 162 [a.av,b.av] (.bool (bJ a b)))(v rank:Int) :
  ∀p:aC,p.ok->Ret pg 261 [p.av,.int .i64 v,.int .i64 rank] (.bool (rV v rank p)):=by
 refine aC.ind' fun p ih hp=>?_
 obtain⟨hk,hks⟩:=(aC.ok_iff p).1 hp
 rw[G0,uA]
 refine Ret.ofX hf ?_
 unfold cf261
 have hb:=p.at_.ok
 cases b1:decide (p.op.bs=[114,101,97,100])
 case' false=>
  have ho:pH v rank p=true:=by simp[pH,b1]
  simp only[b1,go_sem,seval]
 case' true=>
  cases b2:decide (p.value=v)
  case' false=>
   have ho:pH v rank p=true:=by simp[pH,b2]
   simp only[b1,b2,go_sem,seval]
  case' true=>
   have ho':pH v rank p=nX p rank:=by simp[pH,b1,b2]
   cases b3:p.dyn
   case true=>
    have:pH v rank p=false:=by simp[ho',nX,b3]
    rw[this]
    simp only[b1,b2,b3,go_sem,seval]
   cases b4:decide ((p.at_.es.length:Int)=rank)
   case false=>
    have:pH v rank p=false:=by simp[ho',nX,b4]
    rw[this]
    simp only[b1,b2,b3,b4,go_sem,seval]
   have ho2:pH v rank p=kW 0 p.at_.es:=by simp[ho',nX,b3,b4]
   have hr:rank=(p.at_.es.length:Int):=by
    have:(p.at_.es.length:Int)=rank:=by simpa using b4
    exact this.symm
   simp only[b1,b2,b3,b4,go_sem,seval]
   refine aG p.at_.es (fun d r env hp=>env=cf261E0 (.int .i64 v) (.int .i64 rank) (.pt 1 0 0) (.int .i64 d.length)/\hp.get 1=some (0,.blk p.cells 9 true true false)/\kW 0 p.at_.es=kW d.length r) ?_ ?_ ?_
   ·exact⟨rfl,by simp only[go_sem,seval];simp only[aC.cells,Sl.av,aC.kav,b3],rfl⟩
   rotate_left
   ·rintro d x r env hp hes ⟨rfl,g1,hI⟩
    have g1':=g1
    simp only[aC.cells,Sl.av,aC.kav]at g1
    have hb2:(d++x::r).length<=big:=by rw[<-hes];exact hb
    have hw:=aM hb2
    have hget:p.at_.es[d.length]?=some x:=by rw[hes];simp
    have e1:decide ((d.length:Int)<rank)=true:=by rw[hr,hes];simp;omega
    have hlen:d.length<=9223372036854775807:=by simp only[big]at hb2;simp at hb2;omega
    have a1:=h122 (d.length:Int) (by omega)
    have a2:Ret pg 162 [x.av,.agg [.int .i64 0,.sl false [.agg [.str (oA d.length),.int .i64 1]] true]] (.bool (mM d.length x)):=by
     rw[<-FG]
     exact h162 x (K4 d.length)
    rw[ho2,hI]
    simp only[cf261L0,cf261E0,e1,g1,hget,go_sem,seval]
    refine aB a1 (by simp only[go_sem,seval]) rfl ?_
    simp only[go_sem,seval]
    refine aB a2 (by simp only[go_sem,seval]) rfl ?_
    cases b5:mM d.length x
    ·simp only[go_sem,seval]
     refine And.intro (by kernel_rfl) ?_
     simp[kW,b5]
    ·simp only[hw,go_sem,seval]
     refine And.intro (by kernel_rfl) ?_
     exact⟨rfl,g1',by simp[kW,b5]⟩
   rintro env hp ⟨rfl,g1,hI⟩
   have ho:pH v rank p=true:=by rw[ho2,hI];rfl
   have e1:decide ((p.at_.es.length:Int)<rank)=false:=by rw[hr];simp
   simp only[cf261L0,cf261E0,e1,go_sem,seval]
 all_goals (rw[ho,Bool.true_and])
 all_goals (refine aG p.kids (fun d r env hp=>env=cf261E1 (.int .i64 v) (.int .i64 rank) (.pt 1 0 0) (.int .i64 d.length)/\hp.get 1=some (0,.blk p.cells 9 true true false)/\p.kids.all (rV v rank)=r.all (rV v rank)) ?_ ?_ ?_)
 all_goals (first|exact⟨rfl,g1,rfl⟩|exact⟨rfl,by simp only[go_sem,seval];rfl,rfl⟩|skip)
 case false.refine_2|true.false.refine_2|true.true.refine_2=>
  rintro env hp ⟨rfl,g1,hI⟩
  simp only[aC.cells,Sl.av,aC.kav]at g1
  simp only[cf261L1,cf261E1,g1,go_sem,seval]
  rw[hI];rfl
 all_goals
  rintro d x r env hp hes ⟨rfl,g1,hI⟩
  have g1':=g1
  simp only[aC.cells,Sl.av,aC.kav]at g1
  have hx:=ih x (by rw[hes];simp) (hks x (by rw[hes];simp))
  have hb2:(d++x::r).length<=big:=by rw[<-hes];exact hk
  have hw:=aM hb2
  have hget:p.kids[d.length]?=some x:=by rw[hes];simp
  have e1:decide ((d.length:Int)<(p.kids.length:Int))=true:=by rw[hes];simp;omega
  simp only[cf261L1,cf261E1,e1,g1,hget,go_sem,seval]
  refine aB hx (by simp only[go_sem,seval]) rfl ?_
  cases b5:rV v rank x
  ·simp only[go_sem,seval]
   simp[hI,b5]
  ·simp only[hw,go_sem,seval]
   exact⟨rfl,g1',by simp[hI,b5]⟩
theorem c294(hf:pg.fs 294=some cf294)(h37:∀p:aC,p.ok->p.sz<=big->bL pg 37 [p.av] (lO 1 false ((aW p).map aH)))(p:aC)(hp:p.ok)(hsz:p.sz<=big)(v:Int) :
  Ret pg 294 [p.av,.int .i64 v] (.bool ((bK p).contains v)):=by
 have a1:=h37 p hp hsz
 have hlen:=jO p
 rw[<-J8]at a1
 rw[aC.avc]at a1
 refine Ret.ofX hf ?_
 unfold cf294
 simp only[go_sem,seval]
 refine j3 a1 (by simp only[go_sem,seval]) ?_
 intro nl cl _
 simp only[go_sem,seval]
 refine aG (bK p) (fun d r env hp=>env=cf294E0 (.int .i64 v) (.sl nl ((bK p).map aH) cl) (.int .i64 d.length)/\(bK p).contains v=r.contains v) ?_ ?_ ?_
 ·exact⟨rfl,rfl⟩
 ·rintro env hp ⟨rfl,hI⟩
  simp only[cf294L0,cf294E0,go_sem,seval]
  rw[hI];rfl
 ·rintro d x r env hp hes ⟨rfl,hI⟩
  have hb2:(d++x::r).length<=big:=by rw[<-hes];omega
  have hw:=aM hb2
  have hget:(bK p)[d.length]?=some x:=by rw[hes];simp
  have e1:decide ((d.length:Int)<((bK p).length:Int))=true:=by rw[hes];simp;omega
  rw[hI]
  cases b1:decide (x=v)
  ·have:v≠x:=by intro h;simp[h]at b1
   simp only[cf294L0,cf294E0,e1,hget,b1,hw,go_sem,seval]
   exact⟨rfl,by simp[this]⟩
  ·have:v=x:=by simp at b1;omega
   simp only[cf294L0,cf294E0,e1,hget,b1,go_sem,seval]
   simp[this]
theorem c316(hf:pg.fs 316=some cf316)(nl cl:Bool)(es:List Int)(hb:es.length<=big)(v:Int) :
  bL pg 316 [.sl nl (es.map aH) cl,.int .i64 v] (fun r=>∃i:Int,r = .int .i64 i/\decide (0<=i)=es.any (fun y=>decide (v=y))):=
 BS (f:=316) (k:=.bin .eql) hf aH (fun _=>rfl) nl cl es hb (.int .i64 v) (fun y=>decide (v=y)) (by intro kb s h x Q t;simp only[go_sem,seval])
theorem c293(hf:pg.fs 293=some cf293)(h316:pg.fs 316=some cf316)(nl cl:Bool)(es:List Int)(hb:es.length<=big)(v:Int) :
  Ret pg 293 [.sl nl (es.map aH) cl,.int .i64 v] (.bool (es.contains v)):=by
 have e:∀l:List Int,l.contains v=l.any fun y=>decide (v=y):=by
  intro l
  induction l with
  |nil=>rfl
  |cons x r ih=>simp only[List.contains_cons,List.any_cons];rw[ih];rfl
 rw[e]
 exact nI (n:=316) hf (by simp only[go_sem,seval]) (c316 h316 nl cl es hb v)
end
end Go.Tev
end
section
namespace Go.Tev
def eP(f:Typ->Int):List Sp->List Typ->List Int
 |s::r,t::q=>(if s.1 = -2 then 0 else f t)::eP f r q
 |_,_=>[]
theorem JX{h:Hp}{k e:Nat}{l:List Int}{t:Bool}(hg:h.get k=some (e,.blk (l.map aH) 1 false t false))(d:Nat):Tev.snap (d+2) h (.rf k e 0 l.length l.length)=some (.sl false (l.map aH) t,[k]):=by
 obtain⟨cs',h1,h2,h3,h4⟩:=cK (El.ints l)
 rw[fM]at h1
 cases h1
 have h5:=h4 []
 rw[List.append_nil,List.length_map]at h5
 have h6:cE (Tev.snap (d+1) h) (l.map aH)=some (l.map aH,[]):=d6 d h (mN l)
 rw[eI]
 simp[hg,h5,h6,AV.tree]
theorem kS(f:Typ->Int):∀(d:List Sp)(vs:List Typ),d.length<=vs.length->(eP f d vs).length=d.length
 |[],_,_=>by simp[eP]
 |s::r,t::q,h=>by simp[eP,kS f r q (by simpa using h)]
 |s::r,[],h=>by simp at h
theorem m9(f:Typ->Int)(s:Sp):∀(d:List Sp)(vs:List Typ)(t:Typ),vs[d.length]?=some t->eP f (d++[s]) vs=eP f d vs++[if s.1 = -2 then 0 else f t]
 |[],[],_,h=>by simp at h
 |[],t' :: q,t,h=>by simp at h;subst h;simp[eP]
 |s' :: r,t' :: q,t,h=>by
  have:=m9 f s r q t (by simpa using h)
  simp[eP,this]
 |_::_,[],_,h=>by simp at h
def pX(f:Typ->Int)(d:List Sp)(vs:List Typ):List Int:=eP f d vs++List.replicate (vs.length-d.length) 0
theorem KK(f:Typ->Int)(d:List Sp)(vs:List Typ)(h:d.length<=vs.length):(pX f d vs).length=vs.length:=by
 simp only[pX,List.length_append,List.length_replicate,kS f d vs h];omega
theorem IH(f:Typ->Int)(s:Sp)(d:List Sp)(vs:List Typ)(t:Typ)(ht:vs[d.length]?=some t)(hs:s.1 = -2):pX f (d++[s]) vs=pX f d vs:=by
 have hl:=(List.getElem?_eq_some_iff.1 ht).1
 obtain⟨m,hm⟩:∃m,vs.length-d.length=m+1:=⟨vs.length-d.length-1,by omega⟩
 have hm2:vs.length-(d++[s]).length=m:=by simp;omega
 simp only[pX,m9 f s d vs t ht,hm,hm2,if_pos hs,List.append_assoc,List.replicate_succ,List.singleton_append]
theorem KJ(f:Typ->Int)(s:Sp)(d:List Sp)(vs:List Typ)(t:Typ)(ht:vs[d.length]?=some t)(hs:¬s.1 = -2) :
  (pX f (d++[s]) vs).map aH=List.take d.length ((pX f d vs).map aH)++[.int .i64 (f t)]++List.drop (d.length+1) ((pX f d vs).map aH):=by
 have hl:=(List.getElem?_eq_some_iff.1 ht).1
 obtain⟨m,hm⟩:∃m,vs.length-d.length=m+1:=⟨vs.length-d.length-1,by omega⟩
 have hm2:vs.length-(d++[s]).length=m:=by simp;omega
 have hA:=kS f d vs (by omega)
 simp only[pX,m9 f s d vs t ht,hm,hm2,if_neg hs,List.replicate_succ,List.map_append,List.map_cons,List.map_nil]
 rw[List.take_append_of_le_length (by simp[hA]),List.drop_append,List.take_of_length_le (by simp[hA]),List.drop_of_length_le (by simp[hA])]
 simp[hA,aH]
section
variable{pg:Pg}
end
end Go.Tev
end
section
namespace Go.Tev
structure TG(ins:Nat)(m:Nat)(n:Nat)(s:Sp):Prop where
 inp:n<ins->s.1 = -1 /\ -1<=s.2
 own:ins<=n->s.1 = -2\/(0<=s.1/\s.1<(m:Int))
 lo : -2<=s.2
 hi:s.2<(m:Int)
theorem F5{ins V:Nat}:∀(d:List aE)(n:Nat)(s:Sp),(gH (cQ V ins) 0 d)[n]?=some s->TG ins d.length n s:=by
 intro d
 induction hn:d.length generalizing d with
 |zero=>
  obtain rfl:=List.length_eq_zero_iff.1 hn
  intro n s h
  rw[gH]at h
  rcases EY V ins n s h with ⟨h1,rfl⟩|⟨h1,rfl⟩
  ·exact⟨fun _=>by simp,fun h=>by omega,by simp,by simp⟩
  ·exact⟨fun h=>by omega,fun _ => .inl rfl,by simp,by simp⟩
 |succ m ih=>
  obtain⟨d',q,rfl⟩:∃d' q,d=d'++[q]:=by
   rcases List.eq_nil_or_concat d with h|⟨d',q,h⟩
   ·subst h;simp at hn
   ·exact⟨d',q,by simpa using h⟩
  have hl:d'.length=m:=by simpa using hn
  intro n s h
  rw[rK,Nat.zero_add]at h
  have hlt:n<(gH (cQ V ins) 0 d').length:=by
   have:=(List.getElem?_eq_some_iff.1 h).1
   rwa [w7]at this
  obtain⟨s',h1,h2,h3,h4⟩:=EW (gH (cQ V ins) 0 d') d'.length q n _ (List.getElem?_eq_getElem hlt)
  rw[h]at h1
  cases h1
  have I:=ih d' hl n _ (List.getElem?_eq_getElem hlt)
  generalize (gH (cQ V ins) 0 d')[n]=s0 at *
  rw[hl]at h2 h3
  have hs2:s.2=(m:Int)\/s.2=s0.2:=by
   by_cases hu:uses q n
   ·exact .inl (h3 hu)
   ·exact .inr (h4 hu)
  obtain⟨i1,i2,i3,i4⟩:=I
  refine⟨fun h=>?_,fun h=>?_,?_,?_⟩
  ·obtain⟨a,b⟩:=i1 h
   rw[if_neg (by rintro⟨_,c⟩;omega)]at h2
   exact⟨by omega,by rcases hs2 with e|e<;>omega⟩
  ·have:=i2 h
   split at h2<;>omega
  ·rcases hs2 with e|e<;>omega
  ·rcases hs2 with e|e<;>omega
structure V6(k:aA)(n:Nat)(s:Sp):Prop where
 fst:s.1 = -2\/(-1<=s.1/\s.1<(k.list.es.length:Int)+1)
 snd : -2<=s.2/\s.2<=(k.list.es.length:Int)
 inp:(s.1 ≠ -2/\s.1 <= -1 /\ -1<=s.2)↔(n:Int)<k.inputs
 res:s.2=(k.list.es.length:Int)↔n∈k.results.es.map Int.toNat
theorem TK{k:aA}(h0:0<=k.inputs){n:Nat}{s:Sp}(h:(aF k)[n]?=some s):V6 k n s:=by
 rw[EU,Option.map_eq_some_iff]at h
 obtain⟨s0,h1,h2⟩:=h
 have I:=F5 k.list.es n s0 h1
 obtain⟨i1,i2,i3,i4⟩:=I
 have hfst:s.1=s0.1:=by rw[<-h2];split<;>rfl
 have hsnd:(n∈k.results.es.map Int.toNat/\s.2=(k.list.es.length:Int))\/(n ∉ k.results.es.map Int.toNat/\s.2=s0.2):=by
  rw[<-h2]
  split
  ·rename_i hh;exact .inl ⟨hh,rfl⟩
  ·rename_i hh;exact .inr ⟨hh,rfl⟩
 refine⟨?_,?_,?_,?_⟩
 ·rcases Nat.lt_or_ge n k.inputs.toNat with c|c
  ·have:=i1 c;omega
  ·have:=i2 c;omega
 ·rcases hsnd with ⟨_,e⟩|⟨_,e⟩<;>omega
 ·constructor
  ·rintro⟨a,b,c⟩
   rcases Nat.lt_or_ge n k.inputs.toNat with d|d
   ·omega
   ·have:=i2 d;omega
  ·intro hn
   have:=i1 (by omega)
   rcases hsnd with ⟨_,e⟩|⟨_,e⟩<;>omega
 ·rcases hsnd with ⟨a,e⟩|⟨a,e⟩
  ·exact⟨fun _=>a,fun _=>e⟩
  ·exact⟨fun h=>by omega,fun h=>absurd h a⟩
end Go.Tev
end
section
namespace Go.Tev
theorem G5{k:aA}{at_ v:Nat}{q:aE}{a b:Typ}(hq:k.list.es[at_]?=some q)(ha:k.values.es[v]?=some a)(hb:k.values.es[q.value.toNat]?=some b):qY k at_ v=OC k at_ v q a b:=by
 have h1:decide (0<=(at_:Int))=true:=by simp
 have h2:decide (0<=(v:Int))=true:=by simp
 simp only[qY,Int.toNat_natCast,hq,ha,hb,h1,h2,Bool.true_and]
theorem qO{k:aA}{v:Int}{s:Sp}(h:(aF k)[v.toNat]?=some s):w6 k v=s:=by simp[w6,h]
structure V8(k:aA)(at_ v:Nat)(q:aE)(a b:Typ)(s1 s2:Sp):Prop where
 hq:k.list.es[at_]?=some q
 ha:k.values.es[v]?=some a
 hb:k.values.es[q.value.toNat]?=some b
 h1:(aF k)[q.value.toNat]?=some s1
 h2:(aF k)[v]?=some s2
 q0:0<=q.value
 f2 : -2<=s2.1
 mem:q∈k.list.es
theorem PK{k:aA}(ok:kK k){at_ v:Nat}(ha:at_<k.list.es.length)(hv:v<k.values.es.length):∃q a b s1 s2,V8 k at_ v q a b s1 s2:=by
 obtain⟨i0,i1⟩:=ok.inp
 have hsl:=jN (k:=k) (by omega)
 have hg:k.list.es[at_]?=some k.list.es[at_]:=List.getElem?_eq_getElem ha
 have hsplit:k.list.es=k.list.es.take at_++k.list.es[at_]::k.list.es.drop (at_+1):=by
  rw[<-List.drop_eq_getElem_cons ha,List.take_append_drop]
 obtain⟨w1,w2,_⟩:=iE (ok.ker _ _ _ hsplit)
 have hs2:(aF k)[v]?=some (aF k)[v]:=List.getElem?_eq_getElem (by omega)
 have hE:=(TK i0 hs2).fst
 exact⟨_,_,_,_,_,hg,List.getElem?_eq_getElem hv,List.getElem?_eq_getElem (by omega),List.getElem?_eq_getElem (by omega),hs2,by omega,by omega,List.getElem_mem ha⟩
section
variable{pg:Pg}
set_option maxHeartbeats 4000000 in
theorem c275(hf:pg.fs 275=some cf275)(h65:∀x y:Typ,Ret pg 65 [x.av,y.av] (.bool (gG x y)))(h48:∀p:aC,p.ok->p.sz<=big->bL pg 48 [p.av] (lO 1 false ((bK p).map aH)))
  (h293:∀(nl cl:Bool)(es:List Int),es.length<=big->∀v:Int,Ret pg 293 [.sl nl (es.map aH) cl,.int .i64 v] (.bool (es.contains v)))
  (h260:∀(v rank:Int)(p:aC),p.ok->Ret pg 260 [p.av,.int .i64 v,.int .i64 rank] (.bool (rV v rank p))) (k:aA) (ok:kK k)
  (hk:∀q∈k.list.es,q.body.ok/\q.index.ok/\q.body.sz+q.index.sz+1<=big) (nl cl:Bool) (at_ v:Nat) (hat:at_<k.list.es.length) (hv:v<k.values.es.length) :
  Ret pg 275 [k.av,.sl nl ((aF k).map bS) cl,.int .i64 at_,.int .i64 v] (.bool (qY k at_ v)):=by
 obtain⟨q,a,b,s1,s2,M⟩:=PK ok hat hv
 obtain⟨m1,m2,m3,m4,m5,m6,m7,m8⟩:=M
 obtain⟨k1,k2,k3⟩:=hk q m8
 rw[G5 m1 m2 m3]
 simp only[OC,qO m4,qO (v:=(v:Int)) (by simpa using m5)]
 have a65:=h65 a b
 have a48:=h48 q.body k1 (by omega)
 have b48:=h48 q.index k2 (by omega)
 have l1:=jO q.body
 have l2:=jO q.index
 have a260:=h260 v b.shape.dims.es.length q.body k1
 have m6':(0<=q.value)=True:=eq_true m6
 rw[aC.avc]at a48 b48 a260
 clear h65 h48 h260 hk ok m7 m8 k1 k2
 refine Ret.ofX hf ?_
 unfold cf275
 cases b1:decide ((v:Int)=q.value)
 case true=>
  simp only[m1,m2,m3,m4,m5,m6',b1,bS,go_sem,seval]
  first|kernel_rfl|(refine And.intro (by kernel_rfl) ?_;simp only[go_sem,seval])
 cases b2:decide (s1.1=(at_:Int))
 case false=>
  simp only[m1,m2,m3,m4,m5,m6',b1,b2,bS,go_sem,seval]
  first|kernel_rfl|(refine And.intro (by kernel_rfl) ?_;simp only[go_sem,seval])
 cases b3:decide (s2.1 = -2)
 case true=>
  simp only[m1,m2,m3,m4,m5,m6',b1,b2,b3,bS,go_sem,seval]
  first|kernel_rfl|(refine And.intro (by kernel_rfl) ?_;simp only[go_sem,seval])
 cases b4:decide (s2.2=(at_:Int))
 case false=>
  simp only[m1,m2,m3,m4,m5,m6',b1,b2,b3,b4,bS,go_sem,seval]
  first|kernel_rfl|(refine And.intro (by kernel_rfl) ?_;simp only[go_sem,seval])
 simp only[m1,m2,m3,m4,m5,m6',b1,b2,b3,b4,bS,go_sem,seval]
 refine aB a65 (by simp only[go_sem,seval]) rfl ?_
 cases b5:gG a b
 case false=>
  simp only[go_sem,seval]
  first|kernel_rfl|(refine And.intro (by kernel_rfl) ?_;simp only[go_sem,seval])
 simp only[go_sem,seval]
 refine And.intro (by kernel_rfl) ?_
 by_cases h6:q.kind=3
 ·have b6:decide (q.kind=3)=true:=decide_eq_true h6
  rw[if_pos h6]
  cases b7:decide ((v:Int)=q.source)
  case false=>
   simp only[b6,b7,go_sem,seval]
  simp only[b6,b7,go_sem,seval]
  refine j3 a48 (by simp only[go_sem,seval]) ?_
  intro nl1 cl1 _
  simp only[go_sem,seval]
  refine aB (h293 nl1 cl1 _ (by omega) v) (by simp only[go_sem,seval]) rfl ?_
  cases b8:(bK q.body).contains (v:Int)
  case true=>
   simp only[go_sem,seval]
  simp only[go_sem,seval]
  refine j3 b48 (by simp only[go_sem,seval]) ?_
  intro nl2 cl2 _
  simp only[go_sem,seval]
  refine aB (h293 nl2 cl2 _ (by omega) v) (by simp only[go_sem,seval]) rfl ?_
  simp only[go_sem,seval]
 ·have b6:decide (q.kind=3)=false:=decide_eq_false h6
  rw[if_neg h6]
  simp only[b6,m3,m6',go_sem,seval]
  refine aB a260 (by simp only[go_sem,seval]) rfl ?_
  simp only[go_sem,seval]
  first|kernel_rfl|(refine And.intro (by kernel_rfl) ?_;simp only[go_sem,seval])
set_option maxHeartbeats 4000000 in
theorem c276(hf:pg.fs 276=some cf276)(h88:∀x y:Typ,Ret pg 88 [x.av,y.av] (.bool (gG x y)))(h294:∀p:aC,p.ok->p.sz<=big->∀v:Int,Ret pg 294 [p.av,.int .i64 v] (.bool ((bK p).contains v)))
  (h261:∀(v rank:Int)(p:aC),p.ok->Ret pg 261 [p.av,.int .i64 v,.int .i64 rank] (.bool (rV v rank p))) (k:aA) (ok:kK k)
  (hk:∀q∈k.list.es,q.body.ok/\q.index.ok/\q.body.sz+q.index.sz+1<=big) (nl cl:Bool) (at_ v:Nat) (hat:at_<k.list.es.length) (hv:v<k.values.es.length) :
  Ret pg 276 [k.av,.sl nl ((aF k).map bS) cl,.int .i64 at_,.int .i64 v] (.bool (qY k at_ v)):=by
 obtain⟨q,a,b,s1,s2,M⟩:=PK ok hat hv
 obtain⟨m1,m2,m3,m4,m5,m6,m7,m8⟩:=M
 obtain⟨k1,k2,k3⟩:=hk q m8
 rw[G5 m1 m2 m3]
 simp only[OC,qO m4,qO (v:=(v:Int)) (by simpa using m5)]
 have a88:=h88 a b
 have a294:=h294 q.body k1 (by omega) v
 have b294:=h294 q.index k2 (by omega) v
 have a261:=h261 v b.shape.dims.es.length q.body k1
 have m6':(0<=q.value)=True:=eq_true m6
 have b3':decide (s2.1 < -1)=decide (s2.1 = -2):=by rw[decide_eq_decide];omega
 rw[aC.avc]at a294 b294 a261
 clear h88 h294 h261 hk ok m7 m8 k1 k2
 refine Ret.ofX hf ?_
 unfold cf276
 cases b1:decide ((v:Int)=q.value)
 case true=>
  simp only[m1,m2,m3,m4,m5,m6',b1,bS,go_sem,seval]
 cases b2:decide (s1.1=(at_:Int))
 case false=>
  simp only[m1,m2,m3,m4,m5,m6',b1,b2,bS,go_sem,seval]
 cases b3:decide (s2.1 = -2)
 case true=>
  rw[b3]at b3'
  simp only[m1,m2,m3,m4,m5,m6',b1,b2,b3',bS,go_sem,seval]
 rw[b3]at b3'
 cases b4:decide (s2.2=(at_:Int))
 case false=>
  simp only[m1,m2,m3,m4,m5,m6',b1,b2,b3',b4,bS,go_sem,seval]
 simp only[m1,m2,m3,m4,m5,m6',b1,b2,b3',b4,bS,go_sem,seval]
 refine aB a88 (by simp only[go_sem,seval]) rfl ?_
 cases b5:gG a b
 case false=>
  simp only[go_sem,seval]
  first|kernel_rfl|(refine And.intro (by kernel_rfl) ?_;simp only[go_sem,seval])
 simp only[go_sem,seval]
 refine And.intro (by kernel_rfl) ?_
 by_cases h6:q.kind=3
 ·have b6:decide (q.kind=3)=true:=decide_eq_true h6
  rw[if_pos h6]
  cases b7:decide ((v:Int)=q.source)
  case false=>
   simp only[b6,b7,go_sem,seval]
  simp only[b6,b7,go_sem,seval]
  refine aB a294 (by simp only[go_sem,seval]) rfl ?_
  cases b8:(bK q.body).contains (v:Int)
  case true=>
   simp only[go_sem,seval]
  simp only[go_sem,seval]
  refine aB b294 (by simp only[go_sem,seval]) rfl ?_
  simp only[go_sem,seval]
 ·have b6:decide (q.kind=3)=false:=decide_eq_false h6
  rw[if_neg h6]
  simp only[b6,m3,m6',go_sem,seval]
  refine aB a261 (by simp only[go_sem,seval]) rfl ?_
  simp only[go_sem,seval]
  first|kernel_rfl|(refine And.intro (by kernel_rfl) ?_;simp only[go_sem,seval])
end
end Go.Tev
end
section
namespace Go.Tev
def mH(k:aA)(at_ v:Int):Bool:=decide ((cB k).2=0)&&qY k at_ v
theorem lL{k:aA}{at_ v:Int}(h:¬(0<=at_/\at_<k.list.es.length/\0<=v/\v<k.values.es.length)):qY k at_ v=false:=by
 cases hm:qY k at_ v with
 |false=>rfl
 |true=>
  simp only[qY]at hm
  split at hm
  ·rename_i q a hq ha
   split at hm
   ·simp only[Bool.and_eq_true,decide_eq_true_eq]at hm
    have h1:=(List.getElem?_eq_some_iff.1 hq).1
    have h2:=(List.getElem?_eq_some_iff.1 ha).1
    exact absurd ⟨hm.1.1,by omega,hm.1.2,by omega⟩ h
   ·cases hm
  ·cases hm
section
variable{pg:Pg}
theorem pK(l:List Sp):treeL (l.map bS)=true:=bG (f:=bS) (fun s=>by simp[bS,go_sem]) _
attribute [go_sem] pK
set_option maxHeartbeats 4000000 in
theorem c264(hf:pg.fs 264=some cf264)(k:aA)(h9:bL pg 9 [k.av] (iY k))
  (h275:kK k->∀(nl cl:Bool)(at_ v:Nat),at_<k.list.es.length->v<k.values.es.length->Ret pg 275 [k.av,.sl nl ((aF k).map bS) cl,.int .i64 at_,.int .i64 v] (.bool (qY k at_ v)))
  (at_ v:Int):Ret pg 264 [k.av,.int .i64 at_,.int .i64 v] (.bool (mH k at_ v)):=by
 obtain⟨r9,hr9,hs9⟩:=h9
 rw[aA.avc]at hr9
 refine Ret.ofX hf ?_
 unfold cf264
 rcases j2 (k:=k) with hc|hc
 case inr=>
  rw[iY,if_neg (by omega)]at hs9
  subst hs9
  have:mH k at_ v=false:=by simp[mH,hc]
  rw[this]
  simp only[go_sem,seval]
  refine aB hr9 (by simp only[go_sem,seval]) rfl ?_
  simp only[go_sem,seval]
 have ok:=fL hc
 rw[iY,if_pos hc]at hs9
 subst hs9
 have hm:mH k at_ v=qY k at_ v:=by simp[mH,hc]
 rw[hm]
 simp only[go_sem,seval]
 refine aB hr9 (by simp only[go_sem,seval]) (by first|rfl|simp[AV.tree,pK]) ?_
 cases b1:decide (0<=at_)
 case false=>
  rw[lL (by simp at b1;omega)]
  simp only[b1,go_sem,seval]
 cases b2:decide (at_<(k.list.es.length:Int))
 case false=>
  rw[lL (by simp at b2;omega)]
  simp only[b1,b2,go_sem,seval]
 cases b3:decide (0<=v)
 case false=>
  rw[lL (by simp at b3;omega)]
  simp only[b1,b2,b3,go_sem,seval]
 cases b4:decide (v<(k.values.es.length:Int))
 case false=>
  rw[lL (by simp at b4;omega)]
  simp only[b1,b2,b3,b4,go_sem,seval]
 obtain⟨n,rfl⟩:∃n:Nat,at_=n:=⟨at_.toNat,by simp at b1;omega⟩
 obtain⟨m,rfl⟩:∃m:Nat,v=m:=⟨v.toNat,by simp at b3;omega⟩
 have h:=h275 ok false false n m (by simp at b2;omega) (by simp at b4;omega)
 rw[aA.avc]at h
 simp only[b1,b2,b3,b4,go_sem,seval]
 refine aB h (by simp only[go_sem,seval]) rfl ?_
 simp only[go_sem,seval]
set_option maxHeartbeats 4000000 in
theorem c265(hf:pg.fs 265=some cf265)(k:aA)(h10:bL pg 10 [k.av] (fY k))
  (h276:kK k->∀(nl cl:Bool)(at_ v:Nat),at_<k.list.es.length->v<k.values.es.length->Ret pg 276 [k.av,.sl nl ((aF k).map bS) cl,.int .i64 at_,.int .i64 v] (.bool (qY k at_ v)))
  (at_ v:Int):Ret pg 265 [k.av,.int .i64 at_,.int .i64 v] (.bool (mH k at_ v)):=by
 obtain⟨r10,hr10,hs10⟩:=h10
 rw[aA.avc]at hr10
 refine Ret.ofX hf ?_
 unfold cf265
 rcases j2 (k:=k) with hc|hc
 case inr=>
  rw[fY,if_neg (by omega)]at hs10
  subst hs10
  have:mH k at_ v=false:=by simp[mH,hc]
  rw[this]
  simp only[go_sem,seval]
  refine aB hr10 (by simp only[go_sem,seval]) rfl ?_
  simp only[go_sem,seval]
 have ok:=fL hc
 rw[fY,if_pos hc]at hs10
 obtain⟨nl,cl,rfl⟩:=hs10
 have hm:mH k at_ v=qY k at_ v:=by simp[mH,hc]
 rw[hm]
 simp only[go_sem,seval]
 refine aB hr10 (by simp only[go_sem,seval]) (by first|rfl|simp[AV.tree,pK]) ?_
 cases b1:decide (0<=at_)
 case false=>
  rw[lL (by simp at b1;omega)]
  simp only[b1,go_sem,seval]
 cases b2:decide (at_<(k.list.es.length:Int))
 case false=>
  rw[lL (by simp at b2;omega)]
  simp only[b1,b2,go_sem,seval]
 cases b3:decide (0<=v)
 case false=>
  rw[lL (by simp at b3;omega)]
  simp only[b1,b2,b3,go_sem,seval]
 cases b4:decide (v<(k.values.es.length:Int))
 case false=>
  rw[lL (by simp at b4;omega)]
  simp only[b1,b2,b3,b4,go_sem,seval]
 obtain⟨n,rfl⟩:∃n:Nat,at_=n:=⟨at_.toNat,by simp at b1;omega⟩
 obtain⟨m,rfl⟩:∃m:Nat,v=m:=⟨v.toNat,by simp at b3;omega⟩
 have h:=h276 ok nl cl n m (by simp at b2;omega) (by simp at b4;omega)
 rw[aA.avc]at h
 simp only[b1,b2,b3,b4,go_sem,seval]
 refine aB h (by simp only[go_sem,seval]) rfl ?_
 simp only[go_sem,seval]
end
end Go.Tev
end
section
namespace Go.Tev
def R0(k:aA)(i:Nat):Int:=FS (fun v=>qY k (i:Int) (v:Int)) 0 k.values.es.length
section
variable{pg:Pg}
end
end Go.Tev
end
section
namespace Go.Tev
def mV(ds:List Val)(v:List UInt8):Option Val:=ds.find? (fun x=>decide (x.v.bs=v))
def lM(ds:List Val):Int->List bR->Int×Int
 |n,[]=>(n,0)
 |n,c::r=>match mV ds c.v.bs with
  |none=>(0,7)
  | some v=>if decide (v.n < -1000000000)||decide (1000000000<v.n) then (0,2) else lM ds (wr .i64 (n+wr .i64 (c.c*v.n))) r
def bM(ds:List Val)(l:Lin):Int×Int:=if d9 l then lM ds l.c l.ts.es else (0,1)
theorem yC{ds:List Val}{n:Int}{c:bR}{r:List bR}(h:mV ds c.v.bs=none):lM ds n (c::r)=(0,7):=by
 simp only[lM,h]
theorem yB{ds:List Val}{n:Int}{c:bR}{r:List bR}{v:Val}(h:mV ds c.v.bs=some v) :
  lM ds n (c::r)=(if decide (v.n < -1000000000)||decide (1000000000<v.n) then (0,2) else lM ds (wr .i64 (n+wr .i64 (c.c*v.n))) r):=by
 simp only[lM,h]
section
variable{pg:Pg}
theorem OG{f:Nat}{esz:Nat}{ag:Bool}(hf:pg.fs f=some (OH esz ag)){α : Type}(enc : α -> AV)(hfit:∀x,(enc x).fits esz ag=true)(htree:∀x,(enc x).tree=true)
  (nl cl:Bool) (es:List α) (hb:es.length<=big) (g:Nat) (cs:List AV) (hcs:treeL cs=true) (p : α -> Bool) (hp:∀x∈es,Ret pg g (enc x::cs) (.bool (p x))) :
  bL pg f [.sl nl (es.map enc) cl,.fn g cs] (fun r=>∃i:Int,r = .int .i64 i/\((i<0/\es.find? p=none)\/(0<=i/\∃x,es[i.toNat]?=some x/\es.find? p=some x))):=by
 refine bL.ofX hf ?_
 unfold OH
 simp only[go_sem,seval]
 refine cZ es (fun d e=>dS e (some 8) (.int .i64 d.length)) (fun d r hp=>es.find? p=r.find? p) rfl ?_ ?_ ?_
 ·rfl
 ·intro hp' hI
  simp only[DL,DK,go_sem,seval]
  simp[hI]
 ·intro d x r hp' hes hI
  have hx0:(d++x::r)[d.length]?=some x:=by simp
  subst hes
  simp only[DL,DK,hfit,go_sem,seval]
  refine aB (hp x (by simp)) (by simp only[treeL,htree,hcs,List.cons_append,List.nil_append,Bool.and_true]) rfl ?_
  simp only[go_sem,seval]
  cases hx:p x
  ·simp only[aM hb,go_sem,seval]
   rw[hI];simp[hx]
  ·simp only[go_sem,seval]
   exact .inr (by rw[hI];simp[hx])
theorem aBY(hf:pg.fs 52=some cf52)(h53:pg.fs 53=some cf53)(nl cl:Bool)(ds:List Val)(hb:ds.length<=big)(c:bR) :
  bL pg 52 [.sl nl (ds.map Val.av) cl,.fn 53 [.fp c.av]] (fun r=>∃i:Int,r = .int .i64 i/\((i<0/\mV ds c.v.bs=none)\/(0<=i/\∃x,ds[i.toNat]?=some x/\mV ds c.v.bs=some x))):=
 OG (f:=52) (esz:=2) (ag:=true) hf Val.av (fun _=>by simp only[go_sem,seval]) (fun _=>by simp only[go_sem,seval]) nl cl ds hb 53 [.fp c.av] (by simp only[go_sem,seval]) (fun v=>decide (v.v.bs=c.v.bs)) (fun v _=>c53 h53 c v)
theorem aCe(hf:pg.fs 32=some cf32)(h51:∀l:Lin,Ret pg 51 [l.av] (.bool (d9 l)))(h52:pg.fs 52=some cf52)(h53:pg.fs 53=some cf53)(l:Lin)(nl cl:Bool)(ds:List Val)(hb:ds.length<=big) :
  Ret pg 32 [l.av,.sl nl (ds.map Val.av) cl] (.tup [.int .i64 (bM ds l).1,.int .i64 (bM ds l).2]):=by
 refine Ret.ofX hf ?_
 unfold cf32
 have hlb:=l.ts.ok
 simp only[go_sem,seval]
 refine aB (h51 l) (by simp only[go_sem,seval]) rfl ?_
 simp only[go_sem,seval]
 cases hx:d9 l
 ·simp only[go_sem,seval]
  simp[bM,hx]
 have hev:bM ds l=lM ds l.c l.ts.es:=by simp[bM,hx]
 rw[hev]
 simp only[go_sem,seval]
 refine aG l.ts.es (fun d r env hp=>∃n:Int,env=cf32E0 (.sl nl (ds.map Val.av) cl) (.int .i64 n) (.sl l.ts.nl (l.ts.es.map bR.av) l.ts.cl) (.int .i64 l.ts.es.length) (.int .i64 d.length)/\lM ds l.c l.ts.es=lM ds n r) ?_ ?_ ?_
 ·exact⟨_,rfl,rfl⟩
 ·rintro env hp ⟨n,rfl,hI⟩
  rw[hI]
  simp only[cf32L0,cf32E0,lM,go_sem,seval]
 ·rintro d x r env hp hes ⟨n,rfl,hI⟩
  obtain⟨hget,e1,e2,ew⟩:=cJ hes hlb
  rw[hI]
  obtain⟨r52,hr52,i,rfl,hi⟩:=aBY h52 h53 nl cl ds hb x
  simp only[cf32L0,cf32E0,hget,e1,e2,go_sem,seval]
  refine bT (hr52) (by simp only[ bR.avc,depth,cD,bA,eI,go_sem,seval];rfl) (by first|rfl|simp only[fG]) ?_
  simp only[go_sem,seval]
  rcases hi with ⟨h1,h2⟩|⟨h1,v,hv,h2⟩
  ·have b1:decide (i<0)=true:=by simpa using h1
   rw[yC h2]
   simp only[b1,go_sem,seval]
  ·have b1:decide (i<0)=false:=by simp;omega
   have h0t:(0<=i)=True:=eq_true h1
   rw[yB h2]
   simp only[b1,hv,h0t,go_sem,seval]
   cases b2:decide (v.n < -1000000000)
   case true=>
    simp only[b2,go_sem,seval]
   cases b3:decide (1000000000<v.n)
   case true=>
    simp only[b2,b3,go_sem,seval]
   simp only[b2,b3,hv,h0t,ew,go_sem,seval]
   exact⟨by kernel_rfl,_,rfl,rfl⟩
def pN(ds:List Val):Int->Bool->List Lin->Int×Bool
 |n,b,[]=>(n,b)
 |n,b,l::r=>pN ds (GI (bM ds l).1 n) (b&&(decide (0<=(bM ds l).1)&&decide ((bM ds l).1<=4096))) r
def eZ(ds:List Val)(t:Typ):Int×Bool:=((pN ds 1 true t.shape.dims.es).1,(pN ds 1 true t.shape.dims.es).2&&decide ((pN ds 1 true t.shape.dims.es).1<=4096))
theorem aCd(hf:pg.fs 33=some cf33)(h32:∀(l:Lin) (nl cl:Bool) (ds:List Val),ds.length<=big->Ret pg 32 [l.av,.sl nl (ds.map Val.av) cl] (.tup [.int .i64 (bM ds l).1,.int .i64 (bM ds l).2]))(t:Typ)(nl cl:Bool)(ds:List Val)(hb:ds.length<=big) :
  Ret pg 33 [t.av,.sl nl (ds.map Val.av) cl] (.tup [.int .i64 (eZ ds t).1,.bool (eZ ds t).2]):=by
 refine Ret.ofX hf ?_
 unfold cf33
 have hlb:=t.shape.dims.ok
 simp only[go_sem,seval]
 refine aG t.shape.dims.es (fun d r env hp=>∃(n:Int)(b:Bool),env=cf33E0 (.sl nl (ds.map Val.av) cl) (.int .i64 n) (.bool b) (.sl t.shape.dims.nl (t.shape.dims.es.map Lin.av) t.shape.dims.cl) (.int .i64 t.shape.dims.es.length) (.int .i64 d.length)/\pN ds 1 true t.shape.dims.es=pN ds n b r) ?_ ?_ ?_
 ·exact⟨_,_,rfl,rfl⟩
 ·rintro env hp ⟨n,b,rfl,hI⟩
  have h1:eZ ds t=(n,b&&decide (n<=4096)):=by simp only[eZ,hI,pN]
  rw[h1]
  cases b
  ·simp only[cf33L0,cf33E0,go_sem,seval]
  ·simp only[cf33L0,cf33E0,go_sem,seval]
 ·rintro d x r env hp hes ⟨n,b,rfl,hI⟩
  obtain⟨hget,e1,e2,ew⟩:=cJ hes hlb
  have hr32:=h32 x nl cl ds hb
  simp only[pN]at hI
  generalize (bM ds x).1=a32 at hr32 hI
  generalize (bM ds x).2=b32 at hr32
  rw[Lin.avc]at hr32
  simp only[cf33L0,cf33E0,hget,e1,e2,go_sem,seval]
  refine aB hr32 (by simp only[go_sem,seval]) rfl ?_
  cases b
  ·simp only[ew,mx2,mn2,go_sem,seval]
   exact⟨GI a32 n,false,rfl,by simpa using hI⟩
  ·cases b1:decide (0<=a32)
   ·simp only[b1,ew,mx2,mn2,go_sem,seval]
    exact⟨GI a32 n,false,rfl,by simpa[b1] using hI⟩
   ·simp only[b1,ew,mx2,mn2,go_sem,seval]
    exact⟨GI a32 n,decide (a32<=4096),rfl,by simpa[b1] using hI⟩
theorem aCc(hf:pg.fs 34=some cf34)(h54:∀l:Lin,Ret pg 54 [l.av] (.bool (d9 l)))(l:Lin)(nl cl:Bool)(ds:List Val)(hb:ds.length<=big) :
  Ret pg 34 [l.av,.sl nl (ds.map Val.av) cl] (.tup [.int .i64 (bM ds l).1,.int .i64 (bM ds l).2]):=by
 refine Ret.ofX hf ?_
 unfold cf34
 have hlb:=l.ts.ok
 have a1:=h54 l
 rw[Lin.avc]at a1
 simp only[go_sem,seval]
 refine aB a1 (by simp only[go_sem,seval]) rfl ?_
 cases hx:d9 l
 ·simp only[go_sem,seval]
  simp[bM,hx]
 have hev:bM ds l=lM ds l.c l.ts.es:=by simp[bM,hx]
 rw[hev]
 simp only[go_sem,seval]
 refine aG l.ts.es (fun d r env hp=>∃n:Int,env=cf34E1 (.sl nl (ds.map Val.av) cl) (.pt 1 0 0) (.int .i64 n) (.int .i64 d.length)/\hp.get 1=some (0,.blk [.int .i64 l.c,.sl l.ts.nl (l.ts.es.map bR.av) l.ts.cl] 2 true true false)/\lM ds l.c l.ts.es=lM ds n r) ?_ ?_ ?_
 ·exact⟨_,rfl,rfl,rfl⟩
 ·rintro env hp ⟨n,rfl,g1,hI⟩
  rw[hI]
  simp only[cf34L1,cf34E1,g1,aX,lM,go_sem,seval]
 ·rintro d c r env hp hes ⟨n,rfl,g1,hI⟩
  obtain⟨hget,e1,e2,ew⟩:=cJ hes hlb
  rw[hI]
  clear hI
  simp only[cf34L1,cf34E1,g1,e1,e2,go_sem,seval]
  refine aG ds (fun d2 r2 env hp=>env=cf34E0 (.sl nl (ds.map Val.av) cl) (.pt 1 0 0) (.int .i64 n) (.int .i64 d.length) (.int .i64 d2.length)/\hp.get 1=some (0,.blk [.int .i64 l.c,.sl l.ts.nl (l.ts.es.map bR.av) l.ts.cl] 2 true true false)/\mV ds c.v.bs=mV r2 c.v.bs) ?_ ?_ ?_
  ·exact⟨rfl,g1,rfl⟩
  ·rintro env hp2 ⟨rfl,q1,hI⟩
   have hn:mV ds c.v.bs=none:=by rw[hI];rfl
   rw[yC hn]
   simp only[cf34L0,cf34E0,aX,go_sem,seval]
   show _=true
   kernel_rfl
  ·rintro d2 v r2 env hp2 hes2 ⟨rfl,q1,hI⟩
   obtain⟨hget2,f1,f2,fw⟩:=cJ hes2 hb
   cases b0:decide (v.v.bs=c.v.bs)
   case false=>
    simp only[cf34L0,cf34E0,q1,hget,hget2,e1,e2,f1,f2,b0,fw,go_sem,seval]
    refine⟨by kernel_rfl,rfl,?_⟩
    rw[hI];simp[mV,b0]
   case true=>
    have hs:mV ds c.v.bs=some v:=by rw[hI];simp[mV,b0]
    have hne:decide ((d2.length:Int)=(ds.length:Int))=false:=by
     have:=of_decide_eq_true f1
     simp;omega
    rw[yB hs]
    simp only[cf34L0,cf34E0,q1,hget,hget2,e1,e2,f1,f2,b0,go_sem,seval]
    refine And.intro (by kernel_rfl) ?_
    simp only[hne,hget2,f2,go_sem,seval]
    cases b2:decide (v.n < -1000000000)
    case true=>
     simp only[b2,go_sem,seval]
    cases b3:decide (1000000000<v.n)
    case true=>
     simp only[b2,b3,go_sem,seval]
    simp only[b2,b3,q1,hget,e2,ew,go_sem,seval]
    exact⟨_,rfl,rfl⟩
end
end Go.Tev
end
