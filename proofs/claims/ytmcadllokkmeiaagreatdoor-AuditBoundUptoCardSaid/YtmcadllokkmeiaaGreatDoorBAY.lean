import Derived.Test.YtmcadllokkmeiaaGreatDoorBAW
import Derived.Test.YtmcadllokkmeiaaGreatDoorBAX
import Derived.Test.YtmcadllokkmeiaaGreatDoorBAR
import Derived.Test.YtmcadllokkmeiaaGreatDoorBAT
import Derived.Test.YtmcadllokkmeiaaGreatDoorBAS
import Derived.ChangeArms
import Derived.Test.YtmcadllokkmeiaaGreatDoorBAU
set_option linter.all false
namespace Go.Tev
section
section
variable{pg:Pg}
set_option maxRecDepth 8000 in
set_option maxHeartbeats 16000000 in
theorem aQH(hf:pg.fs 44=some HX)(k:aA)(nl cl:Bool)(there:List Bool)(m:Int)(i:Nat)(q:aG)(hq:k.aSf.es[i]?=some q)(ho:y9 k q=true) :
  Ret pg 44 [.fp (.agg (iJ k nl cl there m)),.int .i64 i] (.bool (cO k there q i)):=by
 have hk:cO k there q i=false:=by simp[cO,ho]
 rw[hk];refine Ret.ofX hf ?_;unfold HX;have htr:treeL (iJ k nl cl there m)=true:=by simp only[iJ];simp only[go_sem,seval]
 simp only[y9]at ho;simp only[iJ,hq,go_sem,seval];cases a1:decide (q.value<k.aSg)
 case true=>
  simp only[go_sem,seval]
  first|(refine aY ?_;rfl)|kernel_rfl
 cases a2:decide ((k.aSe.es.length:Int)<=q.value)
 case true=>
  simp only[a2,go_sem,seval]
  first|(refine aY ?_;rfl)|kernel_rfl
 cases a3:decide (q.check<0)
 case true=>
  simp only[a2,a3,go_sem,seval]
  first|(refine aY ?_;rfl)|kernel_rfl
 rw[a1,a2,a3]at ho;cases ho
theorem c44(hf:pg.fs 44=some HX)
  (h63:∀(k:aA)(nl cl:Bool)(there:List Bool)(m:Int),∀p:aC,p.ok->Ret pg 63 [.fp (.agg (iJ k nl cl there m)),p.av] (.bool (fO k.aSe.es p)))
  (h64:∀(nl cl:Bool)(code:List aP),code.length<=16777216->∀(nl' cl':Bool)(args:List Bool),args.length<=16777216->(nl'=true->args=[])->Ret pg 64 [.sl nl (code.map aP.av) cl,.sl nl' (args.map AV.bool) cl'] (.bool (fD code args)))
  (h65:∀a b:Typ,Ret pg 65 [a.av,b.av] (.bool (jH a b)))
  (h66:∀p:aC,p.ok->Ret pg 66 [p.av] (.bool (fH p EO)))
  (h67:∀(nl cl nl' cl':Bool)(es es':List Lin),es.length<=big->Ret pg 67 [.sl nl (es.map Lin.av) cl,.sl nl' (es'.map Lin.av) cl',.fn 68 []] (.bool (eqL cN es es')))
  (h69:∀(k:aA),(k.vars.nl=true->k.vars.es=[])->∀(nl cl:Bool)(there:List Bool),there.length=k.aSe.es.length->∀(m:Int)(p:aC),p.ok->∀n:Nat,n<=9->k.vars.es.length+n+p.sz<=big->∀nt:Int,
   Ret pg 69 [.fp (.agg (iJ k nl cl there m)),p.av,.int .i64 n,.int .i64 nt] (.bool (gB k there p n nt)))
  (h70:∀(nl cl:Bool)(fn:List aP),fn.length<=big->∀n:Int,Ret pg 70 [.sl nl (fn.map aP.av) cl,.int .i64 n] (.bool (eO fn n)))
  (k:aA) (hnl:k.vars.nl=true->k.vars.es=[]) (hin:0<=k.aSg) (hvals:∀t∈k.aSe.es,t.aSh.aSi.es.length<=6) (nl cl:Bool) (there:List Bool) (hth:there.length=k.aSe.es.length) (m:Int) (i:Nat) (q:aG) (hq:k.aSf.es[i]?=some q)
  (hbo:q.body.ok) (hio:q.index.ok) (hbs:k.vars.es.length+9+q.body.sz<=big) (his:k.vars.es.length+9+q.index.sz<=big) :
  Ret pg 44 [.fp (.agg (iJ k nl cl there m)),.int .i64 i] (.bool (cO k there q i)):=by
 cases ho:y9 k q with
 |true=>exact aQH hf k nl cl there m i q hq ho
 |false=>
  have hlt:q.value.toNat<there.length:=by simp only[y9,Bool.or_eq_false_iff,eJ]at ho;omega
  cases hown:there[q.value.toNat]'hlt with
  |true=>exact aQG hf h63 h64 h65 h66 h67 h69 h70 k hnl hin hvals nl cl there hth m i q hq (by rw[aW hlt,hown]) hbo hio hbs his
  |false=>exact aQI hf h63 h64 h65 h66 h67 h69 h70 k hnl hin hvals nl cl there hth m i q hq (by rw[aW hlt,hown]) hbo hio hbs his
end
end
section
def o9:List AV:=(List.range 256).map λi => .bool (decide (48<=i)&&decide (i<=57))
theorem SV:o9.length=256:=by simp[o9]
theorem aEC(c:UInt8):o9[c.toNat]?=some (.bool (bU c)):=by have h:=UInt8.toNat_lt c;simp only[o9,fX];rw[List.getElem?_range h];rfl
def sH(s:List UInt8):List UInt8:=(s.reverse.dropWhile bU).reverse
theorem E2(s:List UInt8)(c:UInt8):sH (s++[c])=if bU c then sH s else s++[c]:=by simp only[sH,List.reverse_append,List.reverse_cons,List.reverse_nil,fW,List.singleton_append,List.dropWhile_cons];split<;>simp
theorem A9:∀(n:Nat)(s:List UInt8),s.length=n->(sH s=[]/\s.all bU=true)\/(∃t c,sH s=t++[c]/\bU c=false/\s.all bU=false)
 |0,s,h=>by obtain rfl:=iR h;exact .inl ⟨rfl,rfl⟩
 |n+1,s,h=>by
  obtain⟨t,c,rfl⟩:∃l' c,s=l'++[c]:=by
   rcases mO s with h'|⟨l',c,h'⟩
   subst h';simp at h;exact⟨l',c,by simpa using h'⟩
  rw[E2];cases hc:bU c;exact .inr ⟨t,c,by simp,hc,by simp[hc]⟩;rcases A9 n t (by simpa using h) with ⟨h1,h2⟩|⟨u,d,h1,h2,h3⟩
  exact .inl ⟨by simpa using h1,by simp[h2,hc]⟩;exact .inr ⟨u,d,by simpa using h1,h2,by simp[h3]⟩
theorem UY(t:List UInt8)(c:UInt8)(h:bU c=false):(t++[c]).dropWhile bU≠[]:=by
 induction t with
 |nil=>simp[h]
 |cons x r ih=>simp only[List.cons_append,List.dropWhile_cons];split;exact ih;simp
theorem aBi(s:List UInt8):decide ((sH s).dropWhile bU=[])=s.all bU:=by
 rcases A9 s.length s rfl with ⟨h1,h2⟩|⟨t,c,h1,h2,h3⟩
 rw[h1,h2];rfl;rw[h1,h3];simpa using UY t c h2
section
variable{pg:Pg}
theorem c171(hf:pg.fs 171=some AY)(c:UInt8):Ret pg 171 [.fp (.agg o9),.int .u8 c.toNat] (.bool (bU c)):=by have h:=UInt8.toNat_lt c;have e1:(0<=(c.toNat:Int))=True:=aK (by omega);have e2:((c.toNat:Int)<((256:Nat):Int))=True:=aK (by omega);have e3:((c.toNat:Int)<256)=True:=aK (by omega);refine Ret.ofX hf ?_;unfold AY;have hg:=aEC c;simp only[e1,e2,e3,Nat.mul_one,hg,go_sem,seval]
theorem c132(hf:pg.fs 132=some DM):Ret pg 132 [.str [48,49,50,51,52,53,54,55,56,57]] (.tup [.agg o9,.bool true]):=
 Ret.closed (.n 132 DM .e .e) (by intro f cf h;have:=BT.All.find (p:=λf cf=>pg.fs f=some cf) (t:=.n 132 DM .e .e) ⟨hf,trivial,trivial⟩ h;exact this) 14 (by kernel_rfl)
theorem c134(hf:pg.fs 134=some HC)(h171:pg.fs 171=some AY)(s:List UInt8)(hb:s.length<=big):Ret pg 134 [.str s,.fp (.agg o9)] (.str (sH s)):=by
 have htr:treeL o9=true:=by simp only[o9];exact cH (f:=λi=>AV.bool (decide (48<=i)&&decide (i<=57))) (λi=>by simp[AV.tree]) _
 refine Ret.ofX hf ?_;unfold HC;refine Wk ?_;refine tH (α:=List UInt8) (λt=>t.length) (λt env hp=>env=NZ (.str t) (.fp (.agg o9))/\sH t=sH s/\t.length<=big) s ⟨rfl,rfl,hb⟩ ?_;rintro t env hp ⟨rfl,ht,hbt⟩;rcases mO t with h|⟨u,c,h⟩
 subst h;simp only[NY,NZ,go_sem,seval];rw[<-ht];rfl;rw[List.concat_eq_append]at h;subst h;have a:=c171 h171 c;have hw:wr .i64 (((u++[c]).length:Int)-1)=(u.length:Int):=by simp only[dC,List.length_cons,List.length_nil,big]at *;rw[aU (by omega) (by omega)];omega
 have e0:decide (0<(((u++[c]).length:Nat):Int))=true:=by simp
 have e1:(0<=(u.length:Int))=True:=aK (by omega);have hg:(u++[c])[u.length]?=some c:=by simp
 have hs1:∀h:Hp,wJ false true [.str (u++[c]),.int .i64 (u.length:Int)]=some (.str u,.pat [] [])/\h=h:=fun(h:Hp)=>by refine⟨?_,rfl⟩;simp only[wJ,kX,bR,aL,aN,Option.getD_none,Option.getD_some];rw[if_pos ⟨by omega,by omega,by simp;omega⟩];simp[val]
 have hs2:=(hs1 []).1;rw[E2]at ht;simp only[NY,NZ,e0,hw,e1,hg,go_sem,seval];refine bZ a (by simp only[htr,go_sem,seval]) rfl ?_;cases hd:bU c;refine Wk ?_;rw[<-ht,hd];rfl;simp only[hw,↓hs2,go_sem,seval];refine⟨u,by simp,rfl,?_,by simp at hbt;omega⟩;rw[<-ht,hd];rfl
theorem c133(hf:pg.fs 133=some HD)(h171:pg.fs 171=some AY)(s:List UInt8):Ret pg 133 [.str s,.fp (.agg o9)] (.str (s.dropWhile bU)):=by
 have htr:treeL o9=true:=by simp only[o9];exact cH (f:=λi=>AV.bool (decide (48<=i)&&decide (i<=57))) (λi=>by simp[AV.tree]) _
 refine Ret.ofX hf ?_;unfold HD;refine Wk ?_;refine tH (α:=List UInt8) (λt=>t.length) (λt env hp=>env=N1 (.str t) (.fp (.agg o9))/\t.dropWhile bU=s.dropWhile bU) s ⟨rfl,rfl⟩ ?_;rintro t env hp ⟨rfl,ht⟩;cases t with
 |nil=>simp only[N0,N1,go_sem,seval];rw[<-ht];rfl
 |cons c u=>
  have a:=c171 h171 c;have e0:decide (0<(((c::u).length:Nat):Int))=true:=by simp
  have e0':decide ((0:Int)<((u.length+1:Nat):Int))=true:=by simp
  have hs2:wJ true false [.str (c::u),.int .i64 1]=some (.str u,.pat [] []):=by simp only[wJ,kX,bR,aL,aN,Option.getD_none,Option.getD_some];rw[if_pos ⟨by omega,by simp;omega,by omega⟩];simp[val]
  rw[List.dropWhile_cons]at ht;simp only[N0,N1,e0,e0',go_sem,seval];refine bZ a (by simp only[htr,go_sem,seval]) rfl ?_;cases hd:bU c;refine Wk ?_;rw[<-ht,hd];rfl;simp only[↓hs2,go_sem,seval];refine⟨u,by simp,rfl,?_⟩;rw[<-ht,hd];rfl
set_option maxRecDepth 100000 in
set_option maxHeartbeats 8000000 in
theorem c94(hf:pg.fs 94=some aAF)(h132:pg.fs 132=some DM)(h133:pg.fs 133=some HD)(h134:pg.fs 134=some HC)(h171:pg.fs 171=some AY)(s:List UInt8)(hb:s.length<=big) :
  Ret pg 94 [.str s,.str [48,49,50,51,52,53,54,55,56,57]] (.str ((sH s).dropWhile bU)):=by
 have a1:=c132 h132;have a2:=c134 h134 h171 s hb;have a3:=c133 h133 h171 (sH s);have htr:treeL o9=true:=by simp only[o9];exact cH (f:=λi=>AV.bool (decide (48<=i)&&decide (i<=57))) (λi=>by simp[AV.tree]) _
 refine Ret.ofX hf ?_;unfold aAF;cases h0:decide (s=[])
 case true=>
  have:s=[]:=by simpa using h0
  subst this;refine Wk ?_;rfl
 simp only[h0,go_sem,seval];refine aB a1 ?_;have hone:cX o9=true:=by
  simp only[o9]
  have:∀l:List Nat,cX (l.map λi=>AV.bool (decide (48<=i)&&decide (i<=57)))=true:=by
   intro l
   induction l with
   |nil=>rfl
   |cons x r ih=>simp only[List.map_cons,cX,ih];rfl
  exact this _
 have hsn:∀H:Hp,H.get 13=some (0,.blk o9 256 true true false)->eN (Tev.snap depth H) [.str s,.pt 13 0 0]=some ([.str s,.fp (.agg o9)],[13])/\eN (Tev.snap depth H) [.str (sH s),.pt 13 0 0]=some ([.str (sH s),.fp (.agg o9)],[13]):=by
  intro H hg;have h1:eN (Tev.snap 62 H) o9=some (o9,[]):=fI 61 H htr;have h2:Tev.snap 64 H (.pt 13 0 0)=some (.fp (.agg o9),[13]):=by have h3:eN (Tev.snap 63 H) o9=some (o9,[]):=fI 62 H htr;rw[fE];simp[hg,h3,AV.tree,SV]
  have h4:∀u:List UInt8,Tev.snap 64 H (.str u)=some (.str u,[]):=λu=>by rw[fE,if_pos (by simp[AV.tree])]
  constructor<;>(rw[bM,depth,h4,bM,h2,cW];simp)
 simp only[SV,hone,go_sem,seval];refine cR a2 (hsn _ (by simp only[go_sem,seval])).1 rfl (Wk ?_);refine cR a3 (hsn _ (by simp only[go_sem,seval])).2 rfl ?_;simp only[go_sem,seval]
theorem ZC(A:Ora pg)(h57:pg.fs 57=some aAL)(h91:pg.fs 91=some U7)(h126:pg.fs 126=some DN)(h108:pg.fs 108=some x6)
  (h94:pg.fs 94=some aAF) (h132:pg.fs 132=some DM) (h133:pg.fs 133=some HD) (h134:pg.fs 134=some HC) (h171:pg.fs 171=some AY):aBh pg where
 name:=c57 A h57 h91 h126
 trim:=λs hb=>⟨_,c94 h94 h132 h133 h134 h171 s hb,aBi s⟩
 loop:=c108 A h108
end
end
section
structure Code(pg:Pg):Prop where
 f8:pg.fs 8=some cf8
 f9:pg.fs 9=some cf9
 f25:pg.fs 25=some aEc
 f26:pg.fs 26=some RP
 f27:pg.fs 27=some aEa
 f28:pg.fs 28=some aDZ
 f29:pg.fs 29=some aDY
 f30:pg.fs 30=some aDX
 f40:pg.fs 40=some WC
 f41:pg.fs 41=some aAP
 f42:pg.fs 42=some RE
 f43:pg.fs 43=some aDQ
 f44:pg.fs 44=some HX
 f45:pg.fs 45=some aAO
 f46:pg.fs 46=some aAN
 f47:pg.fs 47=some aAM
 f48:pg.fs 48=some V3
 f51:pg.fs 51=some aDN
 f56:pg.fs 56=some MW
 f57:pg.fs 57=some aAL
 f58:pg.fs 58=some aDK
 f59:pg.fs 59=some aJW
 f60:pg.fs 60=some aDJ
 f61:pg.fs 61=some aDI
 f62:pg.fs 62=some aDH
 f63:pg.fs 63=some aDG
 f64:pg.fs 64=some aDF
 f65:pg.fs 65=some aDE
 f66:pg.fs 66=some aDD
 f67:pg.fs 67=some aDC
 f68:pg.fs 68=some aDB
 f69:pg.fs 69=some aDA
 f70:pg.fs 70=some aDz
 f71:pg.fs 71=some VM
 f73:pg.fs 73=some VL
 f74:pg.fs 74=some Q3
 f89:pg.fs 89=some aAH
 f91:pg.fs 91=some U7
 f94:pg.fs 94=some aAF
 f95:pg.fs 95=some aDk
 f96:pg.fs 96=some aAE
 f97:pg.fs 97=some aAD
 f98:pg.fs 98=some U4
 f99:pg.fs 99=some aAC
 f100:pg.fs 100=some SI
 f101:pg.fs 101=some SH
 f102:pg.fs 102=some SG
 f103:pg.fs 103=some KK
 f104:pg.fs 104=some SF
 f105:pg.fs 105=some SE
 f106:pg.fs 106=some DP
 f107:pg.fs 107=some HF
 f108:pg.fs 108=some x6
 f109:pg.fs 109=some SD
 f110:pg.fs 110=some KJ
 f111:pg.fs 111=some SC
 f126:pg.fs 126=some DN
 f132:pg.fs 132=some DM
 f133:pg.fs 133=some HD
 f134:pg.fs 134=some HC
 f137:pg.fs 137=some KF
 f138:pg.fs 138=some DL
 f139:pg.fs 139=some R3
 f140:pg.fs 140=some R2
 f141:pg.fs 141=some R1
 f142:pg.fs 142=some KE
 f143:pg.fs 143=some R0
 f144:pg.fs 144=some RZ
 f145:pg.fs 145=some ZB
 f146:pg.fs 146=some KD
 f147:pg.fs 147=some RX
 f148:pg.fs 148=some A2
 f171:pg.fs 171=some AY
 f175:pg.fs 175=some RV
 f176:pg.fs 176=some J9
 f177:pg.fs 177=some HB
 f178:pg.fs 178=some J8
 f179:pg.fs 179=some Y9
 f180:pg.fs 180=some RU
 f181:pg.fs 181=some RT
 f182:pg.fs 182=some RS
 f183:pg.fs 183=some aEg
 f184:pg.fs 184=some J7
 f205:pg.fs 205=some J6
 f206:pg.fs 206=some o8
 f207:pg.fs 207=some J5
 f208:pg.fs 208=some aEe
 f209:pg.fs 209=some G6
structure KOK(k:aA):Prop where
 nl:k.vars.nl=true->k.vars.es=[]
 ks:∀q∈k.aSf.es,q.body.ok/\q.index.ok/\k.vars.es.length+9+q.body.sz<=big/\k.vars.es.length+9+q.index.sz<=big
 sz:∀q∈k.aSf.es,q.body.sz+q.index.sz+2<=big
 sm:∀q∈k.aSf.es,k.vars.es.length+q.body.sz+q.index.sz<=1048576
section
variable{pg:Pg}
theorem aEE(C:Code pg)(A:Ora pg)(k:aA)(hnl':k.vars.nl=true->k.vars.es=[])(hks:∀q∈k.aSf.es,q.body.ok/\q.index.ok/\k.vars.es.length+9+q.body.sz<=big/\k.vars.es.length+9+q.index.sz<=big):Ret pg 28 [k.av] (.tup [.int .i64 (cY k).1,.int .i64 (cY k).2]):=by
 have B:=ZC A C.f57 C.f91 C.f126 C.f108 C.f94 C.f132 C.f133 C.f134 C.f171;have S:=HI A;have h51:∀l:Lin,Ret pg 51 [l.av] (.bool (fU l)):=c51 C.f51 C.f89 B.name;have h59:∀(nl cl:Bool)(ls:List Lin),ls.length<=big->∀(nl' cl':Bool)(vars:List Str),vars.length<=big->Ret pg 59 [.sl nl (ls.map Lin.av) cl,.sl nl' (vars.map Str.av) cl'] (.bool (d4 ls vars)):=
  λnl cl ls hb nl' cl' vars hb'=>PO (g:=97) C.f59 h51 C.f96 C.f95 C.f137 C.f97 C.f98 C.f138 nl cl ls hb nl' cl' vars hb'
 have h183:∀(nl cl:Bool)(ls:List Lin),ls.length<=big->∀(nl' cl':Bool)(vars:List Str),vars.length<=big->Ret pg 183 [.sl nl (ls.map Lin.av) cl,.sl nl' (vars.map Str.av) cl'] (.bool (d4 ls vars)):=
  λnl cl ls hb nl' cl' vars hb'=>PO (g:=208) C.f183 h51 C.f96 C.f95 C.f137 C.f208 C.f98 C.f138 nl cl ls hb nl' cl' vars hb'
 have h101:=c101 B C.f101;have h139:=c139 B C.f139 C.f175 C.f205 C.f176 h51;have h100:=c100 C.f100 h101 h139;have h62:∀(t:Typ)(nl cl:Bool)(vars:List Str),vars.length<=big->Ret pg 62 [t.av,.sl nl (vars.map Str.av) cl] (.bool (hY t vars)):=λt nl cl vars hb=>c62 C.f62 h100 h101 h59 t nl cl vars hb;have h61:=c61 C.f61 h62;have h43:∀k:aA,Ret pg 43 [k.av] (.bool (bJ k)):=c43 B C.f43 (c58 B C.f58) h59 C.f60 C.f99 h61;have h140:∀op,bQ pg 140 [.str op] (kV op):=c140 C.f140 C.f177 C.f107;have h111:=c111 C.f111 C.f148 h140;have h70:∀(nl cl:Bool)(fn:List aP),fn.length<=big->∀n:Int,Ret pg 70 [.sl nl (fn.map aP.av) cl,.int .i64 n] (.bool (eO fn n)):=λnl cl fn hb n=>c70 C.f70 h111 nl cl fn hb n;have h182:∀(p:aC),p.aSj.length<=big->∀(nl cl:Bool)(vars:List Str),vars.length<=big->∀v:Int,Ret pg 182 [p.av,.sl nl (vars.map Str.av) cl,.int .i64 v] (.bool (gV p vars v)):=
  λp hp nl cl vars hb v=>c182 B.name C.f182 C.f206 C.f148 C.f207 C.f98 C.f138 h70 h140 p hp nl cl vars hb v
 have h147:∀p:aC,p.ok->∀(nl cl:Bool)(vars:List Str),vars.length+p.sz<=big->∀v:Int,Ret pg 147 [p.av,.sl nl (vars.map Str.av) cl,.int .i64 v] (.bool (jO v p vars)):=
  λp hp nl cl vars hb v=>c147 C.f147 h182 h183 C.f184 C.f209 v p hp nl cl vars hb
 have h109:∀p:aC,p.ok->∀(nl cl:Bool)(vars:List Str),vars.length+p.sz<=big->∀v:Int,Ret pg 109 [p.av,.sl nl (vars.map Str.av) cl,.int .i64 v] (.bool (jQ p vars v)):=
  λp hp nl cl vars hb v=>c109 C.f109 C.f146 h147 p hp nl cl vars hb v
 have h180:=c180 C.f180 C.f181;have h179:∀(nl cl nl' cl':Bool)(es es':List aP),es.length<=big->Ret pg 179 [.sl nl (es.map aP.av) cl,.sl nl' (es'.map aP.av) cl',.fn 180 []] (.bool (eqL hZ es es')):=λnl cl nl' cl' es es' hb=>c179 C.f179 h180 nl cl nl' cl' es es' hb;have h144:∀(nl cl nl' cl':Bool)(es es':List aP),es.length<=big->Ret pg 144 [.sl nl (es.map aP.av) cl,.sl nl' (es'.map aP.av) cl'] (.bool (eqL hZ es es')):=λnl cl nl' cl' es es' hb=>c144 C.f144 h179 nl cl nl' cl' es es' hb;have h67a:∀(nl cl nl' cl':Bool)(es es':List Lin),es.length<=big->Ret pg 67 [.sl nl (es.map Lin.av) cl,.sl nl' (es'.map Lin.av) cl',.fn 143 []] (.bool (eqL cN es es')):=λnl cl nl' cl' es es' hb=>c67 C.f67 143 (c143 C.f143 C.f106) nl cl nl' cl' es es' hb;have h67b:∀(nl cl nl' cl':Bool)(es es':List Lin),es.length<=big->Ret pg 67 [.sl nl (es.map Lin.av) cl,.sl nl' (es'.map Lin.av) cl',.fn 68 []] (.bool (eqL cN es es')):=λnl cl nl' cl' es es' hb=>c67 C.f67 68 (c68 C.f68 C.f106) nl cl nl' cl' es es' hb;have h105:=c105 C.f105 h67a h144 C.f145;have h66:=c66 C.f66 h105;have h65:=c65 C.f65 (c104 C.f104 C.f67 C.f142 C.f106);have h102:∀(op:List UInt8)(nl cl:Bool)(aSj:List Bool),aSj.length<=big->Ret pg 102 [.str op,.sl nl (aSj.map AV.bool) cl] (.bool (gX op aSj)):=λop nl cl aSj hb=>c102 C.f102 h140 C.f141 C.f178 op nl cl aSj hb;have h64:∀(nl cl:Bool)(code:List aP),code.length<=16777216->∀(nl' cl':Bool)(args:List Bool),args.length<=16777216->(nl'=true->args=[])->Ret pg 64 [.sl nl (code.map aP.av) cl,.sl nl' (args.map AV.bool) cl'] (.bool (fD code args)):=
  λnl cl code hb nl' cl' args hb' hn=>c64 C.f64 C.f103 h102 nl cl code hb nl' cl' args hb' hn
 have h63:∀(k:aA)(nl cl:Bool)(there:List Bool)(m:Int),∀p:aC,p.ok->Ret pg 63 [.fp (.agg (iJ k nl cl there m)),p.av] (.bool (fO k.aSe.es p)):=λk nl cl there m p hp=>c63 C.f63 h64 h102 k nl cl there m p hp;have h69:∀(k:aA),(k.vars.nl=true->k.vars.es=[])->∀(nl cl:Bool)(there:List Bool),there.length=k.aSe.es.length->∀(m:Int)(p:aC),p.ok->∀n:Nat,n<=9->k.vars.es.length+n+p.sz<=big->∀nt:Int,
   Ret pg 69 [.fp (.agg (iJ k nl cl there m)),p.av,.int .i64 n,.int .i64 nt] (.bool (gB k there p n nt)):=
  λk hnl nl cl there hth m p hp n hn hsz nt=>c69 B S C.f69 C.f107 h109 C.f48 C.f74 C.f110 C.f45 C.f71 k hnl nl cl there hth m p hp n hn hsz nt
 exact c28 C.f28 h43 (λk hnl hin hvals nl cl there hth m i q hq hbo hio hbs his=>c44 C.f44 h63 h64 h65 h66 h67b h69 h70 k hnl hin hvals nl cl there hth m i q hq hbo hio hbs his) C.f45 C.f46 C.f71 k hnl' hks
theorem aRZ(C:Code pg)(A:Ora pg)(k:aA)(hk:KOK k):bQ pg 9 [k.av] (lI k):=by have S:=HI A;exact c9 C.f9 (λk a b=>aEE C A k a b) (λnl cl a b n hn=>c29 C.f29 C.f47 C.f73 nl cl a b n hn) (λq h1 h2 h3=>c30 S C.f30 C.f48 C.f74 q h1 h2 h3) k hk.nl hk.ks (λq hq=>by have:=hk.sz q hq;omega)
theorem aSa(C:Code pg)(k:aA)(hk:KOK k):Ret pg 8 [k.av] (.bool (qT k)):=by have h25:∀p:aC,p.ok->Ret pg 25 [p.av] (.bool (DD p)):=λp hp=>c25 C.f25 C.f40 C.f41 C.f42 C.f56 C.f26 p hp;have h27:∀t:Typ,Ret pg 27 [t.av] (.bool (AF t)):=c27 C.f27 C.f42 C.f56;exact c8 C.f8 h25 C.f26 h27 k (λq hq=>⟨(hk.ks q hq).1,(hk.ks q hq).2.1⟩)
end
end
section
structure H7{H:Type}(b:DataW H->Nat)(bs:List (DataW H)->Nat):Prop where
 nil:bs []=0
 cons:∀x r,bs (x::r)=b x+bs r
 sl:∀e s,b (.slice e s)=bs e+bs s+1
 agg:∀p,b (.agg p)=bs p+1
 str:∀s,b (.lit (.string s))=s.length+1
 one:∀d,1<=b d
theorem H7.sum{H:Type}{b:DataW H->Nat}{bs:List (DataW H)->Nat}(B:H7 b bs):∀l,bs l=(l.map b).sum
 |[]=>by simp[B.nil]
 |x::r=>by rw[B.cons,B.sum r];simp
theorem UA{l:List Nat}:∀{i:Nat}{m:Nat},l[i]?=some m->m<=l.sum:=by
 induction l with
 |nil=>intro i m h;simp at h
 |cons x r ih=>
  intro i m h;cases i with
  |zero=>simp at h;subst h;simp
  |succ i=>have:=ih (by simpa using h);simp;omega
theorem rZ:∀{l:List Nat},(∀m∈l,1<=m)->l.length<=l.sum
 |[],_=>by simp
 |x::r,h=>by have h1:=h x (by simp);have h2:=rZ (l:=r) (λm hm=>h m (dY _ hm));simp;omega
theorem DE{α : Type}{Pr:Nat -> α -> Prop}:∀n,(∀i,i<n->∃x,Pr i x)->∃l:List α,l.length=n/\∀i x,l[i]?=some x->Pr i x
 |0,_=>⟨[],rfl,λi x h=>by simp at h⟩
 |n+1,h=>by
  obtain⟨l,h1,h2⟩:=DE n (λi hi=>h i (by omega));obtain⟨x,hx⟩:=h n (by omega);refine⟨l++[x],by simp[h1],λi y hy=>?_⟩;by_cases hi:i<l.length;rw[List.getElem?_append_left hi]at hy;exact h2 i y hy;rw[yA (by omega)]at hy;have:i-l.length=0:=by rcases Nat.eq_zero_or_pos (i-l.length) with q|q;exact q;rw[eK (by simp;omega)]at hy;cases hy
  rw[this]at hy;simp at hy;subst hy;have:i=n:=by omega
  subst this;exact hx
theorem bA.app{α β : Type}{R : α -> β -> Prop}{a b:List α}{c d:List β}(h1:bA R a c)(h2:bA R b d):bA R (a++b) (c++d):=by
 induction h1 with
 |nil=>exact h2
 |cons h _ ih=>exact .cons h ih
theorem bA.mk_get{α β : Type}{R : α -> β -> Prop}:∀{l:List α}{m:List β},l.length=m.length->(∀(i:Nat)(x : α)(y : β),l[i]?=some x->m[i]?=some y->R x y)->bA R l m
 |[],[],_,_ => .nil
 |x::r,y::s,hl,h => .cons (h 0 x y rfl rfl) (bA.mk_get (by simpa using hl) (λi a b ha hb=>h (i+1) a b (by simpa using ha) (by simpa using hb)))
 |[],_::_,hl,_=>by simp at hl
 |_::_,[],hl,_=>by simp at hl
theorem bA.piece{α β : Type}{R : α -> β -> Prop}{a b:List α}{cs:List β}{o n:Nat}(h1:bA R a ((cs.drop o).take n))(h2:bA R b (cs.drop (o+n))):bA R (a++b) (cs.drop o):=by have:=h1.app h2;rwa [<-List.drop_drop,List.take_append_drop]at this
theorem bA.done{α β : Type}{R : α -> β -> Prop}{cs:List β}{o:Nat}(h:cs.length=o):bA R [] (cs.drop o):=by subst h;simp;exact .nil
section
variable{H:Type}{enc:TypeId×Value->H}{P:Program}{w:World}{num:Nm}{ρ : Rho}{b:DataW H->Nat}{bs:List (DataW H)->Nat}
def noF(_:Nat):Prop:=False
def Rd(enc:TypeId×Value->H)(P:Program)(w:World)(num:Nm)(ρ : Rho)(b:DataW H->Nat)(N:Nat)(t:TypeId){α : Type}(cells : α -> List AV)(good : α -> Nat->Prop):Prop:=
 ∀fuel,fuel<=N->∀cs d ps,DataW.trod enc P w 0 (λ_=>true) true fuel t cs=some (d,ps)->b d<=1048576->∃x : α,bA (Rv num ρ w noF) (cells x) cs/\good x (b d)
theorem Rd.int{N:Nat}{t:TypeId}(ht:P.underlying t=some (.int .i64)):Rd enc P w num ρ b N t (λn:Int=>[aH n]) (λ_ _=>True):=by intro fuel hN cs d ps h _;obtain⟨n,rfl,_,_⟩:=DataW.trod_int ht h;exact⟨n,.cons (.int _ _) .nil,trivial⟩
theorem Rd.bool{N:Nat}{t:TypeId}(ht:P.underlying t=some .bool):Rd enc P w num ρ b N t (λn:Bool=>[.bool n]) (λ_ _=>True):=by intro fuel hN cs d ps h _;obtain⟨n,rfl,_⟩:=DataW.trod_bool ht h;exact⟨n,.cons (.bool _) .nil,trivial⟩
theorem Rd.str{N:Nat}(B:H7 b bs){t:TypeId}(ht:P.underlying t=some .string):Rd enc P w num ρ b N t (λs:Str=>[Str.av s]) (λ_ _=>True):=by
 intro fuel hN cs d ps h hb;obtain⟨s,rfl,hx,_⟩:=DataW.trod_string ht h;cases hx;rw[B.str]at hb;have hl:s.data.toList.length<=big:=by simp only[big];omega
 refine⟨⟨s.data.toList,hl⟩,.cons ?_ .nil,trivial⟩;exact Rv.str (num:=num) (ρ := ρ) (w:=w) (F:=noF) s.data.toList
theorem SJ{a:Addr}{n:Nat}{cs:List Value}(h:w.cells? 0 a n=some cs):cs.length=n/\∀j,j<n->w.cell? (a.add j)=cs[j]?:=by
 simp only[World.cells?,Nat.zero_le,aN]at h
 have hl:∀(l:List Nat)(r:List Value),(l.mapM λi=>w.cell? (a.add i))=some r->r.length=l.length/\∀(j k:Nat),l[j]?=some k->w.cell? (a.add k)=r[j]?:=by
  intro l
  induction l with
  |nil=>intro r hr;simp at hr;subst hr;exact⟨rfl,λj k hk=>by simp at hk⟩
  |cons x l ih=>
   intro r hr;simp only[List.mapM_cons,Option.bind_eq_bind,Option.bind_eq_some_iff,Option.pure_def,cF]at hr;obtain⟨v,hv,r',hr',rfl⟩:=hr;obtain⟨i1,i2⟩:=ih r' hr';refine⟨by simp[i1],?_⟩;intro j k hk;cases j with
   |zero=>simp at hk;subst hk;simpa using hv
   |succ j=>simpa using i2 j k (by simpa using hk)
 obtain⟨h1,h2⟩:=hl _ _ h;rw[List.length_range]at h1;exact⟨h1,λj hj=>h2 j j (by rw[List.getElem?_range hj])⟩
theorem KS(a:Addr):a.add 0=a:=by simp[Addr.add]
theorem SX(b off n:Nat):(Addr.add ⟨b,off,none⟩ n)=⟨b,off+n,none⟩:=by unfold Addr.add;split;rename_i h0;simp[h0];rfl
theorem Rd.slice{N:Nat}(B:H7 b bs){t e:TypeId}{sz:Nat}{α : Type}{cells : α -> List AV}{good : α -> Nat->Prop}(enc1 : α -> AV)(ht:P.underlying t=some (.slice e))(hce:P.cellsOf e=sz)(hsz:0<sz)
  (hcells:∀x,(enc1 x).cells=cells x) (hlen:∀x,(cells x).length=sz) (he:Rd enc P w num ρ b N e cells good) :
  Rd enc P w num ρ b (N+1) t (λs:Sl α => [s.av enc1]) (λs n=>(s.nl=true->s.es=[])/\∃ms:List Nat,bA good s.es ms/\ms.sum+1<=n/\∀m∈ms,1<=m):=by
 intro fuel hN cs d ps h hb;rcases DataW.trod_slice ht h with ⟨rfl,hx⟩|⟨a,len,cap,elems,rest,n,hfn,rfl,hx,_,hlc,hcm,hel,hes,_,_⟩
 cases hx;exact⟨⟨true,[],false,by simp⟩,.cons (.nsl _) .nil,λ_=>rfl,[],.nil,by simpa using B.one _,by simp⟩;cases hx;rw[B.sl,B.sum,B.sum]at hb ⊢;rw[hce]at hes;have hel':elems.length=len:=hel
 have key:∀i,i<len->∃x : α,∃cs',w.cells? 0 (a.add (i*sz)) sz=some cs'/\bA (Rv num ρ w noF) (cells x) cs'/\good x ((elems.map λy=>b y.1).getD i 0):=by
  intro i hi;have h1:=hes i hi;rw[aW (by omega),Option.bind_eq_some_iff]at h1;obtain⟨cs',h2,h3⟩:=h1;have hm:((elems.map (·.1)).map b)[i]?=some (b (elems[i]'(by omega)).1):=by simp[aW (show i<elems.length by omega)]
  have hle:=UA hm;obtain⟨x,h4,h5⟩:=he n (by omega) cs' (elems[i]'(by omega)).1 (elems[i]'(by omega)).2 h3 (by omega);refine⟨x,cs',h2,h4,?_⟩;rw[fY];simpa[aW (show i<elems.length by omega)] using h5
 obtain⟨es,hesl,hese⟩:=DE len key;have hbig:es.length<=big:=by
  have h1:((elems.map (·.1)).map b).length<=((elems.map (·.1)).map b).sum:=rZ (λm hm=>by
   obtain⟨d,_,rfl⟩:=List.mem_map.1 hm;exact B.one d)
  simp only[aM]at h1;simp only[big];omega
 refine⟨⟨false,es,false,hbig⟩,.cons ?_ .nil,(by intro h;cases h),(elems.map λy=>b y.1),?_,?_,?_⟩;have hne:es≠[]->a.spot=none:=by
  intro h0;have hl0:0<len:=by rw[<-hesl];exact List.length_pos_iff.2 h0
  obtain⟨x,cs',h1,_,_⟩:=key 0 hl0;obtain⟨c1,c2⟩:=SJ h1;have:=c2 0 hsz;rw[Nat.zero_mul,KS,KS,aW (by omega)]at this;simp only[World.cell?]at this;split at this;cases hs:a.spot with
  |none=>rfl
  |some v=>rw[hs]at this;simp at this
  cases this
 obtain⟨ab,ao,asp⟩:=a;have hcell:∀(i:Nat)(x : α),es[i]?=some x->∃cs',cs'.length=sz/\bA (Rv num ρ w noF) (cells x) cs'/\∀j,j<sz->w.cell? ⟨ab,ao+(i*sz+j),none⟩=cs'[j]?:=by
  intro i x hx;obtain⟨cs',h1,h2,_⟩:=hese i x hx;have hn0:es≠[]:=by intro h;subst h;simp at hx
  have hsp:=hne hn0;simp only at hsp;subst hsp;obtain⟨c1,c2⟩:=SJ h1;refine⟨cs',c1,h2,λj hj=>?_⟩;have:=c2 j hj;rw[SX,SX,eX]at this;exact this
 have hmap:∀(i:Nat)(e':AV),(es.map enc1)[i]?=some e'->∃x : α,es[i]?=some x/\e'=enc1 x:=by intro i e' h;rw[fX,tJ]at h;obtain⟨x,h1,h2⟩:=h;exact⟨x,h1,h2.symm⟩
 have hv:(Value.slice (some ⟨ab,ao,asp⟩) len cap) = .slice (some ⟨ab,ao,asp⟩) (es.map enc1).length cap:=by rw[aM,hesl]
 simp only[Sl.av];rw[hv];refine .sl (es.map enc1) false ab ao cap sz (λk=>(w.cell? ⟨ab,ao+k,none⟩).getD undef) (by rw[aM,hesl];exact hlc) (by intro h;cases h) ?_ ?_ ?_ ?_ asp ?_;intro h0;refine⟨λh=>h,?_⟩;obtain⟨e',r,hr⟩:=List.exists_cons_of_ne_nil h0;obtain⟨x,hx,_⟩:=hmap 0 e' (by rw[hr];rfl);obtain⟨cs',c1,_,c3⟩:=hcell 0 x hx;have h3:=c3 0 hsz;rw[aW (by omega)]at h3;by_cases hlt:ab<w.heap.size;exact hlt;simp[World.cell?,Array.getElem?_eq_none (Nat.le_of_not_lt hlt)]at h3;intro i e' h;obtain⟨x,_,rfl⟩:=hmap i e' h;rw[hcells,hlen];intro k hk;rw[aM]at hk;have hi:k / sz<es.length:=Nat.div_lt_of_lt_mul (by rw[Nat.mul_comm];exact hk);obtain⟨cs',c1,_,c3⟩:=hcell (k / sz) _ (aW hi);have hm:k % sz<sz:=Nat.mod_lt _ hsz;have h3:=c3 (k % sz) hm;have e1:k / sz*sz+k % sz=k:=by rw[Nat.mul_comm];exact Nat.div_add_mod k sz
 rw[e1,aW (by omega)]at h3;rw[h3];rfl;intro i e' j y h hy;obtain⟨x,hx,rfl⟩:=hmap i e' h;obtain⟨cs',c1,c2,c3⟩:=hcell i x hx;rw[hcells]at hy;have hj:j<sz:=by have:=(cJ.1 hy).1;rw[hlen]at this;exact this
 rw[c3 j hj,aW (by omega)];exact c2.get j y _ hy (aW (by omega));intro h0;refine hne ?_;intro h;subst h;simp at h0;refine bA.mk_get (by rw[hesl,aM,hel']) ?_;intro i x m hx hm;obtain⟨_,_,_,hg⟩:=hese i x hx;rw[fY,hm]at hg;exact hg;have:(elems.map λy=>b y.1)=(elems.map (·.1)).map b:=by simp
 rw[this];omega;intro m hm;obtain⟨y,_,rfl⟩:=List.mem_map.1 hm;exact B.one _
theorem Rd.mono{N M:Nat}{t:TypeId}{α : Type}{cells : α -> List AV}{good : α -> Nat->Prop}(h:Rd enc P w num ρ b N t cells good)(hM:M<=N):Rd enc P w num ρ b M t cells good:=
 λfuel hf=>h fuel (by omega)
theorem gL{t:TypeId}{fs:Array Field}{L:List (TypeId×Nat)}{fuel:Nat}{cs:List Value}{x:DataW H×List MemPlace}(ht:P.underlying t=some (.struct fs))(hL:fs.toList.map (λf=>(f.type,f.offset))=L)
  (h:DataW.trod enc P w 0 (λ_=>true) true fuel t cs=some x) :
  ∃(xs:List (DataW H×List MemPlace))(n:Nat),fuel=n+1/\x.1 = .agg (xs.map (·.1))/\cs.length=P.cellsOf t/\xs.length=L.length /\
   ∀(i:Nat)(p:TypeId×Nat),L[i]?=some p->DataW.trod enc P w 0 (λ_=>true) true n p.1 ((cs.drop p.2).take (P.cellsOf p.1))=xs[i]?:=by
 obtain⟨xs,n,h0,rfl,h1,h2,h3⟩:=DataW.trod_struct ht h;subst hL;refine⟨xs,n,h0,rfl,h1,by simpa using h2,?_⟩;intro i p hp;rw[fX,tJ]at hp;obtain⟨f,hf,rfl⟩:=hp;exact h3 i f (by simpa using hf)
end
end
section
structure TyP(P:Program)(tI tS tB tCoef tLin tShape tTyp tStep tPull tKer tKers sCoef sLin sTyp sStep sPull vB iE sStr:TypeId):Prop where
 uI:P.underlying tI=some (.int .i64)
 uS:P.underlying tS=some .string
 uB:P.underlying tB=some .bool
 u_tCoef:∃fs,P.underlying tCoef=some (.struct fs)/\fs.toList.map (λf=>(f.type,f.offset))=[(tS,0),(tI,1)]
 u_tLin:∃fs,P.underlying tLin=some (.struct fs)/\fs.toList.map (λf=>(f.type,f.offset))=[(tI,0),(sCoef,1)]
 u_tShape:∃fs,P.underlying tShape=some (.struct fs)/\fs.toList.map (λf=>(f.type,f.offset))=[(tS,0),(sLin,1)]
 u_tTyp:∃fs,P.underlying tTyp=some (.struct fs)/\fs.toList.map (λf=>(f.type,f.offset))=[(tS,0),(tShape,1)]
 u_tStep:∃fs,P.underlying tStep=some (.struct fs)/\fs.toList.map (λf=>(f.type,f.offset))=[(tS,0),(tI,1),(iE,2)]
 u_tPull:∃fs,P.underlying tPull=some (.struct fs)/\fs.toList.map (λf=>(f.type,f.offset))=[(tS,0),(tI,1),(tI,2),(tS,3),(sLin,4),(tB,5),(tI,6),(sStep,7),(sPull,8)]
 u_tKer:∃fs,P.underlying tKer=some (.struct fs)/\fs.toList.map (λf=>(f.type,f.offset))=[(tI,0),(tI,1),(sLin,2),(tPull,3),(sStep,12),(tI,13),(tPull,14),(tI,23)]
 u_tKers:∃fs,P.underlying tKers=some (.struct fs)/\fs.toList.map (λf=>(f.type,f.offset))=[(sStr,0),(sLin,1),(tI,2),(sTyp,3),(vB,4),(iE,5)]
 u_sCoef:P.underlying sCoef=some (.slice tCoef)
 u_sLin:P.underlying sLin=some (.slice tLin)
 u_sTyp:P.underlying sTyp=some (.slice tTyp)
 u_sStep:P.underlying sStep=some (.slice tStep)
 u_sPull:P.underlying sPull=some (.slice tPull)
 u_sKer:P.underlying vB=some (.slice tKer)
 u_sInt:P.underlying iE=some (.slice tI)
 u_sStr:P.underlying sStr=some (.slice tS)
 c_tI:P.cellsOf tI=1
 c_tS:P.cellsOf tS=1
 c_tB:P.cellsOf tB=1
 c_tCoef:P.cellsOf tCoef=2
 c_tLin:P.cellsOf tLin=2
 c_tShape:P.cellsOf tShape=2
 c_tTyp:P.cellsOf tTyp=3
 c_tStep:P.cellsOf tStep=3
 c_tPull:P.cellsOf tPull=9
 c_tKer:P.cellsOf tKer=24
 c_tKers:P.cellsOf tKers=6
 c_sCoef:P.cellsOf sCoef=1
 c_sLin:P.cellsOf sLin=1
 c_sTyp:P.cellsOf sTyp=1
 c_sStep:P.cellsOf sStep=1
 c_sPull:P.cellsOf sPull=1
 c_sKer:P.cellsOf vB=1
 c_sInt:P.cellsOf iE=1
 c_sStr:P.cellsOf sStr=1
section
variable{H:Type}{enc:TypeId×Value->H}{P:Program}{w:World}{num:Nm}{ρ : Rho}{b:DataW H->Nat}{bs:List (DataW H)->Nat}{tI tS tB tCoef tLin tShape tTyp tStep tPull tKer tKers sCoef sLin sTyp sStep sPull vB iE sStr:TypeId}
variable(B:H7 b bs)(T:TyP P tI tS tB tCoef tLin tShape tTyp tStep tPull tKer tKers sCoef sLin sTyp sStep sPull vB iE sStr)
include B T
theorem aBE(N:Nat):Rd enc P w num ρ b N tCoef (λx:dQ=>[Str.av x.v]++([aH x.c]++[])) (λ_ _=>True):=by
 intro fuel hN cs d ps h hb;obtain⟨fs,hu,hL⟩:=T.u_tCoef;obtain⟨xs,n,hn,hx,hcl,hl,hf⟩:=gL hu hL h;rw[T.c_tCoef]at hcl;obtain⟨y0,y1,rfl⟩:∃y0 y1,xs=[y0,y1]:=by
  match xs,hl with
  |[y0,y1],_=>exact⟨y0,y1,rfl⟩
 have hx':d = .agg [y0.1,y1.1]:=hx;subst hx';rw[B.agg]at hb ⊢;simp only[B.cons,B.nil]at hb ⊢;have f0:_=some y0:=hf 0 (tS,0) rfl;have f1:_=some y1:=hf 1 (tI,1) rfl;simp only[T.c_tI,T.c_tS]at f0 f1;obtain⟨a0,p0,g0⟩:=(Rd.str (enc:=enc) (w:=w) (num:=num) (ρ := ρ) (N:=n) B T.uS) n (aX _) _ y0.1 y0.2 f0 (by omega);obtain⟨a1,p1,g1⟩:=(Rd.int (enc:=enc) (w:=w) (num:=num) (ρ := ρ) (b:=b) (N:=n) T.uI) n (aX _) _ y1.1 y1.2 f1 (by omega);refine⟨⟨a0,a1⟩,?_,trivial⟩;have q:=(p0.piece (p1.piece (bA.done (by omega))))
 rw[List.drop_zero]at q;exact q
theorem aBF(N:Nat):Rd enc P w num ρ b N sCoef (λs:Sl dQ=>[s.av dQ.av]) (λs n=>(s.nl=true->s.es=[])/\∃ms:List Nat,bA (λ_ _=>True) s.es ms/\ms.sum+1<=n/\∀m∈ms,1<=m):=
 (Rd.slice B (N:=N) (sz:=2) dQ.av T.u_sCoef T.c_tCoef (by decide) (λx=>rfl) (λx=>rfl) (aBE B T N)).mono (Nat.le_succ N)
theorem aFj(N:Nat):Rd enc P w num ρ b N tLin (λx:Lin=>[aH x.c]++([x.ts.av dQ.av]++[])) (λ_ _=>True):=by
 intro fuel hN cs d ps h hb;obtain⟨fs,hu,hL⟩:=T.u_tLin;obtain⟨xs,n,hn,hx,hcl,hl,hf⟩:=gL hu hL h;rw[T.c_tLin]at hcl;obtain⟨y0,y1,rfl⟩:∃y0 y1,xs=[y0,y1]:=by
  match xs,hl with
  |[y0,y1],_=>exact⟨y0,y1,rfl⟩
 have hx':d = .agg [y0.1,y1.1]:=hx;subst hx';rw[B.agg]at hb ⊢;simp only[B.cons,B.nil]at hb ⊢;have f0:_=some y0:=hf 0 (tI,0) rfl;have f1:_=some y1:=hf 1 (sCoef,1) rfl;simp only[T.c_sCoef,T.c_tI]at f0 f1;obtain⟨a0,p0,g0⟩:=(Rd.int (enc:=enc) (w:=w) (num:=num) (ρ := ρ) (b:=b) (N:=n) T.uI) n (aX _) _ y0.1 y0.2 f0 (by omega);obtain⟨a1,p1,g1⟩:=(aBF (enc:=enc) (w:=w) (num:=num) (ρ := ρ) B T n) n (aX _) _ y1.1 y1.2 f1 (by omega);refine⟨⟨a0,a1⟩,?_,trivial⟩;have q:=(p0.piece (p1.piece (bA.done (by omega))))
 rw[List.drop_zero]at q;exact q
theorem D4(N:Nat):Rd enc P w num ρ b N sLin (λs:Sl Lin=>[s.av Lin.av]) (λs n=>(s.nl=true->s.es=[])/\∃ms:List Nat,bA (λ_ _=>True) s.es ms/\ms.sum+1<=n/\∀m∈ms,1<=m):=
 (Rd.slice B (N:=N) (sz:=2) Lin.av T.u_sLin T.c_tLin (by decide) (λx=>rfl) (λx=>rfl) (aFj B T N)).mono (Nat.le_succ N)
theorem ZZ(N:Nat):Rd enc P w num ρ b N tShape (λx:cZ=>[Str.av x.row]++([x.aSi.av Lin.av]++[])) (λ_ _=>True):=by
 intro fuel hN cs d ps h hb;obtain⟨fs,hu,hL⟩:=T.u_tShape;obtain⟨xs,n,hn,hx,hcl,hl,hf⟩:=gL hu hL h;rw[T.c_tShape]at hcl;obtain⟨y0,y1,rfl⟩:∃y0 y1,xs=[y0,y1]:=by
  match xs,hl with
  |[y0,y1],_=>exact⟨y0,y1,rfl⟩
 have hx':d = .agg [y0.1,y1.1]:=hx;subst hx';rw[B.agg]at hb ⊢;simp only[B.cons,B.nil]at hb ⊢;have f0:_=some y0:=hf 0 (tS,0) rfl;have f1:_=some y1:=hf 1 (sLin,1) rfl;simp only[T.c_sLin,T.c_tS]at f0 f1;obtain⟨a0,p0,g0⟩:=(Rd.str (enc:=enc) (w:=w) (num:=num) (ρ := ρ) (N:=n) B T.uS) n (aX _) _ y0.1 y0.2 f0 (by omega);obtain⟨a1,p1,g1⟩:=(D4 (enc:=enc) (w:=w) (num:=num) (ρ := ρ) B T n) n (aX _) _ y1.1 y1.2 f1 (by omega);refine⟨⟨a0,a1⟩,?_,trivial⟩;have q:=(p0.piece (p1.piece (bA.done (by omega))))
 rw[List.drop_zero]at q;exact q
theorem aFi(N:Nat):Rd enc P w num ρ b N tTyp (λx:Typ=>[Str.av x.aSl]++(([Str.av x.aSh.row]++([x.aSh.aSi.av Lin.av]++[]))++[])) (λ_ _=>True):=by
 intro fuel hN cs d ps h hb;obtain⟨fs,hu,hL⟩:=T.u_tTyp;obtain⟨xs,n,hn,hx,hcl,hl,hf⟩:=gL hu hL h;rw[T.c_tTyp]at hcl;obtain⟨y0,y1,rfl⟩:∃y0 y1,xs=[y0,y1]:=by
  match xs,hl with
  |[y0,y1],_=>exact⟨y0,y1,rfl⟩
 have hx':d = .agg [y0.1,y1.1]:=hx;subst hx';rw[B.agg]at hb ⊢;simp only[B.cons,B.nil]at hb ⊢;have f0:_=some y0:=hf 0 (tS,0) rfl;have f1:_=some y1:=hf 1 (tShape,1) rfl;simp only[T.c_tS,T.c_tShape]at f0 f1;obtain⟨a0,p0,g0⟩:=(Rd.str (enc:=enc) (w:=w) (num:=num) (ρ := ρ) (N:=n) B T.uS) n (aX _) _ y0.1 y0.2 f0 (by omega);obtain⟨a1,p1,g1⟩:=(ZZ (enc:=enc) (w:=w) (num:=num) (ρ := ρ) B T n) n (aX _) _ y1.1 y1.2 f1 (by omega);refine⟨⟨a0,a1⟩,?_,trivial⟩;have q:=(p0.piece (p1.piece (bA.done (by omega))))
 rw[List.drop_zero]at q;exact q
theorem aFm(N:Nat):Rd enc P w num ρ b N sTyp (λs:Sl Typ=>[s.av Typ.av]) (λs n=>(s.nl=true->s.es=[])/\∃ms:List Nat,bA (λ_ _=>True) s.es ms/\ms.sum+1<=n/\∀m∈ms,1<=m):=
 (Rd.slice B (N:=N) (sz:=3) Typ.av T.u_sTyp T.c_tTyp (by decide) (λx=>rfl) (λx=>rfl) (aFi B T N)).mono (Nat.le_succ N)
theorem YE(N:Nat):Rd enc P w num ρ b N iE (λs:Sl Int=>[s.av aH]) (λs n=>(s.nl=true->s.es=[])/\∃ms:List Nat,bA (λ_ _=>True) s.es ms/\ms.sum+1<=n/\∀m∈ms,1<=m):=
 (Rd.slice B (N:=N) (sz:=1) aH T.u_sInt T.c_tI (by decide) (λx=>rfl) (λx=>rfl) (Rd.int T.uI)).mono (Nat.le_succ N)
theorem aFn(N:Nat):Rd enc P w num ρ b N sStr (λs:Sl Str=>[s.av Str.av]) (λs n=>(s.nl=true->s.es=[])/\∃ms:List Nat,bA (λ_ _=>True) s.es ms/\ms.sum+1<=n/\∀m∈ms,1<=m):=
 (Rd.slice B (N:=N) (sz:=1) Str.av T.u_sStr T.c_tS (by decide) (λx=>rfl) (λx=>rfl) (Rd.str B T.uS)).mono (Nat.le_succ N)
theorem aBC(N:Nat):Rd enc P w num ρ b N tStep (λx:aP=>[Str.av x.op]++([aH x.num]++([x.args.av aH]++[]))) (λ_ _=>True):=by
 intro fuel hN cs d ps h hb;obtain⟨fs,hu,hL⟩:=T.u_tStep;obtain⟨xs,n,hn,hx,hcl,hl,hf⟩:=gL hu hL h;rw[T.c_tStep]at hcl;obtain⟨y0,y1,y2,rfl⟩:∃y0 y1 y2,xs=[y0,y1,y2]:=by
  match xs,hl with
  |[y0,y1,y2],_=>exact⟨y0,y1,y2,rfl⟩
 have hx':d = .agg [y0.1,y1.1,y2.1]:=hx;subst hx';rw[B.agg]at hb ⊢;simp only[B.cons,B.nil]at hb ⊢;have f0:_=some y0:=hf 0 (tS,0) rfl;have f1:_=some y1:=hf 1 (tI,1) rfl;have f2:_=some y2:=hf 2 (iE,2) rfl;simp only[T.c_sInt,T.c_tI,T.c_tS]at f0 f1 f2;obtain⟨a0,p0,g0⟩:=(Rd.str (enc:=enc) (w:=w) (num:=num) (ρ := ρ) (N:=n) B T.uS) n (aX _) _ y0.1 y0.2 f0 (by omega);obtain⟨a1,p1,g1⟩:=(Rd.int (enc:=enc) (w:=w) (num:=num) (ρ := ρ) (b:=b) (N:=n) T.uI) n (aX _) _ y1.1 y1.2 f1 (by omega);obtain⟨a2,p2,g2⟩:=(YE (enc:=enc) (w:=w) (num:=num) (ρ := ρ) B T n) n (aX _) _ y2.1 y2.2 f2 (by omega);refine⟨⟨a0,a1,a2⟩,?_,trivial⟩;have q:=(p0.piece (p1.piece (p2.piece (bA.done (by omega)))))
 rw[List.drop_zero]at q;exact q
theorem PL(N:Nat):Rd enc P w num ρ b N sStep (λs:Sl aP=>[s.av aP.av]) (λs n=>(s.nl=true->s.es=[])/\∃ms:List Nat,bA (λ_ _=>True) s.es ms/\ms.sum+1<=n/\∀m∈ms,1<=m):=
 (Rd.slice B (N:=N) (sz:=3) aP.av T.u_sStep T.c_tStep (by decide) (λx=>rfl) (λx=>rfl) (aBC B T N)).mono (Nat.le_succ N)
omit B T in
theorem aBn:∀{l:List aC}{ms:List Nat},bA (fun(p:aC) n=>p.ok/\p.sz<=n) l ms->(∀p∈l,p.ok)/\aC.szL l<=ms.sum
 |_,_,.nil=>⟨by simp,by simp[aC.szL]⟩
 |_,_,.cons h r=>by obtain⟨h1,h2⟩:=aBn r;refine⟨?_,by simp[aC.szL];omega⟩;intro p hp;rcases dA.1 hp with rfl|hp;exact h.1;exact h1 p hp
theorem IR(N:Nat)(hs:∀n,n+1<=N->Rd enc P w num ρ b n sPull (λs:Sl aC=>[s.av aC.av]) (λs n=>(s.nl=true->s.es=[])/\∃ms:List Nat,bA (λ(p:aC) n=>p.ok/\p.sz<=n) s.es ms/\ms.sum+1<=n/\∀m∈ms,1<=m)):Rd enc P w num ρ b N tPull (λx:aC=>[Str.av x.op]++([aH x.num]++([aH x.value]++([Str.av x.name]++([x.at_.av Lin.av]++([.bool x.dyn]++([aH x.check]++([x.fn.av aP.av]++([x.kav]++[]))))))))) (λp n=>p.ok/\p.sz<=n):=by
 intro fuel hN cs d ps h hb;obtain⟨fs,hu,hL⟩:=T.u_tPull;obtain⟨xs,n,hn,hx,hcl,hl,hf⟩:=gL hu hL h;rw[T.c_tPull]at hcl;obtain⟨y0,y1,y2,y3,y4,y5,y6,y7,y8,rfl⟩:∃y0 y1 y2 y3 y4 y5 y6 y7 y8,xs=[y0,y1,y2,y3,y4,y5,y6,y7,y8]:=by
  match xs,hl with
  |[y0,y1,y2,y3,y4,y5,y6,y7,y8],_=>exact⟨y0,y1,y2,y3,y4,y5,y6,y7,y8,rfl⟩
 have hx':d = .agg [y0.1,y1.1,y2.1,y3.1,y4.1,y5.1,y6.1,y7.1,y8.1]:=hx;subst hx';rw[B.agg]at hb ⊢;simp only[B.cons,B.nil]at hb ⊢;have f0:_=some y0:=hf 0 (tS,0) rfl;have f1:_=some y1:=hf 1 (tI,1) rfl;have f2:_=some y2:=hf 2 (tI,2) rfl;have f3:_=some y3:=hf 3 (tS,3) rfl;have f4:_=some y4:=hf 4 (sLin,4) rfl;have f5:_=some y5:=hf 5 (tB,5) rfl;have f6:_=some y6:=hf 6 (tI,6) rfl;have f7:_=some y7:=hf 7 (sStep,7) rfl;have f8:_=some y8:=hf 8 (sPull,8) rfl;simp only[T.c_sLin,T.c_sPull,T.c_sStep,T.c_tB,T.c_tI,T.c_tS]at f0 f1 f2 f3 f4 f5 f6 f7 f8;obtain⟨a0,p0,g0⟩:=(Rd.str (enc:=enc) (w:=w) (num:=num) (ρ := ρ) (N:=n) B T.uS) n (aX _) _ y0.1 y0.2 f0 (by omega);obtain⟨a1,p1,g1⟩:=(Rd.int (enc:=enc) (w:=w) (num:=num) (ρ := ρ) (b:=b) (N:=n) T.uI) n (aX _) _ y1.1 y1.2 f1 (by omega);obtain⟨a2,p2,g2⟩:=(Rd.int (enc:=enc) (w:=w) (num:=num) (ρ := ρ) (b:=b) (N:=n) T.uI) n (aX _) _ y2.1 y2.2 f2 (by omega);obtain⟨a3,p3,g3⟩:=(Rd.str (enc:=enc) (w:=w) (num:=num) (ρ := ρ) (N:=n) B T.uS) n (aX _) _ y3.1 y3.2 f3 (by omega);obtain⟨a4,p4,g4⟩:=(D4 (enc:=enc) (w:=w) (num:=num) (ρ := ρ) B T n) n (aX _) _ y4.1 y4.2 f4 (by omega);obtain⟨a5,p5,g5⟩:=(Rd.bool (enc:=enc) (w:=w) (num:=num) (ρ := ρ) (b:=b) (N:=n) T.uB) n (aX _) _ y5.1 y5.2 f5 (by omega);obtain⟨a6,p6,g6⟩:=(Rd.int (enc:=enc) (w:=w) (num:=num) (ρ := ρ) (b:=b) (N:=n) T.uI) n (aX _) _ y6.1 y6.2 f6 (by omega);obtain⟨a7,p7,g7⟩:=(PL (enc:=enc) (w:=w) (num:=num) (ρ := ρ) B T n) n (aX _) _ y7.1 y7.2 f7 (by omega);obtain⟨a8,p8,g8⟩:=(hs n (by omega)) n (aX _) _ y8.1 y8.2 f8 (by omega);refine⟨.mk a0 a1 a2 a3 a4 a5 a6 a7 a8.nl a8.es a8.cl,?_,?_⟩
 rotate_left
 obtain⟨_,ms,m1,m2,_⟩:=g8;obtain⟨k1,k2⟩:=aBn m1;refine⟨(aC.ok_iff _).2 ⟨a8.ok,k1⟩,?_⟩;rw[aC.sz_eq];show 1+aC.szL a8.es<=_;omega;have q:=(p0.piece (p1.piece (p2.piece (p3.piece (p4.piece (p5.piece (p6.piece (p7.piece (p8.piece (bA.done (by omega)))))))))))
 rw[List.drop_zero]at q;exact q
theorem Z0(N:Nat)(h:Rd enc P w num ρ b N tPull (λx:aC=>[Str.av x.op]++([aH x.num]++([aH x.value]++([Str.av x.name]++([x.at_.av Lin.av]++([.bool x.dyn]++([aH x.check]++([x.fn.av aP.av]++([x.kav]++[]))))))))) (λp n=>p.ok/\p.sz<=n)):Rd enc P w num ρ b (N+1) sPull (λs:Sl aC=>[s.av aC.av]) (λs n=>(s.nl=true->s.es=[])/\∃ms:List Nat,bA (fun(p:aC) n=>p.ok/\p.sz<=n) s.es ms/\ms.sum+1<=n/\∀m∈ms,1<=m):=
 Rd.slice B (N:=N) (sz:=9) aC.av T.u_sPull T.c_tPull (by decide) (λx=>by rw[aC.av_eq];rfl) (λx=>rfl) h
theorem FP:∀N:Nat,Rd enc P w num ρ b N tPull (λx:aC=>[Str.av x.op]++([aH x.num]++([aH x.value]++([Str.av x.name]++([x.at_.av Lin.av]++([.bool x.dyn]++([aH x.check]++([x.fn.av aP.av]++([x.kav]++[]))))))))) (λp n=>p.ok/\p.sz<=n)
 |0=>IR B T 0 (λn hn=>by omega)
 |N+1=>IR B T (N+1) (λn hn=>(Z0 B T N (FP N)).mono (by omega))
theorem aFk(N:Nat):Rd enc P w num ρ b N tKer (λx:aG=>[aH x.kind]++([aH x.value]++([x.space.av Lin.av]++(([Str.av x.body.op]++([aH x.body.num]++([aH x.body.value]++([Str.av x.body.name]++([x.body.at_.av Lin.av]++([.bool x.body.dyn]++([aH x.body.check]++([x.body.fn.av aP.av]++([x.body.kav]++[])))))))))++([x.fn.av aP.av]++([aH x.source]++(([Str.av x.index.op]++([aH x.index.num]++([aH x.index.value]++([Str.av x.index.name]++([x.index.at_.av Lin.av]++([.bool x.index.dyn]++([aH x.index.check]++([x.index.fn.av aP.av]++([x.index.kav]++[])))))))))++([aH x.check]++[])))))))) (λq n=>q.body.ok/\q.index.ok/\q.body.sz+q.index.sz+2<=n):=by
 intro fuel hN cs d ps h hb;obtain⟨fs,hu,hL⟩:=T.u_tKer;obtain⟨xs,n,hn,hx,hcl,hl,hf⟩:=gL hu hL h;rw[T.c_tKer]at hcl;obtain⟨y0,y1,y2,y3,y4,y5,y6,y7,rfl⟩:∃y0 y1 y2 y3 y4 y5 y6 y7,xs=[y0,y1,y2,y3,y4,y5,y6,y7]:=by
  match xs,hl with
  |[y0,y1,y2,y3,y4,y5,y6,y7],_=>exact⟨y0,y1,y2,y3,y4,y5,y6,y7,rfl⟩
 have hx':d = .agg [y0.1,y1.1,y2.1,y3.1,y4.1,y5.1,y6.1,y7.1]:=hx;subst hx';rw[B.agg]at hb ⊢;simp only[B.cons,B.nil]at hb ⊢;have f0:_=some y0:=hf 0 (tI,0) rfl;have f1:_=some y1:=hf 1 (tI,1) rfl;have f2:_=some y2:=hf 2 (sLin,2) rfl;have f3:_=some y3:=hf 3 (tPull,3) rfl;have f4:_=some y4:=hf 4 (sStep,12) rfl;have f5:_=some y5:=hf 5 (tI,13) rfl;have f6:_=some y6:=hf 6 (tPull,14) rfl;have f7:_=some y7:=hf 7 (tI,23) rfl;simp only[T.c_sLin,T.c_sStep,T.c_tI,T.c_tPull]at f0 f1 f2 f3 f4 f5 f6 f7;obtain⟨a0,p0,g0⟩:=(Rd.int (enc:=enc) (w:=w) (num:=num) (ρ := ρ) (b:=b) (N:=n) T.uI) n (aX _) _ y0.1 y0.2 f0 (by omega);obtain⟨a1,p1,g1⟩:=(Rd.int (enc:=enc) (w:=w) (num:=num) (ρ := ρ) (b:=b) (N:=n) T.uI) n (aX _) _ y1.1 y1.2 f1 (by omega);obtain⟨a2,p2,g2⟩:=(D4 (enc:=enc) (w:=w) (num:=num) (ρ := ρ) B T n) n (aX _) _ y2.1 y2.2 f2 (by omega);obtain⟨a3,p3,g3⟩:=(FP (enc:=enc) (w:=w) (num:=num) (ρ := ρ) B T n) n (aX _) _ y3.1 y3.2 f3 (by omega);obtain⟨a4,p4,g4⟩:=(PL (enc:=enc) (w:=w) (num:=num) (ρ := ρ) B T n) n (aX _) _ y4.1 y4.2 f4 (by omega);obtain⟨a5,p5,g5⟩:=(Rd.int (enc:=enc) (w:=w) (num:=num) (ρ := ρ) (b:=b) (N:=n) T.uI) n (aX _) _ y5.1 y5.2 f5 (by omega);obtain⟨a6,p6,g6⟩:=(FP (enc:=enc) (w:=w) (num:=num) (ρ := ρ) B T n) n (aX _) _ y6.1 y6.2 f6 (by omega);obtain⟨a7,p7,g7⟩:=(Rd.int (enc:=enc) (w:=w) (num:=num) (ρ := ρ) (b:=b) (N:=n) T.uI) n (aX _) _ y7.1 y7.2 f7 (by omega);refine⟨⟨a0,a1,a2,a3,a4,a5,a6,a7⟩,?_,?_⟩
 rotate_left
 have o1:=B.one y0.1;have o2:=B.one y1.1;exact⟨g3.1,g6.1,by have:=g3.2;have:=g6.2;show a3.sz+a6.sz+2<=_;omega⟩;have q:=(p0.piece (p1.piece (p2.piece (p3.piece (p4.piece (p5.piece (p6.piece (p7.piece (bA.done (by omega))))))))))
 rw[List.drop_zero]at q;exact q
theorem aFo(N:Nat):Rd enc P w num ρ b N vB (λs:Sl aG=>[s.av aG.av]) (λs n=>(s.nl=true->s.es=[])/\∃ms:List Nat,bA (fun(q:aG) n=>q.body.ok/\q.index.ok/\q.body.sz+q.index.sz+2<=n) s.es ms/\ms.sum+1<=n/\∀m∈ms,1<=m):=
 (Rd.slice B (N:=N) (sz:=24) aG.av T.u_sKer T.c_tKer (by decide) (λx=>rfl) (λx=>rfl) (aFk B T N)).mono (Nat.le_succ N)
omit B T in
theorem HN{α : Type}{R : α -> Nat->Prop}:∀{l:List α}{ms:List Nat},bA R l ms->∀x∈l,∃m,m∈ms/\R x m
 |_,_,.nil,x,hx=>by cases hx
 |_,_,.cons h r,x,hx=>by rcases dA.1 hx with rfl|hx;exact⟨_,by simp,h⟩;obtain⟨m,h1,h2⟩:=HN r x hx;exact⟨m,dY _ h1,h2⟩
theorem aBD(N:Nat):Rd enc P w num ρ b N tKers (λx:aA=>[x.vars.av Str.av]++([x.aSk.av Lin.av]++([aH x.aSg]++([x.aSe.av Typ.av]++([x.aSf.av aG.av]++([x.results.av aH]++[])))))) (λk _=>KOK k):=by
 intro fuel hN cs d ps h hb;obtain⟨fs,hu,hL⟩:=T.u_tKers;obtain⟨xs,n,hn,hx,hcl,hl,hf⟩:=gL hu hL h;rw[T.c_tKers]at hcl;obtain⟨y0,y1,y2,y3,y4,y5,rfl⟩:∃y0 y1 y2 y3 y4 y5,xs=[y0,y1,y2,y3,y4,y5]:=by
  match xs,hl with
  |[y0,y1,y2,y3,y4,y5],_=>exact⟨y0,y1,y2,y3,y4,y5,rfl⟩
 have hx':d = .agg [y0.1,y1.1,y2.1,y3.1,y4.1,y5.1]:=hx;subst hx';rw[B.agg]at hb ⊢;simp only[B.cons,B.nil]at hb ⊢;have f0:_=some y0:=hf 0 (sStr,0) rfl;have f1:_=some y1:=hf 1 (sLin,1) rfl;have f2:_=some y2:=hf 2 (tI,2) rfl;have f3:_=some y3:=hf 3 (sTyp,3) rfl;have f4:_=some y4:=hf 4 (vB,4) rfl;have f5:_=some y5:=hf 5 (iE,5) rfl;simp only[T.c_sInt,T.c_sKer,T.c_sLin,T.c_sStr,T.c_sTyp,T.c_tI]at f0 f1 f2 f3 f4 f5;obtain⟨a0,p0,g0⟩:=(aFn (enc:=enc) (w:=w) (num:=num) (ρ := ρ) B T n) n (aX _) _ y0.1 y0.2 f0 (by omega);obtain⟨a1,p1,g1⟩:=(D4 (enc:=enc) (w:=w) (num:=num) (ρ := ρ) B T n) n (aX _) _ y1.1 y1.2 f1 (by omega);obtain⟨a2,p2,g2⟩:=(Rd.int (enc:=enc) (w:=w) (num:=num) (ρ := ρ) (b:=b) (N:=n) T.uI) n (aX _) _ y2.1 y2.2 f2 (by omega);obtain⟨a3,p3,g3⟩:=(aFm (enc:=enc) (w:=w) (num:=num) (ρ := ρ) B T n) n (aX _) _ y3.1 y3.2 f3 (by omega);obtain⟨a4,p4,g4⟩:=(aFo (enc:=enc) (w:=w) (num:=num) (ρ := ρ) B T n) n (aX _) _ y4.1 y4.2 f4 (by omega);obtain⟨a5,p5,g5⟩:=(YE (enc:=enc) (w:=w) (num:=num) (ρ := ρ) B T n) n (aX _) _ y5.1 y5.2 f5 (by omega);refine⟨⟨a0,a1,a2,a3,a4,a5⟩,?_,?_⟩
 rotate_left
 obtain⟨n0,ms0,m0,s0,o0⟩:=g0;obtain⟨_,ms4,m4,s4,_⟩:=g4;have hl0:a0.es.length<=ms0.sum:=by rw[m0.length];exact rZ o0
 have hk:∀q∈a4.es,q.body.ok/\q.index.ok/\q.body.sz+q.index.sz+2<=1048576:=by intro q hq;obtain⟨m,h1,h2,h3,h4⟩:=HN m4 q hq;obtain⟨i,hi⟩:=List.getElem?_of_mem h1;have:=UA hi;exact⟨h2,h3,by omega⟩
 have hsm:∀q∈a4.es,a0.es.length+q.body.sz+q.index.sz<=1048576:=by intro q hq;obtain⟨m,h1,h2,h3,h4⟩:=HN m4 q hq;obtain⟨i,hi⟩:=List.getElem?_of_mem h1;have:=UA hi;omega
 refine⟨n0,λq hq=>?_,λq hq=>?_,hsm⟩;obtain⟨h2,h3,h4⟩:=hk q hq;refine⟨h2,h3,?_,?_⟩;show a0.es.length+9+q.body.sz<=big;simp only[big];omega;show a0.es.length+9+q.index.sz<=big;simp only[big];omega;obtain⟨h2,h3,h4⟩:=hk q hq;simp only[big];omega;have q:=(p0.piece (p1.piece (p2.piece (p3.piece (p4.piece (p5.piece (bA.done (by omega))))))))
 rw[List.drop_zero]at q;exact q
end
end
section
section
variable{H:Type}{enc:TypeId×Value->H}{P:Program}{w:World}{num:Nm}{ρ : Rho}{b:DataW H->Nat}{bs:List (DataW H)->Nat}
theorem aFh(B:H7 b bs){tV tS tI:TypeId}(uS:P.underlying tS=some .string)(uI:P.underlying tI=some (.int .i64))(cS:P.cellsOf tS=1)(cI:P.cellsOf tI=1)(cV:P.cellsOf tV=2)
  (uV:∃fs,P.underlying tV=some (.struct fs)/\fs.toList.map (λf=>(f.type,f.offset))=[(tS,0),(tI,1)]) (N:Nat) :
  Rd enc P w num ρ b N tV (λx:Val=>[Str.av x.v]++([aH x.n]++[])) (λ_ _=>True):=by
 intro fuel hN cs d ps h hb;obtain⟨fs,hu,hL⟩:=uV;obtain⟨xs,n,hn,hx,hcl,hl,hf⟩:=gL hu hL h;rw[cV]at hcl;obtain⟨y0,y1,rfl⟩:∃y0 y1,xs=[y0,y1]:=by
  match xs,hl with
  |[y0,y1],_=>exact⟨y0,y1,rfl⟩
 have hx':d = .agg [y0.1,y1.1]:=hx;subst hx';rw[B.agg]at hb ⊢;simp only[B.cons,B.nil]at hb ⊢;have f0:_=some y0:=hf 0 (tS,0) rfl;have f1:_=some y1:=hf 1 (tI,1) rfl;simp only[cI,cS]at f0 f1;obtain⟨a0,p0,g0⟩:=(Rd.str (enc:=enc) (w:=w) (num:=num) (ρ := ρ) (N:=n) B uS) n (aX _) _ y0.1 y0.2 f0 (by omega);obtain⟨a1,p1,g1⟩:=(Rd.int (enc:=enc) (w:=w) (num:=num) (ρ := ρ) (b:=b) (N:=n) uI) n (aX _) _ y1.1 y1.2 f1 (by omega);refine⟨⟨a0,a1⟩,?_,trivial⟩;have q:=(p0.piece (p1.piece (bA.done (by omega))))
 rw[List.drop_zero]at q;exact q
theorem aFl(B:H7 b bs){tV tS tI sV:TypeId}(uS:P.underlying tS=some .string)(uI:P.underlying tI=some (.int .i64))(cS:P.cellsOf tS=1)(cI:P.cellsOf tI=1)(cV:P.cellsOf tV=2)
  (uV:∃fs,P.underlying tV=some (.struct fs)/\fs.toList.map (λf=>(f.type,f.offset))=[(tS,0),(tI,1)]) (usV:P.underlying sV=some (.slice tV)) (N:Nat) :
  Rd enc P w num ρ b N sV (λs:Sl Val=>[s.av Val.av]) (λs n=>(s.nl=true->s.es=[])/\∃ms:List Nat,bA (λ_ _=>True) s.es ms/\ms.sum+1<=n/\∀m∈ms,1<=m):=
 (Rd.slice B (N:=N) (sz:=2) Val.av usV cV (by decide) (λx=>rfl) (λx=>rfl) (aFh B uS uI cS cI cV uV N)).mono (Nat.le_succ N)
end
end
section
section
variable{pg:Pg}
theorem c53(hf:pg.fs 53=some VY)(c:dQ)(v:Val):Ret pg 53 [v.av,.fp c.av] (.bool (decide (v.v.bs=c.v.bs))):=by refine Ret.ofX hf ?_;unfold VY;simp only[go_sem,seval]
theorem mx2(a b:Int):(pI max2 (.int .i64 a) [.int .i64 b]).bind val=val (.int .i64 (if a<b then b else a)):=by simp[pI,max2]
theorem mn2(a b:Int):(pI min2 (.int .i64 a) [.int .i64 b]).bind val=val (.int .i64 (if b<a then b else a)):=by simp[pI,min2]
def XQ(a n:Int):Int:=if 1099511627776<wr .i64 (n*(if a<0 then 0 else a)) then 1099511627776 else wr .i64 (n*(if a<0 then 0 else a))
end
end
section
section
variable{pg:Pg}
theorem S7(l:List Sp)(i:Nat)(a b:Int)(h:i<l.length):List.take (0+i*2) (aV l)++[AV.int .i64 a,AV.int .i64 b]++List.drop (0+i*2+2) (aV l)=aV (l.set i (a,b)):=by rw[YC _ _ (by rw[eL];omega),vI]
end
end
end Go.Tev
