import Derived.Test.YtilkdbbkkcnocaaGreatDoorSBK
import Derived.Test.YtilkdbbkkcnocaaGreatDoorSAI
import Derived.Test.YtilkdbbkkcnocaaGreatDoorSAM
import Derived.Test.YtilkdbbkkcnocaaGreatDoorSAX
import Derived.Test.YtilkdbbkkcnocaaGreatDoorSAW
import Derived.Test.YtilkdbbkkcnocaaGreatDoorSBB
import Derived.Test.YtilkdbbkkcnocaaGreatDoorSBH
set_option linter.all false
namespace Go.Tev
section
section
variable{pg:Pg}
end
end
section
def kN(ds:List Val)(v:List UInt8):Option Val:=ds.find? (λx=>decide (x.v.bs=v))
def kC(ds:List Val):Int->List aR->Int×Int
 |n,[]=>(n,0)
 |n,c::r=>match kN ds c.v.bs with
  |none=>(0,7)
  | some v=>if decide (v.n < -1000000000)||decide (1000000000<v.n) then (0,2) else kC ds (wr .i64 (n+wr .i64 (c.c*v.n))) r
def aO(ds:List Val)(l:Lin):Int×Int:=if eT l then kC ds l.c l.ts.es else (0,1)
theorem mN{ds:List Val}{n:Int}{c:aR}{r:List aR}(h:kN ds c.v.bs=none):kC ds n (c::r)=(0,7):=by simp only[kC,h]
theorem mM{ds:List Val}{n:Int}{c:aR}{r:List aR}{v:Val}(h:kN ds c.v.bs=some v) :
  kC ds n (c::r)=(if decide (v.n < -1000000000)||decide (1000000000<v.n) then (0,2) else kC ds (wr .i64 (n+wr .i64 (c.c*v.n))) r):=by
 simp only[kC,h]
section
variable{pg:Pg}
theorem ZB{f:Nat}{esz:Nat}{ag:Bool}(hf:pg.fs f=some (ZC esz ag)){α : Type}(enc : α -> AV)(hfit:∀x,(enc x).fits esz ag=true)(htree:∀x,(enc x).tree=true)
  (nl cl:Bool) (es:List α) (hb:es.length<=big) (g:Nat) (cs:List AV) (hcs:treeL cs=true) (p : α -> Bool) (hp:∀x∈es,Ret pg g (enc x::cs) (.bool (p x))) :
  bV pg f [.sl nl (es.map enc) cl,.fn g cs] (λr=>∃i:Int,r = .int .i64 i/\((i<0/\es.find? p=none)\/(0<=i/\∃x,es[i.toNat]?=some x/\es.find? p=some x))):=by
 refine bV.ofX hf ?_;unfold ZC;refine Wk ?_;refine eJ es (λd e=>eH e (some 8) (.int .i64 d.length)) (λd r hp=>es.find? p=r.find? p) rfl ?_ ?_ ?_;rfl;intro hp' hI;simp only[JG,JF,go_sem,seval];simp[hI];intro d x r hp' hes hI;have hx0:(d++x::r)[d.length]?=some x:=by simp
 subst hes;simp only[JG,JF,hfit,go_sem,seval];refine gO (hp x (by simp)) (by simp only[treeL,htree,hcs,List.cons_append,List.nil_append,Bool.and_true]) rfl (Wk ?_);cases hx:p x;simp only[cQ hb,go_sem,seval];rw[hI];simp[hx];refine Wk ?_;exact .inr (by rw[hI];simp[hx])
theorem aRA(hf:pg.fs 52=some WA)(h53:pg.fs 53=some NG)(nl cl:Bool)(ds:List Val)(hb:ds.length<=big)(c:aR) :
  bV pg 52 [.sl nl (ds.map Val.av) cl,.fn 53 [.fp c.av]] (λr=>∃i:Int,r = .int .i64 i/\((i<0/\kN ds c.v.bs=none)\/(0<=i/\∃x,ds[i.toNat]?=some x/\kN ds c.v.bs=some x))):=
 ZB (f:=52) (esz:=2) (ag:=true) hf Val.av (λ_=>by simp only[go_sem,seval]) (λ_=>by simp only[go_sem,seval]) nl cl ds hb 53 [.fp c.av] (by simp only[go_sem,seval]) (λv=>decide (v.v.bs=c.v.bs)) (λv _=>c53 h53 c v)
theorem aRD(hf:pg.fs 32=some WE)(h51:∀l:Lin,Ret pg 51 [l.av] (.bool (eT l)))(h52:pg.fs 52=some WA)(h53:pg.fs 53=some NG)(l:Lin)(nl cl:Bool)(ds:List Val)(hb:ds.length<=big) :
  Ret pg 32 [l.av,.sl nl (ds.map Val.av) cl] (.tup [.int .i64 (aO ds l).1,.int .i64 (aO ds l).2]):=by
 refine Ret.ofX hf ?_;unfold WE;have hlb:=l.ts.ok;refine Wk ?_;refine aC (h51 l) (Wk ?_);cases hx:eT l;refine Wk ?_;simp[aO,hx];have hev:aO ds l=kC ds l.c l.ts.es:=by simp[aO,hx]
 rw[hev];refine Wk ?_;refine aQ l.ts.es (λd r env hp=>∃n:Int,env=NU (.sl nl (ds.map Val.av) cl) (.int .i64 n) (.sl l.ts.nl (l.ts.es.map aR.av) l.ts.cl) (.int .i64 l.ts.es.length) (.int .i64 d.length)/\kC ds l.c l.ts.es=kC ds n r) ?_ ?_ ?_;exact⟨_,rfl,rfl⟩;rintro env hp ⟨n,rfl,hI⟩;rw[hI];simp only[NT,NU,kC,go_sem,seval];rintro d x r env hp hes ⟨n,rfl,hI⟩;obtain⟨hget,e1,e2,ew⟩:=eD hes hlb;rw[hI];obtain⟨r52,hr52,i,rfl,hi⟩:=aRA h52 h53 nl cl ds hb x;simp only[NT,NU,hget,e1,e2,go_sem,seval];refine cX (hr52) (by simp only[ aR.avc,depth,eN,bG,fR,go_sem,seval];rfl) (by first|rfl|simp only[hU]) (Wk ?_);rcases hi with ⟨h1,h2⟩|⟨h1,v,hv,h2⟩
 have b1:decide (i<0)=true:=by simpa using h1
 rw[mN h2];simp only[b1,go_sem,seval];have b1:decide (i<0)=false:=by simp;omega
 have h0t:(0<=i)=True:=eq_true h1;rw[mM h2];simp only[b1,hv,h0t,go_sem,seval];cases b2:decide (v.n < -1000000000)
 case true=>simp only[b2,go_sem,seval]
 cases b3:decide (1000000000<v.n)
 case true=>simp only[b2,b3,go_sem,seval]
 simp only[b2,b3,hv,h0t,ew,go_sem,seval];exact⟨by kernel_rfl,_,rfl,rfl⟩
theorem aRC(hf:pg.fs 34=some WD)(h54:∀l:Lin,Ret pg 54 [l.av] (.bool (eT l)))(l:Lin)(nl cl:Bool)(ds:List Val)(hb:ds.length<=big) :
  Ret pg 34 [l.av,.sl nl (ds.map Val.av) cl] (.tup [.int .i64 (aO ds l).1,.int .i64 (aO ds l).2]):=by
 refine Ret.ofX hf ?_;unfold WD;have hlb:=l.ts.ok;have a1:=h54 l;rw[Lin.avc]at a1;refine Wk ?_;refine aC a1 ?_;cases hx:eT l;refine Wk ?_;simp[aO,hx];have hev:aO ds l=kC ds l.c l.ts.es:=by simp[aO,hx]
 rw[hev];refine Wk ?_;refine aQ l.ts.es (λd r env hp=>∃n:Int,env=NS (.sl nl (ds.map Val.av) cl) (.pt 1 0 0) (.int .i64 n) (.int .i64 d.length)/\hp.get 1=some (0,.blk [.int .i64 l.c,.sl l.ts.nl (l.ts.es.map aR.av) l.ts.cl] 2 true true false)/\kC ds l.c l.ts.es=kC ds n r) ?_ ?_ ?_;exact⟨_,rfl,rfl,rfl⟩;rintro env hp ⟨n,rfl,g1,hI⟩;rw[hI];simp only[NR,NS,g1,bK,kC,go_sem,seval];rintro d c r env hp hes ⟨n,rfl,g1,hI⟩;obtain⟨hget,e1,e2,ew⟩:=eD hes hlb;rw[hI];clear hI;simp only[NR,NS,g1,e1,e2,go_sem,seval];refine aQ ds (λd2 r2 env hp=>env=GX (.sl nl (ds.map Val.av) cl) (.pt 1 0 0) (.int .i64 n) (.int .i64 d.length) (.int .i64 d2.length)/\hp.get 1=some (0,.blk [.int .i64 l.c,.sl l.ts.nl (l.ts.es.map aR.av) l.ts.cl] 2 true true false)/\kN ds c.v.bs=kN r2 c.v.bs) ?_ ?_ ?_;exact⟨rfl,g1,rfl⟩;rintro env hp2 ⟨rfl,q1,hI⟩;have hn:kN ds c.v.bs=none:=by rw[hI];rfl
 rw[mN hn];simp only[GW,GX,bK,go_sem,seval];show _=true;kernel_rfl;rintro d2 v r2 env hp2 hes2 ⟨rfl,q1,hI⟩;obtain⟨hget2,f1,f2,fw⟩:=eD hes2 hb;cases b0:decide (v.v.bs=c.v.bs)
 case false=>simp only[GW,GX,q1,hget,hget2,e1,e2,f1,f2,b0,fw,go_sem,seval];refine⟨by kernel_rfl,rfl,?_⟩;rw[hI];simp[kN,b0]
 case true=>
  have hs:kN ds c.v.bs=some v:=by rw[hI];simp[kN,b0]
  have hne:decide ((d2.length:Int)=(ds.length:Int))=false:=by have:=aG f1;simp;omega
  rw[mM hs];simp only[GW,GX,q1,hget,hget2,e1,e2,f1,f2,b0,go_sem,seval];refine cN ?_;simp only[hne,hget2,f2,go_sem,seval];cases b2:decide (v.n < -1000000000)
  case true=>simp only[b2,go_sem,seval]
  cases b3:decide (1000000000<v.n)
  case true=>simp only[b2,b3,go_sem,seval]
  simp only[b2,b3,q1,hget,e2,ew,go_sem,seval];exact⟨_,rfl,rfl⟩
end
end
section
structure Cs where
 n:Nat
 r:Nat
 o:Nat
def Cs.add(a b:Cs):Cs:=⟨a.n+b.n,a.r+b.r,a.o+b.o⟩
def eL(fn:List aE):Nat:=(fn.filter λs=>(fE s.op.bs).isSome).length
abbrev CsF:=List Val->Cs
def QU:List CsF->List Val->Cs
 |[],_=>⟨0,0,0⟩
 |f::r,env=>(f env).add (QU r env)
def CW(st:Nat)(name:Str)(g:CsF)(env:List Val):Nat->Int->Cs
 |0,_=>⟨0,0,0⟩
 |k+1,i=>((g (env++[⟨name,i⟩])).add ⟨0,0,st⟩).add (CW st name g env k (i+1))
def atC(env:List Val)(p:aA):Int:=match p.at_.es with|l::_=>(aO env l).1|[]=>0
def lQ(p:aA):Cs:=
 if p.op.bs=[114,101,97,100] then ⟨1,1,0⟩ else if p.op.bs=[99,111,100,101] then ⟨1,0,eL p.fn.es⟩ else ⟨1,0,if (fE p.op.bs).isSome then 1 else 0⟩
def R2(p:aA)(fs:List CsF)(env:List Val):Cs:=
 if p.op.bs=[105,102] then (match fs with|[f,g]=>Cs.add ⟨1,0,0⟩ (if atC env p<0 then g env else f env)|_=>⟨1,0,0⟩) else
 if p.op.bs=[114,101,100,117,99,101] then (match fs with|[f,g]=>Cs.add ⟨1,0,0⟩ ((f env).add (CW (eL p.fn.es) p.name g env (atC env p).toNat 0))|_=>⟨1,0,0⟩) else
 (lQ p).add (QU fs env)
mutual
def oT:aA->CsF
 |.mk op num value name at_ dyn check fn knl kids kcl=>R2 (.mk op num value name at_ dyn check fn knl kids kcl) (JW kids)
def JW:List aA->List CsF
 |[]=>[]
 |p::r=>oT p::JW r
end
theorem JV:∀l:List aA,JW l=l.map oT
 |[]=>by rw[JW];rfl
 |p::r=>by rw[JW,JV r];rfl
theorem PT(p:aA):oT p=R2 p (p.kids.map oT):=by cases p;rw[oT,JV];rfl
theorem TV(p:aA):(lQ p).n=1:=by unfold lQ;split;rfl;split<;>rfl
theorem JX(p:aA)(env:List Val):1<=(oT p env).n:=by rw[PT];unfold R2;split;split<;>simp[Cs.add];split;split<;>simp[Cs.add];simp[Cs.add,TV]
def aLU(c:Cs):Prop:=c.r<=c.n/\c.o+10<=20*c.n
def X3(c:Cs):Prop:=c.r<=c.n/\c.o<=20*c.n
theorem aLU.t{c:Cs}(h:aLU c):X3 c:=⟨h.1,by have:=h.2;omega⟩
theorem X3.add{a b:Cs}(ha:X3 a)(hb:X3 b):X3 (a.add b):=by obtain⟨a1,a2⟩:=ha;obtain⟨b1,b2⟩:=hb;constructor<;>simp only[Cs.add]<;>omega
theorem QV(fn:List aE):eL fn<=fn.length:=List.length_filter_le _ _
def SU(env:List Val):Prop:=∀v∈env,-30000<=v.n/\v.n<=30000
end
section
theorem l0{vals:Int}{p:aA}{vars:List Str}(hv:cD vals p vars=true)(hr:¬p.op.bs=[114,101,100,117,99,101]):∀q∈p.kids,cD vals q vars=true:=by intro q hq;rw[iI]at hv;simp only[aD]at hv;have h2:=hv.2;rw[decide_eq_false hr]at h2;exact v8 h2 hq
theorem qM{vals:Int}{p:aA}{vars:List Str}(hv:cD vals p vars=true)(hr:p.op.bs=[114,101,100,117,99,101]):∃k0 k1 l,p.kids=[k0,k1]/\p.at_.es=[l]/\cD vals k0 vars=true/\cD vals k1 (vars++[p.name])=true/\cJ vars p.name.bs=false:=by
 rw[iI]at hv;simp only[aD]at hv;obtain⟨⟨hn,_⟩,hk⟩:=hv;rw[decide_eq_true hr]at hk;unfold dK at hn;rw[if_neg (by rw[hr];decide),if_neg (by rw[hr];decide),if_neg (by rw[hr];decide),if_neg (by rw[hr];decide),if_pos hr]at hn;simp only[aD,cK,fY]at hn;have h2:p.kids.length=2:=by have:=hn.1.1.1.1.2;omega
 have h1:p.at_.es.length=1:=by have:=hn.1.1.1.2;omega
 match hp:p.kids,h2 with
 |[k0,k1],_=>
  match ha:p.at_.es,h1 with
  |[l],_=>rw[hp]at hk;simp only[dS,Bool.true_and,aD]at hk;refine⟨k0,k1,l,rfl,rfl,?_,?_,hn.1.2⟩;simpa using hk.1;simpa using hk.2.1
theorem tF{vals:Int}{p:aA}{vars:List Str}(hv:cD vals p vars=true)(hr:p.op.bs=[105,102]):∃k0 k1 l,p.kids=[k0,k1]/\p.at_.es=[l]/\cD vals k0 vars=true/\cD vals k1 vars=true:=by
 have hk:=l0 hv (by rw[hr];decide);rw[iI]at hv;simp only[aD]at hv;obtain⟨⟨hn,_⟩,_⟩:=hv;unfold dK at hn;rw[if_neg (by rw[hr];decide),if_neg (by rw[hr];decide),if_neg (by rw[hr];decide),if_pos hr]at hn;simp only[aD,cK]at hn;have h2:p.kids.length=2:=by have:=hn.1.2;omega
 have h1:p.at_.es.length=1:=by have:=hn.2;omega
 match hp:p.kids,h2 with
 |[k0,k1],_=>
  match ha:p.at_.es,h1 with
  |[l],_=>rw[hp]at hk;exact⟨k0,k1,l,rfl,rfl,hk k0 (by simp),hk k1 (by simp)⟩
theorem SU.snoc{env:List Val}(h:SU env){name:Str}{i:Int}(h0:0<=i)(h1:i<=30000):SU (env++[⟨name,i⟩]):=by intro v hv;rcases jW.1 hv with hv|hv;exact h v hv;simp only[List.mem_singleton]at hv;subst hv;exact⟨by simp only;omega,h1⟩
theorem pY(env:List Val)(name:Str)(i:Int):(env++[(⟨name,i⟩:Val)]).map (·.v)=env.map (·.v)++[name]:=by simp
end
section
structure vZ(pg:Pg):Prop where
 f15:pg.fs 15=some N0
 f25:pg.fs 25=some WF
 f26:pg.fs 26=some NZ
 f40:pg.fs 40=some NQ
 f41:pg.fs 41=some R8
 f42:pg.fs 42=some NL
 f51:pg.fs 51=some WB
 f54:pg.fs 54=some V9
 f56:pg.fs 56=some KI
 f57:pg.fs 57=some R7
 f67:pg.fs 67=some aAy
 f70:pg.fs 70=some V8
 f77:pg.fs 77=some V7
 f87:pg.fs 87=some V6
 f89:pg.fs 89=some R5
 f90:pg.fs 90=some R4
 f91:pg.fs 91=some M5
 f95:pg.fs 95=some V4
 f96:pg.fs 96=some R3
 f98:pg.fs 98=some vS
 f105:pg.fs 105=some LC
 f106:pg.fs 106=some LB
 f107:pg.fs 107=some A6
 f109:pg.fs 109=some LA
 f111:pg.fs 111=some K9
 f114:pg.fs 114=some D6
 f115:pg.fs 115=some D5
 f118:pg.fs 118=some K8
 f121:pg.fs 121=some K6
 f123:pg.fs 123=some K0
 f124:pg.fs 124=some rX
 f125:pg.fs 125=some KZ
 f126:pg.fs 126=some w7
 f137:pg.fs 137=some D4
 f138:pg.fs 138=some nB
 f140:pg.fs 140=some KY
 f143:pg.fs 143=some KW
 f144:pg.fs 144=some KV
 f145:pg.fs 145=some P1
 f146:pg.fs 146=some D3
 f147:pg.fs 147=some KU
 f148:pg.fs 148=some uT
 f161:pg.fs 161=some D2
 f162:pg.fs 162=some D1
 f164:pg.fs 164=some KT
 f175:pg.fs 175=some KS
 f177:pg.fs 177=some o8
 f179:pg.fs 179=some PZ
 f180:pg.fs 180=some KR
 f181:pg.fs 181=some KQ
 f182:pg.fs 182=some KP
 f183:pg.fs 183=some WH
 f184:pg.fs 184=some D0
 f191:pg.fs 191=some A5
 f192:pg.fs 192=some KO
 f193:pg.fs 193=some KN
 f194:pg.fs 194=some A3
 f205:pg.fs 205=some DZ
 f206:pg.fs 206=some lF
 f207:pg.fs 207=some DY
 f208:pg.fs 208=some WG
 f209:pg.fs 209=some A2
 f557:pg.fs 557=some KL
 f558:pg.fs 558=some KJ
 f570:pg.fs 570=some KE
 f571:pg.fs 571=some KD
 f572:pg.fs 572=some w6
 f573:pg.fs 573=some KC
 f574:pg.fs 574=some KB
 f592:pg.fs 592=some J9
 f593:pg.fs 593=some J8
 f594:pg.fs 594=some DV
 f595:pg.fs 595=some DU
 f607:pg.fs 607=some DT
section
variable{pg:Pg}
theorem W9(C:vZ pg)(A:Ora pg)(nl cl:Bool)(ls:List Lin)(hb:ls.length<=big)(nl' cl':Bool)(vars:List Str)(hb':vars.length<=big):Ret pg 571 [.sl nl (ls.map Lin.av) cl,.sl nl' (vars.map Str.av) cl'] (.bool (aY ls vars)):=
 c571 C.f571 C.f175 C.f205 (λnl cl es hb l=>c592 C.f592 (c51 C.f51 C.f89 (c57 A C.f57 C.f91 C.f126)) C.f593 C.f607 C.f594 C.f98 C.f138 nl cl es hb l) nl cl ls hb nl' cl' vars hb'
theorem XA(C:vZ pg)(A:Ora pg)(p:aA)(hp:p.ok)(nl cl:Bool)(vars:List Str)(hb:vars.length+p.sz<=big)(v:Int):Ret pg 109 [p.av,.sl nl (vars.map Str.av) cl,.int .i64 v] (.bool (cU p vars v)):=by
 have h57:=c57 A C.f57 C.f91 C.f126;have h51:∀l:Lin,Ret pg 51 [l.av] (.bool (eT l)):=c51 C.f51 C.f89 h57;have h183:∀(nl cl:Bool)(ls:List Lin),ls.length<=big->∀(nl' cl':Bool)(vars:List Str),vars.length<=big->Ret pg 183 [.sl nl (ls.map Lin.av) cl,.sl nl' (vars.map Str.av) cl'] (.bool (aY ls vars)):=
  λnl cl ls hb nl' cl' vars hb'=>TW (g:=208) C.f183 h51 C.f96 C.f95 C.f137 C.f208 C.f98 C.f138 nl cl ls hb nl' cl' vars hb'
 have h140:∀op,bV pg 140 [.str op] (kH op):=c140 C.f140 C.f177 C.f107;have h111:=c111 C.f111 C.f148 h140;have h70:∀(nl cl:Bool)(fn:List aE),fn.length<=big->∀n:Int,Ret pg 70 [.sl nl (fn.map aE.av) cl,.int .i64 n] (.bool (cR fn n)):=λnl cl fn hb n=>c70 C.f70 h111 nl cl fn hb n;have h182:∀(p:aA),p.kids.length<=big->∀(nl cl:Bool)(vars:List Str),vars.length<=big->∀v:Int,Ret pg 182 [p.av,.sl nl (vars.map Str.av) cl,.int .i64 v] (.bool (dK p vars v)):=
  λp hp nl cl vars hb v=>c182 h57 C.f182 C.f206 C.f148 C.f207 C.f98 C.f138 h70 h140 p hp nl cl vars hb v
 have h147:∀p:aA,p.ok->∀(nl cl:Bool)(vars:List Str),vars.length+p.sz<=big->∀v:Int,Ret pg 147 [p.av,.sl nl (vars.map Str.av) cl,.int .i64 v] (.bool (cD v p vars)):=
  λp hp nl cl vars hb v=>c147 C.f147 h182 h183 C.f184 C.f209 v p hp nl cl vars hb
 exact c109 C.f109 C.f146 h147 p hp nl cl vars hb v
theorem aHv(C:vZ pg)(p q:aA)(hp:p.ok):Ret pg 105 [p.av,q.av] (.bool (dJ p q)):=by have h180:=c180 C.f180 C.f181;have h179:∀(nl cl nl' cl':Bool)(es es':List aE),es.length<=big->Ret pg 179 [.sl nl (es.map aE.av) cl,.sl nl' (es'.map aE.av) cl',.fn 180 []] (.bool (eqL fO es es')):=λnl cl nl' cl' es es' hb=>c179 C.f179 h180 nl cl nl' cl' es es' hb;have h144:∀(nl cl nl' cl':Bool)(es es':List aE),es.length<=big->Ret pg 144 [.sl nl (es.map aE.av) cl,.sl nl' (es'.map aE.av) cl'] (.bool (eqL fO es es')):=λnl cl nl' cl' es es' hb=>c144 C.f144 h179 nl cl nl' cl' es es' hb;have h67a:∀(nl cl nl' cl':Bool)(es es':List Lin),es.length<=big->Ret pg 67 [.sl nl (es.map Lin.av) cl,.sl nl' (es'.map Lin.av) cl',.fn 143 []] (.bool (eqL eU es es')):=λnl cl nl' cl' es es' hb=>c67 C.f67 143 (c143 C.f143 C.f106) nl cl nl' cl' es es' hb;exact c105 C.f105 h67a h144 C.f145 p hp q
theorem aHu(C:vZ pg)(p q:aA)(hp:p.ok):Ret pg 118 [p.av,q.av] (.bool (dJ p q)):=c118 C.f118 C.f161 C.f15 (c121 C.f121 C.f162 C.f191) p hp q
theorem aHt(C:vZ pg)(p:aA)(hp:p.ok)(nl cl:Bool)(vars:List Str)(hb:vars.length+p.sz<=big)(v:Int):Ret pg 123 [p.av,.sl nl (vars.map Str.av) cl,.int .i64 v] (.bool (cU p vars v)):=by
 have h77:∀s:Str,Ret pg 77 [.str s.bs] (.bool (fT s.bs)):=λs=>c77 C.f77 C.f114 C.f115 s.bs s.ok;have h54:∀l:Lin,Ret pg 54 [l.av] (.bool (eT l)):=c54 C.f54 h77 C.f90;have h121:=c121 C.f121 C.f162 C.f191;have h118:=c118 C.f118 C.f161 C.f15 h121;have h125:=c125 C.f125;have h87:∀(nl cl:Bool)(fn:List aE),fn.length<=big->∀n:Int,Ret pg 87 [.sl nl (fn.map aE.av) cl,.int .i64 n] (.bool (cR fn n)):=λnl cl fn hb n=>c87 C.f87 C.f124 h125 nl cl fn hb n;have h192:=c192 C.f192 h125;have h193:∀(nl cl:Bool)(ls:List Lin),ls.length<=big->∀(nl' cl':Bool)(vars:List Str),vars.length<=big->Ret pg 193 [.sl nl (ls.map Lin.av) cl,.sl nl' (vars.map Str.av) cl'] (.bool (aY ls vars)):=
  λnl cl ls hb nl' cl' vars hb'=>c193 C.f193 h54 C.f194 nl cl ls hb nl' cl' vars hb'
 exact c123 C.f123 C.f40 (c164 C.f164 h192 h118 h193 C.f124 h77 C.f194 h87) p hp nl cl vars hb v
end
end
section
def OC(p:Prop)(r:AV):Prop:=∃b:Bool,r = .bool b/\(b=true->p)
section
variable{pg:Pg}
end
end
section
theorem rD{h:Hp}{v t b:AV}{keys:List Nat}(hs:Tev.snap 63 h v=some (t,keys))(hb:b.tree=true):Tev.conv h (.tup [v,b])=some (.tup [t,b]):=by
 unfold Tev.conv;cases hv:v.tree;show (Tev.snap (63+1) h (.tup [v,b])).map (·.1)=_;unfold Tev.snap;rw[if_neg (by simp[AV.tree,Tev.treeL,hv])];simp only[bG,eN,hs,qP hb,Option.map_some];have h1:=qP (h:=h) (d:=62) hv;rw[h1]at hs;cases hs;have h2:(AV.tup [v,b]).tree=true:=by simp[AV.tree,Tev.treeL,hv,hb]
 show (Tev.snap (63+1) h (.tup [v,b])).map (·.1)=_;rw[qP h2];rfl
section
variable{pg:Pg}
theorem c969(hf:pg.fs 969=some J6)(enl ecl:Bool)(env:List Val)(hb:env.length<=big):bV pg 969 [.sl enl (env.map Val.av) ecl] (OC (SU env/\env.length<=6)):=by
 refine bV.ofX hf ?_;unfold J6;refine Wk ?_;refine aQ env (λd r e hp=>e=rG (.sl enl (env.map Val.av) ecl) (.int .i64 d.length)/\SU d) ?_ ?_ ?_;exact⟨rfl,λv hv=>by simp at hv⟩;rintro e hp ⟨rfl,hg⟩;simp only[rF,rG,bK,go_sem,seval];refine⟨_,rfl,λh=>⟨hg,?_⟩⟩;have:=aG h;omega;rintro d x r e hp hes ⟨rfl,hg⟩;obtain⟨hget,e1,e2,ew⟩:=eD hes hb;cases b1:decide (x.n < -20)
 case true=>simp only[rF,rG,e1,e2,hget,b1,go_sem,seval];exact⟨_,rfl,λh=>by cases h⟩
 cases b2:decide (20<x.n)
 case true=>simp only[rF,rG,e1,e2,hget,b1,b2,go_sem,seval];exact⟨_,rfl,λh=>by cases h⟩
 cases b3:decide (35<(x.v.bs.length:Int))
 case true=>simp only[rF,rG,e1,e2,hget,b1,b2,b3,go_sem,seval];exact⟨_,rfl,λh=>by cases h⟩
 simp only[rF,rG,e1,e2,hget,b1,b2,b3,ew,go_sem,seval];have n1:=aN b1;have n2:=aN b2;refine⟨rfl,λv hv=>?_⟩;rcases jW.1 hv with hv|hv;exact hg v hv;simp only[List.mem_singleton]at hv;subst hv;omega
def kI(env:List Val)(r:AV):Prop:=if lR env then ∃nl cl,r = .tup [.sl nl ((env.map (·.v)).map Str.av) cl,.bool true]/\(nl=true->env=[]) else r = .tup [.sl true [] true,.bool false]
theorem c978(hf:pg.fs 978=some J4)(h572:pg.fs 572=some w6)(enl ecl:Bool)(env:List Val)(heb:env.length<=big):bV pg 978 [.sl enl (env.map Val.av) ecl] (kI env):=by
 refine bV.ofX hf ?_;unfold J4;have hmm:∀env:List Val,(env.map (·.v)).map Str.av=env.map (λv:Val=>AV.str v.v.bs):=λenv=>by rw[List.map_map];rfl
 refine Wk ?_;refine aQ env (λd r e hp=>∃v,e=GE (.sl enl (env.map Val.av) ecl) v (.int .i64 d.length)/\Own hp 5 1 false v (d.map λv => .str v.v.bs)/\lR d) ?_ ?_ ?_;refine⟨_,rfl,Own.nil _ _ _ _ _ _ rfl,?_⟩;simp[lR];rintro e hp ⟨v,rfl,ho,hd⟩;obtain⟨nl8,cl8,keys,hsn,hnl8⟩:=ho.snap (El.names env) 61;simp only[GD,GE,bK,go_sem,seval];refine⟨_,rD hsn rfl,?_⟩;unfold kI;rw[if_pos hd,hmm];exact⟨nl8,cl8,rfl,λh=>by simpa using hnl8 h⟩;rintro d x r e hp hes ⟨v,rfl,ho,hd⟩;obtain⟨hget,e1,e2,ew⟩:=eD hes heb;obtain⟨nl8,cl8,keys,hsn,hnl8⟩:=ho.snap (El.names d) 62;have hdl:d.length<=big:=by have hl:=congrArg List.length hes;simp only[cO,List.length_cons]at hl;omega
 have h2:=c572 h572 nl8 cl8 (d.map (·.v)) (by simpa using hdl) x.v.bs;rw[hmm]at h2;simp only[GD,GE,e1,e2,hget,go_sem,seval];refine cX h2 (nX hsn rfl) (v:=.bool (cJ (d.map (·.v)) x.v.bs)) (pa:=[]) rfl ?_;cases hL:cJ (d.map (·.v)) x.v.bs;simp only[hget,e2,go_sem,seval];refine kW (kb:=0) (s:=5) (bytes:=16) (es:=d.map λx => .str x.v.bs) ho (El.names d) (xs:=[.str x.v.bs]) (by intro y hy;simp at hy;subst hy;exact El.str _) ?_ (by decide) ?_;simp only[cP,List.length_cons,List.length_nil,big]at *;omega;intro v' rd pa ho' hk hpa;simp only[ew,go_sem,seval];refine⟨v',rfl,?_,z6 hd hL⟩;rw[List.map_append];exact ho';have hE:¬lR env:=by rw[hes];exact z7 hL
 refine Wk ?_;unfold kI;rw[if_neg hE]
theorem c980(hf:pg.fs 980=some DS)(h98:pg.fs 98=some vS)(h138:pg.fs 138=some nB)(enl ecl:Bool)(env:List Val)(heb:env.length<=big):bV pg 980 [.sl enl (env.map Val.av) ecl] (kI env):=by
 refine bV.ofX hf ?_;unfold DS;have hmm:∀env:List Val,(env.map (·.v)).map Str.av=env.map (λv:Val=>AV.str v.v.bs):=λenv=>by rw[List.map_map];rfl
 refine Wk ?_;refine aQ env (λd r e hp=>∃v,e=GA v (.sl enl (env.map Val.av) ecl) (.int .i64 env.length) (.int .i64 d.length)/\Own hp 9 1 false v (d.map λv => .str v.v.bs)/\lR d) ?_ ?_ ?_;refine⟨_,rfl,Own.nil _ _ _ _ _ _ rfl,?_⟩;simp[lR];rintro e hp ⟨v,rfl,ho,hd⟩;obtain⟨nl8,cl8,keys,hsn,hnl8⟩:=ho.snap (El.names env) 61;simp only[F9,GA,bK,go_sem,seval];refine⟨_,rD hsn rfl,?_⟩;unfold kI;rw[if_pos hd,hmm];exact⟨nl8,cl8,rfl,λh=>by simpa using hnl8 h⟩;rintro d x r e hp hes ⟨v,rfl,ho,hd⟩;obtain⟨hget,e1,e2,ew⟩:=eD hes heb;have ho2:∀o,Own (hp.put 1 (hp.next 1) o) 9 1 false v (d.map λv => .str v.v.bs):=λo=>ho.mono (by rw[aB,if_neg (by decide)]);have ho3:∀o o',Own ((hp.put 1 (hp.next 1) o).put 1 (hp.next 1) o') 9 1 false v (d.map λv => .str v.v.bs):=λo o'=>(ho2 o).mono (by rw[aB,if_neg (by decide)]);have hdl:d.length<=big:=by have hl:=congrArg List.length hes;simp only[cO,List.length_cons]at hl;omega
 simp only[F9,GA,e1,e2,hget,go_sem,seval];have ho4:=ho3 (.blk [.str [],.int .i64 0] 2 true true false) (.blk [.str x.v.bs,.int .i64 x.n] 2 true true false);have g1:((hp.put 1 (hp.next 1) (.blk [.str [],.int .i64 0] 2 true true false)).put 1 (hp.next 1) (.blk [.str x.v.bs,.int .i64 x.n] 2 true true false)).get 1=some (hp.next 1,.blk [.str x.v.bs,.int .i64 x.n] 2 true true false):=by rw[aB,if_pos rfl]
 generalize (hp.put 1 (hp.next 1) (.blk [.str [],.int .i64 0] 2 true true false)).put 1 (hp.next 1) (.blk [.str x.v.bs,.int .i64 x.n] 2 true true false)=H at ho4 g1 ⊢;obtain⟨nl8,cl8,keys,hsn,hnl8⟩:=ho4.snap (El.names d) 62;have h2:Ret pg 98 [.sl nl8 ((d.map (·.v)).map Str.av) cl8,.str x.v.bs] (.bool (cJ (d.map (·.v)) x.v.bs)):=c98 h98 h138 nl8 cl8 (d.map (·.v)) (by simpa using hdl) x.v.bs;rw[hmm]at h2;refine cX h2 (nX hsn rfl) (v:=.bool (cJ (d.map (·.v)) x.v.bs)) (pa:=[]) rfl ?_;cases hL:cJ (d.map (·.v)) x.v.bs;simp only[g1,go_sem,seval];refine kW (kb:=0) (s:=9) (bytes:=16) (es:=d.map λx => .str x.v.bs) ho4 (El.names d) (xs:=[.str x.v.bs]) (by intro y hy;simp at hy;subst hy;exact El.str _) ?_ (by decide) ?_;simp only[cP,List.length_cons,List.length_nil,big]at *;omega;intro v' rd pa ho' hk hpa;simp only[ew,go_sem,seval];refine⟨v',rfl,?_,z6 hd hL⟩;rw[List.map_append];exact ho';have hE:¬lR env:=by rw[hes];exact z7 hL
 refine Wk ?_;unfold kI;rw[if_neg hE]
end
end
section
def hiU(env:List Val):Nat->Int->List Lin->Int×Int
 |_,h,[]=>(h,0)
 |i,h,l::r=>if (aO env l).2=0 then hiU env (i+1) (if i=0\/(aO env l).1<h then (aO env l).1 else h) r else (0,(aO env l).2)
def iU(l:Loop)(env:List Val):Int×Int×Int:=
 if (aO env l.lo).2=0 then (if (hiU env 0 0 l.hi.es).2=0 then ((aO env l.lo).1,(hiU env 0 0 l.hi.es).1,0) else (0,0,(hiU env 0 0 l.hi.es).2)) else (0,0,(aO env l.lo).2)
def rZ(l:Loop)(env:List Val):AV:=.tup [.int .i64 (iU l env).1,.int .i64 (iU l env).2.1,.int .i64 (iU l env).2.2]
theorem nF{l:Loop}{env:List Val}{a b c:Int}(h:iU l env=(a,b,c)):rZ l env = .tup [.int .i64 a,.int .i64 b,.int .i64 c]:=by unfold rZ;rw[h]
theorem LI{l:Loop}{env:List Val}(h:¬(aO env l.lo).2=0):iU l env=(0,0,(aO env l.lo).2):=if_neg h
theorem P6{l:Loop}{env:List Val}{i:Nat}{h:Int}{x:Lin}{r:List Lin}(h0:(aO env l.lo).2=0)(hI:hiU env 0 0 l.hi.es=hiU env i h (x::r))(hx:¬(aO env x).2=0):iU l env=(0,0,(aO env x).2):=by unfold iU;rw[if_pos h0,hI,hiU,if_neg hx,if_neg hx]
theorem P5{l:Loop}{env:List Val}{i:Nat}{h:Int}(h0:(aO env l.lo).2=0)(hI:hiU env 0 0 l.hi.es=hiU env i h []):iU l env=((aO env l.lo).1,h,0):=by unfold iU;rw[if_pos h0,hI,hiU,if_pos rfl]
structure Ws where
 c:Int
 t:Int
 e:Int
 ps:List (List Val)
def jY(f:Int->Ws->Ws)(hi st:Int):Nat->Int->Ws->Ws
 |0,_,s=>s
 |n+1,i,s=>if i<hi then (if 240000<wr .i64 (s.t+1) then ⟨s.c,wr .i64 (s.t+1),3,s.ps⟩ else
   (if (f i ⟨s.c,wr .i64 (s.t+1),s.e,s.ps⟩).e=0 then jY f hi st n (wr .i64 (i+st)) (f i ⟨s.c,wr .i64 (s.t+1),s.e,s.ps⟩) else f i ⟨s.c,wr .i64 (s.t+1),s.e,s.ps⟩)) else s
def gG:List Loop->List Val->Ws->Ws
 |[],env,s=>if 20000<wr .i64 (s.c+1) then ⟨wr .i64 (s.c+1),s.t,3,s.ps⟩ else ⟨wr .i64 (s.c+1),s.t,s.e,s.ps++[env]⟩
 |l::r,env,s=>if (iU l env).2.2=0 then jY (λi s=>gG r (env++[⟨l.v,i⟩]) s) (iU l env).2.1 l.step 240001 (iU l env).1 s else ⟨s.c,s.t,(iU l env).2.2,s.ps⟩
def QJ(f:Ws->Ws):Prop:=∀s:Ws,0<=s.t->s.t<=240000->s.t<=(f s).t/\((f s).e=0->(f s).t<=240000)
theorem IK{f:Int->Ws->Ws}{hi st:Int}(hf:∀i,QJ (f i)):∀(n:Nat)(i:Int),QJ (jY f hi st n i)
 |0,i,s,h0,h1=>⟨Int.le_refl _,λ_=>h1⟩
 |n+1,i,s,h0,h1=>by have w:wr .i64 (s.t+1)=s.t+1:=lA (by omega) (by omega);unfold jY;rw[w];split;split;exact⟨by simp only;omega,λh=>by simp at h⟩;rename_i hlt;obtain⟨a,b⟩:=hf i ⟨s.c,s.t+1,s.e,s.ps⟩ (by simp only;omega) (by simp only;omega);simp only at a;split;rename_i he;have b':=b he;obtain⟨c,d⟩:=IK hf n (wr .i64 (i+st)) (f i ⟨s.c,s.t+1,s.e,s.ps⟩) (by omega) b';exact⟨by omega,d⟩;exact⟨by omega,b⟩;exact⟨Int.le_refl _,λ_=>h1⟩
theorem TT:∀(r:List Loop)(env:List Val),QJ (gG r env)
 |[],env,s,h0,h1=>by unfold gG;split;exact⟨Int.le_refl _,λ_=>h1⟩;exact⟨Int.le_refl _,λ_=>h1⟩
 |l::r,env,s,h0,h1=>by rw[gG];split;exact IK (λi=>TT r _) _ _ s h0 h1;exact⟨Int.le_refl _,λ_=>h1⟩
def aCb(f:Ws->Ws):Prop:=∀s:Ws,(s.ps.length:Int)<=s.c->s.c<=20000->(f s).e=0->((f s).ps.length:Int)<=(f s).c/\(f s).c<=20000
theorem IL{f:Int->Ws->Ws}{hi st:Int}(hf:∀i,aCb (f i)):∀(n:Nat)(i:Int),aCb (jY f hi st n i)
 |0,i,s,h0,h1=>λ_=>⟨h0,h1⟩
 |n+1,i,s,h0,h1=>by unfold jY;split;split;intro h;simp at h;split;rename_i he;obtain⟨a,b⟩:=hf i ⟨s.c,wr .i64 (s.t+1),s.e,s.ps⟩ h0 h1 he;exact IL hf n _ _ a b;rename_i he;intro h;exact absurd h he;intro _;exact⟨h0,h1⟩
theorem L6:∀(r:List Loop)(env:List Val),aCb (gG r env)
 |[],env,s,h0,h1=>by unfold gG;have w:wr .i64 (s.c+1)=s.c+1:=lA (by omega) (by omega);split;intro h;simp at h;intro _;rw[w]at *;refine⟨?_,by simp only;omega⟩;simp only[cO,List.length_cons,List.length_nil];omega
 |l::r,env,s,h0,h1=>by rw[gG];split;exact IL (λi=>L6 r _) _ _ s h0 h1;intro _;exact⟨h0,h1⟩
section
variable{pg:Pg}
set_option maxRecDepth 100000 in
theorem c604(hf:pg.fs 604=some J7)(h32:∀(l:Lin) (nl cl:Bool) (ds:List Val),ds.length<=big->Ret pg 32 [l.av,.sl nl (ds.map Val.av) cl] (.tup [.int .i64 (aO ds l).1,.int .i64 (aO ds l).2]))
  (l:Loop) (nl cl:Bool) (env:List Val) (heb:env.length<=big):Ret pg 604 [l.av,.sl nl (env.map Val.av) cl] (rZ l env):=by
 refine Ret.ofX hf ?_;unfold J7;have hlb:=l.hi.ok;have a32:=h32 l.lo nl cl env heb;rw[Lin.avc]at a32;refine Wk ?_;refine aC a32 ?_;cases b0:decide ((aO env l.lo).2=0);have hne:=aN b0;rw[nF (LI hne)];simp only[b0,go_sem,seval];have h0:=aG b0;simp only[b0,go_sem,seval];refine aQ l.hi.es (λd r e hp=>∃h:Int,e=GG (.sl nl (env.map Val.av) cl) (.int .i64 (aO env l.lo).1) (.int .i64 h) (.sl l.hi.nl (l.hi.es.map Lin.av) l.hi.cl) (.int .i64 l.hi.es.length) (.int .i64 d.length)/\hiU env 0 0 l.hi.es=hiU env d.length h r) ?_ ?_ ?_;exact⟨0,rfl,rfl⟩;rintro e hp ⟨h,rfl,hI⟩;rw[nF (P5 h0 hI)];simp only[GF,GG,bK,go_sem,seval];rintro d x r e hp hes ⟨h,rfl,hI⟩;obtain⟨hget,e1,e2,ew⟩:=eD hes hlb;have a32x:=h32 x nl cl env heb;rw[Lin.avc]at a32x;simp only[GF,GG,e1,e2,hget,go_sem,seval];refine aC a32x ?_;cases b1:decide ((aO env x).2=0);have hne:=aN b1;rw[nF (P6 h0 hI hne)];simp only[b1,go_sem,seval];have h1:=aG b1;rw[hiU,if_pos h1]at hI;have hl:(d++[x]).length=d.length+1:=by simp
 rw[<-hl]at hI;cases bz:decide ((d.length:Int)=0);have hz:¬d.length=0:=by have:=aN bz;omega
 cases bh:decide ((aO env x).1<h);rw[if_neg (λhh=>by rcases hh with hh|hh;exact hz hh;exact aN bh hh)]at hI;simp only[b1,bz,bh,ew,go_sem,seval];exact⟨h,rfl,hI⟩;rw[if_pos (.inr (aG bh))]at hI;simp only[b1,bz,bh,ew,go_sem,seval];exact⟨_,rfl,hI⟩;have hz:d.length=0:=by have:=aG bz;omega
 rw[if_pos (.inl hz)]at hI;simp only[b1,bz,ew,go_sem,seval];exact⟨_,rfl,hI⟩
def Loop.cells5(x:Loop):List AV:=[.str x.v.bs,.int .i64 x.lo.c,.sl x.lo.ts.nl (x.lo.ts.es.map aR.av) x.lo.ts.cl,.sl x.hi.nl (x.hi.es.map Lin.av) x.hi.cl,.int .i64 x.step]
set_option maxRecDepth 100000 in
theorem c1011(hf:pg.fs 1011=some BA)(h34:∀(l:Lin) (nl cl:Bool) (ds:List Val),ds.length<=big->Ret pg 34 [l.av,.sl nl (ds.map Val.av) cl] (.tup [.int .i64 (aO ds l).1,.int .i64 (aO ds l).2]))
  (l:Loop) (nl cl:Bool) (env:List Val) (heb:env.length<=big):Ret pg 1011 [l.av,.sl nl (env.map Val.av) cl] (rZ l env):=by
 refine Ret.ofX hf ?_;unfold BA;have hlb:=l.hi.ok;have a34:=h34 l.lo nl cl env heb;rw[Lin.avc]at a34;refine Wk ?_;refine aC a34 ?_;cases b0:decide ((aO env l.lo).2=0);have hne:=aN b0;rw[nF (LI hne)];simp only[b0,go_sem,seval];have h0:=aG b0;simp only[b0,go_sem,seval];refine aQ l.hi.es (λd r e hp=>hp.get 1=some (0,.blk l.cells5 5 true true false)/\∃h:Int,e=A8 (.sl nl (env.map Val.av) cl) (.pt 1 0 0) (.int .i64 (aO env l.lo).1) (.int .i64 h) (.int .i64 d.length)/\hiU env 0 0 l.hi.es=hiU env d.length h r) ?_ ?_ ?_;exact⟨rfl,0,rfl,rfl⟩;rintro e hp ⟨g1,h,rfl,hI⟩;rw[nF (P5 h0 hI)];simp only[Loop.cells5]at g1;simp only[A7,A8,bK,g1,go_sem,seval];rintro d x r e hp hes ⟨g1,h,rfl,hI⟩;obtain⟨hget,e1,e2,ew⟩:=eD hes hlb;have a34x:=h34 x nl cl env heb;rw[Lin.avc]at a34x;have g1':=g1;simp only[Loop.cells5]at g1;simp only[A7,A8,e1,e2,hget,g1,go_sem,seval];refine aC a34x ?_;cases b1:decide ((aO env x).2=0);have hne:=aN b1;rw[nF (P6 h0 hI hne)];simp only[b1,go_sem,seval];have h1:=aG b1;rw[hiU,if_pos h1]at hI;have hl:(d++[x]).length=d.length+1:=by simp
 rw[<-hl]at hI;cases bz:decide ((d.length:Int)=0);have hz:¬d.length=0:=by have:=aN bz;omega
 cases bh:decide ((aO env x).1<h);rw[if_neg (λhh=>by rcases hh with hh|hh;exact hz hh;exact aN bh hh)]at hI;simp only[b1,bz,bh,ew,go_sem,seval];exact⟨g1',h,rfl,hI⟩;rw[if_pos (.inr (aG bh))]at hI;simp only[b1,bz,bh,ew,go_sem,seval];exact⟨g1',_,rfl,hI⟩;have hz:d.length=0:=by have:=aG bz;omega
 rw[if_pos (.inl hz)]at hI;simp only[b1,bz,ew,go_sem,seval];exact⟨g1',_,rfl,hI⟩
set_option maxRecDepth 100000 in
theorem c584(hf:pg.fs 584=some KA)(h98:pg.fs 98=some vS)(h138:pg.fs 138=some nB)(enl ecl:Bool)(env:List Val)(heb:env.length<=big):bV pg 584 [.sl enl (env.map Val.av) ecl] (kI env):=by
 refine bV.ofX hf ?_;unfold KA;have hmm:∀env:List Val,(env.map (·.v)).map Str.av=env.map (λv:Val=>AV.str v.v.bs):=λenv=>by rw[List.map_map];rfl
 refine Wk ?_;refine aQ env (λd r e hp=>∃v,e=GK v (.sl enl (env.map Val.av) ecl) (.int .i64 env.length) (.int .i64 d.length)/\Own hp 9 1 false v (d.map λv => .str v.v.bs)/\lR d) ?_ ?_ ?_;refine⟨_,rfl,Own.nil _ _ _ _ _ _ rfl,?_⟩;simp[lR];rintro e hp ⟨v,rfl,ho,hd⟩;obtain⟨nl8,cl8,keys,hsn,hnl8⟩:=ho.snap (El.names env) 61;simp only[GJ,GK,bK,go_sem,seval];refine⟨_,rD hsn rfl,?_⟩;unfold kI;rw[if_pos hd,hmm];exact⟨nl8,cl8,rfl,λh=>by simpa using hnl8 h⟩;rintro d x r e hp hes ⟨v,rfl,ho,hd⟩;obtain⟨hget,e1,e2,ew⟩:=eD hes heb;have ho2:∀o,Own (hp.put 1 (hp.next 1) o) 9 1 false v (d.map λv => .str v.v.bs):=λo=>ho.mono (by rw[aB,if_neg (by decide)]);have ho3:∀o o',Own ((hp.put 1 (hp.next 1) o).put 1 (hp.next 1) o') 9 1 false v (d.map λv => .str v.v.bs):=λo o'=>(ho2 o).mono (by rw[aB,if_neg (by decide)]);have hdl:d.length<=big:=by have hl:=congrArg List.length hes;simp only[cO,List.length_cons]at hl;omega
 simp only[GJ,GK,e1,e2,hget,go_sem,seval];have ho4:=ho3 (.blk [.str [],.int .i64 0] 2 true true false) (.blk [.str x.v.bs,.int .i64 x.n] 2 true true false);have g1:((hp.put 1 (hp.next 1) (.blk [.str [],.int .i64 0] 2 true true false)).put 1 (hp.next 1) (.blk [.str x.v.bs,.int .i64 x.n] 2 true true false)).get 1=some (hp.next 1,.blk [.str x.v.bs,.int .i64 x.n] 2 true true false):=by rw[aB,if_pos rfl]
 generalize (hp.put 1 (hp.next 1) (.blk [.str [],.int .i64 0] 2 true true false)).put 1 (hp.next 1) (.blk [.str x.v.bs,.int .i64 x.n] 2 true true false)=H at ho4 g1 ⊢;obtain⟨nl8,cl8,keys,hsn,hnl8⟩:=ho4.snap (El.names d) 62;have h2:Ret pg 98 [.sl nl8 ((d.map (·.v)).map Str.av) cl8,.str x.v.bs] (.bool (cJ (d.map (·.v)) x.v.bs)):=c98 h98 h138 nl8 cl8 (d.map (·.v)) (by simpa using hdl) x.v.bs;rw[hmm]at h2;refine cX h2 (nX hsn rfl) (v:=.bool (cJ (d.map (·.v)) x.v.bs)) (pa:=[]) rfl ?_;cases hL:cJ (d.map (·.v)) x.v.bs;simp only[g1,go_sem,seval];refine kW (kb:=0) (s:=9) (bytes:=16) (es:=d.map λx => .str x.v.bs) ho4 (El.names d) (xs:=[.str x.v.bs]) (by intro y hy;simp at hy;subst hy;exact El.str _) ?_ (by decide) ?_;simp only[cP,List.length_cons,List.length_nil,big]at *;omega;intro v' rd pa ho' hk hpa;simp only[ew,go_sem,seval];refine⟨v',rfl,?_,z6 hd hL⟩;rw[List.map_append];exact ho';have hE:¬lR env:=by rw[hes];exact z7 hL
 refine Wk ?_;unfold kI;rw[if_neg hE]
theorem c357(hf:pg.fs 357=some DX)(nl cl:Bool)(env:List Val)(hb:env.length<=big)(hnl:nl=true->env=[]):bV pg 357 [.sl nl (env.map Val.av) cl] (pH 2 true (env.map Val.av)):=by refine bV.ofX hf ?_;unfold DX;refine Wk ?_;cases nl;refine Wk ?_;refine kW (kb:=0) (s:=1) (bytes:=24) (es:=[]) (xs:=env.map Val.av) (Own.nil _ _ _ _ _ _ rfl) (by simp) (El.vals env) ?_ (by decide) ?_;simp only[List.length_nil,cP,big]at *;omega;intro v' rd pa ho hk hpa;refine Wk ?_;exact ho.conv (by simpa using El.vals env);have he:=hnl rfl;subst he;refine Wk ?_;exact .inl ⟨rfl,true,true,rfl,rfl⟩
def xH(a p b:Int):AV:=.agg [.int .i64 a,.int .i64 p,.int .i64 b,.int .i64 0]
theorem c986(hf:pg.fs 986=some DR)(a p b a' p' b':Int):Ret pg 986 [xH a p b,xH a' p' b'] (xH (wr .i64 (a+a')) (wr .i64 (p+p')) (wr .i64 (b+b'))):=by have w0:wr .i64 0=0:=rfl;refine Ret.ofX hf ?_;unfold DR xH;simp only[w0,go_sem,seval]
end
end
end Go.Tev
