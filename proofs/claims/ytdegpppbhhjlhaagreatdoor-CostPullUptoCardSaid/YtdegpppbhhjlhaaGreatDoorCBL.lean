import Derived.Test.YtdegpppbhhjlhaaGreatDoorCBK
import Derived.Test.YtdegpppbhhjlhaaGreatDoorCAI
import Derived.Test.YtdegpppbhhjlhaaGreatDoorCAM
import Derived.Test.YtdegpppbhhjlhaaGreatDoorCAX
import Derived.Test.YtdegpppbhhjlhaaGreatDoorCAW
import Derived.Test.YtdegpppbhhjlhaaGreatDoorCBB
import Derived.Test.YtdegpppbhhjlhaaGreatDoorCBH
import Derived.Test.YtdegpppbhhjlhaaGreatDoorCBD
set_option linter.all false
namespace Go.Tev
section
section
variable{pg:Pg}
end
end
section
def lS(ds:List Val)(v:List UInt8):Option Val:=ds.find? (λx=>decide (x.v.bs=v))
def kM(ds:List Val):Int->List bE->Int×Int
 |n,[]=>(n,0)
 |n,c::r=>match lS ds c.v.bs with
  |none=>(0,7)
  | some v=>if decide (v.n < -1000000000)||decide (1000000000<v.n) then (0,2) else kM ds (wr .i64 (n+wr .i64 (c.c*v.n))) r
def cD(ds:List Val)(l:Lin):Int×Int:=if gV l then kM ds l.c l.ts.es else (0,1)
theorem s7{ds:List Val}{n:Int}{c:bE}{r:List bE}(h:lS ds c.v.bs=none):kM ds n (c::r)=(0,7):=by simp only[kM,h]
theorem oZ{ds:List Val}{n:Int}{c:bE}{r:List bE}{v:Val}(h:lS ds c.v.bs=some v) :
  kM ds n (c::r)=(if decide (v.n < -1000000000)||decide (1000000000<v.n) then (0,2) else kM ds (wr .i64 (n+wr .i64 (c.c*v.n))) r):=by
 simp only[kM,h]
section
variable{pg:Pg}
theorem YH{f:Nat}{esz:Nat}{ag:Bool}(hf:pg.fs f=some (YI esz ag)){α : Type}(enc : α -> AV)(hfit:∀x,(enc x).fits esz ag=true)(htree:∀x,(enc x).tree=true)
  (nl cl:Bool) (es:List α) (hb:es.length<=big) (g:Nat) (cs:List AV) (hcs:treeL cs=true) (p : α -> Bool) (hp:∀x∈es,Ret pg g (enc x::cs) (.bool (p x))) :
  cA pg f [.sl nl (es.map enc) cl,.fn g cs] (λr=>∃i:Int,r = .int .i64 i/\((i<0/\es.find? p=none)\/(0<=i/\∃x,es[i.toNat]?=some x/\es.find? p=some x))):=by
 refine cA.ofX hf ?_;unfold YI;refine Wk ?_;refine eO es (λd e=>eI e (some 8) (.int .i64 d.length)) (λd r hp=>es.find? p=r.find? p) rfl ?_ ?_ ?_;rfl;intro hp' hI;simp only[JF,JE,go_sem,seval];simp[hI];intro d x r hp' hes hI;have hx0:(d++x::r)[d.length]?=some x:=by simp
 subst hes;simp only[JF,JE,hfit,go_sem,seval];refine cO (hp x (by simp)) (by simp only[treeL,htree,hcs,List.cons_append,List.nil_append,Bool.and_true]) rfl (Wk ?_);cases hx:p x;simp only[cL hb,go_sem,seval];rw[hI];simp[hx];refine Wk ?_;exact .inr (by rw[hI];simp[hx])
theorem aRe(hf:pg.fs 52=some VL)(h53:pg.fs 53=some NG)(nl cl:Bool)(ds:List Val)(hb:ds.length<=big)(c:bE) :
  cA pg 52 [.sl nl (ds.map Val.av) cl,.fn 53 [.fp c.av]] (λr=>∃i:Int,r = .int .i64 i/\((i<0/\lS ds c.v.bs=none)\/(0<=i/\∃x,ds[i.toNat]?=some x/\lS ds c.v.bs=some x))):=
 YH (f:=52) (esz:=2) (ag:=true) hf Val.av (λ_=>by simp only[go_sem,seval]) (λ_=>by simp only[go_sem,seval]) nl cl ds hb 53 [.fp c.av] (by simp only[go_sem,seval]) (λv=>decide (v.v.bs=c.v.bs)) (λv _=>c53 h53 c v)
theorem aRg(hf:pg.fs 32=some VP)(h51:∀l:Lin,Ret pg 51 [l.av] (.bool (gV l)))(h52:pg.fs 52=some VL)(h53:pg.fs 53=some NG)(l:Lin)(nl cl:Bool)(ds:List Val)(hb:ds.length<=big) :
  Ret pg 32 [l.av,.sl nl (ds.map Val.av) cl] (.tup [.int .i64 (cD ds l).1,.int .i64 (cD ds l).2]):=by
 refine Ret.ofX hf ?_;unfold VP;have hlb:=l.ts.ok;refine Wk ?_;refine aC (h51 l) (Wk ?_);cases hx:gV l;refine Wk ?_;simp[cD,hx];have hev:cD ds l=kM ds l.c l.ts.es:=by simp[cD,hx]
 rw[hev];refine Wk ?_;refine aN l.ts.es (λd r env hp=>∃n:Int,env=NU (.sl nl (ds.map Val.av) cl) (.int .i64 n) (.sl l.ts.nl (l.ts.es.map bE.av) l.ts.cl) (.int .i64 l.ts.es.length) (.int .i64 d.length)/\kM ds l.c l.ts.es=kM ds n r) ?_ ?_ ?_;exact⟨_,rfl,rfl⟩;rintro env hp ⟨n,rfl,hI⟩;rw[hI];simp only[NT,NU,kM,go_sem,seval];rintro d x r env hp hes ⟨n,rfl,hI⟩;obtain⟨hget,e1,e2,ew⟩:=cY hes hlb;rw[hI];obtain⟨r52,hr52,i,rfl,hi⟩:=aRe h52 h53 nl cl ds hb x;simp only[NT,NU,hget,e1,e2,go_sem,seval];refine i7 (hr52) (by simp only[ bE.avc,depth,iK,eG,pF,go_sem,seval];rfl) (by first|rfl|simp only[hY]) (Wk ?_);rcases hi with ⟨h1,h2⟩|⟨h1,v,hv,h2⟩
 have b1:decide (i<0)=true:=by simpa using h1
 rw[s7 h2];simp only[b1,go_sem,seval];have b1:decide (i<0)=false:=by simp;omega
 have h0t:(0<=i)=True:=eq_true h1;rw[oZ h2];simp only[b1,hv,h0t,go_sem,seval];cases b2:decide (v.n < -1000000000)
 case true=>simp only[b2,go_sem,seval]
 cases b3:decide (1000000000<v.n)
 case true=>simp only[b2,b3,go_sem,seval]
 simp only[b2,b3,hv,h0t,ew,go_sem,seval];exact⟨by kernel_rfl,_,rfl,rfl⟩
theorem aRf(hf:pg.fs 34=some VO)(h54:∀l:Lin,Ret pg 54 [l.av] (.bool (gV l)))(l:Lin)(nl cl:Bool)(ds:List Val)(hb:ds.length<=big) :
  Ret pg 34 [l.av,.sl nl (ds.map Val.av) cl] (.tup [.int .i64 (cD ds l).1,.int .i64 (cD ds l).2]):=by
 refine Ret.ofX hf ?_;unfold VO;have hlb:=l.ts.ok;have a1:=h54 l;rw[Lin.avc]at a1;refine Wk ?_;refine aC a1 ?_;cases hx:gV l;refine Wk ?_;simp[cD,hx];have hev:cD ds l=kM ds l.c l.ts.es:=by simp[cD,hx]
 rw[hev];refine Wk ?_;refine aN l.ts.es (λd r env hp=>∃n:Int,env=NS (.sl nl (ds.map Val.av) cl) (.pt 1 0 0) (.int .i64 n) (.int .i64 d.length)/\hp.get 1=some (0,.blk [.int .i64 l.c,.sl l.ts.nl (l.ts.es.map bE.av) l.ts.cl] 2 true true false)/\kM ds l.c l.ts.es=kM ds n r) ?_ ?_ ?_;exact⟨_,rfl,rfl,rfl⟩;rintro env hp ⟨n,rfl,g1,hI⟩;rw[hI];simp only[NR,NS,g1,bH,kM,go_sem,seval];rintro d c r env hp hes ⟨n,rfl,g1,hI⟩;obtain⟨hget,e1,e2,ew⟩:=cY hes hlb;rw[hI];clear hI;simp only[NR,NS,g1,e1,e2,go_sem,seval];refine aN ds (λd2 r2 env hp=>env=G5 (.sl nl (ds.map Val.av) cl) (.pt 1 0 0) (.int .i64 n) (.int .i64 d.length) (.int .i64 d2.length)/\hp.get 1=some (0,.blk [.int .i64 l.c,.sl l.ts.nl (l.ts.es.map bE.av) l.ts.cl] 2 true true false)/\lS ds c.v.bs=lS r2 c.v.bs) ?_ ?_ ?_;exact⟨rfl,g1,rfl⟩;rintro env hp2 ⟨rfl,q1,hI⟩;have hn:lS ds c.v.bs=none:=by rw[hI];rfl
 rw[s7 hn];simp only[G4,G5,bH,go_sem,seval];show _=true;kernel_rfl;rintro d2 v r2 env hp2 hes2 ⟨rfl,q1,hI⟩;obtain⟨hget2,f1,f2,fw⟩:=cY hes2 hb;cases b0:decide (v.v.bs=c.v.bs)
 case false=>simp only[G4,G5,q1,hget,hget2,e1,e2,f1,f2,b0,fw,go_sem,seval];refine⟨by kernel_rfl,rfl,?_⟩;rw[hI];simp[lS,b0]
 case true=>
  have hs:lS ds c.v.bs=some v:=by rw[hI];simp[lS,b0]
  have hne:decide ((d2.length:Int)=(ds.length:Int))=false:=by have:=aF f1;simp;omega
  rw[oZ hs];simp only[G4,G5,q1,hget,hget2,e1,e2,f1,f2,b0,go_sem,seval];refine cB ?_;simp only[hne,hget2,f2,go_sem,seval];cases b2:decide (v.n < -1000000000)
  case true=>simp only[b2,go_sem,seval]
  cases b3:decide (1000000000<v.n)
  case true=>simp only[b2,b3,go_sem,seval]
  simp only[b2,b3,q1,hget,e2,ew,go_sem,seval];exact⟨_,rfl,rfl⟩
end
end
section
structure Cs where
 n:Nat
 r:Nat
 o:Nat
def Cs.add(a b:Cs):Cs:=⟨a.n+b.n,a.r+b.r,a.o+b.o⟩
def aQ(fn:List aE):Nat:=(fn.filter λs=>(cX s.op.bs).isSome).length
abbrev CsF:=List Val->Cs
def lH:List CsF->List Val->Cs
 |[],_=>⟨0,0,0⟩
 |f::r,env=>(f env).add (lH r env)
def fT(st:Nat)(name:Str)(g:CsF)(env:List Val):Nat->Int->Cs
 |0,_=>⟨0,0,0⟩
 |k+1,i=>((g (env++[⟨name,i⟩])).add ⟨0,0,st⟩).add (fT st name g env k (i+1))
def atC(env:List Val)(p:aA):Int:=match p.at_.es with|l::_=>(cD env l).1|[]=>0
def jE(p:aA):Cs:=
 if p.op.bs=[114,101,97,100] then ⟨1,1,0⟩ else if p.op.bs=[99,111,100,101] then ⟨1,0,aQ p.fn.es⟩ else ⟨1,0,if (cX p.op.bs).isSome then 1 else 0⟩
def rR(p:aA)(fs:List CsF)(env:List Val):Cs:=
 if p.op.bs=[105,102] then (match fs with|[f,g]=>Cs.add ⟨1,0,0⟩ (if atC env p<0 then g env else f env)|_=>⟨1,0,0⟩) else
 if p.op.bs=[114,101,100,117,99,101] then (match fs with|[f,g]=>Cs.add ⟨1,0,0⟩ ((f env).add (fT (aQ p.fn.es) p.name g env (atC env p).toNat 0))|_=>⟨1,0,0⟩) else
 (jE p).add (lH fs env)
mutual
def aX:aA->CsF
 |.mk op num value name at_ dyn check fn knl kids kcl=>rR (.mk op num value name at_ dyn check fn knl kids kcl) (JV kids)
def JV:List aA->List CsF
 |[]=>[]
 |p::r=>aX p::JV r
end
theorem JU:∀l:List aA,JV l=l.map aX
 |[]=>by rw[JV];rfl
 |p::r=>by rw[JV,JU r];rfl
theorem rD(p:aA):aX p=rR p (p.kids.map aX):=by cases p;rw[aX,JU];rfl
theorem TD(p:aA):(jE p).n=1:=by unfold jE;split;rfl;split<;>rfl
theorem mX(p:aA)(env:List Val):1<=(aX p env).n:=by rw[rD];unfold rR;split;split<;>simp[Cs.add];split;split<;>simp[Cs.add];simp[Cs.add,TD]
def tJ(c:Cs):Prop:=c.r<=c.n/\c.o+10<=20*c.n
def xU(c:Cs):Prop:=c.r<=c.n/\c.o<=20*c.n
theorem tJ.t{c:Cs}(h:tJ c):xU c:=⟨h.1,by have:=h.2;omega⟩
theorem xU.add{a b:Cs}(ha:xU a)(hb:xU b):xU (a.add b):=by obtain⟨a1,a2⟩:=ha;obtain⟨b1,b2⟩:=hb;constructor<;>simp only[Cs.add]<;>omega
theorem tJ.addT{a b:Cs}(ha:tJ a)(hb:xU b):tJ (a.add b):=by obtain⟨a1,a2⟩:=ha;obtain⟨b1,b2⟩:=hb;constructor<;>simp only[Cs.add]<;>omega
theorem HW:∀{fs:List CsF}{env:List Val},(∀f∈fs,∀env,tJ (f env))->xU (lH fs env)
 |[],_,_=>⟨Nat.le_refl _,Nat.le_refl _⟩
 |f::r,env,h=>(h f (by simp) env).t.add (HW λg hg=>h g (cE _ hg))
theorem CU{st:Nat}{name:Str}{g:CsF}{env:List Val}(hg:∀env,tJ (g env))(hst:st<=10):∀(k:Nat)(i:Int),xU (fT st name g env k i)
 |0,_=>⟨Nat.le_refl _,Nat.le_refl _⟩
 |k+1,i=>by obtain⟨b1,b2⟩:=hg (env++[⟨name,i⟩]);obtain⟨i1,i2⟩:=CU (name:=name) (env:=env) hg hst k (i+1);constructor<;>simp only[fT,Cs.add]<;>omega
theorem l9(fn:List aE):aQ fn<=fn.length:=List.length_filter_le _ _
theorem MR{p:aA}(h:i8 p=true):p.fn.es.length<=10:=by obtain⟨op,num,value,name,at_,dyn,check,fn,knl,kids,kcl⟩:=p;rw[i8]at h;simp only[AJ,aD,bC]at h;show fn.es.length<=10;omega
theorem iX{p q:aA}(h:i8 p=true)(hq:q∈p.kids):i8 q=true:=by cases p;rw[i8,vS]at h;simp only[aD,eE]at h;exact h.1 q hq
theorem zM{p:aA}(h:p.fn.es.length<=10):tJ (jE p):=by have:=l9 p.fn.es;unfold jE;split;exact⟨Nat.le_refl _,by simp⟩;split;exact⟨by simp,by simp only;omega⟩;refine⟨by simp,?_⟩;simp only;split<;>omega
theorem qN:∀p:aA,i8 p=true->∀env,tJ (aX p env):=by
 refine aA.ind' λp ih hp env=>?_;have hl:=MR hp;have hst:aQ p.fn.es<=10:=by have:=l9 p.fn.es;omega
 have hk:∀f∈p.kids.map aX,∀env,tJ (f env):=by intro f hf env;simp only[List.mem_map]at hf;obtain⟨q,hq,rfl⟩:=hf;exact ih q hq (iX hp hq) env
 rw[rD];have o1:tJ ⟨1,0,0⟩:=⟨by simp,by simp⟩
 unfold rR;split;split;rename_i f g he;rw[he]at hk;refine o1.addT ?_;split;exact(hk g (by simp) env).t;exact(hk f (by simp) env).t;exact o1;split;split;rename_i f g he;rw[he]at hk;exact o1.addT ((hk f (by simp) env).t.add (CU (hk g (by simp)) hst _ _));exact o1;exact(zM hl).addT (HW hk)
def tH(env:List Val):Prop:=∀v∈env,-30000<=v.n/\v.n<=30000
theorem TX(env:List Val)(s:List UInt8):lU env s=(lS env s).map (·.n):=rfl
theorem MO{env:List Val}{s:List UInt8}(h:fD (env.map (·.v)) s=true):∃v∈env,lS env s=some v:=by
 cases hv:lS env s with
 |some v=>exact⟨v,List.mem_of_find?_eq_some hv,rfl⟩
 |none=>exfalso;simp only[lS,List.find?_eq_none,bC]at hv;simp only[fD,List.any_map,List.any_eq_true]at h;obtain⟨v,hm,he⟩:=h;exact hv v hm (by simpa[eq_comm] using he)
theorem JN{env:List Val}(hg:tH env):∀{ts:List bE}{n:Int},(∀t∈ts,fD (env.map (·.v)) t.v.bs=true)->(kM env n ts).2=0
 |[],_,_=>rfl
 |t::r,n,h=>by obtain⟨v,hv,hs⟩:=MO (h t (by simp));have:=hg v hv;rw[oZ hs,if_neg (by simp;omega)];exact JN hg λx hx=>h x (cE _ hx)
theorem US{env:List Val}(hg:tH env){l:Lin}(hl:gV l=true)(h:∀t∈l.ts.es,fD (env.map (·.v)) t.v.bs=true):(cD env l).2=0:=by rw[cD,if_pos hl];exact JN hg h
theorem DC{env:List Val}:∀{ts:List bE}{n m:Int},(kM env n ts).2=0->FH env ts n=some m->(kM env n ts).1=m
 |[],n,m,_,h=>by simpa[FH,kM] using h
 |t::r,n,m,h0,h=>by
  cases hv:lS env t.v.bs with
  |none=>rw[s7 hv]at h0;simp at h0
  |some v=>rw[oZ hv]at h0 ⊢;split at h0;simp at h0;rename_i hc;rw[if_neg hc];rw[FH,TX,hv]at h;simp only[Option.map_some,Option.getD_some]at h;split at h;cases h;exact DC h0 h
theorem DD{env:List Val}{l:Lin}{m:Int}(h0:(cD env l).2=0)(h:nB env l=some m):(cD env l).1=m:=by unfold cD at h0 ⊢;split at h0;rename_i hl;rw[if_pos hl];unfold nB at h;split at h;cases h;rename_i n hn;split at h;cases h;cases h;exact DC h0 hn;simp at h0
end
section
theorem LU{s:aE}{n:Int}(h:eV s n=true):(cX s.op.bs).isSome = !lI s:=by unfold eV at h;split at h;rename_i e;simp only[lI,e,decide_true,Bool.true_or,Bool.not_true];rfl;rename_i e1;split at h;rename_i e;simp only[lI,e,decide_true,Bool.or_true,Bool.not_true];rfl;rename_i e2;split at h;cases h;rename_i q hq;simp[lI,e1,e2,hq]
theorem E8:∀{fn:List aE}{n o:Int},bZ n fn=true->0<=o->o+aQ fn<=1099511627776->BX fn o=o+aQ fn
 |[],n,o,_,_,_=>by simp[BX,aQ]
 |s::r,n,o,h,h0,hb=>by
  simp only[bZ,aD]at h;have e:=LU h.1;have hc:BX (s::r) o=BX r (bif lI s then o else wr .i64 (o+1)):=rfl;rw[hc];cases hl:lI s;rw[hl]at e;have hs:aQ (s::r)=aQ r+1:=by simp[aQ,List.filter_cons,e]
  rw[hs]at hb ⊢;rw[cond_false,gH (by omega) (by omega),E8 h.2 (by omega) (by omega)];omega;rw[hl]at e;have hs:aQ (s::r)=aQ r:=by simp[aQ,List.filter_cons,e]
  rw[hs]at hb ⊢;rw[cond_true,E8 h.2 h0 hb]
def OE(c:Cn)(s:Cs)(c':Cn):Prop:=c'.rd=c.rd+s.r/\c'.ops=c.ops+s.o
def LN(c:Cn)(s:Cs):Prop:=0<=c.rd/\0<=c.ops/\c.rd+s.r<=1099511627776/\c.ops+s.o<=1099511627776
def QD(g:EvF)(s:CsF)(env:List Val):Prop:=∀c n c',LN c (s env)->(s env).n<=30000->g env c = .ok n c'->OE c (s env) c'
theorem uC{arrs:List Arr}{env:List Val}:∀{ks:List aA}{acc xs:List Int}{c c':Cn},(∀q∈ks,QD (evU arrs q) (aX q) env)->LN c (lH (ks.map aX) env)->(lH (ks.map aX) env).n<=30000 ->
  jK (ks.map (evU arrs)) env acc c = .ok xs c'->OE c (lH (ks.map aX) env) c'
 |[],acc,xs,c,c',_,_,_,h=>by simp only[List.map_nil,jK,Ks.ok.injEq]at h;rw[<-h.2];simp[OE,lH]
 |q::r,acc,xs,c,c',hq,⟨h0,h1,h2,h3⟩,hn,h=>by simp only[List.map_cons,jK]at h;simp only[List.map_cons,lH,Cs.add]at h2 h3 hn ⊢;split at h;cases h;rename_i n c2 hE;have a1:=hq q (by simp) c n c2 ⟨h0,h1,by omega,by omega⟩ (by omega) hE;obtain⟨a2,a3⟩:=a1;have b1:=uC (λq hq'=>hq q (cE _ hq')) ⟨by omega,by omega,by omega,by omega⟩ (by omega) h;obtain⟨b2,b3⟩:=b1;constructor<;>simp only<;>omega
theorem JZ{fn:List aE}{xs:List Int}{c c':Cn}{n:Int}(hr:LN c ⟨0,0,aQ fn⟩)(h:lY fn xs c = .ok n c'):OE c ⟨0,0,aQ fn⟩ c':=by obtain⟨h0,h1,h2,h3⟩:=hr;unfold lY at h;cases hB:pW fn xs;rw[hB]at h;cases h;rw[hB]at h;simp only[cond_true,Rs.ok.injEq]at h;simp only[pW,cC,aD]at hB;rw[<-h.2];refine⟨by simp,?_⟩;simp only at h3 ⊢;exact E8 hB.1.2 h1 h3
theorem tZ{st:Nat}{name:Str}{g:CsF}{env:List Val}(hg:∀env,1<=(g env).n):∀(k:Nat)(i:Int),k<=(fT st name g env k i).n
 |0,_=>Nat.zero_le _
 |k+1,i=>by have a:=hg (env++[⟨name,i⟩]);have b:=tZ (st:=st) (name:=name) (env:=env) hg k (i+1);simp only[fT,Cs.add];omega
theorem I3{fn:List aE}{name:Str}{g:EvF}{s:CsF}{env:List Val}:∀{k:Nat}{i acc:Int}{c c':Cn}{n:Int},0<=i->i+k<=30000->(∀j:Int,0<=j->j<=30000->QD g s (env++[⟨name,j⟩])) ->
  LN c (fT (aQ fn) name s env k i)->(fT (aQ fn) name s env k i).n<=30000->nI fn name g env k i acc c = .ok n c'->OE c (fT (aQ fn) name s env k i) c'
 |0,i,acc,c,c',n,_,_,_,_,_,h=>by simp only[nI,Rs.ok.injEq]at h;rw[<-h.2];simp[OE,fT]
 |k+1,i,acc,c,c',n,hi,hk,hg,⟨h0,h1,h2,h3⟩,hn,h=>by simp only[nI]at h;simp only[fT,Cs.add]at h2 h3 hn ⊢;split at h;cases h;rename_i y c2 hE;obtain⟨a2,a3⟩:=hg i hi (by omega) c y c2 ⟨h0,h1,by omega,by omega⟩ (by omega) hE;split at h;cases h;rename_i z c3 hC;obtain⟨b2,b3⟩:=JZ ⟨by omega,by omega,by simp only;omega,by simp only;omega⟩ hC;simp only at b2 b3;obtain⟨d2,d3⟩:=I3 (by omega) (by omega) hg ⟨by omega,by omega,by omega,by omega⟩ (by omega) h;constructor<;>simp only<;>omega
theorem S4{a:Arr}{dyn:Bool}{check:Int}{ix:List Int}{c c':Cn}{n:Int}(hr:LN c ⟨0,1,0⟩)(h:qA a dyn check ix c = .ok n c'):OE c ⟨0,1,0⟩ c':=by obtain⟨h0,h1,h2,h3⟩:=hr;simp only at h2;have w:wr .i64 (c.rd+1)=c.rd+1:=gH (by omega) (by omega);unfold qA at h;split at h;cases h;split at h;cases h;split at h;simp only[Rs.ok.injEq]at h;rw[<-h.2];exact⟨by simp only;rw[w];rfl,by simp⟩;simp only[Rs.ok.injEq]at h;rw[<-h.2];exact⟨by simp only;rw[w];rfl,by simp⟩
theorem u4{vals:Int}{p:aA}{env:List Val}(hv:bO vals p (env.map (·.v))=true)(hg:tH env):∀l∈p.at_.es,(cD env l).2=0:=by intro l hl;rw[fI]at hv;simp only[aD,dS,eE]at hv;have:=hv.1.2 l hl;exact US hg this.1 this.2
theorem mF{vals:Int}{p:aA}{vars:List Str}(hv:bO vals p vars=true)(hr:¬p.op.bs=[114,101,100,117,99,101]):∀q∈p.kids,bO vals q vars=true:=by intro q hq;rw[fI]at hv;simp only[aD]at hv;have h2:=hv.2;rw[decide_eq_false hr]at h2;exact pR h2 hq
theorem qR{vals:Int}{p:aA}{vars:List Str}(hv:bO vals p vars=true)(hr:p.op.bs=[114,101,100,117,99,101]):∃k0 k1 l,p.kids=[k0,k1]/\p.at_.es=[l]/\bO vals k0 vars=true/\bO vals k1 (vars++[p.name])=true/\fD vars p.name.bs=false:=by
 rw[fI]at hv;simp only[aD]at hv;obtain⟨⟨hn,_⟩,hk⟩:=hv;rw[decide_eq_true hr]at hk;unfold cF at hn;rw[if_neg (by rw[hr];decide),if_neg (by rw[hr];decide),if_neg (by rw[hr];decide),if_neg (by rw[hr];decide),if_pos hr]at hn;simp only[aD,bC,gJ]at hn;have h2:p.kids.length=2:=by have:=hn.1.1.1.1.2;omega
 have h1:p.at_.es.length=1:=by have:=hn.1.1.1.2;omega
 match hp:p.kids,h2 with
 |[k0,k1],_=>
  match ha:p.at_.es,h1 with
  |[l],_=>rw[hp]at hk;simp only[cN,Bool.true_and,aD]at hk;refine⟨k0,k1,l,rfl,rfl,?_,?_,hn.1.2⟩;simpa using hk.1;simpa using hk.2.1
theorem tL{vals:Int}{p:aA}{vars:List Str}(hv:bO vals p vars=true)(hr:p.op.bs=[105,102]):∃k0 k1 l,p.kids=[k0,k1]/\p.at_.es=[l]/\bO vals k0 vars=true/\bO vals k1 vars=true:=by
 have hk:=mF hv (by rw[hr];decide);rw[fI]at hv;simp only[aD]at hv;obtain⟨⟨hn,_⟩,_⟩:=hv;unfold cF at hn;rw[if_neg (by rw[hr];decide),if_neg (by rw[hr];decide),if_neg (by rw[hr];decide),if_pos hr]at hn;simp only[aD,bC]at hn;have h2:p.kids.length=2:=by have:=hn.1.2;omega
 have h1:p.at_.es.length=1:=by have:=hn.2;omega
 match hp:p.kids,h2 with
 |[k0,k1],_=>
  match ha:p.at_.es,h1 with
  |[l],_=>rw[hp]at hk;exact⟨k0,k1,l,rfl,rfl,hk k0 (by simp),hk k1 (by simp)⟩
theorem tH.snoc{env:List Val}(h:tH env){name:Str}{i:Int}(h0:0<=i)(h1:i<=30000):tH (env++[⟨name,i⟩]):=by intro v hv;rcases kE.1 hv with hv|hv;exact h v hv;simp only[List.mem_singleton]at hv;subst hv;exact⟨by simp only;omega,h1⟩
theorem tY(env:List Val)(name:Str)(i:Int):(env++[(⟨name,i⟩:Val)]).map (·.v)=env.map (·.v)++[name]:=by simp
set_option maxHeartbeats 1000000 in
theorem aGo(arrs:List Arr)(vals:Int):∀p:aA,∀env,bO vals p (env.map (·.v))=true->tH env->QD (evU arrs p) (aX p) env:=by
 refine aA.ind' λp ih env hv hg c n c' hr hn h=>?_;obtain⟨h0,h1,h2,h3⟩:=hr;rw[FQ]at h;rw[rD]at h2 h3 hn ⊢;unfold o7 at h;split at h;cases h;generalize hC1:({c with wk:=wr .i64 (c.wk+1)}:Cn)=C1 at h;have e1:C1.rd=c.rd:=by rw[<-hC1]
 have e2:C1.ops=c.ops:=by rw[<-hC1]
 have hlin:=u4 hv hg;by_cases hI:p.op.bs=[105,102]
 obtain⟨k0,k1,l,hks,hat,v0,v1⟩:=tL hv hI;rw[if_neg (by rw[hI];decide),if_neg (by rw[hI];decide),if_neg (by rw[hI];decide),if_pos hI]at h;unfold ifN at h;unfold rR at h2 h3 hn ⊢;rw[if_pos hI]at h2 h3 hn ⊢;rw[hks]at h h2 h3 hn ⊢;simp only[List.map_cons,List.map_nil,Cs.add]at h h2 h3 hn ⊢;split at h;cases h;rename_i m hm;have hat':atC env p=m:=by simp only[I8,hat]at hm;simp only[atC,hat];exact DD (hlin l (by simp[hat])) hm
 rw[hat']at h2 h3 hn ⊢;split at h;rename_i hm0;rw[if_neg (by omega)]at h2 h3 hn ⊢;have:=ih k0 (by simp[hks]) env v0 hg C1 n c' ⟨by omega,by omega,by omega,by omega⟩ (by omega) h;obtain⟨a,b⟩:=this;constructor<;>simp only<;>omega;rename_i hm0;rw[if_pos (by omega)]at h2 h3 hn ⊢;have:=ih k1 (by simp[hks]) env v1 hg C1 n c' ⟨by omega,by omega,by omega,by omega⟩ (by omega) h;obtain⟨a,b⟩:=this;constructor<;>simp only<;>omega;by_cases hR:p.op.bs=[114,101,100,117,99,101]
 obtain⟨k0,k1,l,hks,hat,v0,v1,_⟩:=qR hv hR;rw[if_neg (by rw[hR];decide),if_neg (by rw[hR];decide),if_neg (by rw[hR];decide),if_neg hI,if_pos hR]at h;unfold IM at h;unfold rR at h2 h3 hn ⊢;rw[if_neg hI,if_pos hR]at h2 h3 hn ⊢;rw[hks]at h h2 h3 hn ⊢;simp only[List.map_cons,List.map_nil,Cs.add]at h h2 h3 hn ⊢;split at h;cases h;rename_i m c2 hm;obtain⟨a,b⟩:=ih k0 (by simp[hks]) env v0 hg C1 m c2 ⟨by omega,by omega,by omega,by omega⟩ (by omega) hm;split at h;cases h;rename_i w hw;have hat':atC env p=w:=by simp only[I8,hat]at hw;simp only[atC,hat];exact DD (hlin l (by simp[hat])) hw
 rw[hat']at h2 h3 hn ⊢;have hge:=tZ (st:=aQ p.fn.es) (name:=p.name) (env:=env) (g:=aX k1) (mX k1) w.toNat 0
 obtain⟨d,e⟩:=I3 (fn:=p.fn.es) (name:=p.name) (g:=evU arrs k1) (s:=aX k1) (env:=env) (by omega) (by omega)
  (λj j0 j1=>ih k1 (by simp[hks]) _ (by rw[tY];exact v1) (hg.snoc j0 j1)) ⟨by omega,by omega,by omega,by omega⟩ (by omega) h
 constructor<;>simp only<;>omega;have hkids:=mF hv hR;have hks:∀q∈p.kids,QD (evU arrs q) (aX q) env:=λq hq=>ih q hq env (hkids q hq) hg;unfold rR at h2 h3 hn ⊢;rw[if_neg hI,if_neg hR]at h2 h3 hn ⊢;have hnode:=hv;rw[fI]at hnode;simp only[aD]at hnode;replace hnode:=hnode.1.1;unfold cF at hnode;simp only[Cs.add]at h2 h3 hn ⊢;rw[if_neg hI,if_neg hR]at hnode;by_cases hC:p.op.bs=[99,111,110,115,116]
 rw[if_pos hC]at h hnode;simp only[aD,bC]at hnode;have hk0:p.kids=[]:=gL (by have:=hnode.1.2;omega);simp only[Rs.ok.injEq]at h;have ho:jE p=⟨1,0,0⟩:=by rw[jE,hC];rfl
 rw[<-h.2,hk0,ho];exact⟨by simp[lH,e1],by simp[lH,e2]⟩;rw[if_neg hC]at h hnode;by_cases hL:p.op.bs=[108,105,110,101,97,114]
 rw[if_pos hL]at h hnode;simp only[aD,bC]at hnode;have hk0:p.kids=[]:=gL (by have:=hnode.1.2;omega);split at h;cases h;simp only[Rs.ok.injEq]at h;have ho:jE p=⟨1,0,0⟩:=by rw[jE,hL];rfl
 rw[<-h.2,hk0,ho];exact⟨by simp[lH,e1],by simp[lH,e2]⟩;rw[if_neg hL]at h hnode;by_cases hD:p.op.bs=[114,101,97,100]
 rw[if_pos hD]at h;have ho:jE p=⟨1,1,0⟩:=if_pos hD;rw[ho]at h2 h3 hn ⊢;simp only at h2 h3 hn;unfold pG at h;split at h;cases h;rename_i xs c2 hk;obtain⟨a,b⟩:=uC hks ⟨by omega,by omega,by omega,by omega⟩ (by omega) hk;split at h;cases h;split at h;cases h;obtain⟨d,e⟩:=S4 ⟨by omega,by omega,by simp only;omega,by simp only;omega⟩ h;simp only at d e;constructor<;>simp only<;>omega;rw[if_neg hD,if_neg hI,if_neg hR]at h;rw[if_neg hD]at hnode;unfold D9 at h;split at h;cases h;rename_i xs c2 hk;by_cases hX:p.op.bs=[99,111,100,101]
 have ho:jE p=⟨1,0,aQ p.fn.es⟩:=by rw[jE,if_neg hD,if_pos hX]
 rw[ho]at h2 h3 hn ⊢;simp only at h2 h3 hn;obtain⟨a,b⟩:=uC hks ⟨by omega,by omega,by omega,by omega⟩ (by omega) hk;rw[if_pos hX]at h;obtain⟨d,e⟩:=JZ ⟨by omega,by omega,by simp only;omega,by simp only;omega⟩ h;simp only at d e;constructor<;>simp only<;>omega;rw[if_neg hX]at h hnode;cases hP:cX p.op.bs with
 |none=>rw[hP]at hnode;cases hnode
 |some q=>
  have ho:jE p=⟨1,0,1⟩:=by rw[jE,if_neg hD,if_neg hX,hP];rfl
  rw[ho]at h2 h3 hn ⊢;simp only at h2 h3 hn;obtain⟨a,b⟩:=uC hks ⟨by omega,by omega,by omega,by omega⟩ (by omega) hk;split at h;simp only[Rs.ok.injEq]at h;have w:wr .i64 (c2.ops+1)=c2.ops+1:=gH (by omega) (by omega);rw[<-h.2];constructor<;>simp only[w]<;>omega;cases h
end
section
section
variable{pg:Pg}
end
end
section
def LQ(p:Prop)(r:AV):Prop:=∃b:Bool,r = .bool b/\(b=true->p)
section
variable{pg:Pg}
end
end
section
theorem DJ{h:Hp}{v t b:AV}{keys:List Nat}(hs:Tev.snap 63 h v=some (t,keys))(hb:b.tree=true):Tev.conv h (.tup [v,b])=some (.tup [t,b]):=by
 unfold Tev.conv;cases hv:v.tree;show (Tev.snap (63+1) h (.tup [v,b])).map (·.1)=_;unfold Tev.snap;rw[if_neg (by simp[AV.tree,Tev.treeL,hv])];simp only[eG,iK,hs,nD hb,Option.map_some];have h1:=nD (h:=h) (d:=62) hv;rw[h1]at hs;cases hs;have h2:(AV.tup [v,b]).tree=true:=by simp[AV.tree,Tev.treeL,hv,hb]
 show (Tev.snap (63+1) h (.tup [v,b])).map (·.1)=_;rw[nD h2];rfl
section
variable{pg:Pg}
theorem c969(hf:pg.fs 969=some J9)(enl ecl:Bool)(env:List Val)(hb:env.length<=big):cA pg 969 [.sl enl (env.map Val.av) ecl] (LQ (tH env/\env.length<=6)):=by
 refine cA.ofX hf ?_;unfold J9;refine Wk ?_;refine aN env (λd r e hp=>e=rI (.sl enl (env.map Val.av) ecl) (.int .i64 d.length)/\tH d) ?_ ?_ ?_;exact⟨rfl,λv hv=>by simp at hv⟩;rintro e hp ⟨rfl,hg⟩;simp only[rH,rI,bH,go_sem,seval];refine⟨_,rfl,λh=>⟨hg,?_⟩⟩;have:=aF h;omega;rintro d x r e hp hes ⟨rfl,hg⟩;obtain⟨hget,e1,e2,ew⟩:=cY hes hb;cases b1:decide (x.n < -20)
 case true=>simp only[rH,rI,e1,e2,hget,b1,go_sem,seval];exact⟨_,rfl,λh=>by cases h⟩
 cases b2:decide (20<x.n)
 case true=>simp only[rH,rI,e1,e2,hget,b1,b2,go_sem,seval];exact⟨_,rfl,λh=>by cases h⟩
 cases b3:decide (35<(x.v.bs.length:Int))
 case true=>simp only[rH,rI,e1,e2,hget,b1,b2,b3,go_sem,seval];exact⟨_,rfl,λh=>by cases h⟩
 simp only[rH,rI,e1,e2,hget,b1,b2,b3,ew,go_sem,seval];have n1:=aP b1;have n2:=aP b2;refine⟨rfl,λv hv=>?_⟩;rcases kE.1 hv with hv|hv;exact hg v hv;simp only[List.mem_singleton]at hv;subst hv;omega
theorem c970(hf:pg.fs 970=some J8)(h942:pg.fs 942=some DU)(nl cl:Bool)(arrs:List Arr)(hb:arrs.length<=big):cA pg 970 [.sl nl (arrs.map Arr.av) cl] (LQ (arrs.length<=6)):=by refine cA.ofX hf ?_;unfold J8;refine Wk ?_;refine aN arrs (λd r e hp=>e=GF (.sl nl (arrs.map Arr.av) cl) (.int .i64 d.length)) ?_ ?_ ?_;rfl;rintro e hp rfl;simp only[GE,GF,bH,go_sem,seval];refine⟨_,rfl,λh=>?_⟩;have:=aF h;omega;rintro d x r e hp hes rfl;obtain⟨hget,e1,e2,ew⟩:=cY hes hb;have h4:=c942 h942 x 40;rw[Arr.avc]at h4;simp only[GE,GF,e1,e2,hget,go_sem,seval];refine aC h4 ?_;cases hF:aGm x 40;refine Wk ?_;exact⟨_,rfl,λh=>by cases h⟩;simp only[ew,go_sem,seval];rfl
theorem aKM(hf:pg.fs 569=some KO)(h568:∀(nl cl:Bool) (ls:List Lin),ls.length<=big->cA pg 568 [.sl nl (ls.map Lin.av) cl] IsB)(h25:∀p:aA,p.ok->Ret pg 25 [p.av] (.bool (qJ p))) :
  ∀p:aA,p.ok->cA pg 569 [p.av] (LQ (qJ p=true)):=by
 refine aA.ind' λp ih hp=>?_;obtain⟨hb,hk⟩:=(aA.ok_iff p).1 hp;obtain⟨r1,a1,b1,rfl⟩:=h568 p.at_.nl p.at_.cl p.at_.es p.at_.ok;have a2:=h25 p hp;rw[aA.avc]at a2;refine cA.ofX hf ?_;unfold KO;refine Wk ?_;refine aN p.kids (λd r env hp=>env=G3 (.pt 1 0 0) (.int .i64 d.length)/\hp.get 1=some (0,.blk (kH p p.kids) 9 true true false)) ?_ ?_ ?_;exact⟨rfl,rfl⟩;rintro env hp ⟨rfl,h1⟩;simp only[kH]at h1;simp only[G2,G3,bH,h1,go_sem,seval];refine aC a1 ?_;cases b1;refine Wk ?_;exact⟨_,rfl,λh=>by cases h⟩;simp only[h1,go_sem,seval];refine aC a2 (Wk ?_);exact⟨_,rfl,λh=>h⟩;rintro d x r env hp hes ⟨rfl,h1⟩;have h0:=h1;simp only[kH]at h1;obtain⟨r3,a3,b3,rfl,hb3⟩:=ih x (by rw[hes];simp) (hk x (by rw[hes];simp));obtain⟨hget,e1,e2,ew⟩:=cY hes hb;simp only[G2,G3,e1,e2,hget,h1,go_sem,seval];refine aC (a3) ?_;cases b3;refine Wk ?_;exact⟨_,rfl,λh=>by cases h⟩;simp only[ew,go_sem,seval];exact⟨rfl,h0⟩
def pE(env:List Val)(r:AV):Prop:=if kN env then ∃nl cl,r = .tup [.sl nl ((env.map (·.v)).map Str.av) cl,.bool true]/\(nl=true->env=[]) else r = .tup [.sl true [] true,.bool false]
theorem c978(hf:pg.fs 978=some A5)(h572:pg.fs 572=some xF)(enl ecl:Bool)(env:List Val)(heb:env.length<=big):cA pg 978 [.sl enl (env.map Val.av) ecl] (pE env):=by
 refine cA.ofX hf ?_;unfold A5;have hmm:∀env:List Val,(env.map (·.v)).map Str.av=env.map (λv:Val=>AV.str v.v.bs):=λenv=>by rw[List.map_map];rfl
 refine Wk ?_;refine aN env (λd r e hp=>∃v,e=GD (.sl enl (env.map Val.av) ecl) v (.int .i64 d.length)/\Own hp 5 1 false v (d.map λv => .str v.v.bs)/\kN d) ?_ ?_ ?_;refine⟨_,rfl,Own.nil _ _ _ _ _ _ rfl,?_⟩;simp[kN];rintro e hp ⟨v,rfl,ho,hd⟩;obtain⟨nl8,cl8,keys,hsn,hnl8⟩:=ho.snap (El.names env) 61;simp only[GC,GD,bH,go_sem,seval];refine⟨_,DJ hsn rfl,?_⟩;unfold pE;rw[if_pos hd,hmm];exact⟨nl8,cl8,rfl,λh=>by simpa using hnl8 h⟩;rintro d x r e hp hes ⟨v,rfl,ho,hd⟩;obtain⟨hget,e1,e2,ew⟩:=cY hes heb;obtain⟨nl8,cl8,keys,hsn,hnl8⟩:=ho.snap (El.names d) 62;have hdl:d.length<=big:=by have hl:=congrArg List.length hes;simp only[dA,List.length_cons]at hl;omega
 have h2:=c572 h572 nl8 cl8 (d.map (·.v)) (by simpa using hdl) x.v.bs;rw[hmm]at h2;simp only[GC,GD,e1,e2,hget,go_sem,seval];refine i7 h2 (vI hsn rfl) (v:=.bool (fD (d.map (·.v)) x.v.bs)) (pa:=[]) rfl ?_;cases hL:fD (d.map (·.v)) x.v.bs;simp only[hget,e2,go_sem,seval];refine m8 (kb:=0) (s:=5) (bytes:=16) (es:=d.map λx => .str x.v.bs) ho (El.names d) (xs:=[.str x.v.bs]) (by intro y hy;simp at hy;subst hy;exact El.str _) ?_ (by decide) ?_;simp only[bU,List.length_cons,List.length_nil,big]at *;omega;intro v' rd pa ho' hk hpa;simp only[ew,go_sem,seval];refine⟨v',rfl,?_,AB hd hL⟩;rw[List.map_append];exact ho';have hE:¬kN env:=by rw[hes];exact AC hL
 refine Wk ?_;unfold pE;rw[if_neg hE]
theorem c980(hf:pg.fs 980=some DQ)(h98:pg.fs 98=some F9)(h138:pg.fs 138=some sC)(enl ecl:Bool)(env:List Val)(heb:env.length<=big):cA pg 980 [.sl enl (env.map Val.av) ecl] (pE env):=by
 refine cA.ofX hf ?_;unfold DQ;have hmm:∀env:List Val,(env.map (·.v)).map Str.av=env.map (λv:Val=>AV.str v.v.bs):=λenv=>by rw[List.map_map];rfl
 refine Wk ?_;refine aN env (λd r e hp=>∃v,e=F8 v (.sl enl (env.map Val.av) ecl) (.int .i64 env.length) (.int .i64 d.length)/\Own hp 9 1 false v (d.map λv => .str v.v.bs)/\kN d) ?_ ?_ ?_;refine⟨_,rfl,Own.nil _ _ _ _ _ _ rfl,?_⟩;simp[kN];rintro e hp ⟨v,rfl,ho,hd⟩;obtain⟨nl8,cl8,keys,hsn,hnl8⟩:=ho.snap (El.names env) 61;simp only[F7,F8,bH,go_sem,seval];refine⟨_,DJ hsn rfl,?_⟩;unfold pE;rw[if_pos hd,hmm];exact⟨nl8,cl8,rfl,λh=>by simpa using hnl8 h⟩;rintro d x r e hp hes ⟨v,rfl,ho,hd⟩;obtain⟨hget,e1,e2,ew⟩:=cY hes heb;have ho2:∀o,Own (hp.put 1 (hp.next 1) o) 9 1 false v (d.map λv => .str v.v.bs):=λo=>ho.mono (by rw[aB,if_neg (by decide)]);have ho3:∀o o',Own ((hp.put 1 (hp.next 1) o).put 1 (hp.next 1) o') 9 1 false v (d.map λv => .str v.v.bs):=λo o'=>(ho2 o).mono (by rw[aB,if_neg (by decide)]);have hdl:d.length<=big:=by have hl:=congrArg List.length hes;simp only[dA,List.length_cons]at hl;omega
 simp only[F7,F8,e1,e2,hget,go_sem,seval];have ho4:=ho3 (.blk [.str [],.int .i64 0] 2 true true false) (.blk [.str x.v.bs,.int .i64 x.n] 2 true true false);have g1:((hp.put 1 (hp.next 1) (.blk [.str [],.int .i64 0] 2 true true false)).put 1 (hp.next 1) (.blk [.str x.v.bs,.int .i64 x.n] 2 true true false)).get 1=some (hp.next 1,.blk [.str x.v.bs,.int .i64 x.n] 2 true true false):=by rw[aB,if_pos rfl]
 generalize (hp.put 1 (hp.next 1) (.blk [.str [],.int .i64 0] 2 true true false)).put 1 (hp.next 1) (.blk [.str x.v.bs,.int .i64 x.n] 2 true true false)=H at ho4 g1 ⊢;obtain⟨nl8,cl8,keys,hsn,hnl8⟩:=ho4.snap (El.names d) 62;have h2:Ret pg 98 [.sl nl8 ((d.map (·.v)).map Str.av) cl8,.str x.v.bs] (.bool (fD (d.map (·.v)) x.v.bs)):=c98 h98 h138 nl8 cl8 (d.map (·.v)) (by simpa using hdl) x.v.bs;rw[hmm]at h2;refine i7 h2 (vI hsn rfl) (v:=.bool (fD (d.map (·.v)) x.v.bs)) (pa:=[]) rfl ?_;cases hL:fD (d.map (·.v)) x.v.bs;simp only[g1,go_sem,seval];refine m8 (kb:=0) (s:=9) (bytes:=16) (es:=d.map λx => .str x.v.bs) ho4 (El.names d) (xs:=[.str x.v.bs]) (by intro y hy;simp at hy;subst hy;exact El.str _) ?_ (by decide) ?_;simp only[bU,List.length_cons,List.length_nil,big]at *;omega;intro v' rd pa ho' hk hpa;simp only[ew,go_sem,seval];refine⟨v',rfl,?_,AB hd hL⟩;rw[List.map_append];exact ho';have hE:¬kN env:=by rw[hes];exact AC hL
 refine Wk ?_;unfold pE;rw[if_neg hE]
end
end
section
section
variable{pg:Pg}{kb:Nat}
def aJQ(pg:Pg)(kb id:Nat)(rest:C)(msk:List Bool)(drop:List Nat)(n:Nat)(o:Ex×St):Option (Ex×St):=
 (match lE id o.1 with|.nor=>bB pg.gl (aZ pg n) kb n rest o.2|x=>some (x,o.2)).map (wQ kb msk drop)
def SI(pg:Pg)(kb id:Nat)(rest:C)(msk:List Bool)(drop:List Nat)(R:Ex×St)(k e:Nat)(x:Ex)(st:St):Prop:=
 ∃h',killI st.hp k e=some h' /\
  match lE id x with
  |.nor=>WX pg kb rest ⟨st.env,h'⟩ (λy s=>wQ kb msk drop (y,s)=R)
  |y=>wQ kb msk drop (y,⟨st.env,h'⟩)=R
theorem SI.fin{id:Nat}{rest:C}{msk:List Bool}{drop:List Nat}{R:Ex×St}{k e:Nat}{x:Ex}{st:St}(h:SI pg kb id rest msk drop R k e x st) :
  ∃n,(killI st.hp k e).bind (λh=>aJQ pg kb id rest msk drop n (x,⟨st.env,h⟩))=some R:=by
 obtain⟨h',h1,h2⟩:=h;rw[h1];simp only[Option.bind_some,aJQ];generalize lE id x=b at h2;cases b with
 |nor=>obtain⟨n,y,s,h3,h4⟩:=h2;exact⟨n,by simp only[h3,Option.map_some,h4]⟩
 |ext i=>exact⟨0,by simp only[Option.map_some];exact congrArg some h2⟩
 |ret=>exact⟨0,by simp only[Option.map_some];exact congrArg some h2⟩
theorem SI.nor{id:Nat}{rest:C}{msk:List Bool}{drop:List Nat}{R:Ex×St}{k e:Nat}{st:St}{h':Hp}(h1:killI st.hp k e=some h')(h2:XX pg kb rest ⟨st.env,h'⟩ (λy s=>wQ kb msk drop (y,s)=R) ⟨⟩) :
  SI pg kb id rest msk drop R k e (.ext id) st:=by
 refine⟨h',h1,?_⟩;have:lE id (.ext id) = .nor:=by simp[lE]
 rw[this];exact h2
theorem SI.ret{id:Nat}{rest:C}{msk:List Bool}{drop:List Nat}{R:Ex×St}{k e:Nat}{st:St}{h':Hp}(h1:killI st.hp k e=some h')(h2:wQ kb msk drop (.ret,⟨st.env,h'⟩)=R) :
  SI pg kb id rest msk drop R k e .ret st:=⟨h',h1,h2⟩
theorem WQ{f s:Nat}{h:Hp}{vs:List AV}{Q:AV->Eff->Prop}{t:Tok Q}{r:AV}{h0:Hp}(ht:treeL vs=true)(hr:tF pg f vs ((kb+s+1)*65536) [] r h0)(hn:gN h0=true)(hd:∀x∈h0,h.get x.k=none)
  (hq:Q r (.pat (h0.map (·.k)) h0)):XO pg kb (.calle f) s h vs Q t:=by
 obtain⟨n,e⟩:=hr;refine⟨n,r,_,?_,hq⟩
 have hall:(h0.all λx=>(h.get x.k).isNone)=true:=by rw[eE];intro x hx;rw[hd x hx];rfl
 simp only[opR,kR,if_pos ht,m9,e,hn,hall,Bool.and_self,if_true]
theorem aHh(s:Nat)(h:Hp)(vs:List AV)(Q:AV->Eff->Prop)(t:Tok Q):XO pg kb .rng s h vs Q t=XV (O7 h (kb+s) vs) Q ⟨⟩:=cQ rfl s h vs Q
theorem aHy(s:Nat)(h:Hp)(vs:List AV)(Q:AV->Eff->Prop)(t:Tok Q):XO pg kb .ent s h vs Q t=XV (UQ h vs) Q ⟨⟩:=cQ rfl s h vs Q
end
attribute [go_sem] aHh aHy O7
end
end Go.Tev
