import Derived.Test.YtagdhpkdbdilaaaGreatDoorSAW
import Derived.Test.YtagdhpkdbdilaaaGreatDoorSAT
import Derived.Test.YtagdhpkdbdilaaaGreatDoorSAQ
import Derived.Test.YtagdhpkdbdilaaaGreatDoorSAR
import Derived.Test.YtagdhpkdbdilaaaGreatDoorSAS
set_option linter.all false
namespace Go.Tev
section
def pC(acc l:List Int):List Int:=l.foldl (λa x=>oI x a) acc
mutual
def mR:aE->List Int
 |.mk op _ value _ _ _ _ _ _ kids _=>kG (if decide (op.bs=[114,101,97,100]) then oI value [] else []) kids
def kG:List Int->List aE->List Int
 |acc,[]=>acc
 |acc,p::r=>kG (pC acc (mR p)) r
end
theorem wV:∀(l acc:List Int),(pC acc l).length<=acc.length+l.length
 |[],acc=>by simp[pC]
 |x::r,acc=>by have h1:=wV r (oI x acc);have h2:=B8 x acc;simp only[pC,List.foldl_cons,List.length_cons]at *;omega
theorem xB{a:Int}:∀(l acc:List Int),a∈pC acc l↔a∈acc\/a∈l
 |[],acc=>by simp[pC]
 |x::r,acc=>by have h1:=xB (a:=a) r (oI x acc);simp only[pC,List.foldl_cons]at *;rw[h1,CU,List.mem_cons];constructor;rintro((h|h)|h)<;>simp[h];rintro(h|h|h)<;>simp[h]
mutual
theorem EX:∀p:aE,(mR p).length<=p.sz
 |.mk op _ value _ _ _ _ _ _ kids _=>by have h:=rL kids (if decide (op.bs=[114,101,97,100]) then oI value [] else []);rw[mR,aE.sz];split at h<;>simp_all [oI]<;>omega
theorem rL:∀(l:List aE)(acc:List Int),(kG acc l).length<=acc.length+aE.szL l
 |[],acc=>by simp[kG]
 |p::r,acc=>by have h1:=EX p;have h2:=rL r (pC acc (mR p));have h3:=wV (mR p) acc;simp only[kG,aE.szL]at *;omega
end
mutual
theorem E6(a:Int):∀p:aE,a∈mR p↔a∈qP p
 |.mk op _ value _ _ _ _ _ _ kids _=>by have h:=rP a kids (if decide (op.bs=[114,101,97,100]) then oI value [] else []);rw[mR,qP,h,i8];cases decide (op.bs=[114,101,97,100])<;>simp[oI]
theorem rP(a:Int):∀(l:List aE)(acc:List Int),a∈kG acc l↔a∈acc\/a∈mS l
 |[],acc=>by simp[kG,mS]
 |p::r,acc=>by have h1:=E6 a p;have h2:=rP a r (pC acc (mR p));rw[kG,h2,xB,h1,mS,i8,or_assoc]
end
section
variable{pg:Pg}
end
end
section
section
variable{pg:Pg}
theorem c114(hf:pg.fs 114=some yH)(c:UInt8):Ret pg 114 [.int .u8 (c.toNat:Int)] (.bool (cD c)):=by
 refine Ret.ofX hf ?_;unfold yH;cases b1:decide (48<=(c.toNat:Int));simp only[b1,go_sem,seval];have:¬ 48<=c.toNat:=by have:=bQ b1;omega
 simp[cD,this];simp only[b1,go_sem,seval];have:48<=c.toNat:=by have:=aR b1;omega
 simp only[cD,this,decide_true,Bool.true_and];rw[cJ];omega
theorem c115(hf:pg.fs 115=some yG)(c:UInt8):Ret pg 115 [.int .u8 (c.toNat:Int)] (.bool (cZ c)):=by
 refine Ret.ofX hf ?_;unfold yG;cases b1:decide (97<=(c.toNat:Int));simp only[b1,go_sem,seval];have:¬ 97<=c.toNat:=by have:=bQ b1;omega
 simp[cZ,this];simp only[b1,go_sem,seval];have:97<=c.toNat:=by have:=aR b1;omega
 simp only[cZ,this,decide_true,Bool.true_and];rw[cJ];omega
theorem c90(hf:pg.fs 90=some JL)(n:Int):Ret pg 90 [.int .i64 n] (.bool (jB n)):=by refine Ret.ofX hf ?_;unfold JL;cases b1:decide (-1000000<=n);simp only[b1,go_sem,seval];simp[jB,b1];simp only[b1,go_sem,seval];simp[jB,b1]
theorem c77(hf:pg.fs 77=some M3)(h114:pg.fs 114=some yH)(h115:pg.fs 115=some yG)(s:List UInt8)(hb:s.length<=big):Ret pg 77 [.str s] (.bool (c8 s)):=by
 refine Ret.ofX hf ?_;unfold M3;cases b0:decide ((s.length:Int)=0)
 case true=>have:s=[]:=eY (by have:=aR b0;omega);simp only[b0,go_sem,seval];subst this;rfl
 case false=>
 obtain⟨c,t,hs⟩:∃c t,s=c::t:=by
  cases s with
  |nil=>simp at b0
  |cons c t=>exact⟨c,t,rfl⟩
 have hg0:s[0]?=some c:=by rw[hs];rfl
 have hlt:s.length=t.length+1:=by rw[hs];rfl
 have hnu:c8 s=(decide (s.length<=30)&&(if c=95 then decide (2<=s.length)&&decide (s.length<=10) && !decide (t.head?=some 48)&&t.all cD else cZ c&&t.all (λx=>cZ x||cD x))):=by rw[hs];rfl
 cases b1:decide (30<(s.length:Int))
 case true=>
  simp only[b0,b1,go_sem,seval];have:¬s.length<=30:=by have:=aR b1;omega
  simp[hnu,this]
 case false=>
 have h30:s.length<=30:=by have:=bQ b1;omega
 have hd30:decide (s.length<=30)=true:=decide_eq_true h30;rw[hnu,hd30,Bool.true_and];clear hnu;simp only[b0,b1,hg0,go_sem,seval];have hi0:∀(d:List UInt8)(x:UInt8)(r:List UInt8),s=d++x::r->s[d.length]?=some x/\decide ((d.length:Int)<(s.length:Int))=true/\wr .i64 ((d.length:Int)+1)=((d++[x]).length:Int):=by intro d x r he;refine⟨by rw[he];simp,by rw[he];simp;omega,?_⟩;exact gJ (r:=r) (by rw[<-he];exact hb)
 cases b2:decide ((c.toNat:Int)=95)
 case true=>
  have hc:c=95:=by have h:=aR b2;exact UInt8.toNat_inj.1 (by simpa using (show c.toNat=95 by omega))
  rw[if_pos hc];cases b3:decide ((s.length:Int)<2)
  case true=>
   have:¬ 2<=s.length:=by have:=aR b3;omega
   simp only[b3,go_sem,seval];simp[this]
  case false=>
  have h2:2<=s.length:=by have:=bQ b3;omega
  cases b4:decide (10<(s.length:Int))
  case true=>
   have:¬s.length<=10:=by have:=aR b4;omega
   simp only[b3,b4,go_sem,seval];simp[this]
  case false=>
  have h10:s.length<=10:=by have:=bQ b4;omega
  obtain⟨d,u,ht⟩:∃d u,t=d::u:=by
   cases t with
   |nil=>simp at hlt;omega
   |cons d u=>exact⟨d,u,rfl⟩
  have hg1:s[1]?=some d:=by rw[hs,ht];rfl
  have hhd:t.head?=some d:=by rw[ht];rfl
  cases b5:decide ((d.toNat:Int)=48)
  case true=>
   have hd:d=48:=by have h:=aR b5;exact UInt8.toNat_inj.1 (by simpa using (show d.toNat=48 by omega))
   simp only[b3,b4,hg1,b5,go_sem,seval];simp[hhd,hd]
  case false=>
  have hd:¬d=48:=by intro h;subst h;exact absurd rfl (bQ b5)
  have hres:(decide (2<=s.length)&&decide (s.length<=10) && !decide (t.head?=some 48)&&t.all cD)=t.all cD:=by simp[h2,h10,hhd,hd]
  rw[hres];simp only[b3,b4,hg1,b5,go_sem,seval];refine aY t (λe r env hp=>env=FY (.str s) (.int .i64 ((e.length+1:Nat):Int))/\t.all cD=r.all cD) ?_ ?_ ?_;exact⟨rfl,rfl⟩;rintro env hp ⟨rfl,hI⟩;have hex:decide (((t.length+1:Nat):Int)<(s.length:Int))=false:=by simp;omega
  simp only[FV,FY,hex,go_sem,seval];rw[hI];rfl;rintro e x r env hp he ⟨rfl,hI⟩;have hse:s=(c::e)++x::r:=by rw[hs,he];rfl
  obtain⟨k1,k2,k3⟩:=hi0 _ _ _ hse;have k0:(c::e).length=e.length+1:=rfl;have k4:((c::e)++[x]).length=(e++[x]).length+1:=by simp
  rw[k0]at k1 k2 k3;rw[k4]at k3;simp only[FV,FY,k1,k2,go_sem,seval];refine cS (c114 h114 x) rfl rfl ?_;cases hx:cD x;simp only[hx,go_sem,seval];rw[hI];simp[hx];simp only[hx,k3,go_sem,seval];refine⟨rfl,?_⟩;rw[hI];simp[hx]
 case false=>
  have hc:¬c=95:=by intro h;subst h;exact absurd rfl (bQ b2)
  rw[if_neg hc];simp only[b2,go_sem,seval];refine aY s (λe r env hp=>env=FX (.str s) (.int .i64 e.length)/\(e=[]\/(cZ c&&t.all (λx=>cZ x||cD x))=r.all (λx=>cZ x||cD x))) ?_ ?_ ?_;exact⟨rfl,.inl rfl⟩;rintro env hp ⟨rfl,hI⟩;have hex:decide ((s.length:Int)<(s.length:Int))=false:=by simp
  simp only[FU,FX,hex,go_sem,seval];rcases hI with h|h;exact absurd h (by rw[hs];simp);rw[h];rfl
  ·rintro e x r env hp he ⟨rfl,hI⟩;obtain⟨k1,k2,k3⟩:=hi0 _ _ _ he
   have hI2:(cZ c&&t.all (λx=>cZ x||cD x))=((if e=[] then cZ x else (cZ x||cD x))&&r.all (λx=>cZ x||cD x)):=by
    rcases hI with h|h;subst h;rw[hs]at he;simp only[List.nil_append,List.cons.injEq]at he;obtain⟨rfl,rfl⟩:=he;simp;by_cases h0:e=[]
    subst h0;rw[hs]at he;simp only[List.nil_append,List.cons.injEq]at he;obtain⟨rfl,rfl⟩:=he;simp;rw[h,if_neg h0];simp
   rw[hI2];clear hI hI2;simp only[FU,FX,k1,k2,go_sem,seval];refine cS (c115 h115 x) rfl rfl ?_;cases hx:cZ x
   case true=>simp only[hx,k3,go_sem,seval];refine⟨rfl,.inr ?_⟩;split<;>simp
   case false=>
   by_cases h0:e=[]
   have h1:decide ((e.length:Int)=0)=true:=by simp[h0]
   simp only[hx,h1,go_sem,seval];simp[h0];have h1:decide ((e.length:Int)=0)=false:=by simp[h0]
   simp only[hx,h1,k1,go_sem,seval];refine cS (c114 h114 x) rfl rfl ?_;cases hy:cD x;simp only[hx,hy,go_sem,seval];simp[h0];simp only[hx,hy,k3,go_sem,seval];refine⟨rfl,.inr ?_⟩;simp[h0]
theorem c54(hf:pg.fs 54=some NE)(h77:∀s:Str,Ret pg 77 [.str s.bs] (.bool (c8 s.bs)))(h90:pg.fs 90=some JL)(l:Lin):Ret pg 54 [l.av] (.bool (gC l)):=by
 refine Ret.ofX hf ?_;unfold NE;refine Wk ?_;refine aG (c90 h90 _) (Wk ?_);cases h9:jB l.c
 case false=>refine Wk ?_;simp[gC,h9]
 cases h12:decide (12<(l.ts.es.length:Int))
 case true=>
  simp only[h12,go_sem,seval];have:¬(l.ts.es.length:Int)<=12:=by have:=aR h12;omega
  simp[gC,this]
 simp only[h12,go_sem,seval];have hlin:gC l=iW [] l.ts.es:=by
  have:(l.ts.es.length:Int)<=12:=by have:=bQ h12;omega
  simp[gC,h9,this]
 refine aY l.ts.es (λd r env hp=>hp.get 1=some (0,.blk [.int .i64 l.c,.sl l.ts.nl (l.ts.es.map aN.av) l.ts.cl] 2 true true false) /\
  env=F3 (.pt 1 0 0) (.int .i64 d.length)/\gC l=iW d r) ?_ ?_ ?_
 exact⟨rfl,rfl,hlin⟩;rintro env hp ⟨h1,rfl,hq⟩;simp only[F2,F3,h1,go_sem,seval];rw[hq];rfl;rintro d x r env hp hes ⟨h1,rfl,hq⟩;have hb:=l.ts.ok;have hget:l.ts.es[d.length]?=some x:=by rw[hes];simp
 have e1:decide ((d.length:Int)<(l.ts.es.length:Int))=true:=by rw[hes];simp;omega
 have e2:((d.length:Int)<(l.ts.es.length:Int))=True:=eq_true (by rw[hes];simp;omega);have hsb:(d++x::r).length<=big:=by rw[<-hes];exact hb
 simp only[iW]at hq;simp only[F2,F3,h1,hget,e1,e2,go_sem,seval];refine aG (h77 x.v) (Wk ?_);cases hn:c8 x.v.bs
 case false=>refine Wk ?_;refine cC ?_;simp[hq,hn]
 cases hc:decide (x.c=0)
 case true=>simp only[hc,go_sem,seval];refine cC ?_;simp[hq,hc]
 simp only[hc,go_sem,seval];refine aG (c90 h90 x.c) (Wk ?_);cases hx9:jB x.c
 case false=>refine Wk ?_;refine cC ?_;simp[hq,hx9]
 rcases EL d with hd|⟨d',q,hd⟩
 have e3:decide (0<(d.length:Int))=false:=by simp[hd]
 simp only[hx9,e3,gJ hsb,go_sem,seval];refine And.intro (by kernel_rfl) ⟨h1,rfl,?_⟩;subst hd;simp[hq,hx9,hc,hn];have hd':d=d'++[q]:=by simpa using hd
 have e3:decide (0<(d.length:Int))=true:=by simp[hd']
 have e4:wr .i64 ((d.length:Int)-1)=(d'.length:Int):=by rw[eB (by simp only[hd',cA,List.length_singleton];omega) (by simp only[big,cA]at hsb;omega),hd',cA,List.length_singleton];omega
 have e5:l.ts.es[d'.length]?=some q:=by rw[hes,hd'];simp
 have e6:((d'.length:Int)<(l.ts.es.length:Int))=True:=eq_true (by rw[hes,hd'];simp;omega);cases hl:Op.bytesLess q.v.bs x.v.bs;simp only[hx9,e3,e4,e5,e6,h1,hl,go_sem,seval];refine cC ?_;simp[hq,hd',hl];simp only[hx9,e3,e4,e5,e6,h1,hl,gJ hsb,go_sem,seval];refine And.intro (by kernel_rfl) ⟨rfl,?_⟩;simp[hq,hx9,hc,hn,hd',hl]
end
end
section
section
variable{pg:Pg}
theorem CA(l:Lin)(r:List Lin)(vars:List Str):bW (l::r) vars=(gC l&&(l.ts.es.all (λx=>cN vars x.v.bs)&&bW r vars)):=by simp[bW,Bool.and_assoc]
end
end
section
section
variable{pg:Pg}
end
end
section
theorem cP{α : Type}{q : α -> α -> Bool}(h:∀x,q x x=true):∀l:List α,eqL q l l=true
 |[]=>by simp[eqL]
 |x::r=>by simp[eqL,h x,cP h r]
theorem xU{α : Type}{q : α -> α -> Bool}:∀l:List α,(∀x∈l,q x x=true)->eqL q l l=true
 |[],_=>by simp[eqL]
 |x::r,h=>by simp[eqL,h x (by simp),xU r (λy hy=>h y (by simp[hy]))]
theorem DD(x:aN):fA x x=true:=by simp[fA]
theorem eO(x:Lin):bU x x=true:=by simp[bU,cP DD]
theorem mO(x:aJ):gK x x=true:=by simp[gK,cP]
theorem mT:∀p:aE,bT p p=true:=
 aE.ind' λp ih=>by rw[iL,fG,xU p.kids ih,cP eO,cP mO];simp
theorem nF{α β : Type}{q : α -> β -> Bool}(l:List α):eqL q l []=decide ((l.length:Int)=0):=by
 cases l with
 |nil=>simp[eqL]
 |cons x r=>simp[eqL];omega
def fH(α : Type):Sl α:=⟨true,[],true,by simp[big]⟩
end
section
theorem cM{α : Type}{es d r:List α}{x : α}(hes:es=d++x::r)(hb:es.length<=big) :
  es[d.length]?=some x/\decide ((d.length:Int)<(es.length:Int))=true/\((d.length:Int)<(es.length:Int))=True/\wr .i64 ((d.length:Int)+1)=((d++[x]).length:Int):=by
 have h:d.length<es.length:=by rw[hes];simp
 refine⟨by rw[hes];simp,by simp;omega,eq_true (by omega),gJ (r:=r) (by rw[<-hes];exact hb)⟩
theorem bA(n:Nat):decide ((n:Int)<(n:Int))=false:=by simp
theorem xD{α β : Type}{q : α -> β -> Bool}{es d r:List α}{x : α}{es':List β}(hes:es=d++x::r)(hl:es.length=es'.length) :
  ∃y,es'[d.length]?=some y/\decide ((d.length:Int)<(es'.length:Int))=true/\((d.length:Int)<(es'.length:Int))=True/\eqL q (x::r) (es'.drop d.length)=(q x y&&eqL q r (es'.drop (d++[x]).length)):=by
 have h:d.length<es'.length:=by rw[<-hl,hes];simp
 refine⟨es'[d.length],cK h,by simp;omega,eq_true (by omega),?_⟩;rw[qI h,eqL];simp
theorem jL{α β : Type}{q : α -> β -> Bool}{es:List α}{es':List β}(hl:es.length=es'.length):eqL q [] (es'.drop es.length)=true:=by rw[hl,List.drop_length];simp[eqL]
theorem u7{α β : Type}{q : α -> β -> Bool}{a:List α}{b:List β}(h:decide ((a.length:Int)=(b.length:Int))=false):eqL q a b=false:=by cases he:eqL q a b;rfl;have:=z8 he;simp[this]at h
theorem lM:∀s:List UInt8,Op.bytesLess s s=false
 |[]=>rfl
 |c::r=>by simp only[Op.bytesLess,lM r,Bool.and_false,Bool.or_false,sY];exact UInt8.lt_irrefl c
section
variable{pg:Pg}
theorem c194(hf:pg.fs 194=some vN)(nl cl:Bool)(vars:List Str)(hb:vars.length<=big)(s:List UInt8):Ret pg 194 [.sl nl (vars.map Str.av) cl,.str s] (.bool (cN vars s)):=by
 refine Ret.ofX hf ?_;unfold vN;refine Wk ?_;refine aY vars (λd r env hp=>env=sU (.sl nl (vars.map Str.av) cl) (.str s) (.int .i64 d.length)/\cN vars s=cN r s) ?_ ?_ ?_;exact⟨rfl,rfl⟩;rintro env hp ⟨rfl,hI⟩;simp only[sT,sU,bA,go_sem,seval];rw[hI];rfl;rintro d x r env hp hes ⟨rfl,hI⟩;obtain⟨hget,e1,e2,ew⟩:=cM hes hb;have hsym:decide (x.bs=s)=decide (s=x.bs):=by rw[cJ];exact eq_comm
 cases hx:decide (s=x.bs);simp only[sT,sU,e1,e2,hget,hsym,hx,ew,go_sem,seval];refine⟨rfl,?_⟩;rw[hI];simp[cN,hx];simp only[sT,sU,e1,e2,hget,hsym,hx,go_sem,seval];rw[hI];simp[cN,hx]
theorem c193(hf:pg.fs 193=some D0)(h54:∀l:Lin,Ret pg 54 [l.av] (.bool (gC l)))(h194:pg.fs 194=some vN)(nl cl:Bool)(ls:List Lin)(hb:ls.length<=big)(nl' cl':Bool)(vars:List Str)(hb':vars.length<=big) :
  Ret pg 193 [.sl nl (ls.map Lin.av) cl,.sl nl' (vars.map Str.av) cl'] (.bool (bW ls vars)):=by
 refine Ret.ofX hf ?_;unfold D0;refine Wk ?_;refine aY ls (λd r env hp=>env=BD (.sl nl (ls.map Lin.av) cl) (.sl nl' (vars.map Str.av) cl') (.int .i64 d.length)/\bW ls vars=bW r vars) ?_ ?_ ?_;exact⟨rfl,rfl⟩;rintro env hp ⟨rfl,hI⟩;simp only[BB,BD,bA,go_sem,seval];rw[hI];rfl;rintro d l r env hp hes ⟨rfl,hI⟩;rw[CA]at hI;obtain⟨hget,e1,e2,ew⟩:=cM hes hb;rw[hI];clear hI;simp only[BB,BD,hget,e1,e2,go_sem,seval];refine aG (h54 l) (Wk ?_);cases hl:gC l
 case false=>simp only[go_sem,seval]
 refine Wk ?_;have hlb:=l.ts.ok;refine aY l.ts.es (λd2 r2 env hp=>env=BE (.sl nl (ls.map Lin.av) cl) (.sl nl' (vars.map Str.av) cl') (.int .i64 d.length) (.int .i64 d2.length)/\l.ts.es.all (λx=>cN vars x.v.bs)=r2.all (λx=>cN vars x.v.bs)) ?_ ?_ ?_;exact⟨rfl,rfl⟩;rintro env hp ⟨rfl,hI⟩;simp only[BC,BE,hget,e2,bA,ew,go_sem,seval];refine⟨rfl,?_⟩;rw[hI];simp;rintro d2 x r2 env hp he2 ⟨rfl,hI⟩;obtain⟨hget2,g1,g2,gw⟩:=cM he2 hlb;rw[hI];clear hI;simp only[BC,BE,hget,e2,g1,g2,hget2,go_sem,seval];refine aG (c194 h194 nl' cl' vars hb' x.v.bs) (Wk ?_);cases hv:cN vars x.v.bs;simp only[hv,go_sem,seval];simp only[hv,gw,go_sem,seval];rfl
theorem aGX(hf:pg.fs 124=some oA)(n:Int):Ret pg 124 [.str [105,110,116],.int .i64 n] (.bool (kL n)):=by
 refine Ret.ofX hf ?_;unfold oA
 repeat' (first|simp only[*,go_sem,seval]|refine kA (λ_=>?_) (λ_=>?_)|refine kB (λ_=>?_) (λ_=>?_)|refine cC ?_)
 all_goals (simp_all [kL])
 all_goals omega
theorem aSW(hf:pg.fs 124=some oA)(n:Int):Ret pg 124 [.str [98,111,111,108],.int .i64 n] (.bool (pN n)):=by
 refine Ret.ofX hf ?_;unfold oA
 repeat' (first|simp only[*,go_sem,seval]|refine kA (λ_=>?_) (λ_=>?_)|refine kB (λ_=>?_) (λ_=>?_)|refine cC ?_)
 all_goals (simp_all [pN])
def aSJ(a b:Lin)(r:AV):Prop:=∃c:Int,r = .int .i64 c/\decide (c=0)=bU a b
theorem jI{a b:Lin}(c:Int)(h:decide (c=0)=bU a b):aSJ a b (.int .i64 c):=⟨c,rfl,h⟩
theorem OY{α β : Type}{a:List α}{b:List β}{d r:List (α×β)}{p : α×β}(h:a.zip b=d++p::r) :
  a[d.length]?=some p.1/\b[d.length]?=some p.2/\d.length<a.length/\d.length<b.length:=by
 have h1:(a.zip b)[d.length]?=some p:=by rw[h];simp
 rw[List.getElem?_zip_eq_some]at h1;obtain⟨h2,h3⟩:=h1;exact⟨h2,h3,(bR.1 h2).1,(bR.1 h3).1⟩
theorem c191(hf:pg.fs 191=some vO)(a b:Lin):bZ pg 191 [a.av,b.av] (aSJ a b):=by
 refine bZ.ofX hf ?_;unfold vO;refine Wk ?_;have hab:=a.ts.ok;have hbb:=b.ts.ok
 refine aY (a.ts.es.zip b.ts.es) (λd r env hp=>hp.get 1=some (0,.blk [.int .i64 a.c,.sl a.ts.nl (a.ts.es.map aN.av) a.ts.cl] 2 true true false)/\hp.get 5=some (0,.blk [.int .i64 b.c,.sl b.ts.nl (b.ts.es.map aN.av) b.ts.cl] 2 true true false) /\
  env=iA (.pt 1 0 0) (.pt 5 0 0) (.int .i64 d.length)/\eqL fA a.ts.es b.ts.es=eqL fA (a.ts.es.drop d.length) (b.ts.es.drop d.length)) ?_ ?_ ?_
 exact⟨rfl,rfl,rfl,rfl⟩;rintro env hp ⟨g1,g5,rfl,hI⟩;rw[List.length_zip]at hI ⊢;have hl:bU a b=(decide (a.c=b.c)&&eqL fA (a.ts.es.drop (min a.ts.es.length b.ts.es.length)) (b.ts.es.drop (min a.ts.es.length b.ts.es.length))):=by rw[bU,hI]
 clear hI;generalize hm:min a.ts.es.length b.ts.es.length=m at hl ⊢;rcases Nat.lt_trichotomy a.ts.es.length b.ts.es.length with h|h|h;have hm':m=a.ts.es.length:=by omega
 subst hm';have f1:decide ((a.ts.es.length:Int)<(b.ts.es.length:Int))=true:=by simp;omega
 have hz:bU a b=false:=by
  rw[hl,List.drop_length];have:(b.ts.es.drop a.ts.es.length)≠[]:=by simp[List.drop_eq_nil_iff];omega
  cases hd:b.ts.es.drop a.ts.es.length with
  |nil=>exact absurd hd this
  |cons y s=>simp[eqL]
 simp only[hY,iA,g1,g5,bA,f1,go_sem,seval];refine jI _ ?_;rw[hz];rfl
 ·have hm':m=a.ts.es.length:=by omega
  subst hm';have f0:decide ((b.ts.es.length:Int)<(a.ts.es.length:Int))=false:=by simp;omega
  have f1:decide ((a.ts.es.length:Int)<(b.ts.es.length:Int))=false:=by simp;omega
  have f2:decide ((a.ts.es.length:Int)=(b.ts.es.length:Int))=true:=by simp;omega
  have hz:bU a b=decide (a.c=b.c):=by rw[hl,List.drop_length,h,List.drop_length];simp[eqL]
  cases c1:decide (a.c<b.c)
  case true=>
   simp only[hY,iA,g1,g5,bA,f0,f1,f2,c1,go_sem,seval];refine jI _ ?_;have:¬a.c=b.c:=by have:=aR c1;omega
   rw[hz,decide_eq_false this];rfl
  case false=>
  cases c2:decide (b.c<a.c)
  case true=>
   simp only[hY,iA,g1,g5,bA,f0,f1,f2,c1,c2,go_sem,seval];refine jI _ ?_;have:¬a.c=b.c:=by have:=aR c2;omega
   rw[hz,decide_eq_false this];rfl
  case false=>
   simp only[hY,iA,g1,g5,bA,f0,f1,f2,c1,c2,go_sem,seval];refine jI _ ?_;have:a.c=b.c:=by have:=bQ c2;have:=bQ c1;omega
   rw[hz,decide_eq_true this];rfl
 have hm':m=b.ts.es.length:=by omega
 subst hm';have f0:decide ((b.ts.es.length:Int)<(a.ts.es.length:Int))=true:=by simp;omega
 have f1:decide ((a.ts.es.length:Int)<(b.ts.es.length:Int))=false:=by simp;omega
 have f2:decide ((a.ts.es.length:Int)=(b.ts.es.length:Int))=false:=by simp;omega
 have hz:bU a b=false:=by
  rw[hl,List.drop_length];have:(a.ts.es.drop b.ts.es.length)≠[]:=by simp[List.drop_eq_nil_iff];omega
  cases hd:a.ts.es.drop b.ts.es.length with
  |nil=>exact absurd hd this
  |cons y s=>simp[eqL]
 simp only[hY,iA,g1,g5,bA,f0,f1,f2,go_sem,seval];refine jI _ ?_;rw[hz];rfl
 ·rintro d ⟨x,y⟩ r env hp hes ⟨g1,g5,rfl,hI⟩;obtain⟨ga,gb,la,lb⟩:=OY hes;have e1:decide ((d.length:Int)<(a.ts.es.length:Int))=true:=by simp;omega
  have e2:((d.length:Int)<(a.ts.es.length:Int))=True:=eq_true (by omega);have e3:decide ((d.length:Int)<(b.ts.es.length:Int))=true:=by simp;omega
  have e4:((d.length:Int)<(b.ts.es.length:Int))=True:=eq_true (by omega);have ew:wr .i64 ((d.length:Int)+1)=((d++[(x,y)]).length:Int):=by simp only[big]at hab;rw[eB (by omega) (by omega)];simp
  have hst:eqL fA a.ts.es b.ts.es=(fA x y&&eqL fA (a.ts.es.drop (d++[(x,y)]).length) (b.ts.es.drop (d++[(x,y)]).length)):=by rw[hI,qI la,qI lb,eqL];rw[cK la]at ga;rw[cK lb]at gb;cases ga;cases gb;simp
  have hlin:fA x y=false->bU a b=false:=by intro h;rw[bU,hst,h];simp
  clear hI;cases c1:Op.bytesLess x.v.bs y.v.bs
  case true=>
   simp only[hY,iA,g1,g5,e1,e2,e3,e4,ga,gb,c1,go_sem,seval];refine cC ?_;refine jI _ ?_;have:¬x.v.bs=y.v.bs:=by intro h;rw[h,lM]at c1;cases c1
   rw[hlin (by simp[fA,this])];rfl
  case false=>
  cases c2:decide (x.v.bs=y.v.bs)
  case false=>simp only[hY,iA,g1,g5,e1,e2,e3,e4,ga,gb,c1,c2,go_sem,seval];refine cC ?_;refine jI _ ?_;rw[hlin (by simp[fA,c2])];rfl
  case true=>
  cases c3:decide (x.c<y.c)
  case true=>
   simp only[hY,iA,g1,g5,e1,e2,e3,e4,ga,gb,c1,c2,c3,go_sem,seval];refine cC ?_;refine jI _ ?_;have:¬x.c=y.c:=by have:=aR c3;omega
   rw[hlin (by simp[fA,this])];rfl
  case false=>
  cases c4:decide (x.c=y.c)
  case false=>simp only[hY,iA,g1,g5,e1,e2,e3,e4,ga,gb,c1,c2,c3,c4,go_sem,seval];refine cC ?_;refine jI _ ?_;rw[hlin (by simp[fA,c4])];rfl
  case true=>simp only[hY,iA,g1,g5,e1,e2,e3,e4,ga,gb,c1,c2,c3,c4,go_sem,seval];rw[ew];refine⟨by kernel_rfl,rfl,?_⟩;rw[hst];simp[fA,c2,c4]
theorem c162(hf:pg.fs 162=some yD)(h191:pg.fs 191=some vO)(a b:Lin):Ret pg 162 [a.av,b.av] (.bool (bU a b)):=by obtain⟨r,hr,c,rfl,hc⟩:=c191 h191 a b;rw[Lin.avc,Lin.avc]at hr;refine Ret.ofX hf ?_;unfold yD;refine Wk ?_;refine aG (hr) (Wk ?_);rw[<-hc]
theorem c121(hf:pg.fs 121=some D6)(h162:pg.fs 162=some yD)(h191:pg.fs 191=some vO)(a b:bO):Ret pg 121 [a.av,b.av] (.bool (kF a b)):=by
 refine Ret.ofX hf ?_;unfold D6;have hab:=a.dims.ok;cases b1:decide (a.row.bs=b.row.bs)
 case false=>simp only[b1,go_sem,seval];simp[kF,b1]
 case true=>
 cases b2:decide ((a.dims.es.length:Int)=(b.dims.es.length:Int))
 case false=>simp only[b1,b2,go_sem,seval];simp[kF,b1,u7 b2]
 case true=>
 have hl:a.dims.es.length=b.dims.es.length:=by have:=aR b2;omega
 have hs:kF a b=eqL bU a.dims.es b.dims.es:=by simp[kF,b1]
 rw[hs];simp only[b1,b2,go_sem,seval]
 refine aY a.dims.es (λd r env hp=>hp.get 1=some (0,.blk [.str a.row.bs,.sl a.dims.nl (a.dims.es.map Lin.av) a.dims.cl] 2 true true false)/\hp.get 5=some (0,.blk [.str b.row.bs,.sl b.dims.nl (b.dims.es.map Lin.av) b.dims.cl] 2 true true false) /\
  env=sW (.pt 1 0 0) (.pt 5 0 0) (.int .i64 d.length)/\eqL bU a.dims.es b.dims.es=eqL bU r (b.dims.es.drop d.length)) ?_ ?_ ?_
 exact⟨rfl,rfl,rfl,rfl⟩;rintro env hp ⟨g1,g5,rfl,hI⟩;simp only[sV,sW,g1,bA,go_sem,seval];rw[hI,jL hl];rintro d x r env hp hes ⟨g1,g5,rfl,hI⟩;obtain⟨hget,e1,e2,ew⟩:=cM hes hab;obtain⟨y,gy,f1,f2,hq⟩:=xD (q:=bU) hes hl;rw[hq]at hI;rw[hI];clear hI;have a1:=c162 h162 h191 x y;rw[Lin.avc,Lin.avc]at a1;cases hxy:bU x y;simp only[sV,sW,g1,g5,hget,e1,e2,gy,f1,f2,go_sem,seval];refine aG a1 ?_;simp only[hxy,go_sem,seval];kernel_rfl;simp only[sV,sW,g1,g5,hget,e1,e2,gy,f1,f2,go_sem,seval];refine aG a1 ?_;simp only[hxy,ew,go_sem,seval];exact⟨by kernel_rfl,g1,g5,rfl⟩
end
end
section
def fJ(x:Loop)(all:List Str):Bool:=
 c8 x.v.bs && !cN all x.v.bs&&(!decide ((x.hi.es.length:Int)<1) && !decide (4<(x.hi.es.length:Int)) && !decide (x.step<1) && !decide (4096<x.step))&&(bW x.hi.es all&&bW [x.lo] all)
def dS:List Loop->List Str->Bool
 |[],_=>true
 |x::r,all=>fJ x all&&dS r (all++[x.v])
theorem MW{h:Hp}{v t w:AV}{keys:List Nat}(hw:w.tree=true)(hs:snap 63 h v=some (t,keys)):conv h (.tup [v,w])=some (.tup [t,w]):=by
 show (snap depth h (.tup [v,w])).map (·.1)=_;have e2:snap 63 h w=some (w,[]):=by unfold snap;rw[if_pos hw]
 show (snap 64 h (.tup [v,w])).map (·.1)=_;unfold snap;split;rename_i ht;have hv:v.tree=true:=by simp only[AV.tree,treeL,aF]at ht;exact ht.1
 have e1:snap 63 h v=some (v,[]):=by unfold snap;rw[if_pos hv]
 rw[e1]at hs;cases hs;rfl;simp only[mapS,hs,e2,Option.map_some,Option.map]
section
variable{pg:Pg}
theorem c607(hf:pg.fs 607=some rY)(nl cl:Bool)(es:List aN)(hb:es.length<=big)(g:Nat)(cs:List AV)(hcs:treeL cs=true)(p:aN->Bool)(hp:∀x∈es,Ret pg g (x.av::cs) (.bool (p x))) :
  bZ pg 607 [.sl nl (es.map aN.av) cl,.fn g cs] (λr=>∃i:Int,r = .int .i64 i/\decide (0<=i)=es.any p):=
 zV (f:=607) (esz:=2) (ag:=true) hf aN.av aN.fits_av aN.tree_av nl cl es hb g cs hcs p hp
theorem c593(hf:pg.fs 593=some vJ)(h607:pg.fs 607=some rY)(nl cl:Bool)(es:List aN)(hb:es.length<=big)(g:Nat)(cs:List AV)(hcs:treeL cs=true)(p:aN->Bool)(hp:∀x∈es,Ret pg g (x.av::cs) (.bool (p x))) :
  Ret pg 593 [.sl nl (es.map aN.av) cl,.fn g cs] (.bool (es.any p)):=
 sO (n:=607) hf (by simp only[treeL,sG,sH,hcs,aN.treeL_av,Bool.and_true]) (c607 h607 nl cl es hb g cs hcs p hp)
def jZ(vars:List Str)(l:Lin):Bool:=gC l&&l.ts.es.all λx=>cN vars x.v.bs
end
end
section
def qC(n:aK)(vars:List Str):List Str:=vars++n.loops.es.map (·.v)
def oK(n:aK):Int:=if n.dyn then 5 else 6
def jX(n:aK)(vars:List Str)(values:Int):Bool:=
 dS n.loops.es vars&&decide ((n.loops.es.length:Int)<=12) && !decide (n.value<0) && !decide (values<=n.value) && !decide (oK n<(n.at_.es.length:Int))&&bW n.at_.es (qC n vars)&&iK n.body (qC n vars) values &&
 (if n.dyn=true then iK n.index (qC n vars) values&&decide (0<=n.check) else bT n.index kD&&decide (n.check=0))
structure OW(n:aK)(vars:List Str):Prop where
 body:n.body.ok
 index:n.index.ok
 szb:vars.length+n.loops.es.length+n.body.sz<=big
 szi:vars.length+n.loops.es.length+n.index.sz<=big
structure vX(n:aK)(vars:List Str):Prop where
 body:n.body.ok
 index:n.index.ok
 sz:vars.length+n.loops.es.length+n.body.sz+n.index.sz<=big
theorem vX.sz'{n:aK}{vars:List Str}(h:vX n vars):OW n vars:=⟨h.body,h.index,by have:=h.sz;omega,by have:=h.sz;omega⟩
section
variable{pg:Pg}
end
end
end Go.Tev
