import Derived.Test.YtilkdbbkkcnocaaGreatDoorSAW
import Derived.Test.YtilkdbbkkcnocaaGreatDoorSAT
set_option linter.all false
namespace Go.Tev
section
def tQ(acc l:List Int):List Int:=l.foldl (λa x=>sM x a) acc
mutual
def pR:aA->List Int
 |.mk op _ value _ _ _ _ _ _ kids _=>mW (if decide (op.bs=[114,101,97,100]) then sM value [] else []) kids
def mW:List Int->List aA->List Int
 |acc,[]=>acc
 |acc,p::r=>mW (tQ acc (pR p)) r
end
theorem CI:∀(l acc:List Int),(tQ acc l).length<=acc.length+l.length
 |[],acc=>by simp[tQ]
 |x::r,acc=>by have h1:=CI r (sM x acc);have h2:=IP x acc;simp only[tQ,List.foldl_cons,List.length_cons]at *;omega
theorem CR{a:Int}:∀(l acc:List Int),a∈tQ acc l↔a∈acc\/a∈l
 |[],acc=>by simp[tQ]
 |x::r,acc=>by have h1:=CR (a:=a) r (sM x acc);simp only[tQ,List.foldl_cons]at *;rw[h1,I5,List.mem_cons];constructor;rintro((h|h)|h)<;>simp[h];rintro(h|h|h)<;>simp[h]
mutual
theorem L5:∀p:aA,(pR p).length<=p.sz
 |.mk op _ value _ _ _ _ _ _ kids _=>by have h:=wF kids (if decide (op.bs=[114,101,97,100]) then sM value [] else []);rw[pR,aA.sz];split at h<;>simp_all [sM]<;>omega
theorem wF:∀(l:List aA)(acc:List Int),(mW acc l).length<=acc.length+aA.szL l
 |[],acc=>by simp[mW]
 |p::r,acc=>by have h1:=L5 p;have h2:=wF r (tQ acc (pR p));have h3:=CI (pR p) acc;simp only[mW,aA.szL]at *;omega
end
mutual
theorem MI(a:Int):∀p:aA,a∈pR p↔a∈l9 p
 |.mk op _ value _ _ _ _ _ _ kids _=>by have h:=wK a kids (if decide (op.bs=[114,101,97,100]) then sM value [] else []);rw[pR,l9,h,jW];cases decide (op.bs=[114,101,97,100])<;>simp[sM]
theorem wK(a:Int):∀(l:List aA)(acc:List Int),a∈mW acc l↔a∈acc\/a∈lI l
 |[],acc=>by simp[mW,lI]
 |p::r,acc=>by have h1:=MI a p;have h2:=wK a r (tQ acc (pR p));rw[mW,h2,CR,h1,lI,jW,or_assoc]
end
section
variable{pg:Pg}
end
end
section
section
variable{pg:Pg}
theorem c114(hf:pg.fs 114=some D6)(c:UInt8):Ret pg 114 [.int .u8 (c.toNat:Int)] (.bool (cT c)):=by
 refine Ret.ofX hf ?_;unfold D6;cases b1:decide (48<=(c.toNat:Int));simp only[b1,go_sem,seval];have:¬ 48<=c.toNat:=by have:=aN b1;omega
 simp[cT,this];simp only[b1,go_sem,seval];have:48<=c.toNat:=by have:=aG b1;omega
 simp only[cT,this,decide_true,Bool.true_and];rw[eE];omega
theorem c115(hf:pg.fs 115=some D5)(c:UInt8):Ret pg 115 [.int .u8 (c.toNat:Int)] (.bool (eZ c)):=by
 refine Ret.ofX hf ?_;unfold D5;cases b1:decide (97<=(c.toNat:Int));simp only[b1,go_sem,seval];have:¬ 97<=c.toNat:=by have:=aN b1;omega
 simp[eZ,this];simp only[b1,go_sem,seval];have:97<=c.toNat:=by have:=aG b1;omega
 simp only[eZ,this,decide_true,Bool.true_and];rw[eE];omega
theorem c90(hf:pg.fs 90=some R4)(n:Int):Ret pg 90 [.int .i64 n] (.bool (kD n)):=by refine Ret.ofX hf ?_;unfold R4;cases b1:decide (-1000000<=n);simp only[b1,go_sem,seval];simp[kD,b1];simp only[b1,go_sem,seval];simp[kD,b1]
theorem c77(hf:pg.fs 77=some V7)(h114:pg.fs 114=some D6)(h115:pg.fs 115=some D5)(s:List UInt8)(hb:s.length<=big):Ret pg 77 [.str s] (.bool (fT s)):=by
 refine Ret.ofX hf ?_;unfold V7;cases b0:decide ((s.length:Int)=0)
 case true=>have:s=[]:=gU (by have:=aG b0;omega);simp only[b0,go_sem,seval];subst this;rfl
 case false=>
 obtain⟨c,t,hs⟩:∃c t,s=c::t:=by
  cases s with
  |nil=>simp at b0
  |cons c t=>exact⟨c,t,rfl⟩
 have hg0:s[0]?=some c:=by rw[hs];rfl
 have hlt:s.length=t.length+1:=by rw[hs];rfl
 have hnu:fT s=(decide (s.length<=30)&&(if c=95 then decide (2<=s.length)&&decide (s.length<=10) && !decide (t.head?=some 48)&&t.all cT else eZ c&&t.all (λx=>eZ x||cT x))):=by rw[hs];rfl
 cases b1:decide (30<(s.length:Int))
 case true=>
  simp only[b0,b1,go_sem,seval];have:¬s.length<=30:=by have:=aG b1;omega
  simp[hnu,this]
 case false=>
 have h30:s.length<=30:=by have:=aN b1;omega
 have hd30:decide (s.length<=30)=true:=decide_eq_true h30;rw[hnu,hd30,Bool.true_and];clear hnu;simp only[b0,b1,hg0,go_sem,seval];have hi0:∀(d:List UInt8)(x:UInt8)(r:List UInt8),s=d++x::r->s[d.length]?=some x/\decide ((d.length:Int)<(s.length:Int))=true/\wr .i64 ((d.length:Int)+1)=((d++[x]).length:Int):=by intro d x r he;refine⟨by rw[he];simp,by rw[he];simp;omega,?_⟩;exact cQ (r:=r) (by rw[<-he];exact hb)
 cases b2:decide ((c.toNat:Int)=95)
 case true=>
  have hc:c=95:=by have h:=aG b2;exact UInt8.toNat_inj.1 (by simpa using (show c.toNat=95 by omega))
  rw[if_pos hc];cases b3:decide ((s.length:Int)<2)
  case true=>
   have:¬ 2<=s.length:=by have:=aG b3;omega
   simp only[b3,go_sem,seval];simp[this]
  case false=>
  have h2:2<=s.length:=by have:=aN b3;omega
  cases b4:decide (10<(s.length:Int))
  case true=>
   have:¬s.length<=10:=by have:=aG b4;omega
   simp only[b3,b4,go_sem,seval];simp[this]
  case false=>
  have h10:s.length<=10:=by have:=aN b4;omega
  obtain⟨d,u,ht⟩:∃d u,t=d::u:=by
   cases t with
   |nil=>simp at hlt;omega
   |cons d u=>exact⟨d,u,rfl⟩
  have hg1:s[1]?=some d:=by rw[hs,ht];rfl
  have hhd:t.head?=some d:=by rw[ht];rfl
  cases b5:decide ((d.toNat:Int)=48)
  case true=>
   have hd:d=48:=by have h:=aG b5;exact UInt8.toNat_inj.1 (by simpa using (show d.toNat=48 by omega))
   simp only[b3,b4,hg1,b5,go_sem,seval];simp[hhd,hd]
  case false=>
  have hd:¬d=48:=by intro h;subst h;exact absurd rfl (aN b5)
  have hres:(decide (2<=s.length)&&decide (s.length<=10) && !decide (t.head?=some 48)&&t.all cT)=t.all cT:=by simp[h2,h10,hhd,hd]
  rw[hres];simp only[b3,b4,hg1,b5,go_sem,seval];refine aQ t (λe r env hp=>env=M9 (.str s) (.int .i64 ((e.length+1:Nat):Int))/\t.all cT=r.all cT) ?_ ?_ ?_;exact⟨rfl,rfl⟩;rintro env hp ⟨rfl,hI⟩;have hex:decide (((t.length+1:Nat):Int)<(s.length:Int))=false:=by simp;omega
  simp only[M7,M9,hex,go_sem,seval];rw[hI];rfl;rintro e x r env hp he ⟨rfl,hI⟩;have hse:s=(c::e)++x::r:=by rw[hs,he];rfl
  obtain⟨k1,k2,k3⟩:=hi0 _ _ _ hse;have k0:(c::e).length=e.length+1:=rfl;have k4:((c::e)++[x]).length=(e++[x]).length+1:=by simp
  rw[k0]at k1 k2 k3;rw[k4]at k3;simp only[M7,M9,k1,k2,go_sem,seval];refine gO (c114 h114 x) rfl rfl ?_;cases hx:cT x;simp only[hx,go_sem,seval];rw[hI];simp[hx];simp only[hx,k3,go_sem,seval];refine⟨rfl,?_⟩;rw[hI];simp[hx]
 case false=>
  have hc:¬c=95:=by intro h;subst h;exact absurd rfl (aN b2)
  rw[if_neg hc];simp only[b2,go_sem,seval];refine aQ s (λe r env hp=>env=M8 (.str s) (.int .i64 e.length)/\(e=[]\/(eZ c&&t.all (λx=>eZ x||cT x))=r.all (λx=>eZ x||cT x))) ?_ ?_ ?_;exact⟨rfl,.inl rfl⟩;rintro env hp ⟨rfl,hI⟩;have hex:decide ((s.length:Int)<(s.length:Int))=false:=by simp
  simp only[M6,M8,hex,go_sem,seval];rcases hI with h|h;exact absurd h (by rw[hs];simp);rw[h];rfl
  ·rintro e x r env hp he ⟨rfl,hI⟩;obtain⟨k1,k2,k3⟩:=hi0 _ _ _ he
   have hI2:(eZ c&&t.all (λx=>eZ x||cT x))=((if e=[] then eZ x else (eZ x||cT x))&&r.all (λx=>eZ x||cT x)):=by
    rcases hI with h|h;subst h;rw[hs]at he;simp only[List.nil_append,List.cons.injEq]at he;obtain⟨rfl,rfl⟩:=he;simp;by_cases h0:e=[]
    subst h0;rw[hs]at he;simp only[List.nil_append,List.cons.injEq]at he;obtain⟨rfl,rfl⟩:=he;simp;rw[h,if_neg h0];simp
   rw[hI2];clear hI hI2;simp only[M6,M8,k1,k2,go_sem,seval];refine gO (c115 h115 x) rfl rfl ?_;cases hx:eZ x
   case true=>simp only[hx,k3,go_sem,seval];refine⟨rfl,.inr ?_⟩;split<;>simp
   case false=>
   by_cases h0:e=[]
   have h1:decide ((e.length:Int)=0)=true:=by simp[h0]
   simp only[hx,h1,go_sem,seval];simp[h0];have h1:decide ((e.length:Int)=0)=false:=by simp[h0]
   simp only[hx,h1,k1,go_sem,seval];refine gO (c114 h114 x) rfl rfl ?_;cases hy:cT x;simp only[hx,hy,go_sem,seval];simp[h0];simp only[hx,hy,k3,go_sem,seval];refine⟨rfl,.inr ?_⟩;simp[h0]
theorem c54(hf:pg.fs 54=some V9)(h77:∀s:Str,Ret pg 77 [.str s.bs] (.bool (fT s.bs)))(h90:pg.fs 90=some R4)(l:Lin):Ret pg 54 [l.av] (.bool (eT l)):=by
 refine Ret.ofX hf ?_;unfold V9;refine Wk ?_;refine aC (c90 h90 _) (Wk ?_);cases h9:kD l.c
 case false=>refine Wk ?_;simp[eT,h9]
 cases h12:decide (12<(l.ts.es.length:Int))
 case true=>
  simp only[h12,go_sem,seval];have:¬(l.ts.es.length:Int)<=12:=by have:=aG h12;omega
  simp[eT,this]
 simp only[h12,go_sem,seval];have hlin:eT l=lN [] l.ts.es:=by
  have:(l.ts.es.length:Int)<=12:=by have:=aN h12;omega
  simp[eT,h9,this]
 refine aQ l.ts.es (λd r env hp=>hp.get 1=some (0,.blk [.int .i64 l.c,.sl l.ts.nl (l.ts.es.map aR.av) l.ts.cl] 2 true true false) /\
  env=NF (.pt 1 0 0) (.int .i64 d.length)/\eT l=lN d r) ?_ ?_ ?_
 exact⟨rfl,rfl,hlin⟩;rintro env hp ⟨h1,rfl,hq⟩;simp only[NE,NF,h1,go_sem,seval];rw[hq];rfl;rintro d x r env hp hes ⟨h1,rfl,hq⟩;have hb:=l.ts.ok;have hget:l.ts.es[d.length]?=some x:=by rw[hes];simp
 have e1:decide ((d.length:Int)<(l.ts.es.length:Int))=true:=by rw[hes];simp;omega
 have e2:((d.length:Int)<(l.ts.es.length:Int))=True:=eq_true (by rw[hes];simp;omega);have hsb:(d++x::r).length<=big:=by rw[<-hes];exact hb
 simp only[lN]at hq;simp only[NE,NF,h1,hget,e1,e2,go_sem,seval];refine aC (h77 x.v) (Wk ?_);cases hn:fT x.v.bs
 case false=>refine Wk ?_;refine cN ?_;simp[hq,hn]
 cases hc:decide (x.c=0)
 case true=>simp only[hc,go_sem,seval];refine cN ?_;simp[hq,hc]
 simp only[hc,go_sem,seval];refine aC (c90 h90 x.c) (Wk ?_);cases hx9:kD x.c
 case false=>refine Wk ?_;refine cN ?_;simp[hq,hx9]
 rcases LQ d with hd|⟨d',q,hd⟩
 have e3:decide (0<(d.length:Int))=false:=by simp[hd]
 simp only[hx9,e3,cQ hsb,go_sem,seval];refine And.intro (by kernel_rfl) ⟨h1,rfl,?_⟩;subst hd;simp[hq,hx9,hc,hn];have hd':d=d'++[q]:=by simpa using hd
 have e3:decide (0<(d.length:Int))=true:=by simp[hd']
 have e4:wr .i64 ((d.length:Int)-1)=(d'.length:Int):=by rw[fZ (by simp only[hd',cO,List.length_singleton];omega) (by simp only[big,cO]at hsb;omega),hd',cO,List.length_singleton];omega
 have e5:l.ts.es[d'.length]?=some q:=by rw[hes,hd'];simp
 have e6:((d'.length:Int)<(l.ts.es.length:Int))=True:=eq_true (by rw[hes,hd'];simp;omega);cases hl:Op.bytesLess q.v.bs x.v.bs;simp only[hx9,e3,e4,e5,e6,h1,hl,go_sem,seval];refine cN ?_;simp[hq,hd',hl];simp only[hx9,e3,e4,e5,e6,h1,hl,cQ hsb,go_sem,seval];refine And.intro (by kernel_rfl) ⟨rfl,?_⟩;simp[hq,hx9,hc,hn,hd',hl]
end
end
section
section
variable{pg:Pg}
theorem IX(l:Lin)(r:List Lin)(vars:List Str):aY (l::r) vars=(eT l&&(l.ts.es.all (λx=>cJ vars x.v.bs)&&aY r vars)):=by simp[aY,Bool.and_assoc]
end
end
section
section
variable{pg:Pg}
end
end
section
theorem gS{α : Type}{q : α -> α -> Bool}(h:∀x,q x x=true):∀l:List α,eqL q l l=true
 |[]=>by simp[eqL]
 |x::r=>by simp[eqL,h x,gS h r]
theorem DL{α : Type}{q : α -> α -> Bool}:∀l:List α,(∀x∈l,q x x=true)->eqL q l l=true
 |[],_=>by simp[eqL]
 |x::r,h=>by simp[eqL,h x (by simp),DL r (λy hy=>h y (by simp[hy]))]
theorem JZ(x:aR):gW x x=true:=by simp[gW]
theorem mG(x:Lin):eU x x=true:=by simp[eU,gS JZ]
theorem pL(x:aE):fO x x=true:=by simp[fO,gS]
theorem IR:∀p:aA,dJ p p=true:=
 aA.ind' λp ih=>by rw[qS,mB,DL p.kids ih,gS mG,gS pL];simp
theorem rB{α β : Type}{q : α -> β -> Bool}(l:List α):eqL q l []=decide ((l.length:Int)=0):=by
 cases l with
 |nil=>simp[eqL]
 |cons x r=>simp[eqL];omega
def iD(α : Type):Sl α:=⟨true,[],true,by simp[big]⟩
end
section
theorem eD{α : Type}{es d r:List α}{x : α}(hes:es=d++x::r)(hb:es.length<=big) :
  es[d.length]?=some x/\decide ((d.length:Int)<(es.length:Int))=true/\((d.length:Int)<(es.length:Int))=True/\wr .i64 ((d.length:Int)+1)=((d++[x]).length:Int):=by
 have h:d.length<es.length:=by rw[hes];simp
 refine⟨by rw[hes];simp,by simp;omega,eq_true (by omega),cQ (r:=r) (by rw[<-hes];exact hb)⟩
theorem bK(n:Nat):decide ((n:Int)<(n:Int))=false:=by simp
theorem OZ{α β : Type}{q : α -> β -> Bool}{es d r:List α}{x : α}{es':List β}(hes:es=d++x::r)(hl:es.length=es'.length) :
  ∃y,es'[d.length]?=some y/\decide ((d.length:Int)<(es'.length:Int))=true/\((d.length:Int)<(es'.length:Int))=True/\eqL q (x::r) (es'.drop d.length)=(q x y&&eqL q r (es'.drop (d++[x]).length)):=by
 have h:d.length<es'.length:=by rw[<-hl,hes];simp
 refine⟨es'[d.length],cZ h,by simp;omega,eq_true (by omega),?_⟩;rw[sD h,eqL];simp
theorem qU{α β : Type}{q : α -> β -> Bool}{es:List α}{es':List β}(hl:es.length=es'.length):eqL q [] (es'.drop es.length)=true:=by rw[hl,List.drop_length];simp[eqL]
theorem FU{α β : Type}{q : α -> β -> Bool}{a:List α}{b:List β}(h:decide ((a.length:Int)=(b.length:Int))=false):eqL q a b=false:=by cases he:eqL q a b;rfl;have:=xV he;simp[this]at h
theorem oG:∀s:List UInt8,Op.bytesLess s s=false
 |[]=>rfl
 |c::r=>by simp only[Op.bytesLess,oG r,Bool.and_false,Bool.or_false,nH];exact UInt8.lt_irrefl c
section
variable{pg:Pg}
theorem c194(hf:pg.fs 194=some A3)(nl cl:Bool)(vars:List Str)(hb:vars.length<=big)(s:List UInt8):Ret pg 194 [.sl nl (vars.map Str.av) cl,.str s] (.bool (cJ vars s)):=by
 refine Ret.ofX hf ?_;unfold A3;refine Wk ?_;refine aQ vars (λd r env hp=>env=yG (.sl nl (vars.map Str.av) cl) (.str s) (.int .i64 d.length)/\cJ vars s=cJ r s) ?_ ?_ ?_;exact⟨rfl,rfl⟩;rintro env hp ⟨rfl,hI⟩;simp only[yF,yG,bK,go_sem,seval];rw[hI];rfl;rintro d x r env hp hes ⟨rfl,hI⟩;obtain⟨hget,e1,e2,ew⟩:=eD hes hb;have hsym:decide (x.bs=s)=decide (s=x.bs):=by rw[eE];exact eq_comm
 cases hx:decide (s=x.bs);simp only[yF,yG,e1,e2,hget,hsym,hx,ew,go_sem,seval];refine⟨rfl,?_⟩;rw[hI];simp[cJ,hx];simp only[yF,yG,e1,e2,hget,hsym,hx,go_sem,seval];rw[hI];simp[cJ,hx]
theorem c193(hf:pg.fs 193=some KN)(h54:∀l:Lin,Ret pg 54 [l.av] (.bool (eT l)))(h194:pg.fs 194=some A3)(nl cl:Bool)(ls:List Lin)(hb:ls.length<=big)(nl' cl':Bool)(vars:List Str)(hb':vars.length<=big) :
  Ret pg 193 [.sl nl (ls.map Lin.av) cl,.sl nl' (vars.map Str.av) cl'] (.bool (aY ls vars)):=by
 refine Ret.ofX hf ?_;unfold KN;refine Wk ?_;refine aQ ls (λd r env hp=>env=G0 (.sl nl (ls.map Lin.av) cl) (.sl nl' (vars.map Str.av) cl') (.int .i64 d.length)/\aY ls vars=aY r vars) ?_ ?_ ?_;exact⟨rfl,rfl⟩;rintro env hp ⟨rfl,hI⟩;simp only[GY,G0,bK,go_sem,seval];rw[hI];rfl;rintro d l r env hp hes ⟨rfl,hI⟩;rw[IX]at hI;obtain⟨hget,e1,e2,ew⟩:=eD hes hb;rw[hI];clear hI;simp only[GY,G0,hget,e1,e2,go_sem,seval];refine aC (h54 l) (Wk ?_);cases hl:eT l
 case false=>simp only[go_sem,seval]
 refine Wk ?_;have hlb:=l.ts.ok;refine aQ l.ts.es (λd2 r2 env hp=>env=G1 (.sl nl (ls.map Lin.av) cl) (.sl nl' (vars.map Str.av) cl') (.int .i64 d.length) (.int .i64 d2.length)/\l.ts.es.all (λx=>cJ vars x.v.bs)=r2.all (λx=>cJ vars x.v.bs)) ?_ ?_ ?_;exact⟨rfl,rfl⟩;rintro env hp ⟨rfl,hI⟩;simp only[GZ,G1,hget,e2,bK,ew,go_sem,seval];refine⟨rfl,?_⟩;rw[hI];simp;rintro d2 x r2 env hp he2 ⟨rfl,hI⟩;obtain⟨hget2,g1,g2,gw⟩:=eD he2 hlb;rw[hI];clear hI;simp only[GZ,G1,hget,e2,g1,g2,hget2,go_sem,seval];refine aC (c194 h194 nl' cl' vars hb' x.v.bs) (Wk ?_);cases hv:cJ vars x.v.bs;simp only[hv,go_sem,seval];simp only[hv,gw,go_sem,seval];rfl
theorem aEX(hf:pg.fs 124=some rX)(n:Int):Ret pg 124 [.str [105,110,116],.int .i64 n] (.bool (iT n)):=by
 refine Ret.ofX hf ?_;unfold rX
 repeat' (first|simp only[*,go_sem,seval]|refine bW (λ_=>?_) (λ_=>?_)|refine bZ (λ_=>?_) (λ_=>?_)|refine cN ?_)
 all_goals (simp_all [iT])
 all_goals omega
theorem aLw(hf:pg.fs 124=some rX)(n:Int):Ret pg 124 [.str [98,111,111,108],.int .i64 n] (.bool (lS n)):=by
 refine Ret.ofX hf ?_;unfold rX
 repeat' (first|simp only[*,go_sem,seval]|refine bW (λ_=>?_) (λ_=>?_)|refine bZ (λ_=>?_) (λ_=>?_)|refine cN ?_)
 all_goals (simp_all [lS])
def aKM(a b:Lin)(r:AV):Prop:=∃c:Int,r = .int .i64 c/\decide (c=0)=eU a b
theorem lT{a b:Lin}(c:Int)(h:decide (c=0)=eU a b):aKM a b (.int .i64 c):=⟨c,rfl,h⟩
theorem X6{α β : Type}{a:List α}{b:List β}{d r:List (α×β)}{p : α×β}(h:a.zip b=d++p::r) :
  a[d.length]?=some p.1/\b[d.length]?=some p.2/\d.length<a.length/\d.length<b.length:=by
 have h1:(a.zip b)[d.length]?=some p:=by rw[h];simp
 rw[List.getElem?_zip_eq_some]at h1;obtain⟨h2,h3⟩:=h1;exact⟨h2,h3,(cF.1 h2).1,(cF.1 h3).1⟩
theorem c191(hf:pg.fs 191=some A5)(a b:Lin):bV pg 191 [a.av,b.av] (aKM a b):=by
 refine bV.ofX hf ?_;unfold A5;refine Wk ?_;have hab:=a.ts.ok;have hbb:=b.ts.ok
 refine aQ (a.ts.es.zip b.ts.es) (λd r env hp=>hp.get 1=some (0,.blk [.int .i64 a.c,.sl a.ts.nl (a.ts.es.map aR.av) a.ts.cl] 2 true true false)/\hp.get 5=some (0,.blk [.int .i64 b.c,.sl b.ts.nl (b.ts.es.map aR.av) b.ts.cl] 2 true true false) /\
  env=kF (.pt 1 0 0) (.pt 5 0 0) (.int .i64 d.length)/\eqL gW a.ts.es b.ts.es=eqL gW (a.ts.es.drop d.length) (b.ts.es.drop d.length)) ?_ ?_ ?_
 exact⟨rfl,rfl,rfl,rfl⟩;rintro env hp ⟨g1,g5,rfl,hI⟩;rw[List.length_zip]at hI ⊢;have hl:eU a b=(decide (a.c=b.c)&&eqL gW (a.ts.es.drop (min a.ts.es.length b.ts.es.length)) (b.ts.es.drop (min a.ts.es.length b.ts.es.length))):=by rw[eU,hI]
 clear hI;generalize hm:min a.ts.es.length b.ts.es.length=m at hl ⊢;rcases Nat.lt_trichotomy a.ts.es.length b.ts.es.length with h|h|h;have hm':m=a.ts.es.length:=by omega
 subst hm';have f1:decide ((a.ts.es.length:Int)<(b.ts.es.length:Int))=true:=by simp;omega
 have hz:eU a b=false:=by
  rw[hl,List.drop_length];have:(b.ts.es.drop a.ts.es.length)≠[]:=by simp[List.drop_eq_nil_iff];omega
  cases hd:b.ts.es.drop a.ts.es.length with
  |nil=>exact absurd hd this
  |cons y s=>simp[eqL]
 simp only[kE,kF,g1,g5,bK,f1,go_sem,seval];refine lT _ ?_;rw[hz];rfl
 ·have hm':m=a.ts.es.length:=by omega
  subst hm';have f0:decide ((b.ts.es.length:Int)<(a.ts.es.length:Int))=false:=by simp;omega
  have f1:decide ((a.ts.es.length:Int)<(b.ts.es.length:Int))=false:=by simp;omega
  have f2:decide ((a.ts.es.length:Int)=(b.ts.es.length:Int))=true:=by simp;omega
  have hz:eU a b=decide (a.c=b.c):=by rw[hl,List.drop_length,h,List.drop_length];simp[eqL]
  cases c1:decide (a.c<b.c)
  case true=>
   simp only[kE,kF,g1,g5,bK,f0,f1,f2,c1,go_sem,seval];refine lT _ ?_;have:¬a.c=b.c:=by have:=aG c1;omega
   rw[hz,decide_eq_false this];rfl
  case false=>
  cases c2:decide (b.c<a.c)
  case true=>
   simp only[kE,kF,g1,g5,bK,f0,f1,f2,c1,c2,go_sem,seval];refine lT _ ?_;have:¬a.c=b.c:=by have:=aG c2;omega
   rw[hz,decide_eq_false this];rfl
  case false=>
   simp only[kE,kF,g1,g5,bK,f0,f1,f2,c1,c2,go_sem,seval];refine lT _ ?_;have:a.c=b.c:=by have:=aN c2;have:=aN c1;omega
   rw[hz,decide_eq_true this];rfl
 have hm':m=b.ts.es.length:=by omega
 subst hm';have f0:decide ((b.ts.es.length:Int)<(a.ts.es.length:Int))=true:=by simp;omega
 have f1:decide ((a.ts.es.length:Int)<(b.ts.es.length:Int))=false:=by simp;omega
 have f2:decide ((a.ts.es.length:Int)=(b.ts.es.length:Int))=false:=by simp;omega
 have hz:eU a b=false:=by
  rw[hl,List.drop_length];have:(a.ts.es.drop b.ts.es.length)≠[]:=by simp[List.drop_eq_nil_iff];omega
  cases hd:a.ts.es.drop b.ts.es.length with
  |nil=>exact absurd hd this
  |cons y s=>simp[eqL]
 simp only[kE,kF,g1,g5,bK,f0,f1,f2,go_sem,seval];refine lT _ ?_;rw[hz];rfl
 ·rintro d ⟨x,y⟩ r env hp hes ⟨g1,g5,rfl,hI⟩;obtain⟨ga,gb,la,lb⟩:=X6 hes;have e1:decide ((d.length:Int)<(a.ts.es.length:Int))=true:=by simp;omega
  have e2:((d.length:Int)<(a.ts.es.length:Int))=True:=eq_true (by omega);have e3:decide ((d.length:Int)<(b.ts.es.length:Int))=true:=by simp;omega
  have e4:((d.length:Int)<(b.ts.es.length:Int))=True:=eq_true (by omega);have ew:wr .i64 ((d.length:Int)+1)=((d++[(x,y)]).length:Int):=by simp only[big]at hab;rw[fZ (by omega) (by omega)];simp
  have hst:eqL gW a.ts.es b.ts.es=(gW x y&&eqL gW (a.ts.es.drop (d++[(x,y)]).length) (b.ts.es.drop (d++[(x,y)]).length)):=by rw[hI,sD la,sD lb,eqL];rw[cZ la]at ga;rw[cZ lb]at gb;cases ga;cases gb;simp
  have hlin:gW x y=false->eU a b=false:=by intro h;rw[eU,hst,h];simp
  clear hI;cases c1:Op.bytesLess x.v.bs y.v.bs
  case true=>
   simp only[kE,kF,g1,g5,e1,e2,e3,e4,ga,gb,c1,go_sem,seval];refine cN ?_;refine lT _ ?_;have:¬x.v.bs=y.v.bs:=by intro h;rw[h,oG]at c1;cases c1
   rw[hlin (by simp[gW,this])];rfl
  case false=>
  cases c2:decide (x.v.bs=y.v.bs)
  case false=>simp only[kE,kF,g1,g5,e1,e2,e3,e4,ga,gb,c1,c2,go_sem,seval];refine cN ?_;refine lT _ ?_;rw[hlin (by simp[gW,c2])];rfl
  case true=>
  cases c3:decide (x.c<y.c)
  case true=>
   simp only[kE,kF,g1,g5,e1,e2,e3,e4,ga,gb,c1,c2,c3,go_sem,seval];refine cN ?_;refine lT _ ?_;have:¬x.c=y.c:=by have:=aG c3;omega
   rw[hlin (by simp[gW,this])];rfl
  case false=>
  cases c4:decide (x.c=y.c)
  case false=>simp only[kE,kF,g1,g5,e1,e2,e3,e4,ga,gb,c1,c2,c3,c4,go_sem,seval];refine cN ?_;refine lT _ ?_;rw[hlin (by simp[gW,c4])];rfl
  case true=>simp only[kE,kF,g1,g5,e1,e2,e3,e4,ga,gb,c1,c2,c3,c4,go_sem,seval];rw[ew];refine⟨by kernel_rfl,rfl,?_⟩;rw[hst];simp[gW,c2,c4]
theorem c162(hf:pg.fs 162=some D1)(h191:pg.fs 191=some A5)(a b:Lin):Ret pg 162 [a.av,b.av] (.bool (eU a b)):=by obtain⟨r,hr,c,rfl,hc⟩:=c191 h191 a b;rw[Lin.avc,Lin.avc]at hr;refine Ret.ofX hf ?_;unfold D1;refine Wk ?_;refine aC (hr) (Wk ?_);rw[<-hc]
theorem c121(hf:pg.fs 121=some K6)(h162:pg.fs 162=some D1)(h191:pg.fs 191=some A5)(a b:cB):Ret pg 121 [a.av,b.av] (.bool (lO a b)):=by
 refine Ret.ofX hf ?_;unfold K6;have hab:=a.dims.ok;cases b1:decide (a.row.bs=b.row.bs)
 case false=>simp only[b1,go_sem,seval];simp[lO,b1]
 case true=>
 cases b2:decide ((a.dims.es.length:Int)=(b.dims.es.length:Int))
 case false=>simp only[b1,b2,go_sem,seval];simp[lO,b1,FU b2]
 case true=>
 have hl:a.dims.es.length=b.dims.es.length:=by have:=aG b2;omega
 have hs:lO a b=eqL eU a.dims.es b.dims.es:=by simp[lO,b1]
 rw[hs];simp only[b1,b2,go_sem,seval]
 refine aQ a.dims.es (λd r env hp=>hp.get 1=some (0,.blk [.str a.row.bs,.sl a.dims.nl (a.dims.es.map Lin.av) a.dims.cl] 2 true true false)/\hp.get 5=some (0,.blk [.str b.row.bs,.sl b.dims.nl (b.dims.es.map Lin.av) b.dims.cl] 2 true true false) /\
  env=yK (.pt 1 0 0) (.pt 5 0 0) (.int .i64 d.length)/\eqL eU a.dims.es b.dims.es=eqL eU r (b.dims.es.drop d.length)) ?_ ?_ ?_
 exact⟨rfl,rfl,rfl,rfl⟩;rintro env hp ⟨g1,g5,rfl,hI⟩;simp only[yJ,yK,g1,bK,go_sem,seval];rw[hI,qU hl];rintro d x r env hp hes ⟨g1,g5,rfl,hI⟩;obtain⟨hget,e1,e2,ew⟩:=eD hes hab;obtain⟨y,gy,f1,f2,hq⟩:=OZ (q:=eU) hes hl;rw[hq]at hI;rw[hI];clear hI;have a1:=c162 h162 h191 x y;rw[Lin.avc,Lin.avc]at a1;cases hxy:eU x y;simp only[yJ,yK,g1,g5,hget,e1,e2,gy,f1,f2,go_sem,seval];refine aC a1 ?_;simp only[hxy,go_sem,seval];kernel_rfl;simp only[yJ,yK,g1,g5,hget,e1,e2,gy,f1,f2,go_sem,seval];refine aC a1 ?_;simp only[hxy,ew,go_sem,seval];exact⟨by kernel_rfl,g1,g5,rfl⟩
end
end
end Go.Tev
