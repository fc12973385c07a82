import Derived.Test.YtagdhpkdbdilaaaGreatDoorIAT
set_option linter.all false
namespace Go.Tev
section
def mS(x:Int):List Int->List Int
 |[]=>[x]
 |y::r=>if decide (y<x) then y::mS x r else if decide (y=x) then y::r else x::y::r
theorem zU{x a:Int}:∀l:List Int,a∈mS x l↔a=x\/a∈l
 |[]=>by simp[mS]
 |y::r=>by
  simp only[mS];split;simp only[List.mem_cons,zU r];constructor<;>(intro h;rcases h with h|h|h<;>simp[h])
  split;rename_i h;simp at h;subst h;simp;simp
theorem y9(x:Int):∀l:List Int,(mS x l).length<=l.length+1
 |[]=>by simp[mS]
 |y::r=>by have:=y9 x r;simp only[mS];split;simp;omega;split<;>simp
def IsL(l:List Int)(r:AV):Prop:=(∃nl cl,r = .sl nl (l.map bE) cl)\/r = .os (l.map bE) 1 false
theorem IsL.of{l:List Int}{r:AV}(h:GG 1 false (l.map bE) r):IsL l r:=by rcases h with ⟨he,nl,cl,rfl,_⟩|h;exact .inl ⟨nl,cl,by rw[he]⟩;exact .inr h
section
variable{pg:Pg}
attribute [local go_sem] Nat.left_eq_add Nat.add_eq_left
end
end
section
def nD(acc l:List Int):List Int:=l.foldl (λa x=>mS x a) acc
mutual
def lI:aE->List Int
 |.mk op _ value _ _ _ _ _ _ kids _=>jK (if decide (op.bs=[114,101,97,100]) then mS value [] else []) kids
def jK:List Int->List aE->List Int
 |acc,[]=>acc
 |acc,p::r=>jK (nD acc (lI p)) r
end
theorem tY:∀(l acc:List Int),(nD acc l).length<=acc.length+l.length
 |[],acc=>by simp[nD]
 |x::r,acc=>by have h1:=tY r (mS x acc);have h2:=y9 x acc;simp only[nD,List.foldl_cons,List.length_cons]at *;omega
theorem uE{a:Int}:∀(l acc:List Int),a∈nD acc l↔a∈acc\/a∈l
 |[],acc=>by simp[nD]
 |x::r,acc=>by have h1:=uE (a:=a) r (mS x acc);simp only[nD,List.foldl_cons]at *;rw[h1,zU,List.mem_cons];constructor;rintro((h|h)|h)<;>simp[h];rintro(h|h|h)<;>simp[h]
mutual
theorem BV:∀p:aE,(lI p).length<=p.sz
 |.mk op _ value _ _ _ _ _ _ kids _=>by have h:=pF kids (if decide (op.bs=[114,101,97,100]) then mS value [] else []);rw[lI,aE.sz];split at h<;>simp_all [mS]<;>omega
theorem pF:∀(l:List aE)(acc:List Int),(jK acc l).length<=acc.length+aE.szL l
 |[],acc=>by simp[jK]
 |p::r,acc=>by have h1:=BV p;have h2:=pF r (nD acc (lI p));have h3:=tY (lI p) acc;simp only[jK,aE.szL]at *;omega
end
mutual
theorem B6(a:Int):∀p:aE,a∈lI p↔a∈oH p
 |.mk op _ value _ _ _ _ _ _ kids _=>by have h:=pJ a kids (if decide (op.bs=[114,101,97,100]) then mS value [] else []);rw[lI,oH,h,kI];cases decide (op.bs=[114,101,97,100])<;>simp[mS]
theorem pJ(a:Int):∀(l:List aE)(acc:List Int),a∈jK acc l↔a∈acc\/a∈lJ l
 |[],acc=>by simp[jK,lJ]
 |p::r,acc=>by have h1:=B6 a p;have h2:=pJ a r (nD acc (lI p));rw[jK,h2,uE,h1,lJ,kI,or_assoc]
end
section
variable{pg:Pg}
end
end
section
section
variable{pg:Pg}
theorem c114(hf:pg.fs 114=some vG)(c:UInt8):Ret pg 114 [.int .u8 (c.toNat:Int)] (.bool (gF c)):=by
 refine Ret.ofX hf ?_;unfold vG;cases b1:decide (48<=(c.toNat:Int));simp only[b1,go_sem,seval];have:¬ 48<=c.toNat:=by have:=bW b1;omega
 simp[gF,this];simp only[b1,go_sem,seval];have:48<=c.toNat:=by have:=aU b1;omega
 simp only[gF,this,decide_true,Bool.true_and];rw[cA];omega
theorem c115(hf:pg.fs 115=some vF)(c:UInt8):Ret pg 115 [.int .u8 (c.toNat:Int)] (.bool (eS c)):=by
 refine Ret.ofX hf ?_;unfold vF;cases b1:decide (97<=(c.toNat:Int));simp only[b1,go_sem,seval];have:¬ 97<=c.toNat:=by have:=bW b1;omega
 simp[eS,this];simp only[b1,go_sem,seval];have:97<=c.toNat:=by have:=aU b1;omega
 simp only[eS,this,decide_true,Bool.true_and];rw[cA];omega
theorem c90(hf:pg.fs 90=some FZ)(n:Int):Ret pg 90 [.int .i64 n] (.bool (hX n)):=by refine Ret.ofX hf ?_;unfold FZ;cases b1:decide (-1000000<=n);simp only[b1,go_sem,seval];simp[hX,b1];simp only[b1,go_sem,seval];simp[hX,b1]
theorem c77(hf:pg.fs 77=some JE)(h114:pg.fs 114=some vG)(h115:pg.fs 115=some vF)(s:List UInt8)(hb:s.length<=big):Ret pg 77 [.str s] (.bool (gX s)):=by
 refine Ret.ofX hf ?_;unfold JE;cases b0:decide ((s.length:Int)=0)
 case true=>have:s=[]:=eD (by have:=aU b0;omega);simp only[b0,go_sem,seval];subst this;rfl
 case false=>
 obtain⟨c,t,hs⟩:∃c t,s=c::t:=by
  cases s with
  |nil=>simp at b0
  |cons c t=>exact⟨c,t,rfl⟩
 have hg0:s[0]?=some c:=by rw[hs];rfl
 have hlt:s.length=t.length+1:=by rw[hs];rfl
 have hnu:gX s=(decide (s.length<=30)&&(if c=95 then decide (2<=s.length)&&decide (s.length<=10) && !decide (t.head?=some 48)&&t.all gF else eS c&&t.all (λx=>eS x||gF x))):=by rw[hs];rfl
 cases b1:decide (30<(s.length:Int))
 case true=>
  simp only[b0,b1,go_sem,seval];have:¬s.length<=30:=by have:=aU b1;omega
  simp[hnu,this]
 case false=>
 have h30:s.length<=30:=by have:=bW b1;omega
 have hd30:decide (s.length<=30)=true:=decide_eq_true h30;rw[hnu,hd30,Bool.true_and];clear hnu;simp only[b0,b1,hg0,go_sem,seval];have hi0:∀(d:List UInt8)(x:UInt8)(r:List UInt8),s=d++x::r->s[d.length]?=some x/\decide ((d.length:Int)<(s.length:Int))=true/\wr .i64 ((d.length:Int)+1)=((d++[x]).length:Int):=by intro d x r he;refine⟨by rw[he];simp,by rw[he];simp;omega,?_⟩;exact fW (r:=r) (by rw[<-he];exact hb)
 cases b2:decide ((c.toNat:Int)=95)
 case true=>
  have hc:c=95:=by have h:=aU b2;exact UInt8.toNat_inj.1 (by simpa using (show c.toNat=95 by omega))
  rw[if_pos hc];cases b3:decide ((s.length:Int)<2)
  case true=>
   have:¬ 2<=s.length:=by have:=aU b3;omega
   simp only[b3,go_sem,seval];simp[this]
  case false=>
  have h2:2<=s.length:=by have:=bW b3;omega
  cases b4:decide (10<(s.length:Int))
  case true=>
   have:¬s.length<=10:=by have:=aU b4;omega
   simp only[b3,b4,go_sem,seval];simp[this]
  case false=>
  have h10:s.length<=10:=by have:=bW b4;omega
  obtain⟨d,u,ht⟩:∃d u,t=d::u:=by
   cases t with
   |nil=>simp at hlt;omega
   |cons d u=>exact⟨d,u,rfl⟩
  have hg1:s[1]?=some d:=by rw[hs,ht];rfl
  have hhd:t.head?=some d:=by rw[ht];rfl
  cases b5:decide ((d.toNat:Int)=48)
  case true=>
   have hd:d=48:=by have h:=aU b5;exact UInt8.toNat_inj.1 (by simpa using (show d.toNat=48 by omega))
   simp only[b3,b4,hg1,b5,go_sem,seval];simp[hhd,hd]
  case false=>
  have hd:¬d=48:=by intro h;subst h;exact absurd rfl (bW b5)
  have hres:(decide (2<=s.length)&&decide (s.length<=10) && !decide (t.head?=some 48)&&t.all gF)=t.all gF:=by simp[h2,h10,hhd,hd]
  rw[hres];simp only[b3,b4,hg1,b5,go_sem,seval];refine aX t (λe r env hp=>env=CV (.str s) (.int .i64 ((e.length+1:Nat):Int))/\t.all gF=r.all gF) ?_ ?_ ?_;exact⟨rfl,rfl⟩;rintro env hp ⟨rfl,hI⟩;have hex:decide (((t.length+1:Nat):Int)<(s.length:Int))=false:=by simp;omega
  simp only[CT,CV,hex,go_sem,seval];rw[hI];rfl;rintro e x r env hp he ⟨rfl,hI⟩;have hse:s=(c::e)++x::r:=by rw[hs,he];rfl
  obtain⟨k1,k2,k3⟩:=hi0 _ _ _ hse;have k0:(c::e).length=e.length+1:=rfl;have k4:((c::e)++[x]).length=(e++[x]).length+1:=by simp
  rw[k0]at k1 k2 k3;rw[k4]at k3;simp only[CT,CV,k1,k2,go_sem,seval];refine eI (c114 h114 x) rfl rfl ?_;cases hx:gF x;simp only[hx,go_sem,seval];rw[hI];simp[hx];simp only[hx,k3,go_sem,seval];refine⟨rfl,?_⟩;rw[hI];simp[hx]
 case false=>
  have hc:¬c=95:=by intro h;subst h;exact absurd rfl (bW b2)
  rw[if_neg hc];simp only[b2,go_sem,seval];refine aX s (λe r env hp=>env=CU (.str s) (.int .i64 e.length)/\(e=[]\/(eS c&&t.all (λx=>eS x||gF x))=r.all (λx=>eS x||gF x))) ?_ ?_ ?_;exact⟨rfl,.inl rfl⟩;rintro env hp ⟨rfl,hI⟩;have hex:decide ((s.length:Int)<(s.length:Int))=false:=by simp
  simp only[CS,CU,hex,go_sem,seval];rcases hI with h|h;exact absurd h (by rw[hs];simp);rw[h];rfl
  ·rintro e x r env hp he ⟨rfl,hI⟩;obtain⟨k1,k2,k3⟩:=hi0 _ _ _ he
   have hI2:(eS c&&t.all (λx=>eS x||gF x))=((if e=[] then eS x else (eS x||gF x))&&r.all (λx=>eS x||gF x)):=by
    rcases hI with h|h;subst h;rw[hs]at he;simp only[List.nil_append,List.cons.injEq]at he;obtain⟨rfl,rfl⟩:=he;simp;by_cases h0:e=[]
    subst h0;rw[hs]at he;simp only[List.nil_append,List.cons.injEq]at he;obtain⟨rfl,rfl⟩:=he;simp;rw[h,if_neg h0];simp
   rw[hI2];clear hI hI2;simp only[CS,CU,k1,k2,go_sem,seval];refine eI (c115 h115 x) rfl rfl ?_;cases hx:eS x
   case true=>simp only[hx,k3,go_sem,seval];refine⟨rfl,.inr ?_⟩;split<;>simp
   case false=>
   by_cases h0:e=[]
   have h1:decide ((e.length:Int)=0)=true:=by simp[h0]
   simp only[hx,h1,go_sem,seval];simp[h0];have h1:decide ((e.length:Int)=0)=false:=by simp[h0]
   simp only[hx,h1,k1,go_sem,seval];refine eI (c114 h114 x) rfl rfl ?_;cases hy:gF x;simp only[hx,hy,go_sem,seval];simp[h0];simp only[hx,hy,k3,go_sem,seval];refine⟨rfl,.inr ?_⟩;simp[h0]
theorem c54(hf:pg.fs 54=some JK)(h77:∀s:Str,Ret pg 77 [.str s.bs] (.bool (gX s.bs)))(h90:pg.fs 90=some FZ)(l:Lin):Ret pg 54 [l.av] (.bool (e9 l)):=by
 refine Ret.ofX hf ?_;unfold JK;refine Wk ?_;refine aG (c90 h90 _) (Wk ?_);cases h9:hX l.c
 case false=>refine Wk ?_;simp[e9,h9]
 cases h12:decide (12<(l.ts.es.length:Int))
 case true=>
  simp only[h12,go_sem,seval];have:¬(l.ts.es.length:Int)<=12:=by have:=aU h12;omega
  simp[e9,this]
 simp only[h12,go_sem,seval];have hlin:e9 l=gU [] l.ts.es:=by
  have:(l.ts.es.length:Int)<=12:=by have:=bW h12;omega
  simp[e9,h9,this]
 refine aX l.ts.es (λd r env hp=>hp.get 1=some (0,.blk [.int .i64 l.c,.sl l.ts.nl (l.ts.es.map aW.av) l.ts.cl] 2 true true false) /\
  env=CZ (.pt 1 0 0) (.int .i64 d.length)/\e9 l=gU d r) ?_ ?_ ?_
 exact⟨rfl,rfl,hlin⟩;rintro env hp ⟨h1,rfl,hq⟩;simp only[CY,CZ,h1,go_sem,seval];rw[hq];rfl;rintro d x r env hp hes ⟨h1,rfl,hq⟩;have hb:=l.ts.ok;have hget:l.ts.es[d.length]?=some x:=by rw[hes];simp
 have e1:decide ((d.length:Int)<(l.ts.es.length:Int))=true:=by rw[hes];simp;omega
 have e2:((d.length:Int)<(l.ts.es.length:Int))=True:=eq_true (by rw[hes];simp;omega);have hsb:(d++x::r).length<=big:=by rw[<-hes];exact hb
 simp only[gU]at hq;simp only[CY,CZ,h1,hget,e1,e2,go_sem,seval];refine aG (h77 x.v) (Wk ?_);cases hn:gX x.v.bs
 case false=>refine Wk ?_;refine cO ?_;simp[hq,hn]
 cases hc:decide (x.c=0)
 case true=>simp only[hc,go_sem,seval];refine cO ?_;simp[hq,hc]
 simp only[hc,go_sem,seval];refine aG (c90 h90 x.c) (Wk ?_);cases hx9:hX x.c
 case false=>refine Wk ?_;refine cO ?_;simp[hq,hx9]
 rcases GH d with hd|⟨d',q,hd⟩
 have e3:decide (0<(d.length:Int))=false:=by simp[hd]
 simp only[hx9,e3,fW hsb,go_sem,seval];refine And.intro (by kernel_rfl) ⟨h1,rfl,?_⟩;subst hd;simp[hq,hx9,hc,hn];have hd':d=d'++[q]:=by simpa using hd
 have e3:decide (0<(d.length:Int))=true:=by simp[hd']
 have e4:wr .i64 ((d.length:Int)-1)=(d'.length:Int):=by rw[j5 (by simp only[hd',fV,List.length_singleton];omega) (by simp only[big,fV]at hsb;omega),hd',fV,List.length_singleton];omega
 have e5:l.ts.es[d'.length]?=some q:=by rw[hes,hd'];simp
 have e6:((d'.length:Int)<(l.ts.es.length:Int))=True:=eq_true (by rw[hes,hd'];simp;omega);cases hl:Op.bytesLess q.v.bs x.v.bs;simp only[hx9,e3,e4,e5,e6,h1,hl,go_sem,seval];refine cO ?_;simp[hq,hd',hl];simp only[hx9,e3,e4,e5,e6,h1,hl,fW hsb,go_sem,seval];refine And.intro (by kernel_rfl) ⟨rfl,?_⟩;simp[hq,hx9,hc,hn,hd',hl]
end
end
section
section
variable{pg:Pg}
theorem zC(l:Lin)(r:List Lin)(vars:List Str):bM (l::r) vars=(e9 l&&(l.ts.es.all (λx=>fT vars x.v.bs)&&bM r vars)):=by simp[bM,Bool.and_assoc]
end
end
section
section
variable{pg:Pg}
end
end
section
theorem cD{α : Type}{q : α -> α -> Bool}(h:∀x,q x x=true):∀l:List α,eqL q l l=true
 |[]=>by simp[eqL]
 |x::r=>by simp[eqL,h x,cD h r]
theorem uX{α : Type}{q : α -> α -> Bool}:∀l:List α,(∀x∈l,q x x=true)->eqL q l l=true
 |[],_=>by simp[eqL]
 |x::r,h=>by simp[eqL,h x (by simp),uX r (λy hy=>h y (by simp[hy]))]
theorem AK(x:aW):eE x x=true:=by simp[eE]
theorem d6(x:Lin):bQ x x=true:=by simp[bQ,cD AK]
theorem lF(x:aI):iU x x=true:=by simp[iU,cD]
theorem lK:∀p:aE,cB p p=true:=
 aE.ind' λp ih=>by rw[oJ,kM,uX p.kids ih,cD d6,cD lF];simp
theorem lY{α β : Type}{q : α -> β -> Bool}(l:List α):eqL q l []=decide ((l.length:Int)=0):=by
 cases l with
 |nil=>simp[eqL]
 |cons x r=>simp[eqL];omega
def eO(α : Type):Sl α:=⟨true,[],true,by simp[big]⟩
end
section
theorem cG{α : Type}{es d r:List α}{x : α}(hes:es=d++x::r)(hb:es.length<=big) :
  es[d.length]?=some x/\decide ((d.length:Int)<(es.length:Int))=true/\((d.length:Int)<(es.length:Int))=True/\wr .i64 ((d.length:Int)+1)=((d++[x]).length:Int):=by
 have h:d.length<es.length:=by rw[hes];simp
 refine⟨by rw[hes];simp,by simp;omega,eq_true (by omega),fW (r:=r) (by rw[<-hes];exact hb)⟩
theorem bA(n:Nat):decide ((n:Int)<(n:Int))=false:=by simp
theorem uG{α β : Type}{q : α -> β -> Bool}{es d r:List α}{x : α}{es':List β}(hes:es=d++x::r)(hl:es.length=es'.length) :
  ∃y,es'[d.length]?=some y/\decide ((d.length:Int)<(es'.length:Int))=true/\((d.length:Int)<(es'.length:Int))=True/\eqL q (x::r) (es'.drop d.length)=(q x y&&eqL q r (es'.drop (d++[x]).length)):=by
 have h:d.length<es'.length:=by rw[<-hl,hes];simp
 refine⟨es'[d.length],bX h,by simp;omega,eq_true (by omega),?_⟩;rw[qK h,eqL];simp
theorem iK{α β : Type}{q : α -> β -> Bool}{es:List α}{es':List β}(hl:es.length=es'.length):eqL q [] (es'.drop es.length)=true:=by rw[hl,List.drop_length];simp[eqL]
theorem sI{α β : Type}{q : α -> β -> Bool}{a:List α}{b:List β}(h:decide ((a.length:Int)=(b.length:Int))=false):eqL q a b=false:=by cases he:eqL q a b;rfl;have:=wU he;simp[this]at h
theorem kG:∀s:List UInt8,Op.bytesLess s s=false
 |[]=>rfl
 |c::r=>by simp only[Op.bytesLess,kG r,Bool.and_false,Bool.or_false,BM];exact UInt8.lt_irrefl c
section
variable{pg:Pg}
theorem c194(hf:pg.fs 194=some sV)(nl cl:Bool)(vars:List Str)(hb:vars.length<=big)(s:List UInt8):Ret pg 194 [.sl nl (vars.map Str.av) cl,.str s] (.bool (fT vars s)):=by
 refine Ret.ofX hf ?_;unfold sV;refine Wk ?_;refine aX vars (λd r env hp=>env=qH (.sl nl (vars.map Str.av) cl) (.str s) (.int .i64 d.length)/\fT vars s=fT r s) ?_ ?_ ?_;exact⟨rfl,rfl⟩;rintro env hp ⟨rfl,hI⟩;simp only[qG,qH,bA,go_sem,seval];rw[hI];rfl;rintro d x r env hp hes ⟨rfl,hI⟩;obtain⟨hget,e1,e2,ew⟩:=cG hes hb;have hsym:decide (x.bs=s)=decide (s=x.bs):=by rw[cA];exact eq_comm
 cases hx:decide (s=x.bs);simp only[qG,qH,e1,e2,hget,hsym,hx,ew,go_sem,seval];refine⟨rfl,?_⟩;rw[hI];simp[fT,hx];simp only[qG,qH,e1,e2,hget,hsym,hx,go_sem,seval];rw[hI];simp[fT,hx]
theorem c193(hf:pg.fs 193=some A2)(h54:∀l:Lin,Ret pg 54 [l.av] (.bool (e9 l)))(h194:pg.fs 194=some sV)(nl cl:Bool)(ls:List Lin)(hb:ls.length<=big)(nl' cl':Bool)(vars:List Str)(hb':vars.length<=big) :
  Ret pg 193 [.sl nl (ls.map Lin.av) cl,.sl nl' (vars.map Str.av) cl'] (.bool (bM ls vars)):=by
 refine Ret.ofX hf ?_;unfold A2;refine Wk ?_;refine aX ls (λd r env hp=>env=yA (.sl nl (ls.map Lin.av) cl) (.sl nl' (vars.map Str.av) cl') (.int .i64 d.length)/\bM ls vars=bM r vars) ?_ ?_ ?_;exact⟨rfl,rfl⟩;rintro env hp ⟨rfl,hI⟩;simp only[x8,yA,bA,go_sem,seval];rw[hI];rfl;rintro d l r env hp hes ⟨rfl,hI⟩;rw[zC]at hI;obtain⟨hget,e1,e2,ew⟩:=cG hes hb;rw[hI];clear hI;simp only[x8,yA,hget,e1,e2,go_sem,seval];refine aG (h54 l) (Wk ?_);cases hl:e9 l
 case false=>simp only[go_sem,seval]
 refine Wk ?_;have hlb:=l.ts.ok;refine aX l.ts.es (λd2 r2 env hp=>env=yB (.sl nl (ls.map Lin.av) cl) (.sl nl' (vars.map Str.av) cl') (.int .i64 d.length) (.int .i64 d2.length)/\l.ts.es.all (λx=>fT vars x.v.bs)=r2.all (λx=>fT vars x.v.bs)) ?_ ?_ ?_;exact⟨rfl,rfl⟩;rintro env hp ⟨rfl,hI⟩;simp only[x9,yB,hget,e2,bA,ew,go_sem,seval];refine⟨rfl,?_⟩;rw[hI];simp;rintro d2 x r2 env hp he2 ⟨rfl,hI⟩;obtain⟨hget2,g1,g2,gw⟩:=cG he2 hlb;rw[hI];clear hI;simp only[x9,yB,hget,e2,g1,g2,hget2,go_sem,seval];refine aG (c194 h194 nl' cl' vars hb' x.v.bs) (Wk ?_);cases hv:fT vars x.v.bs;simp only[hv,go_sem,seval];simp only[hv,gw,go_sem,seval];rfl
theorem aEj(hf:pg.fs 124=some mJ)(n:Int):Ret pg 124 [.str [105,110,116],.int .i64 n] (.bool (jP n)):=by
 refine Ret.ofX hf ?_;unfold mJ
 repeat' (first|simp only[*,go_sem,seval]|refine jE (λ_=>?_) (λ_=>?_)|refine jF (λ_=>?_) (λ_=>?_)|refine cO ?_)
 all_goals (simp_all [jP])
 all_goals omega
theorem aQd(hf:pg.fs 124=some mJ)(n:Int):Ret pg 124 [.str [98,111,111,108],.int .i64 n] (.bool (nN n)):=by
 refine Ret.ofX hf ?_;unfold mJ
 repeat' (first|simp only[*,go_sem,seval]|refine jE (λ_=>?_) (λ_=>?_)|refine jF (λ_=>?_) (λ_=>?_)|refine cO ?_)
 all_goals (simp_all [nN])
def aPT(a b:Lin)(r:AV):Prop:=∃c:Int,r = .int .i64 c/\decide (c=0)=bQ a b
theorem iD{a b:Lin}(c:Int)(h:decide (c=0)=bQ a b):aPT a b (.int .i64 c):=⟨c,rfl,h⟩
theorem K1{α β : Type}{a:List α}{b:List β}{d r:List (α×β)}{p : α×β}(h:a.zip b=d++p::r) :
  a[d.length]?=some p.1/\b[d.length]?=some p.2/\d.length<a.length/\d.length<b.length:=by
 have h1:(a.zip b)[d.length]?=some p:=by rw[h];simp
 rw[List.getElem?_zip_eq_some]at h1;obtain⟨h2,h3⟩:=h1;exact⟨h2,h3,(bK.1 h2).1,(bK.1 h3).1⟩
theorem c191(hf:pg.fs 191=some sW)(a b:Lin):cW pg 191 [a.av,b.av] (aPT a b):=by
 refine cW.ofX hf ?_;unfold sW;refine Wk ?_;have hab:=a.ts.ok;have hbb:=b.ts.ok
 refine aX (a.ts.es.zip b.ts.es) (λd r env hp=>hp.get 1=some (0,.blk [.int .i64 a.c,.sl a.ts.nl (a.ts.es.map aW.av) a.ts.cl] 2 true true false)/\hp.get 5=some (0,.blk [.int .i64 b.c,.sl b.ts.nl (b.ts.es.map aW.av) b.ts.cl] 2 true true false) /\
  env=gH (.pt 1 0 0) (.pt 5 0 0) (.int .i64 d.length)/\eqL eE a.ts.es b.ts.es=eqL eE (a.ts.es.drop d.length) (b.ts.es.drop d.length)) ?_ ?_ ?_
 exact⟨rfl,rfl,rfl,rfl⟩;rintro env hp ⟨g1,g5,rfl,hI⟩;rw[List.length_zip]at hI ⊢;have hl:bQ a b=(decide (a.c=b.c)&&eqL eE (a.ts.es.drop (min a.ts.es.length b.ts.es.length)) (b.ts.es.drop (min a.ts.es.length b.ts.es.length))):=by rw[bQ,hI]
 clear hI;generalize hm:min a.ts.es.length b.ts.es.length=m at hl ⊢;rcases Nat.lt_trichotomy a.ts.es.length b.ts.es.length with h|h|h;have hm':m=a.ts.es.length:=by omega
 subst hm';have f1:decide ((a.ts.es.length:Int)<(b.ts.es.length:Int))=true:=by simp;omega
 have hz:bQ a b=false:=by
  rw[hl,List.drop_length];have:(b.ts.es.drop a.ts.es.length)≠[]:=by simp[List.drop_eq_nil_iff];omega
  cases hd:b.ts.es.drop a.ts.es.length with
  |nil=>exact absurd hd this
  |cons y s=>simp[eqL]
 simp only[gG,gH,g1,g5,bA,f1,go_sem,seval];refine iD _ ?_;rw[hz];rfl
 ·have hm':m=a.ts.es.length:=by omega
  subst hm';have f0:decide ((b.ts.es.length:Int)<(a.ts.es.length:Int))=false:=by simp;omega
  have f1:decide ((a.ts.es.length:Int)<(b.ts.es.length:Int))=false:=by simp;omega
  have f2:decide ((a.ts.es.length:Int)=(b.ts.es.length:Int))=true:=by simp;omega
  have hz:bQ a b=decide (a.c=b.c):=by rw[hl,List.drop_length,h,List.drop_length];simp[eqL]
  cases c1:decide (a.c<b.c)
  case true=>
   simp only[gG,gH,g1,g5,bA,f0,f1,f2,c1,go_sem,seval];refine iD _ ?_;have:¬a.c=b.c:=by have:=aU c1;omega
   rw[hz,decide_eq_false this];rfl
  case false=>
  cases c2:decide (b.c<a.c)
  case true=>
   simp only[gG,gH,g1,g5,bA,f0,f1,f2,c1,c2,go_sem,seval];refine iD _ ?_;have:¬a.c=b.c:=by have:=aU c2;omega
   rw[hz,decide_eq_false this];rfl
  case false=>
   simp only[gG,gH,g1,g5,bA,f0,f1,f2,c1,c2,go_sem,seval];refine iD _ ?_;have:a.c=b.c:=by have:=bW c2;have:=bW c1;omega
   rw[hz,decide_eq_true this];rfl
 have hm':m=b.ts.es.length:=by omega
 subst hm';have f0:decide ((b.ts.es.length:Int)<(a.ts.es.length:Int))=true:=by simp;omega
 have f1:decide ((a.ts.es.length:Int)<(b.ts.es.length:Int))=false:=by simp;omega
 have f2:decide ((a.ts.es.length:Int)=(b.ts.es.length:Int))=false:=by simp;omega
 have hz:bQ a b=false:=by
  rw[hl,List.drop_length];have:(a.ts.es.drop b.ts.es.length)≠[]:=by simp[List.drop_eq_nil_iff];omega
  cases hd:a.ts.es.drop b.ts.es.length with
  |nil=>exact absurd hd this
  |cons y s=>simp[eqL]
 simp only[gG,gH,g1,g5,bA,f0,f1,f2,go_sem,seval];refine iD _ ?_;rw[hz];rfl
 ·rintro d ⟨x,y⟩ r env hp hes ⟨g1,g5,rfl,hI⟩;obtain⟨ga,gb,la,lb⟩:=K1 hes;have e1:decide ((d.length:Int)<(a.ts.es.length:Int))=true:=by simp;omega
  have e2:((d.length:Int)<(a.ts.es.length:Int))=True:=eq_true (by omega);have e3:decide ((d.length:Int)<(b.ts.es.length:Int))=true:=by simp;omega
  have e4:((d.length:Int)<(b.ts.es.length:Int))=True:=eq_true (by omega);have ew:wr .i64 ((d.length:Int)+1)=((d++[(x,y)]).length:Int):=by simp only[big]at hab;rw[j5 (by omega) (by omega)];simp
  have hst:eqL eE a.ts.es b.ts.es=(eE x y&&eqL eE (a.ts.es.drop (d++[(x,y)]).length) (b.ts.es.drop (d++[(x,y)]).length)):=by rw[hI,qK la,qK lb,eqL];rw[bX la]at ga;rw[bX lb]at gb;cases ga;cases gb;simp
  have hlin:eE x y=false->bQ a b=false:=by intro h;rw[bQ,hst,h];simp
  clear hI;cases c1:Op.bytesLess x.v.bs y.v.bs
  case true=>
   simp only[gG,gH,g1,g5,e1,e2,e3,e4,ga,gb,c1,go_sem,seval];refine cO ?_;refine iD _ ?_;have:¬x.v.bs=y.v.bs:=by intro h;rw[h,kG]at c1;cases c1
   rw[hlin (by simp[eE,this])];rfl
  case false=>
  cases c2:decide (x.v.bs=y.v.bs)
  case false=>simp only[gG,gH,g1,g5,e1,e2,e3,e4,ga,gb,c1,c2,go_sem,seval];refine cO ?_;refine iD _ ?_;rw[hlin (by simp[eE,c2])];rfl
  case true=>
  cases c3:decide (x.c<y.c)
  case true=>
   simp only[gG,gH,g1,g5,e1,e2,e3,e4,ga,gb,c1,c2,c3,go_sem,seval];refine cO ?_;refine iD _ ?_;have:¬x.c=y.c:=by have:=aU c3;omega
   rw[hlin (by simp[eE,this])];rfl
  case false=>
  cases c4:decide (x.c=y.c)
  case false=>simp only[gG,gH,g1,g5,e1,e2,e3,e4,ga,gb,c1,c2,c3,c4,go_sem,seval];refine cO ?_;refine iD _ ?_;rw[hlin (by simp[eE,c4])];rfl
  case true=>simp only[gG,gH,g1,g5,e1,e2,e3,e4,ga,gb,c1,c2,c3,c4,go_sem,seval];rw[ew];refine⟨by kernel_rfl,rfl,?_⟩;rw[hst];simp[eE,c2,c4]
theorem c162(hf:pg.fs 162=some vD)(h191:pg.fs 191=some sW)(a b:Lin):Ret pg 162 [a.av,b.av] (.bool (bQ a b)):=by obtain⟨r,hr,c,rfl,hc⟩:=c191 h191 a b;rw[Lin.avc,Lin.avc]at hr;refine Ret.ofX hf ?_;unfold vD;refine Wk ?_;refine aG (hr) (Wk ?_);rw[<-hc]
theorem c121(hf:pg.fs 121=some A8)(h162:pg.fs 162=some vD)(h191:pg.fs 191=some sW)(a b:bH):Ret pg 121 [a.av,b.av] (.bool (jJ a b)):=by
 refine Ret.ofX hf ?_;unfold A8;have hab:=a.dims.ok;cases b1:decide (a.row.bs=b.row.bs)
 case false=>simp only[b1,go_sem,seval];simp[jJ,b1]
 case true=>
 cases b2:decide ((a.dims.es.length:Int)=(b.dims.es.length:Int))
 case false=>simp only[b1,b2,go_sem,seval];simp[jJ,b1,sI b2]
 case true=>
 have hl:a.dims.es.length=b.dims.es.length:=by have:=aU b2;omega
 have hs:jJ a b=eqL bQ a.dims.es b.dims.es:=by simp[jJ,b1]
 rw[hs];simp only[b1,b2,go_sem,seval]
 refine aX a.dims.es (λd r env hp=>hp.get 1=some (0,.blk [.str a.row.bs,.sl a.dims.nl (a.dims.es.map Lin.av) a.dims.cl] 2 true true false)/\hp.get 5=some (0,.blk [.str b.row.bs,.sl b.dims.nl (b.dims.es.map Lin.av) b.dims.cl] 2 true true false) /\
  env=qJ (.pt 1 0 0) (.pt 5 0 0) (.int .i64 d.length)/\eqL bQ a.dims.es b.dims.es=eqL bQ r (b.dims.es.drop d.length)) ?_ ?_ ?_
 exact⟨rfl,rfl,rfl,rfl⟩;rintro env hp ⟨g1,g5,rfl,hI⟩;simp only[qI,qJ,g1,bA,go_sem,seval];rw[hI,iK hl];rintro d x r env hp hes ⟨g1,g5,rfl,hI⟩;obtain⟨hget,e1,e2,ew⟩:=cG hes hab;obtain⟨y,gy,f1,f2,hq⟩:=uG (q:=bQ) hes hl;rw[hq]at hI;rw[hI];clear hI;have a1:=c162 h162 h191 x y;rw[Lin.avc,Lin.avc]at a1;cases hxy:bQ x y;simp only[qI,qJ,g1,g5,hget,e1,e2,gy,f1,f2,go_sem,seval];refine aG a1 ?_;simp only[hxy,go_sem,seval];kernel_rfl;simp only[qI,qJ,g1,g5,hget,e1,e2,gy,f1,f2,go_sem,seval];refine aG a1 ?_;simp only[hxy,ew,go_sem,seval];exact⟨by kernel_rfl,g1,g5,rfl⟩
end
end
end Go.Tev
