import Derived.Test.YtdegpppbhhjlhaaGreatDoorCAW
import Derived.Test.YtdegpppbhhjlhaaGreatDoorCAT
set_option linter.all false
namespace Go.Tev
section
def eX(acc l:List Int):List Int:=l.foldl (λa x=>fC x a) acc
mutual
def cT:aA->List Int
 |.mk op _ value _ _ _ _ _ _ kids _=>cR (if decide (op.bs=[114,101,97,100]) then fC value [] else []) kids
def cR:List Int->List aA->List Int
 |acc,[]=>acc
 |acc,p::r=>cR (eX acc (cT p)) r
end
theorem vC(p:aA):cT p=cR (if decide (p.op.bs=[114,101,97,100]) then fC p.value [] else []) p.kids:=by cases p;rw[cT];rfl
theorem qX:∀(l acc:List Int),(eX acc l).length<=acc.length+l.length
 |[],acc=>by simp[eX]
 |x::r,acc=>by have h1:=qX r (fC x acc);have h2:=zK x acc;simp only[eX,List.foldl_cons,List.length_cons]at *;omega
theorem zJ(acc d:List Int)(x:Int):eX acc (d++[x])=fC x (eX acc d):=by simp[eX]
theorem CQ{a:Int}:∀(l acc:List Int),a∈eX acc l↔a∈acc\/a∈l
 |[],acc=>by simp[eX]
 |x::r,acc=>by have h1:=CQ (a:=a) r (fC x acc);simp only[eX,List.foldl_cons]at *;rw[h1,zT,List.mem_cons];constructor;rintro((h|h)|h)<;>simp[h];rintro(h|h|h)<;>simp[h]
theorem oQ:∀(d:List aA)(acc:List Int)(x:aA),cR acc (d++[x])=eX (cR acc d) (cT x)
 |[],acc,x=>by simp[cR]
 |y::d,acc,x=>by simp only[List.cons_append,cR];exact oQ d _ x
mutual
theorem sO:∀p:aA,(cT p).length<=p.sz
 |.mk op _ value _ _ _ _ _ _ kids _=>by have h:=nF kids (if decide (op.bs=[114,101,97,100]) then fC value [] else []);rw[cT,aA.sz];split at h<;>simp_all [fC]<;>omega
theorem nF:∀(l:List aA)(acc:List Int),(cR acc l).length<=acc.length+aA.szL l
 |[],acc=>by simp[cR]
 |p::r,acc=>by have h1:=sO p;have h2:=nF r (eX acc (cT p));have h3:=qX (cT p) acc;simp only[cR,aA.szL]at *;omega
end
mutual
theorem zS(a:Int):∀p:aA,a∈cT p↔a∈jC p
 |.mk op _ value _ _ _ _ _ _ kids _=>by have h:=wP a kids (if decide (op.bs=[114,101,97,100]) then fC value [] else []);rw[cT,jC,h,kE];cases decide (op.bs=[114,101,97,100])<;>simp[fC]
theorem wP(a:Int):∀(l:List aA)(acc:List Int),a∈cR acc l↔a∈acc\/a∈kG l
 |[],acc=>by simp[cR,kG]
 |p::r,acc=>by have h1:=zS a p;have h2:=wP a r (eX acc (cT p));rw[cR,h2,CQ,h1,kG,kE,or_assoc]
end
section
variable{pg:Pg}
theorem N8(s:Nat)(v:AV)(x:Int):∃B,eD 0 s [v,.int .i64 x]=B/\65536<=B/\∀k e o l c,v = .rf k e o l c->k≠B+1/\k≠B+5/\k≠B+9:=by refine⟨_,rfl,?_,?_⟩;simp only[eD];split<;>omega;rintro k e o l c rfl;simp only[eD,List.any_cons,List.any_nil,Bool.or_false];split;rename_i h;simp only[aD,bC]at h;omega;rename_i h;simp only[aD,bC,not_and]at h;omega
theorem OC{f s:Nat}{h:Hp}{k1:Nat}{v:AV}{l:List Int}{x:Int}{Q:AV->Eff->Prop}{t:Tok Q}(hf:pg.fs f=some s9)(o:Own h k1 1 false v (l.map aH))(hb:l.length<big)
  (q:∀r h' k2,Own h' k2 1 false r ((fC x l).map aH)->(∀k,k<65536->h'.get k=h.get k)->Q r (.whole h')):XO pg 0 (.call f false true) s h [v,.int .i64 x] Q t:=by
 obtain⟨B,hB,hB1,hB2⟩:=N8 s v x;have key:∃k1,Own h k1 1 false v (l.map aH)/\k1≠B+1/\k1≠B+5/\k1≠B+9:=by
  rcases o with ⟨he,nl,cl,rfl,hc⟩|⟨e,cs,rfl,hg,hu⟩
  exact⟨B,.inl ⟨he,nl,cl,rfl,hc⟩,by omega,by omega,by omega⟩;exact⟨k1,.inr ⟨e,cs,rfl,hg,hu⟩,hB2 _ _ _ _ _ rfl⟩
 obtain⟨k1',o',a1,a5,a9⟩:=key;refine eA (.inl rfl) hB (aKN hf o' hb x a1 a5 a9) ?_;rintro r h' ⟨k2,p1,_,p3⟩;exact q r h' k2 p1 (λk hk=>p3 k (by omega) (by omega) (by omega))
theorem c37(hf:pg.fs 37=some VN)(h55:pg.fs 55=some s9):∀p:aA,p.ok->p.sz<=big->cA pg 37 [p.av] (pP 1 false ((cT p).map aH)):=by
 refine aA.ind' λp ih hp hsz=>?_;obtain⟨hb,hk⟩:=(aA.ok_iff p).1 hp;have hz:=aA.sz_eq p;refine cA.ofX hf ?_;unfold VN;refine Wk ?_;cases hr:decide (p.op.bs=[114,101,97,100])
 case true=>
  refine Wk ?_;refine OC (l:=[]) h55 (Own.nil _ 0 _ _ _ _ rfl) (by decide) ?_;intro v H k1 ho hun;refine Wk ?_;have hres:cT p=cR (fC p.value []) p.kids:=by rw[vC,hr];rfl
  refine aN p.kids (λd r env hp=>∃v k1,env=v7 (.pt 1 0 0) v (.int .i64 d.length)/\Own hp k1 1 false v ((cR (fC p.value []) d).map aH)/\hp.get 1=some (0,.blk (kH p p.kids) 9 true true false)) ?_ ?_ ?_;exact⟨v,k1,rfl,ho,(hun 1 (by decide)).trans (by simp only[go_sem,seval];rfl)⟩;rintro env hp ⟨v,k1,rfl,ho,h1⟩;simp only[kH]at h1;simp only[BA,v7,h1,go_sem,seval];rw[hres];exact ho.conv (El.ints _);rintro d x r env hp hes ⟨v,k1,rfl,ho,h1⟩;have hxm:x∈p.kids:=by rw[hes];simp
  have hxs:x.sz<=big:=by have:=aA.szL_mem hxm;omega
  have hx:=ih x hxm (hk x hxm) hxs;have hx':=hx;rw[aA.avc]at hx';have hl1:=nF d (fC p.value []);have hl2:=sO x;have hst:(fC p.value []:List Int).length<=1:=by simp[fC]
  have hzz:aA.szL p.kids=aA.szL d+(x.sz+aA.szL r):=by rw[hes,aA.szL_append,aA.szL]
  rw[hes]at h1 hb;rw[hes];have h0:=h1;simp only[kH]at h1;have hsno:=oQ d (fC p.value []) x;have hw:=cL hb;clear ih hk;simp only[BA,v7,h1,go_sem,seval]
  first|refine qQ hx (by simp only[go_sem,seval]) ?_|refine qQ hx' (by simp only[go_sem,seval]) ?_
  intro nl1 cl1 _;refine Wk ?_;refine aN (cT x) (λd2 r2 env hp=>∃v k1,env=v8 (.pt 1 0 0) v (.int .i64 d.length) (.sl nl1 ((cT x).map aH) cl1) (.int .i64 d2.length)/\Own hp k1 1 false v ((eX (cR (fC p.value []) d) d2).map aH)/\hp.get 1=some (0,.blk (kH p (d++x::r)) 9 true true false)) ?_ ?_ ?_;exact⟨v,k1,rfl,ho.mono (by simp only[go_sem,seval]),by simp only[go_sem,seval];exact h0⟩;clear ho h1 h0 hp;rintro env hp ⟨v,k1,rfl,ho,h0⟩;simp only[BB,v8,hw,go_sem,seval];rw[hsno];exact⟨v,k1,rfl,ho,h0⟩;clear ho h1 h0 hp;rintro d2 y r2 env hp hes2 ⟨v,k1,rfl,ho,h0⟩;have hd2:d2.length<(cT x).length:=by rw[hes2];simp
  have hget:(cT x)[d2.length]?=some y:=by rw[hes2];simp
  have hpl:=qX d2 (cR (fC p.value []) d);have hbb:(eX (cR (fC p.value []) d) d2).length<big:=by omega
  have f1:decide ((d2.length:Int)<((cT x).length:Int))=true:=by simp;omega
  have f2:((d2.length:Int)<((cT x).length:Int))=True:=eq_true (by omega);have hw2:wr .i64 ((d2.length:Int)+1)=((d2++[y]).length:Int):=cL (r:=r2) (by rw[<-hes2];omega);have hsn2:=zJ (cR (fC p.value []) d) d2 y;simp only[BB,v8,f1,f2,hget,go_sem,seval];refine OC h55 ho hbb ?_;intro r' h' k2 ho' hun;simp only[hw2,go_sem,seval];rw[hsn2];exact⟨r',k2,rfl,ho',(hun 1 (by decide)).trans h0⟩
 case false=>
  refine Wk ?_;have hres:cT p=cR ([]) p.kids:=by rw[vC,hr];rfl
  refine aN p.kids (λd r env hp=>∃v k1,env=v7 (.pt 1 0 0) v (.int .i64 d.length)/\Own hp k1 1 false v ((cR ([]) d).map aH)/\hp.get 1=some (0,.blk (kH p p.kids) 9 true true false)) ?_ ?_ ?_;exact⟨_,0,rfl,Own.nil _ _ _ _ _ _ rfl,by simp only[go_sem,seval];rfl⟩;rintro env hp ⟨v,k1,rfl,ho,h1⟩;simp only[kH]at h1;simp only[BA,v7,h1,go_sem,seval];rw[hres];exact ho.conv (El.ints _);rintro d x r env hp hes ⟨v,k1,rfl,ho,h1⟩;have hxm:x∈p.kids:=by rw[hes];simp
  have hxs:x.sz<=big:=by have:=aA.szL_mem hxm;omega
  have hx:=ih x hxm (hk x hxm) hxs;have hx':=hx;rw[aA.avc]at hx';have hl1:=nF d ([]);have hl2:=sO x;have hst:([]:List Int).length<=1:=by simp[fC]
  have hzz:aA.szL p.kids=aA.szL d+(x.sz+aA.szL r):=by rw[hes,aA.szL_append,aA.szL]
  rw[hes]at h1 hb;rw[hes];have h0:=h1;simp only[kH]at h1;have hsno:=oQ d ([]) x;have hw:=cL hb;clear ih hk;simp only[BA,v7,h1,go_sem,seval]
  first|refine qQ hx (by simp only[go_sem,seval]) ?_|refine qQ hx' (by simp only[go_sem,seval]) ?_
  intro nl1 cl1 _;refine Wk ?_;refine aN (cT x) (λd2 r2 env hp=>∃v k1,env=v8 (.pt 1 0 0) v (.int .i64 d.length) (.sl nl1 ((cT x).map aH) cl1) (.int .i64 d2.length)/\Own hp k1 1 false v ((eX (cR ([]) d) d2).map aH)/\hp.get 1=some (0,.blk (kH p (d++x::r)) 9 true true false)) ?_ ?_ ?_;exact⟨v,k1,rfl,ho.mono (by simp only[go_sem,seval]),by simp only[go_sem,seval];exact h0⟩;clear ho h1 h0 hp;rintro env hp ⟨v,k1,rfl,ho,h0⟩;simp only[BB,v8,hw,go_sem,seval];rw[hsno];exact⟨v,k1,rfl,ho,h0⟩;clear ho h1 h0 hp;rintro d2 y r2 env hp hes2 ⟨v,k1,rfl,ho,h0⟩;have hd2:d2.length<(cT x).length:=by rw[hes2];simp
  have hget:(cT x)[d2.length]?=some y:=by rw[hes2];simp
  have hpl:=qX d2 (cR ([]) d);have hbb:(eX (cR ([]) d) d2).length<big:=by omega
  have f1:decide ((d2.length:Int)<((cT x).length:Int))=true:=by simp;omega
  have f2:((d2.length:Int)<((cT x).length:Int))=True:=eq_true (by omega);have hw2:wr .i64 ((d2.length:Int)+1)=((d2++[y]).length:Int):=cL (r:=r2) (by rw[<-hes2];omega);have hsn2:=zJ (cR ([]) d) d2 y;simp only[BB,v8,f1,f2,hget,go_sem,seval];refine OC h55 ho hbb ?_;intro r' h' k2 ho' hun;simp only[hw2,go_sem,seval];rw[hsn2];exact⟨r',k2,rfl,ho',(hun 1 (by decide)).trans h0⟩
end
end
section
section
variable{pg:Pg}
theorem c114(hf:pg.fs 114=some D3)(c:UInt8):Ret pg 114 [.int .u8 (c.toNat:Int)] (.bool (cU c)):=by
 refine Ret.ofX hf ?_;unfold D3;cases b1:decide (48<=(c.toNat:Int));simp only[b1,go_sem,seval];have:¬ 48<=c.toNat:=by have:=aP b1;omega
 simp[cU,this];simp only[b1,go_sem,seval];have:48<=c.toNat:=by have:=aF b1;omega
 simp only[cU,this,decide_true,Bool.true_and];rw[eC];omega
theorem c115(hf:pg.fs 115=some D2)(c:UInt8):Ret pg 115 [.int .u8 (c.toNat:Int)] (.bool (eZ c)):=by
 refine Ret.ofX hf ?_;unfold D2;cases b1:decide (97<=(c.toNat:Int));simp only[b1,go_sem,seval];have:¬ 97<=c.toNat:=by have:=aP b1;omega
 simp[eZ,this];simp only[b1,go_sem,seval];have:97<=c.toNat:=by have:=aF b1;omega
 simp only[eZ,this,decide_true,Bool.true_and];rw[eC];omega
theorem c90(hf:pg.fs 90=some RO)(n:Int):Ret pg 90 [.int .i64 n] (.bool (lQ n)):=by refine Ret.ofX hf ?_;unfold RO;cases b1:decide (-1000000<=n);simp only[b1,go_sem,seval];simp[lQ,b1];simp only[b1,go_sem,seval];simp[lQ,b1]
theorem c77(hf:pg.fs 77=some VI)(h114:pg.fs 114=some D3)(h115:pg.fs 115=some D2)(s:List UInt8)(hb:s.length<=big):Ret pg 77 [.str s] (.bool (iA s)):=by
 refine Ret.ofX hf ?_;unfold VI;cases b0:decide ((s.length:Int)=0)
 case true=>have:s=[]:=gL (by have:=aF b0;omega);simp only[b0,go_sem,seval];subst this;rfl
 case false=>
 obtain⟨c,t,hs⟩:∃c t,s=c::t:=by
  cases s with
  |nil=>simp at b0
  |cons c t=>exact⟨c,t,rfl⟩
 have hg0:s[0]?=some c:=by rw[hs];rfl
 have hlt:s.length=t.length+1:=by rw[hs];rfl
 have hnu:iA s=(decide (s.length<=30)&&(if c=95 then decide (2<=s.length)&&decide (s.length<=10) && !decide (t.head?=some 48)&&t.all cU else eZ c&&t.all (λx=>eZ x||cU x))):=by rw[hs];rfl
 cases b1:decide (30<(s.length:Int))
 case true=>
  simp only[b0,b1,go_sem,seval];have:¬s.length<=30:=by have:=aF b1;omega
  simp[hnu,this]
 case false=>
 have h30:s.length<=30:=by have:=aP b1;omega
 have hd30:decide (s.length<=30)=true:=decide_eq_true h30;rw[hnu,hd30,Bool.true_and];clear hnu;simp only[b0,b1,hg0,go_sem,seval];have hi0:∀(d:List UInt8)(x:UInt8)(r:List UInt8),s=d++x::r->s[d.length]?=some x/\decide ((d.length:Int)<(s.length:Int))=true/\wr .i64 ((d.length:Int)+1)=((d++[x]).length:Int):=by intro d x r he;refine⟨by rw[he];simp,by rw[he];simp;omega,?_⟩;exact cL (r:=r) (by rw[<-he];exact hb)
 cases b2:decide ((c.toNat:Int)=95)
 case true=>
  have hc:c=95:=by have h:=aF b2;exact UInt8.toNat_inj.1 (by simpa using (show c.toNat=95 by omega))
  rw[if_pos hc];cases b3:decide ((s.length:Int)<2)
  case true=>
   have:¬ 2<=s.length:=by have:=aF b3;omega
   simp only[b3,go_sem,seval];simp[this]
  case false=>
  have h2:2<=s.length:=by have:=aP b3;omega
  cases b4:decide (10<(s.length:Int))
  case true=>
   have:¬s.length<=10:=by have:=aF b4;omega
   simp only[b3,b4,go_sem,seval];simp[this]
  case false=>
  have h10:s.length<=10:=by have:=aP b4;omega
  obtain⟨d,u,ht⟩:∃d u,t=d::u:=by
   cases t with
   |nil=>simp at hlt;omega
   |cons d u=>exact⟨d,u,rfl⟩
  have hg1:s[1]?=some d:=by rw[hs,ht];rfl
  have hhd:t.head?=some d:=by rw[ht];rfl
  cases b5:decide ((d.toNat:Int)=48)
  case true=>
   have hd:d=48:=by have h:=aF b5;exact UInt8.toNat_inj.1 (by simpa using (show d.toNat=48 by omega))
   simp only[b3,b4,hg1,b5,go_sem,seval];simp[hhd,hd]
  case false=>
  have hd:¬d=48:=by intro h;subst h;exact absurd rfl (aP b5)
  have hres:(decide (2<=s.length)&&decide (s.length<=10) && !decide (t.head?=some 48)&&t.all cU)=t.all cU:=by simp[h2,h10,hhd,hd]
  rw[hres];simp only[b3,b4,hg1,b5,go_sem,seval];refine aN t (λe r env hp=>env=M8 (.str s) (.int .i64 ((e.length+1:Nat):Int))/\t.all cU=r.all cU) ?_ ?_ ?_;exact⟨rfl,rfl⟩;rintro env hp ⟨rfl,hI⟩;have hex:decide (((t.length+1:Nat):Int)<(s.length:Int))=false:=by simp;omega
  simp only[M6,M8,hex,go_sem,seval];rw[hI];rfl;rintro e x r env hp he ⟨rfl,hI⟩;have hse:s=(c::e)++x::r:=by rw[hs,he];rfl
  obtain⟨k1,k2,k3⟩:=hi0 _ _ _ hse;have k0:(c::e).length=e.length+1:=rfl;have k4:((c::e)++[x]).length=(e++[x]).length+1:=by simp
  rw[k0]at k1 k2 k3;rw[k4]at k3;simp only[M6,M8,k1,k2,go_sem,seval];refine cO (c114 h114 x) rfl rfl ?_;cases hx:cU x;simp only[hx,go_sem,seval];rw[hI];simp[hx];simp only[hx,k3,go_sem,seval];refine⟨rfl,?_⟩;rw[hI];simp[hx]
 case false=>
  have hc:¬c=95:=by intro h;subst h;exact absurd rfl (aP b2)
  rw[if_neg hc];simp only[b2,go_sem,seval];refine aN s (λe r env hp=>env=M7 (.str s) (.int .i64 e.length)/\(e=[]\/(eZ c&&t.all (λx=>eZ x||cU x))=r.all (λx=>eZ x||cU x))) ?_ ?_ ?_;exact⟨rfl,.inl rfl⟩;rintro env hp ⟨rfl,hI⟩;have hex:decide ((s.length:Int)<(s.length:Int))=false:=by simp
  simp only[M5,M7,hex,go_sem,seval];rcases hI with h|h;exact absurd h (by rw[hs];simp);rw[h];rfl
  ·rintro e x r env hp he ⟨rfl,hI⟩;obtain⟨k1,k2,k3⟩:=hi0 _ _ _ he
   have hI2:(eZ c&&t.all (λx=>eZ x||cU x))=((if e=[] then eZ x else (eZ x||cU x))&&r.all (λx=>eZ x||cU x)):=by
    rcases hI with h|h;subst h;rw[hs]at he;simp only[List.nil_append,List.cons.injEq]at he;obtain⟨rfl,rfl⟩:=he;simp;by_cases h0:e=[]
    subst h0;rw[hs]at he;simp only[List.nil_append,List.cons.injEq]at he;obtain⟨rfl,rfl⟩:=he;simp;rw[h,if_neg h0];simp
   rw[hI2];clear hI hI2;simp only[M5,M7,k1,k2,go_sem,seval];refine cO (c115 h115 x) rfl rfl ?_;cases hx:eZ x
   case true=>simp only[hx,k3,go_sem,seval];refine⟨rfl,.inr ?_⟩;split<;>simp
   case false=>
   by_cases h0:e=[]
   have h1:decide ((e.length:Int)=0)=true:=by simp[h0]
   simp only[hx,h1,go_sem,seval];simp[h0];have h1:decide ((e.length:Int)=0)=false:=by simp[h0]
   simp only[hx,h1,k1,go_sem,seval];refine cO (c114 h114 x) rfl rfl ?_;cases hy:cU x;simp only[hx,hy,go_sem,seval];simp[h0];simp only[hx,hy,k3,go_sem,seval];refine⟨rfl,.inr ?_⟩;simp[h0]
theorem c54(hf:pg.fs 54=some VK)(h77:∀s:Str,Ret pg 77 [.str s.bs] (.bool (iA s.bs)))(h90:pg.fs 90=some RO)(l:Lin):Ret pg 54 [l.av] (.bool (gV l)):=by
 refine Ret.ofX hf ?_;unfold VK;refine Wk ?_;refine aC (c90 h90 _) (Wk ?_);cases h9:lQ l.c
 case false=>refine Wk ?_;simp[gV,h9]
 cases h12:decide (12<(l.ts.es.length:Int))
 case true=>
  simp only[h12,go_sem,seval];have:¬(l.ts.es.length:Int)<=12:=by have:=aF h12;omega
  simp[gV,this]
 simp only[h12,go_sem,seval];have hlin:gV l=nC [] l.ts.es:=by
  have:(l.ts.es.length:Int)<=12:=by have:=aP h12;omega
  simp[gV,h9,this]
 refine aN l.ts.es (λd r env hp=>hp.get 1=some (0,.blk [.int .i64 l.c,.sl l.ts.nl (l.ts.es.map bE.av) l.ts.cl] 2 true true false) /\
  env=NF (.pt 1 0 0) (.int .i64 d.length)/\gV l=nC d r) ?_ ?_ ?_
 exact⟨rfl,rfl,hlin⟩;rintro env hp ⟨h1,rfl,hq⟩;simp only[NE,NF,h1,go_sem,seval];rw[hq];rfl;rintro d x r env hp hes ⟨h1,rfl,hq⟩;have hb:=l.ts.ok;have hget:l.ts.es[d.length]?=some x:=by rw[hes];simp
 have e1:decide ((d.length:Int)<(l.ts.es.length:Int))=true:=by rw[hes];simp;omega
 have e2:((d.length:Int)<(l.ts.es.length:Int))=True:=eq_true (by rw[hes];simp;omega);have hsb:(d++x::r).length<=big:=by rw[<-hes];exact hb
 simp only[nC]at hq;simp only[NE,NF,h1,hget,e1,e2,go_sem,seval];refine aC (h77 x.v) (Wk ?_);cases hn:iA x.v.bs
 case false=>refine Wk ?_;refine cB ?_;simp[hq,hn]
 cases hc:decide (x.c=0)
 case true=>simp only[hc,go_sem,seval];refine cB ?_;simp[hq,hc]
 simp only[hc,go_sem,seval];refine aC (c90 h90 x.c) (Wk ?_);cases hx9:lQ x.c
 case false=>refine Wk ?_;refine cB ?_;simp[hq,hx9]
 rcases EG d with hd|⟨d',q,hd⟩
 have e3:decide (0<(d.length:Int))=false:=by simp[hd]
 simp only[hx9,e3,cL hsb,go_sem,seval];refine And.intro (by kernel_rfl) ⟨h1,rfl,?_⟩;subst hd;simp[hq,hx9,hc,hn];have hd':d=d'++[q]:=by simpa using hd
 have e3:decide (0<(d.length:Int))=true:=by simp[hd']
 have e4:wr .i64 ((d.length:Int)-1)=(d'.length:Int):=by rw[gS (by simp only[hd',dA,List.length_singleton];omega) (by simp only[big,dA]at hsb;omega),hd',dA,List.length_singleton];omega
 have e5:l.ts.es[d'.length]?=some q:=by rw[hes,hd'];simp
 have e6:((d'.length:Int)<(l.ts.es.length:Int))=True:=eq_true (by rw[hes,hd'];simp;omega);cases hl:Op.bytesLess q.v.bs x.v.bs;simp only[hx9,e3,e4,e5,e6,h1,hl,go_sem,seval];refine cB ?_;simp[hq,hd',hl];simp only[hx9,e3,e4,e5,e6,h1,hl,cL hsb,go_sem,seval];refine And.intro (by kernel_rfl) ⟨rfl,?_⟩;simp[hq,hx9,hc,hn,hd',hl]
end
end
section
section
variable{pg:Pg}
theorem IU(l:Lin)(r:List Lin)(vars:List Str):dS (l::r) vars=(gV l&&(l.ts.es.all (λx=>fD vars x.v.bs)&&dS r vars)):=by simp[dS,Bool.and_assoc]
end
end
section
section
variable{pg:Pg}
end
end
section
theorem gW{α : Type}{q : α -> α -> Bool}(h:∀x,q x x=true):∀l:List α,eqL q l l=true
 |[]=>by simp[eqL]
 |x::r=>by simp[eqL,h x,gW h r]
theorem DF{α : Type}{q : α -> α -> Bool}:∀l:List α,(∀x∈l,q x x=true)->eqL q l l=true
 |[],_=>by simp[eqL]
 |x::r,h=>by simp[eqL,h x (by simp),DF r (λy hy=>h y (by simp[hy]))]
theorem JY(x:bE):gY x x=true:=by simp[gY]
theorem mS(x:Lin):fZ x x=true:=by simp[fZ,gW JY]
theorem pS(x:aE):mJ x x=true:=by simp[mJ,gW]
theorem IT:∀p:aA,jD p p=true:=
 aA.ind' λp ih=>by rw[vD,oS,DF p.kids ih,gW mS,gW pS];simp
theorem rB{α β : Type}{q : α -> β -> Bool}(l:List α):eqL q l []=decide ((l.length:Int)=0):=by
 cases l with
 |nil=>simp[eqL]
 |cons x r=>simp[eqL];omega
def iJ(α : Type):Sl α:=⟨true,[],true,by simp[big]⟩
end
section
theorem cY{α : Type}{es d r:List α}{x : α}(hes:es=d++x::r)(hb:es.length<=big) :
  es[d.length]?=some x/\decide ((d.length:Int)<(es.length:Int))=true/\((d.length:Int)<(es.length:Int))=True/\wr .i64 ((d.length:Int)+1)=((d++[x]).length:Int):=by
 have h:d.length<es.length:=by rw[hes];simp
 refine⟨by rw[hes];simp,by simp;omega,eq_true (by omega),cL (r:=r) (by rw[<-hes];exact hb)⟩
theorem bH(n:Nat):decide ((n:Int)<(n:Int))=false:=by simp
theorem I6{α β : Type}{q : α -> β -> Bool}{es d r:List α}{x : α}{es':List β}(hes:es=d++x::r)(hl:es.length=es'.length) :
  ∃y,es'[d.length]?=some y/\decide ((d.length:Int)<(es'.length:Int))=true/\((d.length:Int)<(es'.length:Int))=True/\eqL q (x::r) (es'.drop d.length)=(q x y&&eqL q r (es'.drop (d++[x]).length)):=by
 have h:d.length<es'.length:=by rw[<-hl,hes];simp
 refine⟨es'[d.length],cK h,by simp;omega,eq_true (by omega),?_⟩;rw[nQ h,eqL];simp
theorem oF{α β : Type}{q : α -> β -> Bool}{es:List α}{es':List β}(hl:es.length=es'.length):eqL q [] (es'.drop es.length)=true:=by rw[hl,List.drop_length];simp[eqL]
theorem AQ{α β : Type}{q : α -> β -> Bool}{a:List α}{b:List β}(h:decide ((a.length:Int)=(b.length:Int))=false):eqL q a b=false:=by cases he:eqL q a b;rfl;have:=FR he;simp[this]at h
theorem oJ:∀s:List UInt8,Op.bytesLess s s=false
 |[]=>rfl
 |c::r=>by simp only[Op.bytesLess,oJ r,Bool.and_false,Bool.or_false,mE];exact UInt8.lt_irrefl c
section
variable{pg:Pg}
theorem c194(hf:pg.fs 194=some xG)(nl cl:Bool)(vars:List Str)(hb:vars.length<=big)(s:List UInt8):Ret pg 194 [.sl nl (vars.map Str.av) cl,.str s] (.bool (fD vars s)):=by
 refine Ret.ofX hf ?_;unfold xG;refine Wk ?_;refine aN vars (λd r env hp=>env=yM (.sl nl (vars.map Str.av) cl) (.str s) (.int .i64 d.length)/\fD vars s=fD r s) ?_ ?_ ?_;exact⟨rfl,rfl⟩;rintro env hp ⟨rfl,hI⟩;simp only[yL,yM,bH,go_sem,seval];rw[hI];rfl;rintro d x r env hp hes ⟨rfl,hI⟩;obtain⟨hget,e1,e2,ew⟩:=cY hes hb;have hsym:decide (x.bs=s)=decide (s=x.bs):=by rw[eC];exact eq_comm
 cases hx:decide (s=x.bs);simp only[yL,yM,e1,e2,hget,hsym,hx,ew,go_sem,seval];refine⟨rfl,?_⟩;rw[hI];simp[fD,hx];simp only[yL,yM,e1,e2,hget,hsym,hx,go_sem,seval];rw[hI];simp[fD,hx]
theorem c193(hf:pg.fs 193=some KR)(h54:∀l:Lin,Ret pg 54 [l.av] (.bool (gV l)))(h194:pg.fs 194=some xG)(nl cl:Bool)(ls:List Lin)(hb:ls.length<=big)(nl' cl':Bool)(vars:List Str)(hb':vars.length<=big) :
  Ret pg 193 [.sl nl (ls.map Lin.av) cl,.sl nl' (vars.map Str.av) cl'] (.bool (dS ls vars)):=by
 refine Ret.ofX hf ?_;unfold KR;refine Wk ?_;refine aN ls (λd r env hp=>env=G8 (.sl nl (ls.map Lin.av) cl) (.sl nl' (vars.map Str.av) cl') (.int .i64 d.length)/\dS ls vars=dS r vars) ?_ ?_ ?_;exact⟨rfl,rfl⟩;rintro env hp ⟨rfl,hI⟩;simp only[G6,G8,bH,go_sem,seval];rw[hI];rfl;rintro d l r env hp hes ⟨rfl,hI⟩;rw[IU]at hI;obtain⟨hget,e1,e2,ew⟩:=cY hes hb;rw[hI];clear hI;simp only[G6,G8,hget,e1,e2,go_sem,seval];refine aC (h54 l) (Wk ?_);cases hl:gV l
 case false=>simp only[go_sem,seval]
 refine Wk ?_;have hlb:=l.ts.ok;refine aN l.ts.es (λd2 r2 env hp=>env=G9 (.sl nl (ls.map Lin.av) cl) (.sl nl' (vars.map Str.av) cl') (.int .i64 d.length) (.int .i64 d2.length)/\l.ts.es.all (λx=>fD vars x.v.bs)=r2.all (λx=>fD vars x.v.bs)) ?_ ?_ ?_;exact⟨rfl,rfl⟩;rintro env hp ⟨rfl,hI⟩;simp only[G7,G9,hget,e2,bH,ew,go_sem,seval];refine⟨rfl,?_⟩;rw[hI];simp;rintro d2 x r2 env hp he2 ⟨rfl,hI⟩;obtain⟨hget2,g1,g2,gw⟩:=cY he2 hlb;rw[hI];clear hI;simp only[G7,G9,hget,e2,g1,g2,hget2,go_sem,seval];refine aC (c194 h194 nl' cl' vars hb' x.v.bs) (Wk ?_);cases hv:fD vars x.v.bs;simp only[hv,go_sem,seval];simp only[hv,gw,go_sem,seval];rfl
theorem LE(hf:pg.fs 124=some mY)(n:Int):Ret pg 124 [.str [105,110,116],.int .i64 n] (.bool (eP n)):=by
 refine Ret.ofX hf ?_;unfold mY
 repeat' (first|simp only[*,go_sem,seval]|refine cH (λ_=>?_) (λ_=>?_)|refine cJ (λ_=>?_) (λ_=>?_)|refine cB ?_)
 all_goals (simp_all [eP])
 all_goals omega
theorem WB(hf:pg.fs 124=some mY)(n:Int):Ret pg 124 [.str [98,111,111,108],.int .i64 n] (.bool (kO n)):=by
 refine Ret.ofX hf ?_;unfold mY
 repeat' (first|simp only[*,go_sem,seval]|refine cH (λ_=>?_) (λ_=>?_)|refine cJ (λ_=>?_) (λ_=>?_)|refine cB ?_)
 all_goals (simp_all [kO])
def aJY(a b:Lin)(r:AV):Prop:=∃c:Int,r = .int .i64 c/\decide (c=0)=fZ a b
theorem l0{a b:Lin}(c:Int)(h:decide (c=0)=fZ a b):aJY a b (.int .i64 c):=⟨c,rfl,h⟩
theorem W6{α β : Type}{a:List α}{b:List β}{d r:List (α×β)}{p : α×β}(h:a.zip b=d++p::r) :
  a[d.length]?=some p.1/\b[d.length]?=some p.2/\d.length<a.length/\d.length<b.length:=by
 have h1:(a.zip b)[d.length]?=some p:=by rw[h];simp
 rw[List.getElem?_zip_eq_some]at h1;obtain⟨h2,h3⟩:=h1;exact⟨h2,h3,(cP.1 h2).1,(cP.1 h3).1⟩
theorem c191(hf:pg.fs 191=some BD)(a b:Lin):cA pg 191 [a.av,b.av] (aJY a b):=by
 refine cA.ofX hf ?_;unfold BD;refine Wk ?_;have hab:=a.ts.ok;have hbb:=b.ts.ok
 refine aN (a.ts.es.zip b.ts.es) (λd r env hp=>hp.get 1=some (0,.blk [.int .i64 a.c,.sl a.ts.nl (a.ts.es.map bE.av) a.ts.cl] 2 true true false)/\hp.get 5=some (0,.blk [.int .i64 b.c,.sl b.ts.nl (b.ts.es.map bE.av) b.ts.cl] 2 true true false) /\
  env=kQ (.pt 1 0 0) (.pt 5 0 0) (.int .i64 d.length)/\eqL gY a.ts.es b.ts.es=eqL gY (a.ts.es.drop d.length) (b.ts.es.drop d.length)) ?_ ?_ ?_
 exact⟨rfl,rfl,rfl,rfl⟩;rintro env hp ⟨g1,g5,rfl,hI⟩;rw[List.length_zip]at hI ⊢;have hl:fZ a b=(decide (a.c=b.c)&&eqL gY (a.ts.es.drop (min a.ts.es.length b.ts.es.length)) (b.ts.es.drop (min a.ts.es.length b.ts.es.length))):=by rw[fZ,hI]
 clear hI;generalize hm:min a.ts.es.length b.ts.es.length=m at hl ⊢;rcases Nat.lt_trichotomy a.ts.es.length b.ts.es.length with h|h|h;have hm':m=a.ts.es.length:=by omega
 subst hm';have f1:decide ((a.ts.es.length:Int)<(b.ts.es.length:Int))=true:=by simp;omega
 have hz:fZ a b=false:=by
  rw[hl,List.drop_length];have:(b.ts.es.drop a.ts.es.length)≠[]:=by simp[List.drop_eq_nil_iff];omega
  cases hd:b.ts.es.drop a.ts.es.length with
  |nil=>exact absurd hd this
  |cons y s=>simp[eqL]
 simp only[kP,kQ,g1,g5,bH,f1,go_sem,seval];refine l0 _ ?_;rw[hz];rfl
 ·have hm':m=a.ts.es.length:=by omega
  subst hm';have f0:decide ((b.ts.es.length:Int)<(a.ts.es.length:Int))=false:=by simp;omega
  have f1:decide ((a.ts.es.length:Int)<(b.ts.es.length:Int))=false:=by simp;omega
  have f2:decide ((a.ts.es.length:Int)=(b.ts.es.length:Int))=true:=by simp;omega
  have hz:fZ a b=decide (a.c=b.c):=by rw[hl,List.drop_length,h,List.drop_length];simp[eqL]
  cases c1:decide (a.c<b.c)
  case true=>
   simp only[kP,kQ,g1,g5,bH,f0,f1,f2,c1,go_sem,seval];refine l0 _ ?_;have:¬a.c=b.c:=by have:=aF c1;omega
   rw[hz,decide_eq_false this];rfl
  case false=>
  cases c2:decide (b.c<a.c)
  case true=>
   simp only[kP,kQ,g1,g5,bH,f0,f1,f2,c1,c2,go_sem,seval];refine l0 _ ?_;have:¬a.c=b.c:=by have:=aF c2;omega
   rw[hz,decide_eq_false this];rfl
  case false=>
   simp only[kP,kQ,g1,g5,bH,f0,f1,f2,c1,c2,go_sem,seval];refine l0 _ ?_;have:a.c=b.c:=by have:=aP c2;have:=aP c1;omega
   rw[hz,decide_eq_true this];rfl
 have hm':m=b.ts.es.length:=by omega
 subst hm';have f0:decide ((b.ts.es.length:Int)<(a.ts.es.length:Int))=true:=by simp;omega
 have f1:decide ((a.ts.es.length:Int)<(b.ts.es.length:Int))=false:=by simp;omega
 have f2:decide ((a.ts.es.length:Int)=(b.ts.es.length:Int))=false:=by simp;omega
 have hz:fZ a b=false:=by
  rw[hl,List.drop_length];have:(a.ts.es.drop b.ts.es.length)≠[]:=by simp[List.drop_eq_nil_iff];omega
  cases hd:a.ts.es.drop b.ts.es.length with
  |nil=>exact absurd hd this
  |cons y s=>simp[eqL]
 simp only[kP,kQ,g1,g5,bH,f0,f1,f2,go_sem,seval];refine l0 _ ?_;rw[hz];rfl
 ·rintro d ⟨x,y⟩ r env hp hes ⟨g1,g5,rfl,hI⟩;obtain⟨ga,gb,la,lb⟩:=W6 hes;have e1:decide ((d.length:Int)<(a.ts.es.length:Int))=true:=by simp;omega
  have e2:((d.length:Int)<(a.ts.es.length:Int))=True:=eq_true (by omega);have e3:decide ((d.length:Int)<(b.ts.es.length:Int))=true:=by simp;omega
  have e4:((d.length:Int)<(b.ts.es.length:Int))=True:=eq_true (by omega);have ew:wr .i64 ((d.length:Int)+1)=((d++[(x,y)]).length:Int):=by simp only[big]at hab;rw[gS (by omega) (by omega)];simp
  have hst:eqL gY a.ts.es b.ts.es=(gY x y&&eqL gY (a.ts.es.drop (d++[(x,y)]).length) (b.ts.es.drop (d++[(x,y)]).length)):=by rw[hI,nQ la,nQ lb,eqL];rw[cK la]at ga;rw[cK lb]at gb;cases ga;cases gb;simp
  have hlin:gY x y=false->fZ a b=false:=by intro h;rw[fZ,hst,h];simp
  clear hI;cases c1:Op.bytesLess x.v.bs y.v.bs
  case true=>
   simp only[kP,kQ,g1,g5,e1,e2,e3,e4,ga,gb,c1,go_sem,seval];refine cB ?_;refine l0 _ ?_;have:¬x.v.bs=y.v.bs:=by intro h;rw[h,oJ]at c1;cases c1
   rw[hlin (by simp[gY,this])];rfl
  case false=>
  cases c2:decide (x.v.bs=y.v.bs)
  case false=>simp only[kP,kQ,g1,g5,e1,e2,e3,e4,ga,gb,c1,c2,go_sem,seval];refine cB ?_;refine l0 _ ?_;rw[hlin (by simp[gY,c2])];rfl
  case true=>
  cases c3:decide (x.c<y.c)
  case true=>
   simp only[kP,kQ,g1,g5,e1,e2,e3,e4,ga,gb,c1,c2,c3,go_sem,seval];refine cB ?_;refine l0 _ ?_;have:¬x.c=y.c:=by have:=aF c3;omega
   rw[hlin (by simp[gY,this])];rfl
  case false=>
  cases c4:decide (x.c=y.c)
  case false=>simp only[kP,kQ,g1,g5,e1,e2,e3,e4,ga,gb,c1,c2,c3,c4,go_sem,seval];refine cB ?_;refine l0 _ ?_;rw[hlin (by simp[gY,c4])];rfl
  case true=>simp only[kP,kQ,g1,g5,e1,e2,e3,e4,ga,gb,c1,c2,c3,c4,go_sem,seval];rw[ew];refine⟨by kernel_rfl,rfl,?_⟩;rw[hst];simp[gY,c2,c4]
theorem c162(hf:pg.fs 162=some DY)(h191:pg.fs 191=some BD)(a b:Lin):Ret pg 162 [a.av,b.av] (.bool (fZ a b)):=by obtain⟨r,hr,c,rfl,hc⟩:=c191 h191 a b;rw[Lin.avc,Lin.avc]at hr;refine Ret.ofX hf ?_;unfold DY;refine Wk ?_;refine aC (hr) (Wk ?_);rw[<-hc]
theorem c121(hf:pg.fs 121=some K0)(h162:pg.fs 162=some DY)(h191:pg.fs 191=some BD)(a b:bV):Ret pg 121 [a.av,b.av] (.bool (lZ a b)):=by
 refine Ret.ofX hf ?_;unfold K0;have hab:=a.dims.ok;cases b1:decide (a.row.bs=b.row.bs)
 case false=>simp only[b1,go_sem,seval];simp[lZ,b1]
 case true=>
 cases b2:decide ((a.dims.es.length:Int)=(b.dims.es.length:Int))
 case false=>simp only[b1,b2,go_sem,seval];simp[lZ,b1,AQ b2]
 case true=>
 have hl:a.dims.es.length=b.dims.es.length:=by have:=aF b2;omega
 have hs:lZ a b=eqL fZ a.dims.es b.dims.es:=by simp[lZ,b1]
 rw[hs];simp only[b1,b2,go_sem,seval]
 refine aN a.dims.es (λd r env hp=>hp.get 1=some (0,.blk [.str a.row.bs,.sl a.dims.nl (a.dims.es.map Lin.av) a.dims.cl] 2 true true false)/\hp.get 5=some (0,.blk [.str b.row.bs,.sl b.dims.nl (b.dims.es.map Lin.av) b.dims.cl] 2 true true false) /\
  env=yQ (.pt 1 0 0) (.pt 5 0 0) (.int .i64 d.length)/\eqL fZ a.dims.es b.dims.es=eqL fZ r (b.dims.es.drop d.length)) ?_ ?_ ?_
 exact⟨rfl,rfl,rfl,rfl⟩;rintro env hp ⟨g1,g5,rfl,hI⟩;simp only[yP,yQ,g1,bH,go_sem,seval];rw[hI,oF hl];rintro d x r env hp hes ⟨g1,g5,rfl,hI⟩;obtain⟨hget,e1,e2,ew⟩:=cY hes hab;obtain⟨y,gy,f1,f2,hq⟩:=I6 (q:=fZ) hes hl;rw[hq]at hI;rw[hI];clear hI;have a1:=c162 h162 h191 x y;rw[Lin.avc,Lin.avc]at a1;cases hxy:fZ x y;simp only[yP,yQ,g1,g5,hget,e1,e2,gy,f1,f2,go_sem,seval];refine aC a1 ?_;simp only[hxy,go_sem,seval];kernel_rfl;simp only[yP,yQ,g1,g5,hget,e1,e2,gy,f1,f2,go_sem,seval];refine aC a1 ?_;simp only[hxy,ew,go_sem,seval];exact⟨by kernel_rfl,g1,g5,rfl⟩
end
end
end Go.Tev
