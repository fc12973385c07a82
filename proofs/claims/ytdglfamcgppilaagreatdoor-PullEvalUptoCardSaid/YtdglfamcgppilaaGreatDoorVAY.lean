import Derived.Test.YtdglfamcgppilaaGreatDoorVAX
import Derived.Test.YtdglfamcgppilaaGreatDoorVAT
set_option linter.all false
namespace Go.Tev
section
def eE(acc l:List Int):List Int:=l.foldl (λa x=>fC x a) acc
mutual
def cE:aA->List Int
 |.mk op _ value _ _ _ _ _ _ kids _=>cD (if decide (op.bs=[114,101,97,100]) then fC value [] else []) kids
def cD:List Int->List aA->List Int
 |acc,[]=>acc
 |acc,p::r=>cD (eE acc (cE p)) r
end
theorem tC(p:aA):cE p=cD (if decide (p.op.bs=[114,101,97,100]) then fC p.value [] else []) p.kids:=by cases p;rw[cE];rfl
theorem m9:∀(l acc:List Int),(eE acc l).length<=acc.length+l.length
 |[],acc=>by simp[eE]
 |x::r,acc=>by have h1:=m9 r (fC x acc);have h2:=xJ x acc;simp only[eE,List.foldl_cons,List.length_cons]at *;omega
theorem xI(acc d:List Int)(x:Int):eE acc (d++[x])=fC x (eE acc d):=by simp[eE]
theorem tJ{a:Int}:∀(l acc:List Int),a∈eE acc l↔a∈acc\/a∈l
 |[],acc=>by simp[eE]
 |x::r,acc=>by have h1:=tJ (a:=a) r (fC x acc);simp only[eE,List.foldl_cons]at *;rw[h1,xW,List.mem_cons];constructor;rintro((h|h)|h)<;>simp[h];rintro(h|h|h)<;>simp[h]
theorem nP:∀(d:List aA)(acc:List Int)(x:aA),cD acc (d++[x])=eE (cD acc d) (cE x)
 |[],acc,x=>by simp[cD]
 |y::d,acc,x=>by simp only[List.cons_append,cD];exact nP d _ x
mutual
theorem qX:∀p:aA,(cE p).length<=p.sz
 |.mk op _ value _ _ _ _ _ _ kids _=>by have h:=mH kids (if decide (op.bs=[114,101,97,100]) then fC value [] else []);rw[cE,aA.sz];split at h<;>simp_all [fC]<;>omega
theorem mH:∀(l:List aA)(acc:List Int),(cD acc l).length<=acc.length+aA.szL l
 |[],acc=>by simp[cD]
 |p::r,acc=>by have h1:=qX p;have h2:=mH r (eE acc (cE p));have h3:=m9 (cE p) acc;simp only[cD,aA.szL]at *;omega
end
mutual
theorem xV(a:Int):∀p:aA,a∈cE p↔a∈cJ p
 |.mk op _ value _ _ _ _ _ _ kids _=>by have h:=u0 a kids (if decide (op.bs=[114,101,97,100]) then fC value [] else []);rw[cE,cJ,h,lS];cases decide (op.bs=[114,101,97,100])<;>simp[fC]
theorem u0(a:Int):∀(l:List aA)(acc:List Int),a∈cD acc l↔a∈acc\/a∈fG l
 |[],acc=>by simp[cD,fG]
 |p::r,acc=>by have h1:=xV a p;have h2:=u0 a r (eE acc (cE p));rw[cD,h2,tJ,h1,fG,lS,or_assoc]
end
section
variable{pg:Pg}
theorem K8(s:Nat)(v:AV)(x:Int):∃B,dQ 0 s [v,.int .i64 x]=B/\65536<=B/\∀k e o l c,v = .rf k e o l c->k≠B+1/\k≠B+5/\k≠B+9:=by refine⟨_,rfl,?_,?_⟩;simp only[dQ];split<;>omega;rintro k e o l c rfl;simp only[dQ,List.any_cons,List.any_nil,Bool.or_false];split;rename_i h;simp only[aD,aQ]at h;omega;rename_i h;simp only[aD,aQ,not_and]at h;omega
theorem LC{f s:Nat}{h:Hp}{k1:Nat}{v:AV}{l:List Int}{x:Int}{Q:AV->Eff->Prop}{t:Tok Q}(hf:pg.fs f=some rJ)(o:Own h k1 1 false v (l.map aE))(hb:l.length<big)
  (q:∀r h' k2,Own h' k2 1 false r ((fC x l).map aE)->(∀k,k<65536->h'.get k=h.get k)->Q r (.whole h')):XO pg 0 (.call f false true) s h [v,.int .i64 x] Q t:=by
 obtain⟨B,hB,hB1,hB2⟩:=K8 s v x;have key:∃k1,Own h k1 1 false v (l.map aE)/\k1≠B+1/\k1≠B+5/\k1≠B+9:=by
  rcases o with ⟨he,nl,cl,rfl,hc⟩|⟨e,cs,rfl,hg,hu⟩
  exact⟨B,.inl ⟨he,nl,cl,rfl,hc⟩,by omega,by omega,by omega⟩;exact⟨k1,.inr ⟨e,cs,rfl,hg,hu⟩,hB2 _ _ _ _ _ rfl⟩
 obtain⟨k1',o',a1,a5,a9⟩:=key;refine aN (.inl rfl) hB (aGU hf o' hb x a1 a5 a9) ?_;rintro r h' ⟨k2,p1,_,p3⟩;exact q r h' k2 p1 (λk hk=>p3 k (by omega) (by omega) (by omega))
theorem c37(hf:pg.fs 37=some R8)(h55:pg.fs 55=some rJ):∀p:aA,p.ok->p.sz<=big->cB pg 37 [p.av] (nK 1 false ((cE p).map aE)):=by
 refine aA.ind' λp ih hp hsz=>?_;obtain⟨hb,hk⟩:=(aA.ok_iff p).1 hp;have hz:=aA.sz_eq p;refine cB.ofX hf ?_;unfold R8;refine Wk ?_;cases hr:decide (p.op.bs=[114,101,97,100])
 case true=>
  refine Wk ?_;refine LC (l:=[]) h55 (Own.nil _ 0 _ _ _ _ rfl) (by decide) ?_;intro v H k1 ho hun;refine Wk ?_;have hres:cE p=cD (fC p.value []) p.kids:=by rw[tC,hr];rfl
  refine aM p.kids (λd r env hp=>∃v k1,env=uG (.pt 1 0 0) v (.int .i64 d.length)/\Own hp k1 1 false v ((cD (fC p.value []) d).map aE)/\hp.get 1=some (0,.blk (nA p p.kids) 9 true true false)) ?_ ?_ ?_;exact⟨v,k1,rfl,ho,(hun 1 (by decide)).trans (by simp only[go_sem,seval];rfl)⟩;rintro env hp ⟨v,k1,rfl,ho,h1⟩;simp only[nA]at h1;simp only[yU,uG,h1,go_sem,seval];rw[hres];exact ho.conv (El.ints _);rintro d x r env hp hes ⟨v,k1,rfl,ho,h1⟩;have hxm:x∈p.kids:=by rw[hes];simp
  have hxs:x.sz<=big:=by have:=aA.szL_mem hxm;omega
  have hx:=ih x hxm (hk x hxm) hxs;have hx':=hx;rw[aA.avc]at hx';have hl1:=mH d (fC p.value []);have hl2:=qX x;have hst:(fC p.value []:List Int).length<=1:=by simp[fC]
  have hzz:aA.szL p.kids=aA.szL d+(x.sz+aA.szL r):=by rw[hes,aA.szL_append,aA.szL]
  rw[hes]at h1 hb;rw[hes];have h0:=h1;simp only[nA]at h1;have hsno:=nP d (fC p.value []) x;have hw:=cW hb;clear ih hk;simp only[yU,uG,h1,go_sem,seval]
  first|refine sY hx (by simp only[go_sem,seval]) ?_|refine sY hx' (by simp only[go_sem,seval]) ?_
  intro nl1 cl1 _;refine Wk ?_;refine aM (cE x) (λd2 r2 env hp=>∃v k1,env=uH (.pt 1 0 0) v (.int .i64 d.length) (.sl nl1 ((cE x).map aE) cl1) (.int .i64 d2.length)/\Own hp k1 1 false v ((eE (cD (fC p.value []) d) d2).map aE)/\hp.get 1=some (0,.blk (nA p (d++x::r)) 9 true true false)) ?_ ?_ ?_;exact⟨v,k1,rfl,ho.mono (by simp only[go_sem,seval]),by simp only[go_sem,seval];exact h0⟩;clear ho h1 h0 hp;rintro env hp ⟨v,k1,rfl,ho,h0⟩;simp only[yV,uH,hw,go_sem,seval];rw[hsno];exact⟨v,k1,rfl,ho,h0⟩;clear ho h1 h0 hp;rintro d2 y r2 env hp hes2 ⟨v,k1,rfl,ho,h0⟩;have hd2:d2.length<(cE x).length:=by rw[hes2];simp
  have hget:(cE x)[d2.length]?=some y:=by rw[hes2];simp
  have hpl:=m9 d2 (cD (fC p.value []) d);have hbb:(eE (cD (fC p.value []) d) d2).length<big:=by omega
  have f1:decide ((d2.length:Int)<((cE x).length:Int))=true:=by simp;omega
  have f2:((d2.length:Int)<((cE x).length:Int))=True:=eq_true (by omega);have hw2:wr .i64 ((d2.length:Int)+1)=((d2++[y]).length:Int):=cW (r:=r2) (by rw[<-hes2];omega);have hsn2:=xI (cD (fC p.value []) d) d2 y;simp only[yV,uH,f1,f2,hget,go_sem,seval];refine LC h55 ho hbb ?_;intro r' h' k2 ho' hun;simp only[hw2,go_sem,seval];rw[hsn2];exact⟨r',k2,rfl,ho',(hun 1 (by decide)).trans h0⟩
 case false=>
  refine Wk ?_;have hres:cE p=cD ([]) p.kids:=by rw[tC,hr];rfl
  refine aM p.kids (λd r env hp=>∃v k1,env=uG (.pt 1 0 0) v (.int .i64 d.length)/\Own hp k1 1 false v ((cD ([]) d).map aE)/\hp.get 1=some (0,.blk (nA p p.kids) 9 true true false)) ?_ ?_ ?_;exact⟨_,0,rfl,Own.nil _ _ _ _ _ _ rfl,by simp only[go_sem,seval];rfl⟩;rintro env hp ⟨v,k1,rfl,ho,h1⟩;simp only[nA]at h1;simp only[yU,uG,h1,go_sem,seval];rw[hres];exact ho.conv (El.ints _);rintro d x r env hp hes ⟨v,k1,rfl,ho,h1⟩;have hxm:x∈p.kids:=by rw[hes];simp
  have hxs:x.sz<=big:=by have:=aA.szL_mem hxm;omega
  have hx:=ih x hxm (hk x hxm) hxs;have hx':=hx;rw[aA.avc]at hx';have hl1:=mH d ([]);have hl2:=qX x;have hst:([]:List Int).length<=1:=by simp[fC]
  have hzz:aA.szL p.kids=aA.szL d+(x.sz+aA.szL r):=by rw[hes,aA.szL_append,aA.szL]
  rw[hes]at h1 hb;rw[hes];have h0:=h1;simp only[nA]at h1;have hsno:=nP d ([]) x;have hw:=cW hb;clear ih hk;simp only[yU,uG,h1,go_sem,seval]
  first|refine sY hx (by simp only[go_sem,seval]) ?_|refine sY hx' (by simp only[go_sem,seval]) ?_
  intro nl1 cl1 _;refine Wk ?_;refine aM (cE x) (λd2 r2 env hp=>∃v k1,env=uH (.pt 1 0 0) v (.int .i64 d.length) (.sl nl1 ((cE x).map aE) cl1) (.int .i64 d2.length)/\Own hp k1 1 false v ((eE (cD ([]) d) d2).map aE)/\hp.get 1=some (0,.blk (nA p (d++x::r)) 9 true true false)) ?_ ?_ ?_;exact⟨v,k1,rfl,ho.mono (by simp only[go_sem,seval]),by simp only[go_sem,seval];exact h0⟩;clear ho h1 h0 hp;rintro env hp ⟨v,k1,rfl,ho,h0⟩;simp only[yV,uH,hw,go_sem,seval];rw[hsno];exact⟨v,k1,rfl,ho,h0⟩;clear ho h1 h0 hp;rintro d2 y r2 env hp hes2 ⟨v,k1,rfl,ho,h0⟩;have hd2:d2.length<(cE x).length:=by rw[hes2];simp
  have hget:(cE x)[d2.length]?=some y:=by rw[hes2];simp
  have hpl:=m9 d2 (cD ([]) d);have hbb:(eE (cD ([]) d) d2).length<big:=by omega
  have f1:decide ((d2.length:Int)<((cE x).length:Int))=true:=by simp;omega
  have f2:((d2.length:Int)<((cE x).length:Int))=True:=eq_true (by omega);have hw2:wr .i64 ((d2.length:Int)+1)=((d2++[y]).length:Int):=cW (r:=r2) (by rw[<-hes2];omega);have hsn2:=xI (cD ([]) d) d2 y;simp only[yV,uH,f1,f2,hget,go_sem,seval];refine LC h55 ho hbb ?_;intro r' h' k2 ho' hun;simp only[hw2,go_sem,seval];rw[hsn2];exact⟨r',k2,rfl,ho',(hun 1 (by decide)).trans h0⟩
end
end
section
section
variable{pg:Pg}
theorem c114(hf:pg.fs 114=some B7)(c:UInt8):Ret pg 114 [.int .u8 (c.toNat:Int)] (.bool (cN c)):=by
 refine Ret.ofX hf ?_;unfold B7;cases b1:decide (48<=(c.toNat:Int));simp only[b1,go_sem,seval];have:¬ 48<=c.toNat:=by have:=aK b1;omega
 simp[cN,this];simp only[b1,go_sem,seval];have:48<=c.toNat:=by have:=aG b1;omega
 simp only[cN,this,decide_true,Bool.true_and];rw[dY];omega
theorem c115(hf:pg.fs 115=some B6)(c:UInt8):Ret pg 115 [.int .u8 (c.toNat:Int)] (.bool (fA c)):=by
 refine Ret.ofX hf ?_;unfold B6;cases b1:decide (97<=(c.toNat:Int));simp only[b1,go_sem,seval];have:¬ 97<=c.toNat:=by have:=aK b1;omega
 simp[fA,this];simp only[b1,go_sem,seval];have:97<=c.toNat:=by have:=aG b1;omega
 simp only[fA,this,decide_true,Bool.true_and];rw[dY];omega
theorem c90(hf:pg.fs 90=some OK)(n:Int):Ret pg 90 [.int .i64 n] (.bool (lC n)):=by refine Ret.ofX hf ?_;unfold OK;cases b1:decide (-1000000<=n);simp only[b1,go_sem,seval];simp[lC,b1];simp only[b1,go_sem,seval];simp[lC,b1]
theorem c77(hf:pg.fs 77=some R3)(h114:pg.fs 114=some B7)(h115:pg.fs 115=some B6)(s:List UInt8)(hb:s.length<=big):Ret pg 77 [.str s] (.bool (jC s)):=by
 refine Ret.ofX hf ?_;unfold R3;cases b0:decide ((s.length:Int)=0)
 case true=>have:s=[]:=iE (by have:=aG b0;omega);simp only[b0,go_sem,seval];subst this;rfl
 case false=>
 obtain⟨c,t,hs⟩:∃c t,s=c::t:=by
  cases s with
  |nil=>simp at b0
  |cons c t=>exact⟨c,t,rfl⟩
 have hg0:s[0]?=some c:=by rw[hs];rfl
 have hlt:s.length=t.length+1:=by rw[hs];rfl
 have hnu:jC s=(decide (s.length<=30)&&(if c=95 then decide (2<=s.length)&&decide (s.length<=10) && !decide (t.head?=some 48)&&t.all cN else fA c&&t.all (λx=>fA x||cN x))):=by rw[hs];rfl
 cases b1:decide (30<(s.length:Int))
 case true=>
  simp only[b0,b1,go_sem,seval];have:¬s.length<=30:=by have:=aG b1;omega
  simp[hnu,this]
 case false=>
 have h30:s.length<=30:=by have:=aK b1;omega
 have hd30:decide (s.length<=30)=true:=decide_eq_true h30;rw[hnu,hd30,Bool.true_and];clear hnu;simp only[b0,b1,hg0,go_sem,seval];have hi0:∀(d:List UInt8)(x:UInt8)(r:List UInt8),s=d++x::r->s[d.length]?=some x/\decide ((d.length:Int)<(s.length:Int))=true/\wr .i64 ((d.length:Int)+1)=((d++[x]).length:Int):=by intro d x r he;refine⟨by rw[he];simp,by rw[he];simp;omega,?_⟩;exact cW (r:=r) (by rw[<-he];exact hb)
 cases b2:decide ((c.toNat:Int)=95)
 case true=>
  have hc:c=95:=by have h:=aG b2;exact UInt8.toNat_inj.1 (by simpa using (show c.toNat=95 by omega))
  rw[if_pos hc];cases b3:decide ((s.length:Int)<2)
  case true=>
   have:¬ 2<=s.length:=by have:=aG b3;omega
   simp only[b3,go_sem,seval];simp[this]
  case false=>
  have h2:2<=s.length:=by have:=aK b3;omega
  cases b4:decide (10<(s.length:Int))
  case true=>
   have:¬s.length<=10:=by have:=aG b4;omega
   simp only[b3,b4,go_sem,seval];simp[this]
  case false=>
  have h10:s.length<=10:=by have:=aK b4;omega
  obtain⟨d,u,ht⟩:∃d u,t=d::u:=by
   cases t with
   |nil=>simp at hlt;omega
   |cons d u=>exact⟨d,u,rfl⟩
  have hg1:s[1]?=some d:=by rw[hs,ht];rfl
  have hhd:t.head?=some d:=by rw[ht];rfl
  cases b5:decide ((d.toNat:Int)=48)
  case true=>
   have hd:d=48:=by have h:=aG b5;exact UInt8.toNat_inj.1 (by simpa using (show d.toNat=48 by omega))
   simp only[b3,b4,hg1,b5,go_sem,seval];simp[hhd,hd]
  case false=>
  have hd:¬d=48:=by intro h;subst h;exact absurd rfl (aK b5)
  have hres:(decide (2<=s.length)&&decide (s.length<=10) && !decide (t.head?=some 48)&&t.all cN)=t.all cN:=by simp[h2,h10,hhd,hd]
  rw[hres];simp only[b3,b4,hg1,b5,go_sem,seval];refine aM t (λe r env hp=>env=KB (.str s) (.int .i64 ((e.length+1:Nat):Int))/\t.all cN=r.all cN) ?_ ?_ ?_;exact⟨rfl,rfl⟩;rintro env hp ⟨rfl,hI⟩;have hex:decide (((t.length+1:Nat):Int)<(s.length:Int))=false:=by simp;omega
  simp only[J9,KB,hex,go_sem,seval];rw[hI];rfl;rintro e x r env hp he ⟨rfl,hI⟩;have hse:s=(c::e)++x::r:=by rw[hs,he];rfl
  obtain⟨k1,k2,k3⟩:=hi0 _ _ _ hse;have k0:(c::e).length=e.length+1:=rfl;have k4:((c::e)++[x]).length=(e++[x]).length+1:=by simp
  rw[k0]at k1 k2 k3;rw[k4]at k3;simp only[J9,KB,k1,k2,go_sem,seval];refine dH (c114 h114 x) rfl rfl ?_;cases hx:cN x;simp only[hx,go_sem,seval];rw[hI];simp[hx];simp only[hx,k3,go_sem,seval];refine⟨rfl,?_⟩;rw[hI];simp[hx]
 case false=>
  have hc:¬c=95:=by intro h;subst h;exact absurd rfl (aK b2)
  rw[if_neg hc];simp only[b2,go_sem,seval];refine aM s (λe r env hp=>env=KA (.str s) (.int .i64 e.length)/\(e=[]\/(fA c&&t.all (λx=>fA x||cN x))=r.all (λx=>fA x||cN x))) ?_ ?_ ?_;exact⟨rfl,.inl rfl⟩;rintro env hp ⟨rfl,hI⟩;have hex:decide ((s.length:Int)<(s.length:Int))=false:=by simp
  simp only[J8,KA,hex,go_sem,seval];rcases hI with h|h;exact absurd h (by rw[hs];simp);rw[h];rfl
  ·rintro e x r env hp he ⟨rfl,hI⟩;obtain⟨k1,k2,k3⟩:=hi0 _ _ _ he
   have hI2:(fA c&&t.all (λx=>fA x||cN x))=((if e=[] then fA x else (fA x||cN x))&&r.all (λx=>fA x||cN x)):=by
    rcases hI with h|h;subst h;rw[hs]at he;simp only[List.nil_append,List.cons.injEq]at he;obtain⟨rfl,rfl⟩:=he;simp;by_cases h0:e=[]
    subst h0;rw[hs]at he;simp only[List.nil_append,List.cons.injEq]at he;obtain⟨rfl,rfl⟩:=he;simp;rw[h,if_neg h0];simp
   rw[hI2];clear hI hI2;simp only[J8,KA,k1,k2,go_sem,seval];refine dH (c115 h115 x) rfl rfl ?_;cases hx:fA x
   case true=>simp only[hx,k3,go_sem,seval];refine⟨rfl,.inr ?_⟩;split<;>simp
   case false=>
   by_cases h0:e=[]
   have h1:decide ((e.length:Int)=0)=true:=by simp[h0]
   simp only[hx,h1,go_sem,seval];simp[h0];have h1:decide ((e.length:Int)=0)=false:=by simp[h0]
   simp only[hx,h1,k1,go_sem,seval];refine dH (c114 h114 x) rfl rfl ?_;cases hy:cN x;simp only[hx,hy,go_sem,seval];simp[h0];simp only[hx,hy,k3,go_sem,seval];refine⟨rfl,.inr ?_⟩;simp[h0]
theorem c54(hf:pg.fs 54=some R5)(h77:∀s:Str,Ret pg 77 [.str s.bs] (.bool (jC s.bs)))(h90:pg.fs 90=some OK)(l:Lin):Ret pg 54 [l.av] (.bool (lE l)):=by
 refine Ret.ofX hf ?_;unfold R5;refine Wk ?_;refine aC (c90 h90 _) (Wk ?_);cases h9:lC l.c
 case false=>refine Wk ?_;simp[lE,h9]
 cases h12:decide (12<(l.ts.es.length:Int))
 case true=>
  simp only[h12,go_sem,seval];have:¬(l.ts.es.length:Int)<=12:=by have:=aG h12;omega
  simp[lE,this]
 simp only[h12,go_sem,seval];have hlin:lE l=mF [] l.ts.es:=by
  have:(l.ts.es.length:Int)<=12:=by have:=aK h12;omega
  simp[lE,h9,this]
 refine aM l.ts.es (λd r env hp=>hp.get 1=some (0,.blk [.int .i64 l.c,.sl l.ts.nl (l.ts.es.map bH.av) l.ts.cl] 2 true true false) /\
  env=KK (.pt 1 0 0) (.int .i64 d.length)/\lE l=mF d r) ?_ ?_ ?_
 exact⟨rfl,rfl,hlin⟩;rintro env hp ⟨h1,rfl,hq⟩;simp only[KJ,KK,h1,go_sem,seval];rw[hq];rfl;rintro d x r env hp hes ⟨h1,rfl,hq⟩;have hb:=l.ts.ok;have hget:l.ts.es[d.length]?=some x:=by rw[hes];simp
 have e1:decide ((d.length:Int)<(l.ts.es.length:Int))=true:=by rw[hes];simp;omega
 have e2:((d.length:Int)<(l.ts.es.length:Int))=True:=eq_true (by rw[hes];simp;omega);have hsb:(d++x::r).length<=big:=by rw[<-hes];exact hb
 simp only[mF]at hq;simp only[KJ,KK,h1,hget,e1,e2,go_sem,seval];refine aC (h77 x.v) (Wk ?_);cases hn:jC x.v.bs
 case false=>refine Wk ?_;refine bI ?_;simp[hq,hn]
 cases hc:decide (x.c=0)
 case true=>simp only[hc,go_sem,seval];refine bI ?_;simp[hq,hc]
 simp only[hc,go_sem,seval];refine aC (c90 h90 x.c) (Wk ?_);cases hx9:lC x.c
 case false=>refine Wk ?_;refine bI ?_;simp[hq,hx9]
 rcases CL d with hd|⟨d',q,hd⟩
 have e3:decide (0<(d.length:Int))=false:=by simp[hd]
 simp only[hx9,e3,cW hsb,go_sem,seval];refine And.intro (by kernel_rfl) ⟨h1,rfl,?_⟩;subst hd;simp[hq,hx9,hc,hn];have hd':d=d'++[q]:=by simpa using hd
 have e3:decide (0<(d.length:Int))=true:=by simp[hd']
 have e4:wr .i64 ((d.length:Int)-1)=(d'.length:Int):=by rw[fX (by simp only[hd',dZ,List.length_singleton];omega) (by simp only[big,dZ]at hsb;omega),hd',dZ,List.length_singleton];omega
 have e5:l.ts.es[d'.length]?=some q:=by rw[hes,hd'];simp
 have e6:((d'.length:Int)<(l.ts.es.length:Int))=True:=eq_true (by rw[hes,hd'];simp;omega);cases hl:Op.bytesLess q.v.bs x.v.bs;simp only[hx9,e3,e4,e5,e6,h1,hl,go_sem,seval];refine bI ?_;simp[hq,hd',hl];simp only[hx9,e3,e4,e5,e6,h1,hl,cW hsb,go_sem,seval];refine And.intro (by kernel_rfl) ⟨rfl,?_⟩;simp[hq,hx9,hc,hn,hd',hl]
end
end
section
section
variable{pg:Pg}
theorem GB(l:Lin)(r:List Lin)(vars:List Str):eK (l::r) vars=(lE l&&(l.ts.es.all (λx=>jF vars x.v.bs)&&eK r vars)):=by simp[eK,Bool.and_assoc]
end
end
section
section
variable{pg:Pg}
theorem c15(hf:pg.fs 15=some E5)(nl cl:Bool)(a:List Int)(hb:a.length<=big)(nl' cl':Bool)(b:List Int)(h:a=b):Ret pg 15 [.sl nl (a.map aE) cl,.sl nl' (b.map aE) cl'] (.bool true):=by
 subst h;refine Ret.ofX hf ?_;unfold E5;have e0:decide ((a.length:Int)=(a.length:Int))=true:=by simp
 simp only[e0,go_sem,seval];refine aM a (λd r env hp=>env=rK (.sl nl (a.map aE) cl) (.sl nl' (a.map aE) cl') (.int .i64 d.length)) ?_ ?_ ?_;rfl;rintro env hp rfl;have f1:decide ((a.length:Int)<(a.length:Int))=false:=by simp
 simp only[uJ,rK,f1,go_sem,seval];rintro d x r env hp hes rfl;have hsb:(d++x::r).length<=big:=by rw[<-hes];exact hb
 have hget:a[d.length]?=some x:=by rw[hes];simp
 have e1:decide ((d.length:Int)<(a.length:Int))=true:=by rw[hes];simp;omega
 have e2:((d.length:Int)<(a.length:Int))=True:=eq_true (by rw[hes];simp;omega);have e3:decide (x=x)=true:=by simp
 simp only[uJ,rK,e1,e2,e3,hget,cW hsb,go_sem,seval];exact⟨by kernel_rfl,rfl⟩
end
end
section
theorem gT{α : Type}{q : α -> α -> Bool}(h:∀x,q x x=true):∀l:List α,eqL q l l=true
 |[]=>by simp[eqL]
 |x::r=>by simp[eqL,h x,gT h r]
theorem BG{α : Type}{q : α -> α -> Bool}:∀l:List α,(∀x∈l,q x x=true)->eqL q l l=true
 |[],_=>by simp[eqL]
 |x::r,h=>by simp[eqL,h x (by simp),BG r (λy hy=>h y (by simp[hy]))]
theorem G1(x:bH):jQ x x=true:=by simp[jQ]
theorem l3(x:Lin):iM x x=true:=by simp[iM,gT G1]
theorem oT(x:aH):lU x x=true:=by simp[lU,gT]
theorem GA:∀p:aA,jL p p=true:=
 aA.ind' λp ih=>by rw[tD,nQ,BG p.kids ih,gT l3,gT oT];simp
theorem pX{α β : Type}{q : α -> β -> Bool}(l:List α):eqL q l []=decide ((l.length:Int)=0):=by
 cases l with
 |nil=>simp[eqL]
 |cons x r=>simp[eqL];omega
def iL(α : Type):Sl α:=⟨true,[],true,by simp[big]⟩
end
section
theorem cG{α : Type}{es d r:List α}{x : α}(hes:es=d++x::r)(hb:es.length<=big) :
  es[d.length]?=some x/\decide ((d.length:Int)<(es.length:Int))=true/\((d.length:Int)<(es.length:Int))=True/\wr .i64 ((d.length:Int)+1)=((d++[x]).length:Int):=by
 have h:d.length<es.length:=by rw[hes];simp
 refine⟨by rw[hes];simp,by simp;omega,eq_true (by omega),cW (r:=r) (by rw[<-hes];exact hb)⟩
theorem aY(n:Nat):decide ((n:Int)<(n:Int))=false:=by simp
theorem AR{α β : Type}{q : α -> β -> Bool}{es d r:List α}{x : α}{es':List β}(hes:es=d++x::r)(hl:es.length=es'.length) :
  ∃y,es'[d.length]?=some y/\decide ((d.length:Int)<(es'.length:Int))=true/\((d.length:Int)<(es'.length:Int))=True/\eqL q (x::r) (es'.drop d.length)=(q x y&&eqL q r (es'.drop (d++[x]).length)):=by
 have h:d.length<es'.length:=by rw[<-hl,hes];simp
 refine⟨es'[d.length],bJ h,by simp;omega,eq_true (by omega),?_⟩;rw[mQ h,eqL];simp
theorem lP{α β : Type}{q : α -> β -> Bool}{es:List α}{es':List β}(hl:es.length=es'.length):eqL q [] (es'.drop es.length)=true:=by rw[hl,List.drop_length];simp[eqL]
theorem tZ{α β : Type}{q : α -> β -> Bool}{a:List α}{b:List β}(h:decide ((a.length:Int)=(b.length:Int))=false):eqL q a b=false:=by cases he:eqL q a b;rfl;have:=MQ he;simp[this]at h
theorem nH:∀s:List UInt8,Op.bytesLess s s=false
 |[]=>rfl
 |c::r=>by simp only[Op.bytesLess,nH r,Bool.and_false,Bool.or_false,nL];exact UInt8.lt_irrefl c
section
variable{pg:Pg}
theorem c194(hf:pg.fs 194=some vI)(nl cl:Bool)(vars:List Str)(hb:vars.length<=big)(s:List UInt8):Ret pg 194 [.sl nl (vars.map Str.av) cl,.str s] (.bool (jF vars s)):=by
 refine Ret.ofX hf ?_;unfold vI;refine Wk ?_;refine aM vars (λd r env hp=>env=wP (.sl nl (vars.map Str.av) cl) (.str s) (.int .i64 d.length)/\jF vars s=jF r s) ?_ ?_ ?_;exact⟨rfl,rfl⟩;rintro env hp ⟨rfl,hI⟩;simp only[wO,wP,aY,go_sem,seval];rw[hI];rfl;rintro d x r env hp hes ⟨rfl,hI⟩;obtain⟨hget,e1,e2,ew⟩:=cG hes hb;have hsym:decide (x.bs=s)=decide (s=x.bs):=by rw[dY];exact eq_comm
 cases hx:decide (s=x.bs);simp only[wO,wP,e1,e2,hget,hsym,hx,ew,go_sem,seval];refine⟨rfl,?_⟩;rw[hI];simp[jF,hx];simp only[wO,wP,e1,e2,hget,hsym,hx,go_sem,seval];rw[hI];simp[jF,hx]
theorem c193(hf:pg.fs 193=some HW)(h54:∀l:Lin,Ret pg 54 [l.av] (.bool (lE l)))(h194:pg.fs 194=some vI)(nl cl:Bool)(ls:List Lin)(hb:ls.length<=big)(nl' cl':Bool)(vars:List Str)(hb':vars.length<=big) :
  Ret pg 193 [.sl nl (ls.map Lin.av) cl,.sl nl' (vars.map Str.av) cl'] (.bool (eK ls vars)):=by
 refine Ret.ofX hf ?_;unfold HW;refine Wk ?_;refine aM ls (λd r env hp=>env=E2 (.sl nl (ls.map Lin.av) cl) (.sl nl' (vars.map Str.av) cl') (.int .i64 d.length)/\eK ls vars=eK r vars) ?_ ?_ ?_;exact⟨rfl,rfl⟩;rintro env hp ⟨rfl,hI⟩;simp only[E0,E2,aY,go_sem,seval];rw[hI];rfl;rintro d l r env hp hes ⟨rfl,hI⟩;rw[GB]at hI;obtain⟨hget,e1,e2,ew⟩:=cG hes hb;rw[hI];clear hI;simp only[E0,E2,hget,e1,e2,go_sem,seval];refine aC (h54 l) (Wk ?_);cases hl:lE l
 case false=>simp only[go_sem,seval]
 refine Wk ?_;have hlb:=l.ts.ok;refine aM l.ts.es (λd2 r2 env hp=>env=E3 (.sl nl (ls.map Lin.av) cl) (.sl nl' (vars.map Str.av) cl') (.int .i64 d.length) (.int .i64 d2.length)/\l.ts.es.all (λx=>jF vars x.v.bs)=r2.all (λx=>jF vars x.v.bs)) ?_ ?_ ?_;exact⟨rfl,rfl⟩;rintro env hp ⟨rfl,hI⟩;simp only[E1,E3,hget,e2,aY,ew,go_sem,seval];refine⟨rfl,?_⟩;rw[hI];simp;rintro d2 x r2 env hp he2 ⟨rfl,hI⟩;obtain⟨hget2,g1,g2,gw⟩:=cG he2 hlb;rw[hI];clear hI;simp only[E1,E3,hget,e2,g1,g2,hget2,go_sem,seval];refine aC (c194 h194 nl' cl' vars hb' x.v.bs) (Wk ?_);cases hv:jF vars x.v.bs;simp only[hv,go_sem,seval];simp only[hv,gw,go_sem,seval];rfl
theorem IM(hf:pg.fs 124=some l9)(n:Int):Ret pg 124 [.str [105,110,116],.int .i64 n] (.bool (bR n)):=by
 refine Ret.ofX hf ?_;unfold l9
 repeat' (first|simp only[*,go_sem,seval]|refine bW (λ_=>?_) (λ_=>?_)|refine bX (λ_=>?_) (λ_=>?_)|refine bI ?_)
 all_goals (simp_all [bR])
 all_goals omega
theorem SQ(hf:pg.fs 124=some l9)(n:Int):Ret pg 124 [.str [98,111,111,108],.int .i64 n] (.bool (eG n)):=by
 refine Ret.ofX hf ?_;unfold l9
 repeat' (first|simp only[*,go_sem,seval]|refine bW (λ_=>?_) (λ_=>?_)|refine bX (λ_=>?_) (λ_=>?_)|refine bI ?_)
 all_goals (simp_all [eG])
def aGL(a b:Lin)(r:AV):Prop:=∃c:Int,r = .int .i64 c/\decide (c=0)=iM a b
theorem lI{a b:Lin}(c:Int)(h:decide (c=0)=iM a b):aGL a b (.int .i64 c):=⟨c,rfl,h⟩
theorem TD{α β : Type}{a:List α}{b:List β}{d r:List (α×β)}{p : α×β}(h:a.zip b=d++p::r) :
  a[d.length]?=some p.1/\b[d.length]?=some p.2/\d.length<a.length/\d.length<b.length:=by
 have h1:(a.zip b)[d.length]?=some p:=by rw[h];simp
 rw[List.getElem?_zip_eq_some]at h1;obtain⟨h2,h3⟩:=h1;exact⟨h2,h3,(bS.1 h2).1,(bS.1 h3).1⟩
theorem c191(hf:pg.fs 191=some y9)(a b:Lin):cB pg 191 [a.av,b.av] (aGL a b):=by
 refine cB.ofX hf ?_;unfold y9;refine Wk ?_;have hab:=a.ts.ok;have hbb:=b.ts.ok
 refine aM (a.ts.es.zip b.ts.es) (λd r env hp=>hp.get 1=some (0,.blk [.int .i64 a.c,.sl a.ts.nl (a.ts.es.map bH.av) a.ts.cl] 2 true true false)/\hp.get 5=some (0,.blk [.int .i64 b.c,.sl b.ts.nl (b.ts.es.map bH.av) b.ts.cl] 2 true true false) /\
  env=kD (.pt 1 0 0) (.pt 5 0 0) (.int .i64 d.length)/\eqL jQ a.ts.es b.ts.es=eqL jQ (a.ts.es.drop d.length) (b.ts.es.drop d.length)) ?_ ?_ ?_
 exact⟨rfl,rfl,rfl,rfl⟩;rintro env hp ⟨g1,g5,rfl,hI⟩;rw[List.length_zip]at hI ⊢;have hl:iM a b=(decide (a.c=b.c)&&eqL jQ (a.ts.es.drop (min a.ts.es.length b.ts.es.length)) (b.ts.es.drop (min a.ts.es.length b.ts.es.length))):=by rw[iM,hI]
 clear hI;generalize hm:min a.ts.es.length b.ts.es.length=m at hl ⊢;rcases Nat.lt_trichotomy a.ts.es.length b.ts.es.length with h|h|h;have hm':m=a.ts.es.length:=by omega
 subst hm';have f1:decide ((a.ts.es.length:Int)<(b.ts.es.length:Int))=true:=by simp;omega
 have hz:iM a b=false:=by
  rw[hl,List.drop_length];have:(b.ts.es.drop a.ts.es.length)≠[]:=by simp[List.drop_eq_nil_iff];omega
  cases hd:b.ts.es.drop a.ts.es.length with
  |nil=>exact absurd hd this
  |cons y s=>simp[eqL]
 simp only[kC,kD,g1,g5,aY,f1,go_sem,seval];refine lI _ ?_;rw[hz];rfl
 ·have hm':m=a.ts.es.length:=by omega
  subst hm';have f0:decide ((b.ts.es.length:Int)<(a.ts.es.length:Int))=false:=by simp;omega
  have f1:decide ((a.ts.es.length:Int)<(b.ts.es.length:Int))=false:=by simp;omega
  have f2:decide ((a.ts.es.length:Int)=(b.ts.es.length:Int))=true:=by simp;omega
  have hz:iM a b=decide (a.c=b.c):=by rw[hl,List.drop_length,h,List.drop_length];simp[eqL]
  cases c1:decide (a.c<b.c)
  case true=>
   simp only[kC,kD,g1,g5,aY,f0,f1,f2,c1,go_sem,seval];refine lI _ ?_;have:¬a.c=b.c:=by have:=aG c1;omega
   rw[hz,decide_eq_false this];rfl
  case false=>
  cases c2:decide (b.c<a.c)
  case true=>
   simp only[kC,kD,g1,g5,aY,f0,f1,f2,c1,c2,go_sem,seval];refine lI _ ?_;have:¬a.c=b.c:=by have:=aG c2;omega
   rw[hz,decide_eq_false this];rfl
  case false=>
   simp only[kC,kD,g1,g5,aY,f0,f1,f2,c1,c2,go_sem,seval];refine lI _ ?_;have:a.c=b.c:=by have:=aK c2;have:=aK c1;omega
   rw[hz,decide_eq_true this];rfl
 have hm':m=b.ts.es.length:=by omega
 subst hm';have f0:decide ((b.ts.es.length:Int)<(a.ts.es.length:Int))=true:=by simp;omega
 have f1:decide ((a.ts.es.length:Int)<(b.ts.es.length:Int))=false:=by simp;omega
 have f2:decide ((a.ts.es.length:Int)=(b.ts.es.length:Int))=false:=by simp;omega
 have hz:iM a b=false:=by
  rw[hl,List.drop_length];have:(a.ts.es.drop b.ts.es.length)≠[]:=by simp[List.drop_eq_nil_iff];omega
  cases hd:a.ts.es.drop b.ts.es.length with
  |nil=>exact absurd hd this
  |cons y s=>simp[eqL]
 simp only[kC,kD,g1,g5,aY,f0,f1,f2,go_sem,seval];refine lI _ ?_;rw[hz];rfl
 ·rintro d ⟨x,y⟩ r env hp hes ⟨g1,g5,rfl,hI⟩;obtain⟨ga,gb,la,lb⟩:=TD hes;have e1:decide ((d.length:Int)<(a.ts.es.length:Int))=true:=by simp;omega
  have e2:((d.length:Int)<(a.ts.es.length:Int))=True:=eq_true (by omega);have e3:decide ((d.length:Int)<(b.ts.es.length:Int))=true:=by simp;omega
  have e4:((d.length:Int)<(b.ts.es.length:Int))=True:=eq_true (by omega);have ew:wr .i64 ((d.length:Int)+1)=((d++[(x,y)]).length:Int):=by simp only[big]at hab;rw[fX (by omega) (by omega)];simp
  have hst:eqL jQ a.ts.es b.ts.es=(jQ x y&&eqL jQ (a.ts.es.drop (d++[(x,y)]).length) (b.ts.es.drop (d++[(x,y)]).length)):=by rw[hI,mQ la,mQ lb,eqL];rw[bJ la]at ga;rw[bJ lb]at gb;cases ga;cases gb;simp
  have hlin:jQ x y=false->iM a b=false:=by intro h;rw[iM,hst,h];simp
  clear hI;cases c1:Op.bytesLess x.v.bs y.v.bs
  case true=>
   simp only[kC,kD,g1,g5,e1,e2,e3,e4,ga,gb,c1,go_sem,seval];refine bI ?_;refine lI _ ?_;have:¬x.v.bs=y.v.bs:=by intro h;rw[h,nH]at c1;cases c1
   rw[hlin (by simp[jQ,this])];rfl
  case false=>
  cases c2:decide (x.v.bs=y.v.bs)
  case false=>simp only[kC,kD,g1,g5,e1,e2,e3,e4,ga,gb,c1,c2,go_sem,seval];refine bI ?_;refine lI _ ?_;rw[hlin (by simp[jQ,c2])];rfl
  case true=>
  cases c3:decide (x.c<y.c)
  case true=>
   simp only[kC,kD,g1,g5,e1,e2,e3,e4,ga,gb,c1,c2,c3,go_sem,seval];refine bI ?_;refine lI _ ?_;have:¬x.c=y.c:=by have:=aG c3;omega
   rw[hlin (by simp[jQ,this])];rfl
  case false=>
  cases c4:decide (x.c=y.c)
  case false=>simp only[kC,kD,g1,g5,e1,e2,e3,e4,ga,gb,c1,c2,c3,c4,go_sem,seval];refine bI ?_;refine lI _ ?_;rw[hlin (by simp[jQ,c4])];rfl
  case true=>simp only[kC,kD,g1,g5,e1,e2,e3,e4,ga,gb,c1,c2,c3,c4,go_sem,seval];rw[ew];refine⟨by kernel_rfl,rfl,?_⟩;rw[hst];simp[jQ,c2,c4]
theorem c162(hf:pg.fs 162=some B2)(h191:pg.fs 191=some y9)(a b:Lin):Ret pg 162 [a.av,b.av] (.bool (iM a b)):=by obtain⟨r,hr,c,rfl,hc⟩:=c191 h191 a b;rw[Lin.avc,Lin.avc]at hr;refine Ret.ofX hf ?_;unfold B2;refine Wk ?_;refine aC (hr) (Wk ?_);rw[<-hc]
theorem c121(hf:pg.fs 121=some IA)(h162:pg.fs 162=some B2)(h191:pg.fs 191=some y9)(a b:bP):Ret pg 121 [a.av,b.av] (.bool (mG a b)):=by
 refine Ret.ofX hf ?_;unfold IA;have hab:=a.dims.ok;cases b1:decide (a.row.bs=b.row.bs)
 case false=>simp only[b1,go_sem,seval];simp[mG,b1]
 case true=>
 cases b2:decide ((a.dims.es.length:Int)=(b.dims.es.length:Int))
 case false=>simp only[b1,b2,go_sem,seval];simp[mG,b1,tZ b2]
 case true=>
 have hl:a.dims.es.length=b.dims.es.length:=by have:=aG b2;omega
 have hs:mG a b=eqL iM a.dims.es b.dims.es:=by simp[mG,b1]
 rw[hs];simp only[b1,b2,go_sem,seval]
 refine aM a.dims.es (λd r env hp=>hp.get 1=some (0,.blk [.str a.row.bs,.sl a.dims.nl (a.dims.es.map Lin.av) a.dims.cl] 2 true true false)/\hp.get 5=some (0,.blk [.str b.row.bs,.sl b.dims.nl (b.dims.es.map Lin.av) b.dims.cl] 2 true true false) /\
  env=wT (.pt 1 0 0) (.pt 5 0 0) (.int .i64 d.length)/\eqL iM a.dims.es b.dims.es=eqL iM r (b.dims.es.drop d.length)) ?_ ?_ ?_
 exact⟨rfl,rfl,rfl,rfl⟩;rintro env hp ⟨g1,g5,rfl,hI⟩;simp only[wS,wT,g1,aY,go_sem,seval];rw[hI,lP hl];rintro d x r env hp hes ⟨g1,g5,rfl,hI⟩;obtain⟨hget,e1,e2,ew⟩:=cG hes hab;obtain⟨y,gy,f1,f2,hq⟩:=AR (q:=iM) hes hl;rw[hq]at hI;rw[hI];clear hI;have a1:=c162 h162 h191 x y;rw[Lin.avc,Lin.avc]at a1;cases hxy:iM x y;simp only[wS,wT,g1,g5,hget,e1,e2,gy,f1,f2,go_sem,seval];refine aC a1 ?_;simp only[hxy,go_sem,seval];kernel_rfl;simp only[wS,wT,g1,g5,hget,e1,e2,gy,f1,f2,go_sem,seval];refine aC a1 ?_;simp only[hxy,ew,go_sem,seval];exact⟨by kernel_rfl,g1,g5,rfl⟩
end
end
end Go.Tev
