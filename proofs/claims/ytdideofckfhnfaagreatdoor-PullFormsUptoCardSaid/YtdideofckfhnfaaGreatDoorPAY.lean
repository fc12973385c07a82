import Derived.Test.YtdideofckfhnfaaGreatDoorPAX
import Derived.Test.YtdideofckfhnfaaGreatDoorPAT
set_option linter.all false
namespace Go.Tev
section
def gW(acc l:List Int):List Int:=l.foldl (λa x=>dK x a) acc
mutual
def cA:aA->List Int
 |.mk op _ value _ _ _ _ _ _ kids _=>bH (if decide (op.bs=[114,101,97,100]) then dK value [] else []) kids
def bH:List Int->List aA->List Int
 |acc,[]=>acc
 |acc,p::r=>bH (gW acc (cA p)) r
end
theorem oK(p:aA):cA p=bH (if decide (p.op.bs=[114,101,97,100]) then dK p.value [] else []) p.kids:=by cases p;rw[cA];rfl
theorem l6:∀(l acc:List Int),(gW acc l).length<=acc.length+l.length
 |[],acc=>by simp[gW]
 |x::r,acc=>by have h1:=l6 r (dK x acc);have h2:=yI x acc;simp only[gW,List.foldl_cons,List.length_cons]at *;omega
theorem rK(acc d:List Int)(x:Int):gW acc (d++[x])=dK x (gW acc d):=by simp[gW]
theorem uN{a:Int}:∀(l acc:List Int),a∈gW acc l↔a∈acc\/a∈l
 |[],acc=>by simp[gW]
 |x::r,acc=>by have h1:=uN (a:=a) r (dK x acc);simp only[gW,List.foldl_cons]at *;rw[h1,rU,List.mem_cons];constructor;rintro((h|h)|h)<;>simp[h];rintro(h|h|h)<;>simp[h]
theorem kL:∀(d:List aA)(acc:List Int)(x:aA),bH acc (d++[x])=gW (bH acc d) (cA x)
 |[],acc,x=>by simp[bH]
 |y::d,acc,x=>by simp only[List.cons_append,bH];exact kL d _ x
mutual
theorem kM:∀p:aA,(cA p).length<=p.sz
 |.mk op _ value _ _ _ _ _ _ kids _=>by have h:=jW kids (if decide (op.bs=[114,101,97,100]) then dK value [] else []);rw[cA,aA.sz];split at h<;>simp_all [dK]<;>omega
theorem jW:∀(l:List aA)(acc:List Int),(bH acc l).length<=acc.length+aA.szL l
 |[],acc=>by simp[bH]
 |p::r,acc=>by have h1:=kM p;have h2:=jW r (gW acc (cA p));have h3:=l6 (cA p) acc;simp only[bH,aA.szL]at *;omega
end
mutual
theorem rT(a:Int):∀p:aA,a∈cA p↔a∈cO p
 |.mk op _ value _ _ _ _ _ _ kids _=>by have h:=pR a kids (if decide (op.bs=[114,101,97,100]) then dK value [] else []);rw[cA,cO,h,vU];cases decide (op.bs=[114,101,97,100])<;>simp[dK]
theorem pR(a:Int):∀(l:List aA)(acc:List Int),a∈bH acc l↔a∈acc\/a∈fA l
 |[],acc=>by simp[bH,fA]
 |p::r,acc=>by have h1:=rT a p;have h2:=pR a r (gW acc (cA p));rw[bH,h2,uN,h1,fA,vU,or_assoc]
end
section
variable{pg:Pg}
theorem C0(s:Nat)(v:AV)(x:Int):∃B,gJ 0 s [v,.int .i64 x]=B/\65536<=B/\∀k e o l c,v = .rf k e o l c->k≠B+1/\k≠B+5/\k≠B+9:=by refine⟨_,rfl,?_,?_⟩;simp only[gJ];split<;>omega;rintro k e o l c rfl;simp only[gJ,List.any_cons,List.any_nil,Bool.or_false];split;rename_i h;simp only[aD,cL]at h;omega;rename_i h;simp only[aD,cL,not_and]at h;omega
theorem C2{f s:Nat}{h:Hp}{k1:Nat}{v:AV}{l:List Int}{x:Int}{Q:AV->Eff->Prop}{t:Tok Q}(hf:pg.fs f=some qG)(o:Own h k1 1 false v (l.map aI))(hb:l.length<big)
  (q:∀r h' k2,Own h' k2 1 false r ((dK x l).map aI)->(∀k,k<65536->h'.get k=h.get k)->Q r (.whole h')):XO pg 0 (.call f false true) s h [v,.int .i64 x] Q t:=by
 obtain⟨B,hB,hB1,hB2⟩:=C0 s v x;have key:∃k1,Own h k1 1 false v (l.map aI)/\k1≠B+1/\k1≠B+5/\k1≠B+9:=by
  rcases o with ⟨he,nl,cl,rfl,hc⟩|⟨e,cs,rfl,hg,hu⟩
  exact⟨B,.inl ⟨he,nl,cl,rfl,hc⟩,by omega,by omega,by omega⟩;exact⟨k1,.inr ⟨e,cs,rfl,hg,hu⟩,hB2 _ _ _ _ _ rfl⟩
 obtain⟨k1',o',a1,a5,a9⟩:=key;refine pH (.inl rfl) hB (aHK hf o' hb x a1 a5 a9) ?_;rintro r h' ⟨k2,p1,_,p3⟩;exact q r h' k2 p1 (λk hk=>p3 k (by omega) (by omega) (by omega))
theorem c37(hf:pg.fs 37=some I5)(h55:pg.fs 55=some qG):∀p:aA,p.ok->p.sz<=big->dY pg 37 [p.av] (mF 1 false ((cA p).map aI)):=by
 refine aA.ind' λp ih hp hsz=>?_;obtain⟨hb,hk⟩:=(aA.ok_iff p).1 hp;have hz:=aA.sz_eq p;refine dY.ofX hf ?_;unfold I5;refine Wk ?_;cases hr:decide (p.op.bs=[114,101,97,100])
 case true=>
  refine Wk ?_;refine C2 (l:=[]) h55 (Own.nil _ 0 _ _ _ _ rfl) (by decide) ?_;intro v H k1 ho hun;refine Wk ?_;have hres:cA p=bH (dK p.value []) p.kids:=by rw[oK,hr];rfl
  refine bJ p.kids (λd r env hp=>∃v k1,env=pB (.pt 1 0 0) v (.int .i64 d.length)/\Own hp k1 1 false v ((bH (dK p.value []) d).map aI)/\hp.get 1=some (0,.blk (lM p p.kids) 9 true true false)) ?_ ?_ ?_;exact⟨v,k1,rfl,ho,(hun 1 (by decide)).trans (by simp only[go_sem,seval];rfl)⟩;rintro env hp ⟨v,k1,rfl,ho,h1⟩;simp only[lM]at h1;simp only[sU,pB,h1,go_sem,seval];rw[hres];exact ho.conv (El.ints _);rintro d x r env hp hes ⟨v,k1,rfl,ho,h1⟩;have hxm:x∈p.kids:=by rw[hes];simp
  have hxs:x.sz<=big:=by have:=aA.szL_mem hxm;omega
  have hx:=ih x hxm (hk x hxm) hxs;have hx':=hx;rw[aA.avc]at hx';have hl1:=jW d (dK p.value []);have hl2:=kM x;have hst:(dK p.value []:List Int).length<=1:=by simp[dK]
  have hzz:aA.szL p.kids=aA.szL d+(x.sz+aA.szL r):=by rw[hes,aA.szL_append,aA.szL]
  rw[hes]at h1 hb;rw[hes];have h0:=h1;simp only[lM]at h1;have hsno:=kL d (dK p.value []) x;have hw:=bL hb;clear ih hk;simp only[sU,pB,h1,go_sem,seval]
  first|refine tF hx (by simp only[go_sem,seval]) ?_|refine tF hx' (by simp only[go_sem,seval]) ?_
  intro nl1 cl1 _;refine Wk ?_;refine bJ (cA x) (λd2 r2 env hp=>∃v k1,env=pC (.pt 1 0 0) v (.int .i64 d.length) (.sl nl1 ((cA x).map aI) cl1) (.int .i64 d2.length)/\Own hp k1 1 false v ((gW (bH (dK p.value []) d) d2).map aI)/\hp.get 1=some (0,.blk (lM p (d++x::r)) 9 true true false)) ?_ ?_ ?_;exact⟨v,k1,rfl,ho.mono (by simp only[go_sem,seval]),by simp only[go_sem,seval];exact h0⟩;clear ho h1 h0 hp;rintro env hp ⟨v,k1,rfl,ho,h0⟩;simp only[sV,pC,hw,go_sem,seval];rw[hsno];exact⟨v,k1,rfl,ho,h0⟩;clear ho h1 h0 hp;rintro d2 y r2 env hp hes2 ⟨v,k1,rfl,ho,h0⟩;have hd2:d2.length<(cA x).length:=by rw[hes2];simp
  have hget:(cA x)[d2.length]?=some y:=by rw[hes2];simp
  have hpl:=l6 d2 (bH (dK p.value []) d);have hbb:(gW (bH (dK p.value []) d) d2).length<big:=by omega
  have f1:decide ((d2.length:Int)<((cA x).length:Int))=true:=by simp;omega
  have f2:((d2.length:Int)<((cA x).length:Int))=True:=eq_true (by omega);have hw2:wr .i64 ((d2.length:Int)+1)=((d2++[y]).length:Int):=bL (r:=r2) (by rw[<-hes2];omega);have hsn2:=rK (bH (dK p.value []) d) d2 y;simp only[sV,pC,f1,f2,hget,go_sem,seval];refine C2 h55 ho hbb ?_;intro r' h' k2 ho' hun;simp only[hw2,go_sem,seval];rw[hsn2];exact⟨r',k2,rfl,ho',(hun 1 (by decide)).trans h0⟩
 case false=>
  refine Wk ?_;have hres:cA p=bH ([]) p.kids:=by rw[oK,hr];rfl
  refine bJ p.kids (λd r env hp=>∃v k1,env=pB (.pt 1 0 0) v (.int .i64 d.length)/\Own hp k1 1 false v ((bH ([]) d).map aI)/\hp.get 1=some (0,.blk (lM p p.kids) 9 true true false)) ?_ ?_ ?_;exact⟨_,0,rfl,Own.nil _ _ _ _ _ _ rfl,by simp only[go_sem,seval];rfl⟩;rintro env hp ⟨v,k1,rfl,ho,h1⟩;simp only[lM]at h1;simp only[sU,pB,h1,go_sem,seval];rw[hres];exact ho.conv (El.ints _);rintro d x r env hp hes ⟨v,k1,rfl,ho,h1⟩;have hxm:x∈p.kids:=by rw[hes];simp
  have hxs:x.sz<=big:=by have:=aA.szL_mem hxm;omega
  have hx:=ih x hxm (hk x hxm) hxs;have hx':=hx;rw[aA.avc]at hx';have hl1:=jW d ([]);have hl2:=kM x;have hst:([]:List Int).length<=1:=by simp[dK]
  have hzz:aA.szL p.kids=aA.szL d+(x.sz+aA.szL r):=by rw[hes,aA.szL_append,aA.szL]
  rw[hes]at h1 hb;rw[hes];have h0:=h1;simp only[lM]at h1;have hsno:=kL d ([]) x;have hw:=bL hb;clear ih hk;simp only[sU,pB,h1,go_sem,seval]
  first|refine tF hx (by simp only[go_sem,seval]) ?_|refine tF hx' (by simp only[go_sem,seval]) ?_
  intro nl1 cl1 _;refine Wk ?_;refine bJ (cA x) (λd2 r2 env hp=>∃v k1,env=pC (.pt 1 0 0) v (.int .i64 d.length) (.sl nl1 ((cA x).map aI) cl1) (.int .i64 d2.length)/\Own hp k1 1 false v ((gW (bH ([]) d) d2).map aI)/\hp.get 1=some (0,.blk (lM p (d++x::r)) 9 true true false)) ?_ ?_ ?_;exact⟨v,k1,rfl,ho.mono (by simp only[go_sem,seval]),by simp only[go_sem,seval];exact h0⟩;clear ho h1 h0 hp;rintro env hp ⟨v,k1,rfl,ho,h0⟩;simp only[sV,pC,hw,go_sem,seval];rw[hsno];exact⟨v,k1,rfl,ho,h0⟩;clear ho h1 h0 hp;rintro d2 y r2 env hp hes2 ⟨v,k1,rfl,ho,h0⟩;have hd2:d2.length<(cA x).length:=by rw[hes2];simp
  have hget:(cA x)[d2.length]?=some y:=by rw[hes2];simp
  have hpl:=l6 d2 (bH ([]) d);have hbb:(gW (bH ([]) d) d2).length<big:=by omega
  have f1:decide ((d2.length:Int)<((cA x).length:Int))=true:=by simp;omega
  have f2:((d2.length:Int)<((cA x).length:Int))=True:=eq_true (by omega);have hw2:wr .i64 ((d2.length:Int)+1)=((d2++[y]).length:Int):=bL (r:=r2) (by rw[<-hes2];omega);have hsn2:=rK (bH ([]) d) d2 y;simp only[sV,pC,f1,f2,hget,go_sem,seval];refine C2 h55 ho hbb ?_;intro r' h' k2 ho' hun;simp only[hw2,go_sem,seval];rw[hsn2];exact⟨r',k2,rfl,ho',(hun 1 (by decide)).trans h0⟩
end
end
section
section
variable{pg:Pg}
theorem c114(hf:pg.fs 114=some vL)(c:UInt8):Ret pg 114 [.int .u8 (c.toNat:Int)] (.bool (bQ c)):=by
 refine Ret.ofX hf ?_;unfold vL;cases b1:decide (48<=(c.toNat:Int));simp only[b1,go_sem,seval];have:¬ 48<=c.toNat:=by have:=cH b1;omega
 simp[bQ,this];simp only[b1,go_sem,seval];have:48<=c.toNat:=by have:=aQ b1;omega
 simp only[bQ,this,decide_true,Bool.true_and];rw[cC];omega
theorem c115(hf:pg.fs 115=some vK)(c:UInt8):Ret pg 115 [.int .u8 (c.toNat:Int)] (.bool (cT c)):=by
 refine Ret.ofX hf ?_;unfold vK;cases b1:decide (97<=(c.toNat:Int));simp only[b1,go_sem,seval];have:¬ 97<=c.toNat:=by have:=cH b1;omega
 simp[cT,this];simp only[b1,go_sem,seval];have:97<=c.toNat:=by have:=aQ b1;omega
 simp only[cT,this,decide_true,Bool.true_and];rw[cC];omega
theorem c90(hf:pg.fs 90=some FK)(n:Int):Ret pg 90 [.int .i64 n] (.bool (iR n)):=by refine Ret.ofX hf ?_;unfold FK;cases b1:decide (-1000000<=n);simp only[b1,go_sem,seval];simp[iR,b1];simp only[b1,go_sem,seval];simp[iR,b1]
theorem c77(hf:pg.fs 77=some I0)(h114:pg.fs 114=some vL)(h115:pg.fs 115=some vK)(s:List UInt8)(hb:s.length<=big):Ret pg 77 [.str s] (.bool (fV s)):=by
 refine Ret.ofX hf ?_;unfold I0;cases b0:decide ((s.length:Int)=0)
 case true=>have:s=[]:=eG (by have:=aQ b0;omega);simp only[b0,go_sem,seval];subst this;rfl
 case false=>
 obtain⟨c,t,hs⟩:∃c t,s=c::t:=by
  cases s with
  |nil=>simp at b0
  |cons c t=>exact⟨c,t,rfl⟩
 have hg0:s[0]?=some c:=by rw[hs];rfl
 have hlt:s.length=t.length+1:=by rw[hs];rfl
 have hnu:fV s=(decide (s.length<=30)&&(if c=95 then decide (2<=s.length)&&decide (s.length<=10) && !decide (t.head?=some 48)&&t.all bQ else cT c&&t.all (λx=>cT x||bQ x))):=by rw[hs];rfl
 cases b1:decide (30<(s.length:Int))
 case true=>
  simp only[b0,b1,go_sem,seval];have:¬s.length<=30:=by have:=aQ b1;omega
  simp[hnu,this]
 case false=>
 have h30:s.length<=30:=by have:=cH b1;omega
 have hd30:decide (s.length<=30)=true:=decide_eq_true h30;rw[hnu,hd30,Bool.true_and];clear hnu;simp only[b0,b1,hg0,go_sem,seval];have hi0:∀(d:List UInt8)(x:UInt8)(r:List UInt8),s=d++x::r->s[d.length]?=some x/\decide ((d.length:Int)<(s.length:Int))=true/\wr .i64 ((d.length:Int)+1)=((d++[x]).length:Int):=by intro d x r he;refine⟨by rw[he];simp,by rw[he];simp;omega,?_⟩;exact bL (r:=r) (by rw[<-he];exact hb)
 cases b2:decide ((c.toNat:Int)=95)
 case true=>
  have hc:c=95:=by have h:=aQ b2;exact UInt8.toNat_inj.1 (by simpa using (show c.toNat=95 by omega))
  rw[if_pos hc];cases b3:decide ((s.length:Int)<2)
  case true=>
   have:¬ 2<=s.length:=by have:=aQ b3;omega
   simp only[b3,go_sem,seval];simp[this]
  case false=>
  have h2:2<=s.length:=by have:=cH b3;omega
  cases b4:decide (10<(s.length:Int))
  case true=>
   have:¬s.length<=10:=by have:=aQ b4;omega
   simp only[b3,b4,go_sem,seval];simp[this]
  case false=>
  have h10:s.length<=10:=by have:=cH b4;omega
  obtain⟨d,u,ht⟩:∃d u,t=d::u:=by
   cases t with
   |nil=>simp at hlt;omega
   |cons d u=>exact⟨d,u,rfl⟩
  have hg1:s[1]?=some d:=by rw[hs,ht];rfl
  have hhd:t.head?=some d:=by rw[ht];rfl
  cases b5:decide ((d.toNat:Int)=48)
  case true=>
   have hd:d=48:=by have h:=aQ b5;exact UInt8.toNat_inj.1 (by simpa using (show d.toNat=48 by omega))
   simp only[b3,b4,hg1,b5,go_sem,seval];simp[hhd,hd]
  case false=>
  have hd:¬d=48:=by intro h;subst h;exact absurd rfl (cH b5)
  have hres:(decide (2<=s.length)&&decide (s.length<=10) && !decide (t.head?=some 48)&&t.all bQ)=t.all bQ:=by simp[h2,h10,hhd,hd]
  rw[hres];simp only[b3,b4,hg1,b5,go_sem,seval];refine bJ t (λe r env hp=>env=B4 (.str s) (.int .i64 ((e.length+1:Nat):Int))/\t.all bQ=r.all bQ) ?_ ?_ ?_;exact⟨rfl,rfl⟩;rintro env hp ⟨rfl,hI⟩;have hex:decide (((t.length+1:Nat):Int)<(s.length:Int))=false:=by simp;omega
  simp only[B2,B4,hex,go_sem,seval];rw[hI];rfl;rintro e x r env hp he ⟨rfl,hI⟩;have hse:s=(c::e)++x::r:=by rw[hs,he];rfl
  obtain⟨k1,k2,k3⟩:=hi0 _ _ _ hse;have k0:(c::e).length=e.length+1:=rfl;have k4:((c::e)++[x]).length=(e++[x]).length+1:=by simp
  rw[k0]at k1 k2 k3;rw[k4]at k3;simp only[B2,B4,k1,k2,go_sem,seval];refine bI (c114 h114 x) rfl rfl ?_;cases hx:bQ x;simp only[hx,go_sem,seval];rw[hI];simp[hx];simp only[hx,k3,go_sem,seval];refine⟨rfl,?_⟩;rw[hI];simp[hx]
 case false=>
  have hc:¬c=95:=by intro h;subst h;exact absurd rfl (cH b2)
  rw[if_neg hc];simp only[b2,go_sem,seval];refine bJ s (λe r env hp=>env=B3 (.str s) (.int .i64 e.length)/\(e=[]\/(cT c&&t.all (λx=>cT x||bQ x))=r.all (λx=>cT x||bQ x))) ?_ ?_ ?_;exact⟨rfl,.inl rfl⟩;rintro env hp ⟨rfl,hI⟩;have hex:decide ((s.length:Int)<(s.length:Int))=false:=by simp
  simp only[B1,B3,hex,go_sem,seval];rcases hI with h|h;exact absurd h (by rw[hs];simp);rw[h];rfl
  ·rintro e x r env hp he ⟨rfl,hI⟩;obtain⟨k1,k2,k3⟩:=hi0 _ _ _ he
   have hI2:(cT c&&t.all (λx=>cT x||bQ x))=((if e=[] then cT x else (cT x||bQ x))&&r.all (λx=>cT x||bQ x)):=by
    rcases hI with h|h;subst h;rw[hs]at he;simp only[List.nil_append,List.cons.injEq]at he;obtain⟨rfl,rfl⟩:=he;simp;by_cases h0:e=[]
    subst h0;rw[hs]at he;simp only[List.nil_append,List.cons.injEq]at he;obtain⟨rfl,rfl⟩:=he;simp;rw[h,if_neg h0];simp
   rw[hI2];clear hI hI2;simp only[B1,B3,k1,k2,go_sem,seval];refine bI (c115 h115 x) rfl rfl ?_;cases hx:cT x
   case true=>simp only[hx,k3,go_sem,seval];refine⟨rfl,.inr ?_⟩;split<;>simp
   case false=>
   by_cases h0:e=[]
   have h1:decide ((e.length:Int)=0)=true:=by simp[h0]
   simp only[hx,h1,go_sem,seval];simp[h0];have h1:decide ((e.length:Int)=0)=false:=by simp[h0]
   simp only[hx,h1,k1,go_sem,seval];refine bI (c114 h114 x) rfl rfl ?_;cases hy:bQ x;simp only[hx,hy,go_sem,seval];simp[h0];simp only[hx,hy,k3,go_sem,seval];refine⟨rfl,.inr ?_⟩;simp[h0]
theorem c54(hf:pg.fs 54=some I2)(h77:∀s:Str,Ret pg 77 [.str s.bs] (.bool (fV s.bs)))(h90:pg.fs 90=some FK)(l:Lin):Ret pg 54 [l.av] (.bool (iX l)):=by
 refine Ret.ofX hf ?_;unfold I2;refine Wk ?_;refine aC (c90 h90 _) (Wk ?_);cases h9:iR l.c
 case false=>refine Wk ?_;simp[iX,h9]
 cases h12:decide (12<(l.ts.es.length:Int))
 case true=>
  simp only[h12,go_sem,seval];have:¬(l.ts.es.length:Int)<=12:=by have:=aQ h12;omega
  simp[iX,this]
 simp only[h12,go_sem,seval];have hlin:iX l=jU [] l.ts.es:=by
  have:(l.ts.es.length:Int)<=12:=by have:=cH h12;omega
  simp[iX,h9,this]
 refine bJ l.ts.es (λd r env hp=>hp.get 1=some (0,.blk [.int .i64 l.c,.sl l.ts.nl (l.ts.es.map aZ.av) l.ts.cl] 2 true true false) /\
  env=CC (.pt 1 0 0) (.int .i64 d.length)/\iX l=jU d r) ?_ ?_ ?_
 exact⟨rfl,rfl,hlin⟩;rintro env hp ⟨h1,rfl,hq⟩;simp only[CB,CC,h1,go_sem,seval];rw[hq];rfl;rintro d x r env hp hes ⟨h1,rfl,hq⟩;have hb:=l.ts.ok;have hget:l.ts.es[d.length]?=some x:=by rw[hes];simp
 have e1:decide ((d.length:Int)<(l.ts.es.length:Int))=true:=by rw[hes];simp;omega
 have e2:((d.length:Int)<(l.ts.es.length:Int))=True:=eq_true (by rw[hes];simp;omega);have hsb:(d++x::r).length<=big:=by rw[<-hes];exact hb
 simp only[jU]at hq;simp only[CB,CC,h1,hget,e1,e2,go_sem,seval];refine aC (h77 x.v) (Wk ?_);cases hn:fV x.v.bs
 case false=>refine Wk ?_;refine bP ?_;simp[hq,hn]
 cases hc:decide (x.c=0)
 case true=>simp only[hc,go_sem,seval];refine bP ?_;simp[hq,hc]
 simp only[hc,go_sem,seval];refine aC (c90 h90 x.c) (Wk ?_);cases hx9:iR x.c
 case false=>refine Wk ?_;refine bP ?_;simp[hq,hx9]
 rcases vV d with hd|⟨d',q,hd⟩
 have e3:decide (0<(d.length:Int))=false:=by simp[hd]
 simp only[hx9,e3,bL hsb,go_sem,seval];refine And.intro (by kernel_rfl) ⟨h1,rfl,?_⟩;subst hd;simp[hq,hx9,hc,hn];have hd':d=d'++[q]:=by simpa using hd
 have e3:decide (0<(d.length:Int))=true:=by simp[hd']
 have e4:wr .i64 ((d.length:Int)-1)=(d'.length:Int):=by rw[c7 (by simp only[hd',d6,List.length_singleton];omega) (by simp only[big,d6]at hsb;omega),hd',d6,List.length_singleton];omega
 have e5:l.ts.es[d'.length]?=some q:=by rw[hes,hd'];simp
 have e6:((d'.length:Int)<(l.ts.es.length:Int))=True:=eq_true (by rw[hes,hd'];simp;omega);cases hl:Op.bytesLess q.v.bs x.v.bs;simp only[hx9,e3,e4,e5,e6,h1,hl,go_sem,seval];refine bP ?_;simp[hq,hd',hl];simp only[hx9,e3,e4,e5,e6,h1,hl,bL hsb,go_sem,seval];refine And.intro (by kernel_rfl) ⟨rfl,?_⟩;simp[hq,hx9,hc,hn,hd',hl]
end
end
section
section
variable{pg:Pg}
theorem yJ(l:Lin)(r:List Lin)(vars:List Str):dQ (l::r) vars=(iX l&&(l.ts.es.all (λx=>kB vars x.v.bs)&&dQ r vars)):=by simp[dQ,Bool.and_assoc]
end
end
section
section
variable{pg:Pg}
theorem c15(hf:pg.fs 15=some xG)(nl cl:Bool)(a:List Int)(hb:a.length<=big)(nl' cl':Bool)(b:List Int)(h:a=b):Ret pg 15 [.sl nl (a.map aI) cl,.sl nl' (b.map aI) cl'] (.bool true):=by
 subst h;refine Ret.ofX hf ?_;unfold xG;have e0:decide ((a.length:Int)=(a.length:Int))=true:=by simp
 simp only[e0,go_sem,seval];refine bJ a (λd r env hp=>env=nB (.sl nl (a.map aI) cl) (.sl nl' (a.map aI) cl') (.int .i64 d.length)) ?_ ?_ ?_;rfl;rintro env hp rfl;have f1:decide ((a.length:Int)<(a.length:Int))=false:=by simp
 simp only[pD,nB,f1,go_sem,seval];rintro d x r env hp hes rfl;have hsb:(d++x::r).length<=big:=by rw[<-hes];exact hb
 have hget:a[d.length]?=some x:=by rw[hes];simp
 have e1:decide ((d.length:Int)<(a.length:Int))=true:=by rw[hes];simp;omega
 have e2:((d.length:Int)<(a.length:Int))=True:=eq_true (by rw[hes];simp;omega);have e3:decide (x=x)=true:=by simp
 simp only[pD,nB,e1,e2,e3,hget,bL hsb,go_sem,seval];exact⟨by kernel_rfl,rfl⟩
end
end
section
theorem eQ{α : Type}{q : α -> α -> Bool}(h:∀x,q x x=true):∀l:List α,eqL q l l=true
 |[]=>by simp[eqL]
 |x::r=>by simp[eqL,h x,eQ h r]
theorem u7{α : Type}{q : α -> α -> Bool}:∀l:List α,(∀x∈l,q x x=true)->eqL q l l=true
 |[],_=>by simp[eqL]
 |x::r,h=>by simp[eqL,h x (by simp),u7 r (λy hy=>h y (by simp[hy]))]
theorem zF(x:aZ):eU x x=true:=by simp[eU]
theorem jM(x:Lin):cS x x=true:=by simp[cS,eQ zF]
theorem lH(x:aE):dJ x x=true:=by simp[dJ,eQ]
theorem pP:∀p:aA,d8 p p=true:=
 aA.ind' λp ih=>by rw[l7,jG,u7 p.kids ih,eQ jM,eQ lH];simp
theorem mC{α β : Type}{q : α -> β -> Bool}(l:List α):eqL q l []=decide ((l.length:Int)=0):=by
 cases l with
 |nil=>simp[eqL]
 |cons x r=>simp[eqL];omega
def fB(α : Type):Sl α:=⟨true,[],true,by simp[big]⟩
end
section
theorem mJ{α : Type}{es d r:List α}{x : α}(hes:es=d++x::r)(hb:es.length<=big) :
  es[d.length]?=some x/\decide ((d.length:Int)<(es.length:Int))=true/\((d.length:Int)<(es.length:Int))=True/\wr .i64 ((d.length:Int)+1)=((d++[x]).length:Int):=by
 have h:d.length<es.length:=by rw[hes];simp
 refine⟨by rw[hes];simp,by simp;omega,eq_true (by omega),bL (r:=r) (by rw[<-hes];exact hb)⟩
theorem fR(n:Nat):decide ((n:Int)<(n:Int))=false:=by simp
theorem DJ{α β : Type}{q : α -> β -> Bool}{es d r:List α}{x : α}{es':List β}(hes:es=d++x::r)(hl:es.length=es'.length) :
  ∃y,es'[d.length]?=some y/\decide ((d.length:Int)<(es'.length:Int))=true/\((d.length:Int)<(es'.length:Int))=True/\eqL q (x::r) (es'.drop d.length)=(q x y&&eqL q r (es'.drop (d++[x]).length)):=by
 have h:d.length<es'.length:=by rw[<-hl,hes];simp
 refine⟨es'[d.length],cD h,by simp;omega,eq_true (by omega),?_⟩;rw[qT h,eqL];simp
theorem l9{α β : Type}{q : α -> β -> Bool}{es:List α}{es':List β}(hl:es.length=es'.length):eqL q [] (es'.drop es.length)=true:=by rw[hl,List.drop_length];simp[eqL]
theorem wU{α β : Type}{q : α -> β -> Bool}{a:List α}{b:List β}(h:decide ((a.length:Int)=(b.length:Int))=false):eqL q a b=false:=by cases he:eqL q a b;rfl;have:=qL he;simp[this]at h
theorem kF:∀s:List UInt8,Op.bytesLess s s=false
 |[]=>rfl
 |c::r=>by simp only[Op.bytesLess,kF r,Bool.and_false,Bool.or_false,oF];exact UInt8.lt_irrefl c
section
variable{pg:Pg}
theorem c194(hf:pg.fs 194=some sX)(nl cl:Bool)(vars:List Str)(hb:vars.length<=big)(s:List UInt8):Ret pg 194 [.sl nl (vars.map Str.av) cl,.str s] (.bool (kB vars s)):=by
 refine Ret.ofX hf ?_;unfold sX;refine Wk ?_;refine bJ vars (λd r env hp=>env=qN (.sl nl (vars.map Str.av) cl) (.str s) (.int .i64 d.length)/\kB vars s=kB r s) ?_ ?_ ?_;exact⟨rfl,rfl⟩;rintro env hp ⟨rfl,hI⟩;simp only[qM,qN,fR,go_sem,seval];rw[hI];rfl;rintro d x r env hp hes ⟨rfl,hI⟩;obtain⟨hget,e1,e2,ew⟩:=mJ hes hb;have hsym:decide (x.bs=s)=decide (s=x.bs):=by rw[cC];exact eq_comm
 cases hx:decide (s=x.bs);simp only[qM,qN,e1,e2,hget,hsym,hx,ew,go_sem,seval];refine⟨rfl,?_⟩;rw[hI];simp[kB,hx];simp only[qM,qN,e1,e2,hget,hsym,hx,go_sem,seval];rw[hI];simp[kB,hx]
theorem c193(hf:pg.fs 193=some zJ)(h54:∀l:Lin,Ret pg 54 [l.av] (.bool (iX l)))(h194:pg.fs 194=some sX)(nl cl:Bool)(ls:List Lin)(hb:ls.length<=big)(nl' cl':Bool)(vars:List Str)(hb':vars.length<=big) :
  Ret pg 193 [.sl nl (ls.map Lin.av) cl,.sl nl' (vars.map Str.av) cl'] (.bool (dQ ls vars)):=by
 refine Ret.ofX hf ?_;unfold zJ;refine Wk ?_;refine bJ ls (λd r env hp=>env=w9 (.sl nl (ls.map Lin.av) cl) (.sl nl' (vars.map Str.av) cl') (.int .i64 d.length)/\dQ ls vars=dQ r vars) ?_ ?_ ?_;exact⟨rfl,rfl⟩;rintro env hp ⟨rfl,hI⟩;simp only[w7,w9,fR,go_sem,seval];rw[hI];rfl;rintro d l r env hp hes ⟨rfl,hI⟩;rw[yJ]at hI;obtain⟨hget,e1,e2,ew⟩:=mJ hes hb;rw[hI];clear hI;simp only[w7,w9,hget,e1,e2,go_sem,seval];refine aC (h54 l) (Wk ?_);cases hl:iX l
 case false=>simp only[go_sem,seval]
 refine Wk ?_;have hlb:=l.ts.ok;refine bJ l.ts.es (λd2 r2 env hp=>env=xB (.sl nl (ls.map Lin.av) cl) (.sl nl' (vars.map Str.av) cl') (.int .i64 d.length) (.int .i64 d2.length)/\l.ts.es.all (λx=>kB vars x.v.bs)=r2.all (λx=>kB vars x.v.bs)) ?_ ?_ ?_;exact⟨rfl,rfl⟩;rintro env hp ⟨rfl,hI⟩;simp only[w8,xB,hget,e2,fR,ew,go_sem,seval];refine⟨rfl,?_⟩;rw[hI];simp;rintro d2 x r2 env hp he2 ⟨rfl,hI⟩;obtain⟨hget2,g1,g2,gw⟩:=mJ he2 hlb;rw[hI];clear hI;simp only[w8,xB,hget,e2,g1,g2,hget2,go_sem,seval];refine aC (c194 h194 nl' cl' vars hb' x.v.bs) (Wk ?_);cases hv:kB vars x.v.bs;simp only[hv,go_sem,seval];simp only[hv,gw,go_sem,seval];rfl
theorem V4(hf:pg.fs 124=some mM)(n:Int):Ret pg 124 [.str [105,110,116],.int .i64 n] (.bool (iI n)):=by
 refine Ret.ofX hf ?_;unfold mM
 repeat' (first|simp only[*,go_sem,seval]|refine bC (λ_=>?_) (λ_=>?_)|refine bD (λ_=>?_) (λ_=>?_)|refine bP ?_)
 all_goals (simp_all [iI])
 all_goals omega
theorem aBs(hf:pg.fs 124=some mM)(n:Int):Ret pg 124 [.str [98,111,111,108],.int .i64 n] (.bool (kR n)):=by
 refine Ret.ofX hf ?_;unfold mM
 repeat' (first|simp only[*,go_sem,seval]|refine bC (λ_=>?_) (λ_=>?_)|refine bD (λ_=>?_) (λ_=>?_)|refine bP ?_)
 all_goals (simp_all [kR])
def aBg(a b:Lin)(r:AV):Prop:=∃c:Int,r = .int .i64 c/\decide (c=0)=cS a b
theorem i6{a b:Lin}(c:Int)(h:decide (c=0)=cS a b):aBg a b (.int .i64 c):=⟨c,rfl,h⟩
theorem J3{α β : Type}{a:List α}{b:List β}{d r:List (α×β)}{p : α×β}(h:a.zip b=d++p::r) :
  a[d.length]?=some p.1/\b[d.length]?=some p.2/\d.length<a.length/\d.length<b.length:=by
 have h1:(a.zip b)[d.length]?=some p:=by rw[h];simp
 rw[List.getElem?_zip_eq_some]at h1;obtain⟨h2,h3⟩:=h1;exact⟨h2,h3,(bK.1 h2).1,(bK.1 h3).1⟩
theorem c191(hf:pg.fs 191=some sY)(a b:Lin):dY pg 191 [a.av,b.av] (aBg a b):=by
 refine dY.ofX hf ?_;unfold sY;refine Wk ?_;have hab:=a.ts.ok;have hbb:=b.ts.ok
 refine bJ (a.ts.es.zip b.ts.es) (λd r env hp=>hp.get 1=some (0,.blk [.int .i64 a.c,.sl a.ts.nl (a.ts.es.map aZ.av) a.ts.cl] 2 true true false)/\hp.get 5=some (0,.blk [.int .i64 b.c,.sl b.ts.nl (b.ts.es.map aZ.av) b.ts.cl] 2 true true false) /\
  env=hY (.pt 1 0 0) (.pt 5 0 0) (.int .i64 d.length)/\eqL eU a.ts.es b.ts.es=eqL eU (a.ts.es.drop d.length) (b.ts.es.drop d.length)) ?_ ?_ ?_
 exact⟨rfl,rfl,rfl,rfl⟩;rintro env hp ⟨g1,g5,rfl,hI⟩;rw[List.length_zip]at hI ⊢;have hl:cS a b=(decide (a.c=b.c)&&eqL eU (a.ts.es.drop (min a.ts.es.length b.ts.es.length)) (b.ts.es.drop (min a.ts.es.length b.ts.es.length))):=by rw[cS,hI]
 clear hI;generalize hm:min a.ts.es.length b.ts.es.length=m at hl ⊢;rcases Nat.lt_trichotomy a.ts.es.length b.ts.es.length with h|h|h;have hm':m=a.ts.es.length:=by omega
 subst hm';have f1:decide ((a.ts.es.length:Int)<(b.ts.es.length:Int))=true:=by simp;omega
 have hz:cS a b=false:=by
  rw[hl,List.drop_length];have:(b.ts.es.drop a.ts.es.length)≠[]:=by simp[List.drop_eq_nil_iff];omega
  cases hd:b.ts.es.drop a.ts.es.length with
  |nil=>exact absurd hd this
  |cons y s=>simp[eqL]
 simp only[hX,hY,g1,g5,fR,f1,go_sem,seval];refine i6 _ ?_;rw[hz];rfl
 ·have hm':m=a.ts.es.length:=by omega
  subst hm';have f0:decide ((b.ts.es.length:Int)<(a.ts.es.length:Int))=false:=by simp;omega
  have f1:decide ((a.ts.es.length:Int)<(b.ts.es.length:Int))=false:=by simp;omega
  have f2:decide ((a.ts.es.length:Int)=(b.ts.es.length:Int))=true:=by simp;omega
  have hz:cS a b=decide (a.c=b.c):=by rw[hl,List.drop_length,h,List.drop_length];simp[eqL]
  cases c1:decide (a.c<b.c)
  case true=>
   simp only[hX,hY,g1,g5,fR,f0,f1,f2,c1,go_sem,seval];refine i6 _ ?_;have:¬a.c=b.c:=by have:=aQ c1;omega
   rw[hz,decide_eq_false this];rfl
  case false=>
  cases c2:decide (b.c<a.c)
  case true=>
   simp only[hX,hY,g1,g5,fR,f0,f1,f2,c1,c2,go_sem,seval];refine i6 _ ?_;have:¬a.c=b.c:=by have:=aQ c2;omega
   rw[hz,decide_eq_false this];rfl
  case false=>
   simp only[hX,hY,g1,g5,fR,f0,f1,f2,c1,c2,go_sem,seval];refine i6 _ ?_;have:a.c=b.c:=by have:=cH c2;have:=cH c1;omega
   rw[hz,decide_eq_true this];rfl
 have hm':m=b.ts.es.length:=by omega
 subst hm';have f0:decide ((b.ts.es.length:Int)<(a.ts.es.length:Int))=true:=by simp;omega
 have f1:decide ((a.ts.es.length:Int)<(b.ts.es.length:Int))=false:=by simp;omega
 have f2:decide ((a.ts.es.length:Int)=(b.ts.es.length:Int))=false:=by simp;omega
 have hz:cS a b=false:=by
  rw[hl,List.drop_length];have:(a.ts.es.drop b.ts.es.length)≠[]:=by simp[List.drop_eq_nil_iff];omega
  cases hd:a.ts.es.drop b.ts.es.length with
  |nil=>exact absurd hd this
  |cons y s=>simp[eqL]
 simp only[hX,hY,g1,g5,fR,f0,f1,f2,go_sem,seval];refine i6 _ ?_;rw[hz];rfl
 ·rintro d ⟨x,y⟩ r env hp hes ⟨g1,g5,rfl,hI⟩;obtain⟨ga,gb,la,lb⟩:=J3 hes;have e1:decide ((d.length:Int)<(a.ts.es.length:Int))=true:=by simp;omega
  have e2:((d.length:Int)<(a.ts.es.length:Int))=True:=eq_true (by omega);have e3:decide ((d.length:Int)<(b.ts.es.length:Int))=true:=by simp;omega
  have e4:((d.length:Int)<(b.ts.es.length:Int))=True:=eq_true (by omega);have ew:wr .i64 ((d.length:Int)+1)=((d++[(x,y)]).length:Int):=by simp only[big]at hab;rw[c7 (by omega) (by omega)];simp
  have hst:eqL eU a.ts.es b.ts.es=(eU x y&&eqL eU (a.ts.es.drop (d++[(x,y)]).length) (b.ts.es.drop (d++[(x,y)]).length)):=by rw[hI,qT la,qT lb,eqL];rw[cD la]at ga;rw[cD lb]at gb;cases ga;cases gb;simp
  have hlin:eU x y=false->cS a b=false:=by intro h;rw[cS,hst,h];simp
  clear hI;cases c1:Op.bytesLess x.v.bs y.v.bs
  case true=>
   simp only[hX,hY,g1,g5,e1,e2,e3,e4,ga,gb,c1,go_sem,seval];refine bP ?_;refine i6 _ ?_;have:¬x.v.bs=y.v.bs:=by intro h;rw[h,kF]at c1;cases c1
   rw[hlin (by simp[eU,this])];rfl
  case false=>
  cases c2:decide (x.v.bs=y.v.bs)
  case false=>simp only[hX,hY,g1,g5,e1,e2,e3,e4,ga,gb,c1,c2,go_sem,seval];refine bP ?_;refine i6 _ ?_;rw[hlin (by simp[eU,c2])];rfl
  case true=>
  cases c3:decide (x.c<y.c)
  case true=>
   simp only[hX,hY,g1,g5,e1,e2,e3,e4,ga,gb,c1,c2,c3,go_sem,seval];refine bP ?_;refine i6 _ ?_;have:¬x.c=y.c:=by have:=aQ c3;omega
   rw[hlin (by simp[eU,this])];rfl
  case false=>
  cases c4:decide (x.c=y.c)
  case false=>simp only[hX,hY,g1,g5,e1,e2,e3,e4,ga,gb,c1,c2,c3,c4,go_sem,seval];refine bP ?_;refine i6 _ ?_;rw[hlin (by simp[eU,c4])];rfl
  case true=>simp only[hX,hY,g1,g5,e1,e2,e3,e4,ga,gb,c1,c2,c3,c4,go_sem,seval];rw[ew];refine⟨by kernel_rfl,rfl,?_⟩;rw[hst];simp[eU,c2,c4]
theorem c162(hf:pg.fs 162=some vG)(h191:pg.fs 191=some sY)(a b:Lin):Ret pg 162 [a.av,b.av] (.bool (cS a b)):=by obtain⟨r,hr,c,rfl,hc⟩:=c191 h191 a b;rw[Lin.avc,Lin.avc]at hr;refine Ret.ofX hf ?_;unfold vG;refine Wk ?_;refine aC (hr) (Wk ?_);rw[<-hc]
theorem c121(hf:pg.fs 121=some zW)(h162:pg.fs 162=some vG)(h191:pg.fs 191=some sY)(a b:bF):Ret pg 121 [a.av,b.av] (.bool (jV a b)):=by
 refine Ret.ofX hf ?_;unfold zW;have hab:=a.dims.ok;cases b1:decide (a.row.bs=b.row.bs)
 case false=>simp only[b1,go_sem,seval];simp[jV,b1]
 case true=>
 cases b2:decide ((a.dims.es.length:Int)=(b.dims.es.length:Int))
 case false=>simp only[b1,b2,go_sem,seval];simp[jV,b1,wU b2]
 case true=>
 have hl:a.dims.es.length=b.dims.es.length:=by have:=aQ b2;omega
 have hs:jV a b=eqL cS a.dims.es b.dims.es:=by simp[jV,b1]
 rw[hs];simp only[b1,b2,go_sem,seval]
 refine bJ a.dims.es (λd r env hp=>hp.get 1=some (0,.blk [.str a.row.bs,.sl a.dims.nl (a.dims.es.map Lin.av) a.dims.cl] 2 true true false)/\hp.get 5=some (0,.blk [.str b.row.bs,.sl b.dims.nl (b.dims.es.map Lin.av) b.dims.cl] 2 true true false) /\
  env=qR (.pt 1 0 0) (.pt 5 0 0) (.int .i64 d.length)/\eqL cS a.dims.es b.dims.es=eqL cS r (b.dims.es.drop d.length)) ?_ ?_ ?_
 exact⟨rfl,rfl,rfl,rfl⟩;rintro env hp ⟨g1,g5,rfl,hI⟩;simp only[qQ,qR,g1,fR,go_sem,seval];rw[hI,l9 hl];rintro d x r env hp hes ⟨g1,g5,rfl,hI⟩;obtain⟨hget,e1,e2,ew⟩:=mJ hes hab;obtain⟨y,gy,f1,f2,hq⟩:=DJ (q:=cS) hes hl;rw[hq]at hI;rw[hI];clear hI;have a1:=c162 h162 h191 x y;rw[Lin.avc,Lin.avc]at a1;cases hxy:cS x y;simp only[qQ,qR,g1,g5,hget,e1,e2,gy,f1,f2,go_sem,seval];refine aC a1 ?_;simp only[hxy,go_sem,seval];kernel_rfl;simp only[qQ,qR,g1,g5,hget,e1,e2,gy,f1,f2,go_sem,seval];refine aC a1 ?_;simp only[hxy,ew,go_sem,seval];exact⟨by kernel_rfl,g1,g5,rfl⟩
end
end
end Go.Tev
