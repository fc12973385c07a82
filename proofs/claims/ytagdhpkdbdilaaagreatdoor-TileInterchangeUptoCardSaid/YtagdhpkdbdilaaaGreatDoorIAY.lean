import Derived.Test.YtagdhpkdbdilaaaGreatDoorIAW
import Derived.Test.YtagdhpkdbdilaaaGreatDoorIAQ
import Derived.Test.YtagdhpkdbdilaaaGreatDoorIAR
import Derived.Test.YtagdhpkdbdilaaaGreatDoorIAX
import Derived.Test.YtagdhpkdbdilaaaGreatDoorIAS
import Derived.Test.YtagdhpkdbdilaaaGreatDoorIAI
import Derived.Test.YtagdhpkdbdilaaaGreatDoorIAM
set_option linter.all false
namespace Go.Tev
section
def eQ(x:Loop)(all:List Str):Bool:=
 gX x.v.bs && !fT all x.v.bs&&(!decide ((x.hi.es.length:Int)<1) && !decide (4<(x.hi.es.length:Int)) && !decide (x.step<1) && !decide (4096<x.step))&&(bM x.hi.es all&&bM [x.lo] all)
def cT:List Loop->List Str->Bool
 |[],_=>true
 |x::r,all=>eQ x all&&cT r (all++[x.v])
theorem I9{h:Hp}{v t w:AV}{keys:List Nat}(hw:w.tree=true)(hs:snap 63 h v=some (t,keys)):conv h (.tup [v,w])=some (.tup [t,w]):=by
 show (snap depth h (.tup [v,w])).map (·.1)=_;have e2:snap 63 h w=some (w,[]):=by unfold snap;rw[if_pos hw]
 show (snap 64 h (.tup [v,w])).map (·.1)=_;unfold snap;split;rename_i ht;have hv:v.tree=true:=by simp only[AV.tree,treeL,aF]at ht;exact ht.1
 have e1:snap 63 h v=some (v,[]):=by unfold snap;rw[if_pos hv]
 rw[e1]at hs;cases hs;rfl;simp only[mapS,hs,e2,Option.map_some,Option.map]
section
variable{pg:Pg}
theorem c607(hf:pg.fs 607=some pS)(nl cl:Bool)(es:List aW)(hb:es.length<=big)(g:Nat)(cs:List AV)(hcs:treeL cs=true)(p:aW->Bool)(hp:∀x∈es,Ret pg g (x.av::cs) (.bool (p x))) :
  cW pg 607 [.sl nl (es.map aW.av) cl,.fn g cs] (λr=>∃i:Int,r = .int .i64 i/\decide (0<=i)=es.any p):=
 wO (f:=607) (esz:=2) (ag:=true) hf aW.av aW.fits_av aW.tree_av nl cl es hb g cs hcs p hp
theorem c593(hf:pg.fs 593=some sS)(h607:pg.fs 607=some pS)(nl cl:Bool)(es:List aW)(hb:es.length<=big)(g:Nat)(cs:List AV)(hcs:treeL cs=true)(p:aW->Bool)(hp:∀x∈es,Ret pg g (x.av::cs) (.bool (p x))) :
  Ret pg 593 [.sl nl (es.map aW.av) cl,.fn g cs] (.bool (es.any p)):=
 qD (n:=607) hf (by simp only[treeL,pZ,p9,hcs,aW.treeL_av,Bool.and_true]) (c607 h607 nl cl es hb g cs hcs p hp)
def i6(vars:List Str)(l:Lin):Bool:=e9 l&&l.ts.es.all λx=>fT vars x.v.bs
end
end
section
def nY(n:aV)(vars:List Str):List Str:=vars++n.loops.es.map (·.v)
def mU(n:aV):Int:=if n.dyn then 5 else 6
def jY(n:aV)(vars:List Str)(values:Int):Bool:=
 cT n.loops.es vars&&decide ((n.loops.es.length:Int)<=12) && !decide (n.value<0) && !decide (values<=n.value) && !decide (mU n<(n.at_.es.length:Int))&&bM n.at_.es (nY n vars)&&gM n.body (nY n vars) values &&
 (if n.dyn=true then gM n.index (nY n vars) values&&decide (0<=n.check) else cB n.index jH&&decide (n.check=0))
structure KZ(n:aV)(vars:List Str):Prop where
 body:n.body.ok
 index:n.index.ok
 szb:vars.length+n.loops.es.length+n.body.sz<=big
 szi:vars.length+n.loops.es.length+n.index.sz<=big
structure tA(n:aV)(vars:List Str):Prop where
 body:n.body.ok
 index:n.index.ok
 sz:vars.length+n.loops.es.length+n.body.sz+n.index.sz<=big
theorem tA.sz'{n:aV}{vars:List Str}(h:tA n vars):KZ n vars:=⟨h.body,h.index,by have:=h.sz;omega,by have:=h.sz;omega⟩
section
variable{pg:Pg}
end
end
section
def i7(ls:List Loop)(l:Lin):Bool:=l.ts.es.any λc=>ls.any λy=>decide (y.v.bs=c.v.bs)
def fZ:List Loop->Bool
 |[]=>true
 |x::r => !((x.hi.es++[x.lo]).any (i7 (x::r)))&&fZ r
def mI:List aW->List UInt8->Int
 |[],_=>0
 |x::r,s=>if x.v.bs=s then x.c else mI r s
def kY(l:Lin)(s:List UInt8):Bool := !decide (mI l.ts.es s=0)
def j6(x:Loop)(s:List UInt8):Bool:=kY x.lo s||x.hi.es.any λh=>kY h s
def wE:List Loop->Bool
 |[]=>true
 |x::r => !((x::r).any λy=>j6 x y.v.bs)&&wE r
theorem yP:∀(l p:List aW),gU p l=true->∀x∈l,x.c≠0
 |[],_,_,x,hx=>by simp at hx
 |y::r,p,h,x,hx=>by simp only[gU,aF]at h;rcases List.mem_cons.1 hx with rfl|hx;simpa using h.1.1.1.2;exact yP r _ h.2 x hx
theorem u4:∀(l:List aW)(s:List UInt8),(∀x∈l,x.c≠0)->(!decide (mI l s=0))=l.any λc=>decide (s=c.v.bs)
 |[],s,_=>by simp[mI]
 |x::r,s,h=>by have ih:=u4 r s (λy hy=>h y (bR _ hy));rw[List.any_cons,<-ih,mI];by_cases hx:x.v.bs=s;have:=h x List.mem_cons_self;simp[hx,this];rw[if_neg hx];simp[Ne.symm hx]
theorem EL{l:Lin}(h:e9 l=true)(s:List UInt8):kY l s=l.ts.es.any λc=>decide (s=c.v.bs):=by simp only[e9,aF]at h;exact u4 _ _ (yP _ _ h.1.1)
theorem KM{α β : Type}(l:List α)(m:List β)(p : α -> β -> Bool):(l.any λx=>m.any λy=>p x y)=m.any λy=>l.any λx=>p x y:=by rw[Bool.eq_iff_iff];simp only[List.any_eq_true];exact⟨λ⟨x,hx,y,hy,h⟩=>⟨y,hy,x,hx,h⟩,λ⟨y,hy,x,hx,h⟩=>⟨x,hx,y,hy,h⟩⟩
def mZ(x:Loop):Bool:=e9 x.lo&&x.hi.es.all e9
theorem qB(ls:List Loop)(l:Lin)(h:e9 l=true):i7 ls l=ls.any λy=>kY l y.v.bs:=by unfold i7;rw[KM];congr 1;funext y;rw[EL h]
theorem zB:∀ls:List Loop,(∀x∈ls,mZ x=true)->fZ ls=wE ls
 |[],_=>rfl
 |x::r,h=>by
  have hx:=h x List.mem_cons_self;simp only[mZ,aF,cX]at hx
  have e1:((x.hi.es++[x.lo]).any (i7 (x::r)))=(x::r).any λy=>j6 x y.v.bs:=by rw[Bool.eq_iff_iff];simp only[List.any_eq_true,kI,List.mem_singleton,j6,Bool.or_eq_true];constructor;rintro⟨l,hl|rfl,hh⟩;rw[qB _ _ (hx.2 l hl),List.any_eq_true]at hh;obtain⟨y,hy,hu⟩:=hh;exact⟨y,hy,.inr ⟨l,hl,hu⟩⟩;rw[qB _ _ hx.1,List.any_eq_true]at hh;obtain⟨y,hy,hu⟩:=hh;exact⟨y,hy,.inl hu⟩;rintro⟨y,hy,hu|⟨l,hl,hu⟩⟩;exact⟨x.lo,.inr rfl,by rw[qB _ _ hx.1,List.any_eq_true];exact⟨y,hy,hu⟩⟩;exact⟨l,.inl hl,by rw[qB _ _ (hx.2 l hl),List.any_eq_true];exact⟨y,hy,hu⟩⟩
  simp only[fZ,wE,e1,zB r (λy hy=>h y (bR _ hy))]
theorem rV:∀(ls:List Loop)(all:List Str),cT ls all=true->∀x∈ls,mZ x=true
 |[],_,_,x,hx=>by simp at hx
 |y::r,all,h,x,hx=>by simp only[cT,aF]at h;rcases List.mem_cons.1 hx with rfl|hx;have h1:=h.1;simp only[eQ,aF,bM,List.all_cons,List.all_nil,Bool.and_true]at h1;simp only[mZ,aF,cX];refine⟨h1.2.2.1,λl hl=>?_⟩;have:=cX.1 h1.2.1 l hl;simp only[aF]at this;exact this.1;exact rV r _ h.2 x hx
theorem uF:∀(ls:List Loop)(all:List Str),cT ls all=true->∀x∈ls,fT all x.v.bs=false
 |[],_,_,x,hx=>by simp at hx
 |y::r,all,h,x,hx=>by simp only[cT,aF]at h;rcases List.mem_cons.1 hx with rfl|hx;have h1:=h.1;simp only[eQ,aF,fU]at h1;exact h1.1.1.2;have:=uF r _ h.2 x hx;simp only[fT,List.any_append,Bool.or_eq_false_iff]at this;exact this.1
theorem t8{ls:List Lin}{all:List Str}(h:bM ls all=true){xs:List Loop}(hn:∀x∈xs,fT all x.v.bs=false):ls.any (i7 xs)=false:=by rw[List.any_eq_false];intro l hl;have h1:=cX.1 h l hl;simp only[aF,cX]at h1;simp only[i7,Bool.not_eq_true,List.any_eq_false];intro c hc y hy;have h2:=h1.2 c hc;have h3:=hn y hy;simp only[fT,List.any_eq_true,List.any_eq_false,eK]at h2 h3 ⊢;obtain⟨s,hs,e⟩:=h2;exact decide_eq_false λq=>h3 s hs (q.trans e)
theorem rU:∀(ls:List Loop)(all:List Str),cT ls all=true->fZ ls=true
 |[],_,_=>rfl
 |x::r,all,h=>by have hn:=uF _ _ h;simp only[cT,aF]at h;have h1:=h.1;simp only[eQ,aF]at h1;simp only[fZ,aF,fU,List.any_append,Bool.or_eq_false_iff];exact⟨⟨t8 h1.2.1 hn,t8 h1.2.2 hn⟩,rU r _ h.2⟩
def eH(o:List Int)(n:Nat):Bool:=decide (o.length=n)&&(List.range n).all λk=>o.contains (k:Int)
theorem oK:∀(n:Nat)(o:List Int),o.length<=n->(∀k:Nat,k<n->(k:Int)∈o)->o.length=n/\∀x∈o,0<=x/\x<n
 |0,o,h,_=>by have:o=[]:=eD (by omega);subst this;simp
 |n+1,o,h,hm=>by
  have hn:=hm n (by omega);obtain⟨a,b,rfl⟩:=List.append_of_mem hn;have hl:(a++b).length<=n:=by simp at h ⊢;omega
  obtain⟨e1,e2⟩:=oK n (a++b) hl (λk hk=>by
   have:=hm k (by omega);simp only[kI,List.mem_cons]at this ⊢;rcases this with q|q|q;exact .inl q;omega;exact .inr q)
  refine⟨by simp at e1 ⊢;omega,λx hx=>?_⟩;simp only[kI,List.mem_cons]at hx;rcases hx with q|q|q;have:=e2 x (by simp[q]);omega;omega;have:=e2 x (by simp[q]);omega
theorem qY{o:List Int}{n:Nat}(h:eH o n=true):∀x∈o,0<=x/\x<n:=by simp only[eH,aF,eK,cX,List.mem_range,List.contains_iff_mem]at h;exact(oK n o (by omega) h.2).2
def bZ{α : Type}(l:List α)(o:List Int):List α:=o.filterMap λk=>l[k.toNat]?
theorem iM{α : Type}{l:List α}:∀{o:List Int},(∀x∈o,0<=x/\x<l.length)->(bZ l o).length=o.length/\∀j:Nat,(bZ l o)[j]?=(o[j]?).bind λk=>l[k.toNat]?
 |[],_=>⟨rfl,λj=>by simp[bZ]⟩
 |x::r,h=>by
  obtain⟨e1,e2⟩:=iM (l:=l) (o:=r) (λy hy=>h y (bR _ hy));have hx:=h x List.mem_cons_self;have hg:l[x.toNat]?=some (l[x.toNat]'(by omega)):=bX _;have hc:bZ l (x::r)=l[x.toNat]'(by omega)::bZ l r:=by simp[bZ,hg]
  rw[hc];refine⟨by simp[e1],λj=>?_⟩;cases j with
  |zero=>simp[hg]
  |succ j=>simpa using e2 j
theorem DM{α : Type}{l:List α}{o b:List Int}(ho:eH o l.length=true)(hb:b.length=l.length)(hbk:∀k:Nat,k<l.length->∃j:Nat,j<l.length/\o[k]?=some (j:Int)/\b[j]?=some (k:Int)) :
  eH b l.length=true/\bZ (bZ l o) b=l:=by
 have hin:=qY ho;have hol:o.length=l.length:=by simp only[eH,aF,eK]at ho;exact ho.1
 have hbo:eH b l.length=true:=by simp only[eH,aF,eK,cX,List.mem_range,List.contains_iff_mem];refine⟨hb,λk hk=>?_⟩;obtain⟨j,_,_,q⟩:=hbk k hk;exact List.mem_of_getElem? q
 refine⟨hbo,?_⟩;have hbin:=qY hbo;obtain⟨a1,a2⟩:=iM (l:=l) (o:=o) hin;have hal:(bZ l o).length=l.length:=by omega
 obtain⟨b1,b2⟩:=iM (l:=bZ l o) (o:=b) (by rw[hal];exact hbin);apply List.ext_getElem?;intro j;rw[b2 j];by_cases hj:j<l.length;have hbj:b[j]?=some (b[j]'(by omega)):=bX _;have hk:=hbin (b[j]'(by omega)) (List.getElem_mem _);rw[hbj];show (bZ l o)[(b[j]'(by omega)).toNat]?=_;rw[a2];have hmem:(j:Int)∈o:=by simp only[eH,aF,cX,List.mem_range,List.contains_iff_mem]at ho;exact ho.2 j hj
 obtain⟨k,hk2⟩:=List.getElem?_of_mem hmem;have hkl:k<l.length:=by have:=(bK.1 hk2).1;omega
 obtain⟨j',hj',e1,e2⟩:=hbk k hkl;rw[hk2]at e1;have:j'=j:=by have:=Option.some.inj e1;omega
 subst this;rw[hbj]at e2;have e3:b[j']'(by omega)=(k:Int):=Option.some.inj e2;rw[e3,Int.toNat_natCast,hk2];simp;rw[bO (by omega),bO (by omega)];rfl
end
section
def nL(l:List Int)(n:Int):Bool:=l.any λx=>decide (x=n)
section
variable{pg:Pg}
theorem c781(hf:pg.fs 781=some sP)(nl cl:Bool)(es:List Int)(hb:es.length<=big)(n:Int):Ret pg 781 [.sl nl (es.map bE) cl,.int .i64 n] (.bool (nL es n)):=by refine Ret.ofX hf ?_;unfold sP;refine Wk ?_;refine aX es (λd r env hp=>env=w6 (.sl nl (es.map bE) cl) (.int .i64 n) (.int .i64 d.length)/\nL es n=nL r n) ?_ ?_ ?_;exact⟨rfl,rfl⟩;rintro env hp ⟨rfl,hI⟩;rw[hI];simp only[wZ,w6,bA,go_sem,seval];rfl;rintro d x r env hp hes ⟨rfl,hI⟩;obtain⟨hget,e1,e2,ew⟩:=cG hes hb;have hc:nL (x::r) n=(decide (x=n)||nL r n):=rfl;simp only[wZ,w6,e1,e2,hget,bE,go_sem,seval];cases b1:decide (x=n);simp only[ew,go_sem,seval];exact⟨rfl,by rw[hI,hc,b1,Bool.false_or]⟩;refine Wk ?_;rw[hI,hc,b1,Bool.true_or]
theorem c794(hf:pg.fs 794=some pP)(l:Lin)(s:List UInt8):Ret pg 794 [l.av,.str s] (.int .i64 (mI l.ts.es s)):=by have hb:=l.ts.ok;refine Ret.ofX hf ?_;unfold pP;rw[Lin.avc];refine Wk ?_;refine aX l.ts.es (λd r env hp=>env=wY (.str s) (.pt 1 0 0) (.int .i64 d.length)/\hp.get 1=some (0,.blk [.int .i64 l.c,.sl l.ts.nl (l.ts.es.map aW.av) l.ts.cl] 2 true true false)/\mI l.ts.es s=mI r s) ?_ ?_ ?_;exact⟨rfl,rfl,rfl⟩;rintro env hp ⟨rfl,hg,hI⟩;rw[hI];simp only[wX,wY,bA,hg,go_sem,seval];rfl;rintro d x r env hp hes ⟨rfl,hg,hI⟩;obtain⟨hget,e1,e2,ew⟩:=cG hes hb;simp only[wX,wY,e1,e2,hget,hg,go_sem,seval];have hc:mI (x::r) s=if x.v.bs=s then x.c else mI r s:=rfl;cases b1:decide (x.v.bs=s);simp only[ew,go_sem,seval];exact⟨rfl,hg,by rw[hI,hc,if_neg (bW b1)]⟩;simp only[e1,e2,hget,hg,go_sem,seval];rw[hI,hc,if_pos (aU b1)]
theorem c782(hf:pg.fs 782=some sO)(h794:pg.fs 794=some pP)(l:Lin)(s:List UInt8):Ret pg 782 [l.av,.str s] (.bool (kY l s)):=by have a1:=c794 h794 l s;refine Ret.ofX hf ?_;unfold sO;rw[Lin.avc]at a1 ⊢;refine Wk ?_;refine aG (a1) (Wk ?_);rfl
theorem c759(hf:pg.fs 759=some u7)(h781:pg.fs 781=some sP)(nl cl:Bool)(o:List Int)(hb:o.length<=big)(n:Nat)(hn:n<=big):Ret pg 759 [.sl nl (o.map bE) cl,.int .i64 n] (.bool (eH o n)):=by
 have hcon:∀k:Nat,nL o k=o.contains (k:Int):=by intro k;rw[Bool.eq_iff_iff];simp only[nL,List.any_eq_true,eK,List.contains_iff_mem];exact⟨λ⟨x,hx,e⟩=>e ▸ hx,λh=>⟨_,h,rfl⟩⟩
 refine Ret.ofX hf ?_;unfold u7;cases b0:decide ((o.length:Int)=(n:Int))
 case false=>
  have hne:¬o.length=n:=by have:=bW b0;omega
  simp only[b0,go_sem,seval];simp[eH,hne]
 have he:o.length=n:=by have:=aU b0;omega
 obtain⟨R,hR⟩:∃R,R=List.range n:=⟨_,rfl⟩
 have hRl:R.length=n:=by rw[hR,List.length_range]
 have hio:eH o n=R.all λk=>nL o k:=by rw[eH,he,hR];simp[hcon]
 rw[hio];simp only[b0,go_sem,seval];refine aX R (λd r env hp=>env=xG (.sl nl (o.map bE) cl) (.int .i64 n) (.int .i64 d.length)/\(R.all λk=>nL o k)=r.all λk=>nL o k) ?_ ?_ ?_;exact⟨rfl,rfl⟩
 ·rintro env hp ⟨rfl,hI⟩;rw[hI,hRl];simp only[xF,xG,bA,go_sem,seval]
  try rfl
 rintro d x r env hp hes ⟨rfl,hI⟩;have hes':=hes;rw[hR]at hes';obtain⟨rfl,hlt⟩:=oI hes';obtain⟨_,e1,e2,ew⟩:=cG hes (by rw[hRl];exact hn);rw[hRl]at e1 e2;simp only[xF,xG,e1,e2,go_sem,seval];refine aG (c781 h781 nl cl o hb d.length) ?_;have hc:((d.length::r).all λk=>nL o k)=(nL o d.length&&r.all λk=>nL o k):=rfl;cases b1:nL o d.length;refine Wk ?_;rw[hI,hc,b1];rfl;simp only[ew,go_sem,seval];exact⟨rfl,by rw[hI,hc,b1,Bool.true_and]⟩
set_option maxHeartbeats 2000000 in
theorem c760(hf:pg.fs 760=some u6)(h782:pg.fs 782=some sO)(h794:pg.fs 794=some pP)(nl cl:Bool)(ls:List Loop)(hb:ls.length<=big):Ret pg 760 [.sl nl (ls.map Loop.av) cl] (.bool (wE ls)):=by
 refine Ret.ofX hf ?_;unfold u6;refine Wk ?_;refine aX ls (λd r env hp=>env=xB (.sl nl (ls.map Loop.av) cl) (.int .i64 d.length)/\wE ls=wE r) ?_ ?_ ?_;exact⟨rfl,rfl⟩;rintro env hp ⟨rfl,hI⟩;rw[hI];simp only[w7,xB,bA,go_sem,seval];rfl;rintro d x r env hp hes ⟨rfl,hI⟩;obtain⟨hget,e1,e2,ew⟩:=cG hes hb;have hc:wE (x::r)=(!((x::r).any λy=>j6 x y.v.bs)&&wE r):=rfl;simp only[w7,xB,e1,e2,go_sem,seval];refine aX (x::r) (λd2 r2 env h2=>env=xC (.sl nl (ls.map Loop.av) cl) (.int .i64 d.length) (.int .i64 (d++d2).length)/\((x::r).any λy=>j6 x y.v.bs)=r2.any λy=>j6 x y.v.bs) ?_ ?_ ?_;exact⟨by rw[List.append_nil];rfl,rfl⟩;rintro env h2 ⟨rfl,hJ⟩;rw[<-hes];simp only[w8,xC,bA,ew,go_sem,seval];exact⟨rfl,by rw[hI,hc,hJ];rfl⟩;rintro d2 y r2 env h2 he2 ⟨rfl,hJ⟩;obtain⟨hget2,f1,f2,fw⟩:=cG (show ls=(d++d2)++y::r2 by rw[hes,he2,List.append_assoc]) hb;have hcy:((y::r2).any λy=>j6 x y.v.bs)=(j6 x y.v.bs||r2.any λy=>j6 x y.v.bs):=rfl;have a1:=c782 h782 h794 x.lo y.v.bs;rw[Lin.avc]at a1;have hbad:j6 x y.v.bs=true->wE ls=false:=by intro h;rw[hI,hc,hJ,hcy,h];rfl
 simp only[w8,xC,e1,e2,f1,f2,hget,hget2,go_sem,seval];refine aG a1 ?_;cases b1:kY x.lo y.v.bs
 case true=>refine Wk ?_;refine cO ?_;rw[hbad (by rw[j6,b1];rfl)]
 refine Wk ?_;refine cO ?_;have hib:=x.hi.ok;refine aX x.hi.es (λd3 r3 env h3=>env=xD (.sl nl (ls.map Loop.av) cl) (.int .i64 d.length) (.int .i64 (d++d2).length) (.int .i64 d3.length)/\(x.hi.es.any λh=>kY h y.v.bs)=r3.any λh=>kY h y.v.bs) ?_ ?_ ?_;exact⟨rfl,rfl⟩;rintro env h3 ⟨rfl,hL⟩;simp only[w9,xD,bA,e1,e2,hget,fw,go_sem,seval];refine⟨by rw[List.append_assoc];rfl,?_⟩;rw[hJ,hcy,j6,b1,hL];rfl;rintro d3 z r3 env h3 he3 ⟨rfl,hL⟩;obtain⟨hget3,g1,g2,gw⟩:=cG he3 hib;have hcz:((z::r3).any λh=>kY h y.v.bs)=(kY z y.v.bs||r3.any λh=>kY h y.v.bs):=rfl;have a2:=c782 h782 h794 z y.v.bs;rw[Lin.avc]at a2;simp only[w9,xD,e1,e2,f1,f2,g1,g2,hget,hget2,hget3,go_sem,seval];refine aG a2 ?_;cases b2:kY z y.v.bs;refine Wk ?_;refine cO ?_;simp only[gw,go_sem,seval];exact⟨rfl,by rw[hL,hcz,b2,Bool.false_or]⟩;refine Wk ?_;refine cO ?_;rw[hbad (by rw[j6,hL,hcz,b2];simp)]
end
end
section
def Lin.strip(l:Lin):Lin:=⟨l.c,⟨false,l.ts.es,false,l.ts.ok⟩⟩
def aI.strip(s:aI):aI:=⟨s.op,s.num,⟨false,s.args.es,false,s.args.ok⟩⟩
def Sl.mapS{α : Type}(f : α -> α)(s:Sl α):Sl α:=⟨false,s.es.map f,false,by simpa using s.ok⟩
mutual
def aE.strip:aE->aE
 |.mk op num value name at_ dyn check fn _ kids _ => .mk op num value name (at_.mapS Lin.strip) dyn check (fn.mapS aI.strip) false (aE.strips kids) false
def aE.strips:List aE->List aE
 |[]=>[]
 |p::r=>p.strip::aE.strips r
end
theorem aE.strips_eq:∀l:List aE,aE.strips l=l.map aE.strip
 |[]=>by simp[aE.strips]
 |p::r=>by simp[aE.strips,aE.strips_eq r]
theorem aE.strip_eq(p:aE):p.strip = .mk p.op p.num p.value p.name (p.at_.mapS Lin.strip) p.dyn p.check (p.fn.mapS aI.strip) false (p.kids.map aE.strip) false:=by cases p;rw[aE.strip,aE.strips_eq];rfl
def Loop.strip(x:Loop):Loop:=⟨x.v,x.lo.strip,x.hi.mapS Lin.strip,x.step⟩
def aV.strip(n:aV):aV:=⟨n.loops.mapS Loop.strip,n.value,n.at_.mapS Lin.strip,n.dyn,n.index.strip,n.check,n.body.strip⟩
theorem wD(ls:List Lin)(vars:List Str):bM (ls.map Lin.strip) vars=bM ls vars:=by simp only[bM,List.all_map];rfl
theorem mF:∀(fn:List aI)(n:Int),cI n (fn.map aI.strip)=cI n fn
 |[],_=>rfl
 |s::r,n=>by rw[List.map_cons,cI,cI,mF r];rfl
theorem wW(fn:List aI)(n:Int):cN (fn.map aI.strip) n=cN fn n:=by rw[cN,cN,mF,cY]
theorem nV(p:aE)(a b c d e f:Bool):eU p.strip a b c d e f=eU p a b c d e f:=by rw[aE.strip_eq];simp only[eU,aE.num,aE.value,aE.name,aE.at_,aE.dyn,aE.check,aE.fn,Sl.mapS,cY];cases p;rfl
theorem wH(p:aE)(vars:List Str)(v:Int):gO p.strip vars v=gO p vars v:=by
 have h1:qW p.strip v=qW p v:=by simp only[qW,nV];rw[aE.strip_eq];simp only[aE.value,aE.at_,aE.dyn,aE.check,aE.kids,Sl.mapS,cY];cases p;rfl
 simp only[gO,nV,h1];rw[aE.strip_eq];simp only[aE.op,aE.num,aE.name,aE.at_,aE.kids,aE.fn,Sl.mapS,cY,wW];cases p;rfl
mutual
theorem vO(v:Int):∀(p:aE)(vars:List Str),gL v p.strip vars=gL v p vars
 |.mk op num value name at_ dyn check fn knl kids kcl,vars=>by have h:=wH (.mk op num value name at_ dyn check fn knl kids kcl) vars v;rw[aE.strip]at h ⊢;rw[gL,gL,h,mD v _ _ _ kids];simp only[Sl.mapS,wD]
theorem mD(v:Int)(red:Bool)(name:Str)(vars:List Str):∀(kids:List aE)(i:Nat),eF v red name vars i (aE.strips kids)=eF v red name vars i kids
 |[],i=>by rw[aE.strips]
 |k::r,i=>by rw[aE.strips,eF,eF,vO v k,mD v red name vars r]
end
mutual
theorem wG:∀p:aE,hQ p.strip=hQ p
 |.mk op num value name at_ dyn check fn knl kids kcl=>by rw[aE.strip,hQ,hQ,nE kids]
theorem nE:∀(l:List aE)(a:Int),gN a (aE.strips l)=gN a l
 |[],a=>by rw[aE.strips]
 |p::r,a=>by rw[aE.strips,gN,gN,wG p,nE r]
end
mutual
theorem aE.strip_strip:∀p:aE,p.strip.strip=p.strip
 |.mk op num value name at_ dyn check fn knl kids kcl=>by rw[aE.strip,aE.strip,aE.strips_strips kids];simp only[Sl.mapS,List.map_map];rfl
theorem aE.strips_strips:∀l:List aE,aE.strips (aE.strips l)=aE.strips l
 |[]=>by rw[aE.strips,aE.strips]
 |p::r=>by rw[aE.strips,aE.strips,aE.strip_strip p,aE.strips_strips r]
end
mutual
theorem aE.ok_strip:∀p:aE,p.strip.ok↔p.ok
 |.mk op num value name at_ dyn check fn knl kids kcl=>by rw[aE.strip,aE.ok,aE.ok,aE.oks_strip kids,aE.strips_eq,cY]
theorem aE.oks_strip:∀l:List aE,aE.oks (aE.strips l)↔aE.oks l
 |[]=>by rw[aE.strips]
 |p::r=>by rw[aE.strips,aE.oks,aE.oks,aE.ok_strip p,aE.oks_strip r]
end
mutual
theorem aE.sz_strip:∀p:aE,p.strip.sz=p.sz
 |.mk op num value name at_ dyn check fn knl kids kcl=>by rw[aE.strip,aE.sz,aE.sz,aE.szL_strip kids]
theorem aE.szL_strip:∀l:List aE,aE.szL (aE.strips l)=aE.szL l
 |[]=>by rw[aE.strips]
 |p::r=>by rw[aE.strips,aE.szL,aE.szL,aE.sz_strip p,aE.szL_strip r]
end
def hU(x y:Loop):Bool := !(!decide (x.v.bs=y.v.bs) || !decide (x.step=y.step) || !bQ x.lo y.lo || !eqL bQ x.hi.es y.hi.es)
def fA(a b:aV):Bool:=
 decide ((a.loops.es.length:Int)=(b.loops.es.length:Int))&&decide (a.value=b.value)&&(a.dyn==b.dyn)&&decide (a.check=b.check)&&eqL bQ a.at_.es b.at_.es&&cB a.index b.index&&cB a.body b.body&&eqL hU a.loops.es b.loops.es
theorem pL(x:Loop):hU x x=true:=by simp[hU,d6,cD d6]
theorem zE(a:aV):fA a a=true:=by simp[fA,cD d6,lK,cD pL]
end
section
def iEq(x y:Int):Bool:=decide (x=y)
section
variable{pg:Pg}
theorem aXk(hf:pg.fs 15=some DD)(nl cl nl' cl':Bool)(a b:List Int)(hb:a.length<=big):Ret pg 15 [.sl nl (a.map bE) cl,.sl nl' (b.map bE) cl'] (.bool (eqL iEq a b)):=by
 refine Ret.ofX hf ?_;unfold DD;cases b2:decide ((a.length:Int)=(b.length:Int))
 case false=>simp only[b2,go_sem,seval];rw[sI b2]
 case true=>
 have hl:a.length=b.length:=by have:=aU b2;omega
 simp only[b2,go_sem,seval];refine aX a (λd r env hp=>env=yE (.sl nl (a.map bE) cl) (.sl nl' (b.map bE) cl') (.int .i64 d.length)/\eqL iEq a b=eqL iEq r (b.drop d.length)) ?_ ?_ ?_;exact⟨rfl,rfl⟩;rintro env hp ⟨rfl,hI⟩;simp only[yD,yE,bA,go_sem,seval];rw[hI,iK hl];rintro d x r env hp hes ⟨rfl,hI⟩;obtain⟨hget,e1,e2,ew⟩:=cG hes hb;obtain⟨y,gy,f1,f2,hq⟩:=uG (q:=iEq) hes hl;rw[hq]at hI;rw[hI];clear hI;cases hxy:decide (x=y);simp only[yD,yE,e1,e2,hget,gy,f1,f2,hxy,go_sem,seval];exact⟨by kernel_rfl,by simp[iEq,hxy]⟩;simp only[yD,yE,e1,e2,hget,gy,f1,f2,hxy,ew,go_sem,seval];exact⟨by kernel_rfl,rfl,by simp[iEq,hxy]⟩
theorem c161(hf:pg.fs 161=some vE)(h15:pg.fs 15=some DD)(nl cl nl' cl':Bool)(a b:List aI)(hb:a.length<=big):Ret pg 161 [.sl nl (a.map aI.av) cl,.sl nl' (b.map aI.av) cl'] (.bool (eqL iU a b)):=by
 refine Ret.ofX hf ?_;unfold vE;cases b2:decide ((a.length:Int)=(b.length:Int))
 case false=>simp only[b2,go_sem,seval];rw[sI b2]
 case true=>
 have hl:a.length=b.length:=by have:=aU b2;omega
 simp only[b2,go_sem,seval];refine aX a (λd r env hp=>env=nR (.sl nl (a.map aI.av) cl) (.sl nl' (b.map aI.av) cl') (.int .i64 d.length)/\eqL iU a b=eqL iU r (b.drop d.length)) ?_ ?_ ?_;exact⟨rfl,rfl⟩;rintro env hp ⟨rfl,hI⟩;simp only[nQ,nR,bA,go_sem,seval];rw[hI,iK hl]
 ·rintro d x r env hp hes ⟨rfl,hI⟩;obtain⟨hget,e1,e2,ew⟩:=cG hes hb;obtain⟨y,gy,f1,f2,hq⟩:=uG (q:=iU) hes hl;rw[hq]at hI;rw[hI];clear hI;have hse:iU x y=(decide (x.op.bs=y.op.bs)&&decide (x.num=y.num)&&eqL iEq x.args.es y.args.es):=rfl;cases c1:decide (x.op.bs=y.op.bs)
  case false=>simp only[nQ,nR,e1,e2,hget,gy,f1,f2,c1,go_sem,seval];exact⟨by kernel_rfl,by simp[hse,c1]⟩
  case true=>
  cases c2:decide (x.num=y.num)
  case false=>simp only[nQ,nR,e1,e2,hget,gy,f1,f2,c1,c2,go_sem,seval];exact⟨by kernel_rfl,by simp[hse,c2]⟩
  case true=>
  have a1:=aXk h15 x.args.nl x.args.cl y.args.nl y.args.cl x.args.es y.args.es x.args.ok;simp only[nQ,nR,e1,e2,hget,gy,f1,f2,c1,c2,go_sem,seval];refine aG a1 ?_;cases c3:eqL iEq x.args.es y.args.es;refine Wk ?_;exact⟨by kernel_rfl,by simp[hse,c3]⟩;simp only[ew,go_sem,seval];exact⟨by kernel_rfl,rfl,by simp[hse,c1,c2,c3]⟩
def dS:Str:=⟨[],by simp[big]⟩
set_option maxHeartbeats 1000000 in
theorem c118(hf:pg.fs 118=some A9)(h161:pg.fs 161=some vE)(h15:pg.fs 15=some DD)(h121:∀a b:bH,Ret pg 121 [a.av,b.av] (.bool (jJ a b))) :
  ∀p:aE,p.ok->∀q:aE,Ret pg 118 [p.av,q.av] (.bool (cB p q)):=by
 refine aE.ind' λp ih hp q=>?_;obtain⟨hk,hks⟩:=(aE.ok_iff p).1 hp;have a1:=c161 h161 h15 p.fn.nl p.fn.cl q.fn.nl q.fn.cl p.fn.es q.fn.es p.fn.ok;have a2:=h121 ⟨dS,p.at_⟩ ⟨dS,q.at_⟩;have hs2:jJ ⟨dS,p.at_⟩ ⟨dS,q.at_⟩=eqL bQ p.at_.es q.at_.es:=by simp[jJ,dS]
 rw[hs2,bH.avc,bH.avc]at a2;clear h121 h161 h15 hs2;refine Ret.ofX hf ?_;rw[oJ,kM];unfold A9;cases b1:decide (p.op.bs=q.op.bs)
 case false=>simp only[b1,go_sem,seval]
 case true=>
 cases b2:decide (p.num=q.num)
 case false=>simp only[b1,b2,go_sem,seval]
 case true=>
 cases b3:decide (p.value=q.value)
 case false=>simp only[b1,b2,b3,go_sem,seval]
 case true=>
 cases b4:decide (p.name.bs=q.name.bs)
 case false=>simp only[b1,b2,b3,b4,go_sem,seval]
 case true=>
 cases b5:(p.dyn==q.dyn)
 case false=>simp only[b1,b2,b3,b4,b5,go_sem,seval]
 case true=>
 cases b6:decide (p.check=q.check)
 case false=>simp only[b1,b2,b3,b4,b5,b6,go_sem,seval]
 case true=>
 cases b7:decide ((p.kids.length:Int)=(q.kids.length:Int))
 case false=>rw[sI b7];simp only[b1,b2,b3,b4,b5,b6,b7,go_sem,seval]
 case true=>
 simp only[b1,b2,b3,b4,b5,b6,b7,go_sem,seval];refine aG a1 ?_;cases b8:eqL iU p.fn.es q.fn.es
 case false=>simp only[go_sem,seval]
 case true=>
 refine Wk ?_;refine aG a2 ?_;cases b9:eqL bQ p.at_.es q.at_.es
 case false=>simp only[go_sem,seval]
 case true=>
 have hl:p.kids.length=q.kids.length:=by have:=aU b7;omega
 refine Wk ?_
 refine aX p.kids (λd r env hp=>hp.get 1=some (0,.blk [.str p.op.bs,.int .i64 p.num,.int .i64 p.value,.str p.name.bs,.sl p.at_.nl (p.at_.es.map Lin.av) p.at_.cl,.bool p.dyn,.int .i64 p.check,.sl p.fn.nl (p.fn.es.map aI.av) p.fn.cl,.sl p.knl (p.kids.map aE.av) p.kcl] 9 true true false) /\
   hp.get 5=some (0,.blk [.str q.op.bs,.int .i64 q.num,.int .i64 q.value,.str q.name.bs,.sl q.at_.nl (q.at_.es.map Lin.av) q.at_.cl,.bool q.dyn,.int .i64 q.check,.sl q.fn.nl (q.fn.es.map aI.av) q.fn.cl,.sl q.knl (q.kids.map aE.av) q.kcl] 9 true true false) /\
   env=yG (.pt 1 0 0) (.pt 5 0 0) (.int .i64 d.length)/\eqL cB p.kids q.kids=eqL cB r (q.kids.drop d.length)) ?_ ?_ ?_
 exact⟨rfl,rfl,rfl,rfl⟩;rintro env hp ⟨g1,g5,rfl,hI⟩;simp only[yF,yG,g1,bA,go_sem,seval];rw[hI,iK hl];rintro d x r env hp hes ⟨g1,g5,rfl,hI⟩;obtain⟨hget,e1,e2,ew⟩:=cG hes hk;obtain⟨y,gy,f1,f2,hq⟩:=uG (q:=cB) hes hl;rw[hq]at hI;rw[hI];clear hI a1 a2;have hx:x∈p.kids:=by rw[hes];simp
 have a3:=ih x hx (hks x hx) y;clear ih hks;simp only[yF,yG,g1,g5,hget,e1,e2,gy,f1,f2,go_sem,seval];refine aG a3 ?_;cases hxy:cB x y;refine Wk ?_;kernel_rfl;simp only[ew,go_sem,seval];exact⟨by kernel_rfl,g1,g5,rfl⟩
end
end
section
theorem bB{op:List UInt8}{p:KY}{r:AV}(h:j8 op=some p)(hr:∃nl cl,r = .tup [.sl nl (p.params.map .str) cl,.str p.result,.bool true]):mM op r:=by simp only[mM,h];exact hr
theorem BW{op:List UInt8}{r:AV}(h:j8 op=none)(hr:r = .tup [.sl true [] true,.str [],.bool false]):mM op r:=by simp only[mM,h];exact hr
section
variable{pg:Pg}
theorem c125(hf:pg.fs 125=some A6)(op:List UInt8):cW pg 125 [.str op] (mM op):=by
 refine cW.ofX hf ?_;unfold A6;cases b0:decide (op=[97,100,100])
 case true=>have hop:op=[97,100,100]:=aU b0;simp only[b0,go_sem,seval];subst hop;exact bB rfl ⟨_,_,rfl⟩
 case false=>
 cases b1:decide (op=[115,117,98])
 case true=>have hop:op=[115,117,98]:=aU b1;simp only[b0,b1,go_sem,seval];subst hop;exact bB rfl ⟨_,_,rfl⟩
 case false=>
 cases b2:decide (op=[109,117,108])
 case true=>have hop:op=[109,117,108]:=aU b2;simp only[b0,b1,b2,go_sem,seval];subst hop;exact bB rfl ⟨_,_,rfl⟩
 case false=>
 cases b3:decide (op=[100,105,118])
 case true=>have hop:op=[100,105,118]:=aU b3;simp only[b0,b1,b2,b3,go_sem,seval];subst hop;exact bB rfl ⟨_,_,rfl⟩
 case false=>
 cases b4:decide (op=[109,111,100])
 case true=>have hop:op=[109,111,100]:=aU b4;simp only[b0,b1,b2,b3,b4,go_sem,seval];subst hop;exact bB rfl ⟨_,_,rfl⟩
 case false=>
 cases b5:decide (op=[109,105,110])
 case true=>have hop:op=[109,105,110]:=aU b5;simp only[b0,b1,b2,b3,b4,b5,go_sem,seval];subst hop;exact bB rfl ⟨_,_,rfl⟩
 case false=>
 cases b6:decide (op=[109,97,120])
 case true=>have hop:op=[109,97,120]:=aU b6;simp only[b0,b1,b2,b3,b4,b5,b6,go_sem,seval];subst hop;exact bB rfl ⟨_,_,rfl⟩
 case false=>
 cases b7:decide (op=[110,101,103])
 case true=>have hop:op=[110,101,103]:=aU b7;simp only[b0,b1,b2,b3,b4,b5,b6,b7,go_sem,seval];subst hop;exact bB rfl ⟨_,_,rfl⟩
 case false=>
 cases b8:decide (op=[97,98,115])
 case true=>have hop:op=[97,98,115]:=aU b8;simp only[b0,b1,b2,b3,b4,b5,b6,b7,b8,go_sem,seval];subst hop;exact bB rfl ⟨_,_,rfl⟩
 case false=>
 cases b9:decide (op=[115,105,103,110])
 case true=>have hop:op=[115,105,103,110]:=aU b9;simp only[b0,b1,b2,b3,b4,b5,b6,b7,b8,b9,go_sem,seval];subst hop;exact bB rfl ⟨_,_,rfl⟩
 case false=>
 cases b10:decide (op=[108,116])
 case true=>have hop:op=[108,116]:=aU b10;simp only[b0,b1,b2,b3,b4,b5,b6,b7,b8,b9,b10,go_sem,seval];subst hop;exact bB rfl ⟨_,_,rfl⟩
 case false=>
 cases b11:decide (op=[108,101])
 case true=>have hop:op=[108,101]:=aU b11;simp only[b0,b1,b2,b3,b4,b5,b6,b7,b8,b9,b10,b11,go_sem,seval];subst hop;exact bB rfl ⟨_,_,rfl⟩
 case false=>
 cases b12:decide (op=[103,116])
 case true=>have hop:op=[103,116]:=aU b12;simp only[b0,b1,b2,b3,b4,b5,b6,b7,b8,b9,b10,b11,b12,go_sem,seval];subst hop;exact bB rfl ⟨_,_,rfl⟩
 case false=>
 cases b13:decide (op=[103,101])
 case true=>have hop:op=[103,101]:=aU b13;simp only[b0,b1,b2,b3,b4,b5,b6,b7,b8,b9,b10,b11,b12,b13,go_sem,seval];subst hop;exact bB rfl ⟨_,_,rfl⟩
 case false=>
 cases b14:decide (op=[101,113])
 case true=>have hop:op=[101,113]:=aU b14;simp only[b0,b1,b2,b3,b4,b5,b6,b7,b8,b9,b10,b11,b12,b13,b14,go_sem,seval];subst hop;exact bB rfl ⟨_,_,rfl⟩
 case false=>
 cases b15:decide (op=[110,101])
 case true=>have hop:op=[110,101]:=aU b15;simp only[b0,b1,b2,b3,b4,b5,b6,b7,b8,b9,b10,b11,b12,b13,b14,b15,go_sem,seval];subst hop;exact bB rfl ⟨_,_,rfl⟩
 case false=>
 cases b16:decide (op=[97,110,100])
 case true=>have hop:op=[97,110,100]:=aU b16;simp only[b0,b1,b2,b3,b4,b5,b6,b7,b8,b9,b10,b11,b12,b13,b14,b15,b16,go_sem,seval];subst hop;exact bB rfl ⟨_,_,rfl⟩
 case false=>
 cases b17:decide (op=[111,114])
 case true=>have hop:op=[111,114]:=aU b17;simp only[b0,b1,b2,b3,b4,b5,b6,b7,b8,b9,b10,b11,b12,b13,b14,b15,b16,b17,go_sem,seval];subst hop;exact bB rfl ⟨_,_,rfl⟩
 case false=>
 cases b18:decide (op=[120,111,114])
 case true=>have hop:op=[120,111,114]:=aU b18;simp only[b0,b1,b2,b3,b4,b5,b6,b7,b8,b9,b10,b11,b12,b13,b14,b15,b16,b17,b18,go_sem,seval];subst hop;exact bB rfl ⟨_,_,rfl⟩
 case false=>
 cases b19:decide (op=[110,111,116])
 case true=>have hop:op=[110,111,116]:=aU b19;simp only[b0,b1,b2,b3,b4,b5,b6,b7,b8,b9,b10,b11,b12,b13,b14,b15,b16,b17,b18,b19,go_sem,seval];subst hop;exact bB rfl ⟨_,_,rfl⟩
 case false=>
 cases b20:decide (op=[115,101,108,101,99,116])
 case true=>have hop:op=[115,101,108,101,99,116]:=aU b20;simp only[b0,b1,b2,b3,b4,b5,b6,b7,b8,b9,b10,b11,b12,b13,b14,b15,b16,b17,b18,b19,b20,go_sem,seval];subst hop;exact bB rfl ⟨_,_,rfl⟩
 case false=>
 cases b21:decide (op=[116,111,105,110,116])
 case true=>have hop:op=[116,111,105,110,116]:=aU b21;simp only[b0,b1,b2,b3,b4,b5,b6,b7,b8,b9,b10,b11,b12,b13,b14,b15,b16,b17,b18,b19,b20,b21,go_sem,seval];subst hop;exact bB rfl ⟨_,_,rfl⟩
 case false=>
 simp only[b0,b1,b2,b3,b4,b5,b6,b7,b8,b9,b10,b11,b12,b13,b14,b15,b16,b17,b18,b19,b20,b21,go_sem,seval];refine BW ?_ rfl;have n0:decide ([97,100,100]=op)=false:=by rw[<-b0,cA];exact eq_comm
 have n1:decide ([115,117,98]=op)=false:=by rw[<-b1,cA];exact eq_comm
 have n2:decide ([109,117,108]=op)=false:=by rw[<-b2,cA];exact eq_comm
 have n3:decide ([100,105,118]=op)=false:=by rw[<-b3,cA];exact eq_comm
 have n4:decide ([109,111,100]=op)=false:=by rw[<-b4,cA];exact eq_comm
 have n5:decide ([109,105,110]=op)=false:=by rw[<-b5,cA];exact eq_comm
 have n6:decide ([109,97,120]=op)=false:=by rw[<-b6,cA];exact eq_comm
 have n7:decide ([110,101,103]=op)=false:=by rw[<-b7,cA];exact eq_comm
 have n8:decide ([97,98,115]=op)=false:=by rw[<-b8,cA];exact eq_comm
 have n9:decide ([115,105,103,110]=op)=false:=by rw[<-b9,cA];exact eq_comm
 have n10:decide ([108,116]=op)=false:=by rw[<-b10,cA];exact eq_comm
 have n11:decide ([108,101]=op)=false:=by rw[<-b11,cA];exact eq_comm
 have n12:decide ([103,116]=op)=false:=by rw[<-b12,cA];exact eq_comm
 have n13:decide ([103,101]=op)=false:=by rw[<-b13,cA];exact eq_comm
 have n14:decide ([101,113]=op)=false:=by rw[<-b14,cA];exact eq_comm
 have n15:decide ([110,101]=op)=false:=by rw[<-b15,cA];exact eq_comm
 have n16:decide ([97,110,100]=op)=false:=by rw[<-b16,cA];exact eq_comm
 have n17:decide ([111,114]=op)=false:=by rw[<-b17,cA];exact eq_comm
 have n18:decide ([120,111,114]=op)=false:=by rw[<-b18,cA];exact eq_comm
 have n19:decide ([110,111,116]=op)=false:=by rw[<-b19,cA];exact eq_comm
 have n20:decide ([115,101,108,101,99,116]=op)=false:=by rw[<-b20,cA];exact eq_comm
 have n21:decide ([116,111,105,110,116]=op)=false:=by rw[<-b21,cA];exact eq_comm
 simp only[j8,zA,List.find?_cons,List.find?_nil,n0,n1,n2,n3,n4,n5,n6,n7,n8,n9,n10,n11,n12,n13,n14,n15,n16,n17,n18,n19,n20,n21]
theorem yT(n:Int)(s:aI)(r:List aI):cI n (s::r)=(lE s n&&cI (n+1) r):=rfl
set_option maxHeartbeats 1000000 in
theorem BE(h124:pg.fs 124=some mJ)(h125:∀op,cW pg 125 [.str op] (mM op))(nl cl:Bool)(fn:List aI)(hb:fn.length<=big)(n:Int)(g1:0<=n)(g2:n<=20)(g3:(fn.length:Int)<=60)
  (d:List aI) (x:aI) (r:List aI) (hp:Hp) (hes:fn=d++x::r) (hI:cI n fn=cI (n+d.length) (x::r)) :
  XX pg 0 j4 ⟨hY (.sl nl (fn.map aI.av) cl) (.int .i64 n) (.int .i64 d.length),hp⟩
   (iT (λst'=>clear JC st'.env=hY (.sl nl (fn.map aI.av) cl) (.int .i64 n) (.int .i64 (d++[x]).length)/\cI n fn=cI (n+(d++[x]).length) r)
    (kX 0 (iT (λst'=>XX pg 0 (.seq (.reg [⟨some 4,.mov,[.c (.bool true)],none,0,0⟩] false) .ret) st' (AH [.inl 4] (.bool (cI n fn))) ⟨⟩) (AH [.inl 4] (.bool (cI n fn)))))) ⟨⟩:=by
 obtain⟨hget,e1,e2,ew⟩:=cG hes hb;rw[yT]at hI;have en:n+((d++[x]).length:Int)=n+d.length+1:=by simp;omega
 have hdl:d.length<fn.length:=by rw[hes];simp
 have hw:wr .i64 (n+(d.length:Int))=n+d.length:=j5 (by omega) (by omega);rw[en];rw[hI];clear hI;cases o1:decide (x.op.bs=[99,111,110,115,116])
 case true=>
  have hs:lE x (n+d.length)=(decide ((x.args.es.length:Int)=0)&&jP x.num):=by simp[lE,aU o1]
  rw[hs];cases o2:decide ((x.args.es.length:Int)=0)
  case false=>simp only[j4,hY,e1,e2,hget,o1,o2,go_sem,seval]
  case true=>simp only[j4,hY,e1,e2,hget,o1,o2,go_sem,seval];refine aG (aEj h124 x.num) ?_;cases o3:jP x.num;simp only[go_sem,seval];simp only[ew,go_sem,seval];rfl
 case false=>
 cases o2:decide (x.op.bs=[116,114,117,116,104])
 case true=>
  have hs:lE x (n+d.length)=(decide ((x.args.es.length:Int)=0)&&nN x.num):=by have h1:=aU o2;simp[lE,h1]
  rw[hs];cases o3:decide ((x.args.es.length:Int)=0)
  case false=>simp only[j4,hY,e1,e2,hget,o1,o2,o3,go_sem,seval]
  case true=>simp only[j4,hY,e1,e2,hget,o1,o2,o3,go_sem,seval];refine aG (aQd h124 x.num) ?_;cases o4:nN x.num;simp only[go_sem,seval];simp only[ew,go_sem,seval];rfl
 case false=>
 obtain⟨rr,hr,hP⟩:=h125 x.op.bs
 have hs:lE x (n+d.length)=(match j8 x.op.bs with
  |none=>false
  |some p=>lU x.args.es (n+d.length)&&decide (x.num=0)&&decide ((x.args.es.length:Int)=(p.params.length:Int))):=by
  have h1:=bW o1;have h2:=bW o2;simp only[lE,h1,h2,if_false];rfl
 rw[hs];clear hs;simp only[mM]at hP;cases hpt:j8 x.op.bs with
 |none=>rw[hpt]at hP;dsimp only at hP;subst hP;simp only[j4,hY,e1,e2,hget,o1,o2,go_sem,seval];refine aG hr ?_;simp only[go_sem,seval]
 |some p=>
  rw[hpt]at hP;dsimp only at hP;obtain⟨nl2,cl2,rfl⟩:=hP;dsimp only;simp only[j4,hY,e1,e2,hget,o1,o2,go_sem,seval];refine aG hr ?_;cases o3:decide ((x.args.es.length:Int)=(p.params.length:Int))
  case false=>simp only[o3,go_sem,seval]
  case true=>
  cases o4:decide (x.num=0)
  case false=>simp only[o3,o4,go_sem,seval]
  case true=>
  simp only[o3,o4,go_sem,seval];have hab:=x.args.ok
  refine aX x.args.es (λd2 r2 env hp2=>env=sM (.sl nl (fn.map aI.av) cl) (.int .i64 n) (.int .i64 d.length) (.pt 1 (hp.next 1) 0) (.int .i64 d2.length) /\
   hp2.get 1=some (hp.next 1,.blk [.str x.op.bs,.int .i64 x.num,.sl x.args.nl (x.args.es.map bE) x.args.cl] 3 true true false)/\lU x.args.es (n+d.length)=lU r2 (n+d.length)) ?_ ?_ ?_
  refine⟨rfl,?_,rfl⟩;simp only[go_sem,seval];rintro env hp2 ⟨rfl,h1,hI⟩;simp only[sL,sM,h1,bA,ew,go_sem,seval];refine⟨rfl,?_⟩;rw[hI];simp[lU]
  ·rintro d2 a r2 env hp2 he2 ⟨rfl,h1,hI⟩;obtain⟨hget2,f1,f2,fw⟩:=cG he2 hab;have hI2:lU x.args.es (n+d.length)=((decide (0<=a)&&decide (a<n+d.length))&&lU r2 (n+d.length)):=by rw[hI];simp[lU]
   rw[hI2];clear hI hI2;cases q1:decide (a<0)
   case true=>
    have:decide (0<=a)=false:=by simp at q1 ⊢;omega
    simp only[sL,sM,h1,f1,f2,hget2,q1,this,go_sem,seval]
   case false=>
   cases q2:decide (n+(d.length:Int)<=a)
   case true=>
    have:decide (a<n+d.length)=false:=by simp at q2 ⊢;omega
    simp only[sL,sM,h1,f1,f2,hget2,q1,hw,q2,this,go_sem,seval]
   case false=>
    have h3:decide (0<=a)=true:=by simp at q1 ⊢;omega
    have h4:decide (a<n+d.length)=true:=by simp at q2 ⊢;omega
    simp only[sL,sM,h1,f1,f2,hget2,q1,hw,q2,h3,h4,fw,go_sem,seval];rfl
set_option maxHeartbeats 1000000 in
theorem c87(hf:pg.fs 87=some JD)(h124:pg.fs 124=some mJ)(h125:∀op,cW pg 125 [.str op] (mM op))(nl cl:Bool)(fn:List aI)(hb:fn.length<=big)(n:Int) :
  Ret pg 87 [.sl nl (fn.map aI.av) cl,.int .i64 n] (.bool (cN fn n)):=by
 refine Ret.ofX hf ?_;unfold JD;cases h1:decide (n<0)
 case true=>
  simp only[h1,go_sem,seval];have:decide (0<=n)=false:=by simp at h1 ⊢;omega
  simp[cN,this]
 case false=>
 cases h2:decide (20<n)
 case true=>
  simp only[h1,h2,go_sem,seval];have:decide (n<=20)=false:=by simp at h2 ⊢;omega
  simp[cN,this]
 case false=>
 cases h3:decide (60<(fn.length:Int))
 case true=>
  simp only[h1,h2,h3,go_sem,seval];have:decide ((fn.length:Int)<=60)=false:=by simp at h3 ⊢;omega
  simp[cN,this]
 case false=>
 have g1:=bW h1;have g2:=bW h2;have g3:=bW h3;have hspec:decide (n+(fn.length:Int)=0)=false->cN fn n=cI n fn:=by
  intro h4;have e1:decide (0<=n)=true:=by simp;omega
  have e2:decide (n<=20)=true:=by simp;omega
  have e3:decide ((fn.length:Int)<=60)=true:=by simp;omega
  simp[cN,h4,e1,e2,e3]
 cases h4:decide (n=0)
 case true=>
  cases h5:decide ((fn.length:Int)=0)
  case true=>
   simp only[h1,h2,h3,h4,h5,go_sem,seval];have:decide (n+(fn.length:Int)=0)=true:=by simp at h4 h5 ⊢;simp[h4,h5]
   simp[cN,this]
  case false=>have hs:=hspec (by simp at h4 h5 ⊢;subst h4;simpa using h5);rw[hs];clear hs hspec;simp only[h1,h2,h3,h4,h5,go_sem,seval];refine aX fn (λd r env hp=>env=hY (.sl nl (fn.map aI.av) cl) (.int .i64 n) (.int .i64 d.length)/\cI n fn=cI (n+d.length) r) ?_ ?_ ?_;exact⟨rfl,by simp⟩;rintro env hp ⟨rfl,hI⟩;simp only[j4,hY,bA,go_sem,seval];rw[hI];rfl;rintro d x r env hp hes ⟨rfl,hI⟩;exact BE h124 h125 nl cl fn hb n (by omega) (by omega) (by omega) d x r hp hes hI
 case false=>have hs:=hspec (by simp at h4 ⊢;omega);rw[hs];clear hs hspec;simp only[h1,h2,h3,h4,go_sem,seval];refine aX fn (λd r env hp=>env=hY (.sl nl (fn.map aI.av) cl) (.int .i64 n) (.int .i64 d.length)/\cI n fn=cI (n+d.length) r) ?_ ?_ ?_;exact⟨rfl,by simp⟩;rintro env hp ⟨rfl,hI⟩;simp only[j4,hY,bA,go_sem,seval];rw[hI];rfl;rintro d x r env hp hes ⟨rfl,hI⟩;exact BE h124 h125 nl cl fn hb n (by omega) (by omega) (by omega) d x r hp hes hI
end
end
end Go.Tev
