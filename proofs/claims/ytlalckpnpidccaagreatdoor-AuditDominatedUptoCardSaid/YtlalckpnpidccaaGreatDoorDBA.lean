import Derived.Test.YtlalckpnpidccaaGreatDoorDAZ
set_option linter.all false
namespace Go.Tev
section
def lk(l:List aD)(s:List UInt8):Int:=((l.find? λx=>decide (s=jn x)).map λx=>x.c).getD 0
def pE(p q:List aD):Bool:=p.all λx => !decide (lk q (jn x)<x.c)
def n7(p q:List aD):Bool:=q.all λy => !decide (y.c<lk p (jn y))
theorem zG:∀(l:List (AV×AV))(i j:Nat),fQ l (List.range' i l.length) (i+j)=l[j]?
 |[],i,j=>by simp[fQ]
 |x::r,i,0=>by simp[fQ,List.range'_succ]
 |x::r,i,j+1=>by have ih:=zG r (i+1) j;rw[List.length_cons,List.range'_succ];simp only[fQ];rw[if_neg (by omega),List.getElem?_cons_succ,<-ih];congr 1;omega
theorem zF(l:List aD)(a:Nat):fQ (kv l) (List.range l.length) a=(l[a]?).map λx=>(AV.str (jn x),AV.int .i64 x.c):=by
 have:=zG (kv l) 0 a;rw[Nat.zero_add]at this;rw[List.range_eq_range',<-List.getElem?_map];have hl:(kv l).length=l.length:=by simp[kv]
 rw[hl]at this;exact this
theorem C0(l:List aD)(s:List UInt8):(cV (kv l) (.str s)=some none/\lk l s=0)\/cV (kv l) (.str s)=some (some (.int .i64 (lk l s))):=by rw[v6];unfold lk;cases l.find? λx=>decide (s=jn x);exact .inl ⟨rfl,rfl⟩;exact .inr rfl
theorem lA{h:Hp}{kb k:Nat}(ha:h.all (inK kb)=true)(h1:k≠kb+1)(h2:k≠kb+5):h.get k=none:=by
 induction h with
 |nil=>rfl
 |cons x r ih=>simp only[List.all_cons,aA,inK,Bool.or_eq_true,beq_iff_eq]at ha;simp only[Hp.get];rw[if_neg (by omega)];exact ih ha.2
theorem tM{n a:Nat}{seen:List Nat}(h:a∈fV (List.range n) seen):a<n:=by have:=List.mem_filter.1 h;simpa using this.1
section
variable{pg:Pg}
set_option maxRecDepth 100000 in
theorem aAP(P Q:Sl aD)(H:Hp)(gA:H.get 655361=some (0,.mpo (kv P.es) (List.range P.es.length) P.es.length))(gB:H.get 917505=some (0,.mpo (kv Q.es) (List.range Q.es.length) Q.es.length))(g21:H.get 21=none) :
  XX pg 0 ((C.reg [⟨some 35,.mov,[.t 6],none,0,0⟩,⟨some 36,.rng,[.t 35],none,0,21⟩] false).mq 2 36 37 38 2 xQ DE ((C.reg [⟨some 4,.mov,[.c (.bool true)],none,0,0⟩] false).seq C.ret) cf675K0 [])
   ⟨[.top,.top,.top,.top,.top,.mp 655361 0,.mp 917505 0]++List.replicate 17 .top++[.pt 17 0 0,.tup [.bool false],.bool false]++List.replicate 20 .top,H.put 17 0 .dead⟩
   (λy s=>mX 0 cf675K1 [] (y,s)=(.ret,⟨[.top,.top,.top,.top,.bool (n7 P.es Q.es)]++List.replicate 42 .top,(H.put 17 0 .dead).put 21 0 .dead⟩)) ⟨⟩:=by
 have hA:(H.put 17 0 .dead).get 655361=some (0,.mpo (kv P.es) (List.range P.es.length) P.es.length):=by rw[aG,if_neg (by decide)];exact gA
 have hB:(H.put 17 0 .dead).get 917505=some (0,.mpo (kv Q.es) (List.range Q.es.length) Q.es.length):=by rw[aG,if_neg (by decide)];exact gB
 have h21:(H.put 17 0 .dead).get 21=none:=by rw[aG,if_neg (by decide)];exact g21
 generalize H.put 17 0 .dead=H at hA hB h21 ⊢;have n21:H.next 21=0:=by simp only[Hp.next,h21]
 refine SR (.ret,⟨[.top,.top,.top,.top,.bool (n7 P.es Q.es)]++List.replicate 42 .top,H.put 21 0 .dead⟩)
  (λm env hp=>∃seen:List Nat,env=xS (.mp 655361 0) (.pt 21 0 0)/\hp=H.put 21 0 (.itr 917505 0 Q.es.length seen Q.es.length)/\m=(fV (List.range Q.es.length) seen).length/\∀i∈seen,∀y,Q.es[i]?=some y->¬y.c<lk P.es (jn y)) ?_ ?_ ?_
 simp only[List.replicate_succ,List.replicate_zero,List.cons_append,List.nil_append];simp only[hB,n21,go_sem,seval];refine⟨_,[],rfl,rfl,rfl,?_⟩;intro i hi;cases hi
 ·rintro m env hp ⟨seen,rfl,rfl,rfl,hok⟩;refine⟨(by decide:37<47),(by decide:38<47),21,0,fV (List.range Q.es.length) seen,(λb => .itr 917505 0 Q.es.length (seen++[b]) Q.es.length),rfl,?_,rfl,?_,?_⟩;exact yS (by rw[aG,if_pos rfl]) (by rw[aG,if_neg (by decide)];exact hB) (Nat.le_refl _)
  ·intro hl;have hdB:n7 P.es Q.es=true:=by rw[n7,bT];intro x hx;obtain⟨i,hi,rfl⟩:=List.getElem_of_mem hx;have:=hok i (y9 hl (List.mem_range.2 hi)) _ (aY hi);simpa using this
   refine nJ.nor (h':=H.put 21 0 .dead) ?_ ?_;exact(m0 (by rw[aG,if_pos rfl])).trans (by rw[jQ]);unfold xS
   try simp only[aFB]
   simp only[List.set_cons_succ,List.set_cons_zero];rw[hdB];refine Wk ?_;rfl
  ·intro a ha;have han:=tM ha;obtain⟨x,hx⟩:∃x,Q.es[a]?=some x:=⟨_,aY han⟩
   have hfb:fQ (kv Q.es) (List.range Q.es.length) a=some (.str (jn x),.int .i64 x.c):=by rw[zF,hx];rfl
   have hle:=tK List.nodup_range ha;have hent:=zK (h:=H.put 21 0 (.itr 917505 0 Q.es.length (seen++[a]) Q.es.length)) (k:=21) (e:=0) (by rw[aG,if_pos rfl]) (by rw[aG,if_neg (by decide)];exact hB) hfb;have hall:∀i∈seen++[a],∀y,Q.es[i]?=some y->¬x.c<lk P.es (jn x)->¬y.c<lk P.es (jn y):=by
    intro i hi y hy hx2;rcases fK.1 hi with hi|hi;exact hok i hi y hy;obtain rfl:i=a:=by simpa using hi
    rw[hx]at hy;cases hy;exact hx2
   unfold xS xQ
   try simp only[aFB]
   simp only[List.set_cons_succ,List.set_cons_zero,jQ];rcases C0 P.es (jn x) with ⟨hm,hl0⟩|hm
   all_goals
    cases b:decide (x.c<lk P.es (jn x))
    ·have b':=b
     try rw[hl0]at b'
     simp only[hent,aG,hA,hm,b,b',go_sem,seval];refine .inl ⟨_,hle,seen++[a],rfl,rfl,rfl,?_⟩;intro i hi y hy;exact hall i hi y hy (cF b)
    ·have b':=b
     try rw[hl0]at b'
     simp only[hent,aG,hA,hm,b,b',go_sem,seval];have hdB:n7 P.es Q.es=false:=by rw[n7,List.all_eq_false];refine⟨x,List.mem_of_getElem? hx,?_⟩;simp[bU b]
     rw[hdB];refine .inr (nJ.ret (h':=H.put 21 0 .dead) ?_ rfl);exact(m0 (by rw[aG,if_pos rfl])).trans (by rw[jQ])
 rfl
set_option maxRecDepth 100000 in
theorem c675(hf:pg.fs 675=some AB)(h522:pg.fs 522=none)(he:pg.ex 522=some jC)(h693:pg.fs 693=some uP)(P Q:Sl aD)(h692:∀P:Sl aD,Ret pg 692 [.sl P.nl (P.es.map aD.av) P.cl] (.bool (aN P.es)))
  (hj:∀P:Sl aD,aN P.es=true->(∀x∈P.es,(jn x).length<=140737488355328)/\(P.es.map jn).Nodup) :
  Ret pg 675 [P.av aD.av,Q.av aD.av] (.bool (aN P.es&&aN Q.es&&(pE P.es Q.es&&n7 P.es Q.es))):=by
 have tm:∀l:List aD,treeL (l.map aD.av)=true:=by intro l;refine aQ (λx=>?_) l;have:=aQ (f:=Str.av) (λ_=>rfl) x.vs.es;simp only[aD.av,Sl.av];simp only[this,go_sem,seval]
 have t1:∀P:Sl aD,treeL [.sl P.nl (P.es.map aD.av) P.cl]=true:=λP=>by simp only[tm P.es,go_sem,seval]
 refine Ret.ofX hf ?_;unfold AB;simp only[Sl.av,go_sem,seval];refine bQ (h692 P) (t1 P) rfl ?_;cases v1:aN P.es
 case false=>simp only[go_sem,seval]
 refine Wk ?_;refine bQ (h692 Q) (t1 Q) rfl ?_;cases v2:aN Q.es
 case false=>simp only[go_sem,seval]
 refine Wk ?_;obtain⟨lp,np⟩:=hj P v1;obtain⟨lq,nq⟩:=hj Q v2;obtain⟨r1,H1,e1,rfl,a1,i1,g1⟩:=c693 h693 h522 he P lp np 655360;refine AJ (t1 P) e1 (gD a1) (λx _=>rfl) ?_;obtain⟨r2,H2,e2,rfl,a2,i2,g2⟩:=c693 h693 h522 he Q lq nq 917504;refine Wk ?_;refine AJ (t1 Q) e2 (gD a2) (λx hx=>?_) ?_;have:=bT.1 i2 x hx;simp only[inK,Bool.or_eq_true,beq_iff_eq]at this;show (bB [] H1).get x.k=none;rw[cE _ (gD a1),lA i1 (by omega) (by omega)];rfl
 have gt:∀k,(Eff.app (Eff.app [] (Eff.pat (H1.map (·.k)) H1)) (Eff.pat (H2.map (·.k)) H2)).get k=match H2.get k with|some p=>some p|none=>match H1.get k with|some p=>some p|none=>none:=by intro k;show (bB (bB [] H1) H2).get k=_;rw[cE _ (gD a2),cE _ (gD a1)];rfl
 generalize Eff.app (Eff.app [] (Eff.pat (H1.map (·.k)) H1)) (Eff.pat (H2.map (·.k)) H2)=H at gt ⊢;have gA:H.get 655361=some (0,.mpo (kv P.es) (List.range P.es.length) P.es.length):=by rw[gt,lA i2 (by omega) (by omega),g1]
 have gB:H.get 917505=some (0,.mpo (kv Q.es) (List.range Q.es.length) Q.es.length):=by rw[gt,g2]
 have g17:H.get 17=none:=by rw[gt,lA i2 (by omega) (by omega),lA i1 (by omega) (by omega)]
 have g21:H.get 21=none:=by rw[gt,lA i2 (by omega) (by omega),lA i1 (by omega) (by omega)]
 have n17:H.next 17=0:=by simp only[Hp.next,g17]
 clear gt e1 e2 a1 a2 i1 i2 g1 g2;refine Wk ?_;refine SR (.ret,⟨[.top,.top,.top,.top,.bool (pE P.es Q.es&&n7 P.es Q.es)]++List.replicate 42 .top,if pE P.es Q.es then (H.put 17 0 .dead).put 21 0 .dead else H.put 17 0 .dead⟩)
  (λm env hp=>∃seen:List Nat,env=xR (.mp 655361 0) (.mp 917505 0) (.pt 17 0 0)/\hp=H.put 17 0 (.itr 655361 0 P.es.length seen P.es.length)/\m=(fV (List.range P.es.length) seen).length/\∀i∈seen,∀x,P.es[i]?=some x->¬lk Q.es (jn x)<x.c) ?_ ?_ ?_
 simp only[gA,n17,go_sem,seval];refine⟨_,[],rfl,rfl,rfl,?_⟩;intro i hi;cases hi
 ·rintro m env hp ⟨seen,rfl,rfl,rfl,hok⟩;refine⟨(by decide:25<47),(by decide:26<47),17,0,fV (List.range P.es.length) seen,(λb => .itr 655361 0 P.es.length (seen++[b]) P.es.length),rfl,?_,rfl,?_,?_⟩;exact yS (by rw[aG,if_pos rfl]) (by rw[aG,if_neg (by decide)];exact gA) (Nat.le_refl _)
  ·intro hl;have hdA:pE P.es Q.es=true:=by rw[pE,bT];intro x hx;obtain⟨i,hi,rfl⟩:=List.getElem_of_mem hx;have:=hok i (y9 hl (List.mem_range.2 hi)) _ (aY hi);simpa using this
   rw[hdA,Bool.true_and,if_pos rfl];refine nJ.nor (h':=H.put 17 0 .dead) ?_ ?_;exact(m0 (by rw[aG,if_pos rfl])).trans (by rw[jQ]);unfold xR
   try simp only[aFB]
   simp only[List.set_cons_succ,List.set_cons_zero];exact aAP P Q H gA gB g21
  ·intro a ha;have han:=tM ha;obtain⟨x,hx⟩:∃x,P.es[a]?=some x:=⟨_,aY han⟩
   have hfb:fQ (kv P.es) (List.range P.es.length) a=some (.str (jn x),.int .i64 x.c):=by rw[zF,hx];rfl
   have hle:=tK List.nodup_range ha;have hent:=zK (h:=H.put 17 0 (.itr 655361 0 P.es.length (seen++[a]) P.es.length)) (k:=17) (e:=0) (by rw[aG,if_pos rfl]) (by rw[aG,if_neg (by decide)];exact gA) hfb;have hall:∀i∈seen++[a],∀y,P.es[i]?=some y->¬lk Q.es (jn x)<x.c->¬lk Q.es (jn y)<y.c:=by
    intro i hi y hy hx2;rcases fK.1 hi with hi|hi;exact hok i hi y hy;obtain rfl:i=a:=by simpa using hi
    rw[hx]at hy;cases hy;exact hx2
   unfold xR DF
   try simp only[aFB]
   simp only[List.set_cons_succ,List.set_cons_zero,jQ];rcases C0 Q.es (jn x) with ⟨hm,hl0⟩|hm
   all_goals
    cases b:decide (lk Q.es (jn x)<x.c)
    ·have b':=b
     try rw[hl0]at b'
     simp only[hent,aG,gB,hm,b,b',go_sem,seval];refine .inl ⟨_,hle,seen++[a],rfl,rfl,rfl,?_⟩;intro i hi y hy;exact hall i hi y hy (cF b)
    ·have b':=b
     try rw[hl0]at b'
     simp only[hent,aG,gB,hm,b,b',go_sem,seval];have hdA:pE P.es Q.es=false:=by rw[pE,List.all_eq_false];refine⟨x,List.mem_of_getElem? hx,?_⟩;simp[bU b]
     rw[hdA];refine .inr (nJ.ret (h':=H.put 17 0 .dead) ?_ rfl);exact(m0 (by rw[aG,if_pos rfl])).trans (by rw[jQ])
 simp only[go_sem,seval]
end
end
section
def ck(l:List aD)(vs:List (List UInt8)):Int:=((l.find? λx=>decide (x.bs=vs)).map λx=>x.c).getD 0
section
variable{pg:Pg}
theorem c900(hf:pg.fs 900=some rQ)(a b:Sl Str):Ret pg 900 [.sl a.nl (a.es.map Str.av) a.cl,.sl b.nl (b.es.map Str.av) b.cl] (.bool (decide (a.es.map Str.bs=b.es.map Str.bs))):=by
 have hab:=a.ok;have hbb:=b.ok;refine Ret.ofX hf ?_;unfold rQ;cases hl:decide ((a.es.length:Int)=(b.es.length:Int))
 case false=>
  simp only[aE,hl,go_sem,seval]
  have:a.es.map Str.bs≠b.es.map Str.bs:=λh=>by have:=congrArg List.length h;simp only[aE]at this;have h2:=cF hl;omega
  simp[this]
 have hlen:a.es.length=b.es.length:=by have:=bU hl;omega
 simp only[aE,hl,go_sem,seval];refine bD a.es (λd r env hp=>env=wO (.sl a.nl (a.es.map Str.av) a.cl) (.sl b.nl (b.es.map Str.av) b.cl) (.int .i64 d.length)/\(a.es.map Str.bs=b.es.map Str.bs↔r.map Str.bs=(b.es.drop d.length).map Str.bs)) ?_ ?_ ?_;exact⟨rfl,by simp⟩;rintro env hp ⟨rfl,hq⟩;simp only[wN,wO,Int.lt_irrefl,aE,go_sem,seval];have:a.es.map Str.bs=b.es.map Str.bs:=hq.2 (by rw[hlen,List.drop_length]);simp[this];rintro d x r env hp hes ⟨rfl,hq⟩;rw[hes]at hab;have hx:a.es[d.length]?=some x:=by rw[hes];simp
 have hlt:d.length<a.es.length:=by rw[hes];simp
 have hy:b.es[d.length]?=some b.es[d.length]:=aY (by omega);rw[j5 (by omega:d.length<b.es.length)]at hq;generalize b.es[d.length]=y at hq hy;have h0:decide ((d.length:Int)<(a.es.length:Int))=true:=by simp;omega
 have hp0:(0:Int)<=(d.length:Int):=by omega
 simp only[List.map_cons,List.cons.injEq]at hq;simp only[wN,wO,aE,h0,hx,hy,hp0,Int.toNat_natCast,Option.map_some,Str.av,go_sem,seval];refine dJ ?_;cases h1:decide (x.bs=y.bs);refine Wk ?_;have:a.es.map Str.bs≠b.es.map Str.bs:=λh=>cF h1 (hq.1 h).1;simp[this];simp only[bI hab,go_sem,seval];have h2:=bU h1;have e:(d++[x]).length=d.length+1:=by simp
 refine⟨rfl,?_⟩;rw[e];exact⟨λh=>(hq.1 h).2,λh=>hq.2 ⟨h2,h⟩⟩
theorem c892(hf:pg.fs 892=some uK)(h900:pg.fs 900=some rQ)(P:Sl aD)(vs:Sl Str):Ret pg 892 [.sl P.nl (P.es.map aD.av) P.cl,.sl vs.nl (vs.es.map Str.av) vs.cl] (.int .i64 (ck P.es (vs.es.map Str.bs))):=by
 have hb:=P.ok;refine Ret.ofX hf ?_;unfold uK;refine Wk ?_;refine bD P.es (λd r env hp=>env=wS (.sl P.nl (P.es.map aD.av) P.cl) (.sl vs.nl (vs.es.map Str.av) vs.cl) (.int .i64 d.length)/\ck P.es (vs.es.map Str.bs)=ck r (vs.es.map Str.bs)) ?_ ?_ ?_;exact⟨rfl,rfl⟩;rintro env hp ⟨rfl,hq⟩;simp only[wR,wS,Int.lt_irrefl,aE,go_sem,seval];rw[hq];rfl;rintro d x r env hp hes ⟨rfl,hq⟩;rw[hes]at hb;have hx:P.es[d.length]?=some x:=by rw[hes];simp
 have h0:decide ((d.length:Int)<(P.es.length:Int))=true:=by rw[hes];simp;omega
 have hp0:(0:Int)<=(d.length:Int):=by omega
 have a900:=c900 h900 x.vs vs;simp only[ck,List.find?_cons]at hq;simp only[wR,wS,aE,h0,hx,hp0,Int.toNat_natCast,Option.map_some,aD.av,Sl.av,go_sem,seval];refine aP (a900) ?_;cases h1:decide (x.vs.es.map Str.bs=vs.es.map Str.bs);have h2:decide (x.bs=vs.es.map Str.bs)=false:=h1;rw[h2]at hq;simp only[bI hb,go_sem,seval]
 first|exact⟨rfl,hq⟩|exact hq
 have h2:decide (x.bs=vs.es.map Str.bs)=true:=h1;rw[h2]at hq;simp only[hx,hp0,Int.toNat_natCast,Option.map_some,aD.av,Sl.av,go_sem,seval];rw[ck,hq];rfl
set_option maxRecDepth 100000 in
theorem c885(hf:pg.fs 885=some zZ)(h892:pg.fs 892=some uK)(h900:pg.fs 900=some rQ)(P Q:Sl aD)(h690:∀P:Sl aD,Ret pg 690 [.sl P.nl (P.es.map aD.av) P.cl] (.bool (aN P.es))) :
  Ret pg 885 [P.av aD.av,Q.av aD.av] (.bool (aN P.es&&aN Q.es&&((P.es.all λx => !decide (ck Q.es x.bs<x.c))&&Q.es.all λy => !decide (y.c<ck P.es y.bs)))):=by
 have tm:∀l:List aD,treeL (l.map aD.av)=true:=by intro l;refine aQ (λx=>?_) l;have:=aQ (f:=Str.av) (λ_=>rfl) x.vs.es;simp only[aD.av,Sl.av];simp only[this,go_sem,seval]
 have ts:∀l:List Str,treeL (l.map Str.av)=true:=λl=>aQ (f:=Str.av) (λ_=>rfl) l;have hpb:=P.ok;have hqb:=Q.ok;refine Ret.ofX hf ?_;unfold zZ;simp only[Sl.av,go_sem,seval];refine bQ (h690 P) (by simp only[tm P.es,go_sem,seval]) rfl ?_;cases v1:aN P.es
 case false=>simp only[go_sem,seval]
 refine Wk ?_;refine bQ (h690 Q) (by simp only[tm Q.es,go_sem,seval]) rfl ?_;cases v2:aN Q.es
 case false=>simp only[go_sem,seval]
 refine Wk ?_;refine bD P.es (λd r env hp=>env=w8 (.sl P.nl (P.es.map aD.av) P.cl) (.sl Q.nl (Q.es.map aD.av) Q.cl) (.int .i64 d.length)/\(P.es.all λx => !decide (ck Q.es x.bs<x.c))=r.all λx => !decide (ck Q.es x.bs<x.c)) ?_ ?_ ?_;exact⟨rfl,rfl⟩;rintro env hp ⟨rfl,hq⟩;have hq1:(P.es.all λx => !decide (ck Q.es x.bs<x.c))=true:=by rw[hq];rfl
 rw[hq1];simp only[w6,w8,Int.lt_irrefl,aE,go_sem,seval];refine bD Q.es (λd r env hp=>env=w7 (.sl P.nl (P.es.map aD.av) P.cl) (.sl Q.nl (Q.es.map aD.av) Q.cl) (.int .i64 d.length)/\(Q.es.all λy => !decide (y.c<ck P.es y.bs))=r.all λy => !decide (y.c<ck P.es y.bs)) ?_ ?_ ?_;exact⟨rfl,rfl⟩;rintro env hp ⟨rfl,hq⟩;have hq2:(Q.es.all λy => !decide (y.c<ck P.es y.bs))=true:=by rw[hq];rfl
 rw[hq2];simp only[wZ,w7,Int.lt_irrefl,aE,go_sem,seval];rintro d x r env hp hes ⟨rfl,hq⟩;rw[hes]at hqb;have hx:Q.es[d.length]?=some x:=by rw[hes];simp
 have h0:decide ((d.length:Int)<(Q.es.length:Int))=true:=by rw[hes];simp;omega
 have hp0:(0:Int)<=(d.length:Int):=by omega
 have a892:=c892 h892 h900 P x.vs;have e:x.vs.es.map Str.bs=x.bs:=rfl;rw[e]at a892;simp only[List.all_cons]at hq;simp only[wZ,w7,aE,h0,hx,hp0,Int.toNat_natCast,Option.map_some,aD.av,Sl.av,go_sem,seval];refine bQ a892 (by simp only[tm P.es,ts x.vs.es,go_sem,seval]) rfl ?_;cases h1:decide (x.c<ck P.es x.bs);rw[h1]at hq;simp only[h1,hx,hp0,Int.toNat_natCast,Option.map_some,aD.av,Sl.av,go_sem,seval];refine dJ ?_;simp only[bI hqb,go_sem,seval]
 first|exact⟨rfl,hq⟩|exact hq
 rw[h1]at hq;simp only[h1,hx,hp0,Int.toNat_natCast,Option.map_some,aD.av,Sl.av,go_sem,seval];refine dJ ?_;rw[hq];rfl;rintro d x r env hp hes ⟨rfl,hq⟩;rw[hes]at hpb;have hx:P.es[d.length]?=some x:=by rw[hes];simp
 have h0:decide ((d.length:Int)<(P.es.length:Int))=true:=by rw[hes];simp;omega
 have hp0:(0:Int)<=(d.length:Int):=by omega
 have a892:=c892 h892 h900 Q x.vs;have e:x.vs.es.map Str.bs=x.bs:=rfl;rw[e]at a892;simp only[List.all_cons]at hq;simp only[w6,w8,aE,h0,hx,hp0,Int.toNat_natCast,Option.map_some,aD.av,Sl.av,go_sem,seval];refine bQ a892 (by simp only[tm Q.es,ts x.vs.es,go_sem,seval]) rfl ?_;cases h1:decide (ck Q.es x.bs<x.c);rw[h1]at hq;simp only[h1,hx,hp0,Int.toNat_natCast,Option.map_some,aD.av,Sl.av,go_sem,seval];refine dJ ?_;simp only[bI hpb,go_sem,seval]
 first|exact⟨rfl,hq⟩|exact hq
 rw[h1]at hq;simp only[h1,hx,hp0,Int.toNat_natCast,Option.map_some,aD.av,Sl.av,go_sem,seval];refine dJ ?_;rw[hq];rfl
end
end
section
def jl:List (List UInt8)->List UInt8
 |[]=>[]
 |[s]=>s
 |s::t::r=>s++42::jl (t::r)
theorem kU:∀l:List (List UInt8),Lib.join l [42]=jl l
 |[]=>rfl
 |[s]=>by simp[Lib.join,jl,List.intercalate]
 |s::t::r=>by have ih:=kU (t::r);simp only[Lib.join,List.intercalate]at ih ⊢;simp only[jl,<-ih,List.intersperse_cons₂,List.flatten_cons,List.cons_append,List.nil_append]
def kE(s:List UInt8):Prop:=s≠[]/\(42:UInt8) ∉ s/\s.length<=30
theorem vU{s:List UInt8}(h:cJ s=true):kE s:=by
 cases s with
 |nil=>simp[cJ]at h
 |cons c t=>
  simp only[cJ,aA,bH]at h;obtain⟨h1,h2⟩:=h;have hd:∀x:UInt8,bO x=true->x≠42:=by intro x hx e;subst e;revert hx;decide
  have hl:∀x:UInt8,cL x=true->x≠42:=by intro x hx e;subst e;revert hx;decide
  refine⟨by simp,?_,h1⟩;intro hm;split at h2;rename_i hc;subst hc;simp only[aA,bT]at h2;rcases List.mem_cons.1 hm with e|hm;revert e;decide;exact hd _ (h2.2 _ hm) rfl;simp only[aA,bT,Bool.or_eq_true]at h2;rcases List.mem_cons.1 hm with e|hm;exact hl _ h2.1 e.symm;rcases h2.2 _ hm with q|q;exact hl _ q rfl;exact hd _ q rfl
theorem OQ{s:List UInt8}{r:List (List UInt8)}(h:kE s):jl (s::r)≠[]:=by
 cases r with
 |nil=>exact h.1
 |cons t r=>simp[jl]
theorem yG:∀{s t u v:List UInt8},(42:UInt8) ∉ s->(42:UInt8) ∉ t->s++42::u=t++42::v->s=t/\u=v
 |[],[],u,v,_,_,h=>by simpa using h
 |[],y::t,u,v,_,ht,h=>by simp only[List.nil_append,List.cons_append,List.cons.injEq]at h;exact absurd (by rw[h.1];simp) ht
 |x::s,[],u,v,hs,_,h=>by simp only[List.nil_append,List.cons_append,List.cons.injEq]at h;exact absurd (by rw[<-h.1];simp) hs
 |x::s,y::t,u,v,hs,ht,h=>by simp only[List.cons_append,List.cons.injEq]at h;obtain⟨h1,h2⟩:=yG (λq=>hs (bJ _ q)) (λq=>ht (bJ _ q)) h.2;exact⟨by rw[h.1,h1],h2⟩
theorem BA:∀{l m:List (List UInt8)},(∀s∈l,kE s)->(∀s∈m,kE s)->jl l=jl m->l=m
 |[],[],_,_,_=>rfl
 |[],t::q,_,hm,h=>absurd h.symm (OQ (hm t (by simp)))
 |s::r,[],hl,_,h=>absurd h (OQ (hl s (by simp)))
 |[s],[t],_,_,h=>by simpa[jl] using h
 |[s],t::u::q,hl,_,h=>by simp only[jl]at h;exact absurd (by rw[h];simp) (hl s (by simp)).2.1
 |s::u::r,[t],_,hm,h=>by simp only[jl]at h;exact absurd (by rw[<-h];simp) (hm t (by simp)).2.1
 |s::u::r,t::v::q,hl,hm,h=>by simp only[jl]at h;obtain⟨h1,h2⟩:=yG (hl s (by simp)).2.1 (hm t (by simp)).2.1 h;have:=BA (λx hx=>hl x (bJ _ hx)) (λx hx=>hm x (bJ _ hx)) h2;rw[h1,this]
theorem GT:∀{l:List (List UInt8)},(∀s∈l,kE s)->(jl l).length<=31*l.length
 |[],_=>by simp[jl]
 |[s],h=>by have:=(h s (by simp)).2.2;simp[jl];omega
 |s::t::r,h=>by have h1:=(h s (by simp)).2.2;have h2:=GT (l:=t::r) (λx hx=>h x (bJ _ hx));simp only[jl,bW,List.length_cons]at *;omega
theorem jZ:∀{a b c:List UInt8},Op.bytesLess a b=true->Op.bytesLess b c=true->Op.bytesLess a c=true
 |_,[],[],_,h=>by simp[Op.bytesLess]at h
 |[],[],_::_,h,_=>by simp[Op.bytesLess]at h
 |_::_,[],_::_,h,_=>by simp[Op.bytesLess]at h
 |_,_::_,[],_,h=>by simp[Op.bytesLess]at h
 |[],_::_,_::_,_,_=>by simp[Op.bytesLess]
 |x::a,y::b,z::c,h1,h2=>by
  simp only[Op.bytesLess,Bool.or_eq_true,bH,aA,beq_iff_eq]at h1 h2 ⊢;rcases h1 with h1|⟨rfl,h1⟩
  rcases h2 with h2|⟨rfl,h2⟩
  exact .inl (by rw[UInt8.lt_iff_toNat_lt]at *;omega);exact .inl h1;rcases h2 with h2|⟨rfl,h2⟩
  exact .inl h2;exact .inr ⟨rfl,jZ h1 h2⟩
theorem CX{a b:List UInt8}(h1:Op.bytesLess a b=false)(h2:Op.bytesLess b a=false):a=b:=by have:=eA a b;rw[h1,h2]at this;simpa using this
theorem tC:∀{a b:List Str},a.map Str.bs=b.map Str.bs->fN a b=0
 |[],[],_=>rfl
 |[],_::_,h=>by simp at h
 |_::_,[],h=>by simp at h
 |x::a,y::b,h=>by simp only[List.map_cons,List.cons.injEq]at h;simp only[fN,h.1,jK];exact tC h.2
theorem qP:∀{a b c:List Str},fN a b<0->fN b c<0->fN a c<0
 |[],[],_,h,_=>by simp[fN]at h
 |_,[],[],_,h=>by simp[fN]at h
 |_::_,[],_,h,_=>by simp[fN]at h
 |_,_::_,[],_,h=>by simp[fN]at h
 |[],_::_,_::_,_,_=>by simp[fN]
 |x::a,y::b,z::c,h1,h2=>by simp only[fN]at h1 h2 ⊢;cases l1:Op.bytesLess x.bs y.bs;rw[l1]at h1;cases l2:Op.bytesLess y.bs x.bs;rw[l2]at h1;have e:=CX l1 l2;rw[e];cases l3:Op.bytesLess y.bs z.bs;rw[l3]at h2;cases l4:Op.bytesLess z.bs y.bs;rw[l4]at h2;simp only[Bool.false_eq_true,if_false]at h1 h2 ⊢;exact qP h1 h2;rw[l4]at h2;simp at h2;simp;rw[l2]at h1;simp at h1;cases l3:Op.bytesLess y.bs z.bs;rw[l3]at h2;cases l4:Op.bytesLess z.bs y.bs;have e:=CX l3 l4;rw[<-e,l1];simp;rw[l4]at h2;simp at h2;rw[jZ l1 l3];simp
theorem kD:∀{l p:List aD},hU p l=true->(∀q,p.getLast?=some q->∀x∈l,fN q.vs.es x.vs.es<0)/\l.Pairwise (λx y=>fN x.vs.es y.vs.es<0)/\∀x∈l,∀s∈x.bs,kE s
 |[],p,_=>⟨λ_ _ _ h=>by simp at h,List.Pairwise.nil,λ_ h=>by simp at h⟩
 |x::r,p,h=>by
  simp only[hU,aA]at h;obtain⟨⟨⟨⟨⟨_,_⟩,_⟩,hn⟩,ha⟩,hr⟩:=h;obtain⟨i1,i2,i3⟩:=kD hr;have hx:∀y∈r,fN x.vs.es y.vs.es<0:=i1 x (by simp);refine⟨?_,List.pairwise_cons.2 ⟨hx,i2⟩,?_⟩;intro q hq y hy;rw[hq]at ha;have hqx:fN q.vs.es x.vs.es<0:=by simpa[mI] using ha
  rcases List.mem_cons.1 hy with rfl|hy;exact hqx;exact qP hqx (hx y hy);intro y hy s hs;rcases List.mem_cons.1 hy with rfl|hy;obtain⟨n,hn1,rfl⟩:=List.mem_map.1 hs;exact vU (bT.1 hn n hn1);exact i3 y hy s hs
theorem s8{l:List aD}(h:aN l=true):(∀x∈l,(jn x).length<=140737488355328)/\(l.map jn).Nodup:=by
 simp only[aN,aA]at h;obtain⟨_,h2,h3⟩:=kD h.1;constructor;intro x hx;have h4:=GT (h3 x hx);have h5:=x.vs.ok;rw[jn,kU];have:x.bs.length=x.vs.es.length:=by simp[aD.bs]
 simp only[big]at h5;omega;rw[List.Nodup,List.pairwise_map];refine h2.imp_of_mem ?_;intro x y hx hy hlt e;rw[jn,jn,kU,kU]at e;have:=BA (h3 x hx) (h3 y hy) e;rw[tC this]at hlt;omega
theorem OM{q:List aD}(hq:aN q=true){x:aD}(hx:∀s∈x.bs,kE s):lk q (jn x)=ck q x.bs:=by
 simp only[aN,aA]at hq;obtain⟨_,_,h3⟩:=kD hq.1
 have:∀l:List aD,(∀y∈l,∀s∈y.bs,kE s)->(l.find? λy=>decide (jn x=jn y))=l.find? λy=>decide (y.bs=x.bs):=by
  intro l
  induction l with
  |nil=>intro _;rfl
  |cons y r ih=>
   intro hl;have e:decide (jn x=jn y)=decide (y.bs=x.bs):=by rw[u4];constructor;intro e;rw[jn,jn,kU,kU]at e;exact(BA hx (hl y (by simp)) e).symm;intro e;rw[jn,jn,e]
   simp only[List.find?_cons,e,ih (λz hz=>hl z (bJ _ hz))]
 rw[lk,ck,this q h3]
theorem VB{p q:List aD}(hp:aN p=true)(hq:aN q=true) :
  (pE p q&&n7 p q)=((p.all λx => !decide (ck q x.bs<x.c))&&q.all λy => !decide (y.c<ck p y.bs)):=by
 have h1:=(kD (by simp only[aN,aA]at hp;exact hp.1)).2.2;have h2:=(kD (by simp only[aN,aA]at hq;exact hq.1)).2.2
 have e1:pE p q=p.all λx => !decide (ck q x.bs<x.c):=by rw[pE,Bool.eq_iff_iff,bT,bT];exact forall_congr' λx=>forall_congr' λhx=>by rw[OM hq (h1 x hx)]
 have e2:n7 p q=q.all λy => !decide (y.c<ck p y.bs):=by rw[n7,Bool.eq_iff_iff,bT,bT];exact forall_congr' λx=>forall_congr' λhx=>by rw[OM hp (h2 x hx)]
 rw[e1,e2]
end
section
def inR(n:Int):Bool:=decide (-4611686018427387904<=n)&&decide (n<=4611686018427387904)
def qR(a b:Int):Int×Int:=
 if inR a&&inR b then (if a=0\/b=0 then (0,0) else if (4611686018427387904:Int).tdiv (if b<0 then -b else b)<(if a<0 then -a else a) then (0,2) else (a*b,0)) else (0,2)
theorem eT{n:Int}(h1 : -9223372036854775808<=n)(h2:n<=9223372036854775807):wr .i64 n=n:=if_pos ⟨h1,h2⟩
section
variable{pg:Pg}
theorem c893(hf:pg.fs 893=some kN)(n:Int):Ret pg 893 [.int .i64 n] (.bool (inR n)):=by refine Ret.ofX hf ?_;unfold kN;cases b1:decide (-4611686018427387904<=n);simp only[b1,go_sem,seval];simp[inR,b1];simp only[b1,go_sem,seval];simp[inR,b1]
theorem c901(hf:pg.fs 901=some rP)(n:Int)(hn:inR n=true):Ret pg 901 [.int .i64 n] (.int .i64 (if n<0 then -n else n)):=by
 simp only[inR,aA,bH]at hn;have hw:wr .i64 (0-n) = -n:=by rw[eT (by omega) (by omega)];omega
 refine Ret.ofX hf ?_;unfold rP;cases b1:decide (n<0);have:=cF b1;simp only[b1,go_sem,seval];rw[if_neg this];have:=bU b1;simp only[b1,hw,go_sem,seval];rw[if_pos this]
theorem c894(hf:pg.fs 894=some uJ)(h893:pg.fs 893=some kN)(h901:pg.fs 901=some rP)(a b:Int):Ret pg 894 [.int .i64 a,.int .i64 b] (.tup [.int .i64 (qR a b).1,.int .i64 (qR a b).2]):=by
 refine Ret.ofX hf ?_;unfold uJ;refine Wk ?_;refine aP (c893 h893 a) ?_;cases ha:inR a
 case false=>refine Wk ?_;simp[qR,ha]
 refine Wk ?_;refine aP (c893 h893 b) ?_;cases hb:inR b
 case false=>refine Wk ?_;simp[qR,hb]
 have hm:qR a b=if a=0\/b=0 then (0,0) else if (4611686018427387904:Int).tdiv (if b<0 then -b else b)<(if a<0 then -a else a) then (0,2) else (a*b,0):=by simp[qR,ha,hb]
 cases b1:decide (a=0)
 case true=>have:=bU b1;simp only[b1,go_sem,seval];rw[hm,if_pos (.inl this)]
 cases b2:decide (b=0)
 case true=>have:=bU b2;simp only[b1,b2,go_sem,seval];rw[hm,if_pos (.inr this)]
 have n1:=cF b1;have n2:=cF b2;rw[if_neg (by rintro(h|h)<;>contradiction)]at hm;simp only[b1,b2,go_sem,seval];refine aP (c901 h901 a ha) (Wk ?_);refine aP (c901 h901 b hb) ?_;simp only[inR,aA,bH]at ha hb;obtain⟨B,hB⟩:∃B,B=(if b<0 then -b else b):=⟨_,rfl⟩
 obtain⟨A,hA⟩:∃A,A=(if a<0 then -a else a):=⟨_,rfl⟩
 have hB0:0<B:=by rw[hB];split<;>omega
 have hA0:0<A:=by rw[hA];split<;>omega
 rw[<-hA,<-hB]at hm ⊢;have hBz:(B=0)=False:=eq_false (by omega);have hq:0<=(4611686018427387904:Int).tdiv B/\(4611686018427387904:Int).tdiv B<=4611686018427387904:=by constructor;exact Int.tdiv_nonneg (by omega) (by omega);exact Int.tdiv_le_self _ (by omega)
 have hw:wr .i64 ((4611686018427387904:Int).tdiv B)=(4611686018427387904:Int).tdiv B:=eT (by omega) (by omega);cases b3:decide ((4611686018427387904:Int).tdiv B<A)
 case true=>have:=bU b3;simp only[hBz,hw,b3,go_sem,seval];rw[hm,if_pos this]
 have n3:=cF b3;have hAB:A*B<=4611686018427387904:=by
  have h1:A*B<=(4611686018427387904:Int).tdiv B*B:=Int.mul_le_mul_of_nonneg_right (by omega) (by omega);have h2:(4611686018427387904:Int).tdiv B*B<=4611686018427387904:=by rw[Int.tdiv_eq_ediv_of_nonneg (by omega)];exact Int.ediv_mul_le _ (by omega)
  omega
 have hab : -4611686018427387904<=a*b/\a*b<=4611686018427387904:=by have hA1:0<=A*B:=Int.mul_nonneg (by omega) (by omega);by_cases sa:a<0<;>by_cases sb:b<0;rw[if_pos sa]at hA;rw[if_pos sb]at hB;rw[hA,hB,Int.neg_mul_neg]at hAB hA1;omega;rw[if_pos sa]at hA;rw[if_neg sb]at hB;rw[hA,hB,Int.neg_mul]at hAB hA1;omega;rw[if_neg sa]at hA;rw[if_pos sb]at hB;rw[hA,hB,Int.mul_neg]at hAB hA1;omega;rw[if_neg sa]at hA;rw[if_neg sb]at hB;rw[hA,hB]at hAB hA1;omega
 have hw2:wr .i64 (a*b)=a*b:=eT (by omega) (by omega);simp only[hBz,hw,b3,hw2,go_sem,seval];rw[hm,if_neg n3]
end
end
section
section
variable{pg:Pg}
theorem c907(hf:pg.fs 907=some oZ)(h893:pg.fs 893=some kN)(n:Int)(hn:inR n=true):Ret pg 907 [.int .i64 n,.int .i64 2097152] (.tup [.int .i64 (n / 2097152),.int .i64 0]):=by
 have hb:inR 2097152=true:=rfl;have hn':=hn;simp only[inR,aA,bH]at hn';have hq : -4611686018427387904<=n.tdiv 2097152/\n.tdiv 2097152<=4611686018427387904:=by
  rcases Int.le_total 0 n with h|h;rw[Int.tdiv_eq_ediv_of_nonneg h];omega;have:n.tdiv 2097152 = -((-n).tdiv 2097152):=by rw[Int.neg_tdiv];omega
  rw[this,Int.tdiv_eq_ediv_of_nonneg (by omega)];omega
 have hw:wr .i64 (n.tdiv 2097152)=n.tdiv 2097152:=eT (by omega) (by omega);have hw2:wr .i64 (n.tdiv 2097152-1)=n.tdiv 2097152-1:=eT (by omega) (by omega);refine Ret.ofX hf ?_;unfold oZ;refine Wk ?_;refine aP (c893 h893 n) ?_;rw[hn];refine Wk ?_;refine aP (c893 h893 2097152) ?_;rw[hb];cases b1:decide (n.tmod 2097152=0);have m1:=cF b1;cases b2:decide (n<0);have m2:=cF b2;simp only[hw,b1,b2,go_sem,seval];rw[Int.tdiv_eq_ediv_of_nonneg (by omega)];have m2:=bU b2;have h1:n.tdiv 2097152 = -((-n).tdiv 2097152):=by rw[Int.neg_tdiv];omega
 have h2:n.tmod 2097152 = -((-n).tmod 2097152):=by rw[Int.neg_tmod];omega
 rw[h2,Int.tmod_eq_emod_of_nonneg (by omega)]at m1;have e:n.tdiv 2097152-1=n / 2097152:=by rw[h1,Int.tdiv_eq_ediv_of_nonneg (by omega)];omega
 have eb:(true==false)=false:=rfl;simp only[hw,b1,b2,hw2,eb,Bool.not_false,go_sem,seval];rw[e];have m1:=bU b1;have e:n.tdiv 2097152=n / 2097152:=by
  rcases Int.le_total 0 n with h|h;rw[Int.tdiv_eq_ediv_of_nonneg h];have h1:n.tdiv 2097152 = -((-n).tdiv 2097152):=by rw[Int.neg_tdiv];omega
  have h2:n.tmod 2097152 = -((-n).tmod 2097152):=by rw[Int.neg_tmod];omega
  rw[h2,Int.tmod_eq_emod_of_nonneg (by omega)]at m1;rw[h1,Int.tdiv_eq_ediv_of_nonneg (by omega)];omega
 simp only[hw,b1,go_sem,seval];rw[e]
theorem c906(hf:pg.fs 906=some o6)(n:Int)(hn:inR n=true):Ret pg 906 [.int .i64 n] (.agg [.int .i64 (n.tmod 2097152),.int .i64 ((n.tdiv 2097152).tmod 2097152),.int .i64 ((n.tdiv 2097152).tdiv 2097152)]):=by
 simp only[inR,aA,bH]at hn;have hq : -4611686018427387904<=n.tdiv 2097152/\n.tdiv 2097152<=4611686018427387904:=by
  rcases Int.le_total 0 n with h|h;rw[Int.tdiv_eq_ediv_of_nonneg h];omega;have:n.tdiv 2097152 = -((-n).tdiv 2097152):=by rw[Int.neg_tdiv];omega
  rw[this,Int.tdiv_eq_ediv_of_nonneg (by omega)];omega
 have hw:wr .i64 (n.tdiv 2097152)=n.tdiv 2097152:=eT (by omega) (by omega);have hq2 : -4611686018427387904<=(n.tdiv 2097152).tdiv 2097152/\(n.tdiv 2097152).tdiv 2097152<=4611686018427387904:=by
  generalize n.tdiv 2097152=m at hq;rcases Int.le_total 0 m with h|h;rw[Int.tdiv_eq_ediv_of_nonneg h];omega;have:m.tdiv 2097152 = -((-m).tdiv 2097152):=by rw[Int.neg_tdiv];omega
  rw[this,Int.tdiv_eq_ediv_of_nonneg (by omega)];omega
 have hw2:wr .i64 ((n.tdiv 2097152).tdiv 2097152)=(n.tdiv 2097152).tdiv 2097152:=eT (by omega) (by omega);refine Ret.ofX hf ?_;unfold o6;simp only[hw,hw2,go_sem,seval]
end
end
section
def eH:List Int->Int
 |[]=>0
 |a::r=>a+2097152*eH r
theorem mL(x:Int):∀(l:List Int)(i:Nat)(a:Int),l[i]?=some a->eH (l.set i x)=eH l+(x-a)*2097152 ^ i
 |[],_,_,h=>by simp at h
 |b::r,0,a,h=>by simp only[List.getElem?_cons_zero,aK]at h;subst h;simp only[List.set_cons_zero,eH,Int.pow_zero,Int.mul_one];omega
 |b::r,i+1,a,h=>by rw[List.getElem?_cons_succ]at h;have ih:=mL x r i a h;simp only[List.set_cons_succ,eH,ih,Int.mul_add,Int.pow_succ];rw[Int.mul_left_comm 2097152,Int.mul_comm 2097152 (2097152 ^ i),Int.add_assoc]
theorem sM:∀n,eH (List.replicate n 0)=0
 |0=>rfl
 |n+1=>by rw[List.replicate_succ,eH,sM n];rfl
def Bd(A:List Int)(c:Int):Prop:=∀(i:Nat)(v:Int),A[i]?=some v -> -c<=v/\v<=c
theorem Bd.set{A:List Int}{c:Int}(h:Bd A c){i:Nat}{x:Int}(hx : -c<=x/\x<=c):Bd (A.set i x) c:=by intro j v hj;rw[List.getElem?_set]at hj;split at hj;split at hj;cases hj;exact hx;cases hj;exact h j v hj
theorem Bd.mono{A:List Int}{c d:Int}(h:Bd A c)(hd:c<=d):Bd A d:=λi v hi=>by have:=h i v hi;omega
def dig(n:Int):List Int:=[n.tmod 2097152,(n.tdiv 2097152).tmod 2097152,(n.tdiv 2097152).tdiv 2097152]
theorem tdm(n:Int):n.tmod 2097152+2097152*n.tdiv 2097152=n:=Int.tmod_add_mul_tdiv n 2097152
theorem C8(n:Int):eH (dig n)=n:=by have h1:=tdm n;have h2:=tdm (n.tdiv 2097152);simp only[dig,eH];omega
theorem CJ(n:Int) : -2097152<=n.tmod 2097152/\n.tmod 2097152<=2097152:=by
 have h1:=Int.tmod_lt_of_pos n (show (0:Int)<2097152 by decide);have h2 : -2097152<n.tmod 2097152:=by have:=Int.tmod_lt_of_pos (-n) (show (0:Int)<2097152 by decide);rw[Int.neg_tmod]at this;omega
 omega
theorem IG{n:Int}(hn:inR n=true):Bd (dig n) 2097152:=by
 simp only[inR,aA,bH]at hn;intro i v hv;have h1:=tdm n;have h2:=tdm (n.tdiv 2097152);have h3:=CJ n;have h4:=CJ (n.tdiv 2097152)
 match i with
 |0=>simp only[dig,List.getElem?_cons_zero,aK]at hv;omega
 |1=>simp only[dig,List.getElem?_cons_succ,List.getElem?_cons_zero,aK]at hv;omega
 |2=>simp only[dig,List.getElem?_cons_succ,List.getElem?_cons_zero,aK]at hv;omega
 |i+3=>simp[dig]at hv
theorem UP{x y:Int}(hx : -2097152<=x/\x<=2097152)(hy : -2097152<=y/\y<=2097152) : -4398046511104<=x*y/\x*y<=4398046511104:=by have h1:x.natAbs*y.natAbs<=2097152*2097152:=Nat.mul_le_mul (by omega) (by omega);rw[<-Int.natAbs_mul]at h1;omega
end
section
theorem S3{A:List Int}{i:Nat}{v:Int}(h:i<A.length):cD (A.map aZ) i [aZ v]=(A.set i v).map aZ:=by rw[List.map_set];simp only[cD,List.length_cons,List.length_nil];rw[List.set_eq_take_append_cons_drop,if_pos (by simpa using h)];simp
theorem mK(y:Int):∀l:List Int,eH (l++[y])=eH l+y*2097152 ^ l.length
 |[]=>by simp[eH]
 |a::r=>by
  have ih:=mK y r;simp only[List.cons_append,eH,ih,List.length_cons,Int.pow_succ,Int.mul_add];have:(2097152:Int)*(y*2097152 ^ r.length)=y*(2097152 ^ r.length*2097152):=by ac_rfl
  omega
theorem JV(v x V y u p q:Int):v+x*V*p+(u+x*y-u)*(p*q)=v+x*(V+y*q)*p:=by
 have e1:u+x*y-u=x*y:=by omega
 have e2:x*(V+y*q)*p=x*V*p+x*y*(p*q):=by rw[Int.mul_add,Int.add_mul];congr 1;ac_rfl
 rw[e1,e2];omega
structure Acc(hp:Hp)(A:List Int)(c:Int)(v:Int):Prop where
 g:hp.get 9=some (0,.blk (A.map aZ) 8 true true false)
 len:A.length=8
 bd:Bd A c
 val:eH A=v
theorem JE{c u x y:Int}{k:Nat}(hc0:0<=c)(hc:c<=4000000000000000000)(hk:k<3)(bu : -(c+k*4398046511104)<=u/\u<=c+k*4398046511104)(bx : -2097152<=x/\x<=2097152)(bY : -2097152<=y/\y<=2097152) :
  wr .i64 (x*y)=x*y/\wr .i64 (u+x*y)=u+x*y /\ -(c+((k+1:Nat):Int)*4398046511104)<=u+x*y/\u+x*y<=c+((k+1:Nat):Int)*4398046511104/\c+(k:Int)*4398046511104<=c+((k+1:Nat):Int)*4398046511104:=by
 have bxy:=UP bx bY;generalize x*y=z at bxy;refine⟨eT (by omega) (by omega),eT (by omega) (by omega),by omega,by omega,by omega⟩
theorem G6{j k:Nat}(hj:j<3)(hk:k<3):decide ((k:Int)<3)=true/\wr .i64 ((j:Int)+(k:Int))=((j+k:Nat):Int)/\wr .i64 ((k:Int)+1)=((k+1:Nat):Int)/\(0:Int)<=((j+k:Nat):Int)/\((j+k:Nat):Int)<8/\(0:Int)<=(j:Int)/\(j:Int)<3/\(0:Int)<=(k:Int)/\(k:Int)<3/\j+k<=7/\min k 3=k:=by refine⟨by simp;omega,by rw[eT (by omega) (by omega)];omega,by rw[eT (by omega) (by omega)];omega,by omega,by omega,by omega,by omega,by omega,by omega,by omega,by omega⟩
section
variable{pg:Pg}
set_option maxRecDepth 100000 in
theorem aAH(x0 x1:AV)(i:Int)(e1 e2:Nat)(a b:List Int)(la:a.length=3)(lb:b.length=3)(ba:Bd a 2097152)(bb:Bd b 2097152)(j:Nat)(hj:j<3)(env0:List AV)(H:Hp)(A:List Int)(c v:Int)(hc0:0<=c)(hc:c<=4000000000000000000)
  (henv:clear wK env0=k8 x0 x1 (.pt 9 0 0) (.int .i64 i) (.pt 21 e1 0) (.pt 25 e2 0) (.int .i64 j) (.int .i64 0)) (hA:Acc H A c v) (h21:H.get 21=some (e1,.blk (a.map aZ) 3 true true false)) (h25:H.get 25=some (e2,.blk (b.map aZ) 3 true true false))
  (Q:Ex->St->Prop) (t:Tok Q)
  (hQ:∀hp A' y,Acc hp A' (c+3*4398046511104) y->y=v+a.getD j 0*eH b*2097152 ^ j->(∀k,k≠9->hp.get k=H.get k)->Q (.ext 6) ⟨((k8 x0 x1 (.pt 9 0 0) (.int .i64 i) (.pt 21 e1 0) (.pt 25 e2 0) (.int .i64 j) (.int .i64 3)).set 66 (.int .i64 3)).set 67 (.bool false),hp⟩) :
  XX pg 0 (.loop pL wK) ⟨env0,H⟩ Q t:=by
 refine bD (List.range 3) (λd r env hp=>env=k8 x0 x1 (.pt 9 0 0) (.int .i64 i) (.pt 21 e1 0) (.pt 25 e2 0) (.int .i64 j) (.int .i64 d.length)/\(∀k,k≠9->hp.get k=H.get k)/\∃A',Acc hp A' (c+d.length*4398046511104) (v+a.getD j 0*eH (b.take d.length)*2097152 ^ j)) ?_ ?_ ?_;refine⟨henv,λ_ _=>rfl,A,?_⟩;simpa[eH] using hA;rintro env hp ⟨rfl,hk,A',hA'⟩;have e0:((List.range 3).length:Int)=3:=rfl;have e1:decide ((3:Int)<3)=false:=rfl;rw[e0]at hA' ⊢;simp only[pL,k8,e1,go_sem,seval];refine hQ hp A' _ hA' ?_ hk;have:b.take (List.range 3).length=b:=by rw[List.length_range,<-lb];exact List.take_length
 rw[this];rintro d x r env hp hes ⟨rfl,hk,A',hA'⟩;obtain⟨rfl,hlt⟩:=fY hes;obtain⟨k,hkd⟩:∃k,k=d.length:=⟨_,rfl⟩
 have hl1:(d++[d.length]).length=k+1:=by simp[hkd]
 rw[hl1];rw[<-hkd]at hA' hlt ⊢;obtain⟨g9,l9,b9,v9⟩:=hA';have f21:hp.get 21=some (e1,.blk (a.map aZ) 3 true true false):=by rw[hk 21 (by decide)];exact h21
 have f25:hp.get 25=some (e2,.blk (b.map aZ) 3 true true false):=by rw[hk 25 (by decide)];exact h25
 obtain⟨e0,hw0,hw3,i1,i2,i3,i4,i5,i6,i7,i8⟩:=G6 hj hlt;obtain⟨u,hu⟩:∃u,A'[j+k]?=some u:=⟨_,aY (by rw[l9];exact Nat.lt_of_lt_of_le (Nat.add_lt_add hj hlt) (by decide))⟩
 obtain⟨x,hx⟩:∃x,a[j]?=some x:=⟨_,aY (by rw[la];exact hj)⟩
 obtain⟨y,hy⟩:∃y,b[k]?=some y:=⟨_,aY (by rw[lb];exact hlt)⟩
 obtain⟨hw1,hw2,n1,n2,n3⟩:=JE hc0 hc hlt (b9 _ _ hu) (ba _ _ hx) (bb _ _ hy);clear ba bb hc hc0;have hs:List.take (j+k) (List.map aZ A')++[.int .i64 (u+x*y)]++List.drop (j+k+1) (List.map aZ A')=(A'.set (j+k) (u+x*y)).map aZ:=S3 (A:=A') (by rw[l9];exact Nat.lt_of_lt_of_le (Nat.add_lt_add hj hlt) (by decide));have hv:eH (A'.set (j+k) (u+x*y))=v+a.getD j 0*eH (b.take (k+1))*2097152 ^ j:=by
  have e1:b.take (k+1)=b.take k++[y]:=by rw[List.take_add_one,hy];rfl
  have e2:(b.take k).length=k:=by rw[List.length_take,lb,i8]
  have e3:a.getD j 0=x:=by rw[List.getD_eq_getElem?_getD,hx];rfl
  rw[mL _ _ _ _ hu,v9,e1,mK,e2,e3,Int.pow_add];exact JV _ _ _ _ _ _ _
 simp only[pL,k8,e0,hw0,i2,i4,i6,g9,f21,f25,hu,hx,hy,Option.map_some,Nat.zero_add,Nat.mul_one,aZ,hw1,hw2,l9,la,lb,go_sem,seval];simp only[i7,hs,go_sem,seval];refine dJ ?_;simp only[hw3,go_sem,seval];refine⟨rfl,λq hq=>?_,A'.set (j+k) (u+x*y),⟨?_,by simp[l9],?_,hv⟩⟩;rw[if_neg (Ne.symm hq)];exact hk q hq;simp[aG];exact Bd.set (b9.mono n3) ⟨n1,n2⟩
end
end
section
theorem UV{c:Int}{k:Nat}(hc0:0<=c)(hc:c<=3000000000000000000)(hk:k<3):decide ((k:Int)<3)=true/\wr .i64 ((k:Int)+1)=((k+1:Nat):Int)/\0<=c+(k:Int)*13194139533312/\c+(k:Int)*13194139533312<=4000000000000000000 /\
  c+(k:Int)*13194139533312+3*4398046511104=c+((k+1:Nat):Int)*13194139533312/\min k 3=k:=by
 refine⟨by simp;omega,by rw[eT (by omega) (by omega)];omega,by omega,by omega,by omega,by omega⟩
section
variable{pg:Pg}
set_option maxRecDepth 100000 in
theorem aAI(x0 x1:AV)(i:Int)(e1 e2:Nat)(a b:List Int)(la:a.length=3)(lb:b.length=3)(ba:Bd a 2097152)(bb:Bd b 2097152)(env0:List AV)(H:Hp)(A:List Int)(c v:Int)(hc0:0<=c)(hc:c<=3000000000000000000)
  (henv:clear wJ env0=k7 x0 x1 (.pt 9 0 0) (.int .i64 i) (.pt 21 e1 0) (.pt 25 e2 0) (.int .i64 0)) (hA:Acc H A c v) (h21:H.get 21=some (e1,.blk (a.map aZ) 3 true true false)) (h25:H.get 25=some (e2,.blk (b.map aZ) 3 true true false))
  (Q:Ex->St->Prop) (t:Tok Q)
  (hQ:∀hp A',Acc hp A' (c+39582418599936) (v+eH a*eH b)->(∀k,k≠9->hp.get k=H.get k)->Q (.ext 4) ⟨((k7 x0 x1 (.pt 9 0 0) (.int .i64 i) (.pt 21 e1 0) (.pt 25 e2 0) (.int .i64 3)).set 62 (.int .i64 3)).set 63 (.bool false),hp⟩) :
  XX pg 0 (.loop pK wJ) ⟨env0,H⟩ Q t:=by
 refine bD (List.range 3) (λd r env hp=>env=k7 x0 x1 (.pt 9 0 0) (.int .i64 i) (.pt 21 e1 0) (.pt 25 e2 0) (.int .i64 d.length)/\(∀k,k≠9->hp.get k=H.get k)/\∃A',Acc hp A' (c+d.length*13194139533312) (v+eH (a.take d.length)*eH b)) ?_ ?_ ?_;refine⟨henv,λ_ _=>rfl,A,?_⟩;simpa[eH] using hA;rintro env hp ⟨rfl,hk,A',hA'⟩;have e0:((List.range 3).length:Int)=3:=rfl;have e1:decide ((3:Int)<3)=false:=rfl;have e2:a.take (List.range 3).length=a:=by rw[List.length_range,<-la];exact List.take_length
 rw[e0,e2]at hA';rw[e0];simp only[pK,k7,e1,go_sem,seval];exact hQ hp A' hA' hk
 ·rintro d x r env hp hes ⟨rfl,hk,A',hA'⟩;obtain⟨rfl,hlt⟩:=fY hes;obtain⟨k,hkd⟩:∃k,k=d.length:=⟨_,rfl⟩
  have hl1:(d++[d.length]).length=k+1:=by simp[hkd]
  rw[hl1];rw[<-hkd]at hA' hlt ⊢;obtain⟨f1,f2,f3,f4,f5,f6⟩:=UV hc0 hc hlt;simp only[pK,k7,f1,go_sem,seval];refine aAH x0 x1 i e1 e2 a b la lb ba bb k hlt _ hp A' _ _ f3 f4 rfl hA' (by rw[hk 21 (by decide)];exact h21) (by rw[hk 25 (by decide)];exact h25) _ _ ?_;intro hp2 A2 y hA2 hy hk2;unfold k8
  try simp only[aFB]
  simp only[List.set_cons_succ,List.set_cons_zero];simp only[f2,go_sem,seval];refine⟨rfl,λq hq=>(hk2 q hq).trans (hk q hq),A2,?_⟩;rw[f5]at hA2;obtain⟨x,hx⟩:∃x,a[k]?=some x:=⟨_,aY (by rw[la];exact hlt)⟩
  have e1:a.take (k+1)=a.take k++[x]:=by rw[List.take_add_one,hx];rfl
  have e2:(a.take k).length=k:=by rw[List.length_take,la,f6]
  have e3:a.getD k 0=x:=by rw[List.getD_eq_getElem?_getD,hx];rfl
  have e4:y=v+eH (a.take (k+1))*eH b:=by
   have e5:∀p V:Int,x*V*p=x*p*V:=λp V=>by ac_rfl
   rw[hy,e1,mK,e2,e3,Int.add_mul,e5,Int.add_assoc]
  rw[<-e4];exact hA2
end
end
section
def m7:List Int->List Int->Int
 |a::r,b::s=>a*b+m7 r s
 |_,_=>0
theorem zQ(x y:Int):∀(p q:List Int),p.length=q.length->m7 (p++[x]) (q++[y])=m7 p q+x*y
 |[],[],_=>by simp[m7]
 |[],_::_,h=>by simp at h
 |_::_,[],h=>by simp at h
 |a::p,b::q,h=>by have ih:=zQ x y p q (by simpa using h);simp only[List.cons_append,m7,ih,Int.add_assoc]
theorem G9{n k:Nat}(hk:k<n)(hn:n<=10000):decide ((k:Int)<(n:Int))=true/\wr .i64 ((k:Int)+1)=((k+1:Nat):Int)/\(0:Int)<=(k:Int)*39582418599936/\(k:Int)*39582418599936<=3000000000000000000 /\
  (k:Int)*39582418599936+39582418599936=((k+1:Nat):Int)*39582418599936/\min k n=k/\(0:Int)<=(k:Int):=by
 refine⟨by simp;omega,by rw[eT (by omega) (by omega)];omega,by omega,by omega,by omega,by omega,by omega⟩
section
variable{pg:Pg}
set_option maxRecDepth 100000 in
theorem aAJ(h906:pg.fs 906=some o6)(nl1 cl1 nl2 cl2:Bool)(ls ms:List Int)(hl:ls.length=ms.length)(hn:ls.length<=10000)(rl:∀x∈ls,inR x=true)(rm:∀x∈ms,inR x=true)(env0:List AV)(H:Hp)
  (henv:clear wI env0=k6 (.sl nl1 (ls.map aZ) cl1) (.sl nl2 (ms.map aZ) cl2) (.pt 9 0 0) (.int .i64 0)) (hA:Acc H (List.replicate 8 0) 0 0)
  (Q:Ex->St->Prop) (t:Tok Q)
  (hQ:∀hp A',Acc hp A' (ls.length*39582418599936) (m7 ls ms)->Q (.ext 2) ⟨((((k6 (.sl nl1 (ls.map aZ) cl1) (.sl nl2 (ms.map aZ) cl2) (.pt 9 0 0) (.int .i64 ls.length)).set 46 (.int .i64 ls.length)).set 47 (.sl nl1 (ls.map aZ) cl1)).set 48 (.int .i64 ls.length)).set 49 (.bool false),hp⟩) :
  XX pg 0 (.loop pJ wI) ⟨env0,H⟩ Q t:=by
 refine bD (List.range ls.length) (λd r env hp=>env=k6 (.sl nl1 (ls.map aZ) cl1) (.sl nl2 (ms.map aZ) cl2) (.pt 9 0 0) (.int .i64 d.length)/\∃A',Acc hp A' (d.length*39582418599936) (m7 (ls.take d.length) (ms.take d.length))) ?_ ?_ ?_;refine⟨henv,List.replicate 8 0,?_⟩;simpa[m7] using hA;rintro env hp ⟨rfl,A',hA'⟩;rw[List.length_range,List.take_length,hl,List.take_length]at hA';rw[List.length_range];have e1:decide ((ls.length:Int)<(ls.length:Int))=false:=by simp
 simp only[pJ,k6,aE,e1,go_sem,seval];rw[<-hl]at hA';exact hQ hp A' hA'
 ·rintro d x r env hp hes ⟨rfl,A',hA'⟩;obtain⟨rfl,hlt⟩:=fY hes;obtain⟨k,hkd⟩:∃k,k=d.length:=⟨_,rfl⟩
  have hl1:(d++[d.length]).length=k+1:=by simp[hkd]
  rw[hl1];rw[<-hkd]at hA' hlt ⊢;obtain⟨f1,f2,f3,f4,f5,f6,f7⟩:=G9 hlt hn;obtain⟨x,hx⟩:∃x,ls[k]?=some x:=⟨_,aY hlt⟩
  obtain⟨y,hy⟩:∃y,ms[k]?=some y:=⟨_,aY (by rw[<-hl];exact hlt)⟩
  have ix:=rl x (List.mem_of_getElem? hx);have iy:=rm y (List.mem_of_getElem? hy);simp only[pJ,k6,aE,f1,f7,hx,hy,Option.map_some,Int.toNat_natCast,aZ,go_sem,seval];refine aP (c906 h906 x ix) ?_;simp only[f7,hx,hy,Option.map_some,Int.toNat_natCast,aZ,go_sem,seval];refine aP (c906 h906 y iy) (Wk ?_);refine dJ ?_;generalize hH:Hp.put (Hp.put (Hp.put (Hp.put hp 21 _ _) 25 _ _) 21 _ _) 25 _ _=H2;have g21:H2.get 21=some (hp.next 21,.blk ((dig x).map aZ) 3 true true false):=by rw[<-hH,aG,if_neg (by decide),aG,if_pos rfl];rfl
  have g25:H2.get 25=some (hp.next 25,.blk ((dig y).map aZ) 3 true true false):=by rw[<-hH,aG,if_pos rfl];rfl
  have hA2:Acc H2 A' (k*39582418599936) (m7 (ls.take k) (ms.take k)):=by obtain⟨q1,q2,q3,q4⟩:=hA';refine⟨?_,q2,q3,q4⟩;rw[<-hH,aG,if_neg (by decide),aG,if_neg (by decide),aG,if_neg (by decide),aG,if_neg (by decide)];exact q1
  clear hH hA';refine aAI _ _ (k:Int) (hp.next 21) (hp.next 25) (dig x) (dig y) rfl rfl (IG ix) (IG iy) _ H2 A' _ _ f3 f4 rfl hA2 g21 g25 _ _ ?_;intro hp2 A2 hA3 _;unfold k7
  try simp only[aFB]
  simp only[List.set_cons_succ,List.set_cons_zero];simp only[f2,go_sem,seval];refine⟨rfl,A2,?_⟩;rw[f5,C8,C8]at hA3;have e1:ls.take (k+1)=ls.take k++[x]:=by rw[List.take_add_one,hx];rfl
  have e2:ms.take (k+1)=ms.take k++[y]:=by rw[List.take_add_one,hy];rfl
  have e3:(ls.take k).length=(ms.take k).length:=by rw[List.length_take,List.length_take,hl]
  rw[e1,e2,zQ _ _ _ _ e3];exact hA3
end
end
section
def Car(A:List Int)(i:Nat):Prop:=∀(j:Nat)(v:Int),A[j]?=some v->(-800000000000000000<=v/\v<=800000000000000000)/\(i<j -> -400000000000000000<=v/\v<=400000000000000000)
theorem I5{A:List Int}{i:Nat}{u w:Int}(h:Car A i)(hu:A[i]?=some u)(hw:A[i+1]?=some w)(hl:A.length=8) :
  inR u=true/\wr .i64 (u / 2097152*2097152)=u / 2097152*2097152/\wr .i64 (u-u / 2097152*2097152)=u-u / 2097152*2097152/\wr .i64 (w+u / 2097152)=w+u / 2097152 /\
  Car ((A.set i (u-u / 2097152*2097152)).set (i+1) (w+u / 2097152)) (i+1):=by
 have b1:=(h _ _ hu).1;have b2:=(h _ _ hw).2 (by omega);have hq : -390000000000<=u / 2097152/\u / 2097152<=390000000000:=by omega
 have hr:0<=u-u / 2097152*2097152/\u-u / 2097152*2097152<2097152:=by omega
 refine⟨by simp only[inR,aA,bH];omega,eT (by omega) (by omega),eT (by omega) (by omega),eT (by omega) (by omega),?_⟩;intro j v hv;rw[List.getElem?_set]at hv;split at hv;split at hv;cases hv;exact⟨by omega,λhj=>by omega⟩;cases hv;rw[List.getElem?_set]at hv;split at hv;split at hv;cases hv;exact⟨by omega,λhj=>by omega⟩;cases hv;have:=h j v hv;exact⟨this.1,λhj=>this.2 (by omega)⟩
theorem NV{A:List Int}{i:Nat}{u w:Int}(hu:A[i]?=some u)(hw:A[i+1]?=some w):eH ((A.set i (u-u / 2097152*2097152)).set (i+1) (w+u / 2097152))=eH A:=by
 have h1:(A.set i (u-u / 2097152*2097152))[i+1]?=some w:=by rw[List.getElem?_set,if_neg (by omega)];exact hw
 rw[mL _ _ _ _ h1,mL _ _ _ _ hu,Int.pow_succ];generalize u / 2097152=q;have e1:u-q*2097152-u = -(q*2097152):=by omega
 have e2:w+q-w=q:=by omega
 rw[e1,e2];generalize (2097152:Int) ^ i=p;have e3:q*(p*2097152)=q*2097152*p:=by ac_rfl
 rw[e3,Int.neg_mul];omega
theorem V2{A:List Int}{c:Int}(h:Bd A c)(hc:c<=400000000000000000):Car A 0:=λj v hv=>by have:=h j v hv;exact⟨by omega,λ_=>by omega⟩
theorem aAF{k:Nat}(hk:k<7):decide (((k+1:Nat):Int)<8)=true/\wr .i64 ((k:Int)+1)=((k+1:Nat):Int)/\(0:Int)<=(k:Int)/\(k:Int)<8/\(0:Int)<=((k+1:Nat):Int)/\((k+1:Nat):Int)<8/\k<=7/\k+1<=7:=by refine⟨by simp;omega,by rw[eT (by omega) (by omega)];omega,by omega,by omega,by omega,by omega,by omega,by omega⟩
section
variable{pg:Pg}
set_option maxRecDepth 100000 in
theorem aAL(h907:pg.fs 907=some oZ)(h893:pg.fs 893=some kN)(env0:List AV)(H:Hp)(A:List Int)(V:Int)
  (henv:clear wH env0=kZ (.pt 9 0 0) (.int .i64 0)) (g9:H.get 9=some (0,.blk (A.map aZ) 8 true true false)) (l9:A.length=8) (hc:Car A 0) (hv:eH A=V)
  (Q:Ex->St->Prop) (t:Tok Q)
  (hQ:∀hp A',hp.get 9=some (0,.blk (A'.map aZ) 8 true true false)->A'.length=8->Car A' 7->eH A'=V->Q (.ext 8) ⟨(((kZ (.pt 9 0 0) (.int .i64 7)).set 84 (.int .i64 7)).set 85 (.int .i64 8)).set 86 (.bool false),hp⟩) :
  XX pg 0 (.loop pI wH) ⟨env0,H⟩ Q t:=by
 refine bD (List.range 7) (λd r env hp=>env=kZ (.pt 9 0 0) (.int .i64 d.length)/\∃A',hp.get 9=some (0,.blk (A'.map aZ) 8 true true false)/\A'.length=8/\Car A' d.length/\eH A'=V) ?_ ?_ ?_;exact⟨henv,A,g9,l9,hc,hv⟩;rintro env hp ⟨rfl,A',g,l,hc',hv'⟩;have e0:((List.range 7).length:Int)=7:=rfl;have e1:wr .i64 8=8:=rfl;have e2:decide ((8:Int)<8)=false:=rfl;rw[e0];simp only[pI,kZ,e1,e2,go_sem,seval];exact hQ hp A' g l hc' hv';rintro d x r env hp hes ⟨rfl,A',g,l,hc',hv'⟩;obtain⟨rfl,hlt⟩:=fY hes;obtain⟨k,hkd⟩:∃k,k=d.length:=⟨_,rfl⟩
 have hl1:(d++[d.length]).length=k+1:=by simp[hkd]
 rw[hl1];rw[<-hkd]at hc' hlt ⊢;obtain⟨f1,f2,f3,f4,f5,f6,f7,f8⟩:=aAF hlt;obtain⟨u,hu⟩:∃u,A'[k]?=some u:=⟨_,aY (by rw[l];exact Nat.lt_succ_of_le f7)⟩
 obtain⟨w,hw⟩:∃w,A'[k+1]?=some w:=⟨_,aY (by rw[l];exact Nat.lt_succ_of_le f8)⟩
 obtain⟨n1,n2,n3,n4,n5⟩:=I5 hc' hu hw l;have n6:=(NV hu hw).trans hv';have s1:List.take k (List.map aZ A')++[.int .i64 (u-u / 2097152*2097152)]++List.drop (k+1) (List.map aZ A')=(A'.set k (u-u / 2097152*2097152)).map aZ:=S3 (A:=A') (by rw[l];exact Nat.lt_succ_of_le f7);have s2:List.take (k+1) (List.map aZ (A'.set k (u-u / 2097152*2097152)))++[.int .i64 (w+u / 2097152)]++List.drop (k+1+1) (List.map aZ (A'.set k (u-u / 2097152*2097152)))=((A'.set k (u-u / 2097152*2097152)).set (k+1) (w+u / 2097152)).map aZ:=
  S3 (A:=A'.set k (u-u / 2097152*2097152)) (by rw[List.length_set,l];exact Nat.lt_succ_of_le f8)
 have hw':(A'.set k (u-u / 2097152*2097152))[k+1]?=some w:=by rw[List.getElem?_set,if_neg (Nat.ne_of_lt (Nat.lt_succ_self k))];exact hw
 simp only[pI,kZ,f2,f1,f4,g,hu,Option.map_some,Nat.zero_add,Nat.mul_one,aZ,go_sem,seval];refine aP (c907 h907 h893 u n1) ?_;have q1:k+1<=A'.length:=by rw[l];exact Nat.succ_le_succ f7
 have q2:k+1+1<=A'.length:=by rw[l];exact Nat.succ_le_succ f8
 simp only[f4,g,hu,Option.map_some,Nat.zero_add,Nat.mul_one,aZ,n2,n3,go_sem,seval];simp only[q1,s1,f2,f6,hw',Option.map_some,Nat.zero_add,Nat.mul_one,aZ,n4,List.length_set,q2,go_sem,seval];exact⟨rfl,_,congrArg (λx=>(0,Ob.blk x 8 true true false)) s2,by simp[l],n5,n6⟩
end
end
section
theorem U0{n a:Int}(h1:¬ 2199023255552<n)(h2:¬n < -2199023255552)(ha : -800000000000000000<=a/\a<=800000000000000000):wr .i64 (n*2097152)=n*2097152/\wr .i64 (n*2097152+a)=n*2097152+a:=
 ⟨eT (by omega) (by omega),eT (by omega) (by omega)⟩
theorem ZT{k:Nat}(hk:k<8):((k+1:Nat):Int)-1=(k:Int)/\decide ((0:Int)<=(k:Int))=true/\(0:Int)<=(k:Int)/\(k:Int)<8/\k<=7/\wr .i64 ((k:Int)-1)=(k:Int)-1/\min k 8=k:=
 ⟨by omega,by simp,by omega,by omega,by omega,eT (by omega) (by omega),by omega⟩
section
variable{pg:Pg}
set_option maxRecDepth 100000 in
theorem aAK(env0:List AV)(H:Hp)(A:List Int)(V:Int)
  (henv:clear wG env0=iT (.pt 9 0 0) (.int .i64 0) (.int .i64 7)) (g9:H.get 9=some (0,.blk (A.map aZ) 8 true true false)) (l9:A.length=8) (hc:Car A 7) (hv:eH A=V)
  (Q:Ex->St->Prop) (t:Tok Q) (hR:∀env hp,cO env 4 = .int .i64 0->cO env 5 = .int .i64 2->Q .ret ⟨env,hp⟩)
  (hX:∀hp,Q (.ext 10) ⟨((iT (.pt 9 0 0) (.int .i64 V) (.int .i64 (-1))).set 110 (.int .i64 (-1))).set 111 (.bool false),hp⟩) :
  XX pg 0 (.loop kY wG) ⟨env0,H⟩ Q t:=by
 refine oE (α:=Nat×Int) (λa=>a.1) (λa env hp=>env=iT (.pt 9 0 0) (.int .i64 a.2) (.int .i64 ((a.1:Int)-1))/\hp=H/\a.1<=8/\V=a.2*2097152 ^ a.1+eH (A.take a.1)) (8,0) ⟨henv,rfl,Nat.le_refl _,?_⟩ ?_;have:A.take 8=A:=by rw[<-l9];exact List.take_length
 show V=0*2097152 ^ 8+eH (A.take 8);rw[this,hv,Int.zero_mul,Int.zero_add];rintro⟨m,n⟩ env hp ⟨rfl,rfl,hm,hV⟩;cases m with
 |zero=>
  have e1:decide ((0:Int) <= -1)=false:=rfl;have hVn:V=n:=by simpa[eH] using hV
  simp only[kY,iT,e1,go_sem,seval];rw[<-hVn];exact hX hp
 |succ k=>
  obtain⟨e0,e1,f1,f2,f3,f4,f5⟩:=ZT (Nat.lt_of_succ_le hm);obtain⟨u,hu⟩:∃u,A[k]?=some u:=⟨_,aY (by rw[l9];exact Nat.lt_of_succ_le hm)⟩
  have bu:=(hc _ _ hu).1;rw[e0];cases b1:decide (2199023255552<n)
  case true=>simp only[kY,iT,e1,b1,go_sem,seval];exact hR _ _ rfl rfl
  cases b2:decide (n < -2199023255552)
  case true=>simp only[kY,iT,e1,b1,b2,go_sem,seval];exact hR _ _ rfl rfl
  obtain⟨w1,w2⟩:=U0 (cF b1) (cF b2) bu;simp only[kY,iT,e1,b1,b2,w1,f2,g9,hu,Option.map_some,Nat.zero_add,Nat.mul_one,aZ,w2,f4,go_sem,seval];refine⟨(k,n*2097152+u),Nat.lt_succ_self k,rfl,Nat.le_trans f3 (by decide),?_⟩;show V=(n*2097152+u)*2097152 ^ k+eH (A.take k);have e2:A.take (k+1)=A.take k++[u]:=by rw[List.take_add_one,hu];rfl
  have e3:(A.take k).length=k:=by rw[List.length_take,l9,f5]
  rw[hV,e2,mK,e3,Int.pow_succ,Int.add_mul];generalize (2097152:Int) ^ k=p;have e4:n*(p*2097152)=n*2097152*p:=by ac_rfl
  rw[e4];omega
end
end
section
section
variable{pg:Pg}
set_option maxRecDepth 100000 in
theorem c902(hf:pg.fs 902=some uH)(h893:pg.fs 893=some kN)(h906:pg.fs 906=some o6)(h907:pg.fs 907=some oZ)(nl1 cl1 nl2 cl2:Bool)(ls ms:List Int)(hl:ls.length=ms.length)(hb:ls.length<=big) :
  fT pg 902 [.sl nl1 (ls.map aZ) cl1,.sl nl2 (ms.map aZ) cl2] (λr=>∃a e,r = .tup [.int .i64 a,.int .i64 e]/\(e=0->a=m7 ls ms)):=by
 refine fT.ofX hf ?_;unfold uH;have hd:decide ((ls.length:Int)=(ms.length:Int))=true:=by rw[hl];simp
 cases h4:decide (10000<(ls.length:Int))
 case true=>simp only[aE,hd,h4,go_sem,seval];exact⟨0,3,rfl,λh=>absurd h (by decide)⟩
 have hn:ls.length<=10000:=by have:=cF h4;omega
 simp only[aE,hd,h4,go_sem,seval];refine bD (List.range ls.length) (λd r env hp=>env=wM (.sl nl1 (ls.map aZ) cl1) (.sl nl2 (ms.map aZ) cl2) (.int .i64 d.length)/\hp=[]/\(∀x∈ls.take d.length,inR x=true)/\∀x∈ms.take d.length,inR x=true) ?_ ?_ ?_;exact⟨rfl,rfl,by simp,by simp⟩
 ·rintro env hp ⟨rfl,rfl,rl,rm⟩;rw[List.length_range,List.take_length]at rl;rw[List.length_range,hl,List.take_length]at rm;rw[List.length_range];have e1:decide ((ls.length:Int)<(ls.length:Int))=false:=by simp
  simp only[wL,wM,aE,e1,go_sem,seval];refine aAJ h906 nl1 cl1 nl2 cl2 ls ms hl hn rl rm _ _ rfl ⟨rfl,rfl,?_,sM 8⟩ _ _ ?_;intro i v hv;have:=List.mem_of_getElem? hv;have:=List.eq_of_mem_replicate this;omega;intro hp1 A1 hA1;unfold k6
  try simp only[aFB]
  simp only[List.set_cons_succ,List.set_cons_zero];refine Wk ?_;have hcar:Car A1 0:=V2 hA1.bd (by omega);refine aAL h907 h893 _ hp1 A1 _ rfl hA1.g hA1.len hcar hA1.val _ _ ?_;intro hp2 A2 g2 l2 c2 v2;unfold kZ
  try simp only[aFB]
  simp only[List.set_cons_succ,List.set_cons_zero];refine Wk ?_;refine aAK _ hp2 A2 _ rfl g2 l2 c2 v2 _ _ ?_ ?_;intro env hp q4 q5;simp only[q4,q5,go_sem,seval];exact⟨0,2,rfl,λh=>absurd h (by decide)⟩
  ·intro hp3;unfold iT
   try simp only[aFB]
   simp only[List.set_cons_succ,List.set_cons_zero];refine Wk ?_;refine aP (c893 h893 (m7 ls ms)) ?_;cases hi:inR (m7 ls ms);refine Wk ?_;exact⟨0,2,rfl,λh=>absurd h (by decide)⟩;refine Wk ?_;exact⟨_,0,rfl,λ_=>rfl⟩
 rintro d x r env hp hes ⟨rfl,rfl,rl,rm⟩;obtain⟨rfl,hlt⟩:=fY hes;obtain⟨k,hkd⟩:∃k,k=d.length:=⟨_,rfl⟩
 have hl1:(d++[d.length]).length=k+1:=by simp[hkd]
 rw[hl1];rw[<-hkd]at rl rm hlt ⊢;obtain⟨f1,f2,f3,f4,f5,f6,f7⟩:=G9 hlt hn;obtain⟨x,hx⟩:∃x,ls[k]?=some x:=⟨_,aY hlt⟩
 obtain⟨y,hy⟩:∃y,ms[k]?=some y:=⟨_,aY (by rw[<-hl];exact hlt)⟩
 have e1:ls.take (k+1)=ls.take k++[x]:=by rw[List.take_add_one,hx];rfl
 have e2:ms.take (k+1)=ms.take k++[y]:=by rw[List.take_add_one,hy];rfl
 simp only[wL,wM,aE,f1,f7,hx,Option.map_some,Int.toNat_natCast,aZ,go_sem,seval];refine aP (c893 h893 x) ?_;cases ix:inR x
 case false=>refine Wk ?_;exact⟨0,2,rfl,λh=>absurd h (by decide)⟩
 simp only[f7,hy,Option.map_some,Int.toNat_natCast,aZ,go_sem,seval];refine aP (c893 h893 y) ?_;cases iy:inR y
 case false=>refine Wk ?_;exact⟨0,2,rfl,λh=>absurd h (by decide)⟩
 simp only[f2,go_sem,seval];refine⟨rfl,?_,?_⟩;rw[e1];intro z hz;rcases fK.1 hz with hz|hz;exact rl z hz;obtain rfl:z=x:=by simpa using hz
 exact ix;rw[e2];intro z hz;rcases fK.1 hz with hz|hz;exact rm z hz;obtain rfl:z=y:=by simpa using hz
 exact iy
theorem zR:∀l:List Int,m7 l (List.replicate l.length 1)=l.sum
 |[]=>rfl
 |a::r=>by have ih:=zR r;simp only[List.length_cons,List.replicate_succ,m7,ih,List.sum_cons,Int.mul_one]
set_option maxRecDepth 100000 in
theorem c895(hf:pg.fs 895=some zW)(h902:pg.fs 902=some uH)(h893:pg.fs 893=some kN)(h906:pg.fs 906=some o6)(h907:pg.fs 907=some oZ)(nl cl:Bool)(ls:List Int)(hb:ls.length<=big) :
  fT pg 895 [.sl nl (ls.map aZ) cl] (λr=>∃a e,r = .tup [.int .i64 a,.int .i64 e]/\(e=0->a=ls.sum)):=by
 refine fT.ofX hf ?_;unfold zW;refine Wk ?_;refine bD (List.range ls.length) (λd r env hp=>∃v,env=wQ (.sl nl (ls.map aZ) cl) v (.int .i64 d.length)/\Own hp 1 1 false v ((List.replicate d.length (1:Int)).map aZ)) ?_ ?_ ?_;exact⟨.sl true [] true,rfl,Own.nil _ _ _ _ true true rfl⟩;rintro env hp ⟨v,rfl,ho⟩;rw[List.length_range]at ho ⊢;have e1:decide ((ls.length:Int)<(ls.length:Int))=false:=by simp
 obtain⟨nl8,cl8,keys,hsn,_⟩:=ho.snap (El.ints _) 62;obtain⟨r,a902,a,e,rfl,he⟩:=c902 h902 h893 h906 h907 nl cl nl8 cl8 ls (List.replicate ls.length 1) (by simp) hb;have ti:=aQ (f:=aZ) (λ_=>rfl) ls;simp only[wP,wQ,aE,e1,go_sem,seval];refine iX a902 (GN (by simp only[ti,go_sem,seval]) hsn) (v:=.tup [.int .i64 a,.int .i64 e]) (pa:=[]) rfl (Wk ?_);exact⟨a,e,rfl,λh=>by rw[he h,zR]⟩;rintro d x r env hp hes ⟨v,rfl,ho⟩;obtain⟨rfl,hlt⟩:=fY hes;have e1:decide ((d.length:Int)<(ls.length:Int))=true:=by simp;omega
 have hw:wr .i64 ((d.length:Int)+1)=((d++[d.length]).length:Int):=by rw[eT (by omega) (by simp only[big]at hb;omega)];simp
 simp only[wP,wQ,aE,e1,go_sem,seval];refine x4 (kb:=0) (s:=1) ho (El.ints _) (xs:=[.int .i64 1]) (by intro z hz;simp at hz;subst hz;exact⟨rfl,rfl,rfl⟩) (by simp[big]at hb ⊢;omega) (by decide) ?_;intro v' rd pa ho' _ _;simp only[hw,go_sem,seval];refine⟨v',rfl,?_⟩;have e2:(List.replicate (d++[d.length]).length (1:Int)).map aZ=(List.replicate d.length (1:Int)).map aZ++[.int .i64 1]:=by rw[bW,List.length_singleton,List.replicate_succ',List.map_append];rfl
 rw[e2];exact ho'
end
end
section
def nu(vs:List Val)(s:List UInt8):Int:=((vs.find? λv=>decide (v.v.bs=s)).map λv=>v.n).getD 0
def kC(vs:List Val):List Str->Int
 |[]=>1
 |s::r=>nu vs s.bs*kC vs r
def oQ(vs:List Val)(x:aD):Int:=x.c*kC vs x.vs.es
def yQ(vs:List Val)(l:List aD):Int:=(l.map (oQ vs)).sum
theorem hJ(vs:List Val)(s:Str):∀l:List Str,kC vs (l++[s])=kC vs l*nu vs s.bs
 |[]=>by simp[kC]
 |a::r=>by have ih:=hJ vs s r;simp only[List.cons_append,kC,ih];ac_rfl
theorem GB{vs d r:List Val}{y:Val}{s:List UInt8}(h:vs=d++y::r)(hd:∀v∈d,v.v.bs≠s)(hy:y.v.bs=s):nu vs s=y.n:=by
 have:vs.find? (λv=>decide (v.v.bs=s))=some y:=by rw[h,List.find?_append,List.find?_eq_none.2 (by intro v hv;simpa using hd v hv)];simp[hy]
 rw[nu,this];rfl
def aFz(vs:List Val)(c:Int)(d:List Str)(n:Int)(bad zero bg:Bool):Prop:=bad=false->(zero=true->kC vs d=0)/\(zero=false->bg=false->n=c*kC vs d)
theorem KI{a b:Int}(h:(qR a b).2=0):(qR a b).1=a*b:=by unfold qR at h ⊢;generalize (4611686018427387904:Int).tdiv (if b<0 then -b else b)=q at h ⊢;generalize (if a<0 then -a else a)=p at h ⊢;by_cases h1:(inR a&&inR b)=true;rw[if_pos h1]at h ⊢;by_cases h2:a=0\/b=0;rw[if_pos h2];rcases h2 with rfl|rfl<;>simp;rw[if_neg h2]at h ⊢;by_cases h3:q<p;rw[if_pos h3]at h;simp at h;rw[if_neg h3];rw[if_neg h1]at h;simp at h
section
variable{pg:Pg}
set_option maxRecDepth 100000 in
theorem c887(hf:pg.fs 887=some zX)(h690:∀P:Sl aD,Ret pg 690 [.sl P.nl (P.es.map aD.av) P.cl] (.bool (aN P.es)))(h893:pg.fs 893=some kN)(h894:pg.fs 894=some uJ)(h901:pg.fs 901=some rP)
  (h895:∀(nl cl:Bool)(ls:List Int),ls.length<=big->fT pg 895 [.sl nl (ls.map aZ) cl] (λr=>∃a e,r = .tup [.int .i64 a,.int .i64 e]/\(e=0->a=ls.sum)))
  (P:Sl aD) (nl cl:Bool) (vs:List Val) (hvb:vs.length<=big) :
  fT pg 887 [P.av aD.av,.sl nl (vs.map Val.av) cl] (λr=>∃a e,r = .tup [.int .i64 a,.int .i64 e]/\(e=0->aN P.es=true/\a=yQ vs P.es)):=by
 have hb:=P.ok;have tm:∀l:List aD,treeL (l.map aD.av)=true:=by intro l;refine aQ (λx=>?_) l;have:=aQ (f:=Str.av) (λ_=>rfl) x.vs.es;simp only[aD.av,Sl.av];simp only[this,go_sem,seval]
 refine fT.ofX hf ?_;unfold zX;simp only[Sl.av,go_sem,seval];refine bQ (h690 P) (by simp only[tm P.es,go_sem,seval]) rfl ?_;cases v1:aN P.es
 case false=>refine Wk ?_;exact⟨0,1,rfl,λh=>absurd h (by decide)⟩
 refine Wk ?_;refine bD P.es (λd r env hp=>∃v bad,env=wU (.sl P.nl (P.es.map aD.av) P.cl) (.sl nl (vs.map Val.av) cl) v (.bool bad) (.int .i64 d.length)/\∃acc:List Int,Own hp 13 1 false v (acc.map aZ)/\acc.length=d.length/\(bad=false->acc=d.map (oQ vs))) ?_ ?_ ?_;exact⟨.sl true [] true,false,rfl,[],Own.nil _ _ _ _ true true rfl,rfl,λ_=>rfl⟩;rintro env hp ⟨v,bad,rfl,acc,ho,hal,hacc⟩;have e1:decide ((P.es.length:Int)<(P.es.length:Int))=false:=by simp
 simp only[wT,wU,aE,e1,go_sem,seval];cases bad
 case true=>refine Wk ?_;exact⟨0,2,rfl,λh=>absurd h (by decide)⟩
 have hacc:=hacc rfl;obtain⟨nl8,cl8,keys,hsn,_⟩:=ho.snap (El.ints _) 62;obtain⟨r,a895,a,e,rfl,he⟩:=h895 nl8 cl8 acc (by rw[hal];exact hb);refine Wk ?_;refine iX (keys:=keys) a895 (by simp only[depth,kH,jG,sU,↓hsn,go_sem,seval]) (v:=.tup [.int .i64 a,.int .i64 e]) (pa:=[]) rfl (Wk ?_);exact⟨a,e,rfl,λh=>by rw[he h,hacc];rfl⟩
 ·rintro d x r env hp hes ⟨v,bad,rfl,acc,ho,hal,hacc⟩;have hx:P.es[d.length]?=some x:=by rw[hes];simp
  have e1:decide ((d.length:Int)<(P.es.length:Int))=true:=by rw[hes];simp;omega
  have hsb:(d++x::r).length<=big:=by rw[<-hes];exact hb
  have hp0:(0:Int)<=(d.length:Int):=by omega
  simp only[wT,wU,aE,e1,hx,hp0,Int.toNat_natCast,Option.map_some,aD.av,Sl.av,go_sem,seval];refine bD x.vs.es (λd2 r2 env hp2=>∃n bad2 zero bg,env=pO (.sl P.nl (P.es.map aD.av) P.cl) (.sl nl (vs.map Val.av) cl) v (.bool bad2) (.int .i64 d.length) (.int .i64 n) (.bool zero) (.bool bg) (.int .i64 d2.length)/\hp2=hp/\(bad2=false->bad=false)/\aFz vs x.c d2 n bad2 zero bg) ?_ ?_ ?_;exact⟨x.c,bad,false,false,rfl,rfl,id,λ_=>⟨λh=>absurd h (by decide),λ_ _=>by simp[kC]⟩⟩
  ·rintro env hp2 ⟨n,bad2,zero,bg,rfl,rfl,hbb,hI⟩;have e2:decide ((x.vs.es.length:Int)<(x.vs.es.length:Int))=false:=by simp
   have fin:∀(b3:Bool)(n3:Int),(b3=false->bad=false/\n3=oQ vs x)->(b3=false->acc++[n3]=(d++[x]).map (oQ vs)):=by intro b3 n3 h3 hb3;obtain⟨h4,h5⟩:=h3 hb3;rw[hacc h4,h5,List.map_append];rfl
   have hro:acc.length<1073741824:=by rw[hal];simp only[bW,List.length_cons,big]at hsb;omega
   cases zero
   case true=>simp only[pM,pO,aE,e1,e2,hx,hp0,Int.toNat_natCast,Option.map_some,aD.av,Sl.av,go_sem,seval];refine x4 (kb:=0) (s:=13) ho (El.ints _) (xs:=[.int .i64 0]) (by intro z hz;simp at hz;subst hz;exact⟨rfl,rfl,rfl⟩) (by simp only[aE,List.length_singleton];omega) (by decide) ?_;intro v' rd pa ho' hk hpa;simp only[bI hsb,go_sem,seval];refine⟨v',bad2,rfl,acc++[0],by simpa[aZ] using ho',by simp[hal],fin bad2 0 ?_⟩;intro hb2;refine⟨hbb hb2,?_⟩;rw[oQ,(hI hb2).1 rfl,Int.mul_zero]
   case false=>
    have tail:∀b3:Bool,(b3=false->bad2=false/\bg=false)->(b3=false->bad=false/\n=oQ vs x):=by intro b3 h3 hb3;obtain⟨h4,h5⟩:=h3 hb3;exact⟨hbb h4,(hI h4).2 rfl h5⟩
    cases bad2<;>cases bg
    all_goals
     simp only[pM,pO,aE,e1,e2,hx,hp0,Int.toNat_natCast,Option.map_some,aD.av,Sl.av,go_sem,seval];refine x4 (kb:=0) (s:=13) ho (El.ints _) (xs:=[.int .i64 n]) (by intro z hz;simp at hz;subst hz;exact⟨rfl,rfl,rfl⟩) (by simp only[aE,List.length_singleton];omega) (by decide) ?_;intro v' rd pa ho' hk hpa;simp only[bI hsb,go_sem,seval];exact⟨v',_,rfl,acc++[n],by simpa[aZ] using ho',by simp[hal],fin _ n (tail _ (by simp))⟩
  rintro d2 y r2 env hp2 hes2 ⟨n,bad2,zero,bg,rfl,rfl,hbb,hI⟩;have hy:x.vs.es[d2.length]?=some y:=by rw[hes2];simp
  have e2:decide ((d2.length:Int)<(x.vs.es.length:Int))=true:=by rw[hes2];simp;omega
  have hsb2:(d2++y::r2).length<=big:=by rw[<-hes2];exact x.vs.ok
  have hq2:(0:Int)<=(d2.length:Int):=by omega
  simp only[pM,pO,aE,e2,hx,hy,hp0,hq2,Int.toNat_natCast,Option.map_some,aD.av,Sl.av,go_sem,seval];refine bD vs (λd3 r3 env hp3=>env=pP (.sl P.nl (P.es.map aD.av) P.cl) (.sl nl (vs.map Val.av) cl) v (.bool bad2) (.int .i64 d.length) (.int .i64 n) (.bool zero) (.bool bg) (.int .i64 d2.length) (.int .i64 d3.length)/\hp3=hp2/\∀u∈d3,u.v.bs≠y.bs) ?_ ?_ ?_;exact⟨rfl,rfl,λu hu=>by cases hu⟩;rintro env hp3 ⟨rfl,rfl,_⟩;have e3:decide ((vs.length:Int)<(vs.length:Int))=false:=by simp
  have e4:decide ((vs.length:Int)=(vs.length:Int))=true:=by simp
  simp only[pN,pP,aE,e3,e4,go_sem,seval];exact⟨rfl,0,7,rfl,λh=>absurd h (by decide)⟩;rintro d3 u r3 env hp3 hes3 ⟨rfl,rfl,hd3⟩;have hu:vs[d3.length]?=some u:=by rw[hes3];simp
  have e3:decide ((d3.length:Int)<(vs.length:Int))=true:=by rw[hes3];simp;omega
  have e4:decide ((d3.length:Int)=(vs.length:Int))=false:=by rw[hes3];simp;omega
  have hsb3:(d3++u::r3).length<=big:=by rw[<-hes3];exact hvb
  have hp3':(0:Int)<=(d3.length:Int):=by omega
  cases w1:decide (u.v.bs=y.bs)
  case false=>simp only[pN,pP,aE,e3,e4,hx,hy,hu,hp0,hq2,hp3',Int.toNat_natCast,Option.map_some,aD.av,Sl.av,Val.av,w1,bI hsb3,go_sem,seval];refine⟨rfl,rfl,λw hw=>?_⟩;rcases fK.1 hw with hw|hw;exact hd3 w hw;simp at hw;subst hw;exact cF w1
  have w1':=bU w1;have hnu:nu vs y.bs=u.n:=GB hes3 hd3 w1';simp only[pN,pP,aE,e3,e4,hx,hy,hu,hp0,hq2,hp3',Int.toNat_natCast,Option.map_some,aD.av,Sl.av,Val.av,w1,go_sem,seval];refine⟨rfl,?_⟩;refine bQ (c893 h893 u.n) rfl rfl ?_;cases v2:inR u.n
  case false=>simp only[bI hsb2,go_sem,seval];exact⟨n,true,zero,bg,rfl,λh=>absurd h (by decide),λh=>absurd h (by decide)⟩
  refine Wk ?_;cases v3:decide (u.n=0)
  case true=>simp only[v3,bI hsb2,go_sem,seval];refine⟨n,bad2,true,bg,rfl,hbb,λ_=>⟨λ_=>?_,λh=>absurd h (by decide)⟩⟩;rw[hJ,hnu,bU v3,Int.mul_zero]
  simp only[v3,go_sem,seval];refine bQ (c894 h894 h893 h901 n u.n) rfl rfl ?_;cases v4:decide ((qR n u.n).2=0)
  case false=>simp only[v4,bI hsb2,go_sem,seval];refine⟨n,bad2,zero,true,rfl,hbb,λh=>⟨λh2=>?_,λ_ h2=>absurd h2 (by decide)⟩⟩;rw[hJ,(hI h).1 h2,Int.zero_mul]
  simp only[v4,bI hsb2,go_sem,seval];refine⟨(qR n u.n).1,bad2,zero,bg,rfl,hbb,λh=>⟨λh2=>?_,λh2 h3=>?_⟩⟩;rw[hJ,(hI h).1 h2,Int.zero_mul];rw[KI (bU v4),(hI h).2 h2 h3,hJ,hnu,Int.mul_assoc]
end
end
end Go.Tev
