import Derived.Test.YtmcadllokkmeiaaGreatDoorBBE
set_option linter.all false
namespace Go.Tev
section
abbrev PS:=List Sp×Int
def mxI(a b:Int):Int:=if a<b then b else a
def bI(sz:List Int)(v:Nat):Int:=sz.getD v 0
def plc(P:List Sp)(v:Nat):Sp:=P.getD v (-1,0)
def en(p:Sp):Int:=wr .i64 (p.1+p.2)
def mA(sz:List Int)(s:PS)(v:Nat)(o:Int):PS:=(s.1.set v (o,bI sz v),mxI s.2 (en (o,bI sz v)))
def P9(sz:List Int)(s:PS)(l:List Nat):PS:=l.foldl (λs v=>mA sz s v (fitS (s.1.take v) (bI sz v))) s
def m9(P:List Sp)(l:List Int):List Sp:=(l.map λv=>plc P v.toNat).filter λp=>decide (0<=p.1)
def z7(k:aA)(sz:List Int)(s:PS)(i:Nat)(q:aG):PS:=
 if 0<=(plc s.1 q.value.toNat).1 then s
 else if 0<=d7 k i then mA sz s q.value.toNat (plc s.1 (d7 k i).toNat).1
 else mA sz s q.value.toNat (fitS (m9 s.1 (cC i (aD k))) (bI sz q.value.toNat))
def z6(k:aA)(sz:List Int):PS->Nat->List aG->PS
 |s,_,[]=>s
 |s,i,q::r=>z6 k sz (z7 k sz s i q) (i+1) r
theorem F3(k:aA)(sz:List Int)(q:aG):∀(d:List aG)(s:PS)(i:Nat),z6 k sz s i (d++[q])=z7 k sz (z6 k sz s i d) (i+d.length) q
 |[],s,i=>by simp[z6]
 |x::d,s,i=>by rw[List.cons_append,z6,F3 k sz q d,z6,List.length_cons];congr 1;omega
theorem aAk(sz:List Int)(s:PS)(l:List Nat)(v:Nat):P9 sz s (l++[v])=mA sz (P9 sz s l) v (fitS ((P9 sz s l).1.take v) (bI sz v)):=by simp[P9]
def ini(n:Nat):PS:=(List.replicate n (-1,0),0)
def nD(k:aA)(sz:List Int)(n:Nat):PS:=P9 sz (ini k.aSe.es.length) (List.range n)
theorem xJ(k:aA)(sz:List Int)(n:Nat):nD k sz (n+1)=mA sz (nD k sz n) n (fitS ((nD k sz n).1.take n) (bI sz n)):=by rw[nD,List.range_succ,aAk];rfl
def eQ(k:aA)(sz:List Int)(d:List aG):PS:=z6 k sz (nD k sz k.aSg.toNat) 0 d
theorem yT(k:aA)(sz:List Int)(d:List aG)(q:aG):eQ k sz (d++[q])=z7 k sz (eQ k sz d) d.length q:=by rw[eQ,F3,bF];rfl
theorem FQ(sz:List Int)(s:PS)(v:Nat)(o:Int):(mA sz s v o).1.length=s.1.length:=by simp[mA]
theorem aCm(k:aA)(sz:List Int)(s:PS)(i:Nat)(q:aG):(z7 k sz s i q).1.length=s.1.length:=by rw[z7];split;rfl;split<;>exact FQ _ _ _ _
theorem JA(k:aA)(sz:List Int):∀(d:List aG)(s:PS)(i:Nat),(z6 k sz s i d).1.length=s.1.length
 |[],_,_=>rfl
 |q::d,s,i=>by rw[z6,JA k sz d,aCm]
theorem sW(k:aA)(sz:List Int):∀n,(nD k sz n).1.length=k.aSe.es.length
 |0=>by simp[nD,P9,ini]
 |n+1=>by rw[xJ,FQ,sW k sz n]
theorem xD(k:aA)(sz:List Int)(d:List aG):(eQ k sz d).1.length=k.aSe.es.length:=by rw[eQ,JA,sW]
theorem fitS_bnd(l:List Sp)(s:Int) : -1<=fitS l s/\fitS l s<=2000000000:=by
 rw[fitS];split;omega;rename_i h
 have hb:∀p∈FC l,lU p=false:=λp hp=>by cases hx:lU p;rfl;exact absurd (.inr (.inr (List.any_eq_true.2 ⟨p,(sM l p).1 hp,hx⟩))) h
 have:=fitScan_bnd (s:=s) hb (Int.le_refl 0) (by omega);omega
theorem rG(P:List Sp)(v w:Nat)(x:Sp):plc (P.set v x) w=if v=w/\v<P.length then x else plc P w:=by simp only[plc,fY,List.getElem?_set];by_cases h:v=w;subst h;by_cases h2:v<P.length;simp[h2];simp[h2];simp[h]
structure BD(sz:List Int)(s:PS):Prop where
 rng:∀v,-1<=(plc s.1 v).1/\(plc s.1 v).1<=2000000000
 siz:∀v,plc s.1 v=(-1,0)\/(plc s.1 v).2=bI sz v
 nn:0<=s.2
 le:∀v,en (plc s.1 v)<=s.2
 at_:s.2=0\/∃v,v<s.1.length/\en (plc s.1 v)=s.2
theorem aCB(sz:List Int)(n:Nat):BD sz (ini n):=by
 have h:∀v,plc (ini n).1 v=(-1,0):=by intro v;simp only[plc,ini,fY,List.getElem?_replicate];split<;>rfl
 exact⟨λv=>by rw[h];simp,λv => .inl (h v),Int.le_refl 0,λv=>by rw[h];exact(by decide:en (-1,0)<=0),.inl rfl⟩
theorem aCZ{o z:Int}(h1 : -1<=o)(h2:o<=2000000000)(h3:0<=z)(h4:z<=1000000000):en (o,z)=o+z:=aU (by simp only;omega) (by simp only;omega)
theorem QE{sz:List Int}(hz:∀v,0<=bI sz v/\bI sz v<=1000000000){s:PS}(g:BD sz s){v:Nat}{o:Int}(h1 : -1<=o)(h2:o<=2000000000)(hn:(plc s.1 v).1<0)(hv:v<s.1.length):BD sz (mA sz s v o):=by
 have e1:=aCZ h1 h2 (hz v).1 (hz v).2;have hm:mxI s.2 (en (o,bI sz v))=if s.2<en (o,bI sz v) then en (o,bI sz v) else s.2:=rfl;have hold:en (plc s.1 v)<=0\/en (plc s.1 v)<=en (o,bI sz v):=by
  rcases g.siz v with h|h;left;rw[h];decide;right;have h3:=(g.rng v).1;have h4:(plc s.1 v)=(-1,bI sz v):=by rw[<-h];exact Prod.ext (by simp only;omega) rfl
  rw[h4,aCZ (by omega) (by omega) (hz v).1 (hz v).2,e1];omega
 refine⟨λw=>?_,λw=>?_,?_,λw=>?_,?_⟩;simp only[mA];rw[rG];split;exact⟨h1,h2⟩;exact g.rng w;simp only[mA];rw[rG];split;rename_i h;rw[<-h.1];exact .inr rfl;exact g.siz w;have:=g.nn;simp only[mA];rw[hm];split<;>omega;have:=g.le w;simp only[mA];rw[hm,rG];split<;>split<;>omega;simp only[mA];rw[hm,List.length_set];split;rename_i hlt;exact .inr ⟨v,hv,by rw[rG,if_pos ⟨rfl,hv⟩]⟩;rename_i hlt;rcases g.at_ with h|⟨w,hw,h⟩
 exact .inl h;by_cases hvw:v=w;subst hvw;rcases hold with ho|ho;have:=g.nn;exact .inl (by omega);exact .inr ⟨v,hw,by rw[rG,if_pos ⟨rfl,hw⟩];omega⟩;exact .inr ⟨w,hw,by rw[rG,if_neg (λh=>hvw h.1)];exact h⟩
theorem qI{sz:List Int}{s:PS}{v w:Nat}{o:Int}(h:v≠w):plc (mA sz s v o).1 w=plc s.1 w:=by simp only[mA];rw[rG,if_neg (λx=>h x.1)]
theorem tU{sz:List Int}{s:PS}{v:Nat}{o:Int}(h:v<s.1.length):plc (mA sz s v o).1 v=(o,bI sz v):=by simp only[mA];rw[rG,if_pos ⟨rfl,h⟩]
theorem JE{k:aA}{sz:List Int}(hz:∀v,0<=bI sz v/\bI sz v<=1000000000):∀n,n<=k.aSe.es.length->BD sz (nD k sz n)/\(∀v,v<n->(plc (nD k sz n).1 v).2=bI sz v)/\∀v,n<=v->plc (nD k sz n).1 v=(-1,0)
 |0,_=>by refine⟨aCB sz _,λv hv=>by omega,λv _=>?_⟩;simp only[nD,P9,List.range_zero,List.foldl_nil,plc,ini,fY,List.getElem?_replicate];split<;>rfl
 |n+1,hn=>by obtain⟨g,h1,h2⟩:=JE (k:=k) hz n (by omega);have hl:=sW k sz n;have hb:=fitS_bnd ((nD k sz n).1.take n) (bI sz n);rw[xJ];refine⟨QE hz g hb.1 hb.2 (by rw[h2 n (aX n)];decide) (by omega),λv hv=>?_,λv hv=>?_⟩;by_cases h:n=v;subst h;rw[tU (by omega)];rw[qI h];exact h1 v (by omega);rw[qI (by omega)];exact h2 v (by omega)
theorem aCl{k:aA}{sz:List Int}(hz:∀v,0<=bI sz v/\bI sz v<=1000000000){s:PS}(g:BD sz s)(i:Nat){q:aG}(hq:q.value.toNat<s.1.length) :
  BD sz (z7 k sz s i q)/\(plc (z7 k sz s i q).1 q.value.toNat).2=bI sz q.value.toNat/\∀v,(plc s.1 v).2=bI sz v->(plc (z7 k sz s i q).1 v).2=bI sz v:=by
 have put:∀o:Int,-1<=o->o<=2000000000->(plc s.1 q.value.toNat).1<0->BD sz (mA sz s q.value.toNat o)/\(plc (mA sz s q.value.toNat o).1 q.value.toNat).2=bI sz q.value.toNat/\∀v,(plc s.1 v).2=bI sz v->(plc (mA sz s q.value.toNat o).1 v).2=bI sz v:=by intro o h1 h2 h3;refine⟨QE hz g h1 h2 h3 hq,by rw[tU hq],λv hv=>?_⟩;by_cases h:q.value.toNat=v;rw[<-h,tU hq];rw[qI h];exact hv
 rw[z7];split;rename_i h0;refine⟨g,?_,λv h=>h⟩;rcases g.siz q.value.toNat with h|h;rw[h]at h0;exact absurd h0 (by decide);exact h;rename_i h0;split;exact put _ (g.rng _).1 (g.rng _).2 (by omega);have hb:=fitS_bnd (m9 s.1 (cC i (aD k))) (bI sz q.value.toNat);exact put _ hb.1 hb.2 (by omega)
theorem sQ{k:aA}{sz:List Int}(hz:∀v,0<=bI sz v/\bI sz v<=1000000000)(hi:k.aSg.toNat<=k.aSe.es.length):∀(n:Nat),(∀q∈k.aSf.es.take n,q.value.toNat<k.aSe.es.length) ->
  BD sz (eQ k sz (k.aSf.es.take n))/\(∀v,v<k.aSg.toNat->(plc (eQ k sz (k.aSf.es.take n)).1 v).2=bI sz v)/\∀q∈k.aSf.es.take n,(plc (eQ k sz (k.aSf.es.take n)).1 q.value.toNat).2=bI sz q.value.toNat
 |0,_=>by obtain⟨g,h1,_⟩:=JE (k:=k) hz _ hi;simp only[List.take_zero];exact⟨g,h1,by simp⟩
 |n+1,hq=>by
  by_cases hn:n<k.aSf.es.length;have e:k.aSf.es.take (n+1)=k.aSf.es.take n++[k.aSf.es[n]]:=by rw[List.take_succ_eq_append_getElem hn]
  rw[e]at hq ⊢;obtain⟨g,h1,h2⟩:=sQ hz hi n (λq hx=>hq q (jM.2 (.inl hx)));rw[yT];have hl:(k.aSf.es[n]).value.toNat<(eQ k sz (k.aSf.es.take n)).1.length:=by rw[xD];exact hq _ (jM.2 (.inr (List.mem_singleton.2 rfl)))
  obtain⟨g',h3,h4⟩:=aCl (k:=k) hz g (k.aSf.es.take n).length hl;refine⟨g',λv hv=>h4 v (h1 v hv),λq hx=>?_⟩;rcases jM.1 hx with hx|hx;exact h4 _ (h2 q hx);simp at hx;subst hx;exact h3;have e:k.aSf.es.take (n+1)=k.aSf.es.take n:=by rw[List.take_of_length_le (by omega),List.take_of_length_le (by omega)]
  rw[e]at hq ⊢;exact sQ hz hi n hq
def pkP(P:List Sp):Int:=P.foldl (λm p=>mxI m (en p)) 0
theorem aFs(P:List Sp)(p:Sp):pkP (P++[p])=mxI (pkP P) (en p):=by simp[pkP]
theorem YP(a b:Int):a<=mxI a b/\b<=mxI a b:=by unfold mxI;split<;>omega
theorem aBX(a b:Int):mxI a b=a\/mxI a b=b:=by unfold mxI;split<;>simp
theorem aHm:∀(P:List Sp)(m:Int),let r:=P.foldl (λm p=>mxI m (en p)) m;m<=r/\(∀p∈P,en p<=r)/\(r=m\/∃p∈P,en p=r)
 |[],m=>⟨Int.le_refl m,by simp,.inl rfl⟩
 |p::P,m=>by
  obtain⟨h1,h2,h3⟩:=aHm P (mxI m (en p));simp only[List.foldl_cons]at h1 h2 h3 ⊢;have hm:=YP m (en p);refine⟨by omega,?_,?_⟩;intro q hq;rcases dA.1 hq with rfl|hq;omega;exact h2 q hq;rcases h3 with h3|⟨q,hq,h3⟩
  rw[h3];rcases aBX m (en p) with h|h;exact .inl h;exact .inr ⟨p,by simp,h.symm⟩;exact .inr ⟨q,by simp[hq],h3⟩
theorem aFI{sz:List Int}{s:PS}(g:BD sz s):pkP s.1=s.2:=by
 obtain⟨h1,h2,h3⟩:=aHm s.1 0;change 0<=pkP s.1 at h1;change ∀p∈s.1,en p<=pkP s.1 at h2;change pkP s.1=0\/∃p∈s.1,en p=pkP s.1 at h3;have a:pkP s.1<=s.2:=by
  rcases h3 with h|⟨p,hp,h⟩
  rw[h];exact g.nn;rw[<-h];obtain⟨v,hv⟩:=List.mem_iff_getElem?.1 hp;have:=g.le v;rw[plc,fY,hv]at this;exact this
 have b:s.2<=pkP s.1:=by
  rcases g.at_ with h|⟨v,hv,h⟩
  rw[h];exact h1;rw[<-h];refine h2 _ ?_;rw[plc,fY,aW hv];exact List.getElem_mem hv
 omega
end
section
theorem FG(ds:List Val):∀(a b:List Lin)(n:Int)(t:Bool),eqL cN a b=true->qF ds n t a=qF ds n t b
 |[],[],_,_,_=>rfl
 |[],_::_,_,_,h=>by simp[eqL]at h
 |_::_,[],_,_,h=>by simp[eqL]at h
 |x::a,y::b,n,t,h=>by simp only[eqL,aF]at h;rw[qF,qF,UT ds h.1];exact FG ds a b _ _ h.2
theorem TF(ds:List Val){a b:Typ}(h:jH a b=true):fA ds a=fA ds b:=by simp only[jH,iB,aF]at h;simp only[fA,gY];rw[FG ds _ _ _ _ h.2.2]
theorem yL(f:Typ->Int):∀(sp:List Sp)(ts:List Typ)(n:Nat)(s:Sp)(t:Typ),sp[n]?=some s->ts[n]?=some t->(eI f sp ts)[n]?=some (if s.1 = -2 then 0 else f t)
 |s::r,t::q,0,_,_,h1,h2=>by simp at h1 h2;subst h1 h2;simp[eI]
 |s::r,t::q,n+1,_,_,h1,h2=>by simp only[List.getElem?_cons_succ]at h1 h2;simp only[eI,List.getElem?_cons_succ];exact yL f r q n _ _ h1 h2
 |[],_,_,_,_,h1,_=>by simp at h1
 |_::_,[],_,_,_,_,h2=>by simp at h2
def bK(k:aA)(ds:List Val):List Int:=eI (fA ds) (aD k) k.aSe.es
theorem tK{k:aA}{v:Int}(h:(vG k v).1 ≠ -2):∃s,(aD k)[v.toNat]?=some s/\vG k v=s:=by
 rw[vG]at h ⊢;cases hs:(aD k)[v.toNat]? with
 |none=>rw[hs]at h;exact absurd rfl h
 |some s=>exact⟨s,rfl,rfl⟩
theorem OQ{k:aA}{ds:List Val}{v:Nat}{t:Typ}{s:Sp}(hs:(aD k)[v]?=some s)(h2:s.1 ≠ -2)(ht:k.aSe.es[v]?=some t):bI (bK k ds) v=fA ds t:=by rw[bI,fY,bK,yL _ _ _ _ _ _ hs ht,if_neg h2];rfl
theorem DH{k:aA}(ok:gT k)(ds:List Val){d r:List aG}{q:aG}(hes:k.aSf.es=d++q::r)(hc:0<=d7 k d.length) :
  ∃c:Nat,d7 k d.length=c/\c<k.aSe.es.length/\(c<k.aSg.toNat\/∃x∈d,x.value.toNat=c)/\bI (bK k ds) c=bI (bK k ds) q.value.toNat:=by
 rcases qS (λv=>kS k (d.length:Int) (v:Int)) k.aSe.es.length 0 with h|⟨c,h1,h2,_,h3⟩
 rw[d7,h]at hc;exact absurd hc (by decide);refine⟨c,h1,by omega,?_⟩;have hget:k.aSf.es[d.length]?=some q:=by rw[hes];simp
 have hq0:=(d5 (ok.ker d q r hes)).1;have hin:0<=k.aSg:=by have:=ok.out;simp only[bJ,aF,aR]at this;obtain⟨_,⟨⟨⟨⟨⟨⟨_,_⟩,hi0⟩,_⟩,hiV⟩,_⟩,_⟩,_⟩:=this;exact hi0
 simp only[kS,dU,hget]at h2;cases ha:k.aSe.es[c]? with
 |none=>rw[ha]at h2;cases h2
 |some a=>
 rw[ha]at h2;simp only at h2;cases hb:k.aSe.es[q.value.toNat]? with
 |none=>rw[hb]at h2;cases h2
 |some b=>
 rw[hb]at h2;simp only[aAb,aF,aR,eA,eJ]at h2;obtain⟨_,⟨m1,m2,m3,m4⟩,m5,_⟩:=h2;obtain⟨s,s1,s2⟩:=tK m3;obtain⟨u,u1,u2⟩:=tK (k:=k) (v:=q.value) (by omega);rw[s2]at m3 m4;rw[u2]at m2;rw[dU]at s1;constructor;have hle:=qE k s (List.mem_of_getElem? s1);rcases oE (k:=k) (n:=c) (f:=s.1) (by rw[frm,s1];rfl) with h|⟨_,h⟩|⟨j,x,x1,x2,x3⟩
 exact absurd h m3;exact .inl h;right;have hj:j<d.length:=by rcases Nat.lt_trichotomy j d.length with h|h|h;exact h;subst h;rw[hget]at x1;cases x1;omega;omega
 refine⟨x,?_,x2⟩;rw[hes,List.getElem?_append_left hj]at x1;exact List.mem_of_getElem? x1;rw[OQ s1 m3 ha,OQ u1 (by omega) hb,TF ds m5]
end
section
def FZ(k:aA)(ds:List Val)(r:AV):Prop:=
 if cL k ds=0 then ∃n1 c1 n2 c2,r = .tup [.agg [.sl n1 ((eQ k (bK k ds) k.aSf.es).1.map bO) c1,.sl n2 ((bV k).map aH) c2,.int .i64 (eQ k (bK k ds) k.aSf.es).2],.int .i64 0]
 else r = .tup [.agg [.sl true [] true,.sl true [] true,.int .i64 0],.int .i64 (cL k ds)]
theorem O7{h:Hp}{k e:Nat}{sp:List Sp}(hg:h.get k=some (e,.blk (aV sp) 2 true false false))(n cap:Nat)(hn:n<=sp.length)(d:Nat):Tev.snap (d+2) h (.rf k e 0 n cap)=some (.sl false ((sp.take n).map bO) false,[k]):=by
 obtain⟨cs',h1,h2,h3,h4⟩:=eD (mR (sp.take n));rw[nS]at h1;cases h1;have h5:=h4 (aV (sp.drop n));have happ:∀a b:List Sp,aV a++aV b=aV (a++b):=by
  intro a b
  induction a with
  |nil=>rfl
  |cons x a ih=>simp[aV,ih]
 rw[happ,List.take_append_drop,aM,List.length_take,Nat.min_eq_left hn]at h5;have h6:eN (Tev.snap (d+1) h) ((sp.take n).map bO)=some ((sp.take n).map bO,[]):=fI d h (j0 _);rw[fE];simp only[hg,List.drop_zero,h5,h6];simp[AV.tree]
theorem aFf{h:Hp}{cs:List AV}{k e n j:Nat}(hg:h.get k=some (e,.blk cs 2 true false false))(hj:j<=n):iZ h 2 false true false [.rf k e 0 n n,.int .i64 j]=some (.rf k e 0 j n,.pat [k] []):=by simp only[iZ,kX,j1,hg,bR,aL,aN,Option.getD_none,Option.getD_some];rw[if_pos ⟨trivial,trivial,by omega,by omega,by omega,by omega,by simp,.inl trivial⟩];simp
theorem aCj{P:List Sp}{v n:Nat}(hn:P.length=n)(h:v<n):(aV P)[0+v*2+0]?=some (.int .i64 (plc P v).1):=by subst hn;rw[bF,Nat.add_zero,(sK P v P[v] (aW h)).1,plc,fY,aW h];rfl
theorem T8(P:List Sp)(d:List Int)(w:Int):m9 P (d++[w])=m9 P d++if 0<=(plc P w.toNat).1 then [plc P w.toNat] else []:=by simp only[m9,List.map_append,List.filter_append,List.map_cons,List.map_nil];congr 1;by_cases h:0<=(plc P w.toNat).1<;>simp[h]
theorem I5(P:List Sp)(d:List Int):(m9 P d).length<=d.length:=by simp only[m9];exact Nat.le_trans (List.length_filter_le _ _) (by simp)
theorem YF{P:List Sp}{v n:Nat}(hn:P.length=n)(h:v<n):P[v]?=some (plc P v):=by subst hn;rw[plc,fY,aW h];rfl
structure MH(k:aA)(sz:List Int)(n2 c2:Bool)(s:PS)(hp:Hp):Prop where
 g1:hp.get 1=some (0,.blk k.cells 6 true true false)
 g5:hp.get 5=some (0,.blk [.sl true [] true,.sl true [] true,.int .i64 0] 3 true true false)
 g13:hp.get 13=some (0,.blk [.sl false (sz.map aH) true] 1 false true false)
 g21:hp.get 21=some (0,.blk (aV s.1) 2 true false false)
 g25:hp.get 25=some (0,.blk [.rf 21 0 0 k.aSe.es.length k.aSe.es.length,.sl n2 ((bV k).map aH) c2,.int .i64 s.2] 3 true true false)
theorem MH.put{k:aA}{sz:List Int}{n2 c2:Bool}{s:PS}{hp:Hp}(m:MH k sz n2 c2 s hp)(v:Nat)(o:Int) :
  MH k sz n2 c2 (mA sz s v o) ((hp.put 21 0 (.blk (aV (s.1.set v (o,bI sz v))) 2 true false false)).put 25 0 (.blk [.rf 21 0 0 k.aSe.es.length k.aSe.es.length,.sl n2 ((bV k).map aH) c2,.int .i64 (if s.2<wr .i64 (o+bI sz v) then wr .i64 (o+bI sz v) else s.2)] 3 true true false)):=by
 refine⟨?_,?_,?_,?_,?_⟩;rw[aI,if_neg (by decide),aI,if_neg (by decide)];exact m.g1;rw[aI,if_neg (by decide),aI,if_neg (by decide)];exact m.g5;rw[aI,if_neg (by decide),aI,if_neg (by decide)];exact m.g13;rw[aI,if_neg (by decide),aI,if_pos rfl];rfl;rw[aI,if_pos rfl];rfl
theorem MH.other{k:aA}{sz:List Int}{n2 c2:Bool}{s:PS}{hp:Hp}(m:MH k sz n2 c2 s hp)(j e:Nat)(o:Ob)(hj:(j==1||j==5||j==13||j==21||j==25)=false):MH k sz n2 c2 s (hp.put j e o):=by simp only[Bool.or_eq_false_iff,beq_eq_false_iff_ne]at hj;obtain⟨⟨⟨⟨h1,h5⟩,h13⟩,h21⟩,h25⟩:=hj;exact⟨by rw[aI,if_neg h1];exact m.g1,by rw[aI,if_neg h5];exact m.g5,by rw[aI,if_neg h13];exact m.g13,by rw[aI,if_neg h21];exact m.g21,by rw[aI,if_neg h25];exact m.g25⟩
theorem OP{k:aA}(ok:gT k)(ds:List Val):(bK k ds).length=k.aSe.es.length:=by
 have hso:=ok.out;simp only[bJ,aF,aR]at hso;obtain⟨_,⟨⟨⟨⟨⟨⟨_,_⟩,hi0⟩,_⟩,hiV⟩,_⟩,_⟩,_⟩:=hso;have hl:=jZ (k:=k) (by omega);have:∀(f:Typ->Int)(a:List Sp)(b:List Typ),a.length=b.length->(eI f a b).length=b.length:=by
  intro f a
  induction a with
  |nil=>intro b h;simp at h;simp[eI,<-h]
  |cons x a ih=>intro b h;cases b with
   |nil=>simp at h
   |cons y b=>simp at h;simp[eI,ih b h]
 exact this _ _ _ hl
section
variable{pg:Pg}
end
end
section
theorem X8{k:aA}{ds:List Val}(h:cL k ds=0)(v:Nat):0<=bI (bK k ds) v/\bI (bK k ds) v<=1000000000:=by
 obtain⟨hc,hD,hS⟩:=cD h;have ok:=cA hc;rw[bI,fY];cases hg:(bK k ds)[v]? with
 |none=>simp
 |some z=>have:=BH hD _ _ (BZ ok).2 hS z (List.mem_of_getElem? hg);simp only[Option.getD_some];omega
structure MR(k:aA)(n2 c2:Bool)(e:Nat)(P:List Sp)(pk:Int)(hp:Hp):Prop where
 g1:hp.get 1=some (0,.blk k.cells 6 true true false)
 g5:hp.get 5=some (0,.blk [.sl true [] true,.sl true [] true,.int .i64 0] 3 true true false)
 g17:hp.get 17=some (0,.blk [.rf 21 e 0 k.aSe.es.length k.aSe.es.length,.sl n2 ((bV k).map aH) c2,.int .i64 pk] 3 true true false)
 g21:hp.get 21=some (e,.blk (aV P) 2 true false false)
theorem MR.other{k:aA}{n2 c2:Bool}{e:Nat}{P:List Sp}{pk:Int}{hp hp':Hp}(m:MR k n2 c2 e P pk hp)(j:Nat)(hj:21<j)(h:∀i,i≠j->hp'.get i=hp.get i):MR k n2 c2 e P pk hp':=
 ⟨by rw[h 1 (by omega)];exact m.g1,by rw[h 5 (by omega)];exact m.g5,by rw[h 17 (by omega)];exact m.g17,by rw[h 21 (by omega)];exact m.g21⟩
theorem MR.put{k:aA}{n2 c2:Bool}{e:Nat}{P:List Sp}{pk:Int}{hp:Hp}(m:MR k n2 c2 e P pk hp)(Q:List Sp):MR k n2 c2 e Q pk (hp.put 21 e (.blk (aV Q) 2 true false false)):=
 ⟨by rw[aI,if_neg (by decide)];exact m.g1,by rw[aI,if_neg (by decide)];exact m.g5,by rw[aI,if_neg (by decide)];exact m.g17,by rw[aI,if_pos rfl]⟩
section
variable{pg:Pg}
set_option maxRecDepth 10000 in
set_option maxHeartbeats 8000000 in
theorem c616(hf:pg.fs 616=some RD)
  (k:aA) (nl cl:Bool) (ds:List Val) (h17:bQ pg 17 [k.av,.sl nl (ds.map Val.av) cl] (gA k ds)) (h263:bQ pg 263 [k.av] (AM k))
  (h626:∀(nl cl:Bool)(es:List Sp),es.length<=big->∀s:Int,Ret pg 626 [.sl nl (es.map bO) cl,.int .i64 s] (.int .i64 (fitS es s)))
  (h12:∀at_:Int,bQ pg 12 [k.av,.int .i64 at_] (kL k at_)):bQ pg 616 [k.av,.sl nl (ds.map Val.av) cl] (FZ k ds):=by
 obtain⟨r1,a1,s1⟩:=h17;obtain⟨r2,a2,s2⟩:=h263;have hVb:=k.aSe.ok;rw[aA.avc]at a1 a2;refine bQ.ofX hf ?_;unfold RD;by_cases hx:cL k ds=0
 case neg=>
  rw[gA,if_neg hx]at s1;subst s1;have e1:decide (cL k ds=0)=false:=by simpa using hx
  refine Wk ?_;refine aB a1 ?_;simp only[e1,go_sem,seval];rw[FZ,if_neg hx]
 have ok:=cA (cD hx).1;rw[gA,if_pos hx]at s1;rw[AM,if_pos (cD hx).1]at s2;obtain⟨n1,c1,rfl⟩:=s1;obtain⟨n2,c2,hn2,rfl⟩:=s2;have hfold:eI (fA ds) (aD k) k.aSe.es=bK k ds:=rfl;rw[hfold]at a1;generalize hsz:bK k ds=sz at a1;have hV:0<k.aSe.es.length:=by obtain⟨v,hv⟩:=List.exists_mem_of_length_pos ok.one;have:=ok.res v hv;omega
 refine Wk ?_;refine aB a1 (Wk ?_);refine aB a2 (Wk ?_);have hzl:sz.length=k.aSe.es.length:=by rw[<-hsz];exact OP ok ds
 have hzg:∀v,v<k.aSe.es.length->sz[v]?=some (bI sz v):=λv hv=>by rw[bI,fY,aW (by omega)];rfl
 have hin:0<=k.aSg/\k.aSg<=k.aSe.es.length:=by have hso:=ok.out;simp only[bJ,aF,aR]at hso;obtain⟨_,⟨⟨⟨⟨⟨⟨_,_⟩,hi0⟩,_⟩,hiV⟩,_⟩,_⟩,_⟩:=hso;exact⟨hi0,hiV⟩
 obtain⟨ins,hins⟩:∃n:Nat,k.aSg=n:=⟨k.aSg.toNat,by omega⟩
 have hinV:ins<=k.aSe.es.length:=by omega
 refine aJ (List.range k.aSe.es.length) (λd r env hp=>env=MT (.pt 1 0 0) (.pt 5 0 0) (.sl n1 (sz.map aH) c1) (.sl n2 ((bV k).map aH) c2) (.pt 17 0 0) (.int .i64 d.length) /\
  hp.get 1=some (0,.blk k.cells 6 true true false)/\hp.get 5=some (0,.blk [.sl true [] true,.sl true [] true,.int .i64 0] 3 true true false) /\
  ∃vl,hp.get 17=some (0,.blk [vl,.sl n2 ((bV k).map aH) c2,.int .i64 0] 3 true true false)/\Own hp 21 2 true vl ((ini d.length).1.map bO)) ?_ ?_ ?_
 ·refine⟨rfl,?_,?_,.sl true [] true,?_,Own.nil _ _ _ _ _ _ rfl⟩<;>(simp only[go_sem,seval];try rfl)
 ·rintro env hp ⟨rfl,g1,g5,vl,g17,ho⟩;have hr:(List.range k.aSe.es.length).length=k.aSe.es.length:=List.length_range;rw[hr]at ho ⊢;have hl0:(ini k.aSe.es.length).1.length=k.aSe.es.length:=by simp[ini]
  rcases ho with ⟨he,_⟩|⟨e,cs,rfl,hg,hu⟩
  have:=congrArg List.length he;rw[aM,hl0,List.length_nil]at this;omega;rw[nS]at hu;cases hu;rw[aM,hl0]at g17;have m0:MR k n2 c2 e (nD k sz 0).1 0 hp:=⟨g1,g5,g17,hg⟩
  have g10:=g1;simp only[aA.cells,Sl.av]at g1;simp only[MP,MT,bG,g1,go_sem,seval];clear g17 hg g1 g5 g10;refine aJ (List.range ins) (λd r env hp=>env=MS (.pt 1 0 0) (.pt 5 0 0) (.sl n1 (sz.map aH) c1) (.sl n2 ((bV k).map aH) c2) (.pt 17 0 0) (.int .i64 d.length)/\MR k n2 c2 e (nD k sz d.length).1 0 hp) ?_ ?_ ?_;exact⟨rfl,m0⟩
  ·clear m0 hp;rintro env hp ⟨rfl,m⟩;have hr:(List.range ins).length=ins:=List.length_range;rw[hr]at m ⊢;have e1:decide ((ins:Int)<k.aSg)=false:=by simp;omega
   have g1:=m.g1;simp only[aA.cells,Sl.av]at g1;have m0:MR k n2 c2 e (eQ k sz []).1 0 hp:=by rw[show eQ k sz []=nD k sz ins from by rw[eQ,hins,dU];rfl];exact m
   simp only[MO,MS,e1,g1,go_sem,seval];clear m g1 e1;have hlb:=k.aSf.ok
   have hvq:∀q∈k.aSf.es,0<=q.value/\q.value.toNat<k.aSe.es.length:=λq hq=>by obtain⟨d,r,hes⟩:=List.append_of_mem hq;obtain⟨w1,w2,_⟩:=d5 (ok.ker d q r hes);omega
   refine aJ k.aSf.es (λd r env hp=>env=AQ (.pt 1 0 0) (.pt 5 0 0) (.sl n1 (sz.map aH) c1) (.sl n2 ((bV k).map aH) c2) (.pt 17 0 0) (.int .i64 d.length)/\MR k n2 c2 e (eQ k sz d).1 0 hp) ?_ ?_ ?_;exact⟨rfl,m0⟩;clear m0 hp;rintro env hp ⟨rfl,m⟩;have g1:=m.g1;simp only[aA.cells,Sl.av]at g1;simp only[AP,AQ,bG,g1,go_sem,seval];clear g1;have hl:=xD k sz k.aSf.es;have hgood:=sQ (k:=k) (sz:=sz) (by rw[<-hsz];exact X8 hx) (by omega) k.aSf.es.length (λx hx=>(hvq x (List.mem_of_mem_take hx)).2);rw[List.take_length]at hgood;have hpk:=aFI hgood.1;have hfin:∀r,(∃n1 c1 n2 c2,r = .tup [.agg [.sl n1 ((eQ k sz k.aSf.es).1.map bO) c1,.sl n2 ((bV k).map aH) c2,.int .i64 (eQ k sz k.aSf.es).2],.int .i64 0])->FZ k ds r:=by intro r h;unfold FZ;rw[if_pos hx,hsz];exact h
   rw[<-hpk]at hfin;generalize (eQ k sz k.aSf.es).1=P at *;have hPb:P.length<=big:=by omega
   refine aJ P (λd r env hp=>env=MQ (.pt 5 0 0) (.pt 17 0 0) (.int .i64 d.length)/\MR k n2 c2 e P (pkP d) hp) ?_ ?_ ?_;exact⟨rfl,m⟩;clear m hp;rintro env hp ⟨rfl,m⟩;obtain⟨g1,g5,g17,g21⟩:=m;have hsn:=λX=>O7 (h:=Hp.put hp 5 0 X) (k:=21) (e:=e) (sp:=P) (by rw[aI,if_neg (by decide)];exact g21) k.aSe.es.length k.aSe.es.length (by omega) 60;rw[List.take_of_length_le (by omega)]at hsn;have e0:decide ((P.length:Int)<(k.aSe.es.length:Int))=false:=by simp;omega
   simp only[MN,MQ,e0,g17,g5,↓hsn,go_sem,seval];simp only[Tev.conv,depth,fE,cW,bM,↓hsn,go_sem];exact hfin _ ⟨_,_,_,_,rfl⟩;clear m hp;rintro d x r env hp hes ⟨rfl,m⟩;obtain⟨hget,e1,e2,ew⟩:=dJ hes hPb;obtain⟨l1,l2⟩:=sK P d.length x hget;have l1':(aV P)[0+d.length*2+0]?=some (.int .i64 x.1):=by simpa using l1
   have l2':(aV P)[0+d.length*2+1]?=some (.int .i64 x.2):=by simpa using l2
   have e0:decide ((d.length:Int)<(k.aSe.es.length:Int))=true:=by rw[<-hl];exact e1
   have e0':((d.length:Int)<(k.aSe.es.length:Int))=True:=by rw[<-hl];exact e2
   have hsno:=aFs d x;obtain⟨g1,g5,g17,g21⟩:=m;simp only[MN,MQ,e0,e0',g17,g21,l1',l2',mx2,go_sem,seval];refine⟨by kernel_rfl,?_⟩;simp only[ew,go_sem,seval];refine⟨by kernel_rfl,⟨?_,?_,?_,?_⟩⟩;refine Wk ?_;exact g1;refine Wk ?_;exact g5;refine Wk ?_;rw[hsno];rfl;refine Wk ?_;exact g21
   ·clear m0 hp;rintro d q r env hp hes ⟨rfl,m⟩;have hstep:=yT k sz d q;obtain⟨hget,e1,e2,ew⟩:=dJ hes hlb;obtain⟨w1,w2,_⟩:=d5 (ok.ker d q r hes);obtain⟨v,hv⟩:∃v:Nat,q.value=v:=⟨q.value.toNat,by omega⟩
    have hvV:v<k.aSe.es.length:=by omega
    have f1:(0<=(v:Int))=True:=aK (by omega);have f2:((v:Int)<(k.aSe.es.length:Int))=True:=aK (by omega);have m0:=m;obtain⟨g1,g5,g17,g21⟩:=m;simp only[aA.cells,Sl.av]at g1;have hgood:=sQ (k:=k) (sz:=sz) (by rw[<-hsz];exact X8 hx) (by omega) d.length (λx hx=>(hvq x (List.mem_of_mem_take hx)).2);rw[show k.aSf.es.take d.length=d from by rw[hes];simp]at hgood;have hsl:=xD k sz d;generalize hs:eQ k sz d=s at *;have l1:=aCj hsl hvV;rw[z7,hv,dU]at hstep;by_cases h0:0<=(plc s.1 v).1;have h0':decide (0<=(plc s.1 v).1)=true:=by simpa using h0
    rw[if_pos h0]at hstep;simp only[AP,AQ,e1,e2,hget,aG.avc,g1,g17,g21,hv,f1,f2,l1,h0',ew,go_sem,seval];exact⟨rfl,by rw[hstep];exact m0⟩;have h0':decide (0<=(plc s.1 v).1)=false:=by simpa using h0
    rw[if_neg h0]at hstep;have hdl:d.length<k.aSf.es.length:=by rw[hes];simp
    have hcl:(bV k).length=k.aSf.es.length:=by simp[bV]
    have hch:((bV k).map aH)[d.length]?=some (aH (d7 k d.length)):=by rw[fX,kT,lE,fX,List.getElem?_range hdl];rfl
    have f3:((d.length:Int)<((bV k).length:Int))=True:=aK (by omega);have hzv:=hzg v hvV;have hz':(sz.map aH)[v]?=some (aH (bI sz v)):=by rw[fX,hzv];rfl
    have f4:((v:Int)<(sz.length:Int))=True:=aK (by omega);have f5:(0+v*2+2<=(aV s.1).length)=True:=aK (by rw[eL];omega);by_cases h5:0<=d7 k d.length;have h5':decide (0<=d7 k d.length)=true:=by simpa using h5
    rw[if_pos h5]at hstep;obtain⟨c,q1,q2,q3,q4⟩:=DH ok ds hes h5;rw[q1,dU]at hstep;rw[q1]at h5' hch;rw[hsz,hv,dU]at q4;have hpc:(plc s.1 c).2=bI sz v:=by
     rw[<-q4];rcases q3 with h|⟨x,hx1,hx2⟩
     exact hgood.2.1 c h;have:=hgood.2.2 x hx1;rw[hx2]at this;exact this
    have f6:(0<=(c:Int))=True:=aK (by omega);have f7:((c:Int)<(k.aSe.es.length:Int))=True:=aK (by omega);obtain⟨t1,t2⟩:=D2 s.1 c _ (YF hsl q2);have M:=m0.put (mA sz s v (plc s.1 c).1).1;rw[<-hstep]at M;have hset:aV (s.1.set v ((plc s.1 c).1,(plc s.1 c).2))=aV (mA sz s v (plc s.1 c).1).1:=by rw[hpc];rfl
    rw[<-hstep]at hset;simp only[AP,AQ,e1,e2,hget,aG.avc,g1,g17,g21,hv,f1,f2,l1,h0',hch,f3,h5',f5,f6,f7,t1,t2,S7 s.1 v (plc s.1 c).1 (plc s.1 c).2 (by omega),hset,go_sem,seval];refine⟨by kernel_rfl,?_⟩;simp only[ew,go_sem,seval];exact⟨by kernel_rfl,by simpa using M⟩
    ·have h5':decide (0<=d7 k d.length)=false:=by simpa using h5
     rw[if_neg h5]at hstep;obtain⟨r11,a11,s11⟩:=h12 d.length;unfold kL at s11;rw[if_pos (cD hx).1,if_neg (by omega)]at s11;obtain⟨n3,c3,rfl⟩:=s11;rw[aA.avc]at a11;have hspl:(aD k).length=k.aSe.es.length:=jZ (by omega);have hlvb:(cC d.length (aD k)).length<=big:=by
      have:(cC d.length (aD k)).length<=(aD k).length:=by simp only[cC,aM];exact Nat.le_trans (List.length_filter_le _ _) (by simp)
      omega
     have hlv:∀w∈cC d.length (aD k),0<=w/\w.toNat<k.aSe.es.length:=λw hw=>by obtain⟨u,u1,u2,_⟩:=eE.1 hw;have:=(cJ.1 u2).1;exact⟨u1,by omega⟩
     generalize cC d.length (aD k)=lv at *;simp only[AP,AQ,e1,e2,hget,aG.avc,g1,g17,g21,hv,f1,f2,l1,h0',hch,f3,h5',go_sem,seval];refine aB a11 (Wk ?_)
     refine aJ lv (λd2 r2 env hp'=>∃vl,env=EC (.pt 1 0 0) (.pt 5 0 0) (.sl n1 (sz.map aH) c1) (.sl n2 ((bV k).map aH) c2) (.pt 17 0 0) (.int .i64 d.length) (.int .i64 v) (.sl n3 (lv.map aH) c3) vl (.int .i64 d2.length) /\
      MR k n2 c2 e s.1 0 hp'/\Own hp' 33 2 true vl ((m9 s.1 d2).map bO)) ?_ ?_ ?_
     exact⟨_,rfl,m0,Own.nil _ _ _ _ _ _ rfl⟩;clear m0 g1 g5 g17 g21 hp;rintro env hp ⟨vl,rfl,m0,ho⟩;obtain⟨nl8,cl8,keys,hsn,hnl⟩:=ho.snap (mR _) 62;have hll:=I5 s.1 lv;have a5:=h626 nl8 cl8 (m9 s.1 lv) (by omega) (bI sz v);have g17:=m0.g17;have g21:=m0.g21;have M:=m0.put (mA sz s v (fitS (m9 s.1 lv) (bI sz v))).1;have hset:aV (s.1.set v (fitS (m9 s.1 lv) (bI sz v),bI sz v))=aV (mA sz s v (fitS (m9 s.1 lv) (bI sz v))).1:=rfl;rw[<-hstep]at M hset;simp only[EB,EC,bG,g17,f1,f4,hz',go_sem,seval];refine cR a5 (BQ hsn rfl) (v:=.int .i64 (fitS (m9 s.1 lv) (bI sz v))) (pa:=[]) rfl ?_;simp only[g17,g21,f1,f2,f4,f5,hz',S7 s.1 v (fitS (m9 s.1 lv) (bI sz v)) (bI sz v) (by omega),hset,go_sem,seval];refine⟨by kernel_rfl,?_⟩;simp only[ew,go_sem,seval];exact⟨by kernel_rfl,by simpa using M⟩
     ·clear m0 g1 g5 g17 g21 hp;rintro d2 w r2 env hp hes2 ⟨vl,rfl,m0,ho⟩;obtain⟨hget2,p1,p2,pw⟩:=dJ hes2 hlvb;obtain⟨w0,w1'⟩:=hlv w (by rw[hes2];simp);obtain⟨u,hu⟩:∃u:Nat,w=u:=⟨w.toNat,by omega⟩
      subst hu;rw[dU]at w1';have t1:(0<=(u:Int))=True:=aK (by omega);have t2:((u:Int)<(k.aSe.es.length:Int))=True:=aK (by omega);have l3:=aCj hsl w1';obtain⟨t3,t4⟩:=D2 s.1 u _ (YF hsl w1');have g17:=m0.g17;have g21:=m0.g21;have hsno:=T8 s.1 d2 u;rw[dU]at hsno;have hget2':(lv.map aH)[d2.length]?=some (aH u):=by rw[fX,hget2];rfl
      have hl2:=I5 s.1 d2;have hd2:d2.length+1<=big:=by rw[hes2]at hlvb;simp at hlvb;omega
      by_cases h6:0<=(plc s.1 u).1
      ·have h6':decide (0<=(plc s.1 u).1)=true:=by simpa using h6
       rw[if_pos h6]at hsno;simp only[EB,EC,p1,p2,hget2,hget2',g17,g21,t1,t2,l3,h6',t3,t4,go_sem,seval];refine⟨by kernel_rfl,?_⟩;refine gR (kb:=0) (s:=33) (ho.mono ?_) (mR _) (xs:=[bO (plc s.1 u)]) (mR [plc s.1 u]) (by simp only[aM,List.length_singleton,big]at *;omega) (by decide) ?_;simp only[go_sem,seval];intro v' rd pa ho2 hk2 _;simp only[pw,go_sem,seval];refine⟨by kernel_rfl,?_⟩
       skip
       exact⟨v',by kernel_rfl,m0.other 33 (by omega) hk2,by rw[hsno,List.map_append];simpa using ho2⟩
      have h6':decide (0<=(plc s.1 u).1)=false:=by simpa using h6
      rw[if_neg h6,List.append_nil]at hsno;simp only[EB,EC,p1,p2,hget2,hget2',g17,g21,t1,t2,l3,h6',pw,go_sem,seval];refine⟨by kernel_rfl,?_⟩;exact⟨vl,by kernel_rfl,m0,by rw[hsno];exact ho⟩
  clear m0 hp;rintro d x r env hp hes ⟨rfl,m⟩;obtain⟨rfl,hlt⟩:=iD hes;have hb3:(d++d.length::r).length<=big:=by rw[<-hes];simp;omega
  have hw:=aZ hb3;have e1:decide ((d.length:Int)<k.aSg)=true:=by simp;omega
  have e2:((d.length:Int)<(sz.length:Int))=True:=aK (by omega);have e4:((d.length:Int)<(k.aSe.es.length:Int))=True:=aK (by omega);have hz:=hzg d.length (by omega);have hz':(sz.map aH)[d.length]?=some (aH (bI sz d.length)):=by rw[fX,hz];rfl
  have m0:=m;obtain⟨g1,g5,g17,g21⟩:=m;have hsl:=sW k sz d.length;have hsucc:=xJ k sz d.length;generalize hs:nD k sz d.length=s at *;have hsn:=O7 g21 d.length k.aSe.es.length (by omega) 62;have a4:=h626 false false (s.1.take d.length) (by rw[List.length_take];omega) (bI sz d.length);have e3:(0+d.length*2+2<=(aV s.1).length)=True:=aK (by rw[eL];omega);have M:=m0.put (s.1.set d.length (fitS (s.1.take d.length) (bI sz d.length),bI sz d.length));simp only[aA.cells,Sl.av]at g1;clear hes;simp only[MO,MS,e1,g1,g17,e2,hz',↓aFf g21 (show d.length<=k.aSe.es.length by omega),go_sem,seval];refine cR a4 (BQ hsn rfl) (v:=.int .i64 (fitS (s.1.take d.length) (bI sz d.length))) (pa:=[]) rfl ?_;simp only[g17,g21,e2,e4,hz',e3,S7 s.1 d.length (fitS (s.1.take d.length) (bI sz d.length)) (bI sz d.length) (by omega),go_sem,seval];refine⟨by kernel_rfl,?_⟩;simp only[hw,go_sem,seval];exact⟨by kernel_rfl,by simpa[hsucc,mA] using M⟩
 rintro d x r env hp hes ⟨rfl,g1,g5,vl,g17,ho⟩;obtain⟨rfl,hlt⟩:=iD hes;have hb3:(d++d.length::r).length<=big:=by rw[<-hes];simp;omega
 have hw:=aZ hb3;have e1:decide ((d.length:Int)<(k.aSe.es.length:Int))=true:=by simp;omega
 have g10:=g1;simp only[aA.cells,Sl.av]at g1;clear hes;simp only[MP,MT,e1,g1,g17,go_sem,seval];refine gR (kb:=0) (s:=21) ho (mR _) (xs:=[bO (-1,0)]) (mR [(-1,0)]) (by simp only[aM,List.length_singleton,ini,EN,big]at *;omega) (by decide) ?_;intro v' rd pa ho2 hk2 _;have q17:Hp.get (Eff.app hp (.pat rd pa)) 17=some (0,.blk [vl,.sl n2 ((bV k).map aH) c2,.int .i64 0] 3 true true false):=by rw[hk2 17 (by omega)];exact g17
 obtain⟨o1,o2,o3⟩:=ho2.one;simp only[hw,q17,o1,o2,o3,go_sem,seval];refine⟨rfl,?_,?_,v',?_,?_⟩;simp only[hk2 1 (by omega),go_sem,seval];exact g10;simp only[hk2 5 (by omega),go_sem,seval];exact g5;simp only[go_sem,seval];have h2:(ini (d++[d.length]).length).1=(ini d.length).1++[(-1,0)]:=by simp[ini,List.replicate_succ']
 rw[h2,List.map_append];refine ho2.mono ?_;simp only[go_sem,seval]
end
end
section
theorem C8(sp:List Sp)(i:Nat)(q:aG)(n:Nat):frm (kF sp i q) n=if q.value.toNat=n/\frm sp n=some (-2) then some (i:Int) else frm sp n:=by
 rw[kF,sY,B1];by_cases hv:q.value.toNat=n;subst hv;simp only[true_and];cases hs:sp[q.value.toNat]? with
 |none=>
  have hf:jD sp q.value=0:=by simp[jD,hs]
  simp[hf,frm,hs]
 |some s=>
  have hf:jD sp q.value=s.1:=by simp[jD,hs]
  by_cases h2:s.1 = -2;simp[hf,h2,frm,iM,List.getElem?_modify,hs];simp[hf,h2,frm,hs]
 rw[if_neg (λh:q.value.toNat=n/\frm sp n=some (-2)=>hv h.1)];cases decide (jD sp q.value = -2);simp;simp only[aN,frm,iM,List.getElem?_modify];cases sp[n]?<;>simp[hv]
theorem AC:∀(L:List aG)(sp:List Sp)(i n:Nat)(f:Int),frm sp n=some f->f ≠ -2->frm (gM sp i L) n=some f
 |[],_,_,_,_,h,_=>h
 |q::r,sp,i,n,f,h,hf=>by rw[gM];refine AC r _ _ n f ?_ hf;rw[C8,if_neg (λx=>hf (by rw[h]at x;simpa using x.2)),h]
theorem QH:∀(L:List aG)(sp:List Sp)(i j:Nat)(q:aG),L[j]?=some q->q.value.toNat<sp.length->∃f,frm (gM sp i L) q.value.toNat=some f/\f ≠ -2/\(f<=((i+j:Nat):Int)\/frm sp q.value.toNat=some f)
 |[],_,_,j,_,h,_=>by simp at h
 |x::r,sp,i,0,q,h,hl=>by
  simp at h;subst h;rw[gM];have hs:=C8 sp i x x.value.toNat;obtain⟨g,hg⟩:∃g,frm sp x.value.toNat=some g:=⟨_,by rw[frm,aW hl];rfl⟩
  by_cases h2:g = -2;rw[if_pos ⟨rfl,by rw[hg,h2]⟩]at hs;exact⟨i,AC r _ _ _ _ hs (by omega),by omega,.inl (by simp)⟩;rw[if_neg (λy=>h2 (by rw[hg]at y;simpa using y.2)),hg]at hs;exact⟨g,AC r _ _ _ _ hs h2,h2,.inr hg⟩
 |x::r,sp,i,j+1,q,h,hl=>by
  rw[gM];obtain⟨f,h1,h2,h3⟩:=QH r (kF sp i x) (i+1) j q (by simpa using h) (by rw[yE];exact hl);refine⟨f,h1,h2,?_⟩;rcases h3 with h3|h3;left;omega;rcases QG _ _ _ _ _ h3 with h|⟨_,h⟩
  exact .inr h;left;omega
theorem F9(k:aA)(n:Nat):frm (aD k) n=frm (gM (d8 k.aSe.es.length k.aSg.toNat) 0 k.aSf.es) n:=by rw[aD,show pG=λsp n l=>eU sp n l from rfl];exact sY _ _ _ _
theorem aCC{V I n:Nat}(h:n<I):frm (d8 V I) n=some (-1):=by simp[frm,d8,List.getElem?_append,List.getElem?_replicate,h]
theorem QK{k:aA}{n:Nat}(h:n<k.aSg.toNat):frm (aD k) n=some (-1):=by rw[F9];exact AC _ _ _ _ _ (aCC h) (by decide)
theorem UM{k:aA}(hi:k.aSg.toNat<=k.aSe.es.length){j:Nat}{q:aG}(hj:k.aSf.es[j]?=some q)(hv:q.value.toNat<k.aSe.es.length) :
  ∃f,frm (aD k) q.value.toNat=some f/\f ≠ -2/\f<=(j:Int):=by
 obtain⟨f,h1,h2,h3⟩:=QH k.aSf.es (d8 k.aSe.es.length k.aSg.toNat) 0 j q hj (by rw[lY hi];exact hv);refine⟨f,by rw[F9];exact h1,h2,?_⟩;rcases h3 with h3|h3;simpa using h3;simp only[frm,d8,List.getElem?_append,List.getElem?_replicate,EN]at h3;split at h3;simp at h3;omega;split at h3;simp at h3;omega;simp at h3
theorem fit_ok{l:List Sp}{s:Int}(h:∀p∈l,lU p=false)(h0:0<=s)(h1:s<=1000000000):BC s l (fitS l s)/\vA s l (fitS l s):=by
 have hb:¬(s<0\/1000000000<s\/l.any lU=true):=by rintro(h2|h2|h2);omega;omega;obtain⟨p,hp,h3⟩:=List.any_eq_true.1 h2;rw[h p hp]at h3;cases h3
 rw[fitS,if_neg hb];by_cases hs:s=0;subst hs;rw[fitScan_zero];refine⟨min_zero _ _,λp _=>?_⟩;simp[fL];exact PG (by omega) (sM l) (tM l)
theorem fit_le{l:List Sp}{s pk:Int}(h:BC s l (fitS l s))(h0:0<=pk)(hp:∀p∈l,p.1+p.2<=pk):fitS l s<=pk:=by by_cases ha:fitS l s<=0;omega;obtain⟨p,h1,h2⟩:=h.2 (fitS l s-1) (by omega) (by omega);have:=(gF.1 h2).2.2.2;have:=hp p h1;simp only at *;omega
def S2:List Sp->Int
 |[]=>0
 |p::r=>p.2+S2 r
theorem aEQ:∀(P:List Sp)(v:Nat)(x:Sp),v<P.length->(plc P v).2=0->S2 (P.set v x)=S2 P+x.2
 |[],_,_,h,_=>by simp at h
 |p::r,0,x,_,h=>by simp only[plc,List.getD_cons_zero]at h;simp only[List.set_cons_zero,S2];omega
 |p::r,v+1,x,h,h0=>by simp only[plc,List.getD_cons_succ]at h0;simp only[List.set_cons_succ,S2,aEQ r v x (by simpa using h) h0];omega
theorem aIB:∀(P:List Sp)(c:Int),(∀p∈P,p.2<=c)->S2 P<=c*P.length
 |[],c,_=>by simp[S2]
 |p::r,c,h=>by
  have h1:=h p (by simp);have h2:=aIB r c (λq hq=>h q (by simp[hq]));simp only[S2,List.length_cons];have:c*((r.length+1:Nat):Int)=c*(r.length:Int)+c:=by rw[Int.natCast_add];simp[Int.mul_add]
  omega
def SS(sz:List Int):Nat->Int
 |0=>0
 |n+1=>SS sz n+bI sz n
theorem OF{sz:List Int}(hz:∀v,0<=bI sz v/\bI sz v<=4096):∀{m n:Nat},m<=n->SS sz m<=SS sz n
 |m,0,h=>by obtain rfl:m=0:=by omega
            exact Int.le_refl _
 |m,n+1,h=>by by_cases he:m=n+1;subst he;exact Int.le_refl _;have:=OF (sz:=sz) hz (show m<=n by omega);have:=(hz n).1;rw[SS];omega
theorem SZ{sz:List Int}(b:Int)(h0:0<=b):∀n,b<SS sz n->∃u,u<n/\SS sz u<=b/\b<SS sz u+bI sz u
 |0,h=>by rw[SS]at h;omega
 |n+1,h=>by by_cases hb:b<SS sz n;obtain⟨u,h1,h2⟩:=SZ b h0 n hb;exact⟨u,by omega,h2⟩;exact⟨n,by omega,by omega,by rw[SS]at h;exact h⟩
def Exc(k:aA)(v:Nat)(a b:Sp):Prop:=∃j:Nat,b.1=j/\a.2=j/\d7 k j=(v:Int)
structure Inv(k:aA)(sz:List Int)(D:Nat->Prop)(s:PS):Prop where
 len:s.1.length=k.aSe.es.length
 pl:∀v,D v->0<=(plc s.1 v).1/\(plc s.1 v).2=bI sz v
 no:∀v,¬D v->plc s.1 v=(-1,0)
 dj:∀(v w:Nat)(a b:Sp),D v->D w->v≠w->(aD k)[v]?=some a->(aD k)[w]?=some b->a.1<=b.1->b.1<=a.2->fL (plc s.1 v) (plc s.1 w)=true->Exc k v a b/\(plc s.1 v).1=(plc s.1 w).1
 pe:∀v,D v->(plc s.1 v).1+(plc s.1 v).2<=s.2
 nn:0<=s.2
 up:s.2<=S2 s.1
 inp:∀v,v<k.aSg.toNat->D v->0<bI sz v->(plc s.1 v).1=SS sz v
theorem Inv.iff{k:aA}{sz:List Int}{D E:Nat->Prop}{s:PS}(h:Inv k sz D s)(e:∀v,D v↔E v):Inv k sz E s:=by have:D=E:=funext λv=>propext (e v);rw[<-this];exact h
theorem Inv.dec{k:aA}{sz:List Int}{D:Nat->Prop}{s:PS}(h:Inv k sz D s){v:Nat}(hv:0<=(plc s.1 v).1):D v:=by by_cases hd:D v;exact hd;rw[h.no v hd]at hv;simp at hv
theorem Inv.sm{k:aA}{sz:List Int}(hz:∀v,0<=bI sz v/\bI sz v<=4096)(hn:k.aSe.es.length<=20){D:Nat->Prop}{s:PS}(h:Inv k sz D s):s.2<=81920:=by
 have h1:=aIB s.1 4096 (λp hp=>by
  obtain⟨v,hv⟩:=List.mem_iff_getElem?.1 hp;have e:plc s.1 v=p:=by rw[plc,fY,hv];rfl
  by_cases hd:D v;rw[<-e,(h.pl v hd).2];exact(hz v).2;rw[<-e,h.no v hd];decide)
 have h2:=h.up;have h3:=h.len;omega
theorem Inv.bad{k:aA}{sz:List Int}(hz:∀v,0<=bI sz v/\bI sz v<=4096)(hn:k.aSe.es.length<=20){D:Nat->Prop}{s:PS}(h:Inv k sz D s){v:Nat}(hv:D v):lU (plc s.1 v)=false:=by have h1:=h.sm hz hn;have h2:=h.pl v hv;have h3:=h.pe v hv;have h4:=hz v;rw[<-h2.2]at h4;simp only[lU,Bool.or_eq_false_iff,eJ];omega
theorem Inv.put{k:aA}{sz:List Int}(hz:∀v,0<=bI sz v/\bI sz v<=4096)(hn:k.aSe.es.length<=20){D:Nat->Prop}{s:PS}(h:Inv k sz D s){v:Nat}{o:Int}(hd:¬D v)(hv:v<k.aSe.es.length)
  (h0:0<=o) (h1:o<=s.2) (hi:v<k.aSg.toNat->0<bI sz v->o=SS sz v)
  (H:∀(u:Nat)(a b:Sp),D u->u≠v->(aD k)[u]?=some a->(aD k)[v]?=some b->fL (plc s.1 u) (o,bI sz v)=true->(a.1<=b.1->b.1<=a.2->Exc k u a b/\(plc s.1 u).1=o)/\¬(b.1<=a.1/\a.1<=b.2)) :
  Inv k sz (λw=>D w\/w=v) (mA sz s v o):=by
 have hsm:=h.sm hz hn;have hzv:=hz v;have hvl:v<s.1.length:=by rw[h.len];exact hv
 have e0:en (o,bI sz v)=o+bI sz v:=aCZ (by omega) (by omega) hzv.1 (by omega);have eq:plc (mA sz s v o).1 v=(o,bI sz v):=tU hvl;have ne:∀w,D w->plc (mA sz s v o).1 w=plc s.1 w:=λw hw=>qI (λe=>hd (e ▸ hw));have hp2:(mA sz s v o).2=mxI s.2 (o+bI sz v):=by rw[<-e0];rfl
 have hmx:=YP s.2 (o+bI sz v);have hnn:=h.nn;have hup:=h.up;refine⟨by rw[FQ];exact h.len,?_,?_,?_,?_,by omega,?_,?_⟩;rintro w (hw|rfl);rw[ne w hw];exact h.pl w hw;rw[eq];exact⟨h0,rfl⟩;intro w hw;rw[qI (λe=>hw (.inr e.symm))];exact h.no w (λx=>hw (.inl x));rintro x w a b (hx|rfl) (hw|rfl) hne ha hb h2 h3 hm;rw[ne x hx,ne w hw]at hm ⊢;exact h.dj x w a b hx hw hne ha hb h2 h3 hm;rw[ne x hx,eq]at hm ⊢;exact(H x a b hx hne ha hb hm).1 h2 h3;rw[ne w hw,eq,kR]at hm;exact absurd ⟨h2,h3⟩ (H w b a hw (λe=>hne e.symm) hb ha hm).2;exact absurd rfl hne;rintro w (hw|rfl);rw[ne w hw,hp2];have:=h.pe w hw;omega;rw[eq,hp2];exact hmx.2;have hs2:S2 (mA sz s v o).1=S2 s.1+bI sz v:=aEQ s.1 v (o,bI sz v) hvl (by rw[h.no v hd]);rw[hs2,hp2];rcases aBX s.2 (o+bI sz v) with e|e<;>rw[e]<;>omega;rintro w hwi (hw|rfl) hws;rw[ne w hw];exact h.inp w hwi hw hws;rw[eq];exact hi hwi hws
theorem YS{k:aA}{sz:List Int}(hz:∀v,0<=bI sz v/\bI sz v<=4096)(hn:k.aSe.es.length<=20):∀n,n<=k.aSg.toNat->n<=k.aSe.es.length->Inv k sz (λv=>v<n) (nD k sz n)
 |0,_,_=>by
  have hp:∀v,plc (nD k sz 0).1 v=(-1,0):=by intro v;simp only[nD,P9,List.range_zero,List.foldl_nil,plc,ini,fY,List.getElem?_replicate];split<;>rfl
  have hs:∀n,S2 (List.replicate n ((-1,0):Sp))=0:=by
   intro n
   induction n with
   |zero=>rfl
   |succ n ih=>rw[List.replicate_succ,S2,ih];rfl
  refine⟨sW k sz 0,λv h=>absurd h (Nat.not_lt_zero v),λv _=>hp v,λv _ _ _ h=>absurd h (Nat.not_lt_zero v),λv h=>absurd h (Nat.not_lt_zero v),Int.le_refl 0,?_,λv _ h=>absurd h (Nat.not_lt_zero v)⟩;have:S2 (nD k sz 0).1=0:=hs _;rw[this];exact Int.le_refl 0
 |n+1,h1,h2=>by
  have ih:=YS (k:=k) hz hn n (by omega) (by omega);have hmem:∀p∈(nD k sz n).1.take n,∃u,u<n/\plc (nD k sz n).1 u=p:=by intro p hp;obtain⟨u,hu⟩:=List.mem_iff_getElem?.1 hp;rw[List.getElem?_take]at hu;split at hu;rename_i hlt;exact⟨u,hlt,by rw[plc,fY,hu];rfl⟩;simp at hu
  have hin:∀u,u<n->plc (nD k sz n).1 u∈(nD k sz n).1.take n:=by
   intro u hu;have hl:u<(nD k sz n).1.length:=by rw[sW];omega
   refine List.mem_iff_getElem?.2 ⟨u,?_⟩;rw[List.getElem?_take,if_pos hu,plc,fY,aW hl];rfl
  have hzn:=hz n
  obtain⟨hmin,hfree⟩:=fit_ok (l:=(nD k sz n).1.take n) (s:=bI sz n) (λp hp=>by
   obtain⟨u,hu,rfl⟩:=hmem p hp;exact ih.bad hz hn hu) hzn.1 (by omega)
  have hle:=fit_le hmin ih.nn (λp hp=>by
   obtain⟨u,hu,rfl⟩:=hmem p hp;exact ih.pe u hu)
  rw[xJ];refine Inv.iff (Inv.put hz hn ih (v:=n) (o:=fitS ((nD k sz n).1.take n) (bI sz n)) (by omega) (by omega) hmin.1 hle ?_ ?_) (λv=>⟨λh=>by rcases h with h|rfl<;>omega,λh=>by omega⟩);intro _ hs;have hpos:∀u,u<n->0<bI sz u->plc (nD k sz n).1 u=(SS sz u,bI sz u):=λu hu hus=>Prod.ext (ih.inp u (by omega) hu hus) (ih.pl u hu).2;refine fit_uniq hmin hfree ⟨OF (sz:=sz) hz (Nat.zero_le n),λb hb0 hb=>?_⟩ (λp hp=>?_);obtain⟨u,hu,h3,h4⟩:=SZ b hb0 n hb;refine⟨_,hin u hu,?_⟩;rw[hpos u hu (by omega)];exact gF.2 ⟨by simp only;omega,hs,by simp only;omega,by simp only;omega⟩;obtain⟨u,hu,rfl⟩:=hmem p hp;cases hm:fL (plc (nD k sz n).1 u) (SS sz n,bI sz n);rfl;obtain⟨m1,m2,m3,m4⟩:=gF.1 hm;have hus:0<bI sz u:=by rw[<- (ih.pl u hu).2];exact m1
  rw[hpos u hu hus]at m4;have:=OF (sz:=sz) hz (show u+1<=n by omega);rw[SS]at this;simp only at m4;omega;intro u a b hu _ _ _ hm;rw[hfree _ (hin u hu)]at hm;cases hm
end
section
def Bef(k:aA)(i:Nat)(v:Nat):Prop:=∃a,(aD k)[v]?=some a/\a.1 ≠ -2/\a.1<(i:Int)
theorem YV{sp:List Sp}{n:Nat}{f:Int}(h:frm sp n=some f):∃a,sp[n]?=some a/\a.1=f:=by
 cases hs:sp[n]? with
 |none=>rw[frm,hs]at h;simp at h
 |some a=>rw[frm,hs]at h;exact⟨a,rfl,by simpa using h⟩
theorem xL{sp:List Sp}{n:Nat}{a:Sp}(h:sp[n]?=some a):frm sp n=some a.1:=by rw[frm,h];rfl
theorem SQ{k:aA}(v:Nat):v<k.aSg.toNat↔Bef k 0 v:=by
 constructor;intro h;obtain⟨a,h1,h2⟩:=YV (QK h);exact⟨a,h1,by omega,by omega⟩;rintro⟨a,h1,h2,h3⟩;rcases oE (xL h1) with h|⟨_,h⟩|⟨j,q,_,_,h⟩
 exact absurd h h2;exact h;omega
theorem vW{k:aA}(ok:gT k):0<=k.aSg:=by have:=ok.out;simp only[bJ,aF,aR]at this;obtain⟨_,⟨⟨⟨⟨⟨⟨_,_⟩,hi0⟩,_⟩,hiV⟩,_⟩,_⟩,_⟩:=this;exact hi0
theorem uK{k:aA}(ok:gT k)(ds:List Val){d r:List aG}{q:aG}(hes:k.aSf.es=d++q::r)(hc:0<=d7 k d.length) :
  ∃(c:Nat)(s u:Sp),d7 k d.length=c/\c≠q.value.toNat/\(aD k)[c]?=some s/\(aD k)[q.value.toNat]?=some u/\u.1=(d.length:Int)/\s.1 ≠ -2/\s.2=(d.length:Int)/\bI (bK k ds) c=bI (bK k ds) q.value.toNat:=by
 obtain⟨c0,e0,_,_,hsz⟩:=DH ok ds hes hc;rcases qS (λv=>kS k (d.length:Int) (v:Int)) k.aSe.es.length 0 with h|⟨c,h1,h2,_,h3⟩
 rw[d7,h]at hc;exact absurd hc (by decide);have e1:d7 k d.length=(c:Int):=h1;obtain rfl:c0=c:=by omega
 have hget:k.aSf.es[d.length]?=some q:=by rw[hes];simp
 have hq0:=(d5 (ok.ker d q r hes)).1;simp only[kS,dU,hget]at h2;cases ha:k.aSe.es[c0]? with
 |none=>rw[ha]at h2;cases h2
 |some a=>
 rw[ha]at h2;simp only at h2;cases hb:k.aSe.es[q.value.toNat]? with
 |none=>rw[hb]at h2;cases h2
 |some b=>
 rw[hb]at h2;simp only[aAb,aF,aR,eA,eJ]at h2;obtain⟨_,⟨m1,m2,m3,m4⟩,m5,_⟩:=h2;obtain⟨s,s1,s2⟩:=tK m3;obtain⟨u,u1,u2⟩:=tK (k:=k) (v:=q.value) (by omega);rw[s2]at m3 m4;rw[u2]at m2;rw[dU]at s1;refine⟨c0,s,u,e1,?_,s1,u1,m2,m3,m4,hsz⟩;intro he;apply m1;have:=vW ok;omega
theorem aFF{k:aA}(ok:gT k)(ds:List Val)(hz:∀v,0<=bI (bK k ds) v/\bI (bK k ds) v<=4096)(hn:k.aSe.es.length<=20)(hi:k.aSg.toNat<=k.aSe.es.length)
  {d r:List aG} {q:aG} (hes:k.aSf.es=d++q::r) {s:PS} (h:Inv k (bK k ds) (Bef k d.length) s):Inv k (bK k ds) (Bef k (d.length+1)) (z7 k (bK k ds) s d.length q):=by
 have hget:k.aSf.es[d.length]?=some q:=by rw[hes];simp
 obtain⟨hq0,hq1,_⟩:=d5 (ok.ker d q r hes);have hin0:=vW ok;have hqv:q.value.toNat<k.aSe.es.length:=by omega
 obtain⟨f,hf,hf2,hfi⟩:=UM hi hget hqv;obtain⟨b,hb,hbf⟩:=YV hf;have uniq:∀(w:Nat)(a:Sp),(aD k)[w]?=some a->a.1=(d.length:Int)->w=q.value.toNat:=by
  intro w a ha he;rcases oE (xL ha) with h|⟨h,_⟩|⟨j,x,h1,h2,h3⟩
  omega;omega;obtain rfl:j=d.length:=by omega
  rw[hget]at h1;cases h1;exact h2.symm
 by_cases hlt:f<(d.length:Int);have hD:Bef k d.length q.value.toNat:=⟨b,hb,by omega,by omega⟩
 have hst:z7 k (bK k ds) s d.length q=s:=by rw[z7,if_pos (h.pl _ hD).1]
 rw[hst];refine h.iff λv=>⟨λ⟨a,h1,h2,h3⟩=>⟨a,h1,h2,by omega⟩,λ⟨a,h1,h2,h3⟩=>⟨a,h1,h2,?_⟩⟩
 by_cases he:a.1=(d.length:Int)
 have:=uniq v a h1 he;subst this;rw[hb]at h1;cases h1;omega;omega;have hbd:b.1=(d.length:Int):=by omega
 have hnd:¬Bef k d.length q.value.toNat:=by rintro⟨a,h1,_,h3⟩;rw[hb]at h1;cases h1;omega
 have hiff:∀v,(Bef k d.length v\/v=q.value.toNat)↔Bef k (d.length+1) v:=by
  intro v;constructor;rintro(⟨a,h1,h2,h3⟩|rfl);exact⟨a,h1,h2,by omega⟩;exact⟨b,hb,by omega,by omega⟩;rintro⟨a,h1,h2,h3⟩;by_cases he:a.1=(d.length:Int)
  exact .inr (uniq v a h1 he);exact .inl ⟨a,h1,h2,by omega⟩
 have hnp:¬ 0<=(plc s.1 q.value.toNat).1:=by rw[h.no _ hnd];decide
 have hvi:q.value.toNat<k.aSg.toNat->False:=λhv=>by have:=QK hv;rw[hf]at this;simp at this;omega
 rw[z7,if_neg hnp];split;rename_i hc;obtain⟨c,sc,u,e1,hcv,hsc,hu,hu1,hs1,hs2,hsz⟩:=uK ok ds hes hc;have hcl:sc.1<(d.length:Int):=by
  have:=qE k sc (List.mem_of_getElem? hsc);by_cases he:sc.1=(d.length:Int)
  exact absurd (uniq c sc hsc he) hcv;omega
 have hDc:Bef k d.length c:=⟨sc,hsc,hs1,hcl⟩
 have hpl:=h.pl c hDc;have hpe:=h.pe c hDc;have hzc:=hz c;have hpc:plc s.1 c=((plc s.1 c).1,bI (bK k ds) q.value.toNat):=Prod.ext rfl (by rw[hpl.2,hsz]);rw[e1,dU];refine Inv.iff (Inv.put hz hn h hnd hqv hpl.1 (by omega) (λhv=>(hvi hv).elim) ?_) hiff;intro w a b' hw hwv ha hb' hm;rw[hb]at hb';cases hb';rw[<-hpc]at hm;obtain⟨a',ha',ha2,ha3⟩:=hw;rw[ha]at ha';cases ha';refine⟨λh1 h2=>?_,λ⟨h1,_⟩=>by omega⟩;by_cases hwc:w=c;subst hwc;rw[hsc]at ha;cases ha;exact⟨⟨d.length,hbd,hs2,e1⟩,rfl⟩;exfalso;have hDw:Bef k d.length w:=⟨a,ha,ha2,ha3⟩
 by_cases hac:a.1<=sc.1;obtain⟨⟨j,x1,x2,_⟩,_⟩:=h.dj w c a sc hDw hDc hwc ha hsc hac (by omega) hm;omega;rw[kR]at hm;obtain⟨⟨j,x1,x2,_⟩,_⟩:=h.dj c w sc a hDc hDw (λe=>hwc e.symm) hsc ha (by omega) (by omega) hm;omega;have hmem:∀p∈m9 s.1 (cC d.length (aD k)),∃w,Bef k d.length w/\plc s.1 w=p:=by intro p hp;simp only[m9,List.mem_filter,List.mem_map,aR]at hp;obtain⟨⟨w,_,rfl⟩,h0⟩:=hp;exact⟨w.toNat,h.dec h0,rfl⟩
 have hzv:=hz q.value.toNat
 obtain⟨hmin,hfree⟩:=fit_ok (l:=m9 s.1 (cC d.length (aD k))) (s:=bI (bK k ds) q.value.toNat) (λp hp=>by
  obtain⟨w,hw,rfl⟩:=hmem p hp;exact h.bad hz hn hw) hzv.1 (by omega)
 have hle:=fit_le hmin h.nn (λp hp=>by
  obtain⟨w,hw,rfl⟩:=hmem p hp;exact h.pe w hw)
 refine Inv.iff (Inv.put hz hn h hnd hqv hmin.1 hle (λhv=>(hvi hv).elim) ?_) hiff;intro w a b' hw hwv ha hb' hm;rw[hb]at hb';cases hb';have hDw:=hw;obtain⟨a',ha',ha2,ha3⟩:=hw;rw[ha]at ha';cases ha';refine⟨λh1 h2=>?_,λ⟨h1,_⟩=>by omega⟩;exfalso;have hin:plc s.1 w∈m9 s.1 (cC d.length (aD k)):=by simp only[m9,List.mem_filter,List.mem_map,aR];refine⟨⟨(w:Int),?_,by rw[dU]⟩,(h.pl w hDw).1⟩;refine eE.2 ⟨a,by omega,by rw[dU];exact ha,?_⟩;simp only[fQ,aF,eA,eJ,aR];omega
 rw[hfree _ hin]at hm;cases hm
theorem P8{k:aA}(ok:gT k)(ds:List Val)(hz:∀v,0<=bI (bK k ds) v/\bI (bK k ds) v<=4096)(hn:k.aSe.es.length<=20)(hi:k.aSg.toNat<=k.aSe.es.length) :
  ∀n,n<=k.aSf.es.length->Inv k (bK k ds) (Bef k n) (eQ k (bK k ds) (k.aSf.es.take n))
 |0,_=>by rw[List.take_zero];exact Inv.iff (YS hz hn k.aSg.toNat (aX _) hi) SQ
 |n+1,h=>by
  have ih:=P8 ok ds hz hn hi n (by omega);have hlt:n<k.aSf.es.length:=by omega
  have e:k.aSf.es.take (n+1)=k.aSf.es.take n++[k.aSf.es[n]]:=by rw[List.take_succ_eq_append_getElem hlt]
  have hes:k.aSf.es=k.aSf.es.take n++k.aSf.es[n]::k.aSf.es.drop (n+1):=by rw[<-i8 hlt,List.take_append_drop]
  have hlen:(k.aSf.es.take n).length=n:=by simp;omega
  rw[e,yT];have:=aFF ok ds hz hn hi hes (s:=eQ k (bK k ds) (k.aSf.es.take n)) (by rw[hlen];exact ih);rw[hlen]at this ⊢;exact this
theorem D7{k:aA}(ok:gT k)(ds:List Val)(hz:∀v,0<=bI (bK k ds) v/\bI (bK k ds) v<=4096)(hn:k.aSe.es.length<=20)(hi:k.aSg.toNat<=k.aSe.es.length) :
  Inv k (bK k ds) (Bef k k.aSf.es.length) (eQ k (bK k ds) k.aSf.es):=by
 have:=P8 ok ds hz hn hi k.aSf.es.length (aX _);rwa [List.take_length]at this
theorem tG{k:aA}{at_:Int}{v:Nat}{a:Sp}(h:(aD k)[v]?=some a)(hl:a.1 ≠ -2):Bef k k.aSf.es.length v:=by
 refine⟨a,h,hl,?_⟩;rcases oE (xL h) with h|⟨h,_⟩|⟨j,x,h1,_,h3⟩
 exact absurd h hl;omega;have:=(cJ.1 h1).1;omega
end
end Go.Tev
