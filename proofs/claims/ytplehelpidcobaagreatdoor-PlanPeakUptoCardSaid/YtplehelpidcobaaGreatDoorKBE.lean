import Derived.Test.YtplehelpidcobaaGreatDoorKBD
set_option linter.all false
section
namespace Go.Tev
abbrev PS:=List Sp × Int
def mxI (a b:Int):Int:=if a < b then b else a
def aW (sz:List Int) (v:Nat):Int:=sz.getD v 0
def plc (P:List Sp) (v:Nat):Sp:=P.getD v (-1,0)
def en (p:Sp):Int:=wr .i64 (p.1+p.2)
def lF (sz:List Int) (s:PS) (v:Nat) (o:Int):PS:=(s.1.set v (o,aW sz v),mxI s.2 (en (o,aW sz v)))
def EY (sz:List Int) (s:PS) (l:List Nat):PS:=l.foldl (fun s v=>lF sz s v (fitS (s.1.take v) (aW sz v))) s
def lI (P:List Sp) (l:List Int):List Sp:=(l.map fun v=>plc P v.toNat).filter fun p=>decide (0<=p.1)
def tP (k:aA) (sz:List Int) (s:PS) (i:Nat) (q:aD):PS:=
 if 0<=(plc s.1 q.value.toNat).1 then s
 else if 0<=eC k i then lF sz s q.value.toNat (plc s.1 (eC k i).toNat).1
 else lF sz s q.value.toNat (fitS (lI s.1 (cW i (aF k))) (aW sz q.value.toNat))
def tN (k:aA) (sz:List Int):PS->Nat->List aD->PS
 | s,_,[]=>s
 | s,i,q :: r=>tN k sz (tP k sz s i q) (i+1) r
theorem yU (k:aA) (sz:List Int) (q:aD):∀ (d:List aD) (s:PS) (i:Nat),tN k sz s i (d++[q])=tP k sz (tN k sz s i d) (i+d.length) q
 | [],s,i=>by simp [tN]
 | x :: d,s,i=>by
  rw [List.cons_append,tN,yU k sz q d,tN,List.length_cons]
  congr 1
  omega
theorem KL (sz:List Int) (s:PS) (l:List Nat) (v:Nat):EY sz s (l++[v])=lF sz (EY sz s l) v (fitS ((EY sz s l).1.take v) (aW sz v)):=by simp [EY]
def ini (n:Nat):PS:=(List.replicate n (-1,0),0)
def kH (k:aA) (sz:List Int) (n:Nat):PS:=EY sz (ini k.values.es.length) (List.range n)
theorem rM (k:aA) (sz:List Int) (n:Nat):kH k sz (n+1)=lF sz (kH k sz n) n (fitS ((kH k sz n).1.take n) (aW sz n)):=by
 rw [kH,List.range_succ,KL];rfl
def gO (k:aA) (sz:List Int) (d:List aD):PS:=tN k sz (kH k sz k.inputs.toNat) 0 d
theorem sO (k:aA) (sz:List Int) (d:List aD) (q:aD):gO k sz (d++[q])=tP k sz (gO k sz d) d.length q:=by rw [gO,yU,Nat.zero_add];rfl
theorem yJ (sz:List Int) (s:PS) (v:Nat) (o:Int):(lF sz s v o).1.length=s.1.length:=by simp [lF]
theorem M2 (k:aA) (sz:List Int) (s:PS) (i:Nat) (q:aD):(tP k sz s i q).1.length=s.1.length:=by
 rw [tP]
 split
 ·rfl
 ·split<;>exact yJ _ _ _ _
theorem BH (k:aA) (sz:List Int):∀ (d:List aD) (s:PS) (i:Nat),(tN k sz s i d).1.length=s.1.length
 | [],_,_=>rfl
 | q :: d,s,i=>by rw [tN,BH k sz d,M2]
theorem oE (k:aA) (sz:List Int):∀ n,(kH k sz n).1.length=k.values.es.length
 | 0=>by simp [kH,EY,ini]
 | n+1=>by rw [rM,yJ,oE k sz n]
theorem uW (k:aA) (sz:List Int) (d:List aD):(gO k sz d).1.length=k.values.es.length:=by rw [gO,BH,oE]
theorem fitS_bnd (l:List Sp) (s:Int) : -1<=fitS l s/\fitS l s<=2000000000:=by
 rw [fitS]
 split
 ·omega
 ·rename_i h
  have hb:∀ p∈vU l,iQ p=false:=fun p hp=>by
   cases hx:iQ p
   ·rfl
   ·exact absurd (.inr (.inr (List.any_eq_true.2 ⟨p,(nX l p).1 hp,hx⟩))) h
  have:=fitScan_bnd (s:=s) hb (Int.le_refl 0) (by omega)
  omega
theorem nE (P:List Sp) (v w:Nat) (x:Sp):plc (P.set v x) w=if v=w/\v < P.length then x else plc P w:=by
 simp only [plc,List.getD_eq_getElem?_getD,List.getElem?_set]
 by_cases h:v=w
 ·subst h
  by_cases h2:v < P.length
  ·simp [h2]
  ·simp [h2]
 ·simp [h]
structure wS (sz:List Int) (s:PS):Prop where
 rng:∀ v,-1<=(plc s.1 v).1/\(plc s.1 v).1<=2000000000
 siz:∀ v,plc s.1 v=(-1,0)\/(plc s.1 v).2=aW sz v
 nn:0<=s.2
 le:∀ v,en (plc s.1 v)<=s.2
 at_:s.2=0\/∃ v,v < s.1.length/\en (plc s.1 v)=s.2
theorem NI (sz:List Int) (n:Nat):wS sz (ini n):=by
 have h:∀ v,plc (ini n).1 v=(-1,0):=by
  intro v
  simp only [plc,ini,List.getD_eq_getElem?_getD,List.getElem?_replicate]
  split<;>rfl
 exact ⟨fun v=>by rw [h];simp,fun v => .inl (h v),Int.le_refl 0,fun v=>by rw [h];exact (by decide:en (-1,0)<=0),.inl rfl⟩
theorem OB {o z:Int} (h1 : -1<=o) (h2:o<=2000000000) (h3:0<=z) (h4:z<=1000000000):en (o,z)=o+z:=aV (by simp only;omega) (by simp only;omega)
theorem E3 {sz:List Int} (hz:∀ v,0<=aW sz v/\aW sz v<=1000000000) {s:PS} (g:wS sz s) {v:Nat} {o:Int} (h1 : -1<=o) (h2:o<=2000000000) (hn:(plc s.1 v).1 < 0) (hv:v < s.1.length):wS sz (lF sz s v o):=by
 have e1:=OB h1 h2 (hz v).1 (hz v).2
 have hm:mxI s.2 (en (o,aW sz v))=if s.2 < en (o,aW sz v) then en (o,aW sz v) else s.2:=rfl
 have hold:en (plc s.1 v)<=0\/en (plc s.1 v)<=en (o,aW sz v):=by
  rcases g.siz v with h | h
  ·left;rw [h];decide
  ·right
   have h3:=(g.rng v).1
   have h4:(plc s.1 v)=(-1,aW sz v):=by
    rw [<- h]
    exact Prod.ext (by simp only;omega) rfl
   rw [h4,OB (by omega) (by omega) (hz v).1 (hz v).2,e1]
   omega
 refine ⟨fun w=>?_,fun w=>?_,?_,fun w=>?_,?_⟩
 ·simp only [lF]
  rw [nE]
  split
  ·exact ⟨h1,h2⟩
  ·exact g.rng w
 ·simp only [lF]
  rw [nE]
  split
  ·rename_i h;rw [<- h.1];exact .inr rfl
  ·exact g.siz w
 ·have:=g.nn
  simp only [lF]
  rw [hm]
  split<;>omega
 ·have:=g.le w
  simp only [lF]
  rw [hm,nE]
  split<;>split<;>omega
 ·simp only [lF]
  rw [hm,List.length_set]
  split
  ·rename_i hlt
   exact .inr ⟨v,hv,by rw [nE,if_pos ⟨rfl,hv⟩]⟩
  ·rename_i hlt
   rcases g.at_ with h | ⟨w,hw,h⟩
   ·exact .inl h
   ·by_cases hvw:v=w
    ·subst hvw
     rcases hold with ho | ho
     ·have:=g.nn
      exact .inl (by omega)
     ·exact .inr ⟨v,hw,by rw [nE,if_pos ⟨rfl,hw⟩];omega⟩
    ·exact .inr ⟨w,hw,by rw [nE,if_neg (fun h=>hvw h.1)];exact h⟩
theorem mH {sz:List Int} {s:PS} {v w:Nat} {o:Int} (h:v ≠ w):plc (lF sz s v o).1 w=plc s.1 w:=by
 simp only [lF];rw [nE,if_neg (fun x=>h x.1)]
theorem o7 {sz:List Int} {s:PS} {v:Nat} {o:Int} (h:v < s.1.length):plc (lF sz s v o).1 v=(o,aW sz v):=by
 simp only [lF];rw [nE,if_pos ⟨rfl,h⟩]
theorem BL {k:aA} {sz:List Int} (hz:∀ v,0<=aW sz v/\aW sz v<=1000000000):∀ n,n<=k.values.es.length->wS sz (kH k sz n)/\(∀ v,v < n->(plc (kH k sz n).1 v).2=aW sz v)/\∀ v,n<=v->plc (kH k sz n).1 v=(-1,0)
 | 0,_=>by
  refine ⟨NI sz _,fun v hv=>by omega,fun v _=>?_⟩
  simp only [kH,EY,List.range_zero,List.foldl_nil,plc,ini,List.getD_eq_getElem?_getD,List.getElem?_replicate]
  split<;>rfl
 | n+1,hn=>by
  obtain ⟨g,h1,h2⟩:=BL (k:=k) hz n (by omega)
  have hl:=oE k sz n
  have hb:=fitS_bnd ((kH k sz n).1.take n) (aW sz n)
  rw [rM]
  refine ⟨E3 hz g hb.1 hb.2 (by rw [h2 n (Nat.le_refl n)];decide) (by omega),fun v hv=>?_,fun v hv=>?_⟩
  ·by_cases h:n=v
   ·subst h;rw [o7 (by omega)]
   ·rw [mH h];exact h1 v (by omega)
  ·rw [mH (by omega)];exact h2 v (by omega)
theorem M1 {k:aA} {sz:List Int} (hz:∀ v,0<=aW sz v/\aW sz v<=1000000000) {s:PS} (g:wS sz s) (i:Nat) {q:aD} (hq:q.value.toNat < s.1.length) :
  wS sz (tP k sz s i q)/\(plc (tP k sz s i q).1 q.value.toNat).2=aW sz q.value.toNat/\∀ v,(plc s.1 v).2=aW sz v->(plc (tP k sz s i q).1 v).2=aW sz v:=by
 have put:∀ o:Int,-1<=o->o<=2000000000->(plc s.1 q.value.toNat).1 < 0->wS sz (lF sz s q.value.toNat o)/\(plc (lF sz s q.value.toNat o).1 q.value.toNat).2=aW sz q.value.toNat/\∀ v,(plc s.1 v).2=aW sz v->(plc (lF sz s q.value.toNat o).1 v).2=aW sz v:=by
  intro o h1 h2 h3
  refine ⟨E3 hz g h1 h2 h3 hq,by rw [o7 hq],fun v hv=>?_⟩
  by_cases h:q.value.toNat=v
  ·rw [<- h,o7 hq]
  ·rw [mH h];exact hv
 rw [tP]
 split
 ·rename_i h0
  refine ⟨g,?_,fun v h=>h⟩
  rcases g.siz q.value.toNat with h | h
  ·rw [h] at h0;exact absurd h0 (by decide)
  ·exact h
 ·rename_i h0
  split
  ·exact put _ (g.rng _).1 (g.rng _).2 (by omega)
  ·have hb:=fitS_bnd (lI s.1 (cW i (aF k))) (aW sz q.value.toNat)
   exact put _ hb.1 hb.2 (by omega)
theorem uU {k:aA} {sz:List Int} (hz:∀ v,0<=aW sz v/\aW sz v<=1000000000) (hi:k.inputs.toNat<=k.values.es.length):∀ (n:Nat),(∀ q∈k.list.es.take n,q.value.toNat < k.values.es.length) ->
  wS sz (gO k sz (k.list.es.take n))/\(∀ v,v < k.inputs.toNat->(plc (gO k sz (k.list.es.take n)).1 v).2=aW sz v)/\∀ q∈k.list.es.take n,(plc (gO k sz (k.list.es.take n)).1 q.value.toNat).2=aW sz q.value.toNat
 | 0,_=>by
  obtain ⟨g,h1,_⟩:=BL (k:=k) hz _ hi
  simp only [List.take_zero]
  exact ⟨g,h1,by simp⟩
 | n+1,hq=>by
  by_cases hn:n < k.list.es.length
  ·have e:k.list.es.take (n+1)=k.list.es.take n++[k.list.es[n]]:=by rw [List.take_succ_eq_append_getElem hn]
   rw [e] at hq ⊢
   obtain ⟨g,h1,h2⟩:=uU hz hi n (fun q hx=>hq q (List.mem_append.2 (.inl hx)))
   rw [sO]
   have hl:(k.list.es[n]).value.toNat < (gO k sz (k.list.es.take n)).1.length:=by rw [uW];exact hq _ (List.mem_append.2 (.inr (List.mem_singleton.2 rfl)))
   obtain ⟨g',h3,h4⟩:=M1 (k:=k) hz g (k.list.es.take n).length hl
   refine ⟨g',fun v hv=>h4 v (h1 v hv),fun q hx=>?_⟩
   rcases List.mem_append.1 hx with hx | hx
   ·exact h4 _ (h2 q hx)
   ·simp at hx;subst hx;exact h3
  ·have e:k.list.es.take (n+1)=k.list.es.take n:=by rw [List.take_of_length_le (by omega),List.take_of_length_le (by omega)]
   rw [e] at hq ⊢
   exact uU hz hi n hq
theorem VQ (a b:Int):a<=mxI a b/\b<=mxI a b:=by unfold mxI;split<;>omega
theorem VM (a b:Int):mxI a b=a\/mxI a b=b:=by unfold mxI;split<;>simp
end Go.Tev
end
section
namespace Go.Tev
theorem x9 (ds:List Val):∀ (a b:List Lin) (n:Int) (t:Bool),eqL bL a b=true->mF ds n t a=mF ds n t b
 | [],[],_,_,_=>rfl
 | [],_ :: _,_,_,h=>by simp [eqL] at h
 | _ :: _,[],_,_,h=>by simp [eqL] at h
 | x :: a,y :: b,n,t,h=>by
  simp only [eqL,Bool.and_eq_true] at h
  rw [mF,mF,HJ ds h.1]
  exact x9 ds a b _ _ h.2
theorem GJ (ds:List Val) {a b:Typ} (h:gL a b=true):dH ds a=dH ds b:=by
 simp only [gL,eY,Bool.and_eq_true] at h
 simp only [dH,eT]
 rw [x9 ds _ _ _ _ h.2.2]
theorem x8 (f:Typ->Int):∀ (sp:List Sp) (ts:List Typ) (n:Nat) (s:Sp) (t:Typ),sp[n]?=some s->ts[n]?=some t->(cP f sp ts)[n]?=some (if s.1 = -2 then 0 else f t)
 | s :: r,t :: q,0,_,_,h1,h2=>by simp at h1 h2;subst h1 h2;simp [cP]
 | s :: r,t :: q,n+1,_,_,h1,h2=>by
  simp only [List.getElem?_cons_succ] at h1 h2
  simp only [cP,List.getElem?_cons_succ]
  exact x8 f r q n _ _ h1 h2
 | [],_,_,_,_,h1,_=>by simp at h1
 | _ :: _,[],_,_,_,_,h2=>by simp at h2
def d9 (k:aA) (ds:List Val):List Int:=cP (dH ds) (aF k) k.values.es
theorem oS {k:aA} {v:Int} (h:(qA k v).1 ≠ -2):∃ s,(aF k)[v.toNat]?=some s/\qA k v=s:=by
 rw [qA] at h ⊢
 cases hs:(aF k)[v.toNat]? with
 | none=>rw [hs] at h;exact absurd rfl h
 | some s=>exact ⟨s,rfl,rfl⟩
theorem DN {k:aA} {ds:List Val} {v:Nat} {t:Typ} {s:Sp} (hs:(aF k)[v]?=some s) (h2:s.1 ≠ -2) (ht:k.values.es[v]?=some t):aW (d9 k ds) v=dH ds t:=by
 rw [aW,List.getD_eq_getElem?_getD,d9,x8 _ _ _ _ _ _ hs ht,if_neg h2]
 rfl
theorem wN {k:aA} (ok:fP k) (ds:List Val) {d r:List aD} {q:aD} (hes:k.list.es=d++q :: r) (hc:0<=eC k d.length) :
  ∃ c:Nat,eC k d.length=c/\c < k.values.es.length/\(c < k.inputs.toNat\/∃ x∈d,x.value.toNat=c)/\aW (d9 k ds) c=aW (d9 k ds) q.value.toNat:=by
 rcases pJ (fun v=>qR k (d.length:Int) (v:Int)) k.values.es.length 0 with h | ⟨c,h1,h2,_,h3⟩
 ·rw [eC,h] at hc;exact absurd hc (by decide)
 refine ⟨c,h1,by omega,?_⟩
 have hget:k.list.es[d.length]?=some q:=by rw [hes];simp
 have hq0:=(dJ (ok.ker d q r hes)).1
 have hin:0<=k.inputs:=by
  have:=ok.out
  simp only [aX,Bool.and_eq_true,decide_eq_true_eq] at this
  obtain ⟨_,⟨⟨⟨⟨⟨⟨_,_⟩,hi0⟩,_⟩,hiV⟩,_⟩,_⟩,_⟩:=this
  exact hi0
 simp only [qR,Int.toNat_natCast,hget] at h2
 cases ha:k.values.es[c]? with
 | none=>rw [ha] at h2;cases h2
 | some a=>
 rw [ha] at h2
 simp only at h2
 cases hb:k.values.es[q.value.toNat]? with
 | none=>rw [hb] at h2;cases h2
 | some b=>
 rw [hb] at h2
 simp only [MY,Bool.and_eq_true,decide_eq_true_eq,Bool.not_eq_true',decide_eq_false_iff_not] at h2
 obtain ⟨_,⟨m1,m2,m3,m4⟩,m5,_⟩:=h2
 obtain ⟨s,s1,s2⟩:=oS m3
 obtain ⟨u,u1,u2⟩:=oS (k:=k) (v:=q.value) (by omega)
 rw [s2] at m3 m4
 rw [u2] at m2
 rw [Int.toNat_natCast] at s1
 constructor
 ·have hle:=sD k s (List.mem_of_getElem? s1)
  rcases oG (k:=k) (n:=c) (f:=s.1) (by rw [frm,s1];rfl) with h | ⟨_,h⟩ | ⟨j,x,x1,x2,x3⟩
  ·exact absurd h m3
  ·exact .inl h
  ·right
   have hj:j < d.length:=by
    rcases Nat.lt_trichotomy j d.length with h | h | h
    ·exact h
    ·subst h
     rw [hget] at x1
     cases x1
     omega
    ·omega
   refine ⟨x,?_,x2⟩
   rw [hes,List.getElem?_append_left hj] at x1
   exact List.mem_of_getElem? x1
 ·rw [DN s1 m3 ha,DN u1 (by omega) hb,GJ ds m5]
end Go.Tev
end
section
namespace Go.Tev
def yR (k:aA) (ds:List Val) (r:AV):Prop:=
 if dS k ds=0 then ∃ n1 c1 n2 c2,r = .tup [.agg [.sl n1 ((gO k (d9 k ds) k.list.es).1.map bS) c1,.sl n2 ((bZ k).map aH) c2,.int .i64 (gO k (d9 k ds) k.list.es).2],.int .i64 0]
 else r = .tup [.agg [.sl true [] true,.sl true [] true,.int .i64 0],.int .i64 (dS k ds)]
theorem DY {h:Hp} {k e:Nat} {sp:List Sp} (hg:h.get k=some (e,.blk (aK sp) 2 true false false)) (n cap:Nat) (hn:n<=sp.length) (d:Nat):Tev.snap (d+2) h (.rf k e 0 n cap)=some (.sl false ((sp.take n).map bS) false,[k]):=by
 obtain ⟨cs',h1,h2,h3,h4⟩:=cH (jF (sp.take n))
 rw [kN] at h1
 cases h1
 have h5:=h4 (aK (sp.drop n))
 have happ:∀ a b:List Sp,aK a++aK b=aK (a++b):=by
  intro a b
  induction a with
  | nil=>rfl
  | cons x a ih=>simp [aK,ih]
 rw [happ,List.take_append_drop,List.length_map,List.length_take,Nat.min_eq_left hn] at h5
 have h6:cD (Tev.snap (d+1) h) ((sp.take n).map bS)=some ((sp.take n).map bS,[]):=dY d h (oU _)
 rw [eD]
 simp only [hg,List.drop_zero,h5,h6]
 simp [AV.tree]
theorem PM {h:Hp} {cs:List AV} {k e n j:Nat} (hg:h.get k=some (e,.blk cs 2 true false false)) (hj:j<=n):fW h 2 false true false [.rf k e 0 n n,.int .i64 j]=some (.rf k e 0 j n,.pat [k] []):=by
 simp only [fW,gK,gQ,hg,Bool.false_eq_true,if_false,if_true,Option.getD_none,Option.getD_some]
 rw [if_pos ⟨trivial,trivial,by omega,by omega,by omega,by omega,by simp,.inl trivial⟩]
 simp
theorem G0 {P:List Sp} {v n:Nat} (hn:P.length=n) (h:v < n):(aK P)[0+v*2+0]?=some (.int .i64 (plc P v).1):=by
 subst hn
 rw [Nat.zero_add,Nat.add_zero,(rE P v P[v] (List.getElem?_eq_getElem h)).1,plc,List.getD_eq_getElem?_getD,List.getElem?_eq_getElem h]
 rfl
theorem GY (P:List Sp) (d:List Int) (w:Int):lI P (d++[w])=lI P d++if 0<=(plc P w.toNat).1 then [plc P w.toNat] else []:=by
 simp only [lI,List.map_append,List.filter_append,List.map_cons,List.map_nil]
 congr 1
 by_cases h:0<=(plc P w.toNat).1<;>simp [h]
theorem BF (P:List Sp) (d:List Int):(lI P d).length<=d.length:=by
 simp only [lI]
 exact Nat.le_trans (List.length_filter_le _ _) (by simp)
theorem PZ {P:List Sp} {v n:Nat} (hn:P.length=n) (h:v < n):P[v]?=some (plc P v):=by
 subst hn
 rw [plc,List.getD_eq_getElem?_getD,List.getElem?_eq_getElem h];rfl
structure MH (k:aA) (sz:List Int) (n2 c2:Bool) (s:PS) (hp:Hp):Prop where
 g1:hp.get 1=some (0,.blk k.cells 6 true true false)
 g5:hp.get 5=some (0,.blk [.sl true [] true,.sl true [] true,.int .i64 0] 3 true true false)
 g13:hp.get 13=some (0,.blk [.sl false (sz.map aH) true] 1 false true false)
 g21:hp.get 21=some (0,.blk (aK s.1) 2 true false false)
 g25:hp.get 25=some (0,.blk [.rf 21 0 0 k.values.es.length k.values.es.length,.sl n2 ((bZ k).map aH) c2,.int .i64 s.2] 3 true true false)
theorem MH.put {k:aA} {sz:List Int} {n2 c2:Bool} {s:PS} {hp:Hp} (m:MH k sz n2 c2 s hp) (v:Nat) (o:Int) :
  MH k sz n2 c2 (lF sz s v o) ((hp.put 21 0 (.blk (aK (s.1.set v (o,aW sz v))) 2 true false false)).put 25 0 (.blk [.rf 21 0 0 k.values.es.length k.values.es.length,.sl n2 ((bZ k).map aH) c2,.int .i64 (if s.2 < wr .i64 (o+aW sz v) then wr .i64 (o+aW sz v) else s.2)] 3 true true false)):=by
 refine ⟨?_,?_,?_,?_,?_⟩
 ·rw [aG,if_neg (by decide),aG,if_neg (by decide)];exact m.g1
 ·rw [aG,if_neg (by decide),aG,if_neg (by decide)];exact m.g5
 ·rw [aG,if_neg (by decide),aG,if_neg (by decide)];exact m.g13
 ·rw [aG,if_neg (by decide),aG,if_pos rfl];rfl
 ·rw [aG,if_pos rfl];rfl
theorem MH.other {k:aA} {sz:List Int} {n2 c2:Bool} {s:PS} {hp:Hp} (m:MH k sz n2 c2 s hp) (j e:Nat) (o:Ob) (hj:(j == 1||j == 5||j == 13||j == 21||j == 25)=false):MH k sz n2 c2 s (hp.put j e o):=by
 simp only [Bool.or_eq_false_iff,beq_eq_false_iff_ne] at hj
 obtain ⟨⟨⟨⟨h1,h5⟩,h13⟩,h21⟩,h25⟩:=hj
 exact ⟨by rw [aG,if_neg h1];exact m.g1,by rw [aG,if_neg h5];exact m.g5,by rw [aG,if_neg h13];exact m.g13,by rw [aG,if_neg h21];exact m.g21,by rw [aG,if_neg h25];exact m.g25⟩
theorem DM {k:aA} (ok:fP k) (ds:List Val):(d9 k ds).length=k.values.es.length:=by
 have hso:=ok.out
 simp only [aX,Bool.and_eq_true,decide_eq_true_eq] at hso
 obtain ⟨_,⟨⟨⟨⟨⟨⟨_,_⟩,hi0⟩,_⟩,hiV⟩,_⟩,_⟩,_⟩:=hso
 have hl:=gP (k:=k) (by omega)
 have:∀ (f:Typ->Int) (a:List Sp) (b:List Typ),a.length=b.length->(cP f a b).length=b.length:=by
  intro f a
  induction a with
  | nil=>intro b h;simp at h;simp [cP,<- h]
  | cons x a ih=>intro b h;cases b with
   | nil=>simp at h
   | cons y b=>simp at h;simp [cP,ih b h]
 exact this _ _ _ hl
section
variable {pg:Pg}
set_option maxHeartbeats 8000000 in
theorem c615 (hf:pg.fs 615=some cf615) (h625:pg.fs 625=some cf625)
  (k:aA) (K:KOK k) (nl cl:Bool) (ds:List Val) (h16:Ret pg 16 [k.av,.sl nl (ds.map Val.av) cl] (hQ k ds)) (h262:bK pg 262 [k.av] (KX k))
  (h624:∀ (nl cl:Bool) (a b:Int) (n:Nat),n<=big->bK pg 624 [.sl nl [.agg [.int .i64 a,.int .i64 b]] cl,.int .i64 n] (kI 2 true (List.replicate n (.agg [.int .i64 a,.int .i64 b]))))
  (h623:∀ (nl cl:Bool) (es:List Sp),es.length<=big->(nl=true->es=[])->∀ s:Int,Ret pg 623 [.sl nl (es.map bS) cl,.int .i64 s] (.int .i64 (fitS es s)))
  (h11:∀ at_:Int,bK pg 11 [k.av,.int .i64 at_] (lP k at_)):bK pg 615 [k.av,.sl nl (ds.map Val.av) cl] (yR k ds):=by
 obtain ⟨r2,a2,s2⟩:=h262
 have hVb:=k.values.ok
 have a3:=h624 false true (-1) 0 k.values.es.length hVb
 rw [aA.avc] at h16 a2
 refine bK.ofX hf ?_
 unfold cf615
 by_cases hx:dS k ds=0
 case neg=>
  rw [hQ,if_neg hx] at h16
  have e1:decide (dS k ds=0)=false:=by simpa using hx
  simp only [go_sem,seval]
  refine aB h16 (by simp only [go_sem,seval]) rfl ?_
  simp only [e1,go_sem,seval]
  rw [yR,if_neg hx]
 have ok:=dZ (eM hx).1
 rw [hQ,if_pos hx] at h16
 rw [KX,if_pos (eM hx).1] at s2
 obtain ⟨n2,c2,hn2,rfl⟩:=s2
 have hfold:cP (dH ds) (aF k) k.values.es=d9 k ds:=rfl
 rw [hfold] at h16
 generalize hsz:d9 k ds=sz at h16
 have hrep:List.replicate k.values.es.length (AV.agg [.int .i64 (-1),.int .i64 0])=(ini k.values.es.length).1.map bS:=by simp [ini,bS]
 have hl0:(ini k.values.es.length).1.length=k.values.es.length:=by simp [ini]
 have hV:0 < k.values.es.length:=by
  obtain ⟨v,hv⟩:=List.exists_mem_of_length_pos ok.one
  have:=ok.res v hv
  omega
 have hfin:∀ r,(∃ n1 c1 n2 c2,r = .tup [.agg [.sl n1 ((gO k sz k.list.es).1.map bS) c1,.sl n2 ((bZ k).map aH) c2,.int .i64 (gO k sz k.list.es).2],.int .i64 0])->yR k ds r:=by
  intro r h
  unfold yR
  rw [if_pos hx,hsz]
  exact h
 rw [hrep] at a3
 simp only [go_sem,seval]
 refine aB h16 (by simp only [go_sem,seval]) rfl ?_
 simp only [go_sem,seval]
 refine aB a2 (by simp only [go_sem,seval]) rfl ?_
 simp only [go_sem,seval]
 refine xF a3 (by simp only [go_sem,seval]) (jF _) (fun he=>?_) (fun cs hcs _=>?_)
 ·have:=congrArg List.length he
  rw [List.length_map,hl0,List.length_nil] at this
  omega
 rw [kN] at hcs
 cases hcs
 rw [List.length_map,hl0]
 simp only [go_sem,seval]
 have hzl:sz.length=k.values.es.length:=by rw [<- hsz];exact DM ok ds
 have hzg:∀ v,v < k.values.es.length->sz[v]?=some (aW sz v):=fun v hv=>by rw [aW,List.getD_eq_getElem?_getD,List.getElem?_eq_getElem (by omega)];rfl
 have hin:0<=k.inputs/\k.inputs<=k.values.es.length:=by
  have hso:=ok.out
  simp only [aX,Bool.and_eq_true,decide_eq_true_eq] at hso
  obtain ⟨_,⟨⟨⟨⟨⟨⟨_,_⟩,hi0⟩,_⟩,hiV⟩,_⟩,_⟩,_⟩:=hso
  exact ⟨hi0,hiV⟩
 obtain ⟨ins,hins⟩:∃ n:Nat,k.inputs=n:=⟨k.inputs.toNat,by omega⟩
 have hinV:ins<=k.values.es.length:=by omega
 refine aI (List.range ins) (fun d r env hp=>env=cf615E0 (.pt 1 0 0) (.pt 5 0 0) (.pt 13 0 0) (.sl n2 ((bZ k).map aH) c2) (.pt 25 0 0) (.fn 625 [.pt 13 0 0,.pt 25 0 0]) (.int .i64 k.inputs) (.int .i64 d.length)/\MH k sz n2 c2 (kH k sz d.length) hp) ?_ ?_ ?_
 ·refine ⟨rfl,⟨?_,?_,?_,?_,?_⟩⟩<;>(simp only [go_sem,seval];try rfl)
 ·rintro env hp ⟨rfl,m⟩
  have hr:(List.range ins).length=ins:=List.length_range
  rw [hr] at m ⊢
  have e1:decide ((ins:Int) < k.inputs)=false:=by simp;omega
  have g1:=m.g1
  simp only [aA.cells,Sl.av] at g1
  have m0:MH k sz n2 c2 (gO k sz []) hp:=by
   rw [show gO k sz []=kH k sz ins from by rw [gO,hins,Int.toNat_natCast];rfl];exact m
  simp only [cf615L0,cf615E0,e1,g1,go_sem,seval]
  clear m g1 e1
  have hlb:=k.list.ok
  refine aI k.list.es (fun d r env hp=>env=cf615E2 (.pt 1 0 0) (.pt 5 0 0) (.pt 13 0 0) (.sl n2 ((bZ k).map aH) c2) (.pt 25 0 0) (.fn 625 [.pt 13 0 0,.pt 25 0 0]) (.sl k.list.nl (k.list.es.map aD.av) k.list.cl) (.int .i64 k.list.es.length) (.int .i64 d.length)/\MH k sz n2 c2 (gO k sz d) hp) ?_ ?_ ?_
  ·exact ⟨rfl,m0⟩
  ·clear m0 hp
   rintro env hp ⟨rfl,m⟩
   obtain ⟨g1,g5,g13,g21,g25⟩:=m
   have hl:=uW k sz k.list.es
   have hsn:=fun X=>DY (h:=Hp.put hp 5 0 X) (k:=21) (e:=0) (sp:=(gO k sz k.list.es).1) (by rw [aG,if_neg (by decide)];exact g21) k.values.es.length k.values.es.length (by omega) 60
   rw [List.take_of_length_le (by omega)] at hsn
   simp only [cf615L2,cf615E2,bA,g25,g5,↓hsn,go_sem,seval]
   simp only [Tev.conv,depth,eD,bX,bB,↓hsn,go_sem]
   exact hfin _ ⟨_,_,_,_,rfl⟩
  ·clear m0 hp
   rintro d q r env hp hes ⟨rfl,m⟩
   have hstep:=sO k sz d q
   obtain ⟨hget,e1,e2,ew⟩:=cG hes hlb
   obtain ⟨w1,w2,_⟩:=dJ (ok.ker d q r hes)
   obtain ⟨v,hv⟩:∃ v:Nat,q.value=v:=⟨q.value.toNat,by omega⟩
   have hvV:v < k.values.es.length:=by omega
   have f1:(0<=(v:Int))=True:=eq_true (by omega)
   have f2:((v:Int) < (k.values.es.length:Int))=True:=eq_true (by omega)
   have m0:=m
   obtain ⟨g1,g5,g13,g21,g25⟩:=m
   have g10:=g1
   simp only [aA.cells,Sl.av] at g1
   have hsl:=uW k sz d
   generalize hs:gO k sz d=s at *
   have l1:=G0 hsl hvV
   rw [tP,hv,Int.toNat_natCast] at hstep
   have hc1:(0+v*2+0 < (aK s.1).length)=True:=eq_true (by rw [cK];omega)
   by_cases h0:0<=(plc s.1 v).1
   ·have h0':decide (0<=(plc s.1 v).1)=true:=by simpa using h0
    simp only [cf615L2,cf615E2,e1,e2,hget,aD.avc,g25,g21,hv,f1,f2,l1,h0',go_sem,seval]
    rw [if_pos h0] at hstep
    simp only [ew,go_sem,seval]
    exact ⟨rfl,by rw [hstep];exact (m0.other 37 _ _ rfl).other 37 _ _ rfl⟩
   have h0':decide (0<=(plc s.1 v).1)=false:=by simpa using h0
   rw [if_neg h0] at hstep
   have hcl:(bZ k).length=k.list.es.length:=by simp [bZ]
   have hdl:d.length < k.list.es.length:=by rw [hes];simp
   have hch:((bZ k).map aH)[d.length]?=some (aH (eC k d.length)):=by
    rw [List.getElem?_map,pM,lB,List.getElem?_map,List.getElem?_range hdl];rfl
   have f3:((d.length:Int) < ((bZ k).length:Int))=True:=eq_true (by omega)
   have hzv:=hzg v hvV
   have hz':(sz.map aH)[v]?=some (aH (aW sz v)):=by rw [List.getElem?_map,hzv];rfl
   have f4:((v:Int) < (sz.length:Int))=True:=eq_true (by omega)
   by_cases h5:0<=eC k d.length
   ·have h5':decide (0<=eC k d.length)=true:=by simpa using h5
    rw [if_pos h5] at hstep
    obtain ⟨c,c1,c2',c3,c4⟩:=wN ok ds hes h5
    rw [c1,Int.toNat_natCast] at hstep
    rw [c1] at h5' hch
    have f5:(0<=(c:Int))=True:=eq_true (by omega)
    have f6:((c:Int) < (k.values.es.length:Int))=True:=eq_true (by omega)
    have l2:=G0 hsl c2'
    simp only [cf615L2,cf615E2,e1,e2,hget,aD.avc,g25,g21,hv,f1,f2,l1,h0',hch,f3,h5',f5,f6,l2,go_sem,seval]
    refine jE (.inl rfl) rfl (c625 h625 _ _ 13 0 25 0 21 0 (by decide) (by decide) (by decide) false true sz s.1 (.sl n2 ((bZ k).map aH) c2) s.2 (plc s.1 c).1 (aW sz v) v _ hsl ?_ ?_ ?_ hvV hzv) ?_
    ·simp only [g13,go_sem,seval]
    ·simp only [g25,go_sem,seval]
    ·simp only [g21,go_sem,seval]
    have M:=fun e1 o1 e2 o2=>((m0.other 37 e1 o1 rfl).other 37 e2 o2 rfl).put v (plc s.1 c).1
    rw [<- hstep] at M
    simp only [go_sem,seval]
    refine ⟨by kernel_rfl,?_⟩
    simp only [ew,go_sem,seval]
    exact ⟨by kernel_rfl,by simpa using M _ _ _ _⟩
   ·have h5':decide (0<=eC k d.length)=false:=by simpa using h5
    rw [if_neg h5] at hstep
    obtain ⟨r11,a11,s11⟩:=h11 d.length
    unfold lP at s11
    rw [if_pos (eM hx).1,if_neg (by omega)] at s11
    obtain ⟨n3,c3,rfl⟩:=s11
    rw [aA.avc] at a11
    have hspl:(aF k).length=k.values.es.length:=gP (by omega)
    have hlvb:(cW d.length (aF k)).length<=big:=by
     have:(cW d.length (aF k)).length<=(aF k).length:=by
      simp only [cW,List.length_map]
      exact Nat.le_trans (List.length_filter_le _ _) (by simp)
     omega
    have hlv:∀ w∈cW d.length (aF k),0<=w/\w.toNat < k.values.es.length:=fun w hw=>by
     obtain ⟨u,u1,u2,_⟩:=iL.1 hw
     have:=(List.getElem?_eq_some_iff.1 u2).1
     exact ⟨u1,by omega⟩
    generalize cW d.length (aF k)=lv at *
    simp only [cf615L2,cf615E2,e1,e2,hget,aD.avc,g25,g21,hv,f1,f2,l1,h0',hch,f3,h5',g1,go_sem,seval]
    refine aB a11 (by simp only [go_sem,seval]) rfl ?_
    simp only [go_sem,seval]
    generalize hp.next 37=e37
    refine aI lv (fun d2 r2 env hp'=>∃ vl,env=cf615E1 (.pt 1 0 0) (.pt 5 0 0) (.pt 13 0 0) (.sl n2 ((bZ k).map aH) c2) (.pt 25 0 0) (.fn 625 [.pt 13 0 0,.pt 25 0 0]) (.pt 37 e37 0) vl (.sl k.list.nl (k.list.es.map aD.av) k.list.cl) (.int .i64 k.list.es.length) (.int .i64 d.length) (.sl n3 (lv.map aH) c3) (.int .i64 lv.length) (.int .i64 d2.length) /\
     MH k sz n2 c2 s hp'/\(∃ cs,hp'.get 37=some (e37,.blk (.int .i64 q.kind :: .int .i64 v :: cs) 24 true true false))/\Own hp' 49 2 true vl ((lI s.1 d2).map bS)) ?_ ?_ ?_
    ·exact ⟨_,rfl,(m0.other 37 _ _ rfl).other 37 _ _ rfl,⟨_,by rw [aG,if_pos rfl]⟩,Own.nil _ _ _ _ _ _ rfl⟩
    ·clear m0 g1 g5 g13 g21 g25 g10 hp
     rintro env hp ⟨vl,rfl,m0,⟨cs,g37⟩,ho⟩
     obtain ⟨nl8,cl8,keys,hsn,hnl⟩:=ho.snap (jF _) 62
     have hll:=BF s.1 lv
     have a5:=h623 nl8 cl8 (lI s.1 lv) (by omega) (fun h=>by simpa using hnl h) (aW sz v)
     have g13:=m0.g13
     have g25:=m0.g25
     have M:=m0.put v (fitS (lI s.1 lv) (aW sz v))
     rw [<- hstep] at M
     simp only [cf615L1,cf615E1,bA,g37,g13,f1,f4,hz',go_sem,seval]
     refine bR a5 (u0 hsn rfl) (v:=.int .i64 (fitS (lI s.1 lv) (aW sz v))) (pa:=[]) rfl ?_
     simp only [go_sem,seval]
     refine jE (.inl rfl) rfl (c625 h625 _ _ 13 0 25 0 21 0 (by decide) (by decide) (by decide) false true sz s.1 (.sl n2 ((bZ k).map aH) c2) s.2 (fitS (lI s.1 lv) (aW sz v)) (aW sz v) v _ hsl g13 g25 m0.g21 hvV hzv) ?_
     simp only [go_sem,seval]
     refine ⟨by kernel_rfl,?_⟩
     simp only [ew,go_sem,seval]
     exact ⟨by kernel_rfl,by simpa using M⟩
    ·clear m0 g1 g5 g13 g21 g25 g10 hp
     rintro d2 w r2 env hp hes2 ⟨vl,rfl,m0,⟨cs,g37⟩,ho⟩
     obtain ⟨hget2,p1,p2,pw⟩:=cG hes2 hlvb
     obtain ⟨w0,w1'⟩:=hlv w (by rw [hes2];simp)
     obtain ⟨u,hu⟩:∃ u:Nat,w=u:=⟨w.toNat,by omega⟩
     subst hu
     rw [Int.toNat_natCast] at w1'
     have t1:(0<=(u:Int))=True:=eq_true (by omega)
     have t2:((u:Int) < (k.values.es.length:Int))=True:=eq_true (by omega)
     have l3:=G0 hsl w1'
     obtain ⟨t3,t4⟩:=IJ s.1 u _ (PZ hsl w1')
     have g25:=m0.g25
     have g21:=m0.g21
     have hsno:=GY s.1 d2 u
     rw [Int.toNat_natCast] at hsno
     have hget2':(lv.map aH)[d2.length]?=some (aH u):=by rw [List.getElem?_map,hget2];rfl
     have hl2:=BF s.1 d2
     have hd2:d2.length+1<=big:=by rw [hes2] at hlvb;simp at hlvb;omega
     by_cases h6:0<=(plc s.1 u).1
     ·have h6':decide (0<=(plc s.1 u).1)=true:=by simpa using h6
      rw [if_pos h6] at hsno
      simp only [cf615L1,cf615E1,p1,p2,hget2,hget2',g25,g21,t1,t2,l3,h6',t3,t4,go_sem,seval]
      refine fH (kb:=0) (s:=49) (ho.mono ?_) (jF _) (xs:=[bS (plc s.1 u)]) (jF [plc s.1 u]) (by simp only [List.length_map,List.length_singleton,big] at *;omega) (by decide) ?_
      ·simp only [go_sem,seval]
      intro v' rd pa ho2 hk2 _
      simp only [pw,go_sem,seval]
      refine ⟨v',rfl,?_,⟨cs,?_⟩,?_⟩
      ·exact ⟨by rw [hk2 1 (by omega)];exact m0.g1,by rw [hk2 5 (by omega)];exact m0.g5,by rw [hk2 13 (by omega)];exact m0.g13,by rw [hk2 21 (by omega)];exact m0.g21,by rw [hk2 25 (by omega)];exact m0.g25⟩
      ·rw [hk2 37 (by omega)];exact g37
      ·rw [hsno,List.map_append];simpa using ho2
     ·have h6':decide (0<=(plc s.1 u).1)=false:=by simpa using h6
      rw [if_neg h6,List.append_nil] at hsno
      simp only [cf615L1,cf615E1,p1,p2,hget2,hget2',g25,g21,t1,t2,l3,h6',pw,go_sem,seval]
      exact ⟨vl,rfl,m0,⟨cs,g37⟩,by rw [hsno];exact ho⟩
 ·rintro d x r env hp hes ⟨rfl,m⟩
  obtain ⟨rfl,hlt⟩:=iG hes
  have hb3:(d++d.length :: r).length<=big:=by rw [<- hes];simp;omega
  have hw:=aO hb3
  have e1:decide ((d.length:Int) < k.inputs)=true:=by simp;omega
  have e2:((d.length:Int) < (sz.length:Int))=True:=eq_true (by omega)
  have e3:((d.length:Int)<=(k.values.es.length:Int))=True:=eq_true (by omega)
  have hz:=hzg d.length (by omega)
  have hz':(sz.map aH)[d.length]?=some (aH (aW sz d.length)):=by rw [List.getElem?_map,hz];rfl
  have m0:=m
  obtain ⟨g1,g5,g13,g21,g25⟩:=m
  have hsl:=oE k sz d.length
  have hsucc:=rM k sz d.length
  generalize hs:kH k sz d.length=s at *
  have hsn:=DY g21 d.length k.values.es.length (by omega) 62
  have a4:=h623 false false (s.1.take d.length) (by rw [List.length_take];omega) (by simp) (aW sz d.length)
  clear hes
  simp only [cf615L0,cf615E0,e1,g13,g25,e2,e3,hz',↓PM g21 (show d.length<=k.values.es.length by omega),go_sem,seval]
  refine bR a4 (u0 hsn rfl) (v:=.int .i64 (fitS (s.1.take d.length) (aW sz d.length))) (pa:=[]) rfl ?_
  simp only [go_sem,seval]
  refine jE (.inl rfl) rfl (c625 h625 _ _ 13 0 25 0 21 0 (by decide) (by decide) (by decide) false true sz s.1 (.sl n2 ((bZ k).map aH) c2) s.2 (fitS (s.1.take d.length) (aW sz d.length)) (aW sz d.length) d.length _ hsl g13 g25 g21 (by omega) hz) ?_
  have M:=m0.put d.length (fitS (s.1.take d.length) (aW sz d.length))
  rw [<- hsucc] at M
  simp only [go_sem,seval]
  refine ⟨by kernel_rfl,?_⟩
  simp only [hw,go_sem,seval]
  exact ⟨by kernel_rfl,by simpa using M⟩
end
end Go.Tev
end
section
namespace Go.Tev
structure MR (k:aA) (n2 c2:Bool) (e:Nat) (P:List Sp) (pk:Int) (hp:Hp):Prop where
 g1:hp.get 1=some (0,.blk k.cells 6 true true false)
 g5:hp.get 5=some (0,.blk [.sl true [] true,.sl true [] true,.int .i64 0] 3 true true false)
 g17:hp.get 17=some (0,.blk [.rf 21 e 0 k.values.es.length k.values.es.length,.sl n2 ((bZ k).map aH) c2,.int .i64 pk] 3 true true false)
 g21:hp.get 21=some (e,.blk (aK P) 2 true false false)
theorem MR.other {k:aA} {n2 c2:Bool} {e:Nat} {P:List Sp} {pk:Int} {hp hp':Hp} (m:MR k n2 c2 e P pk hp) (j:Nat) (hj:21 < j) (h:∀ i,i ≠ j->hp'.get i=hp.get i):MR k n2 c2 e P pk hp':=
 ⟨by rw [h 1 (by omega)];exact m.g1,by rw [h 5 (by omega)];exact m.g5,by rw [h 17 (by omega)];exact m.g17,by rw [h 21 (by omega)];exact m.g21⟩
theorem MR.put {k:aA} {n2 c2:Bool} {e:Nat} {P:List Sp} {pk:Int} {hp:Hp} (m:MR k n2 c2 e P pk hp) (Q:List Sp):MR k n2 c2 e Q pk (hp.put 21 e (.blk (aK Q) 2 true false false)):=
 ⟨by rw [aG,if_neg (by decide)];exact m.g1,by rw [aG,if_neg (by decide)];exact m.g5,by rw [aG,if_neg (by decide)];exact m.g17,by rw [aG,if_pos rfl]⟩
section
variable {pg:Pg}
end
end Go.Tev
end
section
namespace Go.Tev
theorem wG (sp:List Sp) (i:Nat) (q:aD) (n:Nat):frm (gY sp i q) n=if q.value.toNat=n/\frm sp n=some (-2) then some (i:Int) else frm sp n:=by
 rw [gY,oH,vB]
 by_cases hv:q.value.toNat=n
 ·subst hv
  simp only [true_and]
  cases hs:sp[q.value.toNat]? with
  | none=>
   have hf:fZ sp q.value=0:=by simp [fZ,hs]
   simp [hf,frm,hs]
  | some s=>
   have hf:fZ sp q.value=s.1:=by simp [fZ,hs]
   by_cases h2:s.1 = -2
   ·simp [hf,h2,frm,fI,List.getElem?_modify,hs]
   ·simp [hf,h2,frm,hs]
 ·rw [if_neg (fun h:q.value.toNat=n/\frm sp n=some (-2)=>hv h.1)]
  cases decide (fZ sp q.value = -2)
  ·simp
  ·simp only [if_true,frm,fI,List.getElem?_modify]
   cases sp[n]?<;>simp [hv]
theorem tU:∀ (L:List aD) (sp:List Sp) (i n:Nat) (f:Int),frm sp n=some f->f ≠ -2->frm (eI sp i L) n=some f
 | [],_,_,_,_,h,_=>h
 | q :: r,sp,i,n,f,h,hf=>by
  rw [eI]
  refine tU r _ _ n f ?_ hf
  rw [wG,if_neg (fun x=>hf (by rw [h] at x;simpa using x.2)),h]
theorem E5:∀ (L:List aD) (sp:List Sp) (i j:Nat) (q:aD),L[j]?=some q->q.value.toNat < sp.length->∃ f,frm (eI sp i L) q.value.toNat=some f/\f ≠ -2/\(f<=((i+j:Nat):Int)\/frm sp q.value.toNat=some f)
 | [],_,_,j,_,h,_=>by simp at h
 | x :: r,sp,i,0,q,h,hl=>by
  simp at h
  subst h
  rw [eI]
  have hs:=wG sp i x x.value.toNat
  obtain ⟨g,hg⟩:∃ g,frm sp x.value.toNat=some g:=⟨_,by rw [frm,List.getElem?_eq_getElem hl];rfl⟩
  by_cases h2:g = -2
  ·rw [if_pos ⟨rfl,by rw [hg,h2]⟩] at hs
   exact ⟨i,tU r _ _ _ _ hs (by omega),by omega,.inl (by simp)⟩
  ·rw [if_neg (fun y=>h2 (by rw [hg] at y;simpa using y.2)),hg] at hs
   exact ⟨g,tU r _ _ _ _ hs h2,h2,.inr hg⟩
 | x :: r,sp,i,j+1,q,h,hl=>by
  rw [eI]
  obtain ⟨f,h1,h2,h3⟩:=E5 r (gY sp i x) (i+1) j q (by simpa using h) (by rw [r7];exact hl)
  refine ⟨f,h1,h2,?_⟩
  rcases h3 with h3 | h3
  ·left;omega
  ·rcases E4 _ _ _ _ _ h3 with h | ⟨_,h⟩
   ·exact .inr h
   ·left;omega
theorem yZ (k:aA) (n:Nat):frm (aF k) n=frm (eI (cB k.values.es.length k.inputs.toNat) 0 k.list.es) n:=by
 rw [aF,show lO=fun sp n l=>cO sp n l from rfl]
 exact oH _ _ _ _
theorem NJ {V I n:Nat} (h:n < I):frm (cB V I) n=some (-1):=by
 simp [frm,cB,List.getElem?_append,List.getElem?_replicate,h]
theorem E8 {k:aA} {n:Nat} (h:n < k.inputs.toNat):frm (aF k) n=some (-1):=by
 rw [yZ]
 exact tU _ _ _ _ _ (NJ h) (by decide)
theorem HB {k:aA} (hi:k.inputs.toNat<=k.values.es.length) {j:Nat} {q:aD} (hj:k.list.es[j]?=some q) (hv:q.value.toNat < k.values.es.length) :
  ∃ f,frm (aF k) q.value.toNat=some f/\f ≠ -2/\f<=(j:Int):=by
 obtain ⟨f,h1,h2,h3⟩:=E5 k.list.es (cB k.values.es.length k.inputs.toNat) 0 j q hj (by rw [jH hi];exact hv)
 refine ⟨f,by rw [yZ];exact h1,h2,?_⟩
 rcases h3 with h3 | h3
 ·simpa using h3
 ·simp only [frm,cB,List.getElem?_append,List.getElem?_replicate,List.length_replicate] at h3
  split at h3
  ·simp at h3;omega
  ·split at h3
   ·simp at h3;omega
   ·simp at h3
theorem fit_ok {l:List Sp} {s:Int} (h:∀ p∈l,iQ p=false) (h0:0<=s) (h1:s<=1000000000):AG s l (fitS l s)/\uJ s l (fitS l s):=by
 have hb:¬(s < 0\/1000000000 < s\/l.any iQ=true):=by
  rintro (h2 | h2 | h2)
  ·omega
  ·omega
  ·obtain ⟨p,hp,h3⟩:=List.any_eq_true.1 h2
   rw [h p hp] at h3;cases h3
 rw [fitS,if_neg hb]
 by_cases hs:s=0
 ·subst hs
  rw [fitScan_zero]
  refine ⟨min_zero _ _,fun p _=>?_⟩
  simp [gH]
 ·exact yB (by omega) (nX l) (oV l)
theorem fit_le {l:List Sp} {s pk:Int} (h:AG s l (fitS l s)) (h0:0<=pk) (hp:∀ p∈l,p.1+p.2<=pk):fitS l s<=pk:=by
 by_cases ha:fitS l s<=0
 ·omega
 ·obtain ⟨p,h1,h2⟩:=h.2 (fitS l s - 1) (by omega) (by omega)
  have:=(fQ.1 h2).2.2.2
  have:=hp p h1
  simp only at *
  omega
def S2:List Sp->Int
 | []=>0
 | p :: r=>p.2+S2 r
theorem PB:∀ (P:List Sp) (v:Nat) (x:Sp),v < P.length->(plc P v).2=0->S2 (P.set v x)=S2 P+x.2
 | [],_,_,h,_=>by simp at h
 | p :: r,0,x,_,h=>by
  simp only [plc,List.getD_cons_zero] at h
  simp only [List.set_cons_zero,S2]
  omega
 | p :: r,v+1,x,h,h0=>by
  simp only [plc,List.getD_cons_succ] at h0
  simp only [List.set_cons_succ,S2,PB r v x (by simpa using h) h0]
  omega
theorem RO:∀ (P:List Sp) (c:Int),(∀ p∈P,p.2<=c)->S2 P<=c*P.length
 | [],c,_=>by simp [S2]
 | p :: r,c,h=>by
  have h1:=h p (by simp)
  have h2:=RO r c (fun q hq=>h q (by simp [hq]))
  simp only [S2,List.length_cons]
  have:c*((r.length+1:Nat):Int)=c*(r.length:Int)+c:=by rw [Int.natCast_add];simp [Int.mul_add]
  omega
def SS (sz:List Int):Nat->Int
 | 0=>0
 | n+1=>SS sz n+aW sz n
theorem DG {sz:List Int} (hz:∀ v,0<=aW sz v/\aW sz v<=4096):∀ {m n:Nat},m<=n->SS sz m<=SS sz n
 | m,0,h=>by obtain rfl:m=0:=by omega
             exact Int.le_refl _
 | m,n+1,h=>by
  by_cases he:m=n+1
  ·subst he;exact Int.le_refl _
  ·have:=DG (sz:=sz) hz (show m<=n by omega)
   have:=(hz n).1
   rw [SS];omega
theorem F6 {sz:List Int} (b:Int) (h0:0<=b):∀ n,b < SS sz n->∃ u,u < n/\SS sz u<=b/\b < SS sz u+aW sz u
 | 0,h=>by rw [SS] at h;omega
 | n+1,h=>by
  by_cases hb:b < SS sz n
  ·obtain ⟨u,h1,h2⟩:=F6 b h0 n hb
   exact ⟨u,by omega,h2⟩
  ·exact ⟨n,by omega,by omega,by rw [SS] at h;exact h⟩
def Exc (k:aA) (v:Nat) (a b:Sp):Prop:=∃ j:Nat,b.1=j/\a.2=j/\eC k j=(v:Int)
structure Inv (k:aA) (sz:List Int) (D:Nat->Prop) (s:PS):Prop where
 len:s.1.length=k.values.es.length
 pl:∀ v,D v->0<=(plc s.1 v).1/\(plc s.1 v).2=aW sz v
 no:∀ v,¬ D v->plc s.1 v=(-1,0)
 dj:∀ (v w:Nat) (a b:Sp),D v->D w->v ≠ w->(aF k)[v]?=some a->(aF k)[w]?=some b->a.1<=b.1->b.1<=a.2->gH (plc s.1 v) (plc s.1 w)=true->Exc k v a b/\(plc s.1 v).1=(plc s.1 w).1
 pe:∀ v,D v->(plc s.1 v).1+(plc s.1 v).2<=s.2
 nn:0<=s.2
 up:s.2<=S2 s.1
 inp:∀ v,v < k.inputs.toNat->D v->0 < aW sz v->(plc s.1 v).1=SS sz v
theorem Inv.iff {k:aA} {sz:List Int} {D E:Nat->Prop} {s:PS} (h:Inv k sz D s) (e:∀ v,D v↔E v):Inv k sz E s:=by
 have:D=E:=funext fun v=>propext (e v)
 rw [<- this];exact h
theorem Inv.dec {k:aA} {sz:List Int} {D:Nat->Prop} {s:PS} (h:Inv k sz D s) {v:Nat} (hv:0<=(plc s.1 v).1):D v:=by
 by_cases hd:D v
 ·exact hd
 ·rw [h.no v hd] at hv;simp at hv
theorem Inv.sm {k:aA} {sz:List Int} (hz:∀ v,0<=aW sz v/\aW sz v<=4096) (hn:k.values.es.length<=20) {D:Nat->Prop} {s:PS} (h:Inv k sz D s):s.2<=81920:=by
 have h1:=RO s.1 4096 (fun p hp=>by
  obtain ⟨v,hv⟩:=List.mem_iff_getElem?.1 hp
  have e:plc s.1 v=p:=by rw [plc,List.getD_eq_getElem?_getD,hv];rfl
  by_cases hd:D v
  ·rw [<- e,(h.pl v hd).2];exact (hz v).2
  ·rw [<- e,h.no v hd];decide)
 have h2:=h.up
 have h3:=h.len
 omega
theorem Inv.bad {k:aA} {sz:List Int} (hz:∀ v,0<=aW sz v/\aW sz v<=4096) (hn:k.values.es.length<=20) {D:Nat->Prop} {s:PS} (h:Inv k sz D s) {v:Nat} (hv:D v):iQ (plc s.1 v)=false:=by
 have h1:=h.sm hz hn
 have h2:=h.pl v hv
 have h3:=h.pe v hv
 have h4:=hz v
 rw [<- h2.2] at h4
 simp only [iQ,Bool.or_eq_false_iff,decide_eq_false_iff_not]
 omega
theorem Inv.put {k:aA} {sz:List Int} (hz:∀ v,0<=aW sz v/\aW sz v<=4096) (hn:k.values.es.length<=20) {D:Nat->Prop} {s:PS} (h:Inv k sz D s) {v:Nat} {o:Int} (hd:¬ D v) (hv:v < k.values.es.length)
  (h0:0<=o) (h1:o<=s.2) (hi:v < k.inputs.toNat->0 < aW sz v->o=SS sz v)
  (H:∀ (u:Nat) (a b:Sp),D u->u ≠ v->(aF k)[u]?=some a->(aF k)[v]?=some b->gH (plc s.1 u) (o,aW sz v)=true->(a.1<=b.1->b.1<=a.2->Exc k u a b/\(plc s.1 u).1=o)/\¬ (b.1<=a.1/\a.1<=b.2)) :
  Inv k sz (fun w=>D w\/w=v) (lF sz s v o):=by
 have hsm:=h.sm hz hn
 have hzv:=hz v
 have hvl:v < s.1.length:=by rw [h.len];exact hv
 have e0:en (o,aW sz v)=o+aW sz v:=OB (by omega) (by omega) hzv.1 (by omega)
 have eq:plc (lF sz s v o).1 v=(o,aW sz v):=o7 hvl
 have ne:∀ w,D w->plc (lF sz s v o).1 w=plc s.1 w:=fun w hw=>mH (fun e=>hd (e ▸ hw))
 have hp2:(lF sz s v o).2=mxI s.2 (o+aW sz v):=by rw [<- e0];rfl
 have hmx:=VQ s.2 (o+aW sz v)
 have hnn:=h.nn
 have hup:=h.up
 refine ⟨by rw [yJ];exact h.len,?_,?_,?_,?_,by omega,?_,?_⟩
 ·rintro w (hw | rfl)
  ·rw [ne w hw];exact h.pl w hw
  ·rw [eq];exact ⟨h0,rfl⟩
 ·intro w hw
  rw [mH (fun e=>hw (.inr e.symm))]
  exact h.no w (fun x=>hw (.inl x))
 ·rintro x w a b (hx | rfl) (hw | rfl) hne ha hb h2 h3 hm
  ·rw [ne x hx,ne w hw] at hm ⊢
   exact h.dj x w a b hx hw hne ha hb h2 h3 hm
  ·rw [ne x hx,eq] at hm ⊢
   exact (H x a b hx hne ha hb hm).1 h2 h3
  ·rw [ne w hw,eq,pC] at hm
   exact absurd ⟨h2,h3⟩ (H w b a hw (fun e=>hne e.symm) hb ha hm).2
  ·exact absurd rfl hne
 ·rintro w (hw | rfl)
  ·rw [ne w hw,hp2]
   have:=h.pe w hw
   omega
  ·rw [eq,hp2]
   exact hmx.2
 ·have hs2:S2 (lF sz s v o).1=S2 s.1+aW sz v:=PB s.1 v (o,aW sz v) hvl (by rw [h.no v hd])
  rw [hs2,hp2]
  rcases VM s.2 (o+aW sz v) with e | e<;>rw [e]<;>omega
 ·rintro w hwi (hw | rfl) hws
  ·rw [ne w hw];exact h.inp w hwi hw hws
  ·rw [eq];exact hi hwi hws
theorem IY {k:aA} {sz:List Int} (hz:∀ v,0<=aW sz v/\aW sz v<=4096) (hn:k.values.es.length<=20):∀ n,n<=k.inputs.toNat->n<=k.values.es.length->Inv k sz (fun v=>v < n) (kH k sz n)
 | 0,_,_=>by
  have hp:∀ v,plc (kH k sz 0).1 v=(-1,0):=by
   intro v
   simp only [kH,EY,List.range_zero,List.foldl_nil,plc,ini,List.getD_eq_getElem?_getD,List.getElem?_replicate]
   split<;>rfl
  have hs:∀ n,S2 (List.replicate n ((-1,0):Sp))=0:=by
   intro n
   induction n with
   | zero=>rfl
   | succ n ih=>rw [List.replicate_succ,S2,ih];rfl
  refine ⟨oE k sz 0,fun v h=>absurd h (Nat.not_lt_zero v),fun v _=>hp v,fun v _ _ _ h=>absurd h (Nat.not_lt_zero v),fun v h=>absurd h (Nat.not_lt_zero v),Int.le_refl 0,?_,fun v _ h=>absurd h (Nat.not_lt_zero v)⟩
  have:S2 (kH k sz 0).1=0:=hs _
  rw [this]
  exact Int.le_refl 0
 | n+1,h1,h2=>by
  have ih:=IY (k:=k) hz hn n (by omega) (by omega)
  have hmem:∀ p∈(kH k sz n).1.take n,∃ u,u < n/\plc (kH k sz n).1 u=p:=by
   intro p hp
   obtain ⟨u,hu⟩:=List.mem_iff_getElem?.1 hp
   rw [List.getElem?_take] at hu
   split at hu
   ·rename_i hlt
    exact ⟨u,hlt,by rw [plc,List.getD_eq_getElem?_getD,hu];rfl⟩
   ·simp at hu
  have hin:∀ u,u < n->plc (kH k sz n).1 u∈(kH k sz n).1.take n:=by
   intro u hu
   have hl:u < (kH k sz n).1.length:=by rw [oE];omega
   refine List.mem_iff_getElem?.2 ⟨u,?_⟩
   rw [List.getElem?_take,if_pos hu,plc,List.getD_eq_getElem?_getD,List.getElem?_eq_getElem hl]
   rfl
  have hzn:=hz n
  obtain ⟨hmin,hfree⟩:=fit_ok (l:=(kH k sz n).1.take n) (s:=aW sz n) (fun p hp=>by
   obtain ⟨u,hu,rfl⟩:=hmem p hp
   exact ih.bad hz hn hu) hzn.1 (by omega)
  have hle:=fit_le hmin ih.nn (fun p hp=>by
   obtain ⟨u,hu,rfl⟩:=hmem p hp
   exact ih.pe u hu)
  rw [rM]
  refine Inv.iff (Inv.put hz hn ih (v:=n) (o:=fitS ((kH k sz n).1.take n) (aW sz n)) (by omega) (by omega) hmin.1 hle ?_ ?_) (fun v=>⟨fun h=>by rcases h with h | rfl<;>omega,fun h=>by omega⟩)
  ·intro _ hs
   have hpos:∀ u,u < n->0 < aW sz u->plc (kH k sz n).1 u=(SS sz u,aW sz u):=fun u hu hus=>Prod.ext (ih.inp u (by omega) hu hus) (ih.pl u hu).2
   refine fit_uniq hmin hfree ⟨DG (sz:=sz) hz (Nat.zero_le n),fun b hb0 hb=>?_⟩ (fun p hp=>?_)
   ·obtain ⟨u,hu,h3,h4⟩:=F6 b hb0 n hb
    refine ⟨_,hin u hu,?_⟩
    rw [hpos u hu (by omega)]
    exact fQ.2 ⟨by simp only;omega,hs,by simp only;omega,by simp only;omega⟩
   ·obtain ⟨u,hu,rfl⟩:=hmem p hp
    cases hm:gH (plc (kH k sz n).1 u) (SS sz n,aW sz n)
    ·rfl
    ·obtain ⟨m1,m2,m3,m4⟩:=fQ.1 hm
     have hus:0 < aW sz u:=by rw [<- (ih.pl u hu).2];exact m1
     rw [hpos u hu hus] at m4
     have:=DG (sz:=sz) hz (show u+1<=n by omega)
     rw [SS] at this
     simp only at m4
     omega
  ·intro u a b hu _ _ _ hm
   rw [hfree _ (hin u hu)] at hm
   cases hm
end Go.Tev
end
section
namespace Go.Tev
def Bef (k:aA) (i:Nat) (v:Nat):Prop:=∃ a,(aF k)[v]?=some a/\a.1 ≠ -2/\a.1 < (i:Int)
theorem I1 {sp:List Sp} {n:Nat} {f:Int} (h:frm sp n=some f):∃ a,sp[n]?=some a/\a.1=f:=by
 cases hs:sp[n]? with
 | none=>rw [frm,hs] at h;simp at h
 | some a=>rw [frm,hs] at h;exact ⟨a,rfl,by simpa using h⟩
theorem xC {sp:List Sp} {n:Nat} {a:Sp} (h:sp[n]?=some a):frm sp n=some a.1:=by rw [frm,h];rfl
theorem FZ {k:aA} (v:Nat):v < k.inputs.toNat↔Bef k 0 v:=by
 constructor
 ·intro h
  obtain ⟨a,h1,h2⟩:=I1 (E8 h)
  exact ⟨a,h1,by omega,by omega⟩
 ·rintro ⟨a,h1,h2,h3⟩
  rcases oG (xC h1) with h | ⟨_,h⟩ | ⟨j,q,_,_,h⟩
  ·exact absurd h h2
  ·exact h
  ·omega
theorem CT {k:aA} (ok:fP k):0<=k.inputs:=by
 have:=ok.out
 simp only [aX,Bool.and_eq_true,decide_eq_true_eq] at this
 obtain ⟨_,⟨⟨⟨⟨⟨⟨_,_⟩,hi0⟩,_⟩,hiV⟩,_⟩,_⟩,_⟩:=this
 exact hi0
theorem uD {k:aA} (ok:fP k) (ds:List Val) {d r:List aD} {q:aD} (hes:k.list.es=d++q :: r) (hc:0<=eC k d.length) :
  ∃ (c:Nat) (s u:Sp),eC k d.length=c/\c ≠ q.value.toNat/\(aF k)[c]?=some s/\(aF k)[q.value.toNat]?=some u/\u.1=(d.length:Int)/\s.1 ≠ -2/\s.2=(d.length:Int)/\aW (d9 k ds) c=aW (d9 k ds) q.value.toNat:=by
 obtain ⟨c0,e0,_,_,hsz⟩:=wN ok ds hes hc
 rcases pJ (fun v=>qR k (d.length:Int) (v:Int)) k.values.es.length 0 with h | ⟨c,h1,h2,_,h3⟩
 ·rw [eC,h] at hc;exact absurd hc (by decide)
 have e1:eC k d.length=(c:Int):=h1
 obtain rfl:c0=c:=by omega
 have hget:k.list.es[d.length]?=some q:=by rw [hes];simp
 have hq0:=(dJ (ok.ker d q r hes)).1
 simp only [qR,Int.toNat_natCast,hget] at h2
 cases ha:k.values.es[c0]? with
 | none=>rw [ha] at h2;cases h2
 | some a=>
 rw [ha] at h2
 simp only at h2
 cases hb:k.values.es[q.value.toNat]? with
 | none=>rw [hb] at h2;cases h2
 | some b=>
 rw [hb] at h2
 simp only [MY,Bool.and_eq_true,decide_eq_true_eq,Bool.not_eq_true',decide_eq_false_iff_not] at h2
 obtain ⟨_,⟨m1,m2,m3,m4⟩,m5,_⟩:=h2
 obtain ⟨s,s1,s2⟩:=oS m3
 obtain ⟨u,u1,u2⟩:=oS (k:=k) (v:=q.value) (by omega)
 rw [s2] at m3 m4
 rw [u2] at m2
 rw [Int.toNat_natCast] at s1
 refine ⟨c0,s,u,e1,?_,s1,u1,m2,m3,m4,hsz⟩
 intro he
 apply m1
 have:=CT ok
 omega
theorem QG {k:aA} (ok:fP k) (ds:List Val) (hz:∀ v,0<=aW (d9 k ds) v/\aW (d9 k ds) v<=4096) (hn:k.values.es.length<=20) (hi:k.inputs.toNat<=k.values.es.length)
  {d r:List aD} {q:aD} (hes:k.list.es=d++q :: r) {s:PS} (h:Inv k (d9 k ds) (Bef k d.length) s):Inv k (d9 k ds) (Bef k (d.length+1)) (tP k (d9 k ds) s d.length q):=by
 have hget:k.list.es[d.length]?=some q:=by rw [hes];simp
 obtain ⟨hq0,hq1,_⟩:=dJ (ok.ker d q r hes)
 have hin0:=CT ok
 have hqv:q.value.toNat < k.values.es.length:=by omega
 obtain ⟨f,hf,hf2,hfi⟩:=HB hi hget hqv
 obtain ⟨b,hb,hbf⟩:=I1 hf
 have uniq:∀ (w:Nat) (a:Sp),(aF k)[w]?=some a->a.1=(d.length:Int)->w=q.value.toNat:=by
  intro w a ha he
  rcases oG (xC ha) with h | ⟨h,_⟩ | ⟨j,x,h1,h2,h3⟩
  ·omega
  ·omega
  ·obtain rfl:j=d.length:=by omega
   rw [hget] at h1
   cases h1
   exact h2.symm
 by_cases hlt:f < (d.length:Int)
 ·have hD:Bef k d.length q.value.toNat:=⟨b,hb,by omega,by omega⟩
  have hst:tP k (d9 k ds) s d.length q=s:=by rw [tP,if_pos (h.pl _ hD).1]
  rw [hst]
  refine h.iff fun v=>⟨fun ⟨a,h1,h2,h3⟩=>⟨a,h1,h2,by omega⟩,fun ⟨a,h1,h2,h3⟩=>⟨a,h1,h2,?_⟩⟩
  by_cases he:a.1=(d.length:Int)
  ·have:=uniq v a h1 he
   subst this
   rw [hb] at h1
   cases h1
   omega
  ·omega
 have hbd:b.1=(d.length:Int):=by omega
 have hnd:¬ Bef k d.length q.value.toNat:=by
  rintro ⟨a,h1,_,h3⟩
  rw [hb] at h1
  cases h1
  omega
 have hiff:∀ v,(Bef k d.length v\/v=q.value.toNat)↔Bef k (d.length+1) v:=by
  intro v
  constructor
  ·rintro (⟨a,h1,h2,h3⟩ | rfl)
   ·exact ⟨a,h1,h2,by omega⟩
   ·exact ⟨b,hb,by omega,by omega⟩
  ·rintro ⟨a,h1,h2,h3⟩
   by_cases he:a.1=(d.length:Int)
   ·exact .inr (uniq v a h1 he)
   ·exact .inl ⟨a,h1,h2,by omega⟩
 have hnp:¬ 0<=(plc s.1 q.value.toNat).1:=by rw [h.no _ hnd];decide
 have hvi:q.value.toNat < k.inputs.toNat->False:=fun hv=>by
  have:=E8 hv
  rw [hf] at this
  simp at this
  omega
 rw [tP,if_neg hnp]
 split
 ·rename_i hc
  obtain ⟨c,sc,u,e1,hcv,hsc,hu,hu1,hs1,hs2,hsz⟩:=uD ok ds hes hc
  have hcl:sc.1 < (d.length:Int):=by
   have:=sD k sc (List.mem_of_getElem? hsc)
   by_cases he:sc.1=(d.length:Int)
   ·exact absurd (uniq c sc hsc he) hcv
   ·omega
  have hDc:Bef k d.length c:=⟨sc,hsc,hs1,hcl⟩
  have hpl:=h.pl c hDc
  have hpe:=h.pe c hDc
  have hzc:=hz c
  have hpc:plc s.1 c=((plc s.1 c).1,aW (d9 k ds) q.value.toNat):=Prod.ext rfl (by rw [hpl.2,hsz])
  rw [e1,Int.toNat_natCast]
  refine Inv.iff (Inv.put hz hn h hnd hqv hpl.1 (by omega) (fun hv=>(hvi hv).elim) ?_) hiff
  intro w a b' hw hwv ha hb' hm
  rw [hb] at hb'
  cases hb'
  rw [<- hpc] at hm
  obtain ⟨a',ha',ha2,ha3⟩:=hw
  rw [ha] at ha'
  cases ha'
  refine ⟨fun h1 h2=>?_,fun ⟨h1,_⟩=>by omega⟩
  by_cases hwc:w=c
  ·subst hwc
   rw [hsc] at ha
   cases ha
   exact ⟨⟨d.length,hbd,hs2,e1⟩,rfl⟩
  ·exfalso
   have hDw:Bef k d.length w:=⟨a,ha,ha2,ha3⟩
   by_cases hac:a.1<=sc.1
   ·obtain ⟨⟨j,x1,x2,_⟩,_⟩:=h.dj w c a sc hDw hDc hwc ha hsc hac (by omega) hm
    omega
   ·rw [pC] at hm
    obtain ⟨⟨j,x1,x2,_⟩,_⟩:=h.dj c w sc a hDc hDw (fun e=>hwc e.symm) hsc ha (by omega) (by omega) hm
    omega
 ·have hmem:∀ p∈lI s.1 (cW d.length (aF k)),∃ w,Bef k d.length w/\plc s.1 w=p:=by
   intro p hp
   simp only [lI,List.mem_filter,List.mem_map,decide_eq_true_eq] at hp
   obtain ⟨⟨w,_,rfl⟩,h0⟩:=hp
   exact ⟨w.toNat,h.dec h0,rfl⟩
  have hzv:=hz q.value.toNat
  obtain ⟨hmin,hfree⟩:=fit_ok (l:=lI s.1 (cW d.length (aF k))) (s:=aW (d9 k ds) q.value.toNat) (fun p hp=>by
   obtain ⟨w,hw,rfl⟩:=hmem p hp
   exact h.bad hz hn hw) hzv.1 (by omega)
  have hle:=fit_le hmin h.nn (fun p hp=>by
   obtain ⟨w,hw,rfl⟩:=hmem p hp
   exact h.pe w hw)
  refine Inv.iff (Inv.put hz hn h hnd hqv hmin.1 hle (fun hv=>(hvi hv).elim) ?_) hiff
  intro w a b' hw hwv ha hb' hm
  rw [hb] at hb'
  cases hb'
  have hDw:=hw
  obtain ⟨a',ha',ha2,ha3⟩:=hw
  rw [ha] at ha'
  cases ha'
  refine ⟨fun h1 h2=>?_,fun ⟨h1,_⟩=>by omega⟩
  exfalso
  have hin:plc s.1 w∈lI s.1 (cW d.length (aF k)):=by
   simp only [lI,List.mem_filter,List.mem_map,decide_eq_true_eq]
   refine ⟨⟨(w:Int),?_,by rw [Int.toNat_natCast]⟩,(h.pl w hDw).1⟩
   refine iL.2 ⟨a,by omega,by rw [Int.toNat_natCast];exact ha,?_⟩
   simp only [fN,Bool.and_eq_true,Bool.not_eq_true',decide_eq_false_iff_not,decide_eq_true_eq]
   omega
  rw [hfree _ hin] at hm
  cases hm
theorem EX {k:aA} (ok:fP k) (ds:List Val) (hz:∀ v,0<=aW (d9 k ds) v/\aW (d9 k ds) v<=4096) (hn:k.values.es.length<=20) (hi:k.inputs.toNat<=k.values.es.length) :
  ∀ n,n<=k.list.es.length->Inv k (d9 k ds) (Bef k n) (gO k (d9 k ds) (k.list.es.take n))
 | 0,_=>by
  rw [List.take_zero]
  exact Inv.iff (IY hz hn k.inputs.toNat (Nat.le_refl _) hi) FZ
 | n+1,h=>by
  have ih:=EX ok ds hz hn hi n (by omega)
  have hlt:n < k.list.es.length:=by omega
  have e:k.list.es.take (n+1)=k.list.es.take n++[k.list.es[n]]:=by rw [List.take_succ_eq_append_getElem hlt]
  have hes:k.list.es=k.list.es.take n++k.list.es[n] :: k.list.es.drop (n+1):=by rw [<- List.drop_eq_getElem_cons hlt,List.take_append_drop]
  have hlen:(k.list.es.take n).length=n:=by simp;omega
  rw [e,sO]
  have:=QG ok ds hz hn hi hes (s:=gO k (d9 k ds) (k.list.es.take n)) (by rw [hlen];exact ih)
  rw [hlen] at this ⊢
  exact this
theorem QH {k:aA} (ok:fP k) (ds:List Val) (hz:∀ v,0<=aW (d9 k ds) v/\aW (d9 k ds) v<=4096) (hn:k.values.es.length<=20) (hi:k.inputs.toNat<=k.values.es.length) :
  Inv k (d9 k ds) (Bef k k.list.es.length) (gO k (d9 k ds) k.list.es):=by
 have:=EX ok ds hz hn hi k.list.es.length (Nat.le_refl _)
 rwa [List.take_length] at this
theorem zT {k:aA} {at_:Int} {v:Nat} {a:Sp} (h:(aF k)[v]?=some a) (hl:a.1 ≠ -2):Bef k k.list.es.length v:=by
 refine ⟨a,h,hl,?_⟩
 rcases oG (xC h) with h | ⟨h,_⟩ | ⟨j,x,h1,_,h3⟩
 ·exact absurd h hl
 ·omega
 ·have:=(List.getElem?_eq_some_iff.1 h1).1
  omega
end Go.Tev
end
