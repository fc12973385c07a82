import Derived.Test.YtplehelpidcobaaGreatDoorPBE
import Derived.Test.YtplehelpidcobaaGreatDoorPBD
set_option linter.all false
section
namespace Go.Tev
abbrev PS:=List Sp × Int
def mxI (a b:Int):Int:=if a < b then b else a
def cF (sz:List Int) (v:Nat):Int:=sz.getD v 0
def plc (P:List Sp) (v:Nat):Sp:=P.getD v (-1,0)
def en (p:Sp):Int:=wr .i64 (p.1+p.2)
def lE (sz:List Int) (s:PS) (v:Nat) (o:Int):PS:=(s.1.set v (o,cF sz v),mxI s.2 (en (o,cF sz v)))
def GH (sz:List Int) (s:PS) (l:List Nat):PS:=l.foldl (fun s v=>lE sz s v (fitS (s.1.take v) (cF sz v))) s
def j7 (P:List Sp) (l:List Int):List Sp:=(l.map fun v=>plc P v.toNat).filter fun p=>decide (0<=p.1)
def yL (k:aA) (sz:List Int) (s:PS) (i:Nat) (q:aD):PS:=
 if 0<=(plc s.1 q.value.toNat).1 then s
 else if 0<=gC k i then lE sz s q.value.toNat (plc s.1 (gC k i).toNat).1
 else lE sz s q.value.toNat (fitS (j7 s.1 (fN i (aJ k))) (cF sz q.value.toNat))
def tK (k:aA) (sz:List Int):PS->Nat->List aD->PS
 | s,_,[]=>s
 | s,i,q :: r=>tK k sz (yL k sz s i q) (i+1) r
theorem yK (k:aA) (sz:List Int) (q:aD):∀ (d:List aD) (s:PS) (i:Nat),tK k sz s i (d++[q])=yL k sz (tK k sz s i d) (i+d.length) q
 | [],s,i=>by simp [tK]
 | x :: d,s,i=>by
  rw [List.cons_append,tK,yK k sz q d,tK,List.length_cons]
  congr 1
  omega
theorem JQ (sz:List Int) (s:PS) (l:List Nat) (v:Nat):GH sz s (l++[v])=lE sz (GH sz s l) v (fitS ((GH sz s l).1.take v) (cF sz v)):=by simp [GH]
def ini (n:Nat):PS:=(List.replicate n (-1,0),0)
def pB (k:aA) (sz:List Int) (n:Nat):PS:=GH sz (ini k.values.es.length) (List.range n)
theorem rF (k:aA) (sz:List Int) (n:Nat):pB k sz (n+1)=lE sz (pB k sz n) n (fitS ((pB k sz n).1.take n) (cF sz n)):=by
 rw [pB,List.range_succ,JQ];rfl
def gA (k:aA) (sz:List Int) (d:List aD):PS:=tK k sz (pB k sz k.inputs.toNat) 0 d
theorem sH (k:aA) (sz:List Int) (d:List aD) (q:aD):gA k sz (d++[q])=yL k sz (gA k sz d) d.length q:=by rw [gA,yK,Nat.zero_add];rfl
theorem D0 (sz:List Int) (s:PS) (v:Nat) (o:Int):(lE sz s v o).1.length=s.1.length:=by simp [lE]
theorem L6 (k:aA) (sz:List Int) (s:PS) (i:Nat) (q:aD):(yL k sz s i q).1.length=s.1.length:=by
 rw [yL]
 split
 ·rfl
 ·split<;>exact D0 _ _ _ _
theorem A3 (k:aA) (sz:List Int):∀ (d:List aD) (s:PS) (i:Nat),(tK k sz s i d).1.length=s.1.length
 | [],_,_=>rfl
 | q :: d,s,i=>by rw [tK,A3 k sz d,L6]
theorem qN (k:aA) (sz:List Int):∀ n,(pB k sz n).1.length=k.values.es.length
 | 0=>by simp [pB,GH,ini]
 | n+1=>by rw [rF,D0,qN k sz n]
theorem l6 (k:aA) (sz:List Int) (d:List aD):(gA k sz d).1.length=k.values.es.length:=by rw [gA,A3,qN]
theorem fitS_bnd (l:List Sp) (s:Int) : -1<=fitS l s/\fitS l s<=2000000000:=by
 rw [fitS]
 split
 ·omega
 ·rename_i h
  have hb:∀ p∈DI l,gT p=false:=fun p hp=>by
   cases hx:gT p
   ·rfl
   ·exact absurd (.inr (.inr (List.any_eq_true.2 ⟨p,(uJ l p).1 hp,hx⟩))) h
  have:=fitScan_bnd (s:=s) hb (Int.le_refl 0) (by omega)
  omega
theorem nE (P:List Sp) (v w:Nat) (x:Sp):plc (P.set v x) w=if v=w/\v < P.length then x else plc P w:=by
 simp only [plc,List.getD_eq_getElem?_getD,List.getElem?_set]
 by_cases h:v=w
 ·subst h
  by_cases h2:v < P.length
  ·simp [h2]
  ·simp [h2]
 ·simp [h]
structure uE (sz:List Int) (s:PS):Prop where
 rng:∀ v,-1<=(plc s.1 v).1/\(plc s.1 v).1<=2000000000
 siz:∀ v,plc s.1 v=(-1,0)\/(plc s.1 v).2=cF sz v
 nn:0<=s.2
 le:∀ v,en (plc s.1 v)<=s.2
 at_:s.2=0\/∃ v,v < s.1.length/\en (plc s.1 v)=s.2
theorem MN (sz:List Int) (n:Nat):uE sz (ini n):=by
 have h:∀ v,plc (ini n).1 v=(-1,0):=by
  intro v
  simp only [plc,ini,List.getD_eq_getElem?_getD,List.getElem?_replicate]
  split<;>rfl
 exact ⟨fun v=>by rw [h];simp,fun v => .inl (h v),Int.le_refl 0,fun v=>by rw [h];exact (by decide:en (-1,0)<=0),.inl rfl⟩
theorem QC {o z:Int} (h1 : -1<=o) (h2:o<=2000000000) (h3:0<=z) (h4:z<=1000000000):en (o,z)=o+z:=aW (by simp only;omega) (by simp only;omega)
theorem EH {sz:List Int} (hz:∀ v,0<=cF sz v/\cF sz v<=1000000000) {s:PS} (g:uE sz s) {v:Nat} {o:Int} (h1 : -1<=o) (h2:o<=2000000000) (hn:(plc s.1 v).1 < 0) (hv:v < s.1.length):uE sz (lE sz s v o):=by
 have e1:=QC h1 h2 (hz v).1 (hz v).2
 have hm:mxI s.2 (en (o,cF sz v))=if s.2 < en (o,cF sz v) then en (o,cF sz v) else s.2:=rfl
 have hold:en (plc s.1 v)<=0\/en (plc s.1 v)<=en (o,cF sz v):=by
  rcases g.siz v with h | h
  ·left;rw [h];decide
  ·right
   have h3:=(g.rng v).1
   have h4:(plc s.1 v)=(-1,cF sz v):=by
    rw [<- h]
    exact Prod.ext (by simp only;omega) rfl
   rw [h4,QC (by omega) (by omega) (hz v).1 (hz v).2,e1]
   omega
 refine ⟨fun w=>?_,fun w=>?_,?_,fun w=>?_,?_⟩
 ·simp only [lE]
  rw [nE]
  split
  ·exact ⟨h1,h2⟩
  ·exact g.rng w
 ·simp only [lE]
  rw [nE]
  split
  ·rename_i h;rw [<- h.1];exact .inr rfl
  ·exact g.siz w
 ·have:=g.nn
  simp only [lE]
  rw [hm]
  split<;>omega
 ·have:=g.le w
  simp only [lE]
  rw [hm,nE]
  split<;>split<;>omega
 ·simp only [lE]
  rw [hm,List.length_set]
  split
  ·rename_i hlt
   exact .inr ⟨v,hv,by rw [nE,if_pos ⟨rfl,hv⟩]⟩
  ·rename_i hlt
   rcases g.at_ with h | ⟨w,hw,h⟩
   ·exact .inl h
   ·by_cases hvw:v=w
    ·subst hvw
     rcases hold with ho | ho
     ·have:=g.nn
      exact .inl (by omega)
     ·exact .inr ⟨v,hw,by rw [nE,if_pos ⟨rfl,hw⟩];omega⟩
    ·exact .inr ⟨w,hw,by rw [nE,if_neg (fun h=>hvw h.1)];exact h⟩
theorem sF {sz:List Int} {s:PS} {v w:Nat} {o:Int} (h:v ≠ w):plc (lE sz s v o).1 w=plc s.1 w:=by
 simp only [lE];rw [nE,if_neg (fun x=>h x.1)]
theorem sG {sz:List Int} {s:PS} {v:Nat} {o:Int} (h:v < s.1.length):plc (lE sz s v o).1 v=(o,cF sz v):=by
 simp only [lE];rw [nE,if_pos ⟨rfl,h⟩]
theorem A7 {k:aA} {sz:List Int} (hz:∀ v,0<=cF sz v/\cF sz v<=1000000000):∀ n,n<=k.values.es.length->uE sz (pB k sz n)/\(∀ v,v < n->(plc (pB k sz n).1 v).2=cF sz v)/\∀ v,n<=v->plc (pB k sz n).1 v=(-1,0)
 | 0,_=>by
  refine ⟨MN sz _,fun v hv=>by omega,fun v _=>?_⟩
  simp only [pB,GH,List.range_zero,List.foldl_nil,plc,ini,List.getD_eq_getElem?_getD,List.getElem?_replicate]
  split<;>rfl
 | n+1,hn=>by
  obtain ⟨g,h1,h2⟩:=A7 (k:=k) hz n (by omega)
  have hl:=qN k sz n
  have hb:=fitS_bnd ((pB k sz n).1.take n) (cF sz n)
  rw [rF]
  refine ⟨EH hz g hb.1 hb.2 (by rw [h2 n (Nat.le_refl n)];decide) (by omega),fun v hv=>?_,fun v hv=>?_⟩
  ·by_cases h:n=v
   ·subst h;rw [sG (by omega)]
   ·rw [sF h];exact h1 v (by omega)
  ·rw [sF (by omega)];exact h2 v (by omega)
theorem L5 {k:aA} {sz:List Int} (hz:∀ v,0<=cF sz v/\cF sz v<=1000000000) {s:PS} (g:uE sz s) (i:Nat) {q:aD} (hq:q.value.toNat < s.1.length) :
  uE sz (yL k sz s i q)/\(plc (yL k sz s i q).1 q.value.toNat).2=cF sz q.value.toNat/\∀ v,(plc s.1 v).2=cF sz v->(plc (yL k sz s i q).1 v).2=cF sz v:=by
 have put:∀ o:Int,-1<=o->o<=2000000000->(plc s.1 q.value.toNat).1 < 0->uE sz (lE sz s q.value.toNat o)/\(plc (lE sz s q.value.toNat o).1 q.value.toNat).2=cF sz q.value.toNat/\∀ v,(plc s.1 v).2=cF sz v->(plc (lE sz s q.value.toNat o).1 v).2=cF sz v:=by
  intro o h1 h2 h3
  refine ⟨EH hz g h1 h2 h3 hq,by rw [sG hq],fun v hv=>?_⟩
  by_cases h:q.value.toNat=v
  ·rw [<- h,sG hq]
  ·rw [sF h];exact hv
 rw [yL]
 split
 ·rename_i h0
  refine ⟨g,?_,fun v h=>h⟩
  rcases g.siz q.value.toNat with h | h
  ·rw [h] at h0;exact absurd h0 (by decide)
  ·exact h
 ·rename_i h0
  split
  ·exact put _ (g.rng _).1 (g.rng _).2 (by omega)
  ·have hb:=fitS_bnd (j7 s.1 (fN i (aJ k))) (cF sz q.value.toNat)
   exact put _ hb.1 hb.2 (by omega)
theorem qZ {k:aA} {sz:List Int} (hz:∀ v,0<=cF sz v/\cF sz v<=1000000000) (hi:k.inputs.toNat<=k.values.es.length):∀ (n:Nat),(∀ q∈k.list.es.take n,q.value.toNat < k.values.es.length) ->
  uE sz (gA k sz (k.list.es.take n))/\(∀ v,v < k.inputs.toNat->(plc (gA k sz (k.list.es.take n)).1 v).2=cF sz v)/\∀ q∈k.list.es.take n,(plc (gA k sz (k.list.es.take n)).1 q.value.toNat).2=cF sz q.value.toNat
 | 0,_=>by
  obtain ⟨g,h1,_⟩:=A7 (k:=k) hz _ hi
  simp only [List.take_zero]
  exact ⟨g,h1,by simp⟩
 | n+1,hq=>by
  by_cases hn:n < k.list.es.length
  ·have e:k.list.es.take (n+1)=k.list.es.take n++[k.list.es[n]]:=by rw [List.take_succ_eq_append_getElem hn]
   rw [e] at hq ⊢
   obtain ⟨g,h1,h2⟩:=qZ hz hi n (fun q hx=>hq q (List.mem_append.2 (.inl hx)))
   rw [sH]
   have hl:(k.list.es[n]).value.toNat < (gA k sz (k.list.es.take n)).1.length:=by rw [l6];exact hq _ (List.mem_append.2 (.inr (List.mem_singleton.2 rfl)))
   obtain ⟨g',h3,h4⟩:=L5 (k:=k) hz g (k.list.es.take n).length hl
   refine ⟨g',fun v hv=>h4 v (h1 v hv),fun q hx=>?_⟩
   rcases List.mem_append.1 hx with hx | hx
   ·exact h4 _ (h2 q hx)
   ·simp at hx;subst hx;exact h3
  ·have e:k.list.es.take (n+1)=k.list.es.take n:=by rw [List.take_of_length_le (by omega),List.take_of_length_le (by omega)]
   rw [e] at hq ⊢
   exact qZ hz hi n hq
def pkP (P:List Sp):Int:=P.foldl (fun m p=>mxI m (en p)) 0
theorem OX (P:List Sp) (p:Sp):pkP (P++[p])=mxI (pkP P) (en p):=by simp [pkP]
theorem UB (a b:Int):a<=mxI a b/\b<=mxI a b:=by unfold mxI;split<;>omega
theorem T9 (a b:Int):mxI a b=a\/mxI a b=b:=by unfold mxI;split<;>simp
theorem P7:∀ (P:List Sp) (m:Int),let r:=P.foldl (fun m p=>mxI m (en p)) m;m<=r/\(∀ p∈P,en p<=r)/\(r=m\/∃ p∈P,en p=r)
 | [],m=>⟨Int.le_refl m,by simp,.inl rfl⟩
 | p :: P,m=>by
  obtain ⟨h1,h2,h3⟩:=P7 P (mxI m (en p))
  simp only [List.foldl_cons] at h1 h2 h3 ⊢
  have hm:=UB m (en p)
  refine ⟨by omega,?_,?_⟩
  ·intro q hq
   rcases List.mem_cons.1 hq with rfl | hq
   ·omega
   ·exact h2 q hq
  ·rcases h3 with h3 | ⟨q,hq,h3⟩
   ·rw [h3]
    rcases T9 m (en p) with h | h
    ·exact .inl h
    ·exact .inr ⟨p,by simp,h.symm⟩
   ·exact .inr ⟨q,by simp [hq],h3⟩
theorem PH {sz:List Int} {s:PS} (g:uE sz s):pkP s.1=s.2:=by
 obtain ⟨h1,h2,h3⟩:=P7 s.1 0
 change 0<=pkP s.1 at h1
 change ∀ p∈s.1,en p<=pkP s.1 at h2
 change pkP s.1=0\/∃ p∈s.1,en p=pkP s.1 at h3
 have a:pkP s.1<=s.2:=by
  rcases h3 with h | ⟨p,hp,h⟩
  ·rw [h];exact g.nn
  ·rw [<- h]
   obtain ⟨v,hv⟩:=List.mem_iff_getElem?.1 hp
   have:=g.le v
   rw [plc,List.getD_eq_getElem?_getD,hv] at this
   exact this
 have b:s.2<=pkP s.1:=by
  rcases g.at_ with h | ⟨v,hv,h⟩
  ·rw [h];exact h1
  ·rw [<- h]
   refine h2 _ ?_
   rw [plc,List.getD_eq_getElem?_getD,List.getElem?_eq_getElem hv]
   exact List.getElem_mem hv
 omega
end Go.Tev
end
section
namespace Go.Tev
theorem xX (ds:List Val):∀ (a b:List Lin) (n:Int) (t:Bool),eqL bH a b=true->mG ds n t a=mG ds n t b
 | [],[],_,_,_=>rfl
 | [],_ :: _,_,_,h=>by simp [eqL] at h
 | _ :: _,[],_,_,h=>by simp [eqL] at h
 | x :: a,y :: b,n,t,h=>by
  simp only [eqL,Bool.and_eq_true] at h
  rw [mG,mG,GT ds h.1]
  exact xX ds a b _ _ h.2
theorem FV (ds:List Val) {a b:Typ} (h:fR a b=true):eC ds a=eC ds b:=by
 simp only [fR,eQ,Bool.and_eq_true] at h
 simp only [eC,eL]
 rw [xX ds _ _ _ _ h.2.2]
theorem xW (f:Typ->Int):∀ (sp:List Sp) (ts:List Typ) (n:Nat) (s:Sp) (t:Typ),sp[n]?=some s->ts[n]?=some t->(dK f sp ts)[n]?=some (if s.1 = -2 then 0 else f t)
 | s :: r,t :: q,0,_,_,h1,h2=>by simp at h1 h2;subst h1 h2;simp [dK]
 | s :: r,t :: q,n+1,_,_,h1,h2=>by
  simp only [List.getElem?_cons_succ] at h1 h2
  simp only [dK,List.getElem?_cons_succ]
  exact xW f r q n _ _ h1 h2
 | [],_,_,_,_,h1,_=>by simp at h1
 | _ :: _,[],_,_,_,_,h2=>by simp at h2
def sX (k:aA) (ds:List Val):List Int:=dK (eC ds) (aJ k) k.values.es
theorem xR {k:aA} {v:Int} (h:(pU k v).1 ≠ -2):∃ s,(aJ k)[v.toNat]?=some s/\pU k v=s:=by
 rw [pU] at h ⊢
 cases hs:(aJ k)[v.toNat]? with
 | none=>rw [hs] at h;exact absurd rfl h
 | some s=>exact ⟨s,rfl,rfl⟩
theorem C9 {k:aA} {ds:List Val} {v:Nat} {t:Typ} {s:Sp} (hs:(aJ k)[v]?=some s) (h2:s.1 ≠ -2) (ht:k.values.es[v]?=some t):cF (sX k ds) v=eC ds t:=by
 rw [cF,List.getD_eq_getElem?_getD,sX,xW _ _ _ _ _ _ hs ht,if_neg h2]
 rfl
theorem wG {k:aA} (ok:jN k) (ds:List Val) {d r:List aD} {q:aD} (hes:k.list.es=d++q :: r) (hc:0<=gC k d.length) :
  ∃ c:Nat,gC k d.length=c/\c < k.values.es.length/\(c < k.inputs.toNat\/∃ x∈d,x.value.toNat=c)/\cF (sX k ds) c=cF (sX k ds) q.value.toNat:=by
 rcases yS (fun v=>nM k (d.length:Int) (v:Int)) k.values.es.length 0 with h | ⟨c,h1,h2,_,h3⟩
 ·rw [gC,h] at hc;exact absurd hc (by decide)
 refine ⟨c,h1,by omega,?_⟩
 have hget:k.list.es[d.length]?=some q:=by rw [hes];simp
 have hq0:=(eD (ok.ker d q r hes)).1
 have hin:0<=k.inputs:=by
  have:=ok.out
  simp only [bC,Bool.and_eq_true,decide_eq_true_eq] at this
  obtain ⟨_,⟨⟨⟨⟨⟨⟨_,_⟩,hi0⟩,_⟩,hiV⟩,_⟩,_⟩,_⟩:=this
  exact hi0
 simp only [nM,Int.toNat_natCast,hget] at h2
 cases ha:k.values.es[c]? with
 | none=>rw [ha] at h2;cases h2
 | some a=>
 rw [ha] at h2
 simp only at h2
 cases hb:k.values.es[q.value.toNat]? with
 | none=>rw [hb] at h2;cases h2
 | some b=>
 rw [hb] at h2
 simp only [LY,Bool.and_eq_true,decide_eq_true_eq,Bool.not_eq_true',decide_eq_false_iff_not] at h2
 obtain ⟨_,⟨m1,m2,m3,m4⟩,m5,_⟩:=h2
 obtain ⟨s,s1,s2⟩:=xR m3
 obtain ⟨u,u1,u2⟩:=xR (k:=k) (v:=q.value) (by omega)
 rw [s2] at m3 m4
 rw [u2] at m2
 rw [Int.toNat_natCast] at s1
 constructor
 ·have hle:=FN k s (List.mem_of_getElem? s1)
  rcases JU (k:=k) (n:=c) (f:=s.1) (by rw [frm,s1];rfl) with h | ⟨_,h⟩ | ⟨j,x,x1,x2,x3⟩
  ·exact absurd h m3
  ·exact .inl h
  ·right
   have hj:j < d.length:=by
    rcases Nat.lt_trichotomy j d.length with h | h | h
    ·exact h
    ·subst h
     rw [hget] at x1
     cases x1
     omega
    ·omega
   refine ⟨x,?_,x2⟩
   rw [hes,List.getElem?_append_left hj] at x1
   exact List.mem_of_getElem? x1
 ·rw [C9 s1 m3 ha,C9 u1 (by omega) hb,FV ds m5]
end Go.Tev
end
section
namespace Go.Tev
def qH (k:aA) (ds:List Val) (r:AV):Prop:=
 if eW k ds=0 then ∃ n1 c1 n2 c2,r = .tup [.agg [.sl n1 ((gA k (sX k ds) k.list.es).1.map aU) c1,.sl n2 ((bM k).map aF) c2,.int .i64 (gA k (sX k ds) k.list.es).2],.int .i64 0]
 else r = .tup [.agg [.sl true [] true,.sl true [] true,.int .i64 0],.int .i64 (eW k ds)]
theorem s7 {h:Hp} {k e:Nat} {sp:List Sp} (hg:h.get k=some (e,.blk (aK sp) 2 true false false)) (n cap:Nat) (hn:n<=sp.length) (d:Nat):Tev.snap (d+2) h (.rf k e 0 n cap)=some (.sl false ((sp.take n).map aU) false,[k]):=by
 obtain ⟨cs',h1,h2,h3,h4⟩:=cH (fK (sp.take n))
 rw [jH] at h1
 cases h1
 have h5:=h4 (aK (sp.drop n))
 have happ:∀ a b:List Sp,aK a++aK b=aK (a++b):=by
  intro a b
  induction a with
  | nil=>rfl
  | cons x a ih=>simp [aK,ih]
 rw [happ,List.take_append_drop,List.length_map,List.length_take,Nat.min_eq_left hn] at h5
 have h6:cD (Tev.snap (d+1) h) ((sp.take n).map aU)=some ((sp.take n).map aU,[]):=dS d h (oP _)
 rw [dZ]
 simp only [hg,List.drop_zero,h5,h6]
 simp [AV.tree]
theorem HP {h:Hp} {cs:List AV} {k e n j:Nat} (hg:h.get k=some (e,.blk cs 2 true false false)) (hj:j<=n):fO h 2 false true false [.rf k e 0 n n,.int .i64 j]=some (.rf k e 0 j n,.pat [k] []):=by
 simp only [fO,gF,gJ,hg,Bool.false_eq_true,if_false,if_true,Option.getD_none,Option.getD_some]
 rw [if_pos ⟨trivial,trivial,by omega,by omega,by omega,by omega,by simp,.inl trivial⟩]
 simp
theorem yI {P:List Sp} {v n:Nat} (hn:P.length=n) (h:v < n):(aK P)[0+v*2+0]?=some (.int .i64 (plc P v).1):=by
 subst hn
 rw [Nat.zero_add,Nat.add_zero,(nV P v P[v] (List.getElem?_eq_getElem h)).1,plc,List.getD_eq_getElem?_getD,List.getElem?_eq_getElem h]
 rfl
theorem yH (P:List Sp) (d:List Int) (w:Int):j7 P (d++[w])=j7 P d++if 0<=(plc P w.toNat).1 then [plc P w.toNat] else []:=by
 simp only [j7,List.map_append,List.filter_append,List.map_cons,List.map_nil]
 congr 1
 by_cases h:0<=(plc P w.toNat).1<;>simp [h]
theorem rD (P:List Sp) (d:List Int):(j7 P d).length<=d.length:=by
 simp only [j7]
 exact Nat.le_trans (List.length_filter_le _ _) (by simp)
theorem CG {P:List Sp} {v n:Nat} (hn:P.length=n) (h:v < n):P[v]?=some (plc P v):=by
 subst hn
 rw [plc,List.getD_eq_getElem?_getD,List.getElem?_eq_getElem h];rfl
structure MH (k:aA) (sz:List Int) (n2 c2:Bool) (s:PS) (hp:Hp):Prop where
 g1:hp.get 1=some (0,.blk k.cells 6 true true false)
 g5:hp.get 5=some (0,.blk [.sl true [] true,.sl true [] true,.int .i64 0] 3 true true false)
 g13:hp.get 13=some (0,.blk [.sl false (sz.map aF) true] 1 false true false)
 g21:hp.get 21=some (0,.blk (aK s.1) 2 true false false)
 g25:hp.get 25=some (0,.blk [.rf 21 0 0 k.values.es.length k.values.es.length,.sl n2 ((bM k).map aF) c2,.int .i64 s.2] 3 true true false)
theorem MH.put {k:aA} {sz:List Int} {n2 c2:Bool} {s:PS} {hp:Hp} (m:MH k sz n2 c2 s hp) (v:Nat) (o:Int) :
  MH k sz n2 c2 (lE sz s v o) ((hp.put 21 0 (.blk (aK (s.1.set v (o,cF sz v))) 2 true false false)).put 25 0 (.blk [.rf 21 0 0 k.values.es.length k.values.es.length,.sl n2 ((bM k).map aF) c2,.int .i64 (if s.2 < wr .i64 (o+cF sz v) then wr .i64 (o+cF sz v) else s.2)] 3 true true false)):=by
 refine ⟨?_,?_,?_,?_,?_⟩
 ·rw [aG,if_neg (by decide),aG,if_neg (by decide)];exact m.g1
 ·rw [aG,if_neg (by decide),aG,if_neg (by decide)];exact m.g5
 ·rw [aG,if_neg (by decide),aG,if_neg (by decide)];exact m.g13
 ·rw [aG,if_neg (by decide),aG,if_pos rfl];rfl
 ·rw [aG,if_pos rfl];rfl
theorem MH.other {k:aA} {sz:List Int} {n2 c2:Bool} {s:PS} {hp:Hp} (m:MH k sz n2 c2 s hp) (j e:Nat) (o:Ob) (hj:(j == 1||j == 5||j == 13||j == 21||j == 25)=false):MH k sz n2 c2 s (hp.put j e o):=by
 simp only [Bool.or_eq_false_iff,beq_eq_false_iff_ne] at hj
 obtain ⟨⟨⟨⟨h1,h5⟩,h13⟩,h21⟩,h25⟩:=hj
 exact ⟨by rw [aG,if_neg h1];exact m.g1,by rw [aG,if_neg h5];exact m.g5,by rw [aG,if_neg h13];exact m.g13,by rw [aG,if_neg h21];exact m.g21,by rw [aG,if_neg h25];exact m.g25⟩
theorem C8 {k:aA} (ok:jN k) (ds:List Val):(sX k ds).length=k.values.es.length:=by
 have hso:=ok.out
 simp only [bC,Bool.and_eq_true,decide_eq_true_eq] at hso
 obtain ⟨_,⟨⟨⟨⟨⟨⟨_,_⟩,hi0⟩,_⟩,hiV⟩,_⟩,_⟩,_⟩:=hso
 have hl:=gI (k:=k) (by omega)
 have:∀ (f:Typ->Int) (a:List Sp) (b:List Typ),a.length=b.length->(dK f a b).length=b.length:=by
  intro f a
  induction a with
  | nil=>intro b h;simp at h;simp [dK,<- h]
  | cons x a ih=>intro b h;cases b with
   | nil=>simp at h
   | cons y b=>simp at h;simp [dK,ih b h]
 exact this _ _ _ hl
section
variable {pg:Pg}
set_option maxHeartbeats 8000000 in
theorem c615 (hf:pg.fs 615=some cf615) (h625:pg.fs 625=some cf625)
  (k:aA) (K:KOK k) (nl cl:Bool) (ds:List Val) (h16:Ret pg 16 [k.av,.sl nl (ds.map Val.av) cl] (gX k ds)) (h262:bG pg 262 [k.av] (wQ k))
  (h624:∀ (nl cl:Bool) (a b:Int) (n:Nat),n<=big->bG pg 624 [.sl nl [.agg [.int .i64 a,.int .i64 b]] cl,.int .i64 n] (kF 2 true (List.replicate n (.agg [.int .i64 a,.int .i64 b]))))
  (h623:∀ (nl cl:Bool) (es:List Sp),es.length<=big->(nl=true->es=[])->∀ s:Int,Ret pg 623 [.sl nl (es.map aU) cl,.int .i64 s] (.int .i64 (fitS es s)))
  (h11:∀ at_:Int,bG pg 11 [k.av,.int .i64 at_] (lM k at_)):bG pg 615 [k.av,.sl nl (ds.map Val.av) cl] (qH k ds):=by
 obtain ⟨r2,a2,s2⟩:=h262
 have hVb:=k.values.ok
 have a3:=h624 false true (-1) 0 k.values.es.length hVb
 rw [aA.avc] at h16 a2
 refine bG.ofX hf ?_
 unfold cf615
 by_cases hx:eW k ds=0
 case neg=>
  rw [gX,if_neg hx] at h16
  have e1:decide (eW k ds=0)=false:=by simpa using hx
  simp only [go_sem,seval]
  refine aB h16 (by simp only [go_sem,seval]) rfl ?_
  simp only [e1,go_sem,seval]
  rw [qH,if_neg hx]
 have ok:=gB (iC hx).1
 rw [gX,if_pos hx] at h16
 rw [wQ,if_pos (iC hx).1] at s2
 obtain ⟨n2,c2,hn2,rfl⟩:=s2
 have hfold:dK (eC ds) (aJ k) k.values.es=sX k ds:=rfl
 rw [hfold] at h16
 generalize hsz:sX k ds=sz at h16
 have hrep:List.replicate k.values.es.length (AV.agg [.int .i64 (-1),.int .i64 0])=(ini k.values.es.length).1.map aU:=by simp [ini,aU]
 have hl0:(ini k.values.es.length).1.length=k.values.es.length:=by simp [ini]
 have hV:0 < k.values.es.length:=by
  obtain ⟨v,hv⟩:=List.exists_mem_of_length_pos ok.one
  have:=ok.res v hv
  omega
 have hfin:∀ r,(∃ n1 c1 n2 c2,r = .tup [.agg [.sl n1 ((gA k sz k.list.es).1.map aU) c1,.sl n2 ((bM k).map aF) c2,.int .i64 (gA k sz k.list.es).2],.int .i64 0])->qH k ds r:=by
  intro r h
  unfold qH
  rw [if_pos hx,hsz]
  exact h
 rw [hrep] at a3
 simp only [go_sem,seval]
 refine aB h16 (by simp only [go_sem,seval]) rfl ?_
 simp only [go_sem,seval]
 refine aB a2 (by simp only [go_sem,seval]) rfl ?_
 simp only [go_sem,seval]
 refine wZ a3 (by simp only [go_sem,seval]) (fK _) (fun he=>?_) (fun cs hcs _=>?_)
 ·have:=congrArg List.length he
  rw [List.length_map,hl0,List.length_nil] at this
  omega
 rw [jH] at hcs
 cases hcs
 rw [List.length_map,hl0]
 simp only [go_sem,seval]
 have hzl:sz.length=k.values.es.length:=by rw [<- hsz];exact C8 ok ds
 have hzg:∀ v,v < k.values.es.length->sz[v]?=some (cF sz v):=fun v hv=>by rw [cF,List.getD_eq_getElem?_getD,List.getElem?_eq_getElem (by omega)];rfl
 have hin:0<=k.inputs/\k.inputs<=k.values.es.length:=by
  have hso:=ok.out
  simp only [bC,Bool.and_eq_true,decide_eq_true_eq] at hso
  obtain ⟨_,⟨⟨⟨⟨⟨⟨_,_⟩,hi0⟩,_⟩,hiV⟩,_⟩,_⟩,_⟩:=hso
  exact ⟨hi0,hiV⟩
 obtain ⟨ins,hins⟩:∃ n:Nat,k.inputs=n:=⟨k.inputs.toNat,by omega⟩
 have hinV:ins<=k.values.es.length:=by omega
 refine aH (List.range ins) (fun d r env hp=>env=cf615E0 (.pt 1 0 0) (.pt 5 0 0) (.pt 13 0 0) (.sl n2 ((bM k).map aF) c2) (.pt 25 0 0) (.fn 625 [.pt 13 0 0,.pt 25 0 0]) (.int .i64 k.inputs) (.int .i64 d.length)/\MH k sz n2 c2 (pB k sz d.length) hp) ?_ ?_ ?_
 ·refine ⟨rfl,⟨?_,?_,?_,?_,?_⟩⟩<;>(simp only [go_sem,seval];try rfl)
 ·rintro env hp ⟨rfl,m⟩
  have hr:(List.range ins).length=ins:=List.length_range
  rw [hr] at m ⊢
  have e1:decide ((ins:Int) < k.inputs)=false:=by simp;omega
  have g1:=m.g1
  simp only [aA.cells,Sl.av] at g1
  have m0:MH k sz n2 c2 (gA k sz []) hp:=by
   rw [show gA k sz []=pB k sz ins from by rw [gA,hins,Int.toNat_natCast];rfl];exact m
  simp only [cf615L0,cf615E0,e1,g1,go_sem,seval]
  clear m g1 e1
  have hlb:=k.list.ok
  refine aH k.list.es (fun d r env hp=>env=cf615E2 (.pt 1 0 0) (.pt 5 0 0) (.pt 13 0 0) (.sl n2 ((bM k).map aF) c2) (.pt 25 0 0) (.fn 625 [.pt 13 0 0,.pt 25 0 0]) (.sl k.list.nl (k.list.es.map aD.av) k.list.cl) (.int .i64 k.list.es.length) (.int .i64 d.length)/\MH k sz n2 c2 (gA k sz d) hp) ?_ ?_ ?_
  ·exact ⟨rfl,m0⟩
  ·clear m0 hp
   rintro env hp ⟨rfl,m⟩
   obtain ⟨g1,g5,g13,g21,g25⟩:=m
   have hl:=l6 k sz k.list.es
   have hsn:=fun X=>s7 (h:=Hp.put hp 5 0 X) (k:=21) (e:=0) (sp:=(gA k sz k.list.es).1) (by rw [aG,if_neg (by decide)];exact g21) k.values.es.length k.values.es.length (by omega) 60
   rw [List.take_of_length_le (by omega)] at hsn
   simp only [cf615L2,cf615E2,aX,g25,g5,↓hsn,go_sem,seval]
   simp only [Tev.conv,depth,dZ,bV,bA,↓hsn,go_sem]
   exact hfin _ ⟨_,_,_,_,rfl⟩
  ·clear m0 hp
   rintro d q r env hp hes ⟨rfl,m⟩
   have hstep:=sH k sz d q
   obtain ⟨hget,e1,e2,ew⟩:=cC hes hlb
   obtain ⟨w1,w2,_⟩:=eD (ok.ker d q r hes)
   obtain ⟨v,hv⟩:∃ v:Nat,q.value=v:=⟨q.value.toNat,by omega⟩
   have hvV:v < k.values.es.length:=by omega
   have f1:(0<=(v:Int))=True:=eq_true (by omega)
   have f2:((v:Int) < (k.values.es.length:Int))=True:=eq_true (by omega)
   have m0:=m
   obtain ⟨g1,g5,g13,g21,g25⟩:=m
   have g10:=g1
   simp only [aA.cells,Sl.av] at g1
   have hsl:=l6 k sz d
   generalize hs:gA k sz d=s at *
   have l1:=yI hsl hvV
   rw [yL,hv,Int.toNat_natCast] at hstep
   have hc1:(0+v*2+0 < (aK s.1).length)=True:=eq_true (by rw [cB];omega)
   by_cases h0:0<=(plc s.1 v).1
   ·have h0':decide (0<=(plc s.1 v).1)=true:=by simpa using h0
    simp only [cf615L2,cf615E2,e1,e2,hget,aD.avc,g25,g21,hv,f1,f2,l1,h0',go_sem,seval]
    rw [if_pos h0] at hstep
    simp only [ew,go_sem,seval]
    exact ⟨rfl,by rw [hstep];exact (m0.other 37 _ _ rfl).other 37 _ _ rfl⟩
   have h0':decide (0<=(plc s.1 v).1)=false:=by simpa using h0
   rw [if_neg h0] at hstep
   have hcl:(bM k).length=k.list.es.length:=by simp [bM]
   have hdl:d.length < k.list.es.length:=by rw [hes];simp
   have hch:((bM k).map aF)[d.length]?=some (aF (gC k d.length)):=by
    rw [List.getElem?_map,pE,jF,List.getElem?_map,List.getElem?_range hdl];rfl
   have f3:((d.length:Int) < ((bM k).length:Int))=True:=eq_true (by omega)
   have hzv:=hzg v hvV
   have hz':(sz.map aF)[v]?=some (aF (cF sz v)):=by rw [List.getElem?_map,hzv];rfl
   have f4:((v:Int) < (sz.length:Int))=True:=eq_true (by omega)
   by_cases h5:0<=gC k d.length
   ·have h5':decide (0<=gC k d.length)=true:=by simpa using h5
    rw [if_pos h5] at hstep
    obtain ⟨c,c1,c2',c3,c4⟩:=wG ok ds hes h5
    rw [c1,Int.toNat_natCast] at hstep
    rw [c1] at h5' hch
    have f5:(0<=(c:Int))=True:=eq_true (by omega)
    have f6:((c:Int) < (k.values.es.length:Int))=True:=eq_true (by omega)
    have l2:=yI hsl c2'
    simp only [cf615L2,cf615E2,e1,e2,hget,aD.avc,g25,g21,hv,f1,f2,l1,h0',hch,f3,h5',f5,f6,l2,go_sem,seval]
    refine jD (.inl rfl) rfl (c625 h625 _ _ 13 0 25 0 21 0 (by decide) (by decide) (by decide) false true sz s.1 (.sl n2 ((bM k).map aF) c2) s.2 (plc s.1 c).1 (cF sz v) v _ hsl ?_ ?_ ?_ hvV hzv) ?_
    ·simp only [g13,go_sem,seval]
    ·simp only [g25,go_sem,seval]
    ·simp only [g21,go_sem,seval]
    have M:=fun e1 o1 e2 o2=>((m0.other 37 e1 o1 rfl).other 37 e2 o2 rfl).put v (plc s.1 c).1
    rw [<- hstep] at M
    simp only [go_sem,seval]
    refine ⟨by kernel_rfl,?_⟩
    simp only [ew,go_sem,seval]
    exact ⟨by kernel_rfl,by simpa using M _ _ _ _⟩
   ·have h5':decide (0<=gC k d.length)=false:=by simpa using h5
    rw [if_neg h5] at hstep
    obtain ⟨r11,a11,s11⟩:=h11 d.length
    unfold lM at s11
    rw [if_pos (iC hx).1,if_neg (by omega)] at s11
    obtain ⟨n3,c3,rfl⟩:=s11
    rw [aA.avc] at a11
    have hspl:(aJ k).length=k.values.es.length:=gI (by omega)
    have hlvb:(fN d.length (aJ k)).length<=big:=by
     have:(fN d.length (aJ k)).length<=(aJ k).length:=by
      simp only [fN,List.length_map]
      exact Nat.le_trans (List.length_filter_le _ _) (by simp)
     omega
    have hlv:∀ w∈fN d.length (aJ k),0<=w/\w.toNat < k.values.es.length:=fun w hw=>by
     obtain ⟨u,u1,u2,_⟩:=AZ.1 hw
     have:=(List.getElem?_eq_some_iff.1 u2).1
     exact ⟨u1,by omega⟩
    generalize fN d.length (aJ k)=lv at *
    simp only [cf615L2,cf615E2,e1,e2,hget,aD.avc,g25,g21,hv,f1,f2,l1,h0',hch,f3,h5',g1,go_sem,seval]
    refine aB a11 (by simp only [go_sem,seval]) rfl ?_
    simp only [go_sem,seval]
    generalize hp.next 37=e37
    refine aH lv (fun d2 r2 env hp'=>∃ vl,env=cf615E1 (.pt 1 0 0) (.pt 5 0 0) (.pt 13 0 0) (.sl n2 ((bM k).map aF) c2) (.pt 25 0 0) (.fn 625 [.pt 13 0 0,.pt 25 0 0]) (.pt 37 e37 0) vl (.sl k.list.nl (k.list.es.map aD.av) k.list.cl) (.int .i64 k.list.es.length) (.int .i64 d.length) (.sl n3 (lv.map aF) c3) (.int .i64 lv.length) (.int .i64 d2.length) /\
     MH k sz n2 c2 s hp'/\(∃ cs,hp'.get 37=some (e37,.blk (.int .i64 q.kind :: .int .i64 v :: cs) 24 true true false))/\Own hp' 49 2 true vl ((j7 s.1 d2).map aU)) ?_ ?_ ?_
    ·exact ⟨_,rfl,(m0.other 37 _ _ rfl).other 37 _ _ rfl,⟨_,by rw [aG,if_pos rfl]⟩,Own.nil _ _ _ _ _ _ rfl⟩
    ·clear m0 g1 g5 g13 g21 g25 g10 hp
     rintro env hp ⟨vl,rfl,m0,⟨cs,g37⟩,ho⟩
     obtain ⟨nl8,cl8,keys,hsn,hnl⟩:=ho.snap (fK _) 62
     have hll:=rD s.1 lv
     have a5:=h623 nl8 cl8 (j7 s.1 lv) (by omega) (fun h=>by simpa using hnl h) (cF sz v)
     have g13:=m0.g13
     have g25:=m0.g25
     have M:=m0.put v (fitS (j7 s.1 lv) (cF sz v))
     rw [<- hstep] at M
     simp only [cf615L1,cf615E1,aX,g37,g13,f1,f4,hz',go_sem,seval]
     refine bO a5 (oB hsn rfl) (v:=.int .i64 (fitS (j7 s.1 lv) (cF sz v))) (pa:=[]) rfl ?_
     simp only [go_sem,seval]
     refine jD (.inl rfl) rfl (c625 h625 _ _ 13 0 25 0 21 0 (by decide) (by decide) (by decide) false true sz s.1 (.sl n2 ((bM k).map aF) c2) s.2 (fitS (j7 s.1 lv) (cF sz v)) (cF sz v) v _ hsl g13 g25 m0.g21 hvV hzv) ?_
     simp only [go_sem,seval]
     refine ⟨by kernel_rfl,?_⟩
     simp only [ew,go_sem,seval]
     exact ⟨by kernel_rfl,by simpa using M⟩
    ·clear m0 g1 g5 g13 g21 g25 g10 hp
     rintro d2 w r2 env hp hes2 ⟨vl,rfl,m0,⟨cs,g37⟩,ho⟩
     obtain ⟨hget2,p1,p2,pw⟩:=cC hes2 hlvb
     obtain ⟨w0,w1'⟩:=hlv w (by rw [hes2];simp)
     obtain ⟨u,hu⟩:∃ u:Nat,w=u:=⟨w.toNat,by omega⟩
     subst hu
     rw [Int.toNat_natCast] at w1'
     have t1:(0<=(u:Int))=True:=eq_true (by omega)
     have t2:((u:Int) < (k.values.es.length:Int))=True:=eq_true (by omega)
     have l3:=yI hsl w1'
     obtain ⟨t3,t4⟩:=wT s.1 u _ (CG hsl w1')
     have g25:=m0.g25
     have g21:=m0.g21
     have hsno:=yH s.1 d2 u
     rw [Int.toNat_natCast] at hsno
     have hget2':(lv.map aF)[d2.length]?=some (aF u):=by rw [List.getElem?_map,hget2];rfl
     have hl2:=rD s.1 d2
     have hd2:d2.length+1<=big:=by rw [hes2] at hlvb;simp at hlvb;omega
     by_cases h6:0<=(plc s.1 u).1
     ·have h6':decide (0<=(plc s.1 u).1)=true:=by simpa using h6
      rw [if_pos h6] at hsno
      simp only [cf615L1,cf615E1,p1,p2,hget2,hget2',g25,g21,t1,t2,l3,h6',t3,t4,go_sem,seval]
      refine eK (kb:=0) (s:=49) (ho.mono ?_) (fK _) (xs:=[aU (plc s.1 u)]) (fK [plc s.1 u]) (by simp only [List.length_map,List.length_singleton,big] at *;omega) (by decide) ?_
      ·simp only [go_sem,seval]
      intro v' rd pa ho2 hk2 _
      simp only [pw,go_sem,seval]
      refine ⟨v',rfl,?_,⟨cs,?_⟩,?_⟩
      ·exact ⟨by rw [hk2 1 (by omega)];exact m0.g1,by rw [hk2 5 (by omega)];exact m0.g5,by rw [hk2 13 (by omega)];exact m0.g13,by rw [hk2 21 (by omega)];exact m0.g21,by rw [hk2 25 (by omega)];exact m0.g25⟩
      ·rw [hk2 37 (by omega)];exact g37
      ·rw [hsno,List.map_append];simpa using ho2
     ·have h6':decide (0<=(plc s.1 u).1)=false:=by simpa using h6
      rw [if_neg h6,List.append_nil] at hsno
      simp only [cf615L1,cf615E1,p1,p2,hget2,hget2',g25,g21,t1,t2,l3,h6',pw,go_sem,seval]
      exact ⟨vl,rfl,m0,⟨cs,g37⟩,by rw [hsno];exact ho⟩
 ·rintro d x r env hp hes ⟨rfl,m⟩
  obtain ⟨rfl,hlt⟩:=fY hes
  have hb3:(d++d.length :: r).length<=big:=by rw [<- hes];simp;omega
  have hw:=aL hb3
  have e1:decide ((d.length:Int) < k.inputs)=true:=by simp;omega
  have e2:((d.length:Int) < (sz.length:Int))=True:=eq_true (by omega)
  have e3:((d.length:Int)<=(k.values.es.length:Int))=True:=eq_true (by omega)
  have hz:=hzg d.length (by omega)
  have hz':(sz.map aF)[d.length]?=some (aF (cF sz d.length)):=by rw [List.getElem?_map,hz];rfl
  have m0:=m
  obtain ⟨g1,g5,g13,g21,g25⟩:=m
  have hsl:=qN k sz d.length
  have hsucc:=rF k sz d.length
  generalize hs:pB k sz d.length=s at *
  have hsn:=s7 g21 d.length k.values.es.length (by omega) 62
  have a4:=h623 false false (s.1.take d.length) (by rw [List.length_take];omega) (by simp) (cF sz d.length)
  clear hes
  simp only [cf615L0,cf615E0,e1,g13,g25,e2,e3,hz',↓HP g21 (show d.length<=k.values.es.length by omega),go_sem,seval]
  refine bO a4 (oB hsn rfl) (v:=.int .i64 (fitS (s.1.take d.length) (cF sz d.length))) (pa:=[]) rfl ?_
  simp only [go_sem,seval]
  refine jD (.inl rfl) rfl (c625 h625 _ _ 13 0 25 0 21 0 (by decide) (by decide) (by decide) false true sz s.1 (.sl n2 ((bM k).map aF) c2) s.2 (fitS (s.1.take d.length) (cF sz d.length)) (cF sz d.length) d.length _ hsl g13 g25 g21 (by omega) hz) ?_
  have M:=m0.put d.length (fitS (s.1.take d.length) (cF sz d.length))
  rw [<- hsucc] at M
  simp only [go_sem,seval]
  refine ⟨by kernel_rfl,?_⟩
  simp only [hw,go_sem,seval]
  exact ⟨by kernel_rfl,by simpa using M⟩
end
end Go.Tev
end
section
namespace Go.Tev
theorem HL {k:aA} {ds:List Val} (h:eW k ds=0) (v:Nat):0<=cF (sX k ds) v/\cF (sX k ds) v<=1000000000:=by
 obtain ⟨hc,hD,hS⟩:=iC h
 have ok:=gB hc
 rw [cF,List.getD_eq_getElem?_getD]
 cases hg:(sX k ds)[v]? with
 | none=>simp
 | some z=>
  have:=AG hD _ _ (A9 ok).2 hS z (List.mem_of_getElem? hg)
  simp only [Option.getD_some]
  omega
structure MR (k:aA) (n2 c2:Bool) (e:Nat) (P:List Sp) (pk:Int) (hp:Hp):Prop where
 g1:hp.get 1=some (0,.blk k.cells 6 true true false)
 g5:hp.get 5=some (0,.blk [.sl true [] true,.sl true [] true,.int .i64 0] 3 true true false)
 g17:hp.get 17=some (0,.blk [.rf 21 e 0 k.values.es.length k.values.es.length,.sl n2 ((bM k).map aF) c2,.int .i64 pk] 3 true true false)
 g21:hp.get 21=some (e,.blk (aK P) 2 true false false)
theorem MR.other {k:aA} {n2 c2:Bool} {e:Nat} {P:List Sp} {pk:Int} {hp hp':Hp} (m:MR k n2 c2 e P pk hp) (j:Nat) (hj:21 < j) (h:∀ i,i ≠ j->hp'.get i=hp.get i):MR k n2 c2 e P pk hp':=
 ⟨by rw [h 1 (by omega)];exact m.g1,by rw [h 5 (by omega)];exact m.g5,by rw [h 17 (by omega)];exact m.g17,by rw [h 21 (by omega)];exact m.g21⟩
theorem MR.put {k:aA} {n2 c2:Bool} {e:Nat} {P:List Sp} {pk:Int} {hp:Hp} (m:MR k n2 c2 e P pk hp) (Q:List Sp):MR k n2 c2 e Q pk (hp.put 21 e (.blk (aK Q) 2 true false false)):=
 ⟨by rw [aG,if_neg (by decide)];exact m.g1,by rw [aG,if_neg (by decide)];exact m.g5,by rw [aG,if_neg (by decide)];exact m.g17,by rw [aG,if_pos rfl]⟩
section
variable {pg:Pg}
set_option maxRecDepth 10000 in
set_option maxHeartbeats 8000000 in
theorem c616 (hf:pg.fs 616=some cf616)
  (k:aA) (nl cl:Bool) (ds:List Val) (h17:bG pg 17 [k.av,.sl nl (ds.map Val.av) cl] (gW k ds)) (h263:bG pg 263 [k.av] (wQ k))
  (h626:∀ (nl cl:Bool) (es:List Sp),es.length<=big->∀ s:Int,Ret pg 626 [.sl nl (es.map aU) cl,.int .i64 s] (.int .i64 (fitS es s)))
  (h12:∀ at_:Int,bG pg 12 [k.av,.int .i64 at_] (lM k at_)):bG pg 616 [k.av,.sl nl (ds.map Val.av) cl] (qH k ds):=by
 obtain ⟨r1,a1,s1⟩:=h17
 obtain ⟨r2,a2,s2⟩:=h263
 have hVb:=k.values.ok
 rw [aA.avc] at a1 a2
 refine bG.ofX hf ?_
 unfold cf616
 by_cases hx:eW k ds=0
 case neg=>
  rw [gW,if_neg hx] at s1
  subst s1
  have e1:decide (eW k ds=0)=false:=by simpa using hx
  simp only [go_sem,seval]
  refine aB a1 (by simp only [go_sem,seval]) rfl ?_
  simp only [e1,go_sem,seval]
  rw [qH,if_neg hx]
 have ok:=gB (iC hx).1
 rw [gW,if_pos hx] at s1
 rw [wQ,if_pos (iC hx).1] at s2
 obtain ⟨n1,c1,rfl⟩:=s1
 obtain ⟨n2,c2,hn2,rfl⟩:=s2
 have hfold:dK (eC ds) (aJ k) k.values.es=sX k ds:=rfl
 rw [hfold] at a1
 generalize hsz:sX k ds=sz at a1
 have hV:0 < k.values.es.length:=by
  obtain ⟨v,hv⟩:=List.exists_mem_of_length_pos ok.one
  have:=ok.res v hv
  omega
 simp only [go_sem,seval]
 refine aB a1 (by simp only [go_sem,seval]) rfl ?_
 simp only [go_sem,seval]
 refine aB a2 (by simp only [go_sem,seval]) rfl ?_
 simp only [go_sem,seval]
 have hzl:sz.length=k.values.es.length:=by rw [<- hsz];exact C8 ok ds
 have hzg:∀ v,v < k.values.es.length->sz[v]?=some (cF sz v):=fun v hv=>by rw [cF,List.getD_eq_getElem?_getD,List.getElem?_eq_getElem (by omega)];rfl
 have hin:0<=k.inputs/\k.inputs<=k.values.es.length:=by
  have hso:=ok.out
  simp only [bC,Bool.and_eq_true,decide_eq_true_eq] at hso
  obtain ⟨_,⟨⟨⟨⟨⟨⟨_,_⟩,hi0⟩,_⟩,hiV⟩,_⟩,_⟩,_⟩:=hso
  exact ⟨hi0,hiV⟩
 obtain ⟨ins,hins⟩:∃ n:Nat,k.inputs=n:=⟨k.inputs.toNat,by omega⟩
 have hinV:ins<=k.values.es.length:=by omega
 refine aH (List.range k.values.es.length) (fun d r env hp=>env=cf616E0 (.pt 1 0 0) (.pt 5 0 0) (.sl n1 (sz.map aF) c1) (.sl n2 ((bM k).map aF) c2) (.pt 17 0 0) (.int .i64 d.length) /\
  hp.get 1=some (0,.blk k.cells 6 true true false)/\hp.get 5=some (0,.blk [.sl true [] true,.sl true [] true,.int .i64 0] 3 true true false) /\
  ∃ vl,hp.get 17=some (0,.blk [vl,.sl n2 ((bM k).map aF) c2,.int .i64 0] 3 true true false)/\Own hp 21 2 true vl ((ini d.length).1.map aU)) ?_ ?_ ?_
 ·refine ⟨rfl,?_,?_,.sl true [] true,?_,Own.nil _ _ _ _ _ _ rfl⟩<;>(simp only [go_sem,seval];try rfl)
 ·rintro env hp ⟨rfl,g1,g5,vl,g17,ho⟩
  have hr:(List.range k.values.es.length).length=k.values.es.length:=List.length_range
  rw [hr] at ho ⊢
  have hl0:(ini k.values.es.length).1.length=k.values.es.length:=by simp [ini]
  rcases ho with ⟨he,_⟩ | ⟨e,cs,rfl,hg,hu⟩
  ·have:=congrArg List.length he
   rw [List.length_map,hl0,List.length_nil] at this
   omega
  rw [jH] at hu
  cases hu
  rw [List.length_map,hl0] at g17
  have m0:MR k n2 c2 e (pB k sz 0).1 0 hp:=⟨g1,g5,g17,hg⟩
  have g10:=g1
  simp only [aA.cells,Sl.av] at g1
  simp only [cf616L0,cf616E0,aX,g1,go_sem,seval]
  clear g17 hg g1 g5 g10
  refine aH (List.range ins) (fun d r env hp=>env=cf616E1 (.pt 1 0 0) (.pt 5 0 0) (.sl n1 (sz.map aF) c1) (.sl n2 ((bM k).map aF) c2) (.pt 17 0 0) (.int .i64 d.length)/\MR k n2 c2 e (pB k sz d.length).1 0 hp) ?_ ?_ ?_
  ·exact ⟨rfl,m0⟩
  ·clear m0 hp
   rintro env hp ⟨rfl,m⟩
   have hr:(List.range ins).length=ins:=List.length_range
   rw [hr] at m ⊢
   have e1:decide ((ins:Int) < k.inputs)=false:=by simp;omega
   have g1:=m.g1
   simp only [aA.cells,Sl.av] at g1
   have m0:MR k n2 c2 e (gA k sz []).1 0 hp:=by
    rw [show gA k sz []=pB k sz ins from by rw [gA,hins,Int.toNat_natCast];rfl];exact m
   simp only [cf616L1,cf616E1,e1,g1,go_sem,seval]
   clear m g1 e1
   have hlb:=k.list.ok
   have hvq:∀ q∈k.list.es,0<=q.value/\q.value.toNat < k.values.es.length:=fun q hq=>by
    obtain ⟨d,r,hes⟩:=List.append_of_mem hq
    obtain ⟨w1,w2,_⟩:=eD (ok.ker d q r hes)
    omega
   refine aH k.list.es (fun d r env hp=>env=cf616E3 (.pt 1 0 0) (.pt 5 0 0) (.sl n1 (sz.map aF) c1) (.sl n2 ((bM k).map aF) c2) (.pt 17 0 0) (.int .i64 d.length)/\MR k n2 c2 e (gA k sz d).1 0 hp) ?_ ?_ ?_
   ·exact ⟨rfl,m0⟩
   ·clear m0 hp
    rintro env hp ⟨rfl,m⟩
    have g1:=m.g1
    simp only [aA.cells,Sl.av] at g1
    simp only [cf616L3,cf616E3,aX,g1,go_sem,seval]
    clear g1
    have hl:=l6 k sz k.list.es
    have hgood:=qZ (k:=k) (sz:=sz) (by rw [<- hsz];exact HL hx) (by omega) k.list.es.length (fun x hx=>(hvq x (List.mem_of_mem_take hx)).2)
    rw [List.take_length] at hgood
    have hpk:=PH hgood.1
    have hfin:∀ r,(∃ n1 c1 n2 c2,r = .tup [.agg [.sl n1 ((gA k sz k.list.es).1.map aU) c1,.sl n2 ((bM k).map aF) c2,.int .i64 (gA k sz k.list.es).2],.int .i64 0])->qH k ds r:=by
     intro r h
     unfold qH
     rw [if_pos hx,hsz]
     exact h
    rw [<- hpk] at hfin
    generalize (gA k sz k.list.es).1=P at *
    have hPb:P.length<=big:=by omega
    refine aH P (fun d r env hp=>env=cf616E4 (.pt 5 0 0) (.pt 17 0 0) (.int .i64 d.length)/\MR k n2 c2 e P (pkP d) hp) ?_ ?_ ?_
    ·exact ⟨rfl,m⟩
    ·clear m hp
     rintro env hp ⟨rfl,m⟩
     obtain ⟨g1,g5,g17,g21⟩:=m
     have hsn:=fun X=>s7 (h:=Hp.put hp 5 0 X) (k:=21) (e:=e) (sp:=P) (by rw [aG,if_neg (by decide)];exact g21) k.values.es.length k.values.es.length (by omega) 60
     rw [List.take_of_length_le (by omega)] at hsn
     have e0:decide ((P.length:Int) < (k.values.es.length:Int))=false:=by simp;omega
     simp only [cf616L4,cf616E4,e0,g17,g5,↓hsn,go_sem,seval]
     simp only [Tev.conv,depth,dZ,bV,bA,↓hsn,go_sem]
     exact hfin _ ⟨_,_,_,_,rfl⟩
    ·clear m hp
     rintro d x r env hp hes ⟨rfl,m⟩
     obtain ⟨hget,e1,e2,ew⟩:=cC hes hPb
     obtain ⟨l1,l2⟩:=nV P d.length x hget
     have l1':(aK P)[0+d.length*2+0]?=some (.int .i64 x.1):=by simpa using l1
     have l2':(aK P)[0+d.length*2+1]?=some (.int .i64 x.2):=by simpa using l2
     have e0:decide ((d.length:Int) < (k.values.es.length:Int))=true:=by rw [<- hl];exact e1
     have e0':((d.length:Int) < (k.values.es.length:Int))=True:=by rw [<- hl];exact e2
     have hsno:=OX d x
     obtain ⟨g1,g5,g17,g21⟩:=m
     simp only [cf616L4,cf616E4,e0,e0',g17,g21,l1',l2',mx2,go_sem,seval]
     refine ⟨by kernel_rfl,?_⟩
     simp only [ew,go_sem,seval]
     refine ⟨by kernel_rfl,⟨?_,?_,?_,?_⟩⟩
     ·simp only [go_sem,seval]
      exact g1
     ·simp only [go_sem,seval]
      exact g5
     ·simp only [go_sem,seval]
      rw [hsno]
      rfl
     ·simp only [go_sem,seval]
      exact g21
   ·clear m0 hp
    rintro d q r env hp hes ⟨rfl,m⟩
    have hstep:=sH k sz d q
    obtain ⟨hget,e1,e2,ew⟩:=cC hes hlb
    obtain ⟨w1,w2,_⟩:=eD (ok.ker d q r hes)
    obtain ⟨v,hv⟩:∃ v:Nat,q.value=v:=⟨q.value.toNat,by omega⟩
    have hvV:v < k.values.es.length:=by omega
    have f1:(0<=(v:Int))=True:=eq_true (by omega)
    have f2:((v:Int) < (k.values.es.length:Int))=True:=eq_true (by omega)
    have m0:=m
    obtain ⟨g1,g5,g17,g21⟩:=m
    simp only [aA.cells,Sl.av] at g1
    have hgood:=qZ (k:=k) (sz:=sz) (by rw [<- hsz];exact HL hx) (by omega) d.length (fun x hx=>(hvq x (List.mem_of_mem_take hx)).2)
    rw [show k.list.es.take d.length=d from by rw [hes];simp] at hgood
    have hsl:=l6 k sz d
    generalize hs:gA k sz d=s at *
    have l1:=yI hsl hvV
    rw [yL,hv,Int.toNat_natCast] at hstep
    by_cases h0:0<=(plc s.1 v).1
    ·have h0':decide (0<=(plc s.1 v).1)=true:=by simpa using h0
     rw [if_pos h0] at hstep
     simp only [cf616L3,cf616E3,e1,e2,hget,aD.avc,g1,g17,g21,hv,f1,f2,l1,h0',ew,go_sem,seval]
     exact ⟨rfl,by rw [hstep];exact m0⟩
    have h0':decide (0<=(plc s.1 v).1)=false:=by simpa using h0
    rw [if_neg h0] at hstep
    have hdl:d.length < k.list.es.length:=by rw [hes];simp
    have hcl:(bM k).length=k.list.es.length:=by simp [bM]
    have hch:((bM k).map aF)[d.length]?=some (aF (gC k d.length)):=by
     rw [List.getElem?_map,pE,jF,List.getElem?_map,List.getElem?_range hdl];rfl
    have f3:((d.length:Int) < ((bM k).length:Int))=True:=eq_true (by omega)
    have hzv:=hzg v hvV
    have hz':(sz.map aF)[v]?=some (aF (cF sz v)):=by rw [List.getElem?_map,hzv];rfl
    have f4:((v:Int) < (sz.length:Int))=True:=eq_true (by omega)
    have f5:(0+v*2+2<=(aK s.1).length)=True:=eq_true (by rw [cB];omega)
    by_cases h5:0<=gC k d.length
    ·have h5':decide (0<=gC k d.length)=true:=by simpa using h5
     rw [if_pos h5] at hstep
     obtain ⟨c,q1,q2,q3,q4⟩:=wG ok ds hes h5
     rw [q1,Int.toNat_natCast] at hstep
     rw [q1] at h5' hch
     rw [hsz,hv,Int.toNat_natCast] at q4
     have hpc:(plc s.1 c).2=cF sz v:=by
      rw [<- q4]
      rcases q3 with h | ⟨x,hx1,hx2⟩
      ·exact hgood.2.1 c h
      ·have:=hgood.2.2 x hx1;rw [hx2] at this;exact this
     have f6:(0<=(c:Int))=True:=eq_true (by omega)
     have f7:((c:Int) < (k.values.es.length:Int))=True:=eq_true (by omega)
     obtain ⟨t1,t2⟩:=wT s.1 c _ (CG hsl q2)
     have M:=m0.put (lE sz s v (plc s.1 c).1).1
     rw [<- hstep] at M
     have hset:aK (s.1.set v ((plc s.1 c).1,(plc s.1 c).2))=aK (lE sz s v (plc s.1 c).1).1:=by rw [hpc];rfl
     rw [<- hstep] at hset
     simp only [cf616L3,cf616E3,e1,e2,hget,aD.avc,g1,g17,g21,hv,f1,f2,l1,h0',hch,f3,h5',f5,f6,f7,t1,t2,BX s.1 v (plc s.1 c).1 (plc s.1 c).2 (by omega),hset,go_sem,seval]
     refine ⟨by kernel_rfl,?_⟩
     simp only [ew,go_sem,seval]
     exact ⟨by kernel_rfl,by simpa using M⟩
    ·have h5':decide (0<=gC k d.length)=false:=by simpa using h5
     rw [if_neg h5] at hstep
     obtain ⟨r11,a11,s11⟩:=h12 d.length
     unfold lM at s11
     rw [if_pos (iC hx).1,if_neg (by omega)] at s11
     obtain ⟨n3,c3,rfl⟩:=s11
     rw [aA.avc] at a11
     have hspl:(aJ k).length=k.values.es.length:=gI (by omega)
     have hlvb:(fN d.length (aJ k)).length<=big:=by
      have:(fN d.length (aJ k)).length<=(aJ k).length:=by
       simp only [fN,List.length_map]
       exact Nat.le_trans (List.length_filter_le _ _) (by simp)
      omega
     have hlv:∀ w∈fN d.length (aJ k),0<=w/\w.toNat < k.values.es.length:=fun w hw=>by
      obtain ⟨u,u1,u2,_⟩:=AZ.1 hw
      have:=(List.getElem?_eq_some_iff.1 u2).1
      exact ⟨u1,by omega⟩
     generalize fN d.length (aJ k)=lv at *
     simp only [cf616L3,cf616E3,e1,e2,hget,aD.avc,g1,g17,g21,hv,f1,f2,l1,h0',hch,f3,h5',go_sem,seval]
     refine aB a11 (by simp only [go_sem,seval]) rfl ?_
     simp only [go_sem,seval]
     refine aH lv (fun d2 r2 env hp'=>∃ vl,env=cf616E2 (.pt 1 0 0) (.pt 5 0 0) (.sl n1 (sz.map aF) c1) (.sl n2 ((bM k).map aF) c2) (.pt 17 0 0) (.int .i64 d.length) (.int .i64 v) (.sl n3 (lv.map aF) c3) vl (.int .i64 d2.length) /\
      MR k n2 c2 e s.1 0 hp'/\Own hp' 33 2 true vl ((j7 s.1 d2).map aU)) ?_ ?_ ?_
     ·exact ⟨_,rfl,m0,Own.nil _ _ _ _ _ _ rfl⟩
     ·clear m0 g1 g5 g17 g21 hp
      rintro env hp ⟨vl,rfl,m0,ho⟩
      obtain ⟨nl8,cl8,keys,hsn,hnl⟩:=ho.snap (fK _) 62
      have hll:=rD s.1 lv
      have a5:=h626 nl8 cl8 (j7 s.1 lv) (by omega) (cF sz v)
      have g17:=m0.g17
      have g21:=m0.g21
      have M:=m0.put (lE sz s v (fitS (j7 s.1 lv) (cF sz v))).1
      have hset:aK (s.1.set v (fitS (j7 s.1 lv) (cF sz v),cF sz v))=aK (lE sz s v (fitS (j7 s.1 lv) (cF sz v))).1:=rfl
      rw [<- hstep] at M hset
      simp only [cf616L2,cf616E2,aX,g17,f1,f4,hz',go_sem,seval]
      refine bO a5 (oB hsn rfl) (v:=.int .i64 (fitS (j7 s.1 lv) (cF sz v))) (pa:=[]) rfl ?_
      simp only [g17,g21,f1,f2,f4,f5,hz',BX s.1 v (fitS (j7 s.1 lv) (cF sz v)) (cF sz v) (by omega),hset,go_sem,seval]
      refine ⟨by kernel_rfl,?_⟩
      simp only [ew,go_sem,seval]
      exact ⟨by kernel_rfl,by simpa using M⟩
     ·clear m0 g1 g5 g17 g21 hp
      rintro d2 w r2 env hp hes2 ⟨vl,rfl,m0,ho⟩
      obtain ⟨hget2,p1,p2,pw⟩:=cC hes2 hlvb
      obtain ⟨w0,w1'⟩:=hlv w (by rw [hes2];simp)
      obtain ⟨u,hu⟩:∃ u:Nat,w=u:=⟨w.toNat,by omega⟩
      subst hu
      rw [Int.toNat_natCast] at w1'
      have t1:(0<=(u:Int))=True:=eq_true (by omega)
      have t2:((u:Int) < (k.values.es.length:Int))=True:=eq_true (by omega)
      have l3:=yI hsl w1'
      obtain ⟨t3,t4⟩:=wT s.1 u _ (CG hsl w1')
      have g17:=m0.g17
      have g21:=m0.g21
      have hsno:=yH s.1 d2 u
      rw [Int.toNat_natCast] at hsno
      have hget2':(lv.map aF)[d2.length]?=some (aF u):=by rw [List.getElem?_map,hget2];rfl
      have hl2:=rD s.1 d2
      have hd2:d2.length+1<=big:=by rw [hes2] at hlvb;simp at hlvb;omega
      by_cases h6:0<=(plc s.1 u).1
      ·have h6':decide (0<=(plc s.1 u).1)=true:=by simpa using h6
       rw [if_pos h6] at hsno
       simp only [cf616L2,cf616E2,p1,p2,hget2,hget2',g17,g21,t1,t2,l3,h6',t3,t4,go_sem,seval]
       refine ⟨by kernel_rfl,?_⟩
       refine eK (kb:=0) (s:=33) (ho.mono ?_) (fK _) (xs:=[aU (plc s.1 u)]) (fK [plc s.1 u]) (by simp only [List.length_map,List.length_singleton,big] at *;omega) (by decide) ?_
       ·simp only [go_sem,seval]
       intro v' rd pa ho2 hk2 _
       simp only [pw,go_sem,seval]
       refine ⟨by kernel_rfl,?_⟩
       skip
       exact ⟨v',by kernel_rfl,m0.other 33 (by omega) hk2,by rw [hsno,List.map_append];simpa using ho2⟩
      ·have h6':decide (0<=(plc s.1 u).1)=false:=by simpa using h6
       rw [if_neg h6,List.append_nil] at hsno
       simp only [cf616L2,cf616E2,p1,p2,hget2,hget2',g17,g21,t1,t2,l3,h6',pw,go_sem,seval]
       refine ⟨by kernel_rfl,?_⟩
       exact ⟨vl,by kernel_rfl,m0,by rw [hsno];exact ho⟩
  ·clear m0 hp
   rintro d x r env hp hes ⟨rfl,m⟩
   obtain ⟨rfl,hlt⟩:=fY hes
   have hb3:(d++d.length :: r).length<=big:=by rw [<- hes];simp;omega
   have hw:=aL hb3
   have e1:decide ((d.length:Int) < k.inputs)=true:=by simp;omega
   have e2:((d.length:Int) < (sz.length:Int))=True:=eq_true (by omega)
   have e4:((d.length:Int) < (k.values.es.length:Int))=True:=eq_true (by omega)
   have hz:=hzg d.length (by omega)
   have hz':(sz.map aF)[d.length]?=some (aF (cF sz d.length)):=by rw [List.getElem?_map,hz];rfl
   have m0:=m
   obtain ⟨g1,g5,g17,g21⟩:=m
   have hsl:=qN k sz d.length
   have hsucc:=rF k sz d.length
   generalize hs:pB k sz d.length=s at *
   have hsn:=s7 g21 d.length k.values.es.length (by omega) 62
   have a4:=h626 false false (s.1.take d.length) (by rw [List.length_take];omega) (cF sz d.length)
   have e3:(0+d.length*2+2<=(aK s.1).length)=True:=eq_true (by rw [cB];omega)
   have M:=m0.put (s.1.set d.length (fitS (s.1.take d.length) (cF sz d.length),cF sz d.length))
   simp only [aA.cells,Sl.av] at g1
   clear hes
   simp only [cf616L1,cf616E1,e1,g1,g17,e2,hz',↓HP g21 (show d.length<=k.values.es.length by omega),go_sem,seval]
   refine bO a4 (oB hsn rfl) (v:=.int .i64 (fitS (s.1.take d.length) (cF sz d.length))) (pa:=[]) rfl ?_
   simp only [g17,g21,e2,e4,hz',e3,BX s.1 d.length (fitS (s.1.take d.length) (cF sz d.length)) (cF sz d.length) (by omega),go_sem,seval]
   refine ⟨by kernel_rfl,?_⟩
   simp only [hw,go_sem,seval]
   exact ⟨by kernel_rfl,by simpa [hsucc,lE] using M⟩
 ·rintro d x r env hp hes ⟨rfl,g1,g5,vl,g17,ho⟩
  obtain ⟨rfl,hlt⟩:=fY hes
  have hb3:(d++d.length :: r).length<=big:=by rw [<- hes];simp;omega
  have hw:=aL hb3
  have e1:decide ((d.length:Int) < (k.values.es.length:Int))=true:=by simp;omega
  have g10:=g1
  simp only [aA.cells,Sl.av] at g1
  clear hes
  simp only [cf616L0,cf616E0,e1,g1,g17,go_sem,seval]
  refine eK (kb:=0) (s:=21) ho (fK _) (xs:=[aU (-1,0)]) (fK [(-1,0)]) (by simp only [List.length_map,List.length_singleton,ini,List.length_replicate,big] at *;omega) (by decide) ?_
  intro v' rd pa ho2 hk2 _
  have q17:Hp.get (Eff.app hp (.pat rd pa)) 17=some (0,.blk [vl,.sl n2 ((bM k).map aF) c2,.int .i64 0] 3 true true false):=by rw [hk2 17 (by omega)];exact g17
  obtain ⟨o1,o2,o3⟩:=ho2.one
  simp only [hw,q17,o1,o2,o3,go_sem,seval]
  refine ⟨rfl,?_,?_,v',?_,?_⟩
  ·simp only [hk2 1 (by omega),go_sem,seval]
   exact g10
  ·simp only [hk2 5 (by omega),go_sem,seval]
   exact g5
  ·simp only [go_sem,seval]
  ·have h2:(ini (d++[d.length]).length).1=(ini d.length).1++[(-1,0)]:=by simp [ini,List.replicate_succ']
   rw [h2,List.map_append]
   refine ho2.mono ?_
   simp only [go_sem,seval]
end
end Go.Tev
end
section
namespace Go.Tev
section
variable {pg:Pg}
theorem c617 (hf:pg.fs 617=some cf617) (h15:pg.fs 15=some cf15) (P:List Sp) (C:List Int) (pk:Int) (hP:P.length<=big) (hC:C.length<=big) (n1 c1 n2 c2 n3 c3 n4 c4:Bool) :
  Ret pg 617 [.agg [.sl n1 (P.map aU) c1,.sl n2 (C.map aF) c2,.int .i64 pk],.agg [.sl n3 (P.map aU) c3,.sl n4 (C.map aF) c4,.int .i64 pk]] (.bool true):=by
 have a1:=c15 h15 n2 c2 C hC n4 c4 C rfl
 refine Ret.ofX hf ?_
 unfold cf617
 have e0:decide ((P.length:Int)=(P.length:Int))=true:=by simp
 have e1:decide (pk=pk)=true:=by simp
 simp only [e0,go_sem,seval]
 refine aB a1 (by simp only [go_sem,seval]) rfl ?_
 simp only [e1,go_sem,seval]
 refine aH P (fun d r env hp=>env=cf617E0 (.pt 1 0 0) (.pt 5 0 0) (.int .i64 d.length)/\hp.get 1=some (0,.blk [.sl n1 (P.map aU) c1,.sl n2 (C.map aF) c2,.int .i64 pk] 3 true true false)/\hp.get 5=some (0,.blk [.sl n3 (P.map aU) c3,.sl n4 (C.map aF) c4,.int .i64 pk] 3 true true false)) ?_ ?_ ?_
 ·exact ⟨rfl,rfl,rfl⟩
 ·rintro env hp ⟨rfl,g1,g5⟩
  simp only [cf617L0,cf617E0,aX,g1,go_sem,seval]
 ·rintro d x r env hp hes ⟨rfl,g1,g5⟩
  obtain ⟨hget,f1,f2,ew⟩:=cC hes hP
  simp only [cf617L0,cf617E0,f1,f2,hget,g1,g5,aU,ew,go_sem,seval]
  exact ⟨by kernel_rfl,rfl⟩
theorem c611 (hf:pg.fs 611=some cf611) (h614:Ret pg 614 [] (.bool true)) (k:aA) (nl cl:Bool) (ds:List Val) (h8:Ret pg 8 [k.av] (.bool (EK k)))
  (h615:bG pg 615 [k.av,.sl nl (ds.map Val.av) cl] (qH k ds)) (h616:bG pg 616 [k.av,.sl nl (ds.map Val.av) cl] (qH k ds))
  (h617:∀ (P:List Sp) (C:List Int) (pk:Int),P.length<=big->C.length<=big->∀ n1 c1 n2 c2 n3 c3 n4 c4:Bool,Ret pg 617 [.agg [.sl n1 (P.map aU) c1,.sl n2 (C.map aF) c2,.int .i64 pk],.agg [.sl n3 (P.map aU) c3,.sl n4 (C.map aF) c4,.int .i64 pk]] (.bool true)) :
  Ret pg 611 [k.av,.sl nl (ds.map Val.av) cl] (.bool true):=by
 have key:∀ (P:List Sp) (C:List Int) (pk e:Int) (n1 c1 n2 c2 n3 c3 n4 c4:Bool),P.length<=big->C.length<=big ->
   Ret pg 615 [k.av,.sl nl (ds.map Val.av) cl] (.tup [.agg [.sl n1 (P.map aU) c1,.sl n2 (C.map aF) c2,.int .i64 pk],.int .i64 e])->Ret pg 616 [k.av,.sl nl (ds.map Val.av) cl] (.tup [.agg [.sl n3 (P.map aU) c3,.sl n4 (C.map aF) c4,.int .i64 pk],.int .i64 e]) ->
   Ret pg 611 [k.av,.sl nl (ds.map Val.av) cl] (.bool true):=by
  intro P C pk e n1 c1 n2 c2 n3 c3 n4 c4 hP hC a1 a2
  have a3:=h617 P C pk hP hC n1 c1 n2 c2 n3 c3 n4 c4
  have tl:=oP P
  rw [aA.avc] at h8 a1 a2
  refine Ret.ofX hf ?_
  unfold cf611
  have e0:decide (e=e)=true:=by simp
  simp only [go_sem,seval]
  refine aB h614 rfl rfl ?_
  simp only [go_sem,seval]
  refine aB h8 (by simp only [go_sem,seval]) rfl ?_
  cases EK k
  ·simp only [go_sem,seval]
   refine aB h614 rfl rfl ?_
   simp only [go_sem,seval]
  simp only [go_sem,seval]
  cases b1:decide (13 < (ds.length:Int))
  case true=>
   simp only [b1,go_sem,seval]
   refine aB h614 rfl rfl ?_
   simp only [go_sem,seval]
  simp only [b1,go_sem,seval]
  refine aB a1 (by simp only [go_sem,seval]) rfl ?_
  simp only [go_sem,seval]
  refine aB a2 (by simp only [go_sem,seval]) rfl ?_
  simp only [go_sem,seval]
  refine aB a3 (by simp only [tl,go_sem,seval]) rfl ?_
  simp only [e0,go_sem,seval]
 obtain ⟨r1,a1,s1⟩:=h615
 obtain ⟨r2,a2,s2⟩:=h616
 unfold qH at s1 s2
 by_cases hx:eW k ds=0
 ·rw [if_pos hx] at s1 s2
  obtain ⟨n1,c1,n2,c2,rfl⟩:=s1
  obtain ⟨n3,c3,n4,c4,rfl⟩:=s2
  exact key _ _ _ _ _ _ _ _ _ _ _ _ (by rw [l6];exact k.values.ok) (by simp only [bM,List.length_map,List.length_range];exact k.list.ok) a1 a2
 ·rw [if_neg hx] at s1 s2
  subst s1 s2
  exact key [] [] 0 _ _ _ _ _ _ _ _ _ (by simp) (by simp) a1 a2
end
end Go.Tev
end
section
namespace Go.Tev
structure CodePl (pg:Pg):Prop where
 f11:pg.fs 11=some cf11
 f12:pg.fs 12=some cf12
 f16:pg.fs 16=some cf16
 f17:pg.fs 17=some cf17
 f32:pg.fs 32=some cf32
 f33:pg.fs 33=some cf33
 f34:pg.fs 34=some cf34
 f35:pg.fs 35=some cf35
 f52:pg.fs 52=some cf52
 f53:pg.fs 53=some cf53
 f260:pg.fs 260=some cf260
 f261:pg.fs 261=some cf261
 f262:pg.fs 262=some cf262
 f263:pg.fs 263=some cf263
 f272:pg.fs 272=some cf272
 f273:pg.fs 273=some cf273
 f274:pg.fs 274=some cf274
 f275:pg.fs 275=some cf275
 f276:pg.fs 276=some cf276
 f292:pg.fs 292=some cf292
 f293:pg.fs 293=some cf293
 f294:pg.fs 294=some cf294
 f316:pg.fs 316=some cf316
 f611:pg.fs 611=some cf611
 f615:pg.fs 615=some cf615
 f616:pg.fs 616=some cf616
 f617:pg.fs 617=some cf617
 f623:pg.fs 623=some cf623
 f624:pg.fs 624=some cf624
 f625:pg.fs 625=some cf625
 f626:pg.fs 626=some cf626
 f629:pg.fs 629=some cf629
 f633:pg.fs 633=some cf633
 f634:pg.fs 634=some cf634
 f635:pg.fs 635=some cf635
 f638:pg.fs 638=some cf638
 f644:pg.fs 644=some cf644
section
variable {pg:Pg}
theorem HZ {k:aA} (hk:KOK k):∀ q∈k.list.es,q.body.ok/\q.index.ok/\q.body.sz+q.index.sz+1<=big:=fun q hq=>by
 obtain ⟨h1,h2,_,_⟩:=hk.ks q hq
 have:=hk.sz q hq
 exact ⟨h1,h2,by omega⟩
theorem SM (C:Go.Tev.Code pg) (D:Code3 pg) (M:CodePl pg) (A:Ora pg) (O:TN pg) (h614:Ret pg 614 [] (.bool true)) (k:aA) (hk:KOK k) (nl cl:Bool) (ds:List Val) (hb:ds.length<=big) :
  Ret pg 611 [k.av,.sl nl (ds.map Val.av) cl] (.bool true):=by
 have B:=IJ A C.f57 C.f91 C.f126 C.f108 C.f94 C.f132 C.f133 C.f134 C.f171
 have h51:∀ l:Lin,Ret pg 51 [l.av] (.bool (dU l)):=c51 C.f51 C.f89 B.name
 have h77:∀ s:Str,Ret pg 77 [.str s.bs] (.bool (fF s.bs)):=fun s=>c77 D.f77 D.f114 D.f115 s.bs s.ok
 have h54:∀ l:Lin,Ret pg 54 [l.av] (.bool (dU l)):=c54 D.f54 h77 D.f90
 have h9:=YU C A k hk
 have h10:=VB C D k hk
 have h32:=fun l nl cl ds hb=>WS M.f32 h51 M.f52 M.f53 l nl cl ds hb
 have h33:=fun t=>WQ M.f33 h32 t nl cl ds hb
 have h34:=fun l nl cl ds hb=>WP M.f34 h54 l nl cl ds hb
 have h35:=fun t=>c35 M.f35 h34 t nl cl ds hb
 have h16:=XP M.f16 k h9 nl cl ds hb (fun l=>h32 l nl cl ds hb) h33
 have h17:=c17 M.f17 k h10 nl cl ds hb (fun l=>h34 l nl cl ds hb) h35
 have h275:jN k->∀ (nl cl:Bool) (at_ v:Nat),at_ < k.list.es.length->v < k.values.es.length->Ret pg 275 [k.av,.sl nl ((aJ k).map aU) cl,.int .i64 at_,.int .i64 v] (.bool (nM k at_ v)):=
  fun ok nl cl at_ v h1 h2=>c275 M.f275 (c65 C.f65 (c104 C.f104 C.f67 C.f142 C.f106)) (fun p hp hs=>c48 (zK A) C.f48 C.f74 p hp hs) (fun nl cl es hb v=>c293 M.f293 M.f316 nl cl es hb v)
   (fun v rank p hp=>c260 A M.f260 M.f272 M.f273 M.f274 M.f292 C.f108 v rank p hp) k ok (HZ hk) nl cl at_ v h1 h2
 have h276:jN k->∀ (nl cl:Bool) (at_ v:Nat),at_ < k.list.es.length->v < k.values.es.length->Ret pg 276 [k.av,.sl nl ((aJ k).map aU) cl,.int .i64 at_,.int .i64 v] (.bool (nM k at_ v)):=
  fun ok nl cl at_ v h1 h2=>c276 M.f276 (c88 D.f88 (c121 D.f121 D.f162 D.f191)) (fun p hp hs v=>c294 M.f294 (c37 D.f37 D.f55) p hp hs v)
   (fun v rank p hp=>c261 M.f261 (U1 D.f122 D.f163) (c162 D.f162 D.f191) v rank p hp) k ok (HZ hk) nl cl at_ v h1 h2
 have h262:=c262 M.f262 k h9 h275
 have h263:=c263 M.f263 k h10 h276
 have h623:=fun nl cl es hb hnl s=>c623 O M.f623 M.f629 M.f633 M.f644 M.f634 M.f635 nl cl es hb hnl s
 have h626:=fun nl cl es hb s=>c626 M.f626 M.f638 nl cl es hb s
 have h624:=fun nl cl a b n hn=>c624 M.f624 C.f47 C.f73 nl cl a b n hn
 have h615:=c615 M.f615 M.f625 k hk nl cl ds h16 h262 h624 h623 (fun at_=>c11 M.f11 k h9 at_)
 have h616:=c616 M.f616 k nl cl ds h17 h263 h626 (fun at_=>c12 M.f12 k h10 at_)
 exact c611 M.f611 h614 k nl cl ds (YV C k hk) h615 h616 (fun P C pk hP hC n1 c1 n2 c2 n3 c3 n4 c4=>c617 M.f617 D.f15 P C pk hP hC n1 c1 n2 c2 n3 c3 n4 c4)
end
end Go.Tev
end
