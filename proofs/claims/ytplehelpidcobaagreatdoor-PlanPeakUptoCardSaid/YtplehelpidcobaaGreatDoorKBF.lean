import Derived.Test.YtplehelpidcobaaGreatDoorKBE
import Derived.Test.YtplehelpidcobaaGreatDoorKBC
set_option linter.all false
section
namespace Go.Tev
theorem JK {a b:List Sp} (h:a.Perm b):S2 a=S2 b:=by
 induction h with
 | nil=>rfl
 | cons x _ ih=>simp only [S2,ih]
 | swap x y l=>simp only [S2];omega
 | trans _ _ h1 h2=>rw [h1,h2]
theorem qN:∀ (l:List Sp) (L P:Int),L<=P->l.Pairwise (fun p q=>p.1<=q.1)->l.Pairwise (fun p q=>gH p q=false)->(∀ p∈l,0<=p.2)->(∀ p∈l,0 < p.2->L<=p.1/\p.1+p.2<=P)->L+S2 l<=P
 | [],L,P,h,_,_,_,_=>by simp only [S2];omega
 | p :: r,L,P,h,hs,hm,h0,hb=>by
  rw [List.pairwise_cons] at hs hm
  have hp0:=h0 p (by simp)
  simp only [S2]
  by_cases hz:p.2=0
  ·have:=qN r L P h hs.2 hm.2 (fun q hq=>h0 q (by simp [hq])) (fun q hq=>hb q (by simp [hq]))
   omega
  ·have hpb:=hb p (by simp) (by omega)
   have:=qN r (p.1+p.2) P hpb.2 hs.2 hm.2 (fun q hq=>h0 q (by simp [hq])) (fun q hq hq0=>by
    have h1:=hs.1 q hq
    have h2:=hm.1 q hq
    have h3:=(hb q (by simp [hq]) hq0).2
    refine ⟨?_,h3⟩
    by_cases hx:p.1+p.2<=q.1
    ·exact hx
    ·have:gH p q=true:=fQ.2 ⟨by omega,hq0,by omega,by omega⟩
     rw [this] at h2;cases h2)
   omega
theorem aAX {l:List Sp} {P:Int} (h:0<=P) (hm:l.Pairwise (fun p q=>gH p q=false)) (h0:∀ p∈l,0<=p.2) (hb:∀ p∈l,0 < p.2->0<=p.1/\p.1+p.2<=P):S2 l<=P:=by
 have hp:(vU l).Perm l:=List.mergeSort_perm l _
 rw [<- JK hp]
 have hm':(vU l).Pairwise (fun p q=>gH p q=false):=(hp.pairwise_iff (fun {x y} hxy=>by rw [pC];exact hxy)).2 hm
 have:=qN (vU l) 0 P h (oV l) hm' (fun p hp'=>h0 p ((nX l p).1 hp')) (fun p hp'=>hb p ((nX l p).1 hp'))
 omega
theorem nF (at_:Int):∀ (n:Nat) (d:List Sp),d.length=n->(cW at_ d).Nodup/\(cW at_ d).length<=d.length
 | 0,d,h=>by
  obtain rfl:=List.eq_nil_of_length_eq_zero h
  simp [cW]
 | n+1,d,h=>by
  rcases List.eq_nil_or_concat d with hz | ⟨e,x,hz⟩
  ·subst hz;simp at h
  ·have hz:d=e++[x]:=by simpa using hz
   subst hz
   obtain ⟨ih,il⟩:=nF at_ n e (by simpa using h)
   rw [mP]
   constructor
   ·split
    ·rw [List.nodup_append]
     refine ⟨ih,by simp,?_⟩
     intro a ha b hb he
     simp at hb
     subst hb
     obtain ⟨s,h1,h2,_⟩:=iL.1 ha
     have:=(List.getElem?_eq_some_iff.1 h2).1
     omega
    ·simpa using ih
   ·split<;>simp<;>omega
def plI (P:List Sp) (v:Int):Sp:=plc P v.toNat
theorem I4 (S:List Int) (P:List Sp):∀ (l:List Int) (a:Int),0<=a->a+4096*l.length<=1000000000->(∀ v∈l,(plI P v).2=(S[v.toNat]?).getD 0/\0<=(plI P v).2/\(plI P v).2<=4096) ->
  l.foldl (fun a v=>wr .i64 (a+(S[v.toNat]?).getD 0)) a=a+S2 (l.map (plI P))
 | [],a,_,_,_=>by simp [S2]
 | v :: r,a,h0,h1,h=>by
  obtain ⟨e1,e2,e3⟩:=h v (by simp)
  simp only [List.length_cons] at h1
  rw [List.foldl_cons,<- e1,aV (by omega) (by omega),I4 S P r _ (by omega) (by omega) (fun w hw=>h w (by simp [hw])),List.map_cons,S2]
  omega
section
variable {k:aA} {ds:List Val} {s:PS}
theorem xI {w:Nat} {a:Sp} {j:Nat} {q:aD} (ha:(aF k)[w]?=some a) (he:a.1=(j:Int)) (hq:k.list.es[j]?=some q):w=q.value.toNat:=by
 rcases oG (xC ha) with h | ⟨h,_⟩ | ⟨i,x,h1,h2,h3⟩
 ·omega
 ·omega
 ·obtain rfl:i=j:=by omega
  rw [hq] at h1
  cases h1
  exact h2.symm
theorem GX {sz:List Int} (h:Inv k sz (Bef k k.list.es.length) s) {at_:Int} {v w:Int} (hv:v∈cW at_ (aF k)) (hw:w∈cW at_ (aF k)) (hne:v ≠ w) (hm:gH (plI s.1 v) (plI s.1 w)=true) :
  ∃ j:Nat,at_=j/\0<=eC k j/\∀ q,k.list.es[j]?=some q->v.toNat=q.value.toNat\/w.toNat=q.value.toNat:=by
 obtain ⟨a,v0,ha,hla⟩:=iL.1 hv
 obtain ⟨b,w0,hb,hlb⟩:=iL.1 hw
 simp only [fN,Bool.and_eq_true,Bool.not_eq_true',decide_eq_false_iff_not,decide_eq_true_eq] at hla hlb
 have hDv:Bef k k.list.es.length v.toNat:=zT (at_:=at_) ha hla.1.1
 have hDw:Bef k k.list.es.length w.toNat:=zT (at_:=at_) hb hlb.1.1
 have hnn:v.toNat ≠ w.toNat:=by omega
 by_cases hab:a.1<=b.1
 ·obtain ⟨⟨j,x1,x2,x3⟩,_⟩:=h.dj _ _ a b hDv hDw hnn ha hb hab (by omega) hm
  exact ⟨j,by omega,by omega,fun q hq => .inr (xI hb x1 hq)⟩
 ·simp only [plI] at hm
  rw [pC] at hm
  obtain ⟨⟨j,x1,x2,x3⟩,_⟩:=h.dj _ _ b a hDw hDv (fun e=>hnn e.symm) hb ha (by omega) (by omega) hm
  exact ⟨j,by omega,by omega,fun q hq => .inl (xI ha x1 hq)⟩
theorem pE {sz:List Int} (hz:∀ v,0<=aW sz v/\aW sz v<=4096) (h:Inv k sz (Bef k k.list.es.length) s) {at_:Int} {v:Int} (hv:v∈cW at_ (aF k)) :
  (plI s.1 v).2=aW sz v.toNat/\0<=(plI s.1 v).2/\(plI s.1 v).2<=4096/\0<=(plI s.1 v).1/\(plI s.1 v).1+(plI s.1 v).2<=s.2:=by
 obtain ⟨a,v0,ha,hla⟩:=iL.1 hv
 simp only [fN,Bool.and_eq_true,Bool.not_eq_true',decide_eq_false_iff_not,decide_eq_true_eq] at hla
 have hD:Bef k k.list.es.length v.toNat:=zT (at_:=at_) ha hla.1.1
 have h1:=h.pl _ hD
 have h2:=h.pe _ hD
 have h3:=hz v.toNat
 simp only [plI]
 omega
theorem A8 {sz:List Int} (hz:∀ v,0<=aW sz v/\aW sz v<=4096) (h:Inv k sz (Bef k k.list.es.length) s) {at_:Int} {l:List Int} (hl:∀ v∈l,v∈cW at_ (aF k)) (hn:l.Nodup)
  (hno:∀ j:Nat,at_=j->0<=eC k j->∃ q,k.list.es[j]?=some q/\∀ v∈l,v.toNat ≠ q.value.toNat):S2 (l.map (plI s.1))<=s.2:=by
 refine aAX h.nn ?_ ?_ ?_
 ·rw [List.pairwise_map]
  refine List.Pairwise.imp_of_mem ?_ hn
  intro v w hv hw hne
  cases hm:gH (plI s.1 v) (plI s.1 w)
  ·rfl
  ·obtain ⟨j,e1,e2,e3⟩:=GX h (hl v hv) (hl w hw) hne hm
   obtain ⟨q,q1,q2⟩:=hno j e1 e2
   rcases e3 q q1 with e | e
   ·exact absurd e (q2 v hv)
   ·exact absurd e (q2 w hw)
 ·intro p hp
  obtain ⟨v,hv,rfl⟩:=List.mem_map.1 hp
  exact (pE hz h (hl v hv)).2.1
 ·intro p hp _
  obtain ⟨v,hv,rfl⟩:=List.mem_map.1 hp
  have:=pE hz h (hl v hv)
  omega
theorem IT (ok:fP k) (hz:∀ v,0<=aW (d9 k ds) v/\aW (d9 k ds) v<=4096) (hn:k.values.es.length<=20) (h:Inv k (d9 k ds) (Bef k k.list.es.length) s) (j:Nat) :
  jZ j (nK k ds) 0=S2 ((cW ((j:Int) - 1) (aF k)).map (plI s.1)):=by
 obtain ⟨h1,h2,h3⟩:=B8 (ds:=ds) ok
 obtain ⟨p1,p2⟩:=DI (ds:=ds) ok
 have:=yS (d9 k ds) j 0 _ (nK k ds) rfl p2
 rw [p1] at this
 rw [<- this]
 obtain ⟨_,hlen⟩:=nF ((j:Int) - 1) _ (aF k) rfl
 rw [I4 (d9 k ds) s.1 _ 0 (Int.le_refl 0) (by omega) (fun v hv=>?_),Int.zero_add]
 have:=pE hz h hv
 refine ⟨?_,this.2.1,this.2.2.1⟩
 rw [this.1,aW,List.getD_eq_getElem?_getD]
theorem J3 (ok:fP k) (hz:∀ v,0<=aW (d9 k ds) v/\aW (d9 k ds) v<=4096) (hn:k.values.es.length<=20) (h:Inv k (d9 k ds) (Bef k k.list.es.length) s) (j:Nat) (hno:∀ i:Nat,(j:Int) - 1=i->¬ 0<=eC k i) :
  jZ j (nK k ds) 0<=s.2:=by
 rw [IT ok hz hn h]
 exact A8 hz h (fun v hv=>hv) (nF _ _ _ rfl).1 (fun i h1 h2=>absurd h2 (hno i h1))
theorem GQ (ok:fP k) (hz:∀ v,0<=aW (d9 k ds) v/\aW (d9 k ds) v<=4096) (hn:k.values.es.length<=20) (h:Inv k (d9 k ds) (Bef k k.list.es.length) s) (i:Nat) {q:aD} (hq:k.list.es[i]?=some q) (hc:0<=eC k i) :
  jZ (i+1) (nK k ds) 0 - aW (d9 k ds) q.value.toNat<=s.2:=by
 have hlt:=(List.getElem?_eq_some_iff.1 hq).1
 have hes:k.list.es=k.list.es.take i++q :: k.list.es.drop (i+1):=by
  rw [<- (List.getElem?_eq_some_iff.1 hq).2,<- List.drop_eq_getElem_cons hlt,List.take_append_drop]
 have hlen:(k.list.es.take i).length=i:=by simp;omega
 obtain ⟨c,sc,u,e1,hcv,hsc,hu,hu1,hs1,hs2,hsz⟩:=uD ok ds hes (by rw [hlen];exact hc)
 rw [hlen] at hu1
 have hub:=sD k u (List.mem_of_getElem? hu)
 have hmem:(q.value.toNat:Int)∈cW ((i+1:Nat) - 1:Int) (aF k):=by
  refine iL.2 ⟨u,by omega,by rw [Int.toNat_natCast];exact hu,?_⟩
  simp only [fN,Bool.and_eq_true,Bool.not_eq_true',decide_eq_false_iff_not,decide_eq_true_eq]
  omega
 rw [IT ok hz hn h]
 have hnd:=(nF ((i+1:Nat) - 1:Int) _ (aF k) rfl).1
 have hperm:=List.perm_cons_erase hmem
 rw [JK (hperm.map (plI s.1)),List.map_cons,S2,(pE hz h hmem).1,Int.toNat_natCast]
 have:=A8 hz h (at_:=((i+1:Nat) - 1:Int)) (l:=(cW ((i+1:Nat) - 1:Int) (aF k)).erase (q.value.toNat:Int)) (fun v hv=>List.mem_of_mem_erase hv) (hnd.erase _) (fun j hj _=>by
  obtain rfl:j=i:=by omega
  refine ⟨q,hq,fun v hv=>?_⟩
  have hne:=(hnd.mem_erase_iff.1 hv).1
  obtain ⟨_,v0,_⟩:=iL.1 (List.mem_of_mem_erase hv)
  omega)
 omega
end
end Go.Tev
end
section
namespace Go.Tev
section
variable {pg:Pg}
end
end Go.Tev
end
section
namespace Go.Tev
theorem LM {k:aA} {ds:List Val} (h:dS k ds=0) (v:Nat):0<=aW (d9 k ds) v/\aW (d9 k ds) v<=4096:=by
 obtain ⟨hc,hD,hS⟩:=eM h
 have ok:=dZ hc
 rw [aW,List.getD_eq_getElem?_getD]
 cases hg:(d9 k ds)[v]? with
 | none=>simp
 | some z=>
  have:=uN hD _ _ (vA ok).2 hS z (List.mem_of_getElem? hg)
  simp only [Option.getD_some]
  omega
theorem E9 {k:aA} (h:wX k=true):k.values.es.length<=20/\k.list.es.length<=16:=by
 simp only [wX,Bool.and_eq_true,decide_eq_true_eq] at h
 omega
theorem RP (sz:List Int):∀ (P:List Sp) (i:Nat),(∀ v,v < P.length->(plc P v).2<=aW sz (i+v))->SS sz i+S2 P<=SS sz (i+P.length)
 | [],i,_=>by simp [S2]
 | p :: r,i,h=>by
  have h0:=h 0 (by simp)
  have ih:=RP sz r (i+1) (fun v hv=>by
   have:=h (v+1) (by simpa using hv)
   rw [show i+1+v=i+(v+1) from by omega]
   simpa [plc] using this)
  have e:(plc (p :: r) 0).2=p.2:=rfl
  rw [e,Nat.add_zero] at h0
  rw [show i+(p :: r).length=i+1+r.length from by simp;omega]
  rw [SS] at ih
  simp only [S2]
  omega
def EK (k:aA) (ds:List Val) (i:Nat):Int:=
 if 0 < i/\i<=k.list.es.length/\0<=eC k (i - 1) then (match k.list.es[i - 1]? with | some q=>jZ i (nK k ds) 0 - aW (d9 k ds) q.value.toNat | none=>jZ i (nK k ds) 0) else jZ i (nK k ds) 0
structure RQ (k:aA) (ds:List Val) (s:PS):Prop where
 len:s.1.length=k.values.es.length
 inp:∀ v,v < k.inputs.toNat->0 < aW (d9 k ds) v->(plc s.1 v).1=SS (d9 k ds) v
 en:s.2=0\/∃ v,v < s.1.length/\en (plc s.1 v)=s.2
 up:s.2<=SS (d9 k ds) k.values.es.length
 need:∀ i,i < k.list.es.length+2->EK k ds i<=s.2
theorem MA {k:aA} {ds:List Val} (hx:dS k ds=0) (hf:wX k=true):RQ k ds (gO k (d9 k ds) k.list.es):=by
 have ok:=dZ (eM hx).1
 have hz:=LM hx
 obtain ⟨hn,_⟩:=E9 hf
 have hi:k.inputs.toNat<=k.values.es.length:=by
  have:=ok.out
  simp only [aX,Bool.and_eq_true,decide_eq_true_eq] at this
  obtain ⟨_,⟨⟨⟨⟨⟨⟨_,_⟩,hi0⟩,_⟩,hiV⟩,_⟩,_⟩,_⟩:=this
  omega
 have h:=QH ok ds hz hn hi
 have hq:∀ q∈k.list.es.take k.list.es.length,q.value.toNat < k.values.es.length:=by
  intro q hq
  rw [List.take_length] at hq
  obtain ⟨d,r,hes⟩:=List.append_of_mem hq
  obtain ⟨h0,h1,_⟩:=dJ (ok.ker d q r hes)
  have:=CT ok
  omega
 have hg:=(uU (k:=k) (sz:=d9 k ds) (fun v=>⟨(hz v).1,by have:=(hz v).2;omega⟩) hi k.list.es.length hq).1
 rw [List.take_length] at hg
 refine ⟨h.len,fun v hv hs=>h.inp v hv ((FZ v).1 hv |>.elim fun a ⟨h1,h2,h3⟩=>⟨a,h1,h2,by omega⟩) hs,hg.at_,?_,?_⟩
 ·have h1:=RP (d9 k ds) (gO k (d9 k ds) k.list.es).1 0 (fun v _=>by
   rw [Nat.zero_add]
   by_cases hd:Bef k k.list.es.length v
   ·rw [(h.pl v hd).2];exact Int.le_refl _
   ·rw [h.no v hd];exact (hz v).1)
  rw [SS,Nat.zero_add,h.len] at h1
  have:=h.up
  omega
 ·intro i hi2
  rw [EK]
  split
  ·rename_i hc
   obtain ⟨j,rfl⟩:∃ j,i=j+1:=⟨i - 1,by omega⟩
   rw [Nat.add_sub_cancel] at hc ⊢
   have hlt:j < k.list.es.length:=by omega
   rw [List.getElem?_eq_getElem hlt]
   exact GQ ok hz hn h j (List.getElem?_eq_getElem hlt) hc.2.2
  ·rename_i hc
   refine J3 ok hz hn h i (fun j hj hcj=>hc ?_)
   obtain rfl:i=j+1:=by omega
   refine ⟨by omega,?_,by rw [Nat.add_sub_cancel];exact hcj⟩
   by_cases hlt:j < k.list.es.length
   ·omega
   ·exfalso
    rw [eC] at hcj
    rcases pJ (fun v=>qR k (j:Int) (v:Int)) k.values.es.length 0 with h | ⟨c,h1,h2,_,h3⟩
    ·rw [h] at hcj;exact absurd hcj (by decide)
    ·simp only [qR,Int.toNat_natCast,List.getElem?_eq_none (Nat.le_of_not_lt hlt)] at h2
     cases h2
theorem U4 {sz:List Int} {I n:Nat}:SS sz (min n I)+(if n < I then aW sz n else 0)=SS sz (min (n+1) I):=by
 by_cases h:n < I
 ·rw [if_pos h,Nat.min_eq_left (by omega),Nat.min_eq_left (by omega),SS]
 ·rw [if_neg h,Nat.min_eq_right (by omega),Nat.min_eq_right (by omega),Int.add_zero]
theorem DH {sz:List Int} (hz:∀ v,0<=aW sz v/\aW sz v<=4096):∀ n:Nat,0<=SS sz n/\SS sz n<=4096*n
 | 0=>by simp [SS]
 | n+1=>by
  have:=DH (sz:=sz) hz n
  have:=hz n
  rw [SS]
  omega
theorem LA (P:List Sp) (pk:Int) (n:Nat) (x:Sp) (h:P[n]?=some x):(P.take (n+1)).any (fun p=>decide (en p=pk))=((P.take n).any (fun p=>decide (en p=pk))||decide (en x=pk)):=by
 obtain ⟨hl,he⟩:=List.getElem?_eq_some_iff.1 h
 rw [List.take_succ_eq_append_getElem hl,List.any_append,he]
 simp
theorem EG {P:List Sp} {n:Nat} {x:Sp} (h:P[n]?=some x):plc P n=x:=by rw [plc,List.getD_eq_getElem?_getD,h];rfl
def EN (s:PS) (n:Nat):Bool:=decide (s.2=0)||(s.1.take n).any (fun p=>decide (en p=s.2))
theorem RA {s:PS} {n:Nat} {x:Sp} (h:s.1[n]?=some x):EN s (n+1)=(EN s n||decide (wr .i64 (x.1+x.2)=s.2)):=by
 rw [EN,LA _ _ _ _ h,<- Bool.or_assoc];rfl
theorem U9 {k:aA} {ds:List Val} {s:PS} (h:RQ k ds s):EN s s.1.length=true:=by
 rw [EN,List.take_length]
 rcases h.en with h | ⟨v,hv,h⟩
 ·simp [h]
 ·rw [Bool.or_eq_true]
  right
  refine List.any_eq_true.2 ⟨s.1[v],List.getElem_mem hv,?_⟩
  rw [EG (List.getElem?_eq_getElem hv)] at h
  simpa using h
section
variable {pg:Pg}
set_option maxRecDepth 100000 in
set_option maxHeartbeats 4000000 in
theorem c612 (hf:pg.fs 612=some cf612) (h614:Ret pg 614 [] (.bool true)) (k:aA) (nl cl:Bool) (ds:List Val) (h8:Ret pg 8 [k.av] (.bool (wX k)))
  (h615:bK pg 615 [k.av,.sl nl (ds.map Val.av) cl] (yR k ds)) (h19:bK pg 19 [k.av,.sl nl (ds.map Val.av) cl] (pA k ds)) (h17:bK pg 17 [k.av,.sl nl (ds.map Val.av) cl] (fT k ds)) :
  Ret pg 612 [k.av,.sl nl (ds.map Val.av) cl] (.bool true):=by
 obtain ⟨r15,a15,s15⟩:=h615
 obtain ⟨r19,a19,s19⟩:=h19
 obtain ⟨r17,a17,s17⟩:=h17
 by_cases hx:dS k ds=0
 case neg=>
  rw [yR,if_neg hx] at s15
  rw [pA,if_neg hx] at s19
  rw [fT,if_neg hx] at s17
  subst s15 s19 s17
  have b0:decide (dS k ds=0)=false:=by simp [hx]
  have b1:decide (dS k ds=dS k ds)=true:=by simp
  rw [aA.avc] at h8 a15 a19 a17
  refine Ret.ofX hf ?_
  unfold cf612
  simp only [go_sem,seval]
  refine aB h614 rfl rfl ?_
  simp only [go_sem,seval]
  refine aB h8 (by simp only [go_sem,seval]) rfl ?_
  cases wX k
  ·simp only [go_sem,seval]
   refine aB h614 rfl rfl ?_
   simp only [go_sem,seval]
  simp only [go_sem,seval]
  cases b2:decide (13 < (ds.length:Int))
  case true=>
   simp only [b2,go_sem,seval]
   refine aB h614 rfl rfl ?_
   simp only [go_sem,seval]
  simp only [b2,go_sem,seval]
  refine aB a15 (by simp only [go_sem,seval]) rfl ?_
  simp only [go_sem,seval]
  refine aB a19 (by simp only [go_sem,seval]) rfl ?_
  simp only [go_sem,seval]
  refine aB a17 (by simp only [go_sem,seval]) rfl ?_
  simp only [b0,b1,go_sem,seval]
 rw [yR,if_pos hx] at s15
 rw [pA,if_pos hx] at s19
 rw [fT,if_pos hx] at s17
 obtain ⟨n1,c1,n2,c2,rfl⟩:=s15
 obtain ⟨n3,c3,rfl⟩:=s19
 obtain ⟨n4,c4,rfl⟩:=s17
 have tlP:=oU (gO k (d9 k ds) k.list.es).1
 rw [aA.avc] at h8 a15 a19 a17
 refine Ret.ofX hf ?_
 unfold cf612
 simp only [go_sem,seval]
 refine aB h614 rfl rfl ?_
 simp only [go_sem,seval]
 refine aB h8 (by simp only [go_sem,seval]) rfl ?_
 cases hfew:wX k
 ·simp only [go_sem,seval]
  refine aB h614 rfl rfl ?_
  simp only [go_sem,seval]
 simp only [go_sem,seval]
 cases b2:decide (13 < (ds.length:Int))
 case true=>
  simp only [b2,go_sem,seval]
  refine aB h614 rfl rfl ?_
  simp only [go_sem,seval]
 have PP:=MA hx hfew
 have hz:=LM hx
 have hzl:(d9 k ds).length=k.values.es.length:=DM (dZ (eM hx).1) ds
 have hfold:cP (dH ds) (aF k) k.values.es=d9 k ds:=rfl
 rw [hfold] at a17
 obtain ⟨hn20,hn16⟩:=E9 hfew
 have hcl:(bZ k).length=k.list.es.length:=by rw [pM,rB]
 generalize hs:gO k (d9 k ds) k.list.es=s at *
 generalize hsz:d9 k ds=sz at *
 have hP:s.1.length<=big:=by rw [PP.len];simp only [big];omega
 simp only [b2,go_sem,seval]
 refine aB a15 (by simp only [go_sem,seval]) rfl ?_
 simp only [go_sem,seval]
 refine aB a19 (by simp only [go_sem,seval]) rfl ?_
 simp only [go_sem,seval]
 refine aB a17 (by simp only [go_sem,seval]) rfl ?_
 have e1:decide ((s.1.length:Int)=(sz.length:Int))=true:=by rw [PP.len,hzl];simp
 have e2:decide (((bZ k).length:Int)=(k.list.es.length:Int))=true:=by rw [hcl];simp
 simp only [e1,e2,List.length_map,go_sem,seval]
 refine ⟨by kernel_rfl,?_⟩
 have hI0:0<=k.inputs:=CT (dZ (eM hx).1)
 refine aI s.1 (fun d r env hp=>env=cf612E0 (.pt 1 0 0) (.pt 21 0 0) (.sl n3 ((qQ k ds).map aH) c3) (.sl n4 (sz.map aH) c4) (.int .i64 (SS sz d.length)) (.bool (EN s d.length)) (.int .i64 (SS sz (min d.length k.inputs.toNat))) (.sl n1 (s.1.map bS) c1) (.int .i64 s.1.length) (.int .i64 d.length) /\
  hp.get 1=some (0,.blk k.cells 6 true true false)/\hp.get 21=some (0,.blk [.sl n1 (s.1.map bS) c1,.sl n2 ((bZ k).map aH) c2,.int .i64 s.2] 3 true true false)) ?_ ?_ ?_
 ·refine ⟨?_,rfl,rfl⟩
  have:EN s ([]:List Sp).length=decide (s.2=0):=by simp [EN]
  rw [this]
  simp only [List.length_nil,Nat.zero_min,SS]
  rfl
 ·rintro env hp ⟨rfl,g1,g21⟩
  have hup:=PP.up
  have e3:decide (s.2<=SS sz s.1.length)=true:=by rw [hsz] at hup;rw [PP.len];exact decide_eq_true hup
  have hNb:=KC hx
  have hend:=U9 PP
  have g1':=g1
  simp only [aA.cells,Sl.av] at g1
  rw [hend]
  simp only [cf612L0,cf612E0,bA,List.length_map,go_sem,seval]
  refine aI (qQ k ds) (fun d r env hp=>env=cf612E1 (.pt 1 0 0) (.pt 21 0 0) (.sl n4 (sz.map aH) c4) (.int .i64 (SS sz s.1.length)) (.bool true) (.sl n3 ((qQ k ds).map aH) c3) (.int .i64 (qQ k ds).length) (.int .i64 d.length) /\
   hp.get 1=some (0,.blk k.cells 6 true true false)/\hp.get 21=some (0,.blk [.sl n1 (s.1.map bS) c1,.sl n2 ((bZ k).map aH) c2,.int .i64 s.2] 3 true true false)) ?_ ?_ ?_
  ·exact ⟨rfl,g1',g21⟩
  ·rintro env hp ⟨rfl,g1,g21⟩
   simp only [cf612L1,cf612E1,bA,g1,g21,e3,go_sem,seval]
  ·rintro d x r env hp' hes ⟨rfl,g1,g21⟩
   obtain ⟨hget,f1,f2,ew⟩:=cG hes hNb
   have g1':=g1
   simp only [aA.cells,Sl.av] at g1
   have hlt:=(List.getElem?_eq_some_iff.1 hget).1
   have hlt2:d.length < k.list.es.length+2:=by simpa [qQ] using hlt
   have hxv:x=jZ d.length (nK k ds) 0:=by
    have:=hget
    rw [qQ,List.getElem?_map,List.getElem?_range hlt2] at this
    simpa using this.symm
   have hneed:=PP.need d.length hlt2
   clear hes a15 a19 a17 h8
   cases b6:decide (0 < (d.length:Int))
   ·have hd:¬ 0 < d.length:=by have:=of_decide_eq_false b6;omega
    rw [EK,if_neg (fun h=>hd h.1),<- hxv] at hneed
    have e5:decide (s.2 < x)=false:=decide_eq_false (by omega)
    simp only [cf612L1,cf612E1,f1,f2,hget,g1,g21,b6,e5,ew,go_sem,seval]
    exact ⟨rfl,rfl⟩
   have hd:0 < d.length:=by have:=of_decide_eq_true b6;omega
   cases b7:decide ((d.length:Int)<=(k.list.es.length:Int))
   ·have h7:¬ d.length<=k.list.es.length:=by have:=of_decide_eq_false b7;omega
    rw [EK,if_neg (fun h=>h7 h.2.1),<- hxv] at hneed
    have e5:decide (s.2 < x)=false:=decide_eq_false (by omega)
    simp only [cf612L1,cf612E1,f1,f2,hget,g1,g21,b6,b7,e5,ew,List.length_map,go_sem,seval]
    exact ⟨rfl,rfl⟩
   have h7:d.length<=k.list.es.length:=by have:=of_decide_eq_true b7;omega
   obtain ⟨j,hj⟩:∃ j,d.length=j+1:=⟨d.length - 1,by omega⟩
   have w5:wr .i64 ((d.length:Int) - 1)=(j:Int):=by rw [aV (by omega) (by omega)];omega
   have hjl:j < k.list.es.length:=by omega
   have l5:((j:Int) < ((bZ k).length:Int))=True:=eq_true (by rw [hcl];omega)
   have l6:((j:Int) < (k.list.es.length:Int))=True:=eq_true (by omega)
   have hcj:(bZ k)[j]?=some (eC k j):=by rw [pM,lB,List.getElem?_map,List.getElem?_range hjl];rfl
   have hcj':((bZ k).map aH)[j]?=some (aH (eC k j)):=by rw [List.getElem?_map,hcj];rfl
   rw [EK,show d.length - 1=j from by omega,<- hxv] at hneed
   cases b8:decide (0<=eC k j)
   ·have h8:=of_decide_eq_false b8
    rw [if_neg (fun h=>h8 h.2.2)] at hneed
    have e5:decide (s.2 < x)=false:=decide_eq_false (by omega)
    simp only [cf612L1,cf612E1,f1,f2,hget,g1,g21,b6,b7,w5,l5,hcj',b8,e5,ew,List.length_map,go_sem,seval]
    exact ⟨rfl,rfl⟩
   rw [if_pos ⟨hd,h7,of_decide_eq_true b8⟩,List.getElem?_eq_getElem hjl] at hneed
   simp only at hneed
   have hq:k.list.es[j]?=some k.list.es[j]:=List.getElem?_eq_getElem hjl
   generalize hqq:k.list.es[j]=q at hneed hq
   have hes2:k.list.es=k.list.es.take j++q :: k.list.es.drop (j+1):=by rw [<- hqq,<- List.drop_eq_getElem_cons hjl,List.take_append_drop]
   obtain ⟨q0,q1,_⟩:=dJ ((dZ (eM hx).1).ker _ _ _ hes2)
   obtain ⟨v,hv⟩:∃ v:Nat,q.value=v:=⟨q.value.toNat,by omega⟩
   have t1:(0<=(v:Int))=True:=eq_true (by omega)
   have t2:((v:Int) < (sz.length:Int))=True:=eq_true (by omega)
   have hzv:(sz.map aH)[v]?=some (aH (aW sz v)):=by
    rw [List.getElem?_map,aW,List.getD_eq_getElem?_getD,List.getElem?_eq_getElem (by omega)];rfl
   rw [hv,Int.toNat_natCast,hsz] at hneed
   have hxb:0<=x/\x<=1000000000:=by
    have h1:=MQ hx d.length
    have h2:=PP.need d.length hlt2
    have h3:=DH hz k.values.es.length
    have h4:=PP.up
    rw [hsz] at h4
    have h5:=hz v
    rw [hxv]
    rw [hxv] at hneed
    omega
   have hvb:=hz v
   have w6:wr .i64 (x - aW sz v)=x - aW sz v:=aV (by omega) (by omega)
   have e5:decide (s.2 < x - aW sz v)=false:=decide_eq_false (by omega)
   simp only [cf612L1,cf612E1,f1,f2,hget,g1,g21,b6,b7,w5,l5,hcj',b8,List.length_map,go_sem,seval]
   simp only [l6,hq,aD.avc,hv,t1,t2,hzv,w6,e5,ew,g1,g21,go_sem,seval]
   exact ⟨rfl,rfl⟩
 ·rintro d x r env hp hes ⟨rfl,g1,g21⟩
  obtain ⟨hget,f1,f2,ew⟩:=cG hes hP
  have hlt:d.length < k.values.es.length:=by rw [<- PP.len];exact (List.getElem?_eq_some_iff.1 hget).1
  have hl:(d++[x]).length=d.length+1:=by simp
  have hz0:sz[d.length]?=some (aW sz d.length):=by
   rw [aW,List.getD_eq_getElem?_getD,List.getElem?_eq_getElem (by omega)];rfl
  have hz':(sz.map aH)[d.length]?=some (aH (aW sz d.length)):=by rw [List.getElem?_map,hz0];rfl
  have l1:((d.length:Int) < (sz.length:Int))=True:=eq_true (by omega)
  have pl:plc s.1 d.length=x:=EG hget
  have hzd:=hz d.length
  have hsb:=DH hz d.length
  have hsm:=DH hz (min d.length k.inputs.toNat)
  have w1:wr .i64 (SS sz d.length+aW sz d.length)=SS sz (d.length+1):=by rw [SS];exact aV (by omega) (by omega)
  have hE1:=RA hget
  have hmin := @U4 sz k.inputs.toNat d.length
  have g1':=g1
  simp only [aA.cells,Sl.av] at g1
  clear hes a15 a19 a17 h8
  have hMn:¬ (d.length < k.inputs.toNat/\0 < aW sz d.length)->SS sz (min (d++[x]).length k.inputs.toNat)=SS sz (min d.length k.inputs.toNat):=by
   intro h
   rw [hl,<- hmin]
   split
   ·omega
   ·omega
  cases hE:EN s d.length<;>(rw [hE] at hE1)<;>cases b4:decide ((d.length:Int) < k.inputs)<;>cases b5:decide (0 < aW sz d.length)
  case false.true.true=>
   have h4:=of_decide_eq_true b4
   have hlI:d.length < k.inputs.toNat:=by omega
   rw [if_pos hlI] at hmin
   have w3:wr .i64 (SS sz (min d.length k.inputs.toNat)+aW sz d.length)=SS sz (min (d.length+1) k.inputs.toNat):=by rw [<- hmin];exact aV (by omega) (by omega)
   have ha:decide (x.1=SS sz (min d.length k.inputs.toNat))=true:=by
    rw [Nat.min_eq_left (by omega),<- pl]
    exact decide_eq_true (hsz ▸ PP.inp d.length hlI (by rw [hsz];exact of_decide_eq_true b5))
   simp only [cf612L0,cf612E0,f1,f2,hget,g1,g21,hz',l1,b4,b5,ew,w1,w3,ha,bS,go_sem,seval]
   refine ⟨?_,rfl⟩
   rw [hl,hE1]
   rfl
  case true.true.true=>
   have h4:=of_decide_eq_true b4
   have hlI:d.length < k.inputs.toNat:=by omega
   rw [if_pos hlI] at hmin
   have w3:wr .i64 (SS sz (min d.length k.inputs.toNat)+aW sz d.length)=SS sz (min (d.length+1) k.inputs.toNat):=by rw [<- hmin];exact aV (by omega) (by omega)
   have ha:decide (x.1=SS sz (min d.length k.inputs.toNat))=true:=by
    rw [Nat.min_eq_left (by omega),<- pl]
    exact decide_eq_true (hsz ▸ PP.inp d.length hlI (by rw [hsz];exact of_decide_eq_true b5))
   simp only [cf612L0,cf612E0,f1,f2,hget,g1,g21,hz',l1,b4,b5,ew,w1,w3,ha,bS,go_sem,seval]
   refine ⟨?_,rfl⟩
   rw [hl,hE1]
   rfl
  all_goals
   have hM:=hMn (by simp at b4 b5;omega)
   simp only [cf612L0,cf612E0,f1,f2,hget,g1,g21,hz',l1,b4,b5,ew,w1,bS,go_sem,seval]
   refine ⟨?_,rfl⟩
   rw [hM,hl,hE1]
   rfl
end
end Go.Tev
end
section
namespace Go.Tev
structure CodePk (pg:Pg):Prop where
 f11:pg.fs 11=some cf11
 f12:pg.fs 12=some cf12
 f16:pg.fs 16=some cf16
 f17:pg.fs 17=some cf17
 f19:pg.fs 19=some cf19
 f32:pg.fs 32=some cf32
 f33:pg.fs 33=some cf33
 f34:pg.fs 34=some cf34
 f35:pg.fs 35=some cf35
 f52:pg.fs 52=some cf52
 f53:pg.fs 53=some cf53
 f260:pg.fs 260=some cf260
 f262:pg.fs 262=some cf262
 f272:pg.fs 272=some cf272
 f273:pg.fs 273=some cf273
 f274:pg.fs 274=some cf274
 f275:pg.fs 275=some cf275
 f292:pg.fs 292=some cf292
 f293:pg.fs 293=some cf293
 f316:pg.fs 316=some cf316
 f612:pg.fs 612=some cf612
 f615:pg.fs 615=some cf615
 f623:pg.fs 623=some cf623
 f624:pg.fs 624=some cf624
 f625:pg.fs 625=some cf625
 f629:pg.fs 629=some cf629
 f633:pg.fs 633=some cf633
 f634:pg.fs 634=some cf634
 f635:pg.fs 635=some cf635
 f644:pg.fs 644=some cf644
section
variable {pg:Pg}
theorem QE {k:aA} (hk:KOK k):∀ q∈k.list.es,q.body.ok/\q.index.ok/\q.body.sz+q.index.sz+1<=big:=fun q hq=>by
 obtain ⟨h1,h2,_,_⟩:=hk.ks q hq
 have:=hk.sz q hq
 exact ⟨h1,h2,by omega⟩
theorem TX (C:Go.Tev.Code pg) (D:Code3 pg) (M:CodePk pg) (A:Ora pg) (O:U5 pg) (h614:Ret pg 614 [] (.bool true)) (k:aA) (hk:KOK k) (nl cl:Bool) (ds:List Val) (hb:ds.length<=big) :
  Ret pg 612 [k.av,.sl nl (ds.map Val.av) cl] (.bool true):=by
 have B:=JD A C.f57 C.f91 C.f126 C.f108 C.f94 C.f132 C.f133 C.f134 C.f171
 have h51:∀ l:Lin,Ret pg 51 [l.av] (.bool (d6 l)):=c51 C.f51 C.f89 B.name
 have h77:∀ s:Str,Ret pg 77 [.str s.bs] (.bool (fM s.bs)):=fun s=>c77 D.f77 D.f114 D.f115 s.bs s.ok
 have h54:∀ l:Lin,Ret pg 54 [l.av] (.bool (d6 l)):=c54 D.f54 h77 D.f90
 have h9:=aCT C A k hk
 have h10:=WN C D k hk
 have h32:=fun l nl cl ds hb=>aBI M.f32 h51 M.f52 M.f53 l nl cl ds hb
 have h33:=fun t=>aBH M.f33 h32 t nl cl ds hb
 have h34:=fun l nl cl ds hb=>aBG M.f34 h54 l nl cl ds hb
 have h35:=fun t=>c35 M.f35 h34 t nl cl ds hb
 have h16:=aCg M.f16 k h9 nl cl ds hb (fun l=>h32 l nl cl ds hb) h33
 have h17:=c17 M.f17 k h10 nl cl ds hb (fun l=>h34 l nl cl ds hb) h35
 have h275:fP k->∀ (nl cl:Bool) (at_ v:Nat),at_ < k.list.es.length->v < k.values.es.length->Ret pg 275 [k.av,.sl nl ((aF k).map bS) cl,.int .i64 at_,.int .i64 v] (.bool (qR k at_ v)):=
  fun ok nl cl at_ v h1 h2=>c275 M.f275 (c65 C.f65 (c104 C.f104 C.f67 C.f142 C.f106)) (fun p hp hs=>c48 (zU A) C.f48 C.f74 p hp hs) (fun nl cl es hb v=>c293 M.f293 M.f316 nl cl es hb v)
   (fun v rank p hp=>c260 A M.f260 M.f272 M.f273 M.f274 M.f292 C.f108 v rank p hp) k ok (QE hk) nl cl at_ v h1 h2
 have h262:=c262 M.f262 k h9 h275
 have h623:=fun nl cl es hb hnl s=>c623 O M.f623 M.f629 M.f633 M.f644 M.f634 M.f635 nl cl es hb hnl s
 have h624:=fun nl cl a b n hn=>c624 M.f624 C.f47 C.f73 nl cl a b n hn
 have h615:=c615 M.f615 M.f625 k hk nl cl ds h16 h262 h624 h623 (fun at_=>c11 M.f11 k h9 at_)
 have h19:=c19 M.f19 k nl cl ds h17 (fun at_=>c12 M.f12 k h10 at_)
 exact c612 M.f612 h614 k nl cl ds (aCU C k hk) h615 h19 h17
end
end Go.Tev
end
