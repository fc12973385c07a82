import Derived.Test.YtdpdokigjeaaiaaGreatDoorEvCm
set_option linter.all false
section
namespace Go.Tev
open Go.RowKit
structure Tr where
 d:Option Nat
 v:AV
 e:Eff
def Tr.app (x:Tr) (s:St):St:=⟨setD s.env x.d x.v,x.e.app s.hp⟩
def foldB (b:Nat→Bool):Nat→List Tr→St→St
 | _,[],s=>s
 | i,x :: l,s=>foldB b (i+1) l (if b i then x.app s else s)
def stepV (gl:Nat→Option AV) (call:Caller) (kb:Nat) (r:R) (st:St):Option (AV × Eff):=
 match wanted st.env r.gd with
 | none=>none
 | some false=>some (.tup [],.pat [] [])
 | some true=>opR call kb r st.hp (r.xs.map (X.ev gl st.env))
theorem stepR_eq (gl:Nat→Option AV) (call:Caller) (kb:Nat) (r:R) (st:St) :
  stepR gl call kb r st=(stepV gl call kb r st).map fun p=>((Tr.mk r.d p.1 p.2).app st,p.2):=by
 unfold stepR stepV
 rcases wanted st.env r.gd with _ | _ | _
 ·rfl
 ·rfl
 ·simp only
  cases opR call kb r st.hp (r.xs.map (X.ev gl st.env))<;>rfl
theorem foldB_congr {b c:Nat→Bool}:∀ {tr:List Tr} {i:Nat} {s:St},(∀ j,j < tr.length→b (i+j)=c (i+j))→foldB b i tr s=foldB c i tr s
 | [],_,_,_=>rfl
 | x :: l,i,s,h=>by
  simp only [foldB]
  have h0:=h 0 (by simp)
  rw [Nat.add_zero] at h0
  rw [h0]
  exact foldB_congr (fun j hj=>by
   have:=h (j+1) (by simp;omega)
   rwa [Nat.add_comm j 1,← Nat.add_assoc] at this)
theorem foldB_none {b:Nat→Bool}:∀ {tr:List Tr} {i:Nat} {s:St},(∀ j,j < tr.length→b (i+j)=false)→foldB b i tr s=s
 | [],_,_,_=>rfl
 | x :: l,i,s,h=>by
  simp only [foldB]
  have h0:=h 0 (by simp)
  rw [Nat.add_zero] at h0
  rw [h0]
  simp only [Bool.false_eq_true,if_false]
  exact foldB_none (fun j hj=>by
   have:=h (j+1) (by simp;omega)
   rwa [Nat.add_comm j 1,← Nat.add_assoc] at this)
theorem regsT_tr {gl:Nat→Option AV} {call:Caller} {kb:Nat}:∀ {rs:List R} {i0:Nat} {st st':St} {es:List Eff},regsT gl call kb rs st=some (st',es) →
  ∃ tr:List Tr,tr.length=rs.length∧(∀ i:Nat,(tr[i]?).map Tr.e=es[i]?)∧foldB (fun _=>true) i0 tr st=st' ∧
   ∀ (i:Nat) (r:R) (x:Tr),rs[i]?=some r→tr[i]?=some x→x.d=r.d∧stepV gl call kb r (foldB (fun j=>decide (j < i0+i)) i0 tr st)=some (x.v,x.e)
 | [],i0,st,st',es,h=>by
  simp [regsT] at h
  obtain ⟨rfl,rfl⟩:=h
  exact ⟨[],rfl,by simp,rfl,by simp⟩
 | r :: rs,i0,st,st',es,h=>by
  unfold regsT at h
  split at h
  case h_2=>cases h
  rename_i st1 e hs
  try simp only at h
  cases hr:regsT gl call kb rs st1 with
  | none=>simp [hr] at h
  | some p=>
   obtain ⟨st2,es2⟩:=p
   simp [hr] at h
   obtain ⟨rfl,rfl⟩:=h
   rw [stepR_eq] at hs
   cases hv:stepV gl call kb r st with
   | none=>simp [hv] at hs
   | some p=>
    obtain ⟨v,e'⟩:=p
    simp [hv] at hs
    obtain ⟨hs1,rfl⟩:=hs
    obtain ⟨tr,t1,t2,t3,t4⟩:=regsT_tr (i0:=i0+1) hr
    refine ⟨⟨r.d,v,e'⟩ :: tr,by simp [t1],?_,?_,?_⟩
    ·intro i
     cases i with
     | zero=>rfl
     | succ i=>simpa using t2 i
    ·simp only [foldB,if_true,hs1]
     exact t3
    ·intro i r' x hr' hx
     cases i with
     | zero=>
      simp at hr' hx
      subst hr' hx
      refine ⟨rfl,?_⟩
      have:foldB (fun j=>decide (j < i0+0)) i0 (⟨r.d,v,e'⟩ :: tr) st=st:=foldB_none (fun j _=>by simp)
      rw [this]
      exact hv
     | succ i=>
      obtain ⟨q1,q2⟩:=t4 i r' x (by simpa using hr') (by simpa using hx)
      refine ⟨q1,?_⟩
      rw [← q2]
      simp only [foldB]
      rw [if_pos (by simp),hs1]
      congr 1
      exact foldB_congr (fun j _=>by simp;omega)
structure Ag (uses:List Nat) (e:Eff) (s s2:St):Prop where
 len:s.env.length=s2.env.length
 env:∀ t∈uses,getT s2.env t=getT s.env t
 hp:match e with
  | .pat rd _=>Agree s.hp s2.hp rd
  | .whole _=>s2.hp=s.hp
  | .all _=>s2.hp=s.hp
theorem length_setD (env:List AV) (d:Option Nat) (v:AV):(setD env d v).length=env.length:=by
 cases d<;>simp [setD]
theorem getT_setD (env:List AV) (d:Option Nat) (v:AV) (t:Nat):getT (setD env d v) t=if d=some t∧t < env.length then v else getT env t:=by
 cases d with
 | none=>simp [setD]
 | some d=>
  simp only [setD,getT,List.getElem?_set]
  by_cases h:d=t
  ·subst h
   by_cases h2:d < env.length
   ·simp [h2]
   ·simp [h2]
  ·have:¬ (some d=some t∧t < env.length):=by simp [h]
   rw [if_neg h,if_neg this]
theorem Ag.refl (uses:List Nat) (e:Eff) (s:St):Ag uses e s s:=⟨rfl,fun _ _=>rfl,by cases e<;>simp [Agree]⟩
theorem Ag.both {uses:List Nat} {e:Eff} {s s2:St} (h:Ag uses e s s2) (x:Tr):Ag uses e (x.app s) (x.app s2):=by
 refine ⟨by simp [Tr.app,length_setD,h.len],?_,?_⟩
 ·intro t ht
  simp only [Tr.app,getT_setD,h.env t ht,h.len]
 ·have h3:=h.hp
  cases e with
  | pat rd pa=>
   intro q hq
   simp only at h3
   have:=h3 q hq
   simp only [Tr.app]
   cases x.e with
   | pat r2 p2=>exact get_putAll_of this p2
   | whole h'=>rfl
   | all p2=>exact get_putAll_of this p2
  | whole h'=>
   simp only at h3
   simp only [Tr.app]
   rw [h3]
  | all pa=>
   simp only at h3
   simp only [Tr.app]
   rw [h3]
def EA:Eff→Eff→Prop
 | .pat r1 p1,.pat r2 p2=>(∀ k∈p1.map (·.k),k ∉ r2∧k ∉ p2.map (·.k))∧(∀ k∈p2.map (·.k),k ∉ r1∧k ∉ p1.map (·.k))
 | .pat r p,.whole _ | .whole _,.pat r p=>r=[]∧p=[]
 | .whole _,.whole _=>False
 | .pat r p,.all pa | .all pa,.pat r p=>p=[]∧∀ k∈pa.map (·.k),k ∉ r
 | .whole _,.all _ | .all _,.whole _ | .all _,.all _=>False
theorem EA.symm {x y:Eff} (h:EA x y):EA y x:=by
 cases x<;>cases y<;>simp only [EA] at h ⊢ <;> first | exact ⟨h.2,h.1⟩ | exact h
theorem get_putAll_not {q:Nat}:∀ (pa:List Ent) (h:Hp),q ∉ pa.map (·.k)→(putAll h pa).get q=h.get q
 | [],_,_=>rfl
 | x :: r,h,hq=>by
  simp only [List.map_cons,List.mem_cons,not_or] at hq
  simp only [putAll]
  rw [get_putAll_not r _ hq.2,get_put,if_neg (fun e=>hq.1 e.symm)]
theorem Ag.onlyL {uses:List Nat} {e:Eff} {s s2:St} (h:Ag uses e s s2) (x:Tr) (hd:∀ d,x.d=some d→d ∉ uses) (he:EA e x.e):Ag uses e (x.app s) s2:=by
 refine ⟨by simp [Tr.app,length_setD,h.len],?_,?_⟩
 ·intro t ht
  simp only [Tr.app,getT_setD]
  rw [if_neg (fun q=>hd t q.1 ht)]
  exact h.env t ht
 ·have h3:=h.hp
  cases e with
  | pat rd pa=>
   intro q hq
   have:=h3 q hq
   simp only [Tr.app]
   cases hx:x.e with
   | pat r2 p2=>
    simp only [hx,EA] at he
    simp only [Eff.app]
    rw [get_putAll_not _ _ (fun hm=>(he.2 q hm).1 hq)]
    exact this
   | whole h'=>
    simp only [hx,EA] at he
    rw [he.1] at hq
    cases hq
   | all p2=>
    simp only [hx,EA] at he
    simp only [Eff.app]
    rw [get_putAll_not _ _ (fun hm=>he.2 q hm hq)]
    exact this
  | whole h'=>
   simp only at h3
   simp only [Tr.app]
   cases hx:x.e with
   | pat r2 p2=>
    simp only [hx,EA] at he
    rw [he.2]
    exact h3
   | whole h2=>simp [hx,EA] at he
   | all p2=>simp [hx,EA] at he
  | all pa=>
   simp only at h3
   simp only [Tr.app]
   cases hx:x.e with
   | pat r2 p2=>
    simp only [hx,EA] at he
    rw [he.1]
    exact h3
   | whole h2=>simp [hx,EA] at he
   | all p2=>simp [hx,EA] at he
theorem Ag.symm {uses:List Nat} {e:Eff} {s s2:St} (h:Ag uses e s s2):Ag uses e s2 s:=by
 refine ⟨h.len.symm,fun t ht=>(h.env t ht).symm,?_⟩
 have h3:=h.hp
 cases e with
 | pat rd pa=>exact fun q hq=>(h3 q hq).symm
 | whole h'=>exact h3.symm
 | all pa=>exact h3.symm
theorem fold_ag {A:St→St→Prop} {b c:Nat→Bool}:∀ {tr:List Tr} {i0:Nat} {s s2:St},A s s2 →
  (∀ (j:Nat) (x:Tr),tr[j]?=some x→∀ s s2,A s s2→(b (i0+j)=true→c (i0+j)=true→A (x.app s) (x.app s2)) ∧
   (b (i0+j)=true→c (i0+j)=false→A (x.app s) s2)∧(b (i0+j)=false→c (i0+j)=true→A s (x.app s2))) →
  A (foldB b i0 tr s) (foldB c i0 tr s2)
 | [],_,_,_,h,_=>h
 | x :: l,i0,s,s2,h,hx=>by
  simp only [foldB]
  have h0:=hx 0 x rfl s s2 h
  rw [Nat.add_zero] at h0
  refine fold_ag ?_ (fun j y hy s s2 hA=>by
   have:=hx (j+1) y (by simpa using hy) s s2 hA
   rwa [Nat.add_comm j 1,← Nat.add_assoc] at this)
  cases hb:b i0<;>cases hc:c i0<;>simp
  ·exact h
  ·exact h0.2.2 hb hc
  ·exact h0.2.1 hb hc
  ·exact h0.1 hb hc
theorem putAll_comm:∀ (pa pb:List Ent) (h:Hp),(∀ k∈pa.map (·.k),k ∉ pb.map (·.k))→putAll (putAll h pa) pb=putAll (putAll h pb) pa
 | [],_,_,_=>rfl
 | x :: r,pb,h,hd=>by
  simp only [putAll]
  rw [putAll_comm r pb _ (fun k hk=>hd k (by simp at hk ⊢;exact .inr hk))]
  congr 1
  have hx:x.k ∉ pb.map (·.k):=hd x.k (by simp)
  clear hd
  induction pb generalizing h with
  | nil=>rfl
  | cons y pb ih=>
   simp only [List.map_cons,List.mem_cons,not_or] at hx
   simp only [putAll]
   rw [put_comm _ _ _ _ _ _ _ hx.1,ih _ hx.2]
theorem Tr.comm {x y:Tr} (hd:∀ d,x.d=some d→y.d ≠ some d) (he:EA x.e y.e) (s:St):x.app (y.app s)=y.app (x.app s):=by
 simp only [Tr.app,St.mk.injEq]
 constructor
 ·cases hx:x.d with
  | none=>rfl
  | some d=>
   cases hy:y.d with
   | none=>rfl
   | some d'=>
    have:d ≠ d':=fun e=>hd d hx (by rw [hy,e])
    simp only [setD]
    exact List.set_comm _ _ (Ne.symm this)
 ·cases hx:x.e with
  | pat r1 p1=>
   cases hy:y.e with
   | pat r2 p2=>
    simp only [hx,hy,EA] at he
    simp only [Eff.app]
    exact putAll_comm p2 p1 _ (fun k hk=>(he.2 k hk).2)
   | whole h'=>
    simp only [hx,hy,EA] at he
    rw [he.2];rfl
   | all p2=>
    simp only [hx,hy,EA] at he
    rw [he.1];rfl
  | whole h'=>
   cases hy:y.e with
   | pat r2 p2=>
    simp only [hx,hy,EA] at he
    rw [he.2];rfl
   | whole h2=>simp [hx,hy,EA] at he
   | all p2=>simp [hx,hy,EA] at he
  | all p1=>
   cases hy:y.e with
   | pat r2 p2=>
    simp only [hx,hy,EA] at he
    rw [he.1];rfl
   | whole h2=>simp [hx,hy,EA] at he
   | all p2=>simp [hx,hy,EA] at he
theorem fold_comm {b:Nat→Bool} {x:Tr}:∀ {tr:List Tr} {i0:Nat} {s:St},(∀ (j:Nat) (y:Tr),tr[j]?=some y→b (i0+j)=true→∀ s,y.app (x.app s)=x.app (y.app s)) →
  foldB b i0 tr (x.app s)=x.app (foldB b i0 tr s)
 | [],_,_,_=>rfl
 | y :: l,i0,s,h=>by
  simp only [foldB]
  have hr:∀ s',foldB b (i0+1) l (x.app s')=x.app (foldB b (i0+1) l s'):=fun s'=>fold_comm (fun j z hz hb s=>by
   have:=h (j+1) z (by simpa using hz)
   rw [Nat.add_comm j 1,← Nat.add_assoc] at this
   exact this hb s)
  cases hb:b i0 with
  | false=>simp only [Bool.false_eq_true,if_false];exact hr s
  | true=>
   simp only [if_true]
   rw [h 0 y rfl (by simpa using hb) s]
   exact hr _
theorem fold_ins {b c:Nat→Bool} {x:Tr}:∀ {tr:List Tr} {i0 i:Nat} {s:St},tr[i]?=some x→b (i0+i)=false→c (i0+i)=true→(∀ j,j ≠ i0+i→c j=b j) →
  (∀ (j:Nat) (y:Tr),tr[j]?=some y→i < j→b (i0+j)=true→∀ s,y.app (x.app s)=x.app (y.app s))→foldB c i0 tr s=x.app (foldB b i0 tr s)
 | [],_,_,_,h,_,_,_,_=>by simp at h
 | y :: l,i0,i,s,h,hb,hc,hj,hcm=>by
  simp only [foldB]
  cases i with
  | zero=>
   simp at h
   subst h
   rw [Nat.add_zero] at hb hc
   rw [hb,hc]
   simp only [if_true,Bool.false_eq_true,if_false]
   have e:foldB c (i0+1) l (y.app s)=foldB b (i0+1) l (y.app s):=foldB_congr (fun j _=>hj _ (by omega))
   rw [e]
   exact fold_comm (fun j z hz hb s=>by
    have:=hcm (j+1) z (by simpa using hz) (by omega)
    rw [Nat.add_comm j 1,← Nat.add_assoc] at this
    exact this hb s)
  | succ i=>
   rw [hj i0 (by omega)]
   refine fold_ins (by simpa using h) (by rw [Nat.add_assoc,Nat.add_comm 1 i];exact hb) (by rw [Nat.add_assoc,Nat.add_comm 1 i];exact hc) (fun j q=>hj j (by omega)) ?_
   intro j z hz hij hb s
   have:=hcm (j+1) z (by simpa using hz) (by omega)
   rw [Nat.add_comm j 1,← Nat.add_assoc] at this
   exact this hb s
theorem stepV_agree {P:Program} {num:Nat→Nat} {o:Oper} {l:List Operand} {gl:Nat→Option AV} {call:Caller} {kb:Nat} {r:R} (hf:fitK P num o r.k=some l) {s s2:St} {v:AV} {e:Eff}
  (h1:stepV gl call kb r s=some (v,e)) (ha:Ag r.uses e s s2):stepV gl call kb r s2=some (v,e):=by
 have hxs:r.xs.map (X.ev gl s2.env)=r.xs.map (X.ev gl s.env):=by
  apply List.map_congr_left
  intro x hx
  cases x with
  | t n=>
   simp only [X.ev]
   refine ha.env n ?_
   unfold R.uses
   exact List.mem_append_left _ (List.mem_filterMap.2 ⟨_,hx,rfl⟩)
  | _=>rfl
 have hw:wanted s2.env r.gd=wanted s.env r.gd:=by
  unfold wanted
  cases hg:r.gd with
  | none=>rfl
  | some p=>
   obtain ⟨t,b⟩:=p
   simp only
   rw [ha.env t (by unfold R.uses;rw [hg];exact List.mem_append_right _ (by simp))]
 unfold stepV at h1 ⊢
 rw [hw,hxs]
 split at h1
 ·cases h1
 ·exact h1
 ·have h3:=ha.hp
  cases e with
  | pat rd pa=>exact opR_agree hf h1 h3
  | whole h'=>
   simp only at h3
   rw [h3]
   exact h1
  | all pa=>
   simp only at h3
   rw [h3]
   exact h1
end Go.Tev
end
section
namespace Go.Tev
open Go.RowKit
def befOf (rs:List R) (o:Oper):Nat:=
 o.after.toList.foldl (fun s e=>if Region.binds .any e then s ||| 2 ^ e.on ||| ((rs[e.on]?).map R.bef).getD 0 else s) 0
def fitBef (rs:List R) (i:Nat) (o:Oper) (r:R):Bool:=
 r.bef == befOf rs o&&o.after.toList.all fun e => !Region.binds .any e||decide (e.on < i)
theorem befOf_mem {rs:List R} {m:Nat}:∀ {es:List Edge} {s:Nat},
  (es.foldl (fun s e=>if Region.binds .any e then s ||| 2 ^ e.on ||| ((rs[e.on]?).map R.bef).getD 0 else s) s).testBit m=true →
  s.testBit m=true∨∃ e∈es,Region.binds .any e=true∧(e.on=m∨∃ r,rs[e.on]?=some r∧r.bef.testBit m=true)
 | [],s,h => .inl h
 | e :: es,s,h=>by
  simp only [List.foldl_cons] at h
  rcases befOf_mem h with h | ⟨e',h1,h2,h3⟩
  ·split at h
   ·rename_i hb
    simp only [Nat.testBit_or,Bool.or_eq_true,Nat.testBit_two_pow,decide_eq_true_eq] at h
    rcases h with (h | h) | h
    ·exact .inl h
    ·exact .inr ⟨e,by simp,hb,.inl h⟩
    ·cases hr:rs[e.on]? with
     | none=>simp [hr] at h
     | some r=>exact .inr ⟨e,by simp,hb,.inr ⟨r,hr,by simpa [hr] using h⟩⟩
   ·exact .inl h
  ·exact .inr ⟨e',List.mem_cons_of_mem _ h1,h2,h3⟩
theorem disj_spec {a b:List Nat} (h:disj a b=true):∀ k∈a,k ∉ b:=by
 intro k hk hb
 simp only [disj,List.all_eq_true,Bool.not_eq_true'] at h
 have:=h k hk
 simp [hb] at this
theorem Eff.apart_spec {x y:Eff} (h:x.apart y=true):EA x y:=by
 unfold Eff.apart at h
 split at h
 ·simp only [Bool.and_eq_true] at h
  obtain ⟨h1,h2⟩:=h
  have h1:=disj_spec h1
  have h2:=disj_spec h2
  refine ⟨fun k hk=>?_,fun k hk=>⟨h2 k hk,fun hk1=>h1 k hk1 (List.mem_append_right _ hk)⟩⟩
  have:=h1 k hk
  simp only [List.mem_append,not_or] at this
  exact this
 ·exact ⟨rfl,rfl⟩
 ·exact ⟨rfl,rfl⟩
 ·exact ⟨rfl,disj_spec h⟩
 ·exact ⟨rfl,disj_spec h⟩
 ·cases h
theorem R.apart_spec {x y:R} (h:x.apart y=true):(∀ d,x.d=some d→d ∉ y.uses∧y.d ≠ some d)∧(∀ d,y.d=some d→d ∉ x.uses):=by
 refine ⟨fun d hd=>?_,fun d hd=>?_⟩<;>simp [R.apart,hd] at h
 ·exact ⟨h.1.1,h.1.2⟩
 ·exact h.2
theorem apartFrom_get {i:Nat} {x:R} {e:Eff}:∀ {rs:List R} {es:List Eff},apartFrom i x e rs es=true→∀ (b:Nat) (r:R) (f:Eff),rs[b]?=some r→es[b]?=some f →
  r.bef.testBit i=true∨(x.apart r=true∧e.apart f=true)
 | [],_,_,b,r,f,h1,_=>by simp at h1
 | _ :: _,[],_,b,r,f,_,h2=>by simp at h2
 | r0 :: rs,f0 :: es,h,b,r,f,h1,h2=>by
  simp only [apartFrom,Bool.and_eq_true,Bool.or_eq_true] at h
  cases b with
  | zero=>
   simp at h1 h2
   subst h1 h2
   exact h.1
  | succ b=>exact apartFrom_get h.2 b r f (by simpa using h1) (by simpa using h2)
theorem apartAll_get:∀ {rs:List R} {es:List Eff} {i0:Nat},apartAll i0 rs es=true→∀ (a b:Nat) (ra rb:R) (ea eb:Eff),a < b→rs[a]?=some ra→rs[b]?=some rb→es[a]?=some ea→es[b]?=some eb →
  rb.bef.testBit (i0+a)=true∨(ra.apart rb=true∧ea.apart eb=true)
 | [],_,_,_,a,b,ra,rb,ea,eb,_,h1,_,_,_=>by simp at h1
 | _ :: _,[],_,_,a,b,ra,rb,ea,eb,_,_,_,h3,_=>by simp at h3
 | r0 :: rs,f0 :: es,i0,h,a,b,ra,rb,ea,eb,hab,h1,h2,h3,h4=>by
  simp only [apartAll,Bool.and_eq_true] at h
  cases b with
  | zero=>omega
  | succ b=>
   cases a with
   | zero=>
    simp at h1 h3
    subst h1 h3
    exact apartFrom_get h.1 b rb eb (by simpa using h2) (by simpa using h4)
   | succ a=>
    have:=apartAll_get h.2 a b ra rb ea eb (by omega) (by simpa using h1) (by simpa using h2) (by simpa using h3) (by simpa using h4)
    rwa [Nat.add_comm a 1,← Nat.add_assoc]
theorem count_lt {p q:Nat→Bool}:∀ {l:List Nat},(∀ x∈l,q x=true→p x=true)→(∃ x∈l,p x=true∧q x=false)→l.countP q < l.countP p
 | [],_,h=>by obtain ⟨x,hx,_⟩:=h;cases hx
 | y :: l,h1,h2=>by
  have hr:∀ x∈l,q x=true→p x=true:=fun x hx=>h1 x (List.mem_cons_of_mem _ hx)
  have hle:l.countP q≤l.countP p:=List.countP_mono_left hr
  obtain ⟨x,hx,hp,hq⟩:=h2
  simp only [List.countP_cons]
  have hy:=h1 y (by simp)
  rcases List.mem_cons.1 hx with rfl | hx
  ·simp [hp,hq];omega
  ·have:=count_lt hr ⟨x,hx,hp,hq⟩
   cases hqy:q y<;>cases hpy:p y<;>simp [hqy,hpy] at hy ⊢ <;> omega
section
variable {P:Program} {num:Nat→Nat} {gl:Nat→Option AV} {gnum:Nat→Nat} {call:Caller} {Fb:Nat→Prop} {B0:Nat} {ρ0:Rho} {w0:World} {O0:Nat→Prop}
def unlisted (n:Nat) (L:Array Bool):Nat:=(List.range n).countP fun i => !L.getD i false
theorem mem_ready {ops:Array Oper} {L:Array Bool} (hL:L.size=ops.size) {i:Nat}:i∈Region.ready .any ops L ↔
  L.getD i false=false∧∃ o,ops[i]?=some o∧∀ e∈o.after,Region.binds .any e=true→L.getD e.on false=true:=by
 unfold Region.ready
 simp only [List.mem_filter,List.mem_range,Bool.and_eq_true,Bool.not_eq_true']
 have hd:∀ i,i < ops.size→L.getD i true=L.getD i false:=by
  intro i hi
  have:i < L.size:=by omega
  simp [this]
 constructor
 ·rintro ⟨h1,h2,h3⟩
  have hi:ops[i]?=some ops[i]:=by simp [h1]
  rw [hi] at h3
  simp only [Option.map_some,Option.getD_some,Array.all_eq_true_iff_forall_mem,Bool.or_eq_true,Bool.not_eq_true'] at h3
  refine ⟨by rw [← hd i h1];exact h2,ops[i],hi,?_⟩
  intro e he hb
  rcases h3 e he with h | h
  ·rw [h] at hb;cases hb
  ·exact h
 ·rintro ⟨h1,o,ho,h3⟩
  have hi:i < ops.size:=(Array.getElem?_eq_some_iff.1 ho).1
  refine ⟨hi,by rw [hd i hi];exact h1,?_⟩
  rw [ho]
  simp only [Option.map_some,Option.getD_some,Array.all_eq_true_iff_forall_mem,Bool.or_eq_true,Bool.not_eq_true']
  intro e he
  cases hb:Region.binds .any e with
  | false=>exact .inl rfl
  | true=>exact .inr (h3 e he hb)
theorem draw_sound (hc:CallOK P num gl gnum call) {kb:Nat} {ops:Array Oper} {rs:List R} {st st':St} {es:List Eff} {Q:Exit→Act→World→Prop} (hlen:rs.length=ops.size)
  (hfit:∀ (i:Nat) (o:Oper) (r:R),ops[i]?=some o→rs[i]?=some r→fitR P num gnum ops o r=true∧fitBef rs i o r=true)
  (hT:regsT gl call kb rs st=some (st',es)) (hA:apartAll 0 rs es=true)
  (hK:∀ a' w',Good num gl gnum Fb B0 ρ0 w0 O0 st' a' w'→Q .normal a' w') {a:Act} {w:World} (hG:Good num gl gnum Fb B0 ρ0 w0 O0 st a w) :
  wpAny P .any ops Q ops.size (Array.replicate ops.size false) a w:=by
 obtain ⟨tr,t1,t2,t3,t4⟩:=regsT_tr (i0:=0) hT
 have hrs:∀ i,i < ops.size→∃ o r x,ops[i]?=some o∧rs[i]?=some r∧tr[i]?=some x∧es[i]?=some x.e:=by
  intro i hi
  have h1:i < rs.length:=by omega
  have h2:i < tr.length:=by omega
  refine ⟨ops[i],rs[i],tr[i],by simp [hi],by simp [h1],by simp [h2],?_⟩
  rw [← t2 i]
  simp [h2]
 have hap:∀ (i j:Nat) (ri rj:R) (xi xj:Tr),i < j→rs[i]?=some ri→rs[j]?=some rj→tr[i]?=some xi→tr[j]?=some xj →
   rj.bef.testBit i=true∨((∀ d,xi.d=some d→d ∉ rj.uses∧xj.d ≠ some d)∧(∀ d,xj.d=some d→d ∉ ri.uses)∧EA xi.e xj.e):=by
  intro i j ri rj xi xj hij h1 h2 h3 h4
  have e1:es[i]?=some xi.e:=by rw [← t2 i,h3];rfl
  have e2:es[j]?=some xj.e:=by rw [← t2 j,h4];rfl
  rcases apartAll_get hA i j ri rj _ _ hij h1 h2 e1 e2 with h | ⟨h,h'⟩
  ·left;simpa using h
  ·right
   obtain ⟨p1,p2⟩:=R.apart_spec h
   have d1:=(t4 i ri xi h1 h3).1
   have d2:=(t4 j rj xj h2 h4).1
   rw [d1,d2]
   exact ⟨p1,p2,Eff.apart_spec h'⟩
 have main:∀ (fuel:Nat) (L:Array Bool) (a:Act) (w:World),L.size=ops.size →
   (∀ (j:Nat) (r:R),L.getD j false=true→rs[j]?=some r→∀ m,r.bef.testBit m=true→L.getD m false=true) →
   unlisted ops.size L≤fuel→Good num gl gnum Fb B0 ρ0 w0 O0 (foldB (fun i=>L.getD i false) 0 tr st) a w→wpAny P .any ops Q fuel L a w:=by
  have hall:∀ L:Array Bool,L.size=ops.size→Region.ready .any ops L=[]→∀ i,i < ops.size→L.getD i false=true:=by
   intro L hL hr i
   induction i using Nat.strongRecOn with
   | ind i ih=>
    intro hi
    cases hb:L.getD i false with
    | true=>rfl
    | false=>
     exfalso
     obtain ⟨o,r,x,h1,h2,_,_⟩:=hrs i hi
     have hf:=(hfit i o r h1 h2).2
     simp only [fitBef,Bool.and_eq_true,List.all_eq_true,Bool.or_eq_true,Bool.not_eq_true',decide_eq_true_eq] at hf
     have:i∈Region.ready .any ops L:=(mem_ready hL).2 ⟨hb,o,h1,fun e he hbi=>by
      rcases hf.2 e (by simpa using he) with h | h
      ·rw [h] at hbi;cases hbi
      ·exact ih e.on h (by omega)⟩
     rw [hr] at this
     cases this
  have hend:∀ (L:Array Bool) (a:Act) (w:World),L.size=ops.size→(∀ i,i < ops.size→L.getD i false=true)→Good num gl gnum Fb B0 ρ0 w0 O0 (foldB (fun i=>L.getD i false) 0 tr st) a w→Q .normal a w:=by
   intro L a w hL h hG
   have e:foldB (fun i=>L.getD i false) 0 tr st=foldB (fun _=>true) 0 tr st:=foldB_congr (fun j hj=>by
    rw [Nat.zero_add]
    exact h j (by omega))
   rw [e,t3] at hG
   exact hK _ _ hG
  intro fuel
  induction fuel with
  | zero=>
   intro L a w hL _ hu hG
   have hal:∀ i,i < ops.size→L.getD i false=true:=by
    intro i hi
    have h0:unlisted ops.size L=0:=by omega
    unfold unlisted at h0
    rw [List.countP_eq_zero] at h0
    have:=h0 i (by simp [hi])
    simpa using this
   refine ⟨?_,hend L a w hL hal hG⟩
   rw [List.eq_nil_iff_forall_not_mem]
   intro i hi
   obtain ⟨h1,o,h2,_⟩:=(mem_ready hL).1 hi
   have:=hal i (Array.getElem?_eq_some_iff.1 h2).1
   rw [this] at h1
   cases h1
  | succ fuel ih=>
   intro L a w hL hcl hu hG
   refine ⟨fun hr=>hend L a w hL (hall L hL hr) hG,?_⟩
   intro i hir
   obtain ⟨hLi,o,ho,hbe⟩:=(mem_ready hL).1 hir
   have hi:i < ops.size:=(Array.getElem?_eq_some_iff.1 ho).1
   obtain ⟨o',r,x,h1,h2,h3,h4⟩:=hrs i hi
   rw [ho] at h1;cases h1
   obtain ⟨hf1,hf2⟩:=hfit i o r ho h2
   have hbl:∀ m,r.bef.testBit m=true→L.getD m false=true:=by
    intro m hm
    simp only [fitBef,Bool.and_eq_true,beq_iff_eq] at hf2
    rw [hf2.1] at hm
    rcases befOf_mem hm with h | ⟨e,he,hb,h⟩
    ·simp at h
    ·have hon:=hbe e (by simpa using he) hb
     rcases h with rfl | ⟨r',hr',hm'⟩
     ·exact hon
     ·exact hcl e.on r' hon hr' m hm'
   obtain ⟨hd,hv⟩:=t4 i r x h2 h3
   have hfk:∃ l,fitK P num o r.k=some l:=by
    unfold fitR at hf1
    simp only [Bool.and_eq_true] at hf1
    have:=hf1.1.2
    split at this
    ·exact ⟨_,by assumption⟩
    ·cases this
   obtain ⟨l,hfk⟩:=hfk
   have hag:Ag r.uses x.e (foldB (fun j=>decide (j < 0+i)) 0 tr st) (foldB (fun j=>L.getD j false) 0 tr st):=by
    refine fold_ag (Ag.refl _ _ _) ?_
    intro j y hy s s2 hA
    refine ⟨fun _ _=>hA.both y,?_,?_⟩
    ·intro hb hcf
     simp only [Nat.zero_add,decide_eq_true_eq] at hb hcf
     have hj:j < ops.size:=by omega
     obtain ⟨_,rj,_,_,hrj,_,_⟩:=hrs j hj
     rcases hap j i rj r y x hb hrj h2 hy h3 with h | ⟨p1,p2,p3⟩
     ·rw [hbl j h] at hcf;cases hcf
     ·exact hA.onlyL y (fun d q=>(p1 d q).1) p3.symm
    ·intro hb hcf
     simp only [Nat.zero_add,decide_eq_false_iff_not] at hb hcf
     have hj:j < ops.size:=by
      have:=(List.getElem?_eq_some_iff.1 hy).1
      omega
     obtain ⟨_,rj,_,_,hrj,_,_⟩:=hrs j hj
     have hne:i ≠ j:=by
      intro q;subst q
      rw [hLi] at hcf;cases hcf
     rcases hap i j r rj x y (by omega) h2 hrj h3 hy with h | ⟨p1,p2,p3⟩
     ·have:=hcl j rj hcf hrj i h
      rw [hLi] at this;cases this
     ·exact (hA.symm.onlyL y p2 p3).symm
   have hs:=stepV_agree hfk hv hag
   have hstep:stepR gl call kb r (foldB (fun j=>L.getD j false) 0 tr st)=some (x.app (foldB (fun j=>L.getD j false) 0 tr st),x.e):=by
    rw [stepR_eq,hs]
    simp only [Option.map_some,← hd]
   have hget:∀ j,(L.setIfInBounds i true).getD j false=if j=i then true else L.getD j false:=by
    intro j
    have:i < L.size:=by omega
    simp only [Array.getD_eq_getD_getElem?,Array.getElem?_setIfInBounds]
    by_cases q:i=j
    ·subst q;simp [this]
    ·have q':¬ j=i:=fun e=>q e.symm
     rw [if_neg q,if_neg q']
   refine step_sound hc ho hf1 hG hstep ?_
   intro a' w' hG'
   refine ih _ a' w' (by simp [hL]) ?_ ?_ ?_
   ·intro j rj hj hrj m hm
    rw [hget] at hj ⊢
    split
    ·rfl
    ·split at hj
     ·rename_i q
      subst q
      rw [h2] at hrj;cases hrj
      exact hbl m hm
     ·exact hcl j rj hj hrj m hm
   ·have:unlisted ops.size (L.setIfInBounds i true) < unlisted ops.size L:=by
     refine count_lt ?_ ⟨i,by simp [hi],by simp [hLi],by simp [hget]⟩
     intro y _ hy
     rw [hget] at hy
     split at hy
     ·simp at hy
     ·exact hy
    omega
   ·have e:foldB (fun j=>(L.setIfInBounds i true).getD j false) 0 tr st=x.app (foldB (fun j=>L.getD j false) 0 tr st):=by
     refine fold_ins (i:=i) h3 (by simpa using hLi) (by rw [Nat.zero_add];simp [hget]) ?_ ?_
     ·intro j hj
      rw [hget,if_neg (by omega)]
     ·intro j y hy hij hb s
      rw [Nat.zero_add] at hb
      have hj:j < ops.size:=by
       have:=(List.getElem?_eq_some_iff.1 hy).1
       omega
      obtain ⟨_,rj,_,_,hrj,_,_⟩:=hrs j hj
      rcases hap i j r rj x y hij h2 hrj h3 hy with h | ⟨p1,p2,p3⟩
      ·have:=hcl j rj hb hrj i h
       rw [hLi] at this;cases this
      ·exact (Tr.comm (fun d q=>(p1 d q).2) p3 s).symm
    rw [e]
    exact hG'
 refine main ops.size _ a w (by simp) ?_ ?_ ?_
 ·intro j r hj
  simp [Array.getElem?_replicate] at hj
  split at hj<;>simp at hj
 ·unfold unlisted
  refine Nat.le_trans List.countP_le_length ?_
  simp
 ·have e:foldB (fun i=>(Array.replicate ops.size false).getD i false) 0 tr st=st:=foldB_none (fun j _=>by
   simp [Array.getElem?_replicate]
   split<;>rfl)
  rw [e]
  exact hG
end
end Go.Tev
end
section
namespace Go.Tev
open Go.RowKit
def fitRs (P:Program) (num gnum:Nat→Nat) (ops:Array Oper) (dr:Bool) (all:List R):Nat→List Oper→List R→Bool
 | _,[],[]=>true
 | i,o :: os,r :: rs=>fitR P num gnum ops o r&&(!dr||fitBef all i o r)&&fitRs P num gnum ops dr all (i+1) os rs
 | _,_,_=>false
def fitC (P:Program) (num gnum:Nat→Nat):C→Code→Bool
 | .skip,.skip=>true
 | .reg rs d,.region _ ops d'=>d == d'&&fitRs P num gnum ops d rs 0 ops.toList rs
 | .seq a b,.seq x y=>fitC P num gnum a x&&fitC P num gnum b y
 | .cond c a b,.cond o x y=>fitX num gnum c o&&fitC P num gnum a x&&fitC P num gnum b y
 | .block id a,.block id' x=>id == id'&&fitC P num gnum a x
 | .loop a _,.loop x=>fitC P num gnum a x
 | .exit id,.exit id'=>id == id'
 | .ret,.ret=>true
 | .bad,_=>true
 | _,_=>false
def fitRes (P:Program):List (Sum Nat (Nat × Nat × Bool))→List ResultVar→Bool
 | [],[]=>true
 | .inl t :: r,.tmp u :: s=>t == u&&fitRes P r s
 | .inr (t,sz,ag) :: r,.cell u ty :: s=>t == u&&fitT P ty sz ag&&fitRes P r s
 | _,_=>false
def fitF (P:Program) (num gnum:Nat→Nat) (cf:CF) (fn:Func):Bool:=
 match fn.body with
 | some c=>fitC P num gnum cf.body c&&fn.ntmps == cf.nt&&fn.name != "runtime.NumGoroutine" && fitRes P cf.res fn.results.toList
 | none=>false
def exitOf:Ex→Exit
 | .nor => .normal
 | .ext id => .exit id
 | .ret => .ret
section
variable {P:Program} {num:Nat→Nat} {gl:Nat→Option AV} {gnum:Nat→Nat} {call:Caller} {Fb:Nat→Prop} {B0:Nat} {ρ0:Rho} {w0:World} {O0:Nat→Prop}
theorem fitRs_get {ops:Array Oper} {dr:Bool} {all:List R}:∀ {i:Nat} {os:List Oper} {rs:List R},fitRs P num gnum ops dr all i os rs=true →
  rs.length=os.length∧∀ (j:Nat) (o:Oper) (r:R),os[j]?=some o→rs[j]?=some r→fitR P num gnum ops o r=true∧(dr=true→fitBef all (i+j) o r=true)
 | _,[],[],_=>⟨rfl,by intro j o r h;simp at h⟩
 | _,[],_ :: _,h=>by simp [fitRs] at h
 | _,_ :: _,[],h=>by simp [fitRs] at h
 | i,o0 :: os,r0 :: rs,h=>by
  simp only [fitRs,Bool.and_eq_true,Bool.or_eq_true,Bool.not_eq_true'] at h
  obtain ⟨h1,h2⟩:=fitRs_get h.2
  refine ⟨by simp [h1],?_⟩
  intro j o r ho hr
  cases j with
  | zero=>
   simp at ho hr
   subst ho hr
   exact ⟨h.1.1,fun q=>by
    rcases h.1.2 with h | h
    ·rw [q] at h;cases h
    ·exact h⟩
  | succ j=>
   obtain ⟨q1,q2⟩:=h2 j o r (by simpa using ho) (by simpa using hr)
   exact ⟨q1,fun q=>by
    have:=q2 q
    rwa [Nat.add_assoc,Nat.add_comm 1 j] at this⟩
theorem regs_sound (hc:CallOK P num gl gnum call) {kb:Nat} {ops:Array Oper} {Q:Exit→Act→World→Prop}:∀ {rs:List R} {i:Nat} {st st':St} {a:Act} {w:World},
  regs gl call kb rs st=some st'→(∀ (j:Nat) (r:R),rs[j]?=some r→∃ o,ops[i+j]?=some o∧fitR P num gnum ops o r=true) →
  Good num gl gnum Fb B0 ρ0 w0 O0 st a w→(∀ a' w',Good num gl gnum Fb B0 ρ0 w0 O0 st' a' w'→Q .normal a' w')→wpOps P ops Q (List.range' i rs.length) a w
 | [],i,st,st',a,w,h,_,hG,hK=>by
  simp [regs] at h
  subst h
  exact hK a w hG
 | r :: rs,i,st,st',a,w,h,hf,hG,hK=>by
  unfold regs at h
  split at h
  case h_2=>cases h
  rename_i st1 e hs
  simp only [List.length_cons,List.range'_succ,wpOps_cons]
  obtain ⟨o,ho,hfo⟩:=hf 0 r rfl
  refine step_sound hc (by simpa using ho) hfo hG hs ?_
  intro a' w' hG'
  refine regs_sound hc h ?_ hG' hK
  intro j r' hr'
  obtain ⟨o',q1,q2⟩:=hf (j+1) r' (by simpa using hr')
  exact ⟨o',by rw [Nat.add_assoc,Nat.add_comm 1 j];exact q1,q2⟩
theorem clear_get:∀ {m:List Bool} {env:List AV} {t:Nat} {x:AV},(clear m env)[t]?=some x→x = .top∨env[t]?=some x
 | [],env,t,x,h=>by
  cases env<;>simp [clear] at h ⊢ <;> exact .inr h
 | b :: m,[],t,x,h=>by
  cases b<;>simp [clear] at h
 | b :: m,v :: r,t,x,h=>by
  cases b with
  | true=>
   simp only [clear] at h
   cases t with
   | zero=>right;simpa using h
   | succ t=>
    rcases clear_get (m:=m) (env:=r) (t:=t) (x:=x) (by simpa using h) with q | q
    ·exact .inl q
    ·right;simpa using q
  | false=>
   simp only [clear] at h
   cases t with
   | zero=>left;simpa using h.symm
   | succ t=>
    rcases clear_get (m:=m) (env:=r) (t:=t) (x:=x) (by simpa using h) with q | q
    ·exact .inl q
    ·right;simpa using q
theorem length_clear:∀ (m:List Bool) (env:List AV),(clear m env).length=env.length
 | [],env=>by cases env<;>simp [clear]
 | b :: m,[]=>by cases b<;>simp [clear]
 | b :: m,v :: r=>by cases b<;>simp [clear,length_clear m r]
theorem Good.clear {st:St} {a:Act} {w:World} (h:Good num gl gnum Fb B0 ρ0 w0 O0 st a w) (m:List Bool):Good num gl gnum Fb B0 ρ0 w0 O0 ⟨clear m st.env,st.hp⟩ a w:=by
 obtain ⟨ρ,O,h1,h2,h3,h4⟩:=h
 refine ⟨ρ,O,h1,h2,h3,⟨by simp only [length_clear];exact h4.size,?_,h4.defers⟩⟩
 intro t x y hx hy
 rcases clear_get hx with rfl | q
 ·exact .top _
 ·exact h4.get t x y q hy
theorem wp_loopI {c:Code} {Q:Exit→Act→World→Prop} (I:Nat→Act→World→Prop)
  (round:∀ n a w,I n a w→c.wp P (Exit.then (fun a' w'=>∃ m,m < n∧I m a' w') Q) a w) {n:Nat} {a:Act} {w:World} (h0:I n a w):(Code.loop c).wp P Q a w:=by
 have least:∀ (a:Act) (w:World),(∃ n,I n a w)→∃ n,I n a w∧∀ m,I m a w→n≤m:=by
  intro a w ⟨n,hn⟩
  induction n using Nat.strongRecOn with
  | ind n ih=>
   by_cases h:∃ m,m < n∧I m a w
   ·obtain ⟨m,h1,h2⟩:=h
    exact ih m h1 h2
   ·exact ⟨n,hn,fun m hm=>by
     rcases Nat.lt_or_ge m n with q | q
     ·exact absurd ⟨m,q,hm⟩ h
     ·exact q⟩
 let μ : Act→World→Nat:=fun a w=>open Classical in if h:∃ n,I n a w then (least a w h).choose else 0
 refine wp_loop (fun a w=>∃ n,I n a w) μ ⟨n,h0⟩ ?_
 intro a w h
 have hspec:=(least a w h).choose_spec
 refine wp_mono (round _ a w hspec.1) ?_
 intro e a' w' hq
 cases e<;>simp only [Exit.then] at hq ⊢ <;> try exact hq
 obtain ⟨m,hm,hI⟩:=hq
 refine ⟨⟨m,hI⟩,?_⟩
 have hspec':=(least a' w' ⟨m,hI⟩).choose_spec
 have:=hspec'.2 m hI
 show μ a' w' < μ a w
 have e1 : μ a w=(least a w h).choose:=by simp only [μ];rw [dif_pos h]
 have e2 : μ a' w'=(least a' w' ⟨m,hI⟩).choose:=by simp only [μ];rw [dif_pos ⟨m,hI⟩]
 rw [e1,e2]
 omega
theorem exec_sound (hm:P.follows .mixedOrders=true) (hc:CallOK P num gl gnum call) {kb n:Nat}:∀ {c:C} {code:Code} {Q:Exit→Act→World→Prop} {st st':St} {x:Ex} {a:Act} {w:World},
  exec gl call kb n c st=some (x,st')→fitC P num gnum c code=true→Good num gl gnum Fb B0 ρ0 w0 O0 st a w →
  (∀ a' w',Good num gl gnum Fb B0 ρ0 w0 O0 st' a' w'→Q (exitOf x) a' w')→code.wp P Q a w:=by
 intro c
 induction c with
 | skip=>
  intro code Q st st' x a w h hf hG hK
  cases code<;>simp [fitC] at hf
  simp [exec] at h
  obtain ⟨rfl,rfl⟩:=h
  exact wp_skip (hK _ _ hG)
 | reg rs d=>
  intro code Q st st' x a w h hf hG hK
  cases code<;>simp [fitC] at hf
  rename_i id ops d'
  obtain ⟨rfl,hf⟩:=hf
  obtain ⟨f1,f2⟩:=fitRs_get hf
  cases d with
  | false=>
   simp only [exec] at h
   cases hr:regs gl call kb rs st with
   | none=>simp [hr] at h
   | some s=>
    simp [hr] at h
    obtain ⟨rfl,rfl⟩:=h
    refine wp_region ?_
    have hl:ops.size=rs.length:=by simpa using f1.symm
    rw [List.range_eq_range',hl]
    refine regs_sound hc hr ?_ hG hK
    intro j r hrj
    have hj:j < ops.size:=by have:=(List.getElem?_eq_some_iff.1 hrj).1;omega
    exact ⟨ops[j],by simp [hj],(f2 j ops[j] r (by simp [hj]) hrj).1⟩
  | true=>
   simp only [exec] at h
   split at h
   case h_2=>cases h
   rename_i s es hr
   split at h
   case isFalse=>cases h
   rename_i hap
   simp at h
   obtain ⟨rfl,rfl⟩:=h
   refine wp_region_any hm ?_
   refine draw_sound hc (by simpa using f1) ?_ hr hap hK ?_
   ·intro i o r ho hri
    obtain ⟨q1,q2⟩:=f2 i o r (by simpa using ho) hri
    exact ⟨q1,by simpa using q2 rfl⟩
   ·obtain ⟨ρ,O,h1,h2,h3,h4⟩:=hG
    have ev:Evo ρ w O ρ {w with drawn:=w.drawn+1} O:=⟨rfl,rfl,rfl,Nat.le_refl _,fun _ _ _=>rfl,fun _ _ q=>q,fun _ _ _ q=>q⟩
    exact ⟨ρ,O,h1.trans ev,h2.same ev (fun _ _=>rfl),h3.evo ev,h4.evo ev⟩
 | seq c1 c2 ih1 ih2=>
  intro code Q st st' x a w h hf hG hK
  cases code<;>simp [fitC] at hf
  simp only [exec] at h
  refine wp_seq ?_
  split at h
  ·rename_i st1 h1
   exact ih1 h1 hf.1 hG (fun a' w' hG'=>ih2 h hf.2 hG' hK)
  ·rename_i hne
   refine ih1 h hf.1 hG ?_
   intro a' w' hG'
   have:=hK a' w' hG'
   cases x with
   | nor=>exact absurd h (hne _)
   | ext id=>exact this
   | ret=>exact this
 | cond c c1 c2 ih1 ih2=>
  intro code Q st st' x a w h hf hG hK
  cases code<;>simp [fitC] at hf
  rename_i o x1 x2
  obtain ⟨⟨hx,h1⟩,h2⟩:=hf
  simp only [exec] at h
  have hv:∃ (ρ : Rho) (O:Nat→Prop),Rv num ρ w (fun b=>Fb b∨O b) (c.ev gl st.env) (a.eval o):=by
   obtain ⟨ρ,O,q1,q2,q3,q4⟩:=hG
   exact ⟨ρ,O,ev_sound q4 q3 hx⟩
  obtain ⟨ρ,O,hv⟩:=hv
  split at h
  ·rename_i hb
   rw [hb] at hv
   exact wp_cond_true hv.of_bool (ih1 h h1 hG hK)
  ·rename_i hb
   rw [hb] at hv
   exact wp_cond_false hv.of_bool (ih2 h h2 hG hK)
  ·cases h
 | block id c ih=>
  intro code Q st st' x a w h hf hG hK
  cases code<;>simp [fitC] at hf
  obtain ⟨rfl,hf⟩:=hf
  simp only [exec] at h
  refine wp_block ?_
  split at h
  ·rename_i i st1 h1
   refine ih h1 hf hG ?_
   intro a' w' hG'
   split at h
   ·rename_i hi
    cases h
    simp only [exitOf,Exit.inBlock,hi,if_true]
    exact hK _ _ hG'
   ·rename_i hi
    cases h
    simp only [exitOf,Exit.inBlock]
    rw [if_neg hi]
    exact hK _ _ hG'
  ·rename_i hne
   refine ih h hf hG ?_
   intro a' w' hG'
   have:=hK a' w' hG'
   cases x with
   | nor=>exact this
   | ext id=>exact absurd h (hne _ _)
   | ret=>exact this
 | loop c clr ih=>
  intro code Q st st' x a w h hf hG hK
  cases code<;>simp [fitC] at hf
  rename_i code
  simp only [exec] at h
  have key:∀ m,(∃ s,loopN (exec gl call kb n c) clr m s=some (x,st')∧Good num gl gnum Fb B0 ρ0 w0 O0 s a w)→(Code.loop code).wp P Q a w:=by
   intro m hs
   refine wp_loopI (I:=fun m a w=>∃ s,loopN (exec gl call kb n c) clr m s=some (x,st')∧Good num gl gnum Fb B0 ρ0 w0 O0 s a w) ?_ hs
   intro m a w ⟨s,hs,hGs⟩
   cases m with
   | zero=>simp [loopN] at hs
   | succ m=>
    simp only [loopN] at hs
    split at hs
    ·rename_i s1 h1
     refine ih h1 hf (hGs.clear clr) ?_
     intro a' w' hG'
     exact ⟨m,Nat.lt_succ_self m,s1,hs,hG'⟩
    ·rename_i hne
     refine ih hs hf (hGs.clear clr) ?_
     intro a' w' hG'
     have:=hK a' w' hG'
     cases x with
     | nor=>exact absurd hs (hne _)
     | ext id=>exact this
     | ret=>exact this
  exact key n ⟨st,h,hG⟩
 | exit id=>
  intro code Q st st' x a w h hf hG hK
  cases code<;>simp [fitC] at hf
  subst hf
  simp [exec] at h
  obtain ⟨rfl,rfl⟩:=h
  exact wp_exit (hK _ _ hG)
 | ret=>
  intro code Q st st' x a w h hf hG hK
  cases code<;>simp [fitC] at hf
  simp [exec] at h
  obtain ⟨rfl,rfl⟩:=h
  exact wp_ret (hK _ _ hG)
 | bad=>
  intro code Q st st' x a w h
  simp [exec] at h
end
section
variable {P:Program} {num:Nat→Nat} {gnum:Nat→Nat} {Fb:Nat→Prop} {B0:Nat} {ρ : Rho} {w:World} {O:Nat→Prop}
def rdRes (tmps:Array Value):ResultVar→Sem Value
 | .tmp t=>pure (tmps.getD t undef)
 | .cell c t=>do loadVar t (← asAddr (tmps.getD c undef))
theorem resOf_sound {st:St} {a:Act} {r:Sum Nat (Nat × Nat × Bool)} {rv:ResultVar} {v:AV} (H:HpR num Fb B0 ρ w O st.hp) (he:EnvR num ρ w (fun b=>Fb b∨O b) st.env a)
  (hf:fitRes P [r] [rv]=true) (h:resOf st r=some v) :
  ∃ cv,(rdRes a.tmps rv).run P w = .ok cv w∧Rv num ρ w (fun b=>Fb b∨O b) v cv:=by
 cases r with
 | inl t=>
  cases rv with
  | cell=>simp [fitRes] at hf
  | tmp u=>
   simp [fitRes] at hf
   subst hf
   simp [resOf] at h
   subst h
   exact ⟨_,by simp only [rdRes];exact Sem.run_pure ..,he.tmp t⟩
 | inr p=>
  obtain ⟨t,sz,ag⟩:=p
  cases rv with
  | tmp=>simp [fitRes] at hf
  | cell u ty=>
   simp [fitRes] at hf
   obtain ⟨rfl,hf⟩:=hf
   simp only [resOf] at h
   split at h
   case h_2=>cases h
   rename_i k e off hp
   split at h
   case h_2=>cases h
   rename_i e' cs _ _ _ _ hg
   split at h
   case isFalse=>cases h
   rename_i hee
   subst hee
   have ht:=he.tmp t
   rw [hp] at ht
   obtain ⟨L,q1,q2⟩:=ht.of_pt
   obtain ⟨cv,r1,r2⟩:=part_read H hg q2 hf h (fun q=>fitT_one hf q)
   exact ⟨cv,by simp only [rdRes,q1];simp [asAddr,r1],r2⟩
theorem resAll_sound {st:St} {a:Act} (H:HpR num Fb B0 ρ w O st.hp) (he:EnvR num ρ w (fun b=>Fb b∨O b) st.env a):∀ {rs:List (Sum Nat (Nat × Nat × Bool))} {rvs:List ResultVar} {l:List AV},
  fitRes P rs rvs=true→resAll st rs=some l →
  ∃ cvs:List Value,(rvs.mapM (rdRes a.tmps)).run P w = .ok cvs w∧All2 (Rv num ρ w (fun b=>Fb b∨O b)) l cvs
 | [],[],l,_,h=>by
  simp [resAll] at h
  subst h
  exact ⟨[],by simp,.nil⟩
 | [],_ :: _,l,hf,_=>by simp [fitRes] at hf
 | r :: _,[],l,hf,_=>by cases r<;>simp [fitRes] at hf
 | r :: rs,rv :: rvs,l,hf,h=>by
  unfold resAll at h
  split at h
  case h_2=>cases h
  rename_i v l' h1 h2
  cases h
  have hff:fitRes P [r] [rv]=true∧fitRes P rs rvs=true:=by
   cases r<;>cases rv<;>simp [fitRes] at hf ⊢ <;> first | exact hf | exact ⟨⟨hf.1.1,hf.1.2⟩,hf.2⟩
  obtain ⟨cv,q1,q2⟩:=resOf_sound H he hff.1 h1
  obtain ⟨cvs,q3,q4⟩:=resAll_sound H he hff.2 h2
  exact ⟨cv :: cvs,by simp only [List.mapM_cons];simp [q1,q3],.cons q2 q4⟩
theorem result_sound {st:St} {a:Act} {cf:CF} {fn:Func} {v:AV} (H:HpR num Fb B0 ρ w O st.hp) (he:EnvR num ρ w (fun b=>Fb b∨O b) st.env a)
  (hf:fitRes P cf.res fn.results.toList=true) (h:result st cf.res=some v):∃ cv,(results fn a.tmps).run P w = .ok cv w∧Rv num ρ w (fun b=>Fb b∨O b) v cv:=by
 unfold result at h
 cases hr:resAll st cf.res with
 | none=>simp [hr] at h
 | some l=>
  obtain ⟨cvs,q1,q2⟩:=resAll_sound H he hf hr
  refine ⟨if h:cvs.toArray.size=1 then cvs.toArray[0] else .tuple cvs.toArray,?_,?_⟩
  ·have e:results fn a.tmps=(do
     let vs ← fn.results.mapM (rdRes a.tmps)
     pure (if h:vs.size=1 then vs[0] else .tuple vs)):=by
    unfold results
    congr 1
   rw [e,Array.mapM_eq_mapM_toList]
   simp [q1]
  ·rw [hr] at h
   cases q2 with
   | nil=>
    simp at h
    subst h
    simp
    exact .tup [] #[] rfl (by intro i x y hx;simp at hx)
   | cons h1 h2=>
    cases h2 with
    | nil=>
     simp at h
     subst h
     simpa using h1
    | cons h2 h3=>
     simp at h
     subst h
     simp
     have hh:=All2.cons h1 (.cons h2 h3)
     exact .tup _ _ (by simpa using hh.length) (fun i x y hx hy=>hh.get i x y hx (by simpa using hy))
structure FitP (P:Program) (num gnum:Nat→Nat) (pg:Pg):Prop where
 fs:∀ f cf,pg.fs f=some cf→∃ fn,P.funcs[num f]?=some fn∧fitF P num gnum cf fn=true
 ex:∀ f g,pg.ex f=some g→CallOK P num pg.gl gnum (fun f' avs kb h=>if f'=f then g avs kb h else none)
theorem enter_env {F:Nat→Prop} {cf:CF} {fn:Func} {avs:List AV} {vs:List Value} (hv:All2 (Rv num ρ w F) avs vs) (hn:fn.ntmps=cf.nt) :
  EnvR num ρ w F (enter cf avs) {tmps:=vs.toArray++Array.replicate (fn.ntmps - vs.toArray.size) undef,defers:=[]}:=by
 have hl:=hv.length
 refine ⟨by simp [enter,hl,hn],?_,rfl⟩
 intro t x y hx hy
 simp only [enter] at hx
 rcases Nat.lt_or_ge t avs.length with q | q
 ·rw [List.getElem?_append_left q] at hx
  rw [Array.getElem?_append_left (by simpa using (by omega:t < vs.length))] at hy
  exact hv.get t x y hx (by simpa using hy)
 ·rw [List.getElem?_append_right q] at hx
  rw [Array.getElem?_append_right (by simpa using (by omega:vs.length≤t))] at hy
  simp [List.getElem?_replicate] at hx
  simp [Array.getElem?_replicate] at hy
  obtain ⟨_,rfl⟩:=hx
  obtain ⟨_,rfl⟩:=hy
  exact .tup [] #[] rfl (by intro i x y hx;simp at hx)
theorem callN_sound (hm:P.follows .mixedOrders=true) {pg:Pg} (hfit:FitP P num gnum pg):∀ n,CallOK P num pg.gl gnum (callN pg n)
 | 0=>by intro f avs kb h r h' hcall;simp [callN] at hcall
 | n+1=>by
  intro f avs kb h r h' hcall
  simp only [callN] at hcall
  split at hcall
  ·split at hcall
   ·rename_i g hg
    exact hfit.ex f g hg f avs kb h r h' (by simp only [if_true];exact hcall)
   ·cases hcall
  rename_i cf hcf
  obtain ⟨fn,hfn,hff⟩:=hfit.fs f cf hcf
  unfold fitF at hff
  split at hff
  case h_2=>cases hff
  rename_i code hbody
  simp only [Bool.and_eq_true,beq_iff_eq,bne_iff_ne,ne_eq] at hff
  obtain ⟨⟨⟨f1,f2⟩,f3⟩,f4⟩:=hff
  refine ⟨⟨fn,hfn,by simp [hbody],f3⟩,?_⟩
  intro Fb B0 ρ O w vs H hg hv
  refine calls_of_wp hfn hbody ?_
  have hG:Good num pg.gl gnum Fb B0 ρ w O ⟨enter cf avs,h⟩ {tmps:=vs.toArray++Array.replicate (fn.ntmps - vs.toArray.size) undef,defers:=[]} w:=
   ⟨ρ,O,Evo.refl _ _ _,H,hg,enter_env hv f2⟩
  have hpost:∀ st,(result st cf.res).map (fun v=>(v,st.hp))=some (r,h')→∀ a' w',Good num pg.gl gnum Fb B0 ρ w O st a' w' →
    a'.defers=[]∧∃ v,(results fn a'.tmps).run P w' = .ok v w'∧∃ cv ρ' O',Ending.returned v = .returned cv∧Evo ρ w O ρ' w' O'∧HpR num Fb B0 ρ' w' O' h'∧Rv num ρ' w' (fun b=>Fb b∨O' b) r cv:=by
   intro st hst a' w' ⟨ρ',O',g1,g2,g3,g4⟩
   cases hr:result st cf.res with
   | none=>simp [hr] at hst
   | some v=>
    simp [hr] at hst
    obtain ⟨rfl,rfl⟩:=hst
    obtain ⟨cv,q1,q2⟩:=result_sound g2 g4 f4 hr
    exact ⟨g4.defers,cv,q1,cv,ρ',O',rfl,g1,g2,q2⟩
  split at hcall
  ·cases hcall
  ·rename_i x st hne hex
   refine exec_sound hm (callN_sound hm hfit n) hex f1 hG ?_
   intro a' w' hG'
   cases x with
   | nor=>exact hpost st hcall a' w' hG'
   | ext id=>exact (hne id rfl).elim
   | ret=>exact hpost st hcall a' w' hG'
  ·cases hcall
end
end Go.Tev
end
section
namespace Go.Tev
inductive BT (α : Type) where
 | e
 | n (k:Nat) (v : α) (l r:BT α)
def BT.find {α : Type} (x:Nat):BT α → Option α
 | .e=>none
 | .n k v l r=>bif x.blt k then l.find x else bif k.blt x then r.find x else some v
def BT.All {α : Type} (p:Nat → α → Prop):BT α → Prop
 | .e=>True
 | .n k v l r=>p k v∧l.All p∧r.All p
theorem BT.All.find {α : Type} {p:Nat → α → Prop} {x:Nat} {v : α}:∀ {t:BT α},t.All p→t.find x=some v→p x v
 | .e,_,h=>by simp [BT.find] at h
 | .n k u l r,ha,h=>by
  obtain ⟨h1,h2,h3⟩:=ha
  simp only [BT.find,cond_eq_ite] at h
  split at h
  ·exact BT.All.find h2 h
  ·rename_i q1
   split at h
   ·exact BT.All.find h3 h
   ·rename_i q2
    cases h
    have:k=x:=by
     simp only [Nat.blt_eq] at q1 q2
     omega
    subst this
    exact h1
def Fit1 (P:Program) (num gnum:Nat→Nat) (f:Nat) (cf:CF):Prop:=∃ fn,P.funcs[num f]?=some fn∧fitF P num gnum cf fn=true
theorem fitP_of {P:Program} {num gnum:Nat→Nat} {t:BT CF} {gl:Nat→Option AV} {ex:Nat→Option (List AV→Nat→Hp→Option (AV × Hp))} (h:t.All (Fit1 P num gnum))
  (hx:∀ f g,ex f=some g→CallOK P num gl gnum (fun f' avs kb h=>if f'=f then g avs kb h else none)):FitP P num gnum ⟨fun f=>t.find f,gl,ex⟩:=
 ⟨fun _ _ hq=>BT.All.find h hq,hx⟩
def numOf (t:BT Nat) (f:Nat):Nat:=(t.find f).getD 1000000
abbrev mR (d x:Nat):R:=⟨some d,.mov,[.t x],none,0,0⟩
abbrev mbR (d x:Nat) (e:Nat):R:=⟨some d,.mov,[.t x],none,e,0⟩
abbrev mTR (d x:Nat) (g:Nat):R:=⟨some d,.mov,[.t x],some (g,true),0,0⟩
abbrev mTbR (d x:Nat) (g e:Nat):R:=⟨some d,.mov,[.t x],some (g,true),e,0⟩
abbrev mFR (d x:Nat) (g:Nat):R:=⟨some d,.mov,[.t x],some (g,false),0,0⟩
abbrev mFbR (d x:Nat) (g e:Nat):R:=⟨some d,.mov,[.t x],some (g,false),e,0⟩
abbrev cR (d:Nat) (v:AV):R:=⟨some d,.mov,[.c v],none,0,0⟩
abbrev cbR (d:Nat) (v:AV) (e:Nat):R:=⟨some d,.mov,[.c v],none,e,0⟩
abbrev pR (d x y:Nat):R:=⟨some d,.pick,[.t x,.t y,.c (.bool false)],none,0,0⟩
abbrev pbR (d x y:Nat) (e:Nat):R:=⟨some d,.pick,[.t x,.t y,.c (.bool false)],none,e,0⟩
abbrev pFR (d x y:Nat) (g:Nat):R:=⟨some d,.pick,[.t x,.t y,.c (.bool false)],some (g,false),0,0⟩
abbrev pFbR (d x y:Nat) (g e:Nat):R:=⟨some d,.pick,[.t x,.t y,.c (.bool false)],some (g,false),e,0⟩
abbrev qR (d x y:Nat):R:=⟨some d,.pick,[.t x,.c (.bool true),.t y],none,0,0⟩
abbrev qbR (d x y:Nat) (e:Nat):R:=⟨some d,.pick,[.t x,.c (.bool true),.t y],none,e,0⟩
abbrev qTR (d x y:Nat) (g:Nat):R:=⟨some d,.pick,[.t x,.c (.bool true),.t y],some (g,true),0,0⟩
abbrev qTbR (d x y:Nat) (g e:Nat):R:=⟨some d,.pick,[.t x,.c (.bool true),.t y],some (g,true),e,0⟩
abbrev uR (d:Nat) (k:K) (x:Nat):R:=⟨some d,k,[.t x],none,0,0⟩
abbrev ubR (d:Nat) (k:K) (x:Nat) (e:Nat):R:=⟨some d,k,[.t x],none,e,0⟩
abbrev usR (d:Nat) (k:K) (x:Nat) (s:Nat):R:=⟨some d,k,[.t x],none,0,s⟩
abbrev ubsR (d:Nat) (k:K) (x:Nat) (e s:Nat):R:=⟨some d,k,[.t x],none,e,s⟩
abbrev uTR (d:Nat) (k:K) (x:Nat) (g:Nat):R:=⟨some d,k,[.t x],some (g,true),0,0⟩
abbrev uTbR (d:Nat) (k:K) (x:Nat) (g e:Nat):R:=⟨some d,k,[.t x],some (g,true),e,0⟩
abbrev uTsR (d:Nat) (k:K) (x:Nat) (g s:Nat):R:=⟨some d,k,[.t x],some (g,true),0,s⟩
abbrev uTbsR (d:Nat) (k:K) (x:Nat) (g e s:Nat):R:=⟨some d,k,[.t x],some (g,true),e,s⟩
abbrev uFR (d:Nat) (k:K) (x:Nat) (g:Nat):R:=⟨some d,k,[.t x],some (g,false),0,0⟩
abbrev uFbR (d:Nat) (k:K) (x:Nat) (g e:Nat):R:=⟨some d,k,[.t x],some (g,false),e,0⟩
abbrev uFsR (d:Nat) (k:K) (x:Nat) (g s:Nat):R:=⟨some d,k,[.t x],some (g,false),0,s⟩
abbrev uFbsR (d:Nat) (k:K) (x:Nat) (g e s:Nat):R:=⟨some d,k,[.t x],some (g,false),e,s⟩
abbrev vR (d:Nat) (k:K) (x y:Nat):R:=⟨some d,k,[.t x,.t y],none,0,0⟩
abbrev vbR (d:Nat) (k:K) (x y:Nat) (e:Nat):R:=⟨some d,k,[.t x,.t y],none,e,0⟩
abbrev vsR (d:Nat) (k:K) (x y:Nat) (s:Nat):R:=⟨some d,k,[.t x,.t y],none,0,s⟩
abbrev vbsR (d:Nat) (k:K) (x y:Nat) (e s:Nat):R:=⟨some d,k,[.t x,.t y],none,e,s⟩
abbrev vTR (d:Nat) (k:K) (x y:Nat) (g:Nat):R:=⟨some d,k,[.t x,.t y],some (g,true),0,0⟩
abbrev vTbR (d:Nat) (k:K) (x y:Nat) (g e:Nat):R:=⟨some d,k,[.t x,.t y],some (g,true),e,0⟩
abbrev vTsR (d:Nat) (k:K) (x y:Nat) (g s:Nat):R:=⟨some d,k,[.t x,.t y],some (g,true),0,s⟩
abbrev vTbsR (d:Nat) (k:K) (x y:Nat) (g e s:Nat):R:=⟨some d,k,[.t x,.t y],some (g,true),e,s⟩
abbrev vFR (d:Nat) (k:K) (x y:Nat) (g:Nat):R:=⟨some d,k,[.t x,.t y],some (g,false),0,0⟩
abbrev vFbR (d:Nat) (k:K) (x y:Nat) (g e:Nat):R:=⟨some d,k,[.t x,.t y],some (g,false),e,0⟩
abbrev vFsR (d:Nat) (k:K) (x y:Nat) (g s:Nat):R:=⟨some d,k,[.t x,.t y],some (g,false),0,s⟩
abbrev vFbsR (d:Nat) (k:K) (x y:Nat) (g e s:Nat):R:=⟨some d,k,[.t x,.t y],some (g,false),e,s⟩
abbrev wR (d:Nat) (k:K) (x:Nat) (v:AV):R:=⟨some d,k,[.t x,.c v],none,0,0⟩
abbrev wbR (d:Nat) (k:K) (x:Nat) (v:AV) (e:Nat):R:=⟨some d,k,[.t x,.c v],none,e,0⟩
abbrev wsR (d:Nat) (k:K) (x:Nat) (v:AV) (s:Nat):R:=⟨some d,k,[.t x,.c v],none,0,s⟩
abbrev wbsR (d:Nat) (k:K) (x:Nat) (v:AV) (e s:Nat):R:=⟨some d,k,[.t x,.c v],none,e,s⟩
abbrev wTR (d:Nat) (k:K) (x:Nat) (v:AV) (g:Nat):R:=⟨some d,k,[.t x,.c v],some (g,true),0,0⟩
abbrev wTbR (d:Nat) (k:K) (x:Nat) (v:AV) (g e:Nat):R:=⟨some d,k,[.t x,.c v],some (g,true),e,0⟩
abbrev wTsR (d:Nat) (k:K) (x:Nat) (v:AV) (g s:Nat):R:=⟨some d,k,[.t x,.c v],some (g,true),0,s⟩
abbrev wFR (d:Nat) (k:K) (x:Nat) (v:AV) (g:Nat):R:=⟨some d,k,[.t x,.c v],some (g,false),0,0⟩
abbrev wFbR (d:Nat) (k:K) (x:Nat) (v:AV) (g e:Nat):R:=⟨some d,k,[.t x,.c v],some (g,false),e,0⟩
abbrev xR (d:Nat) (k:K) (xs:List X):R:=⟨some d,k,xs,none,0,0⟩
abbrev xbR (d:Nat) (k:K) (xs:List X) (e:Nat):R:=⟨some d,k,xs,none,e,0⟩
abbrev xsR (d:Nat) (k:K) (xs:List X) (s:Nat):R:=⟨some d,k,xs,none,0,s⟩
abbrev xbsR (d:Nat) (k:K) (xs:List X) (e s:Nat):R:=⟨some d,k,xs,none,e,s⟩
abbrev xTR (d:Nat) (k:K) (xs:List X) (g:Nat):R:=⟨some d,k,xs,some (g,true),0,0⟩
abbrev xTbR (d:Nat) (k:K) (xs:List X) (g e:Nat):R:=⟨some d,k,xs,some (g,true),e,0⟩
abbrev xTsR (d:Nat) (k:K) (xs:List X) (g s:Nat):R:=⟨some d,k,xs,some (g,true),0,s⟩
abbrev xFR (d:Nat) (k:K) (xs:List X) (g:Nat):R:=⟨some d,k,xs,some (g,false),0,0⟩
abbrev xFsR (d:Nat) (k:K) (xs:List X) (g s:Nat):R:=⟨some d,k,xs,some (g,false),0,s⟩
abbrev sfR (n x y:Nat):R:=⟨none,.store n false,[.t x,.t y],none,0,0⟩
abbrev sfbR (n x y:Nat) (e:Nat):R:=⟨none,.store n false,[.t x,.t y],none,e,0⟩
abbrev stR (n x y:Nat):R:=⟨none,.store n true,[.t x,.t y],none,0,0⟩
abbrev stbR (n x y:Nat) (e:Nat):R:=⟨none,.store n true,[.t x,.t y],none,e,0⟩
abbrev ldt (n:Nat):K:=.load n true
abbrev ld1:K:=.load 1 false
abbrev fdf (o n:Nat):K:=.fad o n false
abbrev fdt (o n:Nat):K:=.fad o n true
abbrev ln1:K:=.len 1
abbrev bLs:K:=.bin .lss
abbrev bEq:K:=.bin .eql
abbrev bAd:K:=.bin .add
abbrev Z:AV:=.top
abbrev Y:Bool:=true
abbrev N:Bool:=false
abbrev i0:AV:=.int .i64 0
abbrev i1:AV:=.int .i64 1
abbrev bN:AV:=.bool false
abbrev bY:AV:=.bool true
abbrev sN:AV:=.sl true [] true
end Go.Tev
end
