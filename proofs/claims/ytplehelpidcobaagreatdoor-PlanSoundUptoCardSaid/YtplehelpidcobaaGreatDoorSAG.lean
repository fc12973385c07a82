import Derived.Test.YtplehelpidcobaaGreatDoorSAF
import Derived.ControlIn
set_option linter.all false
section
namespace Go.Tev
def ns:Nat->List Bool->List Bool
 |0,l=>l
 |n+1,l=>false::ns n l
open Go.RowKit
def fitRs(P:Program)(num aQ:Nat->Nat)(ops:Array Oper)(dr:Bool)(all:List R):Nat->List Oper->List R->Bool
 |_,[],[]=>true
 | i,o::os,r::rs=>fitR P num aQ ops o r&&(!dr||fitBef all i o r)&&fitRs P num aQ ops dr all (i+1) os rs
 |_,_,_=>false
def pL:C->Bool
 |.seq a b|.cond _ a b=>pL a&&pL b
 |.block _ a|.loop a _=>pL a
 |.rf .. => false
 |_=>true
def fitC(P:Program)(num aQ:Nat->Nat):C->Code->Bool
 |.skip,.skip=>true
 |.reg rs d,.region _ ops d'=>d==d'&&fitRs P num aQ ops d rs 0 ops.toList rs
 |.seq a b,.seq x y=>fitC P num aQ a x&&fitC P num aQ b y
 |.cond c a b,.cond o x y=>fitX num aQ c o&&fitC P num aQ a x&&fitC P num aQ b y
 |.block id a,.block id' x=>id==id'&&fitC P num aQ a x
 |.loop a _,.loop x=>fitC P num aQ a x
 |.exit id,.exit id'=>id==id'
 |.ret,.ret=>true
 |.rf x _ ps a b,.rangeFunc g ps' c d=>fitX num aQ x g&&ps==ps'.toList&&fitC P num aQ a c&&fitC P num aQ b d&&pL a&&pL b
 |.bad,_=>true
 |_,_=>false
def fitRes(P:Program):List (Sum Nat (Nat×Nat×Bool))->List ResultVar->Bool
 |[],[]=>true
 |.inl t::r,.tmp u::s=>t==u&&fitRes P r s
 |.inr (t,sz,ag)::r,.cell u ty::s=>t==u&&fitT P ty sz ag&&fitRes P r s
 |_,_=>false
def fitF(P:Program)(num aQ:Nat->Nat)(cf:CF)(fn:Func):Bool:=
 match fn.body with
 |some c=>fitC P num aQ cf.body c&&fn.ntmps==cf.nt&&fn.name != "runtime.NumGoroutine" && fitRes P cf.res fn.results.toList
 |none=>false
def HS:Ex->Exit
 |.nor => .normal
 |.ext id => .exit id
 |.ret => .ret
section
variable{P:Program}{num:Nm}{gl:Nat->Option AV}{aQ:Nat->Nat}{call:bF}{Fb:Nat->Prop}{B0:Nat}{ρ0:Rho}{w0:World}{O0:Nat->Prop}
theorem fitRs_get{ops:Array Oper}{dr:Bool}{all:List R}:∀{i:Nat}{os:List Oper}{rs:List R},fitRs P num aQ ops dr all i os rs=true ->
  rs.length=os.length/\∀(j:Nat)(o:Oper)(r:R),os[j]?=some o->rs[j]?=some r->fitR P num aQ ops o r=true/\(dr=true->fitBef all (i+j) o r=true)
 |_,[],[],_=>⟨rfl,by intro j o r h;simp at h⟩
 |_,[],_::_,h=>by simp[fitRs]at h
 |_,_::_,[],h=>by simp[fitRs]at h
 |i,o0::os,r0::rs,h=>by
  simp only[fitRs,Bool.and_eq_true,Bool.or_eq_true,Bool.not_eq_true']at h
  obtain⟨h1,h2⟩:=fitRs_get h.2
  refine⟨by simp[h1],?_⟩
  intro j o r ho hr
  cases j with
  |zero=>
   simp at ho hr
   subst ho hr
   exact⟨h.1.1,fun q=>by
    rcases h.1.2 with h|h
    ·rw[q]at h;cases h
    ·exact h⟩
  |succ j=>
   obtain⟨q1,q2⟩:=h2 j o r (by simpa using ho) (by simpa using hr)
   exact⟨q1,fun q=>by
    have:=q2 q
    rwa [Nat.add_assoc,Nat.add_comm 1 j]at this⟩
theorem yL{ro:Option Nat}(hc:nY P num gl aQ call){kb:Nat}{ops:Array Oper}{Q:Exit->Act->World->Prop}:∀{rs:List R}{i:Nat}{st st':St}{a:Act}{w:World},
  pG gl call kb rs st=some st'->(∀(j:Nat)(r:R),rs[j]?=some r->∃o,ops[i+j]?=some o/\fitR P num aQ ops o r=true) ->
  qI num gl aQ Fb B0 ρ0 w0 O0 st a w->(∀a' w',qI num gl aQ Fb B0 ρ0 w0 O0 st' a' w'->Q .normal a' w')->wpOpsIn (FW ro) 0 P ops Q (List.range' i rs.length) a w
 |[],i,st,st',a,w,h,_,hG,hK=>by
  simp[pG]at h
  subst h
  exact hK a w hG
 |r::rs,i,st,st',a,w,h,hf,hG,hK=>by
  unfold pG at h
  split at h
  case h_2=>cases h
  rename_i st1 e hs
  simp only[List.length_cons,List.range'_succ,wpOpsIn_cons]
  obtain⟨o,ho,hfo⟩:=hf 0 r rfl
  refine x6 hc (by simpa using ho) hfo hG hs ?_
  intro a' w' hG'
  refine yL hc h ?_ hG' hK
  intro j r' hr'
  obtain⟨o',q1,q2⟩:=hf (j+1) r' (by simpa using hr')
  exact⟨o',by rw[Nat.add_assoc,Nat.add_comm 1 j];exact q1,q2⟩
theorem vZ:∀{m:List Bool}{env:List AV}{t:Nat}{x:AV},(clear m env)[t]?=some x->x = .top\/env[t]?=some x
 |[],env,t,x,h=>by
  cases env<;>simp[clear]at h ⊢ <;> exact .inr h
 |b::m,[],t,x,h=>by
  cases b<;>simp[clear]at h
 |b::m,v::r,t,x,h=>by
  cases b with
  |true=>
   simp only[clear]at h
   cases t with
   |zero=>right;simpa using h
   |succ t=>
    rcases vZ (m:=m) (env:=r) (t:=t) (x:=x) (by simpa using h) with q|q
    ·exact .inl q
    ·right;simpa using q
  |false=>
   simp only[clear]at h
   cases t with
   |zero=>left;simpa using h.symm
   |succ t=>
    rcases vZ (m:=m) (env:=r) (t:=t) (x:=x) (by simpa using h) with q|q
    ·exact .inl q
    ·right;simpa using q
theorem pP:∀(m:List Bool)(env:List AV),(clear m env).length=env.length
 |[],env=>by cases env<;>simp[clear]
 |b::m,[]=>by cases b<;>simp[clear]
 |b::m,v::r=>by cases b<;>simp[clear,pP m r]
theorem qI.clear{st:St}{a:Act}{w:World}(h:qI num gl aQ Fb B0 ρ0 w0 O0 st a w)(m:List Bool):qI num gl aQ Fb B0 ρ0 w0 O0 ⟨clear m st.env,st.hp⟩ a w:=by
 obtain⟨ρ,O,h1,h2,h3,h4,h5⟩:=h
 refine⟨ρ,O,h1,h2,h3,⟨by simp only[pP];exact h4.size,?_,h4.defers⟩,h5⟩
 intro t x y hx hy
 rcases vZ hx with rfl|q
 ·exact .top _
 ·exact h4.get t x y q hy
theorem LV{ro:Option Nat}{c:Code}{Q:Exit->Act->World->Prop}(I:Nat->Act->World->Prop)
  (round:∀n a w,I n a w->c.wpIn (FW ro) 0 P (Exit.then (fun a' w'=>∃m,m<n/\I m a' w') Q) a w) {n:Nat} {a:Act} {w:World} (h0:I n a w):(Code.loop c).wpIn (FW ro) 0 P Q a w:=by
 have least:∀(a:Act)(w:World),(∃n,I n a w)->∃n,I n a w/\∀m,I m a w->n<=m:=by
  intro a w ⟨n,hn⟩
  induction n using Nat.strongRecOn with
  |ind n ih=>
   by_cases h:∃m,m<n/\I m a w
   ·obtain⟨m,h1,h2⟩:=h
    exact ih m h1 h2
   ·exact⟨n,hn,fun m hm=>by
     rcases Nat.lt_or_ge m n with q|q
     ·exact absurd ⟨m,q,hm⟩ h
     ·exact q⟩
 let μ : Act->World->Nat:=fun a w=>open Classical in if h:∃n,I n a w then (least a w h).choose else 0
 refine wpIn_loop (fun a w=>∃n,I n a w) μ ⟨n,h0⟩ ?_
 intro a w h
 have hspec:=(least a w h).choose_spec
 refine wpIn_mono (round _ a w hspec.1) ?_
 intro e a' w' hq
 cases e<;>simp only[Exit.then]at hq ⊢ <;> try exact hq
 obtain⟨m,hm,hI⟩:=hq
 refine⟨⟨m,hI⟩,?_⟩
 have hspec':=(least a' w' ⟨m,hI⟩).choose_spec
 have:=hspec'.2 m hI
 show μ a' w' < μ a w
 have e1 : μ a w=(least a w h).choose:=by simp only[μ];rw[dif_pos h]
 have e2 : μ a' w'=(least a' w' ⟨m,hI⟩).choose:=by simp only[μ];rw[dif_pos ⟨m,hI⟩]
 rw[e1,e2]
 omega
theorem tF{ro:Option Nat}(hm:P.follows .mixedOrders=true)(hc:nY P num gl aQ call)
  (hlk:∀(ps:List Nat)(ca cb:C)(r:Loop),r.params.toList=ps->fitC P num aQ ca r.assign=true->fitC P num aQ cb r.body=true->pL ca=true->pL cb=true->num.lk ps ca cb r) {kb n:Nat}:∀{c:C}{code:Code}{Q:Exit->Act->World->Prop}{st st':St}{x:Ex}{a:Act}{w:World},
  cM gl call kb n c st=some (x,st')->fitC P num aQ c code=true->(ro=none\/pL c=true)->qI num gl aQ Fb B0 ρ0 w0 O0 st a w ->
  (∀a' w',qI num gl aQ Fb B0 ρ0 w0 O0 st' a' w'->Q (HS x) a' w')->code.wpIn (FW ro) 0 P Q a w:=by
 intro c
 induction c with
 |skip=>
  intro code Q st st' x a w h hf hn hG hK
  cases code<;>simp[fitC]at hf
  simp[cM]at h
  obtain⟨rfl,rfl⟩:=h
  exact wpIn_skip (hK _ _ hG)
 |reg rs d=>
  intro code Q st st' x a w h hf hn hG hK
  cases code<;>simp[fitC]at hf
  rename_i id ops d'
  obtain⟨rfl,hf⟩:=hf
  obtain⟨f1,f2⟩:=fitRs_get hf
  cases d with
  |false=>
   simp only[cM]at h
   cases hr:pG gl call kb rs st with
   |none=>simp[hr]at h
   |some s=>
    simp[hr]at h
    obtain⟨rfl,rfl⟩:=h
    refine wpIn_region ?_
    have hl:ops.size=rs.length:=by simpa using f1.symm
    rw[List.range_eq_range',hl]
    refine yL hc hr ?_ hG hK
    intro j r hrj
    have hj:j<ops.size:=by have:=(List.getElem?_eq_some_iff.1 hrj).1;omega
    exact⟨ops[j],by simp[hj],(f2 j ops[j] r (by simp[hj]) hrj).1⟩
  |true=>
   simp only[cM]at h
   split at h
   case h_2=>cases h
   rename_i s es hr
   split at h
   case isFalse=>cases h
   rename_i hap
   simp at h
   obtain⟨rfl,rfl⟩:=h
   refine wpIn_region_any hm ?_
   refine H5 hc (by simpa using f1) ?_ hr hap hK ?_
   ·intro i o r ho hri
    obtain⟨q1,q2⟩:=f2 i o r (by simpa using ho) hri
    exact⟨q1,by simpa using q2 rfl⟩
   ·obtain⟨ρ,O,h1,h2,h3,h4,h5⟩:=hG
    have ev:Evo ρ w O ρ {w with drawn:=w.drawn+1} O:=⟨rfl,rfl,rfl,Nat.le_refl _,fun _ _ _=>rfl,fun _ _ q=>q,fun _ _ _ q=>q⟩
    exact⟨ρ,O,h1.trans ev,h2.same ev (fun _ _=>rfl),h3.evo ev,h4.evo ev,h5⟩
 |seq c1 c2 ih1 ih2=>
  intro code Q st st' x a w h hf hn hG hK
  cases code<;>simp[fitC]at hf
  have hn1:ro=none\/pL c1=true:=hn.imp id (fun q=>by simp only[pL,Bool.and_eq_true]at q;exact q.1)
  have hn2:ro=none\/pL c2=true:=hn.imp id (fun q=>by simp only[pL,Bool.and_eq_true]at q;exact q.2)
  simp only[cM]at h
  refine wpIn_seq ?_
  split at h
  ·rename_i st1 h1
   exact ih1 h1 hf.1 hn1 hG (fun a' w' hG'=>ih2 h hf.2 hn2 hG' hK)
  ·rename_i hne
   refine ih1 h hf.1 hn1 hG ?_
   intro a' w' hG'
   have:=hK a' w' hG'
   cases x with
   |nor=>exact absurd h (hne _)
   |ext id=>exact this
   |ret=>exact this
 |cond c c1 c2 ih1 ih2=>
  intro code Q st st' x a w h hf hn hG hK
  cases code<;>simp[fitC]at hf
  rename_i o x1 x2
  obtain⟨⟨hx,h1⟩,h2⟩:=hf
  have hn1:ro=none\/pL c1=true:=hn.imp id (fun q=>by simp only[pL,Bool.and_eq_true]at q;exact q.1)
  have hn2:ro=none\/pL c2=true:=hn.imp id (fun q=>by simp only[pL,Bool.and_eq_true]at q;exact q.2)
  simp only[cM]at h
  have hv:∃(ρ : Rho)(O:Nat->Prop),Rv num ρ w (fun b=>Fb b\/O b) (c.ev gl st.env) (a.eval o):=by
   obtain⟨ρ,O,q1,q2,q3,q4,_⟩:=hG
   exact⟨ρ,O,zU q4 q3 hx⟩
  obtain⟨ρ,O,hv⟩:=hv
  split at h
  ·rename_i hb
   rw[hb]at hv
   exact wpIn_cond_true hv.of_bool (ih1 h h1 hn1 hG hK)
  ·rename_i hb
   rw[hb]at hv
   exact wpIn_cond_false hv.of_bool (ih2 h h2 hn2 hG hK)
  ·cases h
 |block id c ih=>
  intro code Q st st' x a w h hf hn hG hK
  cases code<;>simp[fitC]at hf
  obtain⟨rfl,hf⟩:=hf
  simp only[cM]at h
  refine wpIn_block ?_
  split at h
  ·rename_i i st1 h1
   refine ih h1 hf hn hG ?_
   intro a' w' hG'
   split at h
   ·rename_i hi
    cases h
    simp only[HS,Exit.inBlock,hi,if_true]
    exact hK _ _ hG'
   ·rename_i hi
    cases h
    simp only[HS,Exit.inBlock]
    rw[if_neg hi]
    exact hK _ _ hG'
  ·rename_i hne
   refine ih h hf hn hG ?_
   intro a' w' hG'
   have:=hK a' w' hG'
   cases x with
   |nor=>exact this
   |ext id=>exact absurd h (hne _ _)
   |ret=>exact this
 |loop c clr ih=>
  intro code Q st st' x a w h hf hn hG hK
  cases code<;>simp[fitC]at hf
  rename_i code
  simp only[cM]at h
  have key:∀m,(∃s,kG (cM gl call kb n c) clr m s=some (x,st')/\qI num gl aQ Fb B0 ρ0 w0 O0 s a w)->(Code.loop code).wpIn (FW ro) 0 P Q a w:=by
   intro m hs
   refine LV (I:=fun m a w=>∃s,kG (cM gl call kb n c) clr m s=some (x,st')/\qI num gl aQ Fb B0 ρ0 w0 O0 s a w) ?_ hs
   intro m a w ⟨s,hs,hGs⟩
   cases m with
   |zero=>simp[kG]at hs
   |succ m=>
    simp only[kG]at hs
    split at hs
    ·rename_i s1 h1
     refine ih h1 hf hn (hGs.clear clr) ?_
     intro a' w' hG'
     exact⟨m,Nat.lt_succ_self m,s1,hs,hG'⟩
    ·rename_i hne
     refine ih hs hf hn (hGs.clear clr) ?_
     intro a' w' hG'
     have:=hK a' w' hG'
     cases x with
     |nor=>exact absurd hs (hne _)
     |ext id=>exact this
     |ret=>exact this
  exact key n ⟨st,h,hG⟩
 |exit id=>
  intro code Q st st' x a w h hf hn hG hK
  cases code<;>simp[fitC]at hf
  subst hf
  simp[cM]at h
  obtain⟨rfl,rfl⟩:=h
  exact wpIn_exit (hK _ _ hG)
 |ret=>
  intro code Q st st' x a w h hf hn hG hK
  cases code<;>simp[fitC]at hf
  simp[cM]at h
  obtain⟨rfl,rfl⟩:=h
  exact wpIn_ret (hK _ _ hG)
 |bad=>
  intro code Q st st' x a w h
  simp[cM]at h
 |rf fx s ps ca cb=>
  intro code Q st st' x a w h hf hn hG hK
  cases code<;>simp[fitC]at hf
  rename_i g ps' cas cbd
  obtain⟨⟨⟨⟨⟨hx,rfl⟩,f1⟩,f2⟩,n1⟩,n2⟩:=hf
  obtain rfl:ro=none:=hn.resolve_right (by simp[pL])
  simp only[cM]at h
  split at h
  case h_2=>cases h
  rename_i f cs hfx
  split at h
  case h_2=>cases h
  rename_i rr h' hcall
  obtain⟨ρ,O,ev0,H,hg,he,hmk⟩:=hG
  have hv:=zU he hg hx
  rw[hfx]at hv
  obtain⟨cvs,hfe,hcl,hcg⟩:=hv.of_fn
  obtain⟨⟨fn0,z1,z2,z3⟩,hca⟩:=hc.fn _ _ _ _ _ _ hcall
  refine wpIn_rangeFunc fun fn _=>?_
  obtain⟨r0,hr0⟩:∃r0:Loop,({state:=.ready,pending:=none,fn,tmps:=a.tmps,params:=ps',assign:=cas,body:=cbd,defers:=w.heap.size}:Loop)=r0:=⟨_,rfl⟩
  have p0:kN w (w.alloc (.deferred (some []))) (.deferred (some [])):=⟨rfl,rfl,rfl,rfl⟩
  have ev1:Evo ρ w O ρ (w.alloc (.deferred (some []))) O:=
   ⟨rfl,rfl,rfl,by rw[p0.size];omega,fun b hb _=>p0.old hb,fun _ _ q=>q,fun _ _ _ q=>q⟩
  have H1:=H.same ev1 (fun b hb=>p0.old (H.own b hb).2)
  have hs1:(w.alloc (.deferred (some []))).heap.size=w.heap.size+1:=p0.size
  have p1:kN (w.alloc (.deferred (some []))) ((w.alloc (.deferred (some []))).alloc (.loop r0)) (.loop r0):=⟨rfl,rfl,rfl,rfl⟩
  have he1:=he.evo ev1
  obtain⟨ev2,H2⟩:=H1.newLp (k:=kb+s) (bb:=kb) (env:=st.env) (ps:=ps'.toList) (ca:=ca) (cb:=cb) p1
   (hlk _ _ _ _ (by rw[<-hr0]) (by rw[<-hr0];exact f1) (by rw[<-hr0];exact f2) n1 n2) (.inl ⟨rfl,by rw[<-hr0],by rw[<-hr0]⟩) (by rw[<-hr0];exact he1.size)
   (fun i x y hx hy=>he1.get i x y hx (by rw[<-hr0]at hy;exact hy))
  have hg2:=(hg.evo ev1).evo ev2
  have ev12:=ev1.trans ev2
  have hav:aL (Rv num _ ((w.alloc (.deferred (some []))).alloc (.loop r0)) (fun b=>Fb b\/(O b\/b=(w.alloc (.deferred (some []))).heap.size))) (.yl (kb+s) (st.hp.next (kb+s))::cs) (.func (.yield (w.heap.size+1)) #[] #[]::cvs.toList):=
   .cons (by rw[<-hs1];exact .yl _ _ _ (Rho.set_same _ _ _ _)) (aL.of_get (by simpa using hcl) (fun i x y hx hy=>(hcg i x y hx (by simpa using hy)).evo ev12))
  have hcc:=hca Fb B0 _ _ _ _ H2 hg2 hav
  refine⟨w.heap.size+1,[{target:=.collected w.heap.size,args := #[]}],(w.alloc (.deferred (some []))).alloc (.loop r0),{target:=.fn (.func (num f)) cvs,args := #[.func (.yield (w.heap.size+1)) #[] #[]]},
   (w.alloc (.deferred (some []))).alloc (.loop r0),num f,(Value.func (.yield (w.heap.size+1)) #[] #[]::cvs.toList).toArray,(w.alloc (.deferred (some []))).alloc (.loop r0),?_,?_,?_,?_,fun h=>by simp[Fence.wide]at h,?_⟩
  ·rw[<-hr0];exact run_enterLoop_outer _ _ _ _ _
  ·simp only[resolve,hfe]
   simp[Deferred.ofValue]
   try rfl
  ·intro f' _;trivial
  ·have:=kB (P:=P) (g:=num f) (args := #[.func (.yield (w.heap.size+1)) #[] #[]]++cvs) ((w.alloc (.deferred (some []))).alloc (.loop r0)) ⟨fn0,z1,z2,z3⟩
   have hm:(Value.func (.yield (w.heap.size+1)) #[] #[]::cvs.toList).toArray = #[.func (.yield (w.heap.size+1)) #[] #[]]++cvs:=by
    apply Array.ext';simp
   rw[hm]
   simp[invoke,this]
  ·refine(tJ hcc).mono ?_
   rintro en w3 ⟨cv,ρ3,O3,rfl,ev3,H3,_⟩
   unfold JP at h
   split at h
   case h_2=>cases h
   rename_i e' q bb env1 ps1 ca1 cb1 hget
   split at h
   case isFalse=>cases h
   rename_i hee
   subst hee
   obtain⟨L,r3,q1,q2,q3,q4,q5,q6,q7,q8⟩:=H3.lpo _ _ _ _ _ _ _ _ hget
   have hL:L=⟨(w.alloc (.deferred (some []))).heap.size,0,0,false,0⟩:=by
    have:=ev3.rho _ _ _ (Rho.set_same ρ (kb+s) (st.hp.next (kb+s)) ⟨(w.alloc (.deferred (some []))).heap.size,0,0,false,0⟩)
    rw[q1]at this
    exact Option.some.inj this
   have hLb:L.b=w.heap.size+1:=by rw[hL];exact hs1
   have hlt:L.b<w3.heap.size:=(Array.getElem?_eq_some_iff.1 q2).1
   have ht:jC w3 (w3.putObj L.b (.loop {r3 with state:=.exhausted})) L.b (.loop {r3 with state:=.exhausted}):=
    ⟨rfl,rfl,rfl,by simp,by simp[World.putObj,hlt],fun k hk=>World.putObj_heap_other hk⟩
   obtain⟨ev4,H4⟩:=H3.killLp hget q1 ht
   have hev:=ev12.trans (ev3.trans ev4)
   have hD:w3.heap[w.heap.size]?=some (.deferred (some [])):=by
    have hO:¬(O w.heap.size\/w.heap.size=(w.alloc (.deferred (some []))).heap.size):=by
     rintro(q|q)
     ·have:=(H.own _ q).2;omega
     ·omega
    rw[ev3.keep _ (by rw[p1.size];omega) hO,p1.old (by omega)]
    exact p0.new
   have hO3:¬O3 w.heap.size:=by
    intro q
    rcases ev3.own _ (by rw[p1.size];omega) q with q|q
    ·have:=(H.own _ q).2;omega
    ·omega
   have hG4:∀hp,(hp=h'.put (kb+s) (st.hp.next (kb+s)) .dead)->qI num gl aQ Fb B0 ρ0 w0 O0 ⟨st.env,hp⟩ {a with defers:=[{target:=.collected w.heap.size,args := #[]}]++a.defers} (w3.putObj L.b (.loop {r3 with state:=.exhausted})):=by
    rintro hp rfl
    have he4:=he.evo hev
    refine⟨ρ3,O3,ev0.trans hev,H4,hg.evo hev,⟨he4.size,he4.get,⟨w.heap.size,rfl,?_,?_,?_⟩,he4.defers⟩,?_⟩
    ·rintro(q|q)
     ·have:=H.fbl _ q;have:=H.le;omega
     ·exact hO3 q
    ·rw[World.putObj_heap_other (by omega)];exact hD
    ·have:∀{l:List Deferred},sH w (fun b=>Fb b\/O b) l->∀d'∈l,d'.target ≠ .collected w.heap.size:=by
      intro l
      induction l with
      |nil=>intro _ d' hd';cases hd'
      |cons d l ih=>
       rintro⟨⟨D,y1,y2,y3,y4⟩,y5⟩ d' hd'
       rcases List.mem_cons.1 hd' with rfl|hd'
       ·intro e
        rw[y1]at e
        have:=(Array.getElem?_eq_some_iff.1 y3).1
        cases e
        omega
       ·exact ih y5 d' hd'
     exact this he.defers
    ·intro d hd D hDt
     rcases List.mem_cons.1 hd with rfl|hd
     ·cases hDt;exact ev0.size
     ·exact hmk d hd D hDt
   have hstate:r3.state ≠ .busy->(Instr.endLoop (w.heap.size+1)).run P w3 = .ok r3.pending (w3.putObj L.b (.loop {r3 with state:=.exhausted})):=by
    intro hb
    rw[<-hLb]
    exact run_endLoop q2 hb
   generalize w3.putObj L.b (.loop {r3 with state:=.exhausted})=w4 at hG4 hstate
   refine⟨r3.pending,_,hstate ?_,?_⟩
   ·rcases q4 with ⟨_,y,_⟩|⟨y0,y,_⟩|⟨_,y,_⟩|⟨i,_,y,_⟩
    ·rw[y];decide
    ·subst y0;cases h
    ·rw[y];decide
    ·rw[y];decide
   ·rcases q4 with ⟨y0,_,y⟩|⟨y0,_,y⟩|⟨y0,_,y⟩|⟨i,y0,_,y⟩
    ·subst y0
     cases h
     rw[y]
     exact hK _ _ (hG4 _ rfl)
    ·subst y0;cases h
    ·subst y0
     cases h
     rw[y]
     exact wpIn_ret (hK _ _ (hG4 _ rfl))
    ·obtain rfl:q=i+4:=by omega
     simp only at h
     cases h
     rw[y]
     exact wpIn_exit (hK _ _ (hG4 _ rfl))
end
section
variable{P:Program}{num:Nm}{aQ:Nat->Nat}{Fb:Nat->Prop}{B0:Nat}{ρ : Rho}{w:World}{O:Nat->Prop}
def EL(tmps:Array Value):ResultVar->Sem Value
 |.tmp t=>pure (tmps.getD t undef)
 |.cell c t=>do loadVar t (<-asAddr (tmps.getD c undef))
theorem EH{st:St}{a:Act}{r:Sum Nat (Nat×Nat×Bool)}{rv:ResultVar}{v:AV}(H:HpR num Fb B0 ρ w O st.hp)(he:qJ num ρ w (fun b=>Fb b\/O b) st.env a)
  (hf:fitRes P [r] [rv]=true) (h:wJ st r=some v) :
  ∃cv,(EL a.tmps rv).run P w = .ok cv w/\Rv num ρ w (fun b=>Fb b\/O b) v cv:=by
 cases r with
 |inl t=>
  cases rv with
  |cell=>simp[fitRes]at hf
  |tmp u=>
   simp[fitRes]at hf
   subst hf
   simp[wJ]at h
   subst h
   exact⟨_,by simp only[EL];exact Sem.run_pure ..,he.tmp t⟩
 |inr p=>
  obtain⟨t,sz,ag⟩:=p
  cases rv with
  |tmp=>simp[fitRes]at hf
  |cell u ty=>
   simp[fitRes]at hf
   obtain⟨rfl,hf⟩:=hf
   simp only[wJ]at h
   split at h
   case h_2=>cases h
   rename_i k e off hp
   split at h
   case h_2=>cases h
   rename_i e' cs _ _ _ _ hg
   split at h
   case isFalse=>cases h
   rename_i hee
   subst hee
   have ht:=he.tmp t
   rw[hp]at ht
   obtain⟨L,q1,q2⟩:=ht.of_pt
   obtain⟨cv,r1,r2⟩:=BG H hg q2 hf h (fun q=>fitT_one hf q)
   exact⟨cv,by simp only[EL,q1];simp[asAddr,r1],r2⟩
theorem tR{st:St}{a:Act}(H:HpR num Fb B0 ρ w O st.hp)(he:qJ num ρ w (fun b=>Fb b\/O b) st.env a):∀{rs:List (Sum Nat (Nat×Nat×Bool))}{rvs:List ResultVar}{l:List AV},
  fitRes P rs rvs=true->pF st rs=some l ->
  ∃cvs:List Value,(rvs.mapM (EL a.tmps)).run P w = .ok cvs w/\aL (Rv num ρ w (fun b=>Fb b\/O b)) l cvs
 |[],[],l,_,h=>by
  simp[pF]at h
  subst h
  exact⟨[],by simp,.nil⟩
 |[],_::_,l,hf,_=>by simp[fitRes]at hf
 |r::_,[],l,hf,_=>by cases r<;>simp[fitRes]at hf
 |r::rs,rv::rvs,l,hf,h=>by
  unfold pF at h
  split at h
  case h_2=>cases h
  rename_i v l' h1 h2
  cases h
  have hff:fitRes P [r] [rv]=true/\fitRes P rs rvs=true:=by
   cases r<;>cases rv<;>simp[fitRes]at hf ⊢ <;> first|exact hf|exact⟨⟨hf.1.1,hf.1.2⟩,hf.2⟩
  obtain⟨cv,q1,q2⟩:=EH H he hff.1 h1
  obtain⟨cvs,q3,q4⟩:=tR H he hff.2 h2
  exact⟨cv::cvs,by simp only[List.mapM_cons];simp[q1,q3],.cons q2 q4⟩
theorem CW{st:St}{a:Act}{cf:CF}{fn:Func}{v:AV}(H:HpR num Fb B0 ρ w O st.hp)(he:qJ num ρ w (fun b=>Fb b\/O b) st.env a)
  (hf:fitRes P cf.res fn.results.toList=true) (h:result st cf.res=some v):∃cv,(results fn a.tmps).run P w = .ok cv w/\Rv num ρ w (fun b=>Fb b\/O b) v cv:=by
 unfold result at h
 cases hr:pF st cf.res with
 |none=>simp[hr]at h
 |some l=>
  obtain⟨cvs,q1,q2⟩:=tR H he hf hr
  refine⟨if h:cvs.toArray.size=1 then cvs.toArray[0] else .tuple cvs.toArray,?_,?_⟩
  ·have e:results fn a.tmps=(do
     let vs <-fn.results.mapM (EL a.tmps)
     pure (if h:vs.size=1 then vs[0] else .tuple vs)):=by
    unfold results
    congr 1
   rw[e,Array.mapM_eq_mapM_toList]
   simp[q1]
  ·rw[hr]at h
   cases q2 with
   |nil=>
    simp at h
    subst h
    simp
    exact .tup [] #[] rfl (by intro i x y hx;simp at hx)
   |cons h1 h2=>
    cases h2 with
    |nil=>
     simp at h
     subst h
     simpa using h1
    |cons h2 h3=>
     simp at h
     subst h
     simp
     have hh:=aL.cons h1 (.cons h2 h3)
     exact .tup _ _ (by simpa using hh.length) (fun i x y hx hy=>hh.get i x y hx (by simpa using hy))
def VF(P:Program)(num aQ:Nat->Nat)(ps:List Nat)(ca cb:C)(r:Loop):Prop:=
 r.params.toList=ps/\fitC P num aQ ca r.assign=true/\fitC P num aQ cb r.body=true/\pL ca=true/\pL cb=true
structure PV(P:Program)(num:Nm)(aQ:Nat->Nat)(pg:Pg):Prop where
 fs:∀f cf,pg.fs f=some cf->∃fn,P.funcs[num f]?=some fn/\fitF P num aQ cf fn=true
 ex:∀f g,pg.ex f=some g->hQ P num pg.gl aQ ⟨fun f' avs kb h=>if f'=f then g avs kb h else none,fun _ _ _ _=>none⟩
 lk:∀ps ca cb r,num.lk ps ca cb r↔VF P num aQ ps ca cb r
theorem K9{F:Nat->Prop}{cf:CF}{fn:Func}{avs:List AV}{vs:List Value}(hv:aL (Rv num ρ w F) avs vs)(hn:fn.ntmps=cf.nt) :
  qJ num ρ w F (enter cf avs) {tmps:=vs.toArray++Array.replicate (fn.ntmps-vs.toArray.size) undef,defers:=[]}:=by
 have hl:=hv.length
 refine⟨by simp[enter,hl,hn],?_,trivial⟩
 intro t x y hx hy
 simp only[enter]at hx
 rcases Nat.lt_or_ge t avs.length with q|q
 ·rw[List.getElem?_append_left q]at hx
  rw[Array.getElem?_append_left (by simpa using (by omega:t<vs.length))]at hy
  exact hv.get t x y hx (by simpa using hy)
 ·rw[List.getElem?_append_right q]at hx
  rw[Array.getElem?_append_right (by simpa using (by omega:vs.length<=t))]at hy
  simp[List.getElem?_replicate]at hx
  simp[Array.getElem?_replicate]at hy
  obtain⟨_,rfl⟩:=hx
  obtain⟨_,rfl⟩:=hy
  exact .tup [] #[] rfl (by intro i x y hx;simp at hx)
theorem uC{fn:Func}{tmps:Array Value}{R:Ending->World->Prop}{Fb':Nat->Prop}{h:Hp}:∀{l:List Deferred}{w:World},HpR num Fb B0 ρ w O h->sH w (fun b=>Fb' b\/O b) l ->
  (∀w',HpR num Fb B0 ρ w' O h->(∀b off,w'.cell? ⟨b,off,none⟩=w.cell? ⟨b,off,none⟩)->w.heap.size<=w'.heap.size->w'.os=w.os->w'.tape=w.tape->w'.output=w.output ->
   (∀b,(∀d∈l,d.target ≠ .collected b)->w'.heap[b]?=w.heap[b]?)->∃v,(results fn tmps).run P w' = .ok v w'/\R (.returned v) w') ->
  LeavesInM Fence.wide 0 P fn tmps R l .returning w
 |[],w,H,_,hK=>hK w H (fun _ _=>rfl) (Nat.le_refl _) rfl rfl rfl (fun _ _=>rfl)
 |d::l,w,H,⟨⟨D,h1,h2,h3,h4⟩,h5⟩,hK=>by
  refine⟨by simp,.inl ⟨D,w.putObj D (.deferred none),by rw[h1],run_takeDeferred h3,?_⟩⟩
  refine uC (Fb':=Fb') (H.shut h3) ?_ ?_
  ·have:∀{l:List Deferred},(∀d'∈l,d'.target ≠ .collected D)->sH w (fun b=>Fb' b\/O b) l->sH (w.putObj D (.deferred none)) (fun b=>Fb' b\/O b) l:=by
    intro l
    induction l with
    |nil=>intro _ _;trivial
    |cons e l ih=>
     rintro hne ⟨⟨D',y1,y2,y3,y4⟩,y5⟩
     refine⟨⟨D',y1,y2,?_,y4⟩,ih (fun d' hd'=>hne d' (List.mem_cons_of_mem _ hd')) y5⟩
     rw[World.putObj_heap_other]
     ·exact y3
     ·intro e
      subst e
      exact hne _ List.mem_cons_self (by rw[y1])
   exact this h4 h5
  ·intro w' H' g1 g2 g3 g4 g5 g6
   refine hK w' H' (fun b off=>(g1 b off).trans (CB h3 b off)) (Nat.le_trans (by simp) g2) g3 g4 g5 ?_
   intro b hb
   rw[g6 b (fun d' hd'=>hb d' (List.mem_cons_of_mem _ hd'))]
   exact World.putObj_heap_other (fun e=>hb d List.mem_cons_self (by rw[h1,e]))
theorem O6(hm:P.follows .mixedOrders=true){pg:Pg}(hfit:PV P num aQ pg)(n:Nat)(hn:nY P num pg.gl aQ (bO pg n)):hQ P num pg.gl aQ (bO pg (n+1)):=by
  intro f avs kb h r h' hcall
  simp only[bO]at hcall
  split at hcall
  ·split at hcall
   ·rename_i g hg
    exact hfit.ex f g hg f avs kb h r h' (by simp only[if_true];exact hcall)
   ·cases hcall
  rename_i cf hcf
  obtain⟨fn,hfn,hff⟩:=hfit.fs f cf hcf
  unfold fitF at hff
  split at hff
  case h_2=>cases hff
  rename_i code hbody
  simp only[Bool.and_eq_true,beq_iff_eq,bne_iff_ne,ne_eq]at hff
  obtain⟨⟨⟨f1,f2⟩,f3⟩,f4⟩:=hff
  refine⟨⟨fn,hfn,by simp[hbody],f3⟩,?_⟩
  intro Fb B0 ρ O w vs H hg hv
  refine(callsIn_wide (n:=0)).1 (callsIn_of_wp_marks hfn hbody trivial ?_)
  show code.wpIn (FW none) 0 P _ _ _
  have hG:qI num pg.gl aQ Fb B0 ρ w O ⟨enter cf avs,h⟩ {tmps:=vs.toArray++Array.replicate (fn.ntmps-vs.toArray.size) undef,defers:=[]} w:=
   ⟨ρ,O,Evo.refl _ _ _,H,hg,K9 hv f2,fun d hd=>by cases hd⟩
  have hpost:∀st,(result st cf.res).map (fun v=>(v,st.hp))=some (r,h')->∀a' w',qI num pg.gl aQ Fb B0 ρ w O st a' w' ->
    LeavesInM Fence.wide 0 P fn a'.tmps (fun e w'=>∃cv ρ' O',e = .returned cv/\Evo ρ w O ρ' w' O'/\HpR num Fb B0 ρ' w' O' h'/\Rv num ρ' w' (fun b=>Fb b\/O' b) r cv) a'.defers .returning w':=by
   intro st hst a' w' ⟨ρ',O',g1,g2,g3,g4,g5⟩
   cases hr:result st cf.res with
   |none=>simp[hr]at hst
   |some v=>
    simp[hr]at hst
    obtain⟨rfl,rfl⟩:=hst
    refine uC (Fb':=Fb) g2 g4.defers ?_
    intro w2 H2 c1 c2 c3 c4 c5 c6
    have he2:qJ num ρ' w2 (fun b=>Fb b\/O' b) st.env {tmps:=a'.tmps,defers:=[]}:=
     ⟨g4.size,fun t x y hx hy=>(g4.get t x y hx hy).world c1 c2,trivial⟩
    obtain⟨cv,q1,q2⟩:=CW H2 he2 f4 hr
    refine⟨cv,q1,cv,ρ',O',rfl,⟨c3.trans g1.os,c4.trans g1.tape,c5.trans g1.output,Nat.le_trans g1.size c2,fun b hb hO=>?_,fun b hb hO=>g1.own b hb hO,g1.rho⟩,H2,q2⟩
    rw[c6 b (fun d hd e=>by have:=g5 d hd b e;omega)]
    exact g1.keep b hb hO
  split at hcall
  ·cases hcall
  ·rename_i x st hne hex
   refine tF hm hn (fun ps ca cb r h1 h2 h3 h4 h5=>(hfit.lk ps ca cb r).2 ⟨h1,h2,h3,h4,h5⟩) hex f1 (.inl rfl) hG ?_
   intro a' w' hG'
   cases x with
   |nor=>exact hpost st hcall a' w' hG'
   |ext id=>exact(hne id rfl).elim
   |ret=>exact hpost st hcall a' w' hG'
  ·cases hcall
end
end Go.Tev
end
section
namespace Go.Tev
open Go.RowKit
section
variable{P:Program}{num:Nm}{aQ:Nat->Nat}
theorem xS{w:World}{l:Nat}{r r':Loop}(h:w.heap[l]?=some (.loop r)):jC w (w.putObj l (.loop r')) l (.loop r'):=
 have hlt:l<w.heap.size:=(Array.getElem?_eq_some_iff.1 h).1
 ⟨rfl,rfl,rfl,by simp,by simp[World.putObj,hlt],fun k hk=>World.putObj_heap_other hk⟩
theorem O5(hm:P.follows .mixedOrders=true){pg:Pg}(hfit:PV P num aQ pg)(n:Nat)(hn:nY P num pg.gl aQ (bO pg n)):JV P num pg.gl aQ (bO pg (n+1)):=by
 intro k e avs h r h' hy Fb B0 ρ O w vs L H hg hv hL
 have hlk:=fun ps ca cb r (h1:r.params.toList=ps) h2 h3 h4 h5=>(hfit.lk ps ca cb r).2 ⟨h1,h2,h3,h4,h5⟩
 have lkT:∀{ps:List Nat}{ca cb:C}{r r':Loop},r'.params=r.params->r'.assign=r.assign->r'.body=r.body->num.lk ps ca cb r->num.lk ps ca cb r':=fun e1 e2 e3 q=>by
  obtain⟨a1,a2,a3,a4⟩:=(hfit.lk _ _ _ _).1 q
  exact(hfit.lk _ _ _ _).2 ⟨by rw[e1];exact a1,by rw[e2];exact a2,by rw[e3];exact a3,a4⟩
 simp only[bO]at hy
 unfold vB at hy
 split at hy
 case h_2=>cases hy
 rename_i e0 b env ps ca cb hget
 split at hy
 case isFalse=>cases hy
 rename_i hcond
 obtain⟨rfl,hps⟩:=hcond
 split at hy
 case h_2=>cases hy
 rename_i st1 hex1
 split at hy
 case h_2=>cases hy
 rename_i e1 b1 env1 ps1 ca1 cb1 hget1
 split at hy
 case isFalse=>cases hy
 rename_i he1
 subst he1
 split at hy
 case h_2=>cases hy
 rename_i x st2 hex2
 split at hy
 case h_2=>cases hy
 rename_i e2 b2 env2 ps2 ca2 cb2 hget2
 split at hy
 case isFalse=>cases hy
 rename_i he2
 subst he2
 cases hy
 obtain⟨L0,r0,q1,q2,q3,q4,q5,q6,q7,q8⟩:=H.lpo _ _ _ _ _ _ _ _ hget
 rw[q1]at hL;cases hL
 obtain⟨k1,k2,k3,k4,k5⟩:=(hfit.lk _ _ _ _).1 q3
 have hsz:vs.toArray.size=r0.params.size:=by
  have h1:=hv.length
  have h2:r0.params.size=ps.length:=by rw[<-k1];simp
  simp;omega
 refine⟨r0.fn,_,r0.assign,r0.body,run_yield q2 hsz,?_⟩
 obtain⟨s1,s2⟩:=A6 (ps:=ps) (env:=env) (tmps:=r0.tmps) hv q5 q6 hps
 have hz:(r0.params.zip vs.toArray).foldl (fun tmps (t,a)=>tmps.setIfInBounds t a) r0.tmps=(ps.zip vs).foldl (fun t (p:Nat×Value)=>t.setIfInBounds p.1 p.2) r0.tmps:=by
  rw[<-k1,<-Array.foldl_toList,Array.toList_zip]
 refine roundIn_of_wpIn (F:=Fence.wide) trivial ?_
 rw[hz]
 show r0.assign.wpIn (FW (some L.b)) 0 P _ _ w
 refine tF (ρ0 := ρ) (w0:=w) (O0:=O) (Fb:=Fb) (B0:=B0) hm hn hlk hex1 k2 (.inr k4) ⟨ρ,O,Evo.refl _ _ _,H,hg,⟨s1,s2,trivial⟩,fun d hd=>by cases hd⟩ ?_
 intro a1 w1 ⟨ρ1,O1,ev1,H1,hg1,he1,_⟩
 obtain⟨L1,r1,p1,p2,p3,p4,_⟩:=H1.lpo _ _ _ _ _ _ _ _ hget1
 obtain rfl:L1=L:=by
  have:=ev1.rho _ _ _ q1
  rw[p1]at this
  exact Option.some.inj this
 have hready:r1.state = .ready/\r1.pending=none:=by
  rcases p4 with ⟨_,y⟩|⟨y,_⟩|⟨y,_⟩|⟨i,y,_⟩
  ·exact y
  ·cases y
  ·cases y
  ·omega
 obtain⟨ev2,H2⟩:=H1.turnLp (st':=1) (bb':=b1) (r':={r1 with state:=.busy}) hget1 p1 p2 (xS p2) rfl (lkT rfl rfl rfl) (.inr (.inl ⟨rfl,rfl,hready.2⟩))
 refine⟨_,run_beginRound p2 hready.1,?_⟩
 show r0.body.wpIn (FW (some L1.b)) 0 P _ _ _
 refine tF (ρ0 := ρ) (w0:=w) (O0:=O) (Fb:=Fb) (B0:=B0) hm hn hlk hex2 k3 (.inr k5) ⟨ρ1,O1,ev1.trans ev2,H2,hg1.evo ev2,he1.evo ev2,fun d hd D hD=>by
  have hmk:=(‹∀d∈a1.defers,_› : ∀d∈a1.defers,∀D,d.target = .collected D->w.heap.size<=D)
  exact hmk d hd D hD⟩ ?_
 intro a2 w2 ⟨ρ2,O2,ev3,H3,hg3,he3,_⟩
 obtain⟨L2,r2,z1,z2,z3,z4,_⟩:=H3.lpo _ _ _ _ _ _ _ _ hget2
 obtain rfl:L2=L1:=by
  have:=ev3.rho _ _ _ q1
  rw[z1]at this
  exact Option.some.inj this
 have hturn:∀(jump:Option Code)(st':Nat),NF st' {r2 with state:=if jump.isNone then .ready else .done,pending:=jump} ->
   Evo ρ2 w2 O2 ρ2 (w2.putObj L2.b (.loop {r2 with state:=if jump.isNone then .ready else .done,pending:=jump})) O2 /\
   HpR num Fb B0 ρ2 (w2.putObj L2.b (.loop {r2 with state:=if jump.isNone then .ready else .done,pending:=jump})) O2 (st2.hp.put k e2 (.lp st' b2 env2 ps2 ca2 cb2)):=
  fun jump st' hst=>H3.turnLp hget2 z1 z2 (xS z2) rfl (lkT rfl rfl rfl) hst
 cases x with
 |nor=>
  obtain⟨ev4,H4⟩:=hturn none 0 (.inl ⟨rfl,rfl,rfl⟩)
  exact⟨_,_,run_endRound none z2,_,ρ2,O2,rfl,ev3.trans ev4,H4,.bool _⟩
 |ret=>
  obtain⟨ev4,H4⟩:=hturn (some .ret) 3 (.inr (.inr (.inl ⟨rfl,rfl,rfl⟩)))
  exact⟨_,_,run_endRound (some .ret) z2,_,ρ2,O2,rfl,ev3.trans ev4,H4,.bool _⟩
 |ext i=>
  obtain⟨ev4,H4⟩:=hturn (some (.exit i)) (i+4) (.inr (.inr (.inr ⟨i,by omega,rfl,rfl⟩)))
  exact⟨_,_,run_endRound (some (.exit i)) z2,_,ρ2,O2,rfl,ev3.trans ev4,H4,.bool _⟩
theorem rK(hm:P.follows .mixedOrders=true){pg:Pg}(hfit:PV P num aQ pg):∀n,nY P num pg.gl aQ (bO pg n)
 |0=>⟨by intro f avs kb h r h' hcall;simp[bO]at hcall,by intro k e avs h r h' hy;simp[bO]at hy⟩
 |n+1=>⟨O6 hm hfit n (rK hm hfit n),O5 hm hfit n (rK hm hfit n)⟩
end
end Go.Tev
end
section
namespace Go.Tev
inductive BT(α : Type) where
 |e
 |n (k:Nat) (v : α) (l r:BT α)
def BT.find{α : Type}(x:Nat):BT α -> Option α
 |.e=>none
 |.n k v l r=>bif x.blt k then l.find x else bif k.blt x then r.find x else some v
def BT.All{α : Type}(p:Nat -> α -> Prop):BT α -> Prop
 |.e=>True
 |.n k v l r=>p k v/\l.All p/\r.All p
theorem BT.All.find{α : Type}{p:Nat -> α -> Prop}{x:Nat}{v : α}:∀{t:BT α},t.All p->t.find x=some v->p x v
 |.e,_,h=>by simp[BT.find]at h
 |.n k u l r,ha,h=>by
  obtain⟨h1,h2,h3⟩:=ha
  simp only[BT.find,cond_eq_ite]at h
  split at h
  ·exact BT.All.find h2 h
  ·rename_i q1
   split at h
   ·exact BT.All.find h3 h
   ·rename_i q2
    cases h
    have:k=x:=by
     simp only[Nat.blt_eq]at q1 q2
     omega
    subst this
    exact h1
def VG(P:Program)(num aQ:Nat->Nat)(f:Nat)(cf:CF):Prop:=∃fn,P.funcs[num f]?=some fn/\fitF P num aQ cf fn=true
theorem fitP_of{P:Program}{num:Nm}{aQ:Nat->Nat}{t:BT CF}{gl:Nat->Option AV}{ex:Nat->Option (List AV->Nat->Hp->Option (AV×Hp))}(h:t.All (VG P num aQ))
  (hx:∀f g,ex f=some g->hQ P num gl aQ ⟨fun f' avs kb h=>if f'=f then g avs kb h else none,fun _ _ _ _=>none⟩) (hl:∀ps ca cb r,num.lk ps ca cb r↔VF P num aQ ps ca cb r):PV P num aQ ⟨fun f=>t.find f,gl,ex⟩:=
 ⟨fun _ _ hq=>BT.All.find h hq,hx,hl⟩
def aBC(P:Program)(num aQ:Nat->Nat):Nm:=⟨num,VF P num aQ⟩
def VU(t:BT Nat)(f:Nat):Nat:=(t.find f).getD 1000000
abbrev Z:AV:=.top
abbrev Y:Bool:=true
abbrev N:Bool:=false
abbrev i0:AV:=.int .i64 0
abbrev i1:AV:=.int .i64 1
abbrev bN:AV:=.bool false
abbrev bY:AV:=.bool true
abbrev sN:AV:=.sl true [] true
end Go.Tev
end
