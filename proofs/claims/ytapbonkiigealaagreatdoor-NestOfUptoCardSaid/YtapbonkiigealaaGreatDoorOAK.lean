import Derived.Test.YtapbonkiigealaaGreatDoorOAG
import Derived.KernelRfl
set_option linter.all false
section
namespace Go.Tev
structure EF where
 nt:Nat
 dt:Bool
 l:List (Nat × AV)
def getL (nt:Nat) (dt:Bool) (t:Nat):List (Nat × AV)→AV
 | []=>bif dt then (bif t.blt nt then .tup [] else .top) else .top
 | p :: r=>bif p.1.beq t then p.2 else getL nt dt t r
def EF.get (e:EF) (t:Nat):AV:=getL e.nt e.dt t e.l
def EF.set (e:EF):Option Nat→AV→EF
 | none,_=>e
 | some d,v=>bif d.blt e.nt then ⟨e.nt,e.dt,(d,v) :: e.l⟩ else e
def keepE (e:EF):Nat→List Bool→Option (List (Nat × AV))
 | i,[]=>bif e.nt.ble i then some [] else none
 | i,true :: m=>(keepE e (i+1) m).map ((i,e.get i) :: ·)
 | i,false :: m=>keepE e (i+1) m
def EF.clear (e:EF) (m:List Bool):Option EF:=(keepE e 0 m).map fun l=>⟨e.nt,false,l⟩
def argsE:Nat→List AV→List (Nat × AV)
 | _,[]=>[]
 | i,v :: r=>(i,v) :: argsE (i+1) r
def enterE (cf:CF) (args:List AV):EF:=⟨args.length+(cf.nt - args.length),true,argsE 0 args⟩
def EnvE (e:EF) (env:List AV):Prop:=env.length=e.nt∧∀ t,getT env t=e.get t
theorem EnvE.set {e:EF} {env:List AV} (h:EnvE e env) (d:Option Nat) (v:AV):EnvE (e.set d v) (setD env d v):=by
 cases d with
 | none=>exact h
 | some d=>
  refine ⟨?_,?_⟩
  ·rw [length_setD,h.1]
   simp only [EF.set,cond_eq_ite]
   split<;>rfl
  ·intro t
   rw [getT_setD]
   simp only [EF.set,cond_eq_ite,Nat.blt_eq]
   by_cases hd:d < e.nt
   ·rw [if_pos hd]
    simp only [EF.get,getL,cond_eq_ite,Nat.beq_eq]
    by_cases ht:d=t
    ·subst ht
     rw [if_pos ⟨rfl,by rw [h.1];exact hd⟩,if_pos rfl]
    ·rw [if_neg (by rintro ⟨q,_⟩;exact ht (by simpa using q)),if_neg ht]
     exact h.2 t
   ·rw [if_neg hd,if_neg (by rintro ⟨q,q2⟩;simp at q;subst q;rw [h.1] at q2;exact hd q2)]
    exact h.2 t
theorem keepE_get {e:EF} {nt:Nat}:∀ {m:List Bool} {i:Nat} {l:List (Nat × AV)},keepE e i m=some l →
  e.nt≤i+m.length∧∀ t,getL nt false t l=if i≤t∧m[t - i]?=some true then e.get t else .top
 | [],i,l,h=>by
  simp only [keepE,cond_eq_ite] at h
  split at h
  ·rename_i q
   cases h
   refine ⟨by simpa using q,fun t=>?_⟩
   simp [getL]
  ·cases h
 | true :: m,i,l,h=>by
  simp only [keepE] at h
  cases hk:keepE e (i+1) m with
  | none=>simp [hk] at h
  | some l'=>
   simp [hk] at h
   subst h
   obtain ⟨h1,h2⟩:=keepE_get (nt:=nt) hk
   refine ⟨by simp;omega,fun t=>?_⟩
   simp only [getL,cond_eq_ite,Nat.beq_eq]
   by_cases ht:i=t
   ·subst ht;simp
   ·rw [if_neg ht,h2]
    by_cases hle:i+1≤t
    ·have:t - i=(t - (i+1))+1:=by omega
     simp [hle,this,show i≤t by omega]
    ·rw [if_neg (by omega),if_neg (by omega)]
 | false :: m,i,l,h=>by
  simp only [keepE] at h
  obtain ⟨h1,h2⟩:=keepE_get (nt:=nt) h
  refine ⟨by simp;omega,fun t=>?_⟩
  rw [h2]
  by_cases hle:i+1≤t
  ·have:t - i=(t - (i+1))+1:=by omega
   simp [hle,this,show i≤t by omega]
  ·by_cases ht:i=t
   ·subst ht
    simp
    intro q
    omega
   ·rw [if_neg (by omega),if_neg (by omega)]
theorem getT_clear:∀ (m:List Bool) (env:List AV) (t:Nat),env.length≤m.length→getT (clear m env) t=if m[t]?=some true then getT env t else .top
 | [],env,t,h=>by
  have:env=[]:=List.eq_nil_of_length_eq_zero (by simpa using h)
  subst this
  simp [clear,getT]
 | b :: m,[],t,h=>by
  cases b<;>simp [clear,getT]
 | true :: m,v :: r,0,h=>by simp [clear,getT]
 | false :: m,v :: r,0,h=>by simp [clear,getT]
 | true :: m,v :: r,t+1,h=>by
  have:=getT_clear m r t (by simpa using h)
  simpa [clear,getT] using this
 | false :: m,v :: r,t+1,h=>by
  have:=getT_clear m r t (by simpa using h)
  simpa [clear,getT] using this
theorem EnvE.clear {e e':EF} {env:List AV} (h:EnvE e env) {m:List Bool} (hc:e.clear m=some e'):EnvE e' (Tev.clear m env):=by
 unfold EF.clear at hc
 cases hk:keepE e 0 m with
 | none=>simp [hk] at hc
 | some l=>
  simp [hk] at hc
  subst hc
  obtain ⟨h1,h2⟩:=keepE_get (nt:=e.nt) hk
  refine ⟨by rw [length_clear];exact h.1,fun t=>?_⟩
  rw [getT_clear m env t (by rw [h.1];omega)]
  simp only [EF.get]
  rw [h2,h.2 t]
  simp
theorem argsE_get {nt:Nat} {dt:Bool}:∀ {args:List AV} {i t:Nat},getL nt dt t (argsE i args)=if h:i≤t∧t - i < args.length then args[t - i]'h.2 else getL nt dt t []
 | [],i,t=>by simp [argsE]
 | v :: r,i,t=>by
  simp only [argsE,getL,cond_eq_ite,Nat.beq_eq]
  by_cases ht:i=t
  ·subst ht;simp
  ·rw [if_neg ht,argsE_get]
   by_cases hle:i+1≤t
   ·have e1:t - i=(t - (i+1))+1:=by omega
    by_cases hl:t - (i+1) < r.length
    ·rw [dif_pos ⟨hle,hl⟩,dif_pos ⟨by omega,by simp;omega⟩]
     simp [e1]
    ·rw [dif_neg (by omega),dif_neg (by simp;omega)]
     simp [getL,cond_eq_ite]
   ·rw [dif_neg (by omega),dif_neg (by omega)]
    simp [getL,cond_eq_ite]
theorem EnvE.enter (cf:CF) (args:List AV):EnvE (enterE cf args) (Tev.enter cf args):=by
 refine ⟨by simp [Tev.enter,enterE],fun t=>?_⟩
 simp only [EF.get,enterE,argsE_get,Tev.enter,getT]
 by_cases h:t < args.length
 ·rw [dif_pos ⟨Nat.zero_le _,by simpa using h⟩]
  simp [List.getElem?_append_left h,h]
 ·rw [dif_neg (by simpa using h),List.getElem?_append_right (by omega)]
  simp only [getL,cond_true,cond_eq_ite,Nat.blt_eq,List.getElem?_replicate]
  by_cases h2:t < args.length+(cf.nt - args.length)
  ·rw [if_pos (by omega),if_pos h2];rfl
  ·rw [if_neg (by omega),if_neg h2];rfl
def X.evE (gl:Nat→Option AV) (e:EF):X→AV
 | .t n=>e.get n
 | .c v=>v
 | .g n=>match gl n with | some v => .fp v | none => .top
 | .f n => .fn n []
structure StE where
 env:EF
 hp:Hp
def wantedE (e:EF):Option (Nat × Bool)→Option Bool
 | none=>some true
 | some (t,b)=>
  match e.get t with
  | .bool c=>some (c == b)
  | .tup []=>some false
  | _=>none
def stepE (gl:Nat→Option AV) (call:Caller) (kb:Nat) (r:R) (st:StE):Option (StE × Eff):=
 match wantedE st.env r.gd with
 | none=>none
 | some false=>some (⟨st.env.set r.d (.tup []),st.hp⟩,.pat [] [])
 | some true=>
  match opR call kb r st.hp (r.xs.map (X.evE gl st.env)) with
  | some (v,eff)=>some (⟨st.env.set r.d v,eff.app st.hp⟩,eff)
  | none=>none
def regsE (gl:Nat→Option AV) (call:Caller) (kb:Nat):List R→StE→Option StE
 | [],st=>some st
 | r :: rs,st=>
  match stepE gl call kb r st with
  | some (st',_)=>regsE gl call kb rs st'
  | none=>none
def regsTE (gl:Nat→Option AV) (call:Caller) (kb:Nat):List R→StE→Option (StE × List Eff)
 | [],st=>some (st,[])
 | r :: rs,st=>
  match stepE gl call kb r st with
  | some (st',e)=>(regsTE gl call kb rs st').map fun (s,l)=>(s,e :: l)
  | none=>none
def loopE (f:StE→Option (Ex × StE)) (clr:List Bool):Nat→StE→Option (Ex × StE)
 | 0,_=>none
 | n+1,st=>
  match st.env.clear clr with
  | none=>none
  | some e=>
   match f ⟨e,st.hp⟩ with
   | some (.nor,st')=>loopE f clr n st'
   | r=>r
def EF.list (e:EF):List AV:=(List.range e.nt).map e.get
def EF.of (env:List AV):EF:=⟨env.length,false,argsE 0 env⟩
theorem EnvE.list {e:EF} {env:List AV} (h:EnvE e env):e.list=env:=by
 apply List.ext_getElem
 ·simp [EF.list,h.1]
 ·intro i h1 h2
  have:=h.2 i
  simp only [getT,List.getElem?_eq_getElem h2,Option.getD_some] at this
  simp [EF.list,this]
theorem EnvE.of (env:List AV):EnvE (EF.of env) env:=by
 refine ⟨rfl,fun t=>?_⟩
 simp only [EF.get,EF.of,argsE_get,getT]
 by_cases h:t < env.length
 ·rw [dif_pos ⟨Nat.zero_le _,by simpa using h⟩]
  simp [h]
 ·rw [dif_neg (by simpa using h),List.getElem?_eq_none (by omega)]
  rfl
def endLpE (env:EF) (k e:Nat) (h:Hp):Option (Ex × StE):=
 match endLp [] k e h with
 | some (x,st)=>some (x,⟨env,st.hp⟩)
 | none=>none
def execE (gl:Nat→Option AV) (call:Caller) (kb n:Nat):C→StE→Option (Ex × StE)
 | .skip,st=>some (.nor,st)
 | .reg rs false,st=>(regsE gl call kb rs st).map fun s=>(.nor,s)
 | .reg rs true,st=>
  match regsTE gl call kb rs st with
  | some (s,es)=>if apartAll 0 rs es then some (.nor,s) else none
  | none=>none
 | .seq a b,st=>
  match execE gl call kb n a st with
  | some (.nor,st')=>execE gl call kb n b st'
  | r=>r
 | .cond c a b,st=>
  match c.evE gl st.env with
  | .bool true=>execE gl call kb n a st
  | .bool false=>execE gl call kb n b st
  | _=>none
 | .block id b,st=>
  match execE gl call kb n b st with
  | some (.ext i,st')=>bif i.beq id then some (.nor,st') else some (.ext i,st')
  | r=>r
 | .loop b clr,st=>loopE (execE gl call kb n b) clr n st
 | .exit id,st=>some (.ext id,st)
 | .ret,st=>some (.ret,st)
 | .rf x s ps a b,st=>
  match x.evE gl st.env with
  | .fn f cs=>
   match call f (.yl (kb+s) (st.hp.next (kb+s)) :: cs) ((kb+s+1)*65536) (st.hp.put (kb+s) (st.hp.next (kb+s)) (.lp 0 kb st.env.list ps a b)) with
   | some (_,h')=>endLpE st.env (kb+s) (st.hp.next (kb+s)) h'
   | none=>none
  | _=>none
 | .bad,_=>none
def resOfE (st:StE):Sum Nat (Nat × Nat × Bool)→Option AV
 | .inl t=>some (st.env.get t)
 | .inr (t,sz,ag)=>
  match st.env.get t with
  | .pt k e off=>match st.hp.get k with
   | some (e',.blk cs _ _ _ _)=>if e'=e then partA cs off sz ag else none
   | _=>none
  | _=>none
def resAllE (st:StE):List (Sum Nat (Nat × Nat × Bool))→Option (List AV)
 | []=>some []
 | x :: r=>
  match resOfE st x,resAllE st r with
  | some v,some l=>some (v :: l)
  | _,_=>none
def resultE (st:StE) (rs:List (Sum Nat (Nat × Nat × Bool))):Option AV:=
 match resAllE st rs with
 | some [v]=>some v
 | some l=>some (.tup l)
 | none=>none
def memoAt (memo:Nat→List AV→Option AV) (f:Nat) (args:List AV):Nat→Hp→Option AV
 | 0,[]=>memo f args
 | _,_=>none
def roundE (ex:C→Nat→StE→Option (Ex × StE)) (c:C) (b:Nat) (st:St):Option (Ex × St):=
 match ex c b ⟨EF.of st.env,st.hp⟩ with
 | some (x,s)=>some (x,⟨s.env.list,s.hp⟩)
 | none=>none
def callE (pg:Pg) (memo:Nat→List AV→Option AV):Nat→Caller
 | 0=>⟨fun _ _ _ _=>none,fun _ _ _ _=>none⟩
 | n+1=>⟨fun f args kb h=>
  match memoAt memo f args kb h with
  | some r=>some (r,[])
  | none=>
   match pg.fs f with
   | none=>
    match pg.ex f with
    | some g=>g args kb h
    | none=>none
   | some cf=>
    match execE pg.gl (callE pg memo n) kb n cf.body ⟨enterE cf args,h⟩ with
    | some (.ext _,_)=>none
    | some (_,st)=>(resultE st cf.res).map fun v=>(v,st.hp)
    | none=>none,
  roundN (roundE fun c b st=>execE pg.gl (callE pg memo n) b n c st)⟩
structure StR (s:StE) (t:St):Prop where
 env:EnvE s.env t.env
 hp:s.hp=t.hp
end Go.Tev
end
section
namespace Go.Tev
structure CalSub (c c':Caller):Prop where
 fn:∀ f a kb h r,c f a kb h=some r→c' f a kb h=some r
 yl:∀ k e a h r,c.yl k e a h=some r→c'.yl k e a h=some r
theorem CalSub.refl (c:Caller):CalSub c c:=⟨fun _ _ _ _ _ h=>h,fun _ _ _ _ _ h=>h⟩
theorem roundN_mono {ex ex':C→Nat→St→Option (Ex × St)} (hx:∀ c b st r,ex c b st=some r→ex' c b st=some r) {k e:Nat} {a:List AV} {h:Hp} {r:AV × Hp} (h1:roundN ex k e a h=some r):roundN ex' k e a h=some r:=by
 unfold roundN at h1 ⊢
 split at h1
 case h_2=>cases h1
 split at h1
 case isFalse=>cases h1
 rename_i hc
 rw [if_pos hc]
 split at h1
 case h_2=>cases h1
 rename_i he1
 rw [hx _ _ _ _ he1]
 simp only
 split at h1
 case h_2=>cases h1
 split at h1
 case isFalse=>cases h1
 rename_i hc2
 rw [if_pos hc2]
 split at h1
 case h_2=>cases h1
 rename_i he2
 rw [hx _ _ _ _ he2]
 exact h1
theorem callP_mono {c c':Caller} (hc:CalSub c c') {f:Nat} {ts:List AV} {r:AV} (h:callP c f ts=some r):callP c' f ts=some r:=by
 unfold callP at h ⊢
 cases hq:c f ts 0 [] with
 | none=>simp [hq] at h
 | some p=>rw [hq] at h;rw [hc.fn _ _ _ _ _ hq];exact h
theorem callA_mono {c c':Caller} (hc:CalSub c c') {kb s:Nat} {h:Hp} {f:Nat} {th im:Bool} {vs:List AV} {r:AV × Eff} (h1:callA c kb s h f th im vs=some r):callA c' kb s h f th im vs=some r:=by
 unfold callA at h1 ⊢
 cases hm:(if im then none else mapS (snap depth h) vs) with
 | some p=>
  rw [hm] at h1
  simp only at h1 ⊢
  cases hp:callP c f p.1 with
  | none=>simp [hp] at h1
  | some q=>
   rw [hp] at h1
   rw [callP_mono hc hp]
   exact h1
 | none=>
  rw [hm] at h1
  simp only at h1 ⊢
  cases hp:c f vs (baseOf kb s vs) h with
  | none=>simp [hp] at h1
  | some q=>
   rw [hp] at h1
   rw [hc.fn _ _ _ _ _ hp]
   exact h1
theorem tryE_mono {c c':Caller} (hc:CalSub c c') {h:Hp} {f:Nat} {vs:List AV}:∀ {n b:Nat} {x:AV × List Nat × List Ent},tryE c h f vs n b=some x→tryE c' h f vs n b=some x
 | 0,_,_,h1=>by simp [tryE] at h1
 | n+1,b,x,h1=>by
  unfold tryE at h1 ⊢
  cases hp:c f vs b [] with
  | none=>simp [hp] at h1
  | some q=>
   rw [hp] at h1
   rw [hc.fn _ _ _ _ _ hp]
   simp only at h1 ⊢
   split
   ·rename_i hh
    rw [if_pos hh] at h1
    exact h1
   ·rename_i hh
    rw [if_neg hh] at h1
    cases ht:tryE c h f vs n (b+4096) with
    | none=>simp [ht] at h1
    | some y=>rw [ht] at h1;rw [tryE_mono hc ht];exact h1
theorem callE0_mono {c c':Caller} (hc:CalSub c c') {kb s:Nat} {h:Hp} {f:Nat} {vs:List AV} {r:AV × Eff} (h1:callE0 c kb s h f vs=some r):callE0 c' kb s h f vs=some r:=by
 unfold callE0 at h1 ⊢
 split
 ·rename_i ht
  rw [if_pos ht] at h1
  cases hq:tryE c h f vs 7 ((kb+s+1)*65536) with
  | none=>simp [hq] at h1
  | some y=>rw [hq] at h1;rw [tryE_mono hc hq];exact h1
 ·rename_i ht
  rw [if_neg ht] at h1
  cases h1
theorem callR0_mono {c c':Caller} (hc:CalSub c c') {kb s:Nat} {h:Hp} {f:Nat} {vs:List AV} {r:AV × Eff} (h1:callR0 c kb s h f vs=some r):callR0 c' kb s h f vs=some r:=by
 unfold callR0 at h1 ⊢
 cases hq:c f vs (baseOf kb s vs) h with
 | none=>simp [hq] at h1
 | some y=>rw [hq] at h1;rw [hc.fn _ _ _ _ _ hq];exact h1
theorem opR_mono {c c':Caller} (hc:CalSub c c') {kb:Nat} {r:R} {h:Hp} {vs:List AV} {x:AV × Eff} (h1:opR c kb r h vs=some x):opR c' kb r h vs=some x:=by
 unfold opR at h1 ⊢
 split at h1
 ·exact callA_mono hc h1
 ·exact callE0_mono hc h1
 ·exact callR0_mono hc h1
 ·split at h1
  ·exact callA_mono hc h1
  ·split at h1
   ·rename_i hy
    rw [hc.yl _ _ _ _ _ hy]
    exact h1
   ·cases h1
  ·cases h1
 ·exact h1
structure CalP (c c':Caller):Prop where
 off:∀ f a kb h r,kb ≠ 0→c f a kb h=some r→c' f a kb h=some r
 at0:∀ f a r,callP c f a=some r→callP c' f a=some r
 yl:∀ k e a h r,c.yl k e a h=some r→c'.yl k e a h=some r
theorem baseOf_ne (kb s:Nat) (vs:List AV):baseOf kb s vs ≠ 0:=by
 unfold baseOf
 split<;>omega
theorem callA_monoP {c c':Caller} (hc:CalP c c') {kb s:Nat} {h:Hp} {f:Nat} {th im:Bool} {vs:List AV} {r:AV × Eff} (h1:callA c kb s h f th im vs=some r):callA c' kb s h f th im vs=some r:=by
 unfold callA at h1 ⊢
 cases hm:(if im then none else mapS (snap depth h) vs) with
 | some p=>
  rw [hm] at h1
  simp only at h1 ⊢
  cases hp:callP c f p.1 with
  | none=>simp [hp] at h1
  | some q=>
   rw [hp] at h1
   rw [hc.at0 _ _ _ hp]
   exact h1
 | none=>
  rw [hm] at h1
  simp only at h1 ⊢
  cases hp:c f vs (baseOf kb s vs) h with
  | none=>simp [hp] at h1
  | some q=>
   rw [hp] at h1
   rw [hc.off _ _ _ _ _ (baseOf_ne kb s vs) hp]
   exact h1
theorem tryE_monoP {c c':Caller} (hc:CalP c c') {h:Hp} {f:Nat} {vs:List AV}:∀ {n b:Nat} {x:AV × List Nat × List Ent},b ≠ 0→tryE c h f vs n b=some x→tryE c' h f vs n b=some x
 | 0,_,_,_,h1=>by simp [tryE] at h1
 | n+1,b,x,hb,h1=>by
  unfold tryE at h1 ⊢
  cases hp:c f vs b [] with
  | none=>simp [hp] at h1
  | some q=>
   rw [hp] at h1
   rw [hc.off _ _ _ _ _ hb hp]
   simp only at h1 ⊢
   split
   ·rename_i hh
    rw [if_pos hh] at h1
    exact h1
   ·rename_i hh
    rw [if_neg hh] at h1
    cases ht:tryE c h f vs n (b+4096) with
    | none=>simp [ht] at h1
    | some y=>rw [ht] at h1;rw [tryE_monoP hc (by omega) ht];exact h1
theorem callE0_monoP {c c':Caller} (hc:CalP c c') {kb s:Nat} {h:Hp} {f:Nat} {vs:List AV} {r:AV × Eff} (h1:callE0 c kb s h f vs=some r):callE0 c' kb s h f vs=some r:=by
 unfold callE0 at h1 ⊢
 split
 ·rename_i ht
  rw [if_pos ht] at h1
  cases hq:tryE c h f vs 7 ((kb+s+1)*65536) with
  | none=>simp [hq] at h1
  | some y=>rw [hq] at h1;rw [tryE_monoP hc (by omega) hq];exact h1
 ·rename_i ht
  rw [if_neg ht] at h1
  cases h1
theorem callR0_monoP {c c':Caller} (hc:CalP c c') {kb s:Nat} {h:Hp} {f:Nat} {vs:List AV} {r:AV × Eff} (h1:callR0 c kb s h f vs=some r):callR0 c' kb s h f vs=some r:=by
 unfold callR0 at h1 ⊢
 cases hq:c f vs (baseOf kb s vs) h with
 | none=>simp [hq] at h1
 | some y=>rw [hq] at h1;rw [hc.off _ _ _ _ _ (baseOf_ne kb s vs) hq];exact h1
theorem opR_monoP {c c':Caller} (hc:CalP c c') {kb:Nat} {r:R} {h:Hp} {vs:List AV} {x:AV × Eff} (h1:opR c kb r h vs=some x):opR c' kb r h vs=some x:=by
 unfold opR at h1 ⊢
 split at h1
 ·exact callA_monoP hc h1
 ·exact callE0_monoP hc h1
 ·exact callR0_monoP hc h1
 ·split at h1
  ·exact callA_monoP hc h1
  ·split at h1
   ·rename_i hy
    rw [hc.yl _ _ _ _ _ hy]
    exact h1
   ·cases h1
  ·cases h1
 ·exact h1
theorem stepR_mono {gl:Nat→Option AV} {c c':Caller} (hc:CalSub c c') {kb:Nat} {r:R} {st:St} {x:St × Eff} (h1:stepR gl c kb r st=some x):stepR gl c' kb r st=some x:=by
 unfold stepR at h1 ⊢
 generalize wanted st.env r.gd=wg at h1 ⊢
 rcases wg with _ | _ | _
 ·exact h1
 ·exact h1
 ·simp only at h1 ⊢
  cases ho:opR c kb r st.hp (r.xs.map (X.ev gl st.env)) with
  | none=>simp [ho] at h1
  | some p=>rw [ho] at h1;rw [opR_mono hc ho];exact h1
theorem regs_mono {gl:Nat→Option AV} {c c':Caller} (hc:CalSub c c') {kb:Nat}:∀ {rs:List R} {st st':St},regs gl c kb rs st=some st'→regs gl c' kb rs st=some st'
 | [],_,_,h=>h
 | r :: rs,st,st',h=>by
  unfold regs at h ⊢
  cases hs:stepR gl c kb r st with
  | none=>simp [hs] at h
  | some p=>
   rw [hs] at h
   rw [stepR_mono hc hs]
   exact regs_mono hc h
theorem regsT_mono {gl:Nat→Option AV} {c c':Caller} (hc:CalSub c c') {kb:Nat}:∀ {rs:List R} {st:St} {x:St × List Eff},regsT gl c kb rs st=some x→regsT gl c' kb rs st=some x
 | [],_,_,h=>h
 | r :: rs,st,x,h=>by
  unfold regsT at h ⊢
  cases hs:stepR gl c kb r st with
  | none=>simp [hs] at h
  | some p=>
   rw [hs] at h
   rw [stepR_mono hc hs]
   simp only at h ⊢
   cases hr:regsT gl c kb rs p.1 with
   | none=>simp [hr] at h
   | some q=>rw [hr] at h;rw [regsT_mono hc hr];exact h
theorem loopN_mono {f f':St→Option (Ex × St)} (hf:∀ st x,f st=some x→f' st=some x) {clr:List Bool}:∀ {n n':Nat} {st:St} {x:Ex × St},n≤n'→loopN f clr n st=some x→loopN f' clr n' st=some x
 | 0,_,_,_,_,h=>by simp [loopN] at h
 | n+1,0,_,_,hn,_=>by omega
 | n+1,n'+1,st,x,hn,h=>by
  simp only [loopN] at h ⊢
  cases hs:f ⟨clear clr st.env,st.hp⟩ with
  | none=>simp [hs] at h
  | some p=>
   rw [hs] at h
   rw [hf _ _ hs]
   obtain ⟨e,s⟩:=p
   cases e with
   | nor=>exact loopN_mono hf (by omega) h
   | ext id=>exact h
   | ret=>exact h
theorem exec_mono {gl:Nat→Option AV} {c c':Caller} (hc:CalSub c c') {kb n n':Nat} (hn:n≤n'):∀ {k:C} {st:St} {x:Ex × St},exec gl c kb n k st=some x→exec gl c' kb n' k st=some x:=by
 intro k
 induction k with
 | skip=>intro st x h;exact h
 | reg rs d=>
  intro st x h
  cases d with
  | false=>
   simp only [exec] at h ⊢
   cases hr:regs gl c kb rs st with
   | none=>simp [hr] at h
   | some s=>rw [hr] at h;rw [regs_mono hc hr];exact h
  | true=>
   simp only [exec] at h ⊢
   cases hr:regsT gl c kb rs st with
   | none=>simp [hr] at h
   | some s=>rw [hr] at h;rw [regsT_mono hc hr];exact h
 | seq a b iha ihb=>
  intro st x h
  simp only [exec] at h ⊢
  cases ha:exec gl c kb n a st with
  | none=>simp [ha] at h
  | some p=>
   rw [ha] at h
   rw [iha ha]
   obtain ⟨e,s⟩:=p
   cases e with
   | nor=>exact ihb h
   | ext id=>exact h
   | ret=>exact h
 | cond x a b iha ihb=>
  intro st y h
  simp only [exec] at h ⊢
  split at h
  ·exact iha h
  ·exact ihb h
  ·cases h
 | block id b ih=>
  intro st x h
  simp only [exec] at h ⊢
  cases hb:exec gl c kb n b st with
  | none=>simp [hb] at h
  | some p=>rw [hb] at h;rw [ih hb];exact h
 | loop b m ih=>
  intro st x h
  simp only [exec] at h ⊢
  exact loopN_mono (fun st x q=>ih q) hn h
 | exit id=>intro st x h;exact h
 | ret=>intro st x h;exact h
 | rf x s ps a b=>
  intro st y h
  simp only [exec] at h ⊢
  split at h
  case h_2=>cases h
  rename_i f cs hf
  split at h
  case h_2=>cases h
  rename_i rr h' hcall
  rw [hc.fn _ _ _ _ _ hcall]
  exact h
 | bad=>intro st x h;simp [exec] at h
theorem callN_mono (pg:Pg):∀ {n n':Nat},n≤n'→CalSub (callN pg n) (callN pg n')
 | 0,_,_=>⟨by intro f a kb h r hq;simp [callN] at hq,by intro k e a h r hq;simp [callN] at hq⟩
 | n+1,0,h=>by omega
 | n+1,n'+1,hn=>by
  refine ⟨?_,fun k e a h r hq=>by
   simp only [callN] at hq ⊢
   exact roundN_mono (fun c b st r hr=>exec_mono (callN_mono pg (Nat.le_of_succ_le_succ hn)) (Nat.le_of_succ_le_succ hn) hr) hq⟩
  intro f a kb h r hq
  simp only [callN] at hq ⊢
  cases hf:pg.fs f with
  | none=>rw [hf] at hq;exact hq
  | some cf=>
   rw [hf] at hq
   simp only at hq ⊢
   cases he:exec pg.gl (callN pg n) kb n cf.body ⟨enter cf a,h⟩ with
   | none=>simp [he] at hq
   | some p=>
    rw [he] at hq
    rw [exec_mono (callN_mono pg (Nat.le_of_succ_le_succ hn)) (Nat.le_of_succ_le_succ hn) he]
    exact hq
theorem evE_eq {gl:Nat→Option AV} {s:StE} {t:St} (h:StR s t) (x:X):x.evE gl s.env=x.ev gl t.env:=by
 cases x with
 | t n=>simp only [X.evE,X.ev];exact (h.env.2 n).symm
 | _=>rfl
theorem stepE_sim {gl:Nat→Option AV} {c c':Caller} (hc:CalP c c') {kb:Nat} {r:R} {s s':StE} {t:St} {e:Eff} (hst:StR s t) (h:stepE gl c kb r s=some (s',e)) :
  ∃ t',stepR gl c' kb r t=some (t',e)∧StR s' t':=by
 have hw:wantedE s.env r.gd=wanted t.env r.gd:=by
  unfold wantedE wanted
  cases r.gd with
  | none=>rfl
  | some p=>
   simp only [hst.env.2]
   rfl
 have hx:r.xs.map (X.evE gl s.env)=r.xs.map (X.ev gl t.env):=List.map_congr_left (fun x _=>evE_eq hst x)
 unfold stepE at h
 unfold stepR
 rw [hw,hx] at h
 generalize wanted t.env r.gd=wg at h ⊢
 rcases wg with _ | _ | _
 ·cases h
 ·simp only at h ⊢
  cases h
  exact ⟨_,rfl,⟨hst.env.set _ _,hst.hp⟩⟩
 ·simp only at h ⊢
  rw [hst.hp] at h
  cases ho:opR c kb r t.hp (r.xs.map (X.ev gl t.env)) with
  | none=>simp [ho] at h
  | some p=>
   rw [ho] at h
   rw [opR_monoP hc ho]
   simp only at h ⊢
   cases h
   exact ⟨_,rfl,⟨hst.env.set _ _,rfl⟩⟩
theorem regsE_sim {gl:Nat→Option AV} {c c':Caller} (hc:CalP c c') {kb:Nat}:∀ {rs:List R} {s s':StE} {t:St},StR s t→regsE gl c kb rs s=some s'→∃ t',regs gl c' kb rs t=some t'∧StR s' t'
 | [],s,s',t,hst,h=>by
  simp [regsE] at h
  subst h
  exact ⟨t,rfl,hst⟩
 | r :: rs,s,s',t,hst,h=>by
  unfold regsE at h
  unfold regs
  split at h
  case h_2=>cases h
  rename_i s1 e hs
  obtain ⟨t1,q1,q2⟩:=stepE_sim hc hst hs
  rw [q1]
  exact regsE_sim hc q2 h
theorem regsTE_sim {gl:Nat→Option AV} {c c':Caller} (hc:CalP c c') {kb:Nat}:∀ {rs:List R} {s s':StE} {t:St} {es:List Eff},StR s t→regsTE gl c kb rs s=some (s',es)→∃ t',regsT gl c' kb rs t=some (t',es)∧StR s' t'
 | [],s,s',t,es,hst,h=>by
  simp [regsTE] at h
  obtain ⟨rfl,rfl⟩:=h
  exact ⟨t,rfl,hst⟩
 | r :: rs,s,s',t,es,hst,h=>by
  unfold regsTE at h
  unfold regsT
  split at h
  case h_2=>cases h
  rename_i s1 e hs
  obtain ⟨t1,q1,q2⟩:=stepE_sim hc hst hs
  cases hr:regsTE gl c kb rs s1 with
  | none=>simp [hr] at h
  | some p=>
   obtain ⟨s2,es2⟩:=p
   simp [hr] at h
   obtain ⟨rfl,rfl⟩:=h
   obtain ⟨t2,q3,q4⟩:=regsTE_sim hc q2 hr
   exact ⟨t2,by rw [q1];simp only;rw [q3];rfl,q4⟩
theorem loopE_sim {f:StE→Option (Ex × StE)} {f':St→Option (Ex × St)} (hf:∀ s t x s',StR s t→f s=some (x,s')→∃ t',f' t=some (x,t')∧StR s' t') {clr:List Bool} :
  ∀ {n n':Nat} {s s':StE} {t:St} {x:Ex},n≤n'→StR s t→loopE f clr n s=some (x,s')→∃ t',loopN f' clr n' t=some (x,t')∧StR s' t'
 | 0,_,_,_,_,_,_,_,h=>by simp [loopE] at h
 | n+1,0,_,_,_,_,hn,_,_=>by omega
 | n+1,n'+1,s,s',t,x,hn,hst,h=>by
  simp only [loopE] at h
  simp only [loopN]
  split at h
  case h_1=>cases h
  rename_i e he
  have hst':StR ⟨e,s.hp⟩ ⟨clear clr t.env,t.hp⟩:=⟨hst.env.clear he,hst.hp⟩
  split at h
  ·rename_i s1 h1
   obtain ⟨t1,q1,q2⟩:=hf _ _ _ _ hst' h1
   rw [q1]
   exact loopE_sim hf (by omega) q2 h
  ·rename_i hne
   obtain ⟨t1,q1,q2⟩:=hf _ _ _ _ hst' h
   rw [q1]
   cases x with
   | nor=>exact absurd h (hne _)
   | ext id=>exact ⟨t1,rfl,q2⟩
   | ret=>exact ⟨t1,rfl,q2⟩
theorem execE_sim {gl:Nat→Option AV} {c c':Caller} (hc:CalP c c') {kb n n':Nat} (hn:n≤n'):∀ {k:C} {s s':StE} {t:St} {x:Ex},StR s t→execE gl c kb n k s=some (x,s') →
  ∃ t',exec gl c' kb n' k t=some (x,t')∧StR s' t':=by
 intro k
 induction k with
 | skip=>
  intro s s' t x hst h
  simp [execE] at h
  obtain ⟨rfl,rfl⟩:=h
  exact ⟨t,rfl,hst⟩
 | reg rs d=>
  intro s s' t x hst h
  cases d with
  | false=>
   simp only [execE] at h
   simp only [exec]
   cases hr:regsE gl c kb rs s with
   | none=>simp [hr] at h
   | some s1=>
    simp [hr] at h
    obtain ⟨rfl,rfl⟩:=h
    obtain ⟨t1,q1,q2⟩:=regsE_sim hc hst hr
    exact ⟨t1,by rw [q1];rfl,q2⟩
  | true=>
   simp only [execE] at h
   simp only [exec]
   split at h
   case h_2=>cases h
   rename_i s1 es hr
   obtain ⟨t1,q1,q2⟩:=regsTE_sim hc hst hr
   rw [q1]
   simp only
   split at h
   case isFalse=>cases h
   rename_i ha
   rw [if_pos ha]
   cases h
   exact ⟨t1,rfl,q2⟩
 | seq a b iha ihb=>
  intro s s' t x hst h
  simp only [execE] at h
  simp only [exec]
  split at h
  ·rename_i s1 h1
   obtain ⟨t1,q1,q2⟩:=iha hst h1
   rw [q1]
   exact ihb q2 h
  ·rename_i hne
   obtain ⟨t1,q1,q2⟩:=iha hst h
   rw [q1]
   cases x with
   | nor=>exact absurd h (hne _)
   | ext id=>exact ⟨t1,rfl,q2⟩
   | ret=>exact ⟨t1,rfl,q2⟩
 | cond y a b iha ihb=>
  intro s s' t x hst h
  simp only [execE] at h
  simp only [exec]
  rw [evE_eq hst] at h
  split at h
  ·rename_i hb
   rw [hb]
   exact iha hst h
  ·rename_i hb
   rw [hb]
   exact ihb hst h
  ·cases h
 | block id b ih=>
  intro s s' t x hst h
  simp only [execE] at h
  simp only [exec]
  split at h
  ·rename_i i s1 h1
   obtain ⟨t1,q1,q2⟩:=ih hst h1
   rw [q1]
   simp only [cond_eq_ite,Nat.beq_eq] at h ⊢
   split at h
   ·rename_i hi
    rw [if_pos hi]
    cases h
    exact ⟨t1,rfl,q2⟩
   ·rename_i hi
    rw [if_neg hi]
    cases h
    exact ⟨t1,rfl,q2⟩
  ·rename_i hne
   obtain ⟨t1,q1,q2⟩:=ih hst h
   rw [q1]
   cases x with
   | nor=>exact ⟨t1,rfl,q2⟩
   | ext id=>exact absurd h (hne _ _)
   | ret=>exact ⟨t1,rfl,q2⟩
 | loop b m ih=>
  intro s s' t x hst h
  simp only [execE] at h
  simp only [exec]
  exact loopE_sim (fun s t x s' q1 q2=>ih q1 q2) hn hst h
 | exit id=>
  intro s s' t x hst h
  simp [execE] at h
  obtain ⟨rfl,rfl⟩:=h
  exact ⟨t,rfl,hst⟩
 | ret=>
  intro s s' t x hst h
  simp [execE] at h
  obtain ⟨rfl,rfl⟩:=h
  exact ⟨t,rfl,hst⟩
 | rf fx sk ps ca cb=>
  intro s s' t x hst h
  simp only [execE] at h
  simp only [exec]
  rw [evE_eq hst,hst.env.list,hst.hp] at h
  split at h
  case h_2=>cases h
  rename_i f cs hf
  rw [hf]
  simp only
  split at h
  case h_2=>cases h
  rename_i rr h' hcall
  rw [hc.off _ _ _ _ _ (by omega) hcall]
  simp only
  unfold endLpE at h
  split at h
  case h_2=>cases h
  rename_i y st1 he
  cases h
  unfold endLp at he ⊢
  split at he
  case h_2=>cases he
  split at he
  case isFalse=>cases he
  rename_i hee
  rw [if_pos hee]
  split at he
  ·cases he;exact ⟨_,rfl,⟨hst.env,rfl⟩⟩
  ·cases he;exact ⟨_,rfl,⟨hst.env,rfl⟩⟩
  ·cases he;exact ⟨_,rfl,⟨hst.env,rfl⟩⟩
  ·cases he
 | bad=>
  intro s s' t x hst h
  simp [execE] at h
theorem resultE_eq {s:StE} {t:St} (hst:StR s t) (rs:List (Sum Nat (Nat × Nat × Bool))):resultE s rs=result t rs:=by
 have h1:∀ r,resOfE s r=resOf t r:=by
  intro r
  cases r with
  | inl u=>simp only [resOfE,resOf,hst.env.2]
  | inr p=>
   simp only [resOfE,resOf,hst.env.2,hst.hp]
   rfl
 have h2:∀ rs,resAllE s rs=resAll t rs:=by
  intro rs
  induction rs with
  | nil=>rfl
  | cons r rs ih=>
   simp only [resAllE,resAll,h1,ih]
   rfl
 unfold resultE result
 rw [h2]
 rfl
theorem conv_tree0 {h:Hp} {v:AV} (hv:v.tree=true):conv h v=some v:=by
 have:snap depth h v=some (v,[]):=by unfold depth snap;rw [if_pos hv]
 cases v<;>first | (simp only [conv,this];rfl) | simp [AV.tree] at hv
theorem callE_sub (pg:Pg) {memo:Nat→List AV→Option AV} {m:Nat} (hm:∀ f a r,memo f a=some r→r.tree=true∧callP (callN pg m) f a=some r):∀ n,CalP (callE pg memo n) (callN pg (m+n))
 | 0=>⟨fun f a kb h r _ hq=>by simp [callE] at hq,fun f a r hq=>by simp [callP,callE] at hq,fun k e a h r hq=>by simp [callE] at hq⟩
 | n+1=>by
  have key:∀ f a kb h r,memoAt memo f a kb h=none→callE pg memo (n+1) f a kb h=some r→callN pg (m+(n+1)) f a kb h=some r:=by
   intro f a kb h r hn hq
   simp only [callE] at hq
   rw [hn] at hq
   simp only at hq
   rw [← Nat.add_assoc]
   simp only [callN]
   split at hq
   ·rename_i hf
    rw [hf]
    exact hq
   ·rename_i cf hf
    rw [hf]
    simp only
    split at hq
    ·cases hq
    ·rename_i x s hne he
     obtain ⟨t,q1,q2⟩:=execE_sim (t:=⟨enter cf a,h⟩) (callE_sub pg hm n) (Nat.le_add_left n m) ⟨EnvE.enter cf a,rfl⟩ he
     rw [q1]
     rw [resultE_eq q2,q2.hp] at hq
     cases x with
     | nor=>exact hq
     | ret=>exact hq
     | ext id=>exact (hne id rfl).elim
    ·cases hq
  have hyl:∀ k e a h r,(callE pg memo (n+1)).yl k e a h=some r→(callN pg (m+(n+1))).yl k e a h=some r:=by
   intro k e a h r hq
   rw [← Nat.add_assoc]
   refine roundN_mono (fun c b st r hr=>?_) hq
   unfold roundE at hr
   split at hr
   case h_2=>cases hr
   rename_i x s he
   cases hr
   obtain ⟨t,q1,q2⟩:=execE_sim (t:=⟨st.env,st.hp⟩) (callE_sub pg hm n) (Nat.le_add_left n m) ⟨EnvE.of st.env,rfl⟩ he
   have:t=⟨s.env.list,s.hp⟩:=by rw [q2.env.list,q2.hp]
   rw [q1,this]
  refine ⟨fun f a kb h r hk hq=>key f a kb h r ?_ hq,fun f a r hq=>?_,hyl⟩
  ·cases kb with
   | zero=>exact absurd rfl hk
   | succ k=>rfl
  ·unfold callP at hq
   cases hc:callE pg memo (n+1) f a 0 [] with
   | none=>simp [hc] at hq
   | some p=>
    rw [hc] at hq
    cases hme:memo f a with
    | some r'=>
     have:callE pg memo (n+1) f a 0 []=some (r',[]):=by simp only [callE,memoAt,hme]
     rw [this] at hc
     cases hc
     obtain ⟨h1,h2⟩:=hm f a r' hme
     simp only [conv_tree0 h1,Option.some.injEq] at hq
     subst hq
     exact callP_mono (callN_mono pg (by omega)) h2
    | none=>
     have:=key f a 0 [] p (by simp [memoAt,hme]) hc
     unfold callP
     rw [this]
     exact hq
end Go.Tev
end
section
namespace Go.Tev
variable {pg:Pg} {kb:Nat}
def Ret (pg:Pg) (f:Nat) (ts:List AV) (r:AV):Prop:=∃ n,callP (callN pg n) f ts=some r
def RetH (pg:Pg) (f:Nat) (vs:List AV) (kb:Nat) (h:Hp) (r:AV) (h':Hp):Prop:=∃ n,callN pg n f vs kb h=some (r,h')
def WX (pg:Pg) (kb:Nat) (c:C) (st:St) (Q:Ex→St→Prop):Prop:=∃ n ex st',exec pg.gl (callN pg n) kb n c st=some (ex,st')∧Q ex st'
def WR (pg:Pg) (kb:Nat) (rs:List R) (st:St) (K:St→Prop):Prop:=∃ n st',regs pg.gl (callN pg n) kb rs st=some st'∧K st'
def WT (pg:Pg) (kb:Nat) (rs:List R) (st:St) (K:St→List Eff→Prop):Prop:=∃ n st' es,regsT pg.gl (callN pg n) kb rs st=some (st',es)∧K st' es
def WO (pg:Pg) (kb:Nat) (k:K) (s:Nat) (h:Hp) (vs:List AV) (Q:AV→Eff→Prop):Prop:=
 ∃ n v eff,opR (callN pg n) kb ⟨none,k,[],none,0,s⟩ h vs=some (v,eff)∧Q v eff
def thenQ (A:St→Prop) (Q:Ex→St→Prop) (ex:Ex) (st:St):Prop:=
 match ex with
 | .nor=>A st
 | .ext i=>Q (.ext i) st
 | .ret=>Q .ret st
theorem thenQ_nor (A:St→Prop) (Q:Ex→St→Prop) (st:St):thenQ A Q .nor st=A st:=rfl
theorem thenQ_ext (A:St→Prop) (Q:Ex→St→Prop) (i:Nat) (st:St):thenQ A Q (.ext i) st=Q (.ext i) st:=rfl
theorem thenQ_ret (A:St→Prop) (Q:Ex→St→Prop) (st:St):thenQ A Q .ret st=Q .ret st:=rfl
def blockQ (id:Nat) (Q:Ex→St→Prop) (ex:Ex) (st:St):Prop:=
 match ex with
 | .nor=>Q .nor st
 | .ext i=>if i=id then Q .nor st else Q (.ext i) st
 | .ret=>Q .ret st
theorem blockQ_nor (id:Nat) (Q:Ex→St→Prop) (st:St):blockQ id Q .nor st=Q .nor st:=rfl
theorem blockQ_ext (id:Nat) (Q:Ex→St→Prop) (i:Nat) (st:St):blockQ id Q (.ext i) st=if i=id then Q .nor st else Q (.ext i) st:=rfl
theorem blockQ_ret (id:Nat) (Q:Ex→St→Prop) (st:St):blockQ id Q .ret st=Q .ret st:=rfl
def condQ (v:AV) (A B:Prop):Prop:=
 match v with
 | .bool true=>A
 | .bool false=>B
 | _=>False
def optQ (o:Option (AV × Eff)) (Q:AV→Eff→Prop):Prop:=
 match o with
 | some (v,e)=>Q v e
 | none=>False
theorem exec_up {c:C} {st:St} {o:Ex × St} {n m:Nat} (h:n≤m) (e:exec pg.gl (callN pg n) kb n c st=some o):exec pg.gl (callN pg m) kb m c st=some o:=
 exec_mono (callN_mono pg h) h e
theorem regs_up {rs:List R} {st st':St} {n m:Nat} (h:n≤m) (e:regs pg.gl (callN pg n) kb rs st=some st'):regs pg.gl (callN pg m) kb rs st=some st':=
 regs_mono (callN_mono pg h) e
theorem WX_skip (st:St) (Q:Ex→St→Prop):WX pg kb .skip st Q=Q .nor st:=by
 apply propext;constructor
 ·rintro ⟨n,ex,st',h,q⟩;simp only [exec,Option.some.injEq,Prod.mk.injEq] at h;obtain ⟨rfl,rfl⟩:=h;exact q
 ·intro q;exact ⟨0,_,_,rfl,q⟩
theorem WX_exit (id:Nat) (st:St) (Q:Ex→St→Prop):WX pg kb (.exit id) st Q=Q (.ext id) st:=by
 apply propext;constructor
 ·rintro ⟨n,ex,st',h,q⟩;simp only [exec,Option.some.injEq,Prod.mk.injEq] at h;obtain ⟨rfl,rfl⟩:=h;exact q
 ·intro q;exact ⟨0,_,_,rfl,q⟩
theorem WX_ret (st:St) (Q:Ex→St→Prop):WX pg kb .ret st Q=Q .ret st:=by
 apply propext;constructor
 ·rintro ⟨n,ex,st',h,q⟩;simp only [exec,Option.some.injEq,Prod.mk.injEq] at h;obtain ⟨rfl,rfl⟩:=h;exact q
 ·intro q;exact ⟨0,_,_,rfl,q⟩
theorem WX_reg (rs:List R) (st:St) (Q:Ex→St→Prop):WX pg kb (.reg rs false) st Q=WR pg kb rs st (fun st'=>Q .nor st'):=by
 apply propext;constructor
 ·rintro ⟨n,ex,st',h,q⟩
  simp only [exec,Option.map_eq_some_iff,Prod.mk.injEq] at h
  obtain ⟨s,h1,rfl,rfl⟩:=h
  exact ⟨n,_,h1,q⟩
 ·rintro ⟨n,st',h,q⟩
  exact ⟨n,_,_,by simp only [exec,h,Option.map_some],q⟩
theorem WX_regT (rs:List R) (st:St) (Q:Ex→St→Prop):WX pg kb (.reg rs true) st Q=WT pg kb rs st (fun st' es=>apartAll 0 rs es=true∧Q .nor st'):=by
 apply propext;constructor
 ·rintro ⟨n,ex,st',h,q⟩
  simp only [exec] at h
  split at h
  ·rename_i s es h1
   split at h
   ·simp only [Option.some.injEq,Prod.mk.injEq] at h
    obtain ⟨rfl,rfl⟩:=h
    exact ⟨n,_,_,h1,by assumption,q⟩
   ·cases h
  ·cases h
 ·rintro ⟨n,st',es,h,a,q⟩
  exact ⟨n,_,_,by simp only [exec,h,a,if_true],q⟩
theorem WX_cond (c:X) (a b:C) (st:St) (Q:Ex→St→Prop):WX pg kb (.cond c a b) st Q=condQ (c.ev pg.gl st.env) (WX pg kb a st Q) (WX pg kb b st Q):=by
 apply propext
 simp only [WX,exec]
 cases c.ev pg.gl st.env with
 | bool x=>cases x<;>exact Iff.rfl
 | _=>simp [condQ]
theorem WX_seq (a b:C) (st:St) (Q:Ex→St→Prop):WX pg kb (.seq a b) st Q=WX pg kb a st (thenQ (fun st'=>WX pg kb b st' Q) Q):=by
 apply propext;constructor
 ·rintro ⟨n,ex,st',h,q⟩
  simp only [exec] at h
  cases ha:exec pg.gl (callN pg n) kb n a st with
  | none=>simp [ha] at h
  | some o=>
   obtain ⟨ex1,st1⟩:=o
   rw [ha] at h
   refine ⟨n,ex1,st1,ha,?_⟩
   cases ex1 with
   | nor=>exact ⟨n,ex,st',h,q⟩
   | ext i=>simp only [Option.some.injEq,Prod.mk.injEq] at h;obtain ⟨rfl,rfl⟩:=h;exact q
   | ret=>simp only [Option.some.injEq,Prod.mk.injEq] at h;obtain ⟨rfl,rfl⟩:=h;exact q
 ·rintro ⟨n,ex,st',h,q⟩
  cases ex with
  | nor=>
   obtain ⟨m,ex2,st2,h2,q2⟩:=q
   refine ⟨max n m,ex2,st2,?_,q2⟩
   simp only [exec,exec_up (Nat.le_max_left n m) h]
   exact exec_up (Nat.le_max_right n m) h2
  | ext i=>exact ⟨n,_,_,by simp only [exec,h],q⟩
  | ret=>exact ⟨n,_,_,by simp only [exec,h],q⟩
theorem WX_block (id:Nat) (b:C) (st:St) (Q:Ex→St→Prop):WX pg kb (.block id b) st Q=WX pg kb b st (blockQ id Q):=by
 apply propext;constructor
 ·rintro ⟨n,ex,st',h,q⟩
  simp only [exec] at h
  cases hb:exec pg.gl (callN pg n) kb n b st with
  | none=>simp [hb] at h
  | some o=>
   obtain ⟨ex1,st1⟩:=o
   rw [hb] at h
   refine ⟨n,ex1,st1,hb,?_⟩
   cases ex1 with
   | nor=>simp only [Option.some.injEq,Prod.mk.injEq] at h;obtain ⟨rfl,rfl⟩:=h;exact q
   | ext i=>
    simp only at h
    simp only [blockQ]
    split at h<;>(simp only [Option.some.injEq,Prod.mk.injEq] at h;obtain ⟨rfl,rfl⟩:=h;simp_all)
   | ret=>simp only [Option.some.injEq,Prod.mk.injEq] at h;obtain ⟨rfl,rfl⟩:=h;exact q
 ·rintro ⟨n,ex,st',h,q⟩
  cases ex with
  | nor=>exact ⟨n,_,_,by simp only [exec,h],q⟩
  | ret=>exact ⟨n,_,_,by simp only [exec,h],q⟩
  | ext i=>
   simp only [blockQ] at q
   split at q
   ·rename_i hi;exact ⟨n,.nor,st',by simp only [exec,h,if_pos hi],q⟩
   ·rename_i hi;exact ⟨n,.ext i,st',by simp only [exec,h,if_neg hi],q⟩
theorem loopN_up {b:C} {clr:List Bool} {st:St} {o:Ex × St} {n m k l:Nat} (h:n≤m) (hk:k≤l) (e:loopN (exec pg.gl (callN pg n) kb n b) clr k st=some o) :
  loopN (exec pg.gl (callN pg m) kb m b) clr l st=some o:=
 loopN_mono (fun _ _ q=>exec_up h q) hk e
theorem WX_loop (b:C) (clr:List Bool) (st:St) (Q:Ex→St→Prop) :
  WX pg kb (.loop b clr) st Q=WX pg kb b ⟨clear clr st.env,st.hp⟩ (thenQ (fun st'=>WX pg kb (.loop b clr) st' Q) Q):=by
 apply propext;constructor
 ·rintro ⟨n,ex,st',h,q⟩
  simp only [exec] at h
  cases n with
  | zero=>simp [loopN] at h
  | succ n=>
   simp only [loopN] at h
   cases hb:exec pg.gl (callN pg (n+1)) kb (n+1) b ⟨clear clr st.env,st.hp⟩ with
   | none=>simp [hb] at h
   | some o=>
    obtain ⟨ex1,st1⟩:=o
    rw [hb] at h
    refine ⟨n+1,ex1,st1,hb,?_⟩
    cases ex1 with
    | nor=>exact ⟨n+1,ex,st',loopN_up (Nat.le_refl _) (Nat.le_succ n) h,q⟩
    | ext i=>simp only [Option.some.injEq,Prod.mk.injEq] at h;obtain ⟨rfl,rfl⟩:=h;exact q
    | ret=>simp only [Option.some.injEq,Prod.mk.injEq] at h;obtain ⟨rfl,rfl⟩:=h;exact q
 ·rintro ⟨n,ex,st',h,q⟩
  cases ex with
  | nor=>
   obtain ⟨m,ex2,st2,h2,q2⟩:=q
   refine ⟨max n m+1,ex2,st2,?_,q2⟩
   simp only [exec] at h2 ⊢
   rw [loopN]
   rw [exec_up (Nat.le_trans (Nat.le_max_left n m) (Nat.le_succ _)) h]
   exact loopN_up (Nat.le_trans (Nat.le_max_right n m) (Nat.le_succ _)) (Nat.le_max_right n m) h2
  | ext i=>exact ⟨n+1,_,_,by simp only [exec,loopN,exec_up (Nat.le_succ n) h],q⟩
  | ret=>exact ⟨n+1,_,_,by simp only [exec,loopN,exec_up (Nat.le_succ n) h],q⟩
theorem WX_rounds {α : Type} (μ : α → Nat) (E : α → List AV→Hp→Prop) {b:C} {clr:List Bool} {st:St} {Q:Ex→St→Prop} (a : α) (h0:E a (clear clr st.env) st.hp)
  (step:∀ a env hp,E a env hp→WX pg kb b ⟨env,hp⟩ (thenQ (fun st'=>∃ a',μ a' < μ a∧E a' (clear clr st'.env) st'.hp) Q)) :
  WX pg kb (.loop b clr) st Q:=by
 have key:∀ n a st,μ a < n→E a (clear clr st.env) st.hp→WX pg kb (.loop b clr) st Q:=by
  intro n
  induction n with
  | zero=>intro a st h;omega
  | succ n ih=>
   intro a st hn h
   rw [WX_loop]
   obtain ⟨m,ex,st',h1,q⟩:=step a _ _ h
   refine ⟨m,ex,st',h1,?_⟩
   cases ex with
   | nor=>
    obtain ⟨a',h2,h3⟩:=q
    exact ih a' st' (by omega) h3
   | ext i=>exact q
   | ret=>exact q
 exact key _ a st (Nat.lt_succ_self _) h0
theorem WR_nil (st:St) (A:St→Prop):WR pg kb [] st A=A st:=by
 apply propext;constructor
 ·rintro ⟨n,st',h,q⟩;simp only [regs,Option.some.injEq] at h;subst h;exact q
 ·intro q;exact ⟨0,_,rfl,q⟩
theorem opR_up {k:K} {s:Nat} {h:Hp} {vs:List AV} {x:AV × Eff} {n m:Nat} (hn:n≤m) (e:opR (callN pg n) kb ⟨none,k,[],none,0,s⟩ h vs=some x) :
  opR (callN pg m) kb ⟨none,k,[],none,0,s⟩ h vs=some x:=
 opR_mono (callN_mono pg hn) e
theorem WR_cons (d:Option Nat) (k:K) (xs:List X) (bef s:Nat) (rs:List R) (st:St) (A:St→Prop) :
  WR pg kb (⟨d,k,xs,none,bef,s⟩ :: rs) st A=WO pg kb k s st.hp (xs.map (X.ev pg.gl st.env)) (fun v eff=>WR pg kb rs ⟨setD st.env d v,eff.app st.hp⟩ A):=by
 apply propext;constructor
 ·rintro ⟨n,st',h,q⟩
  simp only [regs,stepR,wanted] at h
  split at h
  ·rename_i st1 e h1
   split at h1
   ·rename_i v eff h2
    simp only [Option.some.injEq,Prod.mk.injEq] at h1
    obtain ⟨rfl,rfl⟩:=h1
    exact ⟨n,v,eff,h2,n,st',h,q⟩
   ·cases h1
  ·cases h
 ·rintro ⟨n,v,eff,h,m,st',h2,q⟩
  refine ⟨max n m,st',?_,q⟩
  have e1:=opR_up (Nat.le_max_left n m) h
  have e2:=regs_up (Nat.le_max_right n m) h2
  have e3:opR (callN pg (max n m)) kb ⟨d,k,xs,none,bef,s⟩ st.hp (xs.map (X.ev pg.gl st.env))=some (v,eff):=e1
  simp only [regs,stepR,wanted,e3]
  exact e2
def gdQ (v:AV) (b:Bool) (A B:Prop):Prop:=
 match v with
 | .bool c=>if c=b then A else B
 | .tup []=>B
 | _=>False
theorem WR_guard (d:Option Nat) (k:K) (xs:List X) (t:Nat) (b:Bool) (bef s:Nat) (rs:List R) (st:St) (A:St→Prop) :
  WR pg kb (⟨d,k,xs,some (t,b),bef,s⟩ :: rs) st A =
   gdQ (getT st.env t) b (WO pg kb k s st.hp (xs.map (X.ev pg.gl st.env)) (fun v eff=>WR pg kb rs ⟨setD st.env d v,eff.app st.hp⟩ A)) (WR pg kb rs ⟨setD st.env d (.tup []),st.hp⟩ A):=by
 rw [← WR_cons d k xs bef s]
 apply propext
 have hb:∀ c:Bool,(c == b)=decide (c=b):=fun c=>by cases c<;>cases b<;>rfl
 simp only [WR,regs,stepR,wanted]
 generalize getT st.env t=v
 cases v with
 | bool c=>
  simp only [gdQ,hb]
  by_cases hc:c=b
  ·simp only [hc,decide_true,if_true];exact Iff.rfl
  ·simp only [hc,decide_false,if_false]
 | tup l=>cases l<;>simp [gdQ]
 | _=>simp [gdQ]
theorem WT_nil (st:St) (A:St→List Eff→Prop):WT pg kb [] st A=A st []:=by
 apply propext;constructor
 ·rintro ⟨n,st',es,h,q⟩;simp only [regsT,Option.some.injEq,Prod.mk.injEq] at h;obtain ⟨rfl,rfl⟩:=h;exact q
 ·intro q;exact ⟨0,_,_,rfl,q⟩
theorem WT_cons (d:Option Nat) (k:K) (xs:List X) (bef s:Nat) (rs:List R) (st:St) (A:St→List Eff→Prop) :
  WT pg kb (⟨d,k,xs,none,bef,s⟩ :: rs) st A=WO pg kb k s st.hp (xs.map (X.ev pg.gl st.env)) (fun v eff=>WT pg kb rs ⟨setD st.env d v,eff.app st.hp⟩ (fun st' es=>A st' (eff :: es))):=by
 apply propext;constructor
 ·rintro ⟨n,st',es,h,q⟩
  simp only [regsT,stepR,wanted] at h
  split at h
  ·rename_i st1 e h1
   split at h1
   ·rename_i v eff h2
    simp only [Option.some.injEq,Prod.mk.injEq] at h1
    obtain ⟨rfl,rfl⟩:=h1
    simp only [Option.map_eq_some_iff,Prod.mk.injEq] at h
    obtain ⟨⟨s1,l1⟩,h3,h4,h5⟩:=h
    subst h4;subst h5
    exact ⟨n,v,eff,h2,n,s1,l1,h3,q⟩
   ·cases h1
  ·cases h
 ·rintro ⟨n,v,eff,h,m,st',es,h2,q⟩
  refine ⟨max n m,st',eff :: es,?_,q⟩
  have e1:=opR_up (Nat.le_max_left n m) h
  have e2:=regsT_mono (callN_mono pg (Nat.le_max_right n m)) h2
  have e3:opR (callN pg (max n m)) kb ⟨d,k,xs,none,bef,s⟩ st.hp (xs.map (X.ev pg.gl st.env))=some (v,eff):=e1
  simp only [regsT,stepR,wanted,e3]
  rw [e2]
  rfl
theorem WT_guard (d:Option Nat) (k:K) (xs:List X) (t:Nat) (b:Bool) (bef s:Nat) (rs:List R) (st:St) (A:St→List Eff→Prop) :
  WT pg kb (⟨d,k,xs,some (t,b),bef,s⟩ :: rs) st A =
   gdQ (getT st.env t) b (WO pg kb k s st.hp (xs.map (X.ev pg.gl st.env)) (fun v eff=>WT pg kb rs ⟨setD st.env d v,eff.app st.hp⟩ (fun st' es=>A st' (eff :: es))))
    (WT pg kb rs ⟨setD st.env d (.tup []),st.hp⟩ (fun st' es=>A st' (.pat [] [] :: es))):=by
 rw [← WT_cons d k xs bef s]
 apply propext
 have hb:∀ c:Bool,(c == b)=decide (c=b):=fun c=>by cases c<;>cases b<;>rfl
 have key:(∃ n st' es,(regsT pg.gl (callN pg n) kb rs ⟨setD st.env d (.tup []),st.hp⟩).map (fun (s,l)=>(s,Eff.pat [] [] :: l))=some (st',es)∧A st' es) ↔
   (∃ n st' es,regsT pg.gl (callN pg n) kb rs ⟨setD st.env d (.tup []),st.hp⟩=some (st',es)∧A st' (.pat [] [] :: es)):=by
  constructor
  ·rintro ⟨n,st',es,h,q⟩
   simp only [Option.map_eq_some_iff,Prod.mk.injEq] at h
   obtain ⟨⟨s1,l1⟩,h3,h4,h5⟩:=h
   subst h4;subst h5
   exact ⟨n,s1,l1,h3,q⟩
  ·rintro ⟨n,st',es,h,q⟩
   exact ⟨n,st',_,by rw [h];rfl,q⟩
 simp only [WT,regsT,stepR,wanted]
 generalize getT st.env t=v
 cases v with
 | bool c=>
  simp only [gdQ,hb]
  by_cases hc:c=b
  ·simp only [hc,decide_true,if_true];exact Iff.rfl
  ·simp only [hc,decide_false,if_false];exact key
 | tup l=>
  cases l with
  | nil=>simp only [gdQ];exact key
  | cons a r=>simp [gdQ]
 | _=>simp [gdQ]
def K.isCall:K→Bool
 | .call .. | .callv .. | .calle .. | .callr .. => true
 | _=>false
theorem WO_op {k:K} (hk:k.isCall=false) (s:Nat) (h:Hp) (vs:List AV) (Q:AV→Eff→Prop):WO pg kb k s h vs Q=optQ (op1F h (kb+s) k vs) Q:=by
 have e:∀ call:Caller,opR call kb ⟨none,k,[],none,0,s⟩ h vs=op1F h (kb+s) k vs:=by
  intro call;cases k<;>first | rfl | simp [K.isCall] at hk
 apply propext
 simp only [WO,e]
 cases op1F h (kb+s) k vs with
 | none=>simp [optQ]
 | some x=>
  obtain ⟨v,eff⟩:=x
  simp only [optQ]
  constructor
  ·rintro ⟨n,v',e',h1,q⟩;cases h1;exact q
  ·intro q;exact ⟨0,_,_,rfl,q⟩
theorem callP_up {f:Nat} {ts:List AV} {r:AV} {n m:Nat} (h:n≤m) (e:callP (callN pg n) f ts=some r):callP (callN pg m) f ts=some r:=
 callP_mono (callN_mono pg h) e
theorem WO_call {f s:Nat} {th:Bool} {h:Hp} {vs ts:List AV} {keys:List Nat} {r v:AV} {pa:List Ent} {Q:AV→Eff→Prop} (hr:Ret pg f ts r)
  (hm:mapS (snap depth h) vs=some (ts,keys)) (hv:receive h (kb+s) th r=some (v,pa)) :
  WO pg kb (.call f th false) s h vs Q=Q v (.pat ((kb+s) :: keys) ((if r.flat then [] else freezeK h keys)++pa)):=by
 obtain ⟨n,e⟩:=hr
 have key:∀ m,n≤m→opR (callN pg m) kb ⟨none,.call f th false,[],none,0,s⟩ h vs=some (v,.pat ((kb+s) :: keys) ((if r.flat then [] else freezeK h keys)++pa)):=by
  intro m hm'
  simp only [opR,callA,Bool.false_eq_true,if_false,hm,callP_up hm' e,hv]
 apply propext;constructor
 ·rintro ⟨m,v',e',h1,q⟩
  have h2:=key _ (Nat.le_max_left n m)
  have h3:=opR_up (Nat.le_max_right n m) h1
  rw [h3] at h2
  cases h2
  exact q
 ·intro q
  exact ⟨n,_,_,key n (Nat.le_refl _),q⟩
theorem WO_callH {f s:Nat} {th im:Bool} {h h':Hp} {vs:List AV} {r:AV} {Q:AV→Eff→Prop} (hm:im=true∨mapS (snap depth h) vs=none) {B:Nat} (hB:baseOf kb s vs=B) (hr:RetH pg f vs B h r h')
   (hq:Q r (.whole h')):WO pg kb (.call f th im) s h vs Q:=by
 subst hB
 obtain ⟨n,e⟩:=hr
 refine ⟨n,r,.whole h',?_,hq⟩
 have:(if im then none else mapS (snap depth h) vs)=none:=by
  rcases hm with rfl | hm
  ·rfl
  ·simp [hm]
 simp only [opR,callA,this,e]
theorem RetH.of {f:Nat} {cf:CF} {vs:List AV} {h:Hp} {r:AV} {h':Hp} (hf:pg.fs f=some cf)
  (hw:WX pg kb cf.body ⟨enter cf vs,h⟩ (fun ex st=>(match ex with | .ext _=>False | _=>True)∧result st cf.res=some r∧st.hp=h')):RetH pg f vs kb h r h':=by
 obtain ⟨n,ex,st,h1,h2,h3,h4⟩:=hw
 refine ⟨n+1,?_⟩
 subst h4
 simp only [callN,hf,h1]
 cases ex with
 | ext i=>exact h2.elim
 | nor=>simp [h3]
 | ret=>simp [h3]
def endQ (res:List (Sum Nat (Nat × Nat × Bool))) (r:AV) (ex:Ex) (st:St):Prop:=
 match ex with
 | .ext _=>False
 | _=>∃ v,result st res=some v∧conv st.hp v=some r
theorem endQ_nor (res:List (Sum Nat (Nat × Nat × Bool))) (r:AV) (st:St):endQ res r .nor st=∃ v,result st res=some v∧conv st.hp v=some r:=rfl
theorem endQ_ret (res:List (Sum Nat (Nat × Nat × Bool))) (r:AV) (st:St):endQ res r .ret st=∃ v,result st res=some v∧conv st.hp v=some r:=rfl
theorem Ret.of {f:Nat} {cf:CF} {vs:List AV} {r:AV} (hf:pg.fs f=some cf) (hw:WX pg 0 cf.body ⟨enter cf vs,[]⟩ (endQ cf.res r)):Ret pg f vs r:=by
 obtain ⟨n,ex,st,h1,h2⟩:=hw
 refine ⟨n+1,?_⟩
 cases ex with
 | ext i=>exact h2.elim
 | nor=>
  obtain ⟨v,h3,h4⟩:=h2
  simp only [callP,callN,hf,h1,h3,Option.map_some,h4]
 | ret=>
  obtain ⟨v,h3,h4⟩:=h2
  simp only [callP,callN,hf,h1,h3,Option.map_some,h4]
theorem exSome {α : Type} {x : α} {P : α → Prop}:(∃ v,some x=some v∧P v)=P x:=by
 apply propext;constructor
 ·rintro ⟨v,h,p⟩;cases h;exact p
 ·intro p;exact ⟨x,rfl,p⟩
end Go.Tev
end
section
namespace Go.Tev
structure Tok.{u} {α : Sort u} (a : α):Type where
def XX (pg:Pg) (kb:Nat) (c:C) (st:St) (Q:Ex→St→Prop) (_:Tok Q):Prop:=WX pg kb c st Q
def XR (pg:Pg) (kb:Nat) (rs:List R) (st:St) (Q:St→Prop) (_:Tok Q):Prop:=WR pg kb rs st Q
def XT (pg:Pg) (kb:Nat) (rs:List R) (st:St) (Q:St→List Eff→Prop) (_:Tok Q):Prop:=WT pg kb rs st Q
def XO (pg:Pg) (kb:Nat) (k:K) (s:Nat) (h:Hp) (vs:List AV) (Q:AV→Eff→Prop) (_:Tok Q):Prop:=WO pg kb k s h vs Q
def XG (v:AV) (b:Bool) (A B:Unit→Prop) (_:Tok (A,B)):Prop:=gdQ v b (A ()) (B ())
def XC (v:AV) (A B:Unit→Prop) (_:Tok (A,B)):Prop:=condQ v (A ()) (B ())
def XV (o:Option (AV × Eff)) (Q:AV→Eff→Prop) (_:Tok Q):Prop:=optQ o Q
variable {pg:Pg} {kb:Nat}
theorem XX_skip (st:St) (Q:Ex→St→Prop) (t:Tok Q):XX pg kb .skip st Q t=Q .nor st:=WX_skip st Q
theorem XX_exit (id:Nat) (st:St) (Q:Ex→St→Prop) (t:Tok Q):XX pg kb (.exit id) st Q t=Q (.ext id) st:=WX_exit id st Q
theorem XX_ret (st:St) (Q:Ex→St→Prop) (t:Tok Q):XX pg kb .ret st Q t=Q .ret st:=WX_ret st Q
theorem XX_reg (rs:List R) (st:St) (Q:Ex→St→Prop) (t:Tok Q):XX pg kb (.reg rs false) st Q t=XR pg kb rs st (fun st'=>Q .nor st') ⟨⟩:=WX_reg rs st Q
theorem XX_regT (rs:List R) (st:St) (Q:Ex→St→Prop) (t:Tok Q):XX pg kb (.reg rs true) st Q t=XT pg kb rs st (fun st' es=>apartAll 0 rs es=true∧Q .nor st') ⟨⟩:=WX_regT rs st Q
theorem XX_cond (c:X) (a b:C) (st:St) (Q:Ex→St→Prop) (t:Tok Q):XX pg kb (.cond c a b) st Q t=XC (c.ev pg.gl st.env) (fun _=>XX pg kb a st Q t) (fun _=>XX pg kb b st Q t) ⟨⟩:=WX_cond c a b st Q
theorem XX_seq (a b:C) (st:St) (Q:Ex→St→Prop) (t:Tok Q):XX pg kb (.seq a b) st Q t=XX pg kb a st (thenQ (fun st'=>XX pg kb b st' Q t) Q) ⟨⟩:=WX_seq a b st Q
theorem XX_block (id:Nat) (b:C) (st:St) (Q:Ex→St→Prop) (t:Tok Q):XX pg kb (.block id b) st Q t=XX pg kb b st (blockQ id Q) ⟨⟩:=WX_block id b st Q
theorem XX_loop (b:C) (clr:List Bool) (st:St) (Q:Ex→St→Prop) (t:Tok Q):XX pg kb (.loop b clr) st Q t=XX pg kb b ⟨clear clr st.env,st.hp⟩ (thenQ (fun st'=>XX pg kb (.loop b clr) st' Q t) Q) ⟨⟩:=WX_loop b clr st Q
theorem XX_rounds {α : Type} (μ : α → Nat) (E : α → List AV→Hp→Prop) {b:C} {clr:List Bool} {st:St} {Q:Ex→St→Prop} {t:Tok Q} (a : α) (h0:E a (clear clr st.env) st.hp)
  (step:∀ a env hp,E a env hp→XX pg kb b ⟨env,hp⟩ (thenQ (fun st'=>∃ a',μ a' < μ a∧E a' (clear clr st'.env) st'.hp) Q) ⟨⟩) :
  XX pg kb (.loop b clr) st Q t:=WX_rounds μ E a h0 step
theorem XR_nil (st:St) (A:St→Prop) (t:Tok A):XR pg kb [] st A t=A st:=WR_nil st A
theorem XR_cons (d:Option Nat) (k:K) (xs:List X) (bef s:Nat) (rs:List R) (st:St) (A:St→Prop) (t:Tok A) :
  XR pg kb (⟨d,k,xs,none,bef,s⟩ :: rs) st A t=XO pg kb k s st.hp (xs.map (X.ev pg.gl st.env)) (fun v eff=>XR pg kb rs ⟨setD st.env d v,eff.app st.hp⟩ A t) ⟨⟩:=WR_cons d k xs bef s rs st A
theorem XR_guard (d:Option Nat) (k:K) (xs:List X) (g:Nat) (b:Bool) (bef s:Nat) (rs:List R) (st:St) (A:St→Prop) (t:Tok A) :
  XR pg kb (⟨d,k,xs,some (g,b),bef,s⟩ :: rs) st A t =
   XG (getT st.env g) b (fun _=>XO pg kb k s st.hp (xs.map (X.ev pg.gl st.env)) (fun v eff=>XR pg kb rs ⟨setD st.env d v,eff.app st.hp⟩ A t) ⟨⟩) (fun _=>XR pg kb rs ⟨setD st.env d (.tup []),st.hp⟩ A t) ⟨⟩:=
 WR_guard d k xs g b bef s rs st A
theorem XT_nil (st:St) (A:St→List Eff→Prop) (t:Tok A):XT pg kb [] st A t=A st []:=WT_nil st A
theorem XT_cons (d:Option Nat) (k:K) (xs:List X) (bef s:Nat) (rs:List R) (st:St) (A:St→List Eff→Prop) (t:Tok A) :
  XT pg kb (⟨d,k,xs,none,bef,s⟩ :: rs) st A t=XO pg kb k s st.hp (xs.map (X.ev pg.gl st.env)) (fun v eff=>XT pg kb rs ⟨setD st.env d v,eff.app st.hp⟩ (fun st' es=>A st' (eff :: es)) ⟨⟩) ⟨⟩:=WT_cons d k xs bef s rs st A
theorem XT_guard (d:Option Nat) (k:K) (xs:List X) (g:Nat) (b:Bool) (bef s:Nat) (rs:List R) (st:St) (A:St→List Eff→Prop) (t:Tok A) :
  XT pg kb (⟨d,k,xs,some (g,b),bef,s⟩ :: rs) st A t =
   XG (getT st.env g) b (fun _=>XO pg kb k s st.hp (xs.map (X.ev pg.gl st.env)) (fun v eff=>XT pg kb rs ⟨setD st.env d v,eff.app st.hp⟩ (fun st' es=>A st' (eff :: es)) ⟨⟩) ⟨⟩)
    (fun _=>XT pg kb rs ⟨setD st.env d (.tup []),st.hp⟩ (fun st' es=>A st' (.pat [] [] :: es)) ⟨⟩) ⟨⟩:=
 WT_guard d k xs g b bef s rs st A
theorem XC_true (A B:Unit→Prop) (t:Tok (A,B)):XC (.bool true) A B t=A ():=rfl
theorem XC_false (A B:Unit→Prop) (t:Tok (A,B)):XC (.bool false) A B t=B ():=rfl
theorem XC_split {c:Bool} {A B:Unit→Prop} {t:Tok (A,B)} (h1:c=true→A ()) (h2:c=false→B ()):XC (.bool c) A B t:=by
 cases c
 ·exact h2 rfl
 ·exact h1 rfl
theorem XG_tt (A B:Unit→Prop) (t:Tok (A,B)):XG (.bool true) true A B t=A ():=rfl
theorem XG_ff (A B:Unit→Prop) (t:Tok (A,B)):XG (.bool false) false A B t=A ():=rfl
theorem XG_tf (A B:Unit→Prop) (t:Tok (A,B)):XG (.bool true) false A B t=B ():=rfl
theorem XG_ft (A B:Unit→Prop) (t:Tok (A,B)):XG (.bool false) true A B t=B ():=rfl
theorem XG_no (b:Bool) (A B:Unit→Prop) (t:Tok (A,B)):XG (.tup []) b A B t=B ():=rfl
theorem XG_split {c b:Bool} {A B:Unit→Prop} {t:Tok (A,B)} (h1:c=true→XG (.bool true) b A B t) (h2:c=false→XG (.bool false) b A B t):XG (.bool c) b A B t:=by
 cases c
 ·exact h2 rfl
 ·exact h1 rfl
theorem XV_some (v:AV) (e:Eff) (Q:AV→Eff→Prop) (t:Tok Q):XV (some (v,e)) Q t=Q v e:=rfl
theorem XO_call {f s:Nat} {th:Bool} {h:Hp} {vs ts:List AV} {keys:List Nat} {r v:AV} {pa:List Ent} {Q:AV→Eff→Prop} {t:Tok Q} (hr:Ret pg f ts r)
  (hm:mapS (snap depth h) vs=some (ts,keys)) (hv:receive h (kb+s) th r=some (v,pa)) (q:Q v (.pat ((kb+s) :: keys) ((if r.flat then [] else freezeK h keys)++pa))) :
  XO pg kb (.call f th false) s h vs Q t:=(WO_call hr hm hv).mpr q
theorem mapS_tree (d:Nat) (h:Hp):∀ {vs:List AV},treeL vs=true→mapS (snap (d+1) h) vs=some (vs,[])
 | [],_=>rfl
 | x :: r,q=>by
  simp only [treeL,Bool.and_eq_true] at q
  have e:snap (d+1) h x=some (x,[]):=by unfold snap;rw [if_pos q.1]
  rw [mapS,e,mapS_tree d h q.2]
  rfl
def AV.notOs:AV→Bool
 | .os .. => false
 | _=>true
theorem XO_tree {f s:Nat} {th:Bool} {h:Hp} {vs:List AV} {r:AV} {Q:AV→Eff→Prop} {t:Tok Q} (hr:Ret pg f vs r)
  (hm:treeL vs=true) (hv:r.notOs=true) (q:Q r (.pat [kb+s] [])) :
  XO pg kb (.call f th false) s h vs Q t:=by
 refine XO_call hr (mapS_tree 63 h hm) (v:=r) (pa:=[]) ?_ ?_
 ·cases r<;>first | rfl | simp [AV.notOs] at hv
 ·have:(if r.flat then ([]:List Ent) else freezeK h [])++[]=[]:=by split<;>rfl
  rw [this]
  exact q
theorem XO_callH {f s:Nat} {th im:Bool} {h h':Hp} {vs:List AV} {r:AV} {Q:AV→Eff→Prop} {t:Tok Q} (hm:im=true∨mapS (snap depth h) vs=none) {B:Nat} (hB:baseOf kb s vs=B) (hr:RetH pg f vs B h r h')
   (hq:Q r (.whole h')):XO pg kb (.call f th im) s h vs Q t:=WO_callH hm hB hr hq
theorem XO_callv {f s:Nat} {th im:Bool} {h:Hp} {cs args:List AV} {Q:AV→Eff→Prop} {t:Tok Q} :
  XO pg kb (.callv th im) s h (.fn f cs :: args) Q t=XO pg kb (.call f th im) s h (args++cs) Q t:=rfl
theorem Ret.ofX {f:Nat} {cf:CF} {vs:List AV} {r:AV} (hf:pg.fs f=some cf) (hw:XX pg 0 cf.body ⟨enter cf vs,[]⟩ (endQ cf.res r) ⟨⟩):Ret pg f vs r:=Ret.of hf hw
def endH (res:List (Sum Nat (Nat × Nat × Bool))) (r:AV) (h:Hp) (ex:Ex) (st:St):Prop:=(match ex with | .ext _=>False | _=>True)∧result st res=some r∧st.hp=h
theorem RetH.ofX {f:Nat} {cf:CF} {vs:List AV} {h:Hp} {r:AV} {h':Hp} (hf:pg.fs f=some cf) (hw:XX pg kb cf.body ⟨enter cf vs,h⟩ (endH cf.res r h') ⟨⟩):RetH pg f vs kb h r h':=RetH.of hf hw
theorem endH_nor (res:List (Sum Nat (Nat × Nat × Bool))) (r:AV) (h:Hp) (st:St):endH res r h .nor st=(result st res=some r∧st.hp=h):=by simp [endH]
theorem endH_ret (res:List (Sum Nat (Nat × Nat × Bool))) (r:AV) (h:Hp) (st:St):endH res r h .ret st=(result st res=some r∧st.hp=h):=by simp [endH]
theorem XO_pick (s:Nat) (h:Hp) (c a b:Bool) (Q:AV→Eff→Prop) (t:Tok Q):XO pg kb .pick s h [.bool c,.bool a,.bool b] Q t=Q (.bool (bif c then a else b)) (.pat [] []):=by
 show WO pg kb .pick s h _ Q=_
 rw [WO_op rfl];cases c<;>rfl
theorem XO_pick_t (s:Nat) (h:Hp) (a b:AV) (Q:AV→Eff→Prop) (t:Tok Q):XO pg kb .pick s h [.bool true,a,b] Q t=Q a (.pat [] []):=by
 show WO pg kb .pick s h _ Q=_
 rw [WO_op rfl];rfl
theorem XO_pick_f (s:Nat) (h:Hp) (a b:AV) (Q:AV→Eff→Prop) (t:Tok Q):XO pg kb .pick s h [.bool false,a,b] Q t=Q b (.pat [] []):=by
 show WO pg kb .pick s h _ Q=_
 rw [WO_op rfl];rfl
theorem XO_mov (s:Nat) (h:Hp) (vs:List AV) (Q:AV→Eff→Prop) (t:Tok Q):XO pg kb (.mov) s h vs Q t=XV (f_mov vs) Q ⟨⟩:=WO_op rfl s h vs Q
theorem XO_box (s:Nat) (h:Hp) (vs:List AV) (Q:AV→Eff→Prop) (t:Tok Q):XO pg kb (.box) s h vs Q t=XV (f_box h (kb+s) vs) Q ⟨⟩:=WO_op rfl s h vs Q
theorem XO_alloc (z:List AV) (ag:Bool) (s:Nat) (h:Hp) (vs:List AV) (Q:AV→Eff→Prop) (t:Tok Q):XO pg kb (.alloc z ag) s h vs Q t=XV (f_alloc h (kb+s) z ag vs) Q ⟨⟩:=WO_op rfl s h vs Q
theorem XO_build (z:List AV) (ps:List (Nat × Nat)) (s:Nat) (h:Hp) (vs:List AV) (Q:AV→Eff→Prop) (t:Tok Q):XO pg kb (.build z ps) s h vs Q t=XV (f_build z ps vs) Q ⟨⟩:=WO_op rfl s h vs Q
theorem XO_mkSl (e:Nat) (ag own:Bool) (s:Nat) (h:Hp) (vs:List AV) (Q:AV→Eff→Prop) (t:Tok Q):XO pg kb (.mkSl e ag own) s h vs Q t=XV (f_mkSl h (kb+s) e ag own vs) Q ⟨⟩:=WO_op rfl s h vs Q
theorem XO_load (sz:Nat) (ag:Bool) (s:Nat) (h:Hp) (vs:List AV) (Q:AV→Eff→Prop) (t:Tok Q):XO pg kb (.load sz ag) s h vs Q t=XV (f_load h sz ag vs) Q ⟨⟩:=WO_op rfl s h vs Q
theorem XO_store (sz:Nat) (ag:Bool) (s:Nat) (h:Hp) (vs:List AV) (Q:AV→Eff→Prop) (t:Tok Q):XO pg kb (.store sz ag) s h vs Q t=XV (f_store h sz ag vs) Q ⟨⟩:=WO_op rfl s h vs Q
theorem XO_nilc (s:Nat) (h:Hp) (vs:List AV) (Q:AV→Eff→Prop) (t:Tok Q):XO pg kb (.nilc) s h vs Q t=XV (f_nilc vs) Q ⟨⟩:=WO_op rfl s h vs Q
theorem XO_bin (op:BinOp) (s:Nat) (h:Hp) (vs:List AV) (Q:AV→Eff→Prop) (t:Tok Q):XO pg kb (.bin op) s h vs Q t=XV (f_bin op vs) Q ⟨⟩:=WO_op rfl s h vs Q
theorem XO_beq (ng:Bool) (s:Nat) (h:Hp) (vs:List AV) (Q:AV→Eff→Prop) (t:Tok Q):XO pg kb (.beq ng) s h vs Q t=XV (f_beq ng vs) Q ⟨⟩:=WO_op rfl s h vs Q
theorem XO_eqn (q:Nat) (ng:Bool) (s:Nat) (h:Hp) (vs:List AV) (Q:AV→Eff→Prop) (t:Tok Q):XO pg kb (.eqn q ng) s h vs Q t=XV (f_eqn q ng vs) Q ⟨⟩:=WO_op rfl s h vs Q
theorem XO_eqs (ng:Bool) (qs:List Nat) (s:Nat) (h:Hp) (vs:List AV) (Q:AV→Eff→Prop) (t:Tok Q):XO pg kb (.eqs ng qs) s h vs Q t=XV (f_eqs ng qs vs) Q ⟨⟩:=WO_op rfl s h vs Q
theorem XO_un (op:UnOp) (s:Nat) (h:Hp) (vs:List AV) (Q:AV→Eff→Prop) (t:Tok Q):XO pg kb (.un op) s h vs Q t=XV (f_un op vs) Q ⟨⟩:=WO_op rfl s h vs Q
theorem XO_cvi (i:IntKind) (s:Nat) (h:Hp) (vs:List AV) (Q:AV→Eff→Prop) (t:Tok Q):XO pg kb (.cvi i) s h vs Q t=XV (f_cvi i vs) Q ⟨⟩:=WO_op rfl s h vs Q
theorem XO_cvs (s:Nat) (h:Hp) (vs:List AV) (Q:AV→Eff→Prop) (t:Tok Q):XO pg kb (.cvs) s h vs Q t=XV (f_cvs vs) Q ⟨⟩:=WO_op rfl s h vs Q
theorem XO_s2b (s:Nat) (h:Hp) (vs:List AV) (Q:AV→Eff→Prop) (t:Tok Q):XO pg kb (.s2b) s h vs Q t=XV (f_s2b vs) Q ⟨⟩:=WO_op rfl s h vs Q
theorem XO_b2s (s:Nat) (h:Hp) (vs:List AV) (Q:AV→Eff→Prop) (t:Tok Q):XO pg kb (.b2s) s h vs Q t=XV (f_b2s h vs) Q ⟨⟩:=WO_op rfl s h vs Q
theorem XO_fld (off sz:Nat) (ag:Bool) (s:Nat) (h:Hp) (vs:List AV) (Q:AV→Eff→Prop) (t:Tok Q):XO pg kb (.fld off sz ag) s h vs Q t=XV (f_fld off sz ag vs) Q ⟨⟩:=WO_op rfl s h vs Q
theorem XO_fad (off sz:Nat) (ag:Bool) (s:Nat) (h:Hp) (vs:List AV) (Q:AV→Eff→Prop) (t:Tok Q):XO pg kb (.fad off sz ag) s h vs Q t=XV (f_fad off sz ag vs) Q ⟨⟩:=WO_op rfl s h vs Q
theorem XO_iad (e:Nat) (ag:Bool) (arr:Option Nat) (s:Nat) (h:Hp) (vs:List AV) (Q:AV→Eff→Prop) (t:Tok Q):XO pg kb (.iad e ag arr) s h vs Q t=XV (f_iad e ag arr vs) Q ⟨⟩:=WO_op rfl s h vs Q
theorem XO_ixs (s:Nat) (h:Hp) (vs:List AV) (Q:AV→Eff→Prop) (t:Tok Q):XO pg kb (.ixs) s h vs Q t=XV (f_ixs vs) Q ⟨⟩:=WO_op rfl s h vs Q
theorem XO_ixa (len e:Nat) (ag:Bool) (s:Nat) (h:Hp) (vs:List AV) (Q:AV→Eff→Prop) (t:Tok Q):XO pg kb (.ixa len e ag) s h vs Q t=XV (f_ixa len e ag vs) Q ⟨⟩:=WO_op rfl s h vs Q
theorem XO_slc (e:Nat) (lo hi mx:Bool) (s:Nat) (h:Hp) (vs:List AV) (Q:AV→Eff→Prop) (t:Tok Q):XO pg kb (.slc e lo hi mx) s h vs Q t=XV (f_slc h e lo hi mx vs) Q ⟨⟩:=WO_op rfl s h vs Q
theorem XO_sls (lo hi:Bool) (s:Nat) (h:Hp) (vs:List AV) (Q:AV→Eff→Prop) (t:Tok Q):XO pg kb (.sls lo hi) s h vs Q t=XV (f_sls lo hi vs) Q ⟨⟩:=WO_op rfl s h vs Q
theorem XO_sla (len e:Nat) (lo hi:Bool) (s:Nat) (h:Hp) (vs:List AV) (Q:AV→Eff→Prop) (t:Tok Q):XO pg kb (.sla len e lo hi) s h vs Q t=XV (f_sla h len e lo hi vs) Q ⟨⟩:=WO_op rfl s h vs Q
theorem XO_mks (e:Nat) (ag:Bool) (bytes:Nat) (z:List AV) (s:Nat) (h:Hp) (vs:List AV) (Q:AV→Eff→Prop) (t:Tok Q):XO pg kb (.mks e ag bytes z) s h vs Q t=XV (f_mks h (kb+s) e ag bytes z vs) Q ⟨⟩:=WO_op rfl s h vs Q
theorem XO_len (q:Nat) (s:Nat) (h:Hp) (vs:List AV) (Q:AV→Eff→Prop) (t:Tok Q):XO pg kb (.len q) s h vs Q t=XV (f_len h q vs) Q ⟨⟩:=WO_op rfl s h vs Q
theorem XO_lenc (n:Nat) (s:Nat) (h:Hp) (vs:List AV) (Q:AV→Eff→Prop) (t:Tok Q):XO pg kb (.lenc n) s h vs Q t=XV (f_lenc n vs) Q ⟨⟩:=WO_op rfl s h vs Q
theorem XO_cap (s:Nat) (h:Hp) (vs:List AV) (Q:AV→Eff→Prop) (t:Tok Q):XO pg kb (.cap) s h vs Q t=XV (f_cap h vs) Q ⟨⟩:=WO_op rfl s h vs Q
theorem XO_app (e:Nat) (ag:Bool) (bytes:Nat) (s:Nat) (h:Hp) (vs:List AV) (Q:AV→Eff→Prop) (t:Tok Q):XO pg kb (.app e ag bytes) s h vs Q t=XV (f_app h (kb+s) e ag bytes vs) Q ⟨⟩:=WO_op rfl s h vs Q
theorem XO_cpy (e:Nat) (ag:Bool) (s:Nat) (h:Hp) (vs:List AV) (Q:AV→Eff→Prop) (t:Tok Q):XO pg kb (.cpy e ag) s h vs Q t=XV (f_cpy h e ag vs) Q ⟨⟩:=WO_op rfl s h vs Q
theorem XO_mn (s:Nat) (h:Hp) (vs:List AV) (Q:AV→Eff→Prop) (t:Tok Q):XO pg kb (.mn) s h vs Q t=XV (f_mn vs) Q ⟨⟩:=WO_op rfl s h vs Q
theorem XO_mx (s:Nat) (h:Hp) (vs:List AV) (Q:AV→Eff→Prop) (t:Tok Q):XO pg kb (.mx) s h vs Q t=XV (f_mx vs) Q ⟨⟩:=WO_op rfl s h vs Q
theorem XO_ext (i:Nat) (s:Nat) (h:Hp) (vs:List AV) (Q:AV→Eff→Prop) (t:Tok Q):XO pg kb (.ext i) s h vs Q t=XV (f_ext i vs) Q ⟨⟩:=WO_op rfl s h vs Q
theorem XO_mki (s:Nat) (h:Hp) (vs:List AV) (Q:AV→Eff→Prop) (t:Tok Q):XO pg kb (.mki) s h vs Q t=XV (f_mki vs) Q ⟨⟩:=WO_op rfl s h vs Q
theorem XO_mkf (f:Nat) (s:Nat) (h:Hp) (vs:List AV) (Q:AV→Eff→Prop) (t:Tok Q):XO pg kb (.mkf f) s h vs Q t=XV (f_mkf f vs) Q ⟨⟩:=WO_op rfl s h vs Q
theorem getT_zero (a:AV) (l:List AV):getT (a :: l) 0=a:=rfl
theorem getT_succ (a:AV) (l:List AV) (n:Nat):getT (a :: l) (n+1)=getT l n:=by simp [getT]
theorem setD_none (l:List AV) (v:AV):setD l none v=l:=rfl
theorem setD_zero (a:AV) (l:List AV) (v:AV):setD (a :: l) (some 0) v=v :: l:=rfl
theorem setD_succ (a:AV) (l:List AV) (v:AV) (n:Nat):setD (a :: l) (some (n+1)) v=a :: setD l (some n) v:=rfl
theorem app_nil (h:Hp) (rd:List Nat):Eff.app h (.pat rd [])=h:=rfl
theorem app_one (h:Hp) (rd:List Nat) (k e:Nat) (o:Ob):Eff.app h (.pat rd [⟨k,e,o⟩])=h.put k e o:=rfl
theorem app_two (h:Hp) (rd:List Nat) (k e k' e':Nat) (o o':Ob):Eff.app h (.pat rd [⟨k,e,o⟩,⟨k',e',o'⟩])=(h.put k e o).put k' e' o':=rfl
theorem app_whole (h h':Hp):Eff.app h (.whole h')=h':=rfl
theorem av_val_eq (v:AV):val v=some (v,.pat [] []):=rfl
theorem newA_eq (h:Hp) (k:Nat) (o:Ob) (v:Nat→AV):newA h k o v=some (v (h.next k),.pat [k] [⟨k,h.next k,o⟩]):=rfl
theorem next_nil (k:Nat):Hp.next [] k=0:=rfl
theorem next_put (h:Hp) (k e:Nat) (o:Ob) (q:Nat):(h.put k e o).next q=if k=q then e+1 else h.next q:=by
 simp only [Hp.next,get_put];by_cases c:k=q<;>simp [c]
theorem get_nil (k:Nat):Hp.get [] k=none:=rfl
theorem isAgg_agg (cs:List AV):AV.isAgg (.agg cs)=true:=rfl
theorem cells_agg (cs:List AV):AV.cells (.agg cs)=cs:=rfl
theorem partA_agg (cs:List AV) (off sz:Nat):partA cs off sz true=if off+sz≤cs.length then some (.agg ((cs.drop off).take sz)) else none:=rfl
theorem partA_one (cs:List AV) (off sz:Nat):partA cs off sz false=cs[off]?:=rfl
theorem bind_some' {α β : Type} (x : α) (f : α → Option β):(some x).bind f=f x:=rfl
theorem map_some' {α β : Type} (x : α) (f : α → β):(some x).map f=some (f x):=rfl
theorem St_env (e:List AV) (h:Hp):(St.mk e h).env=e:=rfl
theorem St_hp (e:List AV) (h:Hp):(St.mk e h).hp=h:=rfl
theorem CF_body (a b:Nat) (c:List (Sum Nat (Nat × Nat × Bool))) (d:C):(CF.mk a b c d).body=d:=rfl
theorem CF_res (a b:Nat) (c:List (Sum Nat (Nat × Nat × Bool))) (d:C):(CF.mk a b c d).res=c:=rfl
theorem CF_nt (a b:Nat) (c:List (Sum Nat (Nat × Nat × Bool))) (d:C):(CF.mk a b c d).nt=b:=rfl
theorem fits_bool (b:Bool) (sz:Nat) (ag:Bool):AV.fits (.bool b) sz ag=(!ag&&sz == 1):=rfl
theorem tree_bool (b:Bool):AV.tree (.bool b)=true:=by simp [AV.tree]
theorem fits_int (k:IntKind) (n:Int) (sz:Nat) (ag:Bool):AV.fits (.int k n) sz ag=(!ag&&sz == 1):=rfl
theorem tree_int (k:IntKind) (n:Int):AV.tree (.int k n)=true:=by simp [AV.tree]
theorem fits_str (b:List UInt8) (sz:Nat) (ag:Bool):AV.fits (.str b) sz ag=(!ag&&sz == 1):=rfl
theorem tree_str (b:List UInt8):AV.tree (.str b)=true:=by simp [AV.tree]
theorem fits_sl (nl:Bool) (es:List AV) (cl:Bool) (sz:Nat) (ag:Bool):AV.fits (.sl nl es cl) sz ag=(!ag&&sz == 1):=rfl
theorem tree_sl (nl:Bool) (es:List AV) (cl:Bool):AV.tree (.sl nl es cl)=treeL es:=by simp [AV.tree]
theorem fits_fp (v:AV) (sz:Nat) (ag:Bool):AV.fits (.fp v) sz ag=(!ag&&sz == 1):=rfl
theorem tree_fp (v:AV):AV.tree (.fp v)=v.tree:=by simp [AV.tree]
theorem fits_nilp  (sz:Nat) (ag:Bool):AV.fits (.nilp ) sz ag=(!ag&&sz == 1):=rfl
theorem tree_nilp  : AV.tree (.nilp )=true:=by simp [AV.tree]
theorem fits_nilf  (sz:Nat) (ag:Bool):AV.fits (.nilf ) sz ag=(!ag&&sz == 1):=rfl
theorem tree_nilf  : AV.tree (.nilf )=true:=by simp [AV.tree]
theorem fits_nili  (sz:Nat) (ag:Bool):AV.fits (.nili ) sz ag=(!ag&&sz == 1):=rfl
theorem tree_nili  : AV.tree (.nili )=true:=by simp [AV.tree]
theorem fits_fn (f:Nat) (cs:List AV) (sz:Nat) (ag:Bool):AV.fits (.fn f cs) sz ag=(!ag&&sz == 1):=rfl
theorem tree_fn (f:Nat) (cs:List AV):AV.tree (.fn f cs)=treeL cs:=by simp [AV.tree]
theorem fits_rf (k e o l c:Nat) (sz:Nat) (ag:Bool):AV.fits (.rf k e o l c) sz ag=(!ag&&sz == 1):=rfl
theorem tree_rf (k e o l c:Nat):AV.tree (.rf k e o l c)=false:=by simp [AV.tree]
theorem fits_pt (k e o:Nat) (sz:Nat) (ag:Bool):AV.fits (.pt k e o) sz ag=(!ag&&sz == 1):=rfl
theorem tree_pt (k e o:Nat):AV.tree (.pt k e o)=false:=by simp [AV.tree]
theorem fits_ifc (v:AV) (sz:Nat) (ag:Bool):AV.fits (.ifc v) sz ag=(!ag&&sz == 1):=rfl
theorem tree_ifc (v:AV):AV.tree (.ifc v)=v.tree:=by simp [AV.tree]
theorem fits_agg (cs:List AV) (sz:Nat) (ag:Bool):AV.fits (.agg cs) sz ag=(ag&&cs.length == sz):=rfl
theorem tree_agg (cs:List AV):AV.tree (.agg cs)=treeL cs:=by simp [AV.tree]
theorem tree_tup (cs:List AV):AV.tree (.tup cs)=treeL cs:=by simp [AV.tree]
theorem one_bool (b:Bool):AV.one (.bool b)=true:=rfl
theorem one_int (k:IntKind) (n:Int):AV.one (.int k n)=true:=rfl
theorem one_str (b:List UInt8):AV.one (.str b)=true:=rfl
theorem one_sl (nl:Bool) (es:List AV) (cl:Bool):AV.one (.sl nl es cl)=true:=rfl
theorem one_fp (v:AV):AV.one (.fp v)=true:=rfl
theorem one_nilp  : AV.one (.nilp )=true:=rfl
theorem one_nilf  : AV.one (.nilf )=true:=rfl
theorem one_nili  : AV.one (.nili )=true:=rfl
theorem one_fn (f:Nat) (cs:List AV):AV.one (.fn f cs)=true:=rfl
theorem one_rf (k e o l c:Nat):AV.one (.rf k e o l c)=true:=rfl
theorem one_pt (k e o:Nat):AV.one (.pt k e o)=true:=rfl
theorem one_ifc (v:AV):AV.one (.ifc v)=true:=rfl
theorem flat_bool (b:Bool):AV.flat (.bool b)=true:=by simp [AV.flat]
theorem flat_int (k:IntKind) (n:Int):AV.flat (.int k n)=true:=by simp [AV.flat]
theorem flat_str (b:List UInt8):AV.flat (.str b)=true:=by simp [AV.flat]
attribute [go_sem] one_bool one_int one_str one_sl one_fp one_nilp one_nilf one_nili one_fn one_rf one_pt one_ifc flat_bool flat_int flat_str List.append_nil
theorem isNil_sl (nl:Bool) (es:List AV) (cl:Bool):AV.isNil 1 (.sl nl es cl)=some nl:=rfl
theorem isNil_rf (k e o l c:Nat):AV.isNil 1 (.rf k e o l c)=some false:=rfl
theorem isNil_nili:AV.isNil 4 .nili=some true:=rfl
theorem isNil_ifc (v:AV):AV.isNil 4 (.ifc v)=some false:=rfl
theorem isNil_nilp:AV.isNil 0 .nilp=some true:=rfl
theorem isNil_fp (v:AV):AV.isNil 0 (.fp v)=some false:=rfl
theorem isNil_pt (k e o:Nat):AV.isNil 0 (.pt k e o)=some false:=rfl
theorem isNil_nilf:AV.isNil 3 .nilf=some true:=rfl
theorem isNil_fn (f:Nat) (cs:List AV):AV.isNil 3 (.fn f cs)=some false:=rfl
attribute [go_sem ↓] XX_skip XX_exit XX_ret XX_reg XX_regT XX_cond XX_seq XX_block XR_nil XR_cons XR_guard XT_nil XT_cons XT_guard XC_true XC_false XG_tt XG_ff XG_tf XG_ft XG_no XV_some
 thenQ_nor thenQ_ext thenQ_ret blockQ_nor blockQ_ext blockQ_ret endQ_nor endQ_ret endH_nor endH_ret
attribute [go_sem] XC_true XC_false XG_tt XG_ff XG_tf XG_ft XG_no XV_some XO_callv XO_pick XO_pick_t XO_pick_f
 XO_mov XO_box XO_alloc XO_build XO_mkSl XO_load XO_store XO_nilc XO_bin XO_beq XO_eqn XO_eqs XO_un XO_cvi XO_cvs XO_s2b XO_b2s XO_fld XO_fad XO_iad XO_ixs XO_ixa XO_slc XO_sls XO_sla XO_mks XO_len XO_lenc XO_cap XO_cpy XO_mn XO_mx XO_ext XO_mki XO_mkf
theorem cells_bool (b:Bool):AV.cells (.bool b)=[.bool b]:=rfl
theorem isAgg_bool (b:Bool):AV.isAgg (.bool b)=false:=rfl
theorem cells_int (k:IntKind) (n:Int):AV.cells (.int k n)=[.int k n]:=rfl
theorem isAgg_int (k:IntKind) (n:Int):AV.isAgg (.int k n)=false:=rfl
theorem cells_str (b:List UInt8):AV.cells (.str b)=[.str b]:=rfl
theorem isAgg_str (b:List UInt8):AV.isAgg (.str b)=false:=rfl
theorem cells_sl (nl:Bool) (es:List AV) (cl:Bool):AV.cells (.sl nl es cl)=[.sl nl es cl]:=rfl
theorem isAgg_sl (nl:Bool) (es:List AV) (cl:Bool):AV.isAgg (.sl nl es cl)=false:=rfl
theorem cells_fp (v:AV):AV.cells (.fp v)=[.fp v]:=rfl
theorem isAgg_fp (v:AV):AV.isAgg (.fp v)=false:=rfl
theorem cells_nilp  : AV.cells (.nilp )=[.nilp ]:=rfl
theorem isAgg_nilp  : AV.isAgg (.nilp )=false:=rfl
theorem cells_nilf  : AV.cells (.nilf )=[.nilf ]:=rfl
theorem isAgg_nilf  : AV.isAgg (.nilf )=false:=rfl
theorem cells_nili  : AV.cells (.nili )=[.nili ]:=rfl
theorem isAgg_nili  : AV.isAgg (.nili )=false:=rfl
theorem cells_fn (f:Nat) (cs:List AV):AV.cells (.fn f cs)=[.fn f cs]:=rfl
theorem isAgg_fn (f:Nat) (cs:List AV):AV.isAgg (.fn f cs)=false:=rfl
theorem cells_rf (k e o l c:Nat):AV.cells (.rf k e o l c)=[.rf k e o l c]:=rfl
theorem isAgg_rf (k e o l c:Nat):AV.isAgg (.rf k e o l c)=false:=rfl
theorem cells_pt (k e o:Nat):AV.cells (.pt k e o)=[.pt k e o]:=rfl
theorem isAgg_pt (k e o:Nat):AV.isAgg (.pt k e o)=false:=rfl
theorem cells_ifc (v:AV):AV.cells (.ifc v)=[.ifc v]:=rfl
theorem isAgg_ifc (v:AV):AV.isAgg (.ifc v)=false:=rfl
attribute [go_sem] cells_bool isAgg_bool cells_int isAgg_int cells_str isAgg_str cells_sl isAgg_sl cells_fp isAgg_fp cells_nilp isAgg_nilp cells_nilf isAgg_nilf cells_nili isAgg_nili cells_fn isAgg_fn cells_rf isAgg_rf cells_pt isAgg_pt cells_ifc isAgg_ifc List.all_cons List.all_nil
attribute [go_sem] getT_zero getT_succ setD_none setD_zero setD_succ get_put app_nil app_one app_two app_whole av_val_eq newA_eq get_nil next_nil next_put
 isAgg_agg cells_agg partA_agg partA_one exSome exists_eq_left' bind_some' map_some' X.ev St_env St_hp CF_body CF_res CF_nt
 f_mov f_box f_alloc f_build f_mkSl f_load f_store f_nilc f_bin f_beq f_eqn f_eqs f_un f_cvi f_cvs f_s2b f_b2s f_fld f_fad f_iad f_ixs f_ixa f_slc f_sls f_sla f_mks f_len f_lenc f_cap f_app f_cpy f_mn f_mx f_ext f_mki f_mkf
 binF bin binI binS fillA writeA isNil_sl isNil_rf isNil_nili isNil_ifc isNil_nilp isNil_fp isNil_pt isNil_nilf isNil_fn fits_agg fits_bool fits_int fits_str fits_sl fits_fp fits_nilp fits_fn fits_rf fits_pt fits_nilf fits_nili fits_ifc  allOne tree_bool tree_int tree_str tree_agg tree_tup tree_sl tree_fp tree_nilp tree_nili tree_nilf tree_fn tree_ifc tree_rf tree_pt eqC enter result resAll resOf
 List.map_cons List.map_nil List.length_cons List.length_nil List.replicate_succ List.replicate_zero List.cons_append List.nil_append List.getElem?_cons_zero List.getElem?_cons_succ List.drop_zero List.drop_succ_cons List.take_succ_cons List.take_zero
 Option.getD_some
end Go.Tev
end
