import Derived.Test.YtplehelpidcobaaGreatDoorPAG
import Derived.KernelRfl
set_option linter.all false
section
namespace Go.Tev
structure EF where
 nt:Nat
 dt:Bool
 l:List (Nat × AV)
def wP (nt:Nat) (dt:Bool) (t:Nat):List (Nat × AV)->AV
 | []=>bif dt then (bif t.blt nt then .tup [] else .top) else .top
 | p :: r=>bif p.1.beq t then p.2 else wP nt dt t r
def EF.get (e:EF) (t:Nat):AV:=wP e.nt e.dt t e.l
def EF.set (e:EF):Option Nat->AV->EF
 | none,_=>e
 | some d,v=>bif d.blt e.nt then ⟨e.nt,e.dt,(d,v) :: e.l⟩ else e
def tL (e:EF):Nat->List Bool->Option (List (Nat × AV))
 | i,[]=>bif e.nt.ble i then some [] else none
 | i,true :: m=>(tL e (i+1) m).map ((i,e.get i) :: ·)
 | i,false :: m=>tL e (i+1) m
def EF.clear (e:EF) (m:List Bool):Option EF:=(tL e 0 m).map fun l=>⟨e.nt,false,l⟩
def BS:Nat->List AV->List (Nat × AV)
 | _,[]=>[]
 | i,v :: r=>(i,v) :: BS (i+1) r
def CU (cf:CF) (args:List AV):EF:=⟨args.length+(cf.nt - args.length),true,BS 0 args⟩
def sW (e:EF) (env:List AV):Prop:=env.length=e.nt/\∀ t,iB env t=e.get t
theorem sW.set {e:EF} {env:List AV} (h:sW e env) (d:Option Nat) (v:AV):sW (e.set d v) (d8 env d v):=by
 cases d with
 | none=>exact h
 | some d=>
  refine ⟨?_,?_⟩
  ·rw [qJ,h.1]
   simp only [EF.set,cond_eq_ite]
   split<;>rfl
  ·intro t
   rw [u0]
   simp only [EF.set,cond_eq_ite,Nat.blt_eq]
   by_cases hd:d < e.nt
   ·rw [if_pos hd]
    simp only [EF.get,wP,cond_eq_ite,Nat.beq_eq]
    by_cases ht:d=t
    ·subst ht
     rw [if_pos ⟨rfl,by rw [h.1];exact hd⟩,if_pos rfl]
    ·rw [if_neg (by rintro ⟨q,_⟩;exact ht (by simpa using q)),if_neg ht]
     exact h.2 t
   ·rw [if_neg hd,if_neg (by rintro ⟨q,q2⟩;simp at q;subst q;rw [h.1] at q2;exact hd q2)]
    exact h.2 t
theorem uU {e:EF} {nt:Nat}:∀ {m:List Bool} {i:Nat} {l:List (Nat × AV)},tL e i m=some l ->
  e.nt<=i+m.length/\∀ t,wP nt false t l=if i<=t/\m[t - i]?=some true then e.get t else .top
 | [],i,l,h=>by
  simp only [tL,cond_eq_ite] at h
  split at h
  ·rename_i q
   cases h
   refine ⟨by simpa using q,fun t=>?_⟩
   simp [wP]
  ·cases h
 | true :: m,i,l,h=>by
  simp only [tL] at h
  cases hk:tL e (i+1) m with
  | none=>simp [hk] at h
  | some l'=>
   simp [hk] at h
   subst h
   obtain ⟨h1,h2⟩:=uU (nt:=nt) hk
   refine ⟨by simp;omega,fun t=>?_⟩
   simp only [wP,cond_eq_ite,Nat.beq_eq]
   by_cases ht:i=t
   ·subst ht;simp
   ·rw [if_neg ht,h2]
    by_cases hle:i+1<=t
    ·have:t - i=(t - (i+1))+1:=by omega
     simp [hle,this,show i<=t by omega]
    ·rw [if_neg (by omega),if_neg (by omega)]
 | false :: m,i,l,h=>by
  simp only [tL] at h
  obtain ⟨h1,h2⟩:=uU (nt:=nt) h
  refine ⟨by simp;omega,fun t=>?_⟩
  rw [h2]
  by_cases hle:i+1<=t
  ·have:t - i=(t - (i+1))+1:=by omega
   simp [hle,this,show i<=t by omega]
  ·by_cases ht:i=t
   ·subst ht
    simp
    intro q
    omega
   ·rw [if_neg (by omega),if_neg (by omega)]
theorem sQ:∀ (m:List Bool) (env:List AV) (t:Nat),env.length<=m.length->iB (clear m env) t=if m[t]?=some true then iB env t else .top
 | [],env,t,h=>by
  have:env=[]:=List.eq_nil_of_length_eq_zero (by simpa using h)
  subst this
  simp [clear,iB]
 | b :: m,[],t,h=>by
  cases b<;>simp [clear,iB]
 | true :: m,v :: r,0,h=>by simp [clear,iB]
 | false :: m,v :: r,0,h=>by simp [clear,iB]
 | true :: m,v :: r,t+1,h=>by
  have:=sQ m r t (by simpa using h)
  simpa [clear,iB] using this
 | false :: m,v :: r,t+1,h=>by
  have:=sQ m r t (by simpa using h)
  simpa [clear,iB] using this
theorem sW.clear {e e':EF} {env:List AV} (h:sW e env) {m:List Bool} (hc:e.clear m=some e'):sW e' (Tev.clear m env):=by
 unfold EF.clear at hc
 cases hk:tL e 0 m with
 | none=>simp [hk] at hc
 | some l=>
  simp [hk] at hc
  subst hc
  obtain ⟨h1,h2⟩:=uU (nt:=e.nt) hk
  refine ⟨by rw [o7];exact h.1,fun t=>?_⟩
  rw [sQ m env t (by rw [h.1];omega)]
  simp only [EF.get]
  rw [h2,h.2 t]
  simp
theorem vF {nt:Nat} {dt:Bool}:∀ {args:List AV} {i t:Nat},wP nt dt t (BS i args)=if h:i<=t/\t - i < args.length then args[t - i]'h.2 else wP nt dt t []
 | [],i,t=>by simp [BS]
 | v :: r,i,t=>by
  simp only [BS,wP,cond_eq_ite,Nat.beq_eq]
  by_cases ht:i=t
  ·subst ht;simp
  ·rw [if_neg ht,vF]
   by_cases hle:i+1<=t
   ·have e1:t - i=(t - (i+1))+1:=by omega
    by_cases hl:t - (i+1) < r.length
    ·rw [dif_pos ⟨hle,hl⟩,dif_pos ⟨by omega,by simp;omega⟩]
     simp [e1]
    ·rw [dif_neg (by omega),dif_neg (by simp;omega)]
     simp [wP,cond_eq_ite]
   ·rw [dif_neg (by omega),dif_neg (by omega)]
    simp [wP,cond_eq_ite]
theorem sW.enter (cf:CF) (args:List AV):sW (CU cf args) (Tev.enter cf args):=by
 refine ⟨by simp [Tev.enter,CU],fun t=>?_⟩
 simp only [EF.get,CU,vF,Tev.enter,iB]
 by_cases h:t < args.length
 ·rw [dif_pos ⟨Nat.zero_le _,by simpa using h⟩]
  simp [List.getElem?_append_left h,h]
 ·rw [dif_neg (by simpa using h),List.getElem?_append_right (by omega)]
  simp only [wP,cond_true,cond_eq_ite,Nat.blt_eq,List.getElem?_replicate]
  by_cases h2:t < args.length+(cf.nt - args.length)
  ·rw [if_pos (by omega),if_pos h2];rfl
  ·rw [if_neg (by omega),if_neg h2];rfl
def X.evE (gl:Nat->Option AV) (e:EF):X->AV
 | .t n=>e.get n
 | .c v=>v
 | .g n=>match gl n with | some v => .fp v | none => .top
 | .f n => .fn n []
structure StE where
 env:EF
 hp:Hp
def BV (e:EF):Option (Nat × Bool)->Option Bool
 | none=>some true
 | some (t,b)=>
  match e.get t with
  | .bool c=>some (c == b)
  | .tup []=>some false
  | _=>none
def HM (gl:Nat->Option AV) (call:bE) (kb:Nat) (r:R) (st:StE):Option (StE × Eff):=
 match BV st.env r.gd with
 | none=>none
 | some false=>some (⟨st.env.set r.d (.tup []),st.hp⟩,.pat [] [])
 | some true=>
  match opR call kb r st.hp (r.xs.map (X.evE gl st.env)) with
  | some (v,eff)=>some (⟨st.env.set r.d v,eff.app st.hp⟩,eff)
  | none=>none
def AO (gl:Nat->Option AV) (call:bE) (kb:Nat):List R->StE->Option StE
 | [],st=>some st
 | r :: rs,st=>
  match HM gl call kb r st with
  | some (st',_)=>AO gl call kb rs st'
  | none=>none
def uN (gl:Nat->Option AV) (call:bE) (kb:Nat):List R->StE->Option (StE × List Eff)
 | [],st=>some (st,[])
 | r :: rs,st=>
  match HM gl call kb r st with
  | some (st',e)=>(uN gl call kb rs st').map fun (s,l)=>(s,e :: l)
  | none=>none
def D7 (f:StE->Option (Ex × StE)) (clr:List Bool):Nat->StE->Option (Ex × StE)
 | 0,_=>none
 | n+1,st=>
  match st.env.clear clr with
  | none=>none
  | some e=>
   match f ⟨e,st.hp⟩ with
   | some (.nor,st')=>D7 f clr n st'
   | r=>r
def EF.list (e:EF):List AV:=(List.range e.nt).map e.get
def EF.of (env:List AV):EF:=⟨env.length,false,BS 0 env⟩
theorem sW.list {e:EF} {env:List AV} (h:sW e env):e.list=env:=by
 apply List.ext_getElem
 ·simp [EF.list,h.1]
 ·intro i h1 h2
  have:=h.2 i
  simp only [iB,List.getElem?_eq_getElem h2,Option.getD_some] at this
  simp [EF.list,this]
theorem sW.of (env:List AV):sW (EF.of env) env:=by
 refine ⟨rfl,fun t=>?_⟩
 simp only [EF.get,EF.of,vF,iB]
 by_cases h:t < env.length
 ·rw [dif_pos ⟨Nat.zero_le _,by simpa using h⟩]
  simp [h]
 ·rw [dif_neg (by simpa using h),List.getElem?_eq_none (by omega)]
  rfl
def ND (env:EF) (k e:Nat) (h:Hp):Option (Ex × StE):=
 match IE [] k e h with
 | some (x,st)=>some (x,⟨env,st.hp⟩)
 | none=>none
def jV (gl:Nat->Option AV) (call:bE) (kb n:Nat):C->StE->Option (Ex × StE)
 | .skip,st=>some (.nor,st)
 | .reg rs false,st=>(AO gl call kb rs st).map fun s=>(.nor,s)
 | .reg rs true,st=>
  match uN gl call kb rs st with
  | some (s,es)=>if gD 0 rs es then some (.nor,s) else none
  | none=>none
 | .seq a b,st=>
  match jV gl call kb n a st with
  | some (.nor,st')=>jV gl call kb n b st'
  | r=>r
 | .cond c a b,st=>
  match c.evE gl st.env with
  | .bool true=>jV gl call kb n a st
  | .bool false=>jV gl call kb n b st
  | _=>none
 | .block id b,st=>
  match jV gl call kb n b st with
  | some (.ext i,st')=>bif i.beq id then some (.nor,st') else some (.ext i,st')
  | r=>r
 | .loop b clr,st=>D7 (jV gl call kb n b) clr n st
 | .exit id,st=>some (.ext id,st)
 | .ret,st=>some (.ret,st)
 | .rf x s ps a b,st=>
  match x.evE gl st.env with
  | .fn f cs=>
   match call f (.yl (kb+s) (st.hp.next (kb+s)) :: cs) ((kb+s+1)*65536) (st.hp.put (kb+s) (st.hp.next (kb+s)) (.lp 0 kb st.env.list ps a b)) with
   | some (_,h')=>ND st.env (kb+s) (st.hp.next (kb+s)) h'
   | none=>none
  | _=>none
 | .bad,_=>none
def CE (st:StE):Sum Nat (Nat × Nat × Bool)->Option AV
 | .inl t=>some (st.env.get t)
 | .inr (t,sz,ag)=>
  match st.env.get t with
  | .pt k e off=>match st.hp.get k with
   | some (e',.blk cs _ _ _ _)=>if e'=e then fD cs off sz ag else none
   | _=>none
  | _=>none
def wU (st:StE):List (Sum Nat (Nat × Nat × Bool))->Option (List AV)
 | []=>some []
 | x :: r=>
  match CE st x,wU st r with
  | some v,some l=>some (v :: l)
  | _,_=>none
def CD (st:StE) (rs:List (Sum Nat (Nat × Nat × Bool))):Option AV:=
 match wU st rs with
 | some [v]=>some v
 | some l=>some (.tup l)
 | none=>none
def CJ (memo:Nat->List AV->Option AV) (f:Nat) (args:List AV):Nat->Hp->Option AV
 | 0,[]=>memo f args
 | _,_=>none
def K7 (ex:C->Nat->StE->Option (Ex × StE)) (c:C) (b:Nat) (st:St):Option (Ex × St):=
 match ex c b ⟨EF.of st.env,st.hp⟩ with
 | some (x,s)=>some (x,⟨s.env.list,s.hp⟩)
 | none=>none
def oK (pg:Pg) (memo:Nat->List AV->Option AV):Nat->bE
 | 0=>⟨fun _ _ _ _=>none,fun _ _ _ _=>none⟩
 | n+1=>⟨fun f args kb h=>
  match CJ memo f args kb h with
  | some r=>some (r,[])
  | none=>
   match pg.fs f with
   | none=>
    match pg.ex f with
    | some g=>g args kb h
    | none=>none
   | some cf=>
    match jV pg.gl (oK pg memo n) kb n cf.body ⟨CU cf args,h⟩ with
    | some (.ext _,_)=>none
    | some (_,st)=>(CD st cf.res).map fun v=>(v,st.hp)
    | none=>none,
  uK (K7 fun c b st=>jV pg.gl (oK pg memo n) b n c st)⟩
structure StR (s:StE) (t:St):Prop where
 env:sW s.env t.env
 hp:s.hp=t.hp
end Go.Tev
end
section
namespace Go.Tev
structure kG (c c':bE):Prop where
 fn:∀ f a kb h r,c f a kb h=some r->c' f a kb h=some r
 yl:∀ k e a h r,c.yl k e a h=some r->c'.yl k e a h=some r
theorem kG.refl (c:bE):kG c c:=⟨fun _ _ _ _ _ h=>h,fun _ _ _ _ _ h=>h⟩
theorem qA {ex ex':C->Nat->St->Option (Ex × St)} (hx:∀ c b st r,ex c b st=some r->ex' c b st=some r) {k e:Nat} {a:List AV} {h:Hp} {r:AV × Hp} (h1:uK ex k e a h=some r):uK ex' k e a h=some r:=by
 unfold uK at h1 ⊢
 split at h1
 case h_2=>cases h1
 split at h1
 case isFalse=>cases h1
 rename_i hc
 rw [if_pos hc]
 split at h1
 case h_2=>cases h1
 rename_i he1
 rw [hx _ _ _ _ he1]
 simp only
 split at h1
 case h_2=>cases h1
 split at h1
 case isFalse=>cases h1
 rename_i hc2
 rw [if_pos hc2]
 split at h1
 case h_2=>cases h1
 rename_i he2
 rw [hx _ _ _ _ he2]
 exact h1
theorem pF {c c':bE} (hc:kG c c') {f:Nat} {ts:List AV} {r:AV} (h:iQ c f ts=some r):iQ c' f ts=some r:=by
 unfold iQ at h ⊢
 cases hq:c f ts 0 [] with
 | none=>simp [hq] at h
 | some p=>rw [hq] at h;rw [hc.fn _ _ _ _ _ hq];exact h
theorem zJ {c c':bE} (hc:kG c c') {kb s:Nat} {h:Hp} {f:Nat} {th im:Bool} {vs:List AV} {r:AV × Eff} (h1:lR c kb s h f th im vs=some r):lR c' kb s h f th im vs=some r:=by
 unfold lR at h1 ⊢
 cases hm:(if im then none else cD (snap depth h) vs) with
 | some p=>
  rw [hm] at h1
  simp only at h1 ⊢
  cases hp:iQ c f p.1 with
  | none=>simp [hp] at h1
  | some q=>
   rw [hp] at h1
   rw [pF hc hp]
   exact h1
 | none=>
  rw [hm] at h1
  simp only at h1 ⊢
  cases hp:c f vs (iT kb s vs) h with
  | none=>simp [hp] at h1
  | some q=>
   rw [hp] at h1
   rw [hc.fn _ _ _ _ _ hp]
   exact h1
theorem AA {c c':bE} (hc:kG c c') {h:Hp} {f:Nat} {vs:List AV}:∀ {n b:Nat} {x:AV × List Nat × List Ent},nJ c h f vs n b=some x->nJ c' h f vs n b=some x
 | 0,_,_,h1=>by simp [nJ] at h1
 | n+1,b,x,h1=>by
  unfold nJ at h1 ⊢
  cases hp:c f vs b [] with
  | none=>simp [hp] at h1
  | some q=>
   rw [hp] at h1
   rw [hc.fn _ _ _ _ _ hp]
   simp only at h1 ⊢
   split
   ·rename_i hh
    rw [if_pos hh] at h1
    exact h1
   ·rename_i hh
    rw [if_neg hh] at h1
    cases ht:nJ c h f vs n (b+4096) with
    | none=>simp [ht] at h1
    | some y=>rw [ht] at h1;rw [AA hc ht];exact h1
theorem E6 {c c':bE} (hc:kG c c') {kb s:Nat} {h:Hp} {f:Nat} {vs:List AV} {r:AV × Eff} (h1:lL c kb s h f vs=some r):lL c' kb s h f vs=some r:=by
 unfold lL at h1 ⊢
 split
 ·rename_i ht
  rw [if_pos ht] at h1
  cases hq:nJ c h f vs 7 ((kb+s+1)*65536) with
  | none=>simp [hq] at h1
  | some y=>rw [hq] at h1;rw [AA hc hq];exact h1
 ·rename_i ht
  rw [if_neg ht] at h1
  cases h1
theorem E5 {c c':bE} (hc:kG c c') {kb s:Nat} {h:Hp} {f:Nat} {vs:List AV} {r:AV × Eff} (h1:mU c kb s h f vs=some r):mU c' kb s h f vs=some r:=by
 unfold mU at h1 ⊢
 cases hq:c f vs (iT kb s vs) h with
 | none=>simp [hq] at h1
 | some y=>rw [hq] at h1;rw [hc.fn _ _ _ _ _ hq];exact h1
theorem D2 {c c':bE} (hc:kG c c') {kb:Nat} {r:R} {h:Hp} {vs:List AV} {x:AV × Eff} (h1:opR c kb r h vs=some x):opR c' kb r h vs=some x:=by
 unfold opR at h1 ⊢
 split at h1
 ·exact zJ hc h1
 ·exact E6 hc h1
 ·exact E5 hc h1
 ·split at h1
  ·exact zJ hc h1
  ·split at h1
   ·rename_i hy
    rw [hc.yl _ _ _ _ _ hy]
    exact h1
   ·cases h1
  ·cases h1
 ·exact h1
structure z7 (c c':bE):Prop where
 off:∀ f a kb h r,kb ≠ 0->c f a kb h=some r->c' f a kb h=some r
 at0:∀ f a r,iQ c f a=some r->iQ c' f a=some r
 yl:∀ k e a h r,c.yl k e a h=some r->c'.yl k e a h=some r
theorem BR (kb s:Nat) (vs:List AV):iT kb s vs ≠ 0:=by
 unfold iT
 split<;>omega
theorem wI {c c':bE} (hc:z7 c c') {kb s:Nat} {h:Hp} {f:Nat} {th im:Bool} {vs:List AV} {r:AV × Eff} (h1:lR c kb s h f th im vs=some r):lR c' kb s h f th im vs=some r:=by
 unfold lR at h1 ⊢
 cases hm:(if im then none else cD (snap depth h) vs) with
 | some p=>
  rw [hm] at h1
  simp only at h1 ⊢
  cases hp:iQ c f p.1 with
  | none=>simp [hp] at h1
  | some q=>
   rw [hp] at h1
   rw [hc.at0 _ _ _ hp]
   exact h1
 | none=>
  rw [hm] at h1
  simp only at h1 ⊢
  cases hp:c f vs (iT kb s vs) h with
  | none=>simp [hp] at h1
  | some q=>
   rw [hp] at h1
   rw [hc.off _ _ _ _ _ (BR kb s vs) hp]
   exact h1
theorem xC {c c':bE} (hc:z7 c c') {h:Hp} {f:Nat} {vs:List AV}:∀ {n b:Nat} {x:AV × List Nat × List Ent},b ≠ 0->nJ c h f vs n b=some x->nJ c' h f vs n b=some x
 | 0,_,_,_,h1=>by simp [nJ] at h1
 | n+1,b,x,hb,h1=>by
  unfold nJ at h1 ⊢
  cases hp:c f vs b [] with
  | none=>simp [hp] at h1
  | some q=>
   rw [hp] at h1
   rw [hc.off _ _ _ _ _ hb hp]
   simp only at h1 ⊢
   split
   ·rename_i hh
    rw [if_pos hh] at h1
    exact h1
   ·rename_i hh
    rw [if_neg hh] at h1
    cases ht:nJ c h f vs n (b+4096) with
    | none=>simp [ht] at h1
    | some y=>rw [ht] at h1;rw [xC hc (by omega) ht];exact h1
theorem CY {c c':bE} (hc:z7 c c') {kb s:Nat} {h:Hp} {f:Nat} {vs:List AV} {r:AV × Eff} (h1:lL c kb s h f vs=some r):lL c' kb s h f vs=some r:=by
 unfold lL at h1 ⊢
 split
 ·rename_i ht
  rw [if_pos ht] at h1
  cases hq:nJ c h f vs 7 ((kb+s+1)*65536) with
  | none=>simp [hq] at h1
  | some y=>rw [hq] at h1;rw [xC hc (by omega) hq];exact h1
 ·rename_i ht
  rw [if_neg ht] at h1
  cases h1
theorem CW {c c':bE} (hc:z7 c c') {kb s:Nat} {h:Hp} {f:Nat} {vs:List AV} {r:AV × Eff} (h1:mU c kb s h f vs=some r):mU c' kb s h f vs=some r:=by
 unfold mU at h1 ⊢
 cases hq:c f vs (iT kb s vs) h with
 | none=>simp [hq] at h1
 | some y=>rw [hq] at h1;rw [hc.off _ _ _ _ _ (BR kb s vs) hq];exact h1
theorem JE {c c':bE} (hc:z7 c c') {kb:Nat} {r:R} {h:Hp} {vs:List AV} {x:AV × Eff} (h1:opR c kb r h vs=some x):opR c' kb r h vs=some x:=by
 unfold opR at h1 ⊢
 split at h1
 ·exact wI hc h1
 ·exact CY hc h1
 ·exact CW hc h1
 ·split at h1
  ·exact wI hc h1
  ·split at h1
   ·rename_i hy
    rw [hc.yl _ _ _ _ _ hy]
    exact h1
   ·cases h1
  ·cases h1
 ·exact h1
theorem xO {gl:Nat->Option AV} {c c':bE} (hc:kG c c') {kb:Nat} {r:R} {st:St} {x:St × Eff} (h1:jO gl c kb r st=some x):jO gl c' kb r st=some x:=by
 unfold jO at h1 ⊢
 generalize wanted st.env r.gd=wg at h1 ⊢
 rcases wg with _ | _ | _
 ·exact h1
 ·exact h1
 ·simp only at h1 ⊢
  cases ho:opR c kb r st.hp (r.xs.map (X.ev gl st.env)) with
  | none=>simp [ho] at h1
  | some p=>rw [ho] at h1;rw [D2 hc ho];exact h1
theorem uM {gl:Nat->Option AV} {c c':bE} (hc:kG c c') {kb:Nat}:∀ {rs:List R} {st st':St},oT gl c kb rs st=some st'->oT gl c' kb rs st=some st'
 | [],_,_,h=>h
 | r :: rs,st,st',h=>by
  unfold oT at h ⊢
  cases hs:jO gl c kb r st with
  | none=>simp [hs] at h
  | some p=>
   rw [hs] at h
   rw [xO hc hs]
   exact uM hc h
theorem sB {gl:Nat->Option AV} {c c':bE} (hc:kG c c') {kb:Nat}:∀ {rs:List R} {st:St} {x:St × List Eff},iX gl c kb rs st=some x->iX gl c' kb rs st=some x
 | [],_,_,h=>h
 | r :: rs,st,x,h=>by
  unfold iX at h ⊢
  cases hs:jO gl c kb r st with
  | none=>simp [hs] at h
  | some p=>
   rw [hs] at h
   rw [xO hc hs]
   simp only at h ⊢
   cases hr:iX gl c kb rs p.1 with
   | none=>simp [hr] at h
   | some q=>rw [hr] at h;rw [sB hc hr];exact h
theorem sL {f f':St->Option (Ex × St)} (hf:∀ st x,f st=some x->f' st=some x) {clr:List Bool}:∀ {n n':Nat} {st:St} {x:Ex × St},n<=n'->j5 f clr n st=some x->j5 f' clr n' st=some x
 | 0,_,_,_,_,h=>by simp [j5] at h
 | n+1,0,_,_,hn,_=>by omega
 | n+1,n'+1,st,x,hn,h=>by
  simp only [j5] at h ⊢
  cases hs:f ⟨clear clr st.env,st.hp⟩ with
  | none=>simp [hs] at h
  | some p=>
   rw [hs] at h
   rw [hf _ _ hs]
   obtain ⟨e,s⟩:=p
   cases e with
   | nor=>exact sL hf (by omega) h
   | ext id=>exact h
   | ret=>exact h
theorem oG {gl:Nat->Option AV} {c c':bE} (hc:kG c c') {kb n n':Nat} (hn:n<=n'):∀ {k:C} {st:St} {x:Ex × St},cJ gl c kb n k st=some x->cJ gl c' kb n' k st=some x:=by
 intro k
 induction k with
 | skip=>intro st x h;exact h
 | reg rs d=>
  intro st x h
  cases d with
  | false=>
   simp only [cJ] at h ⊢
   cases hr:oT gl c kb rs st with
   | none=>simp [hr] at h
   | some s=>rw [hr] at h;rw [uM hc hr];exact h
  | true=>
   simp only [cJ] at h ⊢
   cases hr:iX gl c kb rs st with
   | none=>simp [hr] at h
   | some s=>rw [hr] at h;rw [sB hc hr];exact h
 | seq a b iha ihb=>
  intro st x h
  simp only [cJ] at h ⊢
  cases ha:cJ gl c kb n a st with
  | none=>simp [ha] at h
  | some p=>
   rw [ha] at h
   rw [iha ha]
   obtain ⟨e,s⟩:=p
   cases e with
   | nor=>exact ihb h
   | ext id=>exact h
   | ret=>exact h
 | cond x a b iha ihb=>
  intro st y h
  simp only [cJ] at h ⊢
  split at h
  ·exact iha h
  ·exact ihb h
  ·cases h
 | block id b ih=>
  intro st x h
  simp only [cJ] at h ⊢
  cases hb:cJ gl c kb n b st with
  | none=>simp [hb] at h
  | some p=>rw [hb] at h;rw [ih hb];exact h
 | loop b m ih=>
  intro st x h
  simp only [cJ] at h ⊢
  exact sL (fun st x q=>ih q) hn h
 | exit id=>intro st x h;exact h
 | ret=>intro st x h;exact h
 | rf x s ps a b=>
  intro st y h
  simp only [cJ] at h ⊢
  split at h
  case h_2=>cases h
  rename_i f cs hf
  split at h
  case h_2=>cases h
  rename_i rr h' hcall
  rw [hc.fn _ _ _ _ _ hcall]
  exact h
 | bad=>intro st x h;simp [cJ] at h
theorem iD (pg:Pg):∀ {n n':Nat},n<=n'->kG (bU pg n) (bU pg n')
 | 0,_,_=>⟨by intro f a kb h r hq;simp [bU] at hq,by intro k e a h r hq;simp [bU] at hq⟩
 | n+1,0,h=>by omega
 | n+1,n'+1,hn=>by
  refine ⟨?_,fun k e a h r hq=>by
   simp only [bU] at hq ⊢
   exact qA (fun c b st r hr=>oG (iD pg (Nat.le_of_succ_le_succ hn)) (Nat.le_of_succ_le_succ hn) hr) hq⟩
  intro f a kb h r hq
  simp only [bU] at hq ⊢
  cases hf:pg.fs f with
  | none=>rw [hf] at hq;exact hq
  | some cf=>
   rw [hf] at hq
   simp only at hq ⊢
   cases he:cJ pg.gl (bU pg n) kb n cf.body ⟨enter cf a,h⟩ with
   | none=>simp [he] at hq
   | some p=>
    rw [he] at hq
    rw [oG (iD pg (Nat.le_of_succ_le_succ hn)) (Nat.le_of_succ_le_succ hn) he]
    exact hq
theorem GU {gl:Nat->Option AV} {s:StE} {t:St} (h:StR s t) (x:X):x.evE gl s.env=x.ev gl t.env:=by
 cases x with
 | t n=>simp only [X.evE,X.ev];exact (h.env.2 n).symm
 | _=>rfl
theorem AD {gl:Nat->Option AV} {c c':bE} (hc:z7 c c') {kb:Nat} {r:R} {s s':StE} {t:St} {e:Eff} (hst:StR s t) (h:HM gl c kb r s=some (s',e)) :
  ∃ t',jO gl c' kb r t=some (t',e)/\StR s' t':=by
 have hw:BV s.env r.gd=wanted t.env r.gd:=by
  unfold BV wanted
  cases r.gd with
  | none=>rfl
  | some p=>
   simp only [hst.env.2]
   rfl
 have hx:r.xs.map (X.evE gl s.env)=r.xs.map (X.ev gl t.env):=List.map_congr_left (fun x _=>GU hst x)
 unfold HM at h
 unfold jO
 rw [hw,hx] at h
 generalize wanted t.env r.gd=wg at h ⊢
 rcases wg with _ | _ | _
 ·cases h
 ·simp only at h ⊢
  cases h
  exact ⟨_,rfl,⟨hst.env.set _ _,hst.hp⟩⟩
 ·simp only at h ⊢
  rw [hst.hp] at h
  cases ho:opR c kb r t.hp (r.xs.map (X.ev gl t.env)) with
  | none=>simp [ho] at h
  | some p=>
   rw [ho] at h
   rw [JE hc ho]
   simp only at h ⊢
   cases h
   exact ⟨_,rfl,⟨hst.env.set _ _,rfl⟩⟩
theorem AN {gl:Nat->Option AV} {c c':bE} (hc:z7 c c') {kb:Nat}:∀ {rs:List R} {s s':StE} {t:St},StR s t->AO gl c kb rs s=some s'->∃ t',oT gl c' kb rs t=some t'/\StR s' t'
 | [],s,s',t,hst,h=>by
  simp [AO] at h
  subst h
  exact ⟨t,rfl,hst⟩
 | r :: rs,s,s',t,hst,h=>by
  unfold AO at h
  unfold oT
  split at h
  case h_2=>cases h
  rename_i s1 e hs
  obtain ⟨t1,q1,q2⟩:=AD hc hst hs
  rw [q1]
  exact AN hc q2 h
theorem x9 {gl:Nat->Option AV} {c c':bE} (hc:z7 c c') {kb:Nat}:∀ {rs:List R} {s s':StE} {t:St} {es:List Eff},StR s t->uN gl c kb rs s=some (s',es)->∃ t',iX gl c' kb rs t=some (t',es)/\StR s' t'
 | [],s,s',t,es,hst,h=>by
  simp [uN] at h
  obtain ⟨rfl,rfl⟩:=h
  exact ⟨t,rfl,hst⟩
 | r :: rs,s,s',t,es,hst,h=>by
  unfold uN at h
  unfold iX
  split at h
  case h_2=>cases h
  rename_i s1 e hs
  obtain ⟨t1,q1,q2⟩:=AD hc hst hs
  cases hr:uN gl c kb rs s1 with
  | none=>simp [hr] at h
  | some p=>
   obtain ⟨s2,es2⟩:=p
   simp [hr] at h
   obtain ⟨rfl,rfl⟩:=h
   obtain ⟨t2,q3,q4⟩:=x9 hc q2 hr
   exact ⟨t2,by rw [q1];simp only;rw [q3];rfl,q4⟩
theorem A1 {f:StE->Option (Ex × StE)} {f':St->Option (Ex × St)} (hf:∀ s t x s',StR s t->f s=some (x,s')->∃ t',f' t=some (x,t')/\StR s' t') {clr:List Bool} :
  ∀ {n n':Nat} {s s':StE} {t:St} {x:Ex},n<=n'->StR s t->D7 f clr n s=some (x,s')->∃ t',j5 f' clr n' t=some (x,t')/\StR s' t'
 | 0,_,_,_,_,_,_,_,h=>by simp [D7] at h
 | n+1,0,_,_,_,_,hn,_,_=>by omega
 | n+1,n'+1,s,s',t,x,hn,hst,h=>by
  simp only [D7] at h
  simp only [j5]
  split at h
  case h_1=>cases h
  rename_i e he
  have hst':StR ⟨e,s.hp⟩ ⟨clear clr t.env,t.hp⟩:=⟨hst.env.clear he,hst.hp⟩
  split at h
  ·rename_i s1 h1
   obtain ⟨t1,q1,q2⟩:=hf _ _ _ _ hst' h1
   rw [q1]
   exact A1 hf (by omega) q2 h
  ·rename_i hne
   obtain ⟨t1,q1,q2⟩:=hf _ _ _ _ hst' h
   rw [q1]
   cases x with
   | nor=>exact absurd h (hne _)
   | ext id=>exact ⟨t1,rfl,q2⟩
   | ret=>exact ⟨t1,rfl,q2⟩
theorem BI {gl:Nat->Option AV} {c c':bE} (hc:z7 c c') {kb n n':Nat} (hn:n<=n'):∀ {k:C} {s s':StE} {t:St} {x:Ex},StR s t->jV gl c kb n k s=some (x,s') ->
  ∃ t',cJ gl c' kb n' k t=some (x,t')/\StR s' t':=by
 intro k
 induction k with
 | skip=>
  intro s s' t x hst h
  simp [jV] at h
  obtain ⟨rfl,rfl⟩:=h
  exact ⟨t,rfl,hst⟩
 | reg rs d=>
  intro s s' t x hst h
  cases d with
  | false=>
   simp only [jV] at h
   simp only [cJ]
   cases hr:AO gl c kb rs s with
   | none=>simp [hr] at h
   | some s1=>
    simp [hr] at h
    obtain ⟨rfl,rfl⟩:=h
    obtain ⟨t1,q1,q2⟩:=AN hc hst hr
    exact ⟨t1,by rw [q1];rfl,q2⟩
  | true=>
   simp only [jV] at h
   simp only [cJ]
   split at h
   case h_2=>cases h
   rename_i s1 es hr
   obtain ⟨t1,q1,q2⟩:=x9 hc hst hr
   rw [q1]
   simp only
   split at h
   case isFalse=>cases h
   rename_i ha
   rw [if_pos ha]
   cases h
   exact ⟨t1,rfl,q2⟩
 | seq a b iha ihb=>
  intro s s' t x hst h
  simp only [jV] at h
  simp only [cJ]
  split at h
  ·rename_i s1 h1
   obtain ⟨t1,q1,q2⟩:=iha hst h1
   rw [q1]
   exact ihb q2 h
  ·rename_i hne
   obtain ⟨t1,q1,q2⟩:=iha hst h
   rw [q1]
   cases x with
   | nor=>exact absurd h (hne _)
   | ext id=>exact ⟨t1,rfl,q2⟩
   | ret=>exact ⟨t1,rfl,q2⟩
 | cond y a b iha ihb=>
  intro s s' t x hst h
  simp only [jV] at h
  simp only [cJ]
  rw [GU hst] at h
  split at h
  ·rename_i hb
   rw [hb]
   exact iha hst h
  ·rename_i hb
   rw [hb]
   exact ihb hst h
  ·cases h
 | block id b ih=>
  intro s s' t x hst h
  simp only [jV] at h
  simp only [cJ]
  split at h
  ·rename_i i s1 h1
   obtain ⟨t1,q1,q2⟩:=ih hst h1
   rw [q1]
   simp only [cond_eq_ite,Nat.beq_eq] at h ⊢
   split at h
   ·rename_i hi
    rw [if_pos hi]
    cases h
    exact ⟨t1,rfl,q2⟩
   ·rename_i hi
    rw [if_neg hi]
    cases h
    exact ⟨t1,rfl,q2⟩
  ·rename_i hne
   obtain ⟨t1,q1,q2⟩:=ih hst h
   rw [q1]
   cases x with
   | nor=>exact ⟨t1,rfl,q2⟩
   | ext id=>exact absurd h (hne _ _)
   | ret=>exact ⟨t1,rfl,q2⟩
 | loop b m ih=>
  intro s s' t x hst h
  simp only [jV] at h
  simp only [cJ]
  exact A1 (fun s t x s' q1 q2=>ih q1 q2) hn hst h
 | exit id=>
  intro s s' t x hst h
  simp [jV] at h
  obtain ⟨rfl,rfl⟩:=h
  exact ⟨t,rfl,hst⟩
 | ret=>
  intro s s' t x hst h
  simp [jV] at h
  obtain ⟨rfl,rfl⟩:=h
  exact ⟨t,rfl,hst⟩
 | rf fx sk ps ca cb=>
  intro s s' t x hst h
  simp only [jV] at h
  simp only [cJ]
  rw [GU hst,hst.env.list,hst.hp] at h
  split at h
  case h_2=>cases h
  rename_i f cs hf
  rw [hf]
  simp only
  split at h
  case h_2=>cases h
  rename_i rr h' hcall
  rw [hc.off _ _ _ _ _ (by omega) hcall]
  simp only
  unfold ND at h
  split at h
  case h_2=>cases h
  rename_i y st1 he
  cases h
  unfold IE at he ⊢
  split at he
  case h_2=>cases he
  split at he
  case isFalse=>cases he
  rename_i hee
  rw [if_pos hee]
  split at he
  ·cases he;exact ⟨_,rfl,⟨hst.env,rfl⟩⟩
  ·cases he;exact ⟨_,rfl,⟨hst.env,rfl⟩⟩
  ·cases he;exact ⟨_,rfl,⟨hst.env,rfl⟩⟩
  ·cases he
 | bad=>
  intro s s' t x hst h
  simp [jV] at h
theorem FZ {s:StE} {t:St} (hst:StR s t) (rs:List (Sum Nat (Nat × Nat × Bool))):CD s rs=result t rs:=by
 have h1:∀ r,CE s r=vO t r:=by
  intro r
  cases r with
  | inl u=>simp only [CE,vO,hst.env.2]
  | inr p=>
   simp only [CE,vO,hst.env.2,hst.hp]
   rfl
 have h2:∀ rs,wU s rs=oS t rs:=by
  intro rs
  induction rs with
  | nil=>rfl
  | cons r rs ih=>
   simp only [wU,oS,h1,ih]
   rfl
 unfold CD result
 rw [h2]
 rfl
theorem G1 {h:Hp} {v:AV} (hv:v.tree=true):conv h v=some v:=by
 have:snap depth h v=some (v,[]):=by unfold depth snap;rw [if_pos hv]
 cases v<;>first | (simp only [conv,this];rfl) | simp [AV.tree] at hv
theorem vE (pg:Pg) {memo:Nat->List AV->Option AV} {m:Nat} (hm:∀ f a r,memo f a=some r->r.tree=true/\iQ (bU pg m) f a=some r):∀ n,z7 (oK pg memo n) (bU pg (m+n))
 | 0=>⟨fun f a kb h r _ hq=>by simp [oK] at hq,fun f a r hq=>by simp [iQ,oK] at hq,fun k e a h r hq=>by simp [oK] at hq⟩
 | n+1=>by
  have key:∀ f a kb h r,CJ memo f a kb h=none->oK pg memo (n+1) f a kb h=some r->bU pg (m+(n+1)) f a kb h=some r:=by
   intro f a kb h r hn hq
   simp only [oK] at hq
   rw [hn] at hq
   simp only at hq
   rw [<- Nat.add_assoc]
   simp only [bU]
   split at hq
   ·rename_i hf
    rw [hf]
    exact hq
   ·rename_i cf hf
    rw [hf]
    simp only
    split at hq
    ·cases hq
    ·rename_i x s hne he
     obtain ⟨t,q1,q2⟩:=BI (t:=⟨enter cf a,h⟩) (vE pg hm n) (Nat.le_add_left n m) ⟨sW.enter cf a,rfl⟩ he
     rw [q1]
     rw [FZ q2,q2.hp] at hq
     cases x with
     | nor=>exact hq
     | ret=>exact hq
     | ext id=>exact (hne id rfl).elim
    ·cases hq
  have hyl:∀ k e a h r,(oK pg memo (n+1)).yl k e a h=some r->(bU pg (m+(n+1))).yl k e a h=some r:=by
   intro k e a h r hq
   rw [<- Nat.add_assoc]
   refine qA (fun c b st r hr=>?_) hq
   unfold K7 at hr
   split at hr
   case h_2=>cases hr
   rename_i x s he
   cases hr
   obtain ⟨t,q1,q2⟩:=BI (t:=⟨st.env,st.hp⟩) (vE pg hm n) (Nat.le_add_left n m) ⟨sW.of st.env,rfl⟩ he
   have:t=⟨s.env.list,s.hp⟩:=by rw [q2.env.list,q2.hp]
   rw [q1,this]
  refine ⟨fun f a kb h r hk hq=>key f a kb h r ?_ hq,fun f a r hq=>?_,hyl⟩
  ·cases kb with
   | zero=>exact absurd rfl hk
   | succ k=>rfl
  ·unfold iQ at hq
   cases hc:oK pg memo (n+1) f a 0 [] with
   | none=>simp [hc] at hq
   | some p=>
    rw [hc] at hq
    cases hme:memo f a with
    | some r'=>
     have:oK pg memo (n+1) f a 0 []=some (r',[]):=by simp only [oK,CJ,hme]
     rw [this] at hc
     cases hc
     obtain ⟨h1,h2⟩:=hm f a r' hme
     simp only [G1 h1,Option.some.injEq] at hq
     subst hq
     exact pF (iD pg (by omega)) h2
    | none=>
     have:=key f a 0 [] p (by simp [CJ,hme]) hc
     unfold iQ
     rw [this]
     exact hq
end Go.Tev
end
section
namespace Go.Tev
variable {pg:Pg} {kb:Nat}
def Ret (pg:Pg) (f:Nat) (ts:List AV) (r:AV):Prop:=∃ n,iQ (bU pg n) f ts=some r
def pI (pg:Pg) (f:Nat) (vs:List AV) (kb:Nat) (h:Hp) (r:AV) (h':Hp):Prop:=∃ n,bU pg n f vs kb h=some (r,h')
def WX (pg:Pg) (kb:Nat) (c:C) (st:St) (Q:Ex->St->Prop):Prop:=∃ n ex st',cJ pg.gl (bU pg n) kb n c st=some (ex,st')/\Q ex st'
def WR (pg:Pg) (kb:Nat) (rs:List R) (st:St) (K:St->Prop):Prop:=∃ n st',oT pg.gl (bU pg n) kb rs st=some st'/\K st'
def WT (pg:Pg) (kb:Nat) (rs:List R) (st:St) (K:St->List Eff->Prop):Prop:=∃ n st' es,iX pg.gl (bU pg n) kb rs st=some (st',es)/\K st' es
def WO (pg:Pg) (kb:Nat) (k:K) (s:Nat) (h:Hp) (vs:List AV) (Q:AV->Eff->Prop):Prop:=
 ∃ n v eff,opR (bU pg n) kb ⟨none,k,[],none,0,s⟩ h vs=some (v,eff)/\Q v eff
def lC (A:St->Prop) (Q:Ex->St->Prop) (ex:Ex) (st:St):Prop:=
 match ex with
 | .nor=>A st
 | .ext i=>Q (.ext i) st
 | .ret=>Q .ret st
theorem IY (A:St->Prop) (Q:Ex->St->Prop) (st:St):lC A Q .nor st=A st:=rfl
theorem IZ (A:St->Prop) (Q:Ex->St->Prop) (i:Nat) (st:St):lC A Q (.ext i) st=Q (.ext i) st:=rfl
theorem IX (A:St->Prop) (Q:Ex->St->Prop) (st:St):lC A Q .ret st=Q .ret st:=rfl
def mV (id:Nat) (Q:Ex->St->Prop) (ex:Ex) (st:St):Prop:=
 match ex with
 | .nor=>Q .nor st
 | .ext i=>if i=id then Q .nor st else Q (.ext i) st
 | .ret=>Q .ret st
theorem HD (id:Nat) (Q:Ex->St->Prop) (st:St):mV id Q .nor st=Q .nor st:=rfl
theorem HE (id:Nat) (Q:Ex->St->Prop) (i:Nat) (st:St):mV id Q (.ext i) st=if i=id then Q .nor st else Q (.ext i) st:=rfl
theorem HC (id:Nat) (Q:Ex->St->Prop) (st:St):mV id Q .ret st=Q .ret st:=rfl
def NI (v:AV) (A B:Prop):Prop:=
 match v with
 | .bool true=>A
 | .bool false=>B
 | _=>False
def F4 (o:Option (AV × Eff)) (Q:AV->Eff->Prop):Prop:=
 match o with
 | some (v,e)=>Q v e
 | none=>False
theorem rI {c:C} {st:St} {o:Ex × St} {n m:Nat} (h:n<=m) (e:cJ pg.gl (bU pg n) kb n c st=some o):cJ pg.gl (bU pg m) kb m c st=some o:=
 oG (iD pg h) h e
theorem OM {rs:List R} {st st':St} {n m:Nat} (h:n<=m) (e:oT pg.gl (bU pg n) kb rs st=some st'):oT pg.gl (bU pg m) kb rs st=some st':=
 uM (iD pg h) e
theorem P1 (st:St) (Q:Ex->St->Prop):WX pg kb .skip st Q=Q .nor st:=by
 apply propext;constructor
 ·rintro ⟨n,ex,st',h,q⟩;simp only [cJ,Option.some.injEq,Prod.mk.injEq] at h;obtain ⟨rfl,rfl⟩:=h;exact q
 ·intro q;exact ⟨0,_,_,rfl,q⟩
theorem P3 (id:Nat) (st:St) (Q:Ex->St->Prop):WX pg kb (.exit id) st Q=Q (.ext id) st:=by
 apply propext;constructor
 ·rintro ⟨n,ex,st',h,q⟩;simp only [cJ,Option.some.injEq,Prod.mk.injEq] at h;obtain ⟨rfl,rfl⟩:=h;exact q
 ·intro q;exact ⟨0,_,_,rfl,q⟩
theorem TI (st:St) (Q:Ex->St->Prop):WX pg kb .ret st Q=Q .ret st:=by
 apply propext;constructor
 ·rintro ⟨n,ex,st',h,q⟩;simp only [cJ,Option.some.injEq,Prod.mk.injEq] at h;obtain ⟨rfl,rfl⟩:=h;exact q
 ·intro q;exact ⟨0,_,_,rfl,q⟩
theorem TJ (rs:List R) (st:St) (Q:Ex->St->Prop):WX pg kb (.reg rs false) st Q=WR pg kb rs st (fun st'=>Q .nor st'):=by
 apply propext;constructor
 ·rintro ⟨n,ex,st',h,q⟩
  simp only [cJ,Option.map_eq_some_iff,Prod.mk.injEq] at h
  obtain ⟨s,h1,rfl,rfl⟩:=h
  exact ⟨n,_,h1,q⟩
 ·rintro ⟨n,st',h,q⟩
  exact ⟨n,_,_,by simp only [cJ,h,Option.map_some],q⟩
theorem P2 (rs:List R) (st:St) (Q:Ex->St->Prop):WX pg kb (.reg rs true) st Q=WT pg kb rs st (fun st' es=>gD 0 rs es=true/\Q .nor st'):=by
 apply propext;constructor
 ·rintro ⟨n,ex,st',h,q⟩
  simp only [cJ] at h
  split at h
  ·rename_i s es h1
   split at h
   ·simp only [Option.some.injEq,Prod.mk.injEq] at h
    obtain ⟨rfl,rfl⟩:=h
    exact ⟨n,_,_,h1,by assumption,q⟩
   ·cases h
  ·cases h
 ·rintro ⟨n,st',es,h,a,q⟩
  exact ⟨n,_,_,by simp only [cJ,h,a,if_true],q⟩
theorem P4 (c:X) (a b:C) (st:St) (Q:Ex->St->Prop):WX pg kb (.cond c a b) st Q=NI (c.ev pg.gl st.env) (WX pg kb a st Q) (WX pg kb b st Q):=by
 apply propext
 simp only [WX,cJ]
 cases c.ev pg.gl st.env with
 | bool x=>cases x<;>exact Iff.rfl
 | _=>simp [NI]
theorem TH (a b:C) (st:St) (Q:Ex->St->Prop):WX pg kb (.seq a b) st Q=WX pg kb a st (lC (fun st'=>WX pg kb b st' Q) Q):=by
 apply propext;constructor
 ·rintro ⟨n,ex,st',h,q⟩
  simp only [cJ] at h
  cases ha:cJ pg.gl (bU pg n) kb n a st with
  | none=>simp [ha] at h
  | some o=>
   obtain ⟨ex1,st1⟩:=o
   rw [ha] at h
   refine ⟨n,ex1,st1,ha,?_⟩
   cases ex1 with
   | nor=>exact ⟨n,ex,st',h,q⟩
   | ext i=>simp only [Option.some.injEq,Prod.mk.injEq] at h;obtain ⟨rfl,rfl⟩:=h;exact q
   | ret=>simp only [Option.some.injEq,Prod.mk.injEq] at h;obtain ⟨rfl,rfl⟩:=h;exact q
 ·rintro ⟨n,ex,st',h,q⟩
  cases ex with
  | nor=>
   obtain ⟨m,ex2,st2,h2,q2⟩:=q
   refine ⟨max n m,ex2,st2,?_,q2⟩
   simp only [cJ,rI (Nat.le_max_left n m) h]
   exact rI (Nat.le_max_right n m) h2
  | ext i=>exact ⟨n,_,_,by simp only [cJ,h],q⟩
  | ret=>exact ⟨n,_,_,by simp only [cJ,h],q⟩
theorem N8 (id:Nat) (b:C) (st:St) (Q:Ex->St->Prop):WX pg kb (.block id b) st Q=WX pg kb b st (mV id Q):=by
 apply propext;constructor
 ·rintro ⟨n,ex,st',h,q⟩
  simp only [cJ] at h
  cases hb:cJ pg.gl (bU pg n) kb n b st with
  | none=>simp [hb] at h
  | some o=>
   obtain ⟨ex1,st1⟩:=o
   rw [hb] at h
   refine ⟨n,ex1,st1,hb,?_⟩
   cases ex1 with
   | nor=>simp only [Option.some.injEq,Prod.mk.injEq] at h;obtain ⟨rfl,rfl⟩:=h;exact q
   | ext i=>
    simp only at h
    simp only [mV]
    split at h<;>(simp only [Option.some.injEq,Prod.mk.injEq] at h;obtain ⟨rfl,rfl⟩:=h;simp_all)
   | ret=>simp only [Option.some.injEq,Prod.mk.injEq] at h;obtain ⟨rfl,rfl⟩:=h;exact q
 ·rintro ⟨n,ex,st',h,q⟩
  cases ex with
  | nor=>exact ⟨n,_,_,by simp only [cJ,h],q⟩
  | ret=>exact ⟨n,_,_,by simp only [cJ,h],q⟩
  | ext i=>
   simp only [mV] at q
   split at q
   ·rename_i hi;exact ⟨n,.nor,st',by simp only [cJ,h,if_pos hi],q⟩
   ·rename_i hi;exact ⟨n,.ext i,st',by simp only [cJ,h,if_neg hi],q⟩
theorem D6 {b:C} {clr:List Bool} {st:St} {o:Ex × St} {n m k l:Nat} (h:n<=m) (hk:k<=l) (e:j5 (cJ pg.gl (bU pg n) kb n b) clr k st=some o) :
  j5 (cJ pg.gl (bU pg m) kb m b) clr l st=some o:=
 sL (fun _ _ q=>rI h q) hk e
theorem IP (b:C) (clr:List Bool) (st:St) (Q:Ex->St->Prop) :
  WX pg kb (.loop b clr) st Q=WX pg kb b ⟨clear clr st.env,st.hp⟩ (lC (fun st'=>WX pg kb (.loop b clr) st' Q) Q):=by
 apply propext;constructor
 ·rintro ⟨n,ex,st',h,q⟩
  simp only [cJ] at h
  cases n with
  | zero=>simp [j5] at h
  | succ n=>
   simp only [j5] at h
   cases hb:cJ pg.gl (bU pg (n+1)) kb (n+1) b ⟨clear clr st.env,st.hp⟩ with
   | none=>simp [hb] at h
   | some o=>
    obtain ⟨ex1,st1⟩:=o
    rw [hb] at h
    refine ⟨n+1,ex1,st1,hb,?_⟩
    cases ex1 with
    | nor=>exact ⟨n+1,ex,st',D6 (Nat.le_refl _) (Nat.le_succ n) h,q⟩
    | ext i=>simp only [Option.some.injEq,Prod.mk.injEq] at h;obtain ⟨rfl,rfl⟩:=h;exact q
    | ret=>simp only [Option.some.injEq,Prod.mk.injEq] at h;obtain ⟨rfl,rfl⟩:=h;exact q
 ·rintro ⟨n,ex,st',h,q⟩
  cases ex with
  | nor=>
   obtain ⟨m,ex2,st2,h2,q2⟩:=q
   refine ⟨max n m+1,ex2,st2,?_,q2⟩
   simp only [cJ] at h2 ⊢
   rw [j5]
   rw [rI (Nat.le_trans (Nat.le_max_left n m) (Nat.le_succ _)) h]
   exact D6 (Nat.le_trans (Nat.le_max_right n m) (Nat.le_succ _)) (Nat.le_max_right n m) h2
  | ext i=>exact ⟨n+1,_,_,by simp only [cJ,j5,rI (Nat.le_succ n) h],q⟩
  | ret=>exact ⟨n+1,_,_,by simp only [cJ,j5,rI (Nat.le_succ n) h],q⟩
theorem KL {α : Type} (μ : α -> Nat) (E : α -> List AV->Hp->Prop) {b:C} {clr:List Bool} {st:St} {Q:Ex->St->Prop} (a : α) (h0:E a (clear clr st.env) st.hp)
  (step:∀ a env hp,E a env hp->WX pg kb b ⟨env,hp⟩ (lC (fun st'=>∃ a',μ a' < μ a/\E a' (clear clr st'.env) st'.hp) Q)) :
  WX pg kb (.loop b clr) st Q:=by
 have key:∀ n a st,μ a < n->E a (clear clr st.env) st.hp->WX pg kb (.loop b clr) st Q:=by
  intro n
  induction n with
  | zero=>intro a st h;omega
  | succ n ih=>
   intro a st hn h
   rw [IP]
   obtain ⟨m,ex,st',h1,q⟩:=step a _ _ h
   refine ⟨m,ex,st',h1,?_⟩
   cases ex with
   | nor=>
    obtain ⟨a',h2,h3⟩:=q
    exact ih a' st' (by omega) h3
   | ext i=>exact q
   | ret=>exact q
 exact key _ a st (Nat.lt_succ_self _) h0
theorem TL (st:St) (A:St->Prop):WR pg kb [] st A=A st:=by
 apply propext;constructor
 ·rintro ⟨n,st',h,q⟩;simp only [oT,Option.some.injEq] at h;subst h;exact q
 ·intro q;exact ⟨0,_,rfl,q⟩
theorem F7 {k:K} {s:Nat} {h:Hp} {vs:List AV} {x:AV × Eff} {n m:Nat} (hn:n<=m) (e:opR (bU pg n) kb ⟨none,k,[],none,0,s⟩ h vs=some x) :
  opR (bU pg m) kb ⟨none,k,[],none,0,s⟩ h vs=some x:=
 D2 (iD pg hn) e
theorem IR (d:Option Nat) (k:K) (xs:List X) (bef s:Nat) (rs:List R) (st:St) (A:St->Prop) :
  WR pg kb (⟨d,k,xs,none,bef,s⟩ :: rs) st A=WO pg kb k s st.hp (xs.map (X.ev pg.gl st.env)) (fun v eff=>WR pg kb rs ⟨d8 st.env d v,eff.app st.hp⟩ A):=by
 apply propext;constructor
 ·rintro ⟨n,st',h,q⟩
  simp only [oT,jO,wanted] at h
  split at h
  ·rename_i st1 e h1
   split at h1
   ·rename_i v eff h2
    simp only [Option.some.injEq,Prod.mk.injEq] at h1
    obtain ⟨rfl,rfl⟩:=h1
    exact ⟨n,v,eff,h2,n,st',h,q⟩
   ·cases h1
  ·cases h
 ·rintro ⟨n,v,eff,h,m,st',h2,q⟩
  refine ⟨max n m,st',?_,q⟩
  have e1:=F7 (Nat.le_max_left n m) h
  have e2:=OM (Nat.le_max_right n m) h2
  have e3:opR (bU pg (max n m)) kb ⟨d,k,xs,none,bef,s⟩ st.hp (xs.map (X.ev pg.gl st.env))=some (v,eff):=e1
  simp only [oT,jO,wanted,e3]
  exact e2
def gdQ (v:AV) (b:Bool) (A B:Prop):Prop:=
 match v with
 | .bool c=>if c=b then A else B
 | .tup []=>B
 | _=>False
theorem OA (d:Option Nat) (k:K) (xs:List X) (t:Nat) (b:Bool) (bef s:Nat) (rs:List R) (st:St) (A:St->Prop) :
  WR pg kb (⟨d,k,xs,some (t,b),bef,s⟩ :: rs) st A =
   gdQ (iB st.env t) b (WO pg kb k s st.hp (xs.map (X.ev pg.gl st.env)) (fun v eff=>WR pg kb rs ⟨d8 st.env d v,eff.app st.hp⟩ A)) (WR pg kb rs ⟨d8 st.env d (.tup []),st.hp⟩ A):=by
 rw [<- IR d k xs bef s]
 apply propext
 have hb:∀ c:Bool,(c == b)=decide (c=b):=fun c=>by cases c<;>cases b<;>rfl
 simp only [WR,oT,jO,wanted]
 generalize iB st.env t=v
 cases v with
 | bool c=>
  simp only [gdQ,hb]
  by_cases hc:c=b
  ·simp only [hc,decide_true,if_true];exact Iff.rfl
  ·simp only [hc,decide_false,if_false]
 | tup l=>cases l<;>simp [gdQ]
 | _=>simp [gdQ]
theorem TK (st:St) (A:St->List Eff->Prop):WT pg kb [] st A=A st []:=by
 apply propext;constructor
 ·rintro ⟨n,st',es,h,q⟩;simp only [iX,Option.some.injEq,Prod.mk.injEq] at h;obtain ⟨rfl,rfl⟩:=h;exact q
 ·intro q;exact ⟨0,_,_,rfl,q⟩
theorem IQ (d:Option Nat) (k:K) (xs:List X) (bef s:Nat) (rs:List R) (st:St) (A:St->List Eff->Prop) :
  WT pg kb (⟨d,k,xs,none,bef,s⟩ :: rs) st A=WO pg kb k s st.hp (xs.map (X.ev pg.gl st.env)) (fun v eff=>WT pg kb rs ⟨d8 st.env d v,eff.app st.hp⟩ (fun st' es=>A st' (eff :: es))):=by
 apply propext;constructor
 ·rintro ⟨n,st',es,h,q⟩
  simp only [iX,jO,wanted] at h
  split at h
  ·rename_i st1 e h1
   split at h1
   ·rename_i v eff h2
    simp only [Option.some.injEq,Prod.mk.injEq] at h1
    obtain ⟨rfl,rfl⟩:=h1
    simp only [Option.map_eq_some_iff,Prod.mk.injEq] at h
    obtain ⟨⟨s1,l1⟩,h3,h4,h5⟩:=h
    subst h4;subst h5
    exact ⟨n,v,eff,h2,n,s1,l1,h3,q⟩
   ·cases h1
  ·cases h
 ·rintro ⟨n,v,eff,h,m,st',es,h2,q⟩
  refine ⟨max n m,st',eff :: es,?_,q⟩
  have e1:=F7 (Nat.le_max_left n m) h
  have e2:=sB (iD pg (Nat.le_max_right n m)) h2
  have e3:opR (bU pg (max n m)) kb ⟨d,k,xs,none,bef,s⟩ st.hp (xs.map (X.ev pg.gl st.env))=some (v,eff):=e1
  simp only [iX,jO,wanted,e3]
  rw [e2]
  rfl
theorem N9 (d:Option Nat) (k:K) (xs:List X) (t:Nat) (b:Bool) (bef s:Nat) (rs:List R) (st:St) (A:St->List Eff->Prop) :
  WT pg kb (⟨d,k,xs,some (t,b),bef,s⟩ :: rs) st A =
   gdQ (iB st.env t) b (WO pg kb k s st.hp (xs.map (X.ev pg.gl st.env)) (fun v eff=>WT pg kb rs ⟨d8 st.env d v,eff.app st.hp⟩ (fun st' es=>A st' (eff :: es))))
    (WT pg kb rs ⟨d8 st.env d (.tup []),st.hp⟩ (fun st' es=>A st' (.pat [] [] :: es))):=by
 rw [<- IQ d k xs bef s]
 apply propext
 have hb:∀ c:Bool,(c == b)=decide (c=b):=fun c=>by cases c<;>cases b<;>rfl
 have key:(∃ n st' es,(iX pg.gl (bU pg n) kb rs ⟨d8 st.env d (.tup []),st.hp⟩).map (fun (s,l)=>(s,Eff.pat [] [] :: l))=some (st',es)/\A st' es) ↔
   (∃ n st' es,iX pg.gl (bU pg n) kb rs ⟨d8 st.env d (.tup []),st.hp⟩=some (st',es)/\A st' (.pat [] [] :: es)):=by
  constructor
  ·rintro ⟨n,st',es,h,q⟩
   simp only [Option.map_eq_some_iff,Prod.mk.injEq] at h
   obtain ⟨⟨s1,l1⟩,h3,h4,h5⟩:=h
   subst h4;subst h5
   exact ⟨n,s1,l1,h3,q⟩
  ·rintro ⟨n,st',es,h,q⟩
   exact ⟨n,st',_,by rw [h];rfl,q⟩
 simp only [WT,iX,jO,wanted]
 generalize iB st.env t=v
 cases v with
 | bool c=>
  simp only [gdQ,hb]
  by_cases hc:c=b
  ·simp only [hc,decide_true,if_true];exact Iff.rfl
  ·simp only [hc,decide_false,if_false];exact key
 | tup l=>
  cases l with
  | nil=>simp only [gdQ];exact key
  | cons a r=>simp [gdQ]
 | _=>simp [gdQ]
def K.isCall:K->Bool
 | .call .. | .callv .. | .calle .. | .callr .. => true
 | _=>false
theorem dH {k:K} (hk:k.isCall=false) (s:Nat) (h:Hp) (vs:List AV) (Q:AV->Eff->Prop):WO pg kb k s h vs Q=F4 (JI h (kb+s) k vs) Q:=by
 have e:∀ call:bE,opR call kb ⟨none,k,[],none,0,s⟩ h vs=JI h (kb+s) k vs:=by
  intro call;cases k<;>first | rfl | simp [K.isCall] at hk
 apply propext
 simp only [WO,e]
 cases JI h (kb+s) k vs with
 | none=>simp [F4]
 | some x=>
  obtain ⟨v,eff⟩:=x
  simp only [F4]
  constructor
  ·rintro ⟨n,v',e',h1,q⟩;cases h1;exact q
  ·intro q;exact ⟨0,_,_,rfl,q⟩
theorem NQ {f:Nat} {ts:List AV} {r:AV} {n m:Nat} (h:n<=m) (e:iQ (bU pg n) f ts=some r):iQ (bU pg m) f ts=some r:=
 pF (iD pg h) e
theorem P5 {f s:Nat} {th:Bool} {h:Hp} {vs ts:List AV} {keys:List Nat} {r v:AV} {pa:List Ent} {Q:AV->Eff->Prop} (hr:Ret pg f ts r)
  (hm:cD (snap depth h) vs=some (ts,keys)) (hv:fC h (kb+s) th r=some (v,pa)) :
  WO pg kb (.call f th false) s h vs Q=Q v (.pat ((kb+s) :: keys) ((if r.flat then [] else cA h keys)++pa)):=by
 obtain ⟨n,e⟩:=hr
 have key:∀ m,n<=m->opR (bU pg m) kb ⟨none,.call f th false,[],none,0,s⟩ h vs=some (v,.pat ((kb+s) :: keys) ((if r.flat then [] else cA h keys)++pa)):=by
  intro m hm'
  simp only [opR,lR,Bool.false_eq_true,if_false,hm,NQ hm' e,hv]
 apply propext;constructor
 ·rintro ⟨m,v',e',h1,q⟩
  have h2:=key _ (Nat.le_max_left n m)
  have h3:=F7 (Nat.le_max_right n m) h1
  rw [h3] at h2
  cases h2
  exact q
 ·intro q
  exact ⟨n,_,_,key n (Nat.le_refl _),q⟩
theorem OB {f s:Nat} {th im:Bool} {h h':Hp} {vs:List AV} {r:AV} {Q:AV->Eff->Prop} (hm:im=true\/cD (snap depth h) vs=none) {B:Nat} (hB:iT kb s vs=B) (hr:pI pg f vs B h r h')
   (hq:Q r (.whole h')):WO pg kb (.call f th im) s h vs Q:=by
 subst hB
 obtain ⟨n,e⟩:=hr
 refine ⟨n,r,.whole h',?_,hq⟩
 have:(if im then none else cD (snap depth h) vs)=none:=by
  rcases hm with rfl | hm
  ·rfl
  ·simp [hm]
 simp only [opR,lR,this,e]
theorem pI.of {f:Nat} {cf:CF} {vs:List AV} {h:Hp} {r:AV} {h':Hp} (hf:pg.fs f=some cf)
  (hw:WX pg kb cf.body ⟨enter cf vs,h⟩ (fun ex st=>(match ex with | .ext _=>False | _=>True)/\result st cf.res=some r/\st.hp=h')):pI pg f vs kb h r h':=by
 obtain ⟨n,ex,st,h1,h2,h3,h4⟩:=hw
 refine ⟨n+1,?_⟩
 subst h4
 simp only [bU,hf,h1]
 cases ex with
 | ext i=>exact h2.elim
 | nor=>simp [h3]
 | ret=>simp [h3]
def EU (res:List (Sum Nat (Nat × Nat × Bool))) (r:AV) (ex:Ex) (st:St):Prop:=
 match ex with
 | .ext _=>False
 | _=>∃ v,result st res=some v/\conv st.hp v=some r
theorem M9 (res:List (Sum Nat (Nat × Nat × Bool))) (r:AV) (st:St):EU res r .nor st=∃ v,result st res=some v/\conv st.hp v=some r:=rfl
theorem M8 (res:List (Sum Nat (Nat × Nat × Bool))) (r:AV) (st:St):EU res r .ret st=∃ v,result st res=some v/\conv st.hp v=some r:=rfl
theorem Ret.of {f:Nat} {cf:CF} {vs:List AV} {r:AV} (hf:pg.fs f=some cf) (hw:WX pg 0 cf.body ⟨enter cf vs,[]⟩ (EU cf.res r)):Ret pg f vs r:=by
 obtain ⟨n,ex,st,h1,h2⟩:=hw
 refine ⟨n+1,?_⟩
 cases ex with
 | ext i=>exact h2.elim
 | nor=>
  obtain ⟨v,h3,h4⟩:=h2
  simp only [iQ,bU,hf,h1,h3,Option.map_some,h4]
 | ret=>
  obtain ⟨v,h3,h4⟩:=h2
  simp only [iQ,bU,hf,h1,h3,Option.map_some,h4]
theorem R7 {α : Type} {x : α} {P : α -> Prop}:(∃ v,some x=some v/\P v)=P x:=by
 apply propext;constructor
 ·rintro ⟨v,h,p⟩;cases h;exact p
 ·intro p;exact ⟨x,rfl,p⟩
end Go.Tev
end
section
namespace Go.Tev
structure Tok.{u} {α : Sort u} (a : α):Type where
def XX (pg:Pg) (kb:Nat) (c:C) (st:St) (Q:Ex->St->Prop) (_:Tok Q):Prop:=WX pg kb c st Q
def XR (pg:Pg) (kb:Nat) (rs:List R) (st:St) (Q:St->Prop) (_:Tok Q):Prop:=WR pg kb rs st Q
def XT (pg:Pg) (kb:Nat) (rs:List R) (st:St) (Q:St->List Eff->Prop) (_:Tok Q):Prop:=WT pg kb rs st Q
def XO (pg:Pg) (kb:Nat) (k:K) (s:Nat) (h:Hp) (vs:List AV) (Q:AV->Eff->Prop) (_:Tok Q):Prop:=WO pg kb k s h vs Q
def XG (v:AV) (b:Bool) (A B:Unit->Prop) (_:Tok (A,B)):Prop:=gdQ v b (A ()) (B ())
def XC (v:AV) (A B:Unit->Prop) (_:Tok (A,B)):Prop:=NI v (A ()) (B ())
def XV (o:Option (AV × Eff)) (Q:AV->Eff->Prop) (_:Tok Q):Prop:=F4 o Q
variable {pg:Pg} {kb:Nat}
theorem PP (st:St) (Q:Ex->St->Prop) (t:Tok Q):XX pg kb .skip st Q t=Q .nor st:=P1 st Q
theorem PR (id:Nat) (st:St) (Q:Ex->St->Prop) (t:Tok Q):XX pg kb (.exit id) st Q t=Q (.ext id) st:=P3 id st Q
theorem SO (st:St) (Q:Ex->St->Prop) (t:Tok Q):XX pg kb .ret st Q t=Q .ret st:=TI st Q
theorem SP (rs:List R) (st:St) (Q:Ex->St->Prop) (t:Tok Q):XX pg kb (.reg rs false) st Q t=XR pg kb rs st (fun st'=>Q .nor st') ⟨⟩:=TJ rs st Q
theorem PQ (rs:List R) (st:St) (Q:Ex->St->Prop) (t:Tok Q):XX pg kb (.reg rs true) st Q t=XT pg kb rs st (fun st' es=>gD 0 rs es=true/\Q .nor st') ⟨⟩:=P2 rs st Q
theorem PT (c:X) (a b:C) (st:St) (Q:Ex->St->Prop) (t:Tok Q):XX pg kb (.cond c a b) st Q t=XC (c.ev pg.gl st.env) (fun _=>XX pg kb a st Q t) (fun _=>XX pg kb b st Q t) ⟨⟩:=P4 c a b st Q
theorem SN (a b:C) (st:St) (Q:Ex->St->Prop) (t:Tok Q):XX pg kb (.seq a b) st Q t=XX pg kb a st (lC (fun st'=>XX pg kb b st' Q t) Q) ⟨⟩:=TH a b st Q
theorem N1 (id:Nat) (b:C) (st:St) (Q:Ex->St->Prop) (t:Tok Q):XX pg kb (.block id b) st Q t=XX pg kb b st (mV id Q) ⟨⟩:=N8 id b st Q
theorem lZ (b:C) (clr:List Bool) (st:St) (Q:Ex->St->Prop) (t:Tok Q):XX pg kb (.loop b clr) st Q t=XX pg kb b ⟨clear clr st.env,st.hp⟩ (lC (fun st'=>XX pg kb (.loop b clr) st' Q t) Q) ⟨⟩:=IP b clr st Q
theorem mA {α : Type} (μ : α -> Nat) (E : α -> List AV->Hp->Prop) {b:C} {clr:List Bool} {st:St} {Q:Ex->St->Prop} {t:Tok Q} (a : α) (h0:E a (clear clr st.env) st.hp)
  (step:∀ a env hp,E a env hp->XX pg kb b ⟨env,hp⟩ (lC (fun st'=>∃ a',μ a' < μ a/\E a' (clear clr st'.env) st'.hp) Q) ⟨⟩) :
  XX pg kb (.loop b clr) st Q t:=KL μ E a h0 step
theorem SR (st:St) (A:St->Prop) (t:Tok A):XR pg kb [] st A t=A st:=TL st A
theorem PV (d:Option Nat) (k:K) (xs:List X) (bef s:Nat) (rs:List R) (st:St) (A:St->Prop) (t:Tok A) :
  XR pg kb (⟨d,k,xs,none,bef,s⟩ :: rs) st A t=XO pg kb k s st.hp (xs.map (X.ev pg.gl st.env)) (fun v eff=>XR pg kb rs ⟨d8 st.env d v,eff.app st.hp⟩ A t) ⟨⟩:=IR d k xs bef s rs st A
theorem N3 (d:Option Nat) (k:K) (xs:List X) (g:Nat) (b:Bool) (bef s:Nat) (rs:List R) (st:St) (A:St->Prop) (t:Tok A) :
  XR pg kb (⟨d,k,xs,some (g,b),bef,s⟩ :: rs) st A t =
   XG (iB st.env g) b (fun _=>XO pg kb k s st.hp (xs.map (X.ev pg.gl st.env)) (fun v eff=>XR pg kb rs ⟨d8 st.env d v,eff.app st.hp⟩ A t) ⟨⟩) (fun _=>XR pg kb rs ⟨d8 st.env d (.tup []),st.hp⟩ A t) ⟨⟩:=
 OA d k xs g b bef s rs st A
theorem SQ (st:St) (A:St->List Eff->Prop) (t:Tok A):XT pg kb [] st A t=A st []:=TK st A
theorem PU (d:Option Nat) (k:K) (xs:List X) (bef s:Nat) (rs:List R) (st:St) (A:St->List Eff->Prop) (t:Tok A) :
  XT pg kb (⟨d,k,xs,none,bef,s⟩ :: rs) st A t=XO pg kb k s st.hp (xs.map (X.ev pg.gl st.env)) (fun v eff=>XT pg kb rs ⟨d8 st.env d v,eff.app st.hp⟩ (fun st' es=>A st' (eff :: es)) ⟨⟩) ⟨⟩:=IQ d k xs bef s rs st A
theorem N2 (d:Option Nat) (k:K) (xs:List X) (g:Nat) (b:Bool) (bef s:Nat) (rs:List R) (st:St) (A:St->List Eff->Prop) (t:Tok A) :
  XT pg kb (⟨d,k,xs,some (g,b),bef,s⟩ :: rs) st A t =
   XG (iB st.env g) b (fun _=>XO pg kb k s st.hp (xs.map (X.ev pg.gl st.env)) (fun v eff=>XT pg kb rs ⟨d8 st.env d v,eff.app st.hp⟩ (fun st' es=>A st' (eff :: es)) ⟨⟩) ⟨⟩)
    (fun _=>XT pg kb rs ⟨d8 st.env d (.tup []),st.hp⟩ (fun st' es=>A st' (.pat [] [] :: es)) ⟨⟩) ⟨⟩:=
 N9 d k xs g b bef s rs st A
theorem Iq (A B:Unit->Prop) (t:Tok (A,B)):XC (.bool true) A B t=A ():=rfl
theorem FG (A B:Unit->Prop) (t:Tok (A,B)):XC (.bool false) A B t=B ():=rfl
theorem aO {c:Bool} {A B:Unit->Prop} {t:Tok (A,B)} (h1:c=true->A ()) (h2:c=false->B ()):XC (.bool c) A B t:=by
 cases c
 ·exact h2 rfl
 ·exact h1 rfl
theorem QG (A B:Unit->Prop) (t:Tok (A,B)):XG (.bool true) true A B t=A ():=rfl
theorem QK (A B:Unit->Prop) (t:Tok (A,B)):XG (.bool false) false A B t=A ():=rfl
theorem QH (A B:Unit->Prop) (t:Tok (A,B)):XG (.bool true) false A B t=B ():=rfl
theorem QJ (A B:Unit->Prop) (t:Tok (A,B)):XG (.bool false) true A B t=B ():=rfl
theorem QI (b:Bool) (A B:Unit->Prop) (t:Tok (A,B)):XG (.tup []) b A B t=B ():=rfl
theorem aN {c b:Bool} {A B:Unit->Prop} {t:Tok (A,B)} (h1:c=true->XG (.bool true) b A B t) (h2:c=false->XG (.bool false) b A B t):XG (.bool c) b A B t:=by
 cases c
 ·exact h2 rfl
 ·exact h1 rfl
theorem IM (v:AV) (e:Eff) (Q:AV->Eff->Prop) (t:Tok Q):XV (some (v,e)) Q t=Q v e:=rfl
theorem bO {f s:Nat} {th:Bool} {h:Hp} {vs ts:List AV} {keys:List Nat} {r v:AV} {pa:List Ent} {Q:AV->Eff->Prop} {t:Tok Q} (hr:Ret pg f ts r)
  (hm:cD (snap depth h) vs=some (ts,keys)) (hv:fC h (kb+s) th r=some (v,pa)) (q:Q v (.pat ((kb+s) :: keys) ((if r.flat then [] else cA h keys)++pa))) :
  XO pg kb (.call f th false) s h vs Q t:=(P5 hr hm hv).mpr q
theorem dS (d:Nat) (h:Hp):∀ {vs:List AV},treeL vs=true->cD (snap (d+1) h) vs=some (vs,[])
 | [],_=>rfl
 | x :: r,q=>by
  simp only [treeL,Bool.and_eq_true] at q
  have e:snap (d+1) h x=some (x,[]):=by unfold snap;rw [if_pos q.1]
  rw [cD,e,dS d h q.2]
  rfl
def AV.notOs:AV->Bool
 | .os .. => false
 | _=>true
theorem aB {f s:Nat} {th:Bool} {h:Hp} {vs:List AV} {r:AV} {Q:AV->Eff->Prop} {t:Tok Q} (hr:Ret pg f vs r)
  (hm:treeL vs=true) (hv:r.notOs=true) (q:Q r (.pat [kb+s] [])) :
  XO pg kb (.call f th false) s h vs Q t:=by
 refine bO hr (dS 63 h hm) (v:=r) (pa:=[]) ?_ ?_
 ·cases r<;>first | rfl | simp [AV.notOs] at hv
 ·have:(if r.flat then ([]:List Ent) else cA h [])++[]=[]:=by split<;>rfl
  rw [this]
  exact q
theorem jD {f s:Nat} {th im:Bool} {h h':Hp} {vs:List AV} {r:AV} {Q:AV->Eff->Prop} {t:Tok Q} (hm:im=true\/cD (snap depth h) vs=none) {B:Nat} (hB:iT kb s vs=B) (hr:pI pg f vs B h r h')
   (hq:Q r (.whole h')):XO pg kb (.call f th im) s h vs Q t:=OB hm hB hr hq
theorem N5 {f s:Nat} {th im:Bool} {h:Hp} {cs args:List AV} {Q:AV->Eff->Prop} {t:Tok Q} :
  XO pg kb (.callv th im) s h (.fn f cs :: args) Q t=XO pg kb (.call f th im) s h (args++cs) Q t:=rfl
theorem Ret.ofX {f:Nat} {cf:CF} {vs:List AV} {r:AV} (hf:pg.fs f=some cf) (hw:XX pg 0 cf.body ⟨enter cf vs,[]⟩ (EU cf.res r) ⟨⟩):Ret pg f vs r:=Ret.of hf hw
def NG (res:List (Sum Nat (Nat × Nat × Bool))) (r:AV) (h:Hp) (ex:Ex) (st:St):Prop:=(match ex with | .ext _=>False | _=>True)/\result st res=some r/\st.hp=h
theorem pI.ofX {f:Nat} {cf:CF} {vs:List AV} {h:Hp} {r:AV} {h':Hp} (hf:pg.fs f=some cf) (hw:XX pg kb cf.body ⟨enter cf vs,h⟩ (NG cf.res r h') ⟨⟩):pI pg f vs kb h r h':=pI.of hf hw
theorem NF (res:List (Sum Nat (Nat × Nat × Bool))) (r:AV) (h:Hp) (st:St):NG res r h .nor st=(result st res=some r/\st.hp=h):=by simp [NG]
theorem NE (res:List (Sum Nat (Nat × Nat × Bool))) (r:AV) (h:Hp) (st:St):NG res r h .ret st=(result st res=some r/\st.hp=h):=by simp [NG]
theorem PW (s:Nat) (h:Hp) (c a b:Bool) (Q:AV->Eff->Prop) (t:Tok Q):XO pg kb .pick s h [.bool c,.bool a,.bool b] Q t=Q (.bool (bif c then a else b)) (.pat [] []):=by
 show WO pg kb .pick s h _ Q=_
 rw [dH rfl];cases c<;>rfl
theorem KJ (s:Nat) (h:Hp) (a b:AV) (Q:AV->Eff->Prop) (t:Tok Q):XO pg kb .pick s h [.bool true,a,b] Q t=Q a (.pat [] []):=by
 show WO pg kb .pick s h _ Q=_
 rw [dH rfl];rfl
theorem KK (s:Nat) (h:Hp) (a b:AV) (Q:AV->Eff->Prop) (t:Tok Q):XO pg kb .pick s h [.bool false,a,b] Q t=Q b (.pat [] []):=by
 show WO pg kb .pick s h _ Q=_
 rw [dH rfl];rfl
theorem SW (s:Nat) (h:Hp) (vs:List AV) (Q:AV->Eff->Prop) (t:Tok Q):XO pg kb (.mov) s h vs Q t=XV (MU vs) Q ⟨⟩:=dH rfl s h vs Q
theorem TD (s:Nat) (h:Hp) (vs:List AV) (Q:AV->Eff->Prop) (t:Tok Q):XO pg kb (.box) s h vs Q t=XV (jA h (kb+s) vs) Q ⟨⟩:=dH rfl s h vs Q
theorem N7 (z:List AV) (ag:Bool) (s:Nat) (h:Hp) (vs:List AV) (Q:AV->Eff->Prop) (t:Tok Q):XO pg kb (.alloc z ag) s h vs Q t=XV (CS h (kb+s) z ag vs) Q ⟨⟩:=dH rfl s h vs Q
theorem N6 (z:List AV) (ps:List (Nat × Nat)) (s:Nat) (h:Hp) (vs:List AV) (Q:AV->Eff->Prop) (t:Tok Q):XO pg kb (.build z ps) s h vs Q t=XV (CR z ps vs) Q ⟨⟩:=dH rfl s h vs Q
theorem PY (e:Nat) (ag own:Bool) (s:Nat) (h:Hp) (vs:List AV) (Q:AV->Eff->Prop) (t:Tok Q):XO pg kb (.mkSl e ag own) s h vs Q t=XV (GO h (kb+s) e ag own vs) Q ⟨⟩:=dH rfl s h vs Q
theorem PZ (sz:Nat) (ag:Bool) (s:Nat) (h:Hp) (vs:List AV) (Q:AV->Eff->Prop) (t:Tok Q):XO pg kb (.load sz ag) s h vs Q t=XV (GQ h sz ag vs) Q ⟨⟩:=dH rfl s h vs Q
theorem N4 (sz:Nat) (ag:Bool) (s:Nat) (h:Hp) (vs:List AV) (Q:AV->Eff->Prop) (t:Tok Q):XO pg kb (.store sz ag) s h vs Q t=XV (CQ h sz ag vs) Q ⟨⟩:=dH rfl s h vs Q
theorem PX (s:Nat) (h:Hp) (vs:List AV) (Q:AV->Eff->Prop) (t:Tok Q):XO pg kb (.nilc) s h vs Q t=XV (GN vs) Q ⟨⟩:=dH rfl s h vs Q
theorem TE (op:BinOp) (s:Nat) (h:Hp) (vs:List AV) (Q:AV->Eff->Prop) (t:Tok Q):XO pg kb (.bin op) s h vs Q t=XV (ID op vs) Q ⟨⟩:=dH rfl s h vs Q
theorem TF (ng:Bool) (s:Nat) (h:Hp) (vs:List AV) (Q:AV->Eff->Prop) (t:Tok Q):XO pg kb (.beq ng) s h vs Q t=XV (M6 ng vs) Q ⟨⟩:=dH rfl s h vs Q
theorem S8 (q:Nat) (ng:Bool) (s:Nat) (h:Hp) (vs:List AV) (Q:AV->Eff->Prop) (t:Tok Q):XO pg kb (.eqn q ng) s h vs Q t=XV (M2 q ng vs) Q ⟨⟩:=dH rfl s h vs Q
theorem S7 (ng:Bool) (qs:List Nat) (s:Nat) (h:Hp) (vs:List AV) (Q:AV->Eff->Prop) (t:Tok Q):XO pg kb (.eqs ng qs) s h vs Q t=XV (yZ ng qs vs) Q ⟨⟩:=dH rfl s h vs Q
theorem VC (op:UnOp) (s:Nat) (h:Hp) (vs:List AV) (Q:AV->Eff->Prop) (t:Tok Q):XO pg kb (.un op) s h vs Q t=XV (R2 op vs) Q ⟨⟩:=dH rfl s h vs Q
theorem TA (i:IntKind) (s:Nat) (h:Hp) (vs:List AV) (Q:AV->Eff->Prop) (t:Tok Q):XO pg kb (.cvi i) s h vs Q t=XV (M4 i vs) Q ⟨⟩:=dH rfl s h vs Q
theorem S9 (s:Nat) (h:Hp) (vs:List AV) (Q:AV->Eff->Prop) (t:Tok Q):XO pg kb (.cvs) s h vs Q t=XV (M3 vs) Q ⟨⟩:=dH rfl s h vs Q
theorem SV (s:Nat) (h:Hp) (vs:List AV) (Q:AV->Eff->Prop) (t:Tok Q):XO pg kb (.s2b) s h vs Q t=XV (MT vs) Q ⟨⟩:=dH rfl s h vs Q
theorem TG (s:Nat) (h:Hp) (vs:List AV) (Q:AV->Eff->Prop) (t:Tok Q):XO pg kb (.b2s) s h vs Q t=XV (EO h vs) Q ⟨⟩:=dH rfl s h vs Q
theorem S4 (off sz:Nat) (ag:Bool) (s:Nat) (h:Hp) (vs:List AV) (Q:AV->Eff->Prop) (t:Tok Q):XO pg kb (.fld off sz ag) s h vs Q t=XV (i7 off sz ag vs) Q ⟨⟩:=dH rfl s h vs Q
theorem S5 (off sz:Nat) (ag:Bool) (s:Nat) (h:Hp) (vs:List AV) (Q:AV->Eff->Prop) (t:Tok Q):XO pg kb (.fad off sz ag) s h vs Q t=XV (i8 off sz ag vs) Q ⟨⟩:=dH rfl s h vs Q
theorem S3 (e:Nat) (ag:Bool) (arr:Option Nat) (s:Nat) (h:Hp) (vs:List AV) (Q:AV->Eff->Prop) (t:Tok Q):XO pg kb (.iad e ag arr) s h vs Q t=XV (M0 e ag arr vs) Q ⟨⟩:=dH rfl s h vs Q
theorem S1 (s:Nat) (h:Hp) (vs:List AV) (Q:AV->Eff->Prop) (t:Tok Q):XO pg kb (.ixs) s h vs Q t=XV (MY vs) Q ⟨⟩:=dH rfl s h vs Q
theorem S2 (len e:Nat) (ag:Bool) (s:Nat) (h:Hp) (vs:List AV) (Q:AV->Eff->Prop) (t:Tok Q):XO pg kb (.ixa len e ag) s h vs Q t=XV (MZ len e ag vs) Q ⟨⟩:=dH rfl s h vs Q
theorem ST (e:Nat) (lo hi mx:Bool) (s:Nat) (h:Hp) (vs:List AV) (Q:AV->Eff->Prop) (t:Tok Q):XO pg kb (.slc e lo hi mx) s h vs Q t=XV (fO h e lo hi mx vs) Q ⟨⟩:=dH rfl s h vs Q
theorem SS (lo hi:Bool) (s:Nat) (h:Hp) (vs:List AV) (Q:AV->Eff->Prop) (t:Tok Q):XO pg kb (.sls lo hi) s h vs Q t=XV (qP lo hi vs) Q ⟨⟩:=dH rfl s h vs Q
theorem SU (len e:Nat) (lo hi:Bool) (s:Nat) (h:Hp) (vs:List AV) (Q:AV->Eff->Prop) (t:Tok Q):XO pg kb (.sla len e lo hi) s h vs Q t=XV (MS h len e lo hi vs) Q ⟨⟩:=dH rfl s h vs Q
theorem SX (e:Nat) (ag:Bool) (bytes:Nat) (z:List AV) (s:Nat) (h:Hp) (vs:List AV) (Q:AV->Eff->Prop) (t:Tok Q):XO pg kb (.mks e ag bytes z) s h vs Q t=XV (MV h (kb+s) e ag bytes z vs) Q ⟨⟩:=dH rfl s h vs Q
theorem S0 (q:Nat) (s:Nat) (h:Hp) (vs:List AV) (Q:AV->Eff->Prop) (t:Tok Q):XO pg kb (.len q) s h vs Q t=XV (EM h q vs) Q ⟨⟩:=dH rfl s h vs Q
theorem P0 (n:Nat) (s:Nat) (h:Hp) (vs:List AV) (Q:AV->Eff->Prop) (t:Tok Q):XO pg kb (.lenc n) s h vs Q t=XV (GR n vs) Q ⟨⟩:=dH rfl s h vs Q
theorem TC (s:Nat) (h:Hp) (vs:List AV) (Q:AV->Eff->Prop) (t:Tok Q):XO pg kb (.cap) s h vs Q t=XV (M5 h vs) Q ⟨⟩:=dH rfl s h vs Q
theorem gE (e:Nat) (ag:Bool) (bytes:Nat) (s:Nat) (h:Hp) (vs:List AV) (Q:AV->Eff->Prop) (t:Tok Q):XO pg kb (.app e ag bytes) s h vs Q t=XV (lP h (kb+s) e ag bytes vs) Q ⟨⟩:=dH rfl s h vs Q
theorem TB (e:Nat) (ag:Bool) (s:Nat) (h:Hp) (vs:List AV) (Q:AV->Eff->Prop) (t:Tok Q):XO pg kb (.cpy e ag) s h vs Q t=XV (EN h e ag vs) Q ⟨⟩:=dH rfl s h vs Q
theorem VE (s:Nat) (h:Hp) (vs:List AV) (Q:AV->Eff->Prop) (t:Tok Q):XO pg kb (.mn) s h vs Q t=XV (R5 vs) Q ⟨⟩:=dH rfl s h vs Q
theorem VD (s:Nat) (h:Hp) (vs:List AV) (Q:AV->Eff->Prop) (t:Tok Q):XO pg kb (.mx) s h vs Q t=XV (R4 vs) Q ⟨⟩:=dH rfl s h vs Q
theorem S6 (i:Nat) (s:Nat) (h:Hp) (vs:List AV) (Q:AV->Eff->Prop) (t:Tok Q):XO pg kb (.ext i) s h vs Q t=XV (M1 i vs) Q ⟨⟩:=dH rfl s h vs Q
theorem SY (s:Nat) (h:Hp) (vs:List AV) (Q:AV->Eff->Prop) (t:Tok Q):XO pg kb (.mki) s h vs Q t=XV (MW vs) Q ⟨⟩:=dH rfl s h vs Q
theorem SZ (f:Nat) (s:Nat) (h:Hp) (vs:List AV) (Q:AV->Eff->Prop) (t:Tok Q):XO pg kb (.mkf f) s h vs Q t=XV (MX f vs) Q ⟨⟩:=dH rfl s h vs Q
theorem JS (a:AV) (l:List AV):iB (a :: l) 0=a:=rfl
theorem JT (a:AV) (l:List AV) (n:Nat):iB (a :: l) (n+1)=iB l n:=by simp [iB]
theorem I5 (l:List AV) (v:AV):d8 l none v=l:=rfl
theorem I3 (a:AV) (l:List AV) (v:AV):d8 (a :: l) (some 0) v=v :: l:=rfl
theorem I4 (a:AV) (l:List AV) (v:AV) (n:Nat):d8 (a :: l) (some (n+1)) v=a :: d8 l (some n) v:=rfl
theorem PO (h:Hp) (rd:List Nat):Eff.app h (.pat rd [])=h:=rfl
theorem kB (h:Hp) (rd:List Nat) (k e:Nat) (o:Ob):Eff.app h (.pat rd [⟨k,e,o⟩])=h.put k e o:=rfl
theorem t8 (h:Hp) (rd:List Nat) (k e k' e':Nat) (o o':Ob):Eff.app h (.pat rd [⟨k,e,o⟩,⟨k',e',o'⟩])=(h.put k e o).put k' e' o':=rfl
theorem KI (h h':Hp):Eff.app h (.whole h')=h':=rfl
theorem KG (v:AV):val v=some (v,.pat [] []):=rfl
theorem PB (h:Hp) (k:Nat) (o:Ob) (v:Nat->AV):oA h k o v=some (v (h.next k),.pat [k] [⟨k,h.next k,o⟩]):=rfl
theorem LV (k:Nat):Hp.next [] k=0:=rfl
theorem LU (h:Hp) (k e:Nat) (o:Ob) (q:Nat):(h.put k e o).next q=if k=q then e+1 else h.next q:=by
 simp only [Hp.next,aG];by_cases c:k=q<;>simp [c]
theorem H6 (k:Nat):Hp.get [] k=none:=rfl
theorem JP (cs:List AV):AV.isAgg (.agg cs)=true:=rfl
theorem J9 (cs:List AV):AV.cells (.agg cs)=cs:=rfl
theorem AW (cs:List AV) (off sz:Nat):fD cs off sz true=if off+sz<=cs.length then some (.agg ((cs.drop off).take sz)) else none:=rfl
theorem JC (cs:List AV) (off sz:Nat):fD cs off sz false=cs[off]?:=rfl
theorem HF {α β : Type} (x : α) (f : α -> Option β):(some x).bind f=f x:=rfl
theorem JJ {α β : Type} (x : α) (f : α -> β):(some x).map f=some (f x):=rfl
theorem TM (e:List AV) (h:Hp):(St.mk e h).env=e:=rfl
theorem VF (e:List AV) (h:Hp):(St.mk e h).hp=h:=rfl
theorem P6 (a b:Nat) (c:List (Sum Nat (Nat × Nat × Bool))) (d:C):(CF.mk a b c d).body=d:=rfl
theorem TS (a b:Nat) (c:List (Sum Nat (Nat × Nat × Bool))) (d:C):(CF.mk a b c d).res=c:=rfl
theorem VJ (a b:Nat) (c:List (Sum Nat (Nat × Nat × Bool))) (d:C):(CF.mk a b c d).nt=b:=rfl
theorem fits_bool (b:Bool) (sz:Nat) (ag:Bool):AV.fits (.bool b) sz ag=(!ag&&sz == 1):=rfl
theorem AB (b:Bool):AV.tree (.bool b)=true:=by simp [AV.tree]
theorem fits_int (k:IntKind) (n:Int) (sz:Nat) (ag:Bool):AV.fits (.int k n) sz ag=(!ag&&sz == 1):=rfl
theorem C6 (k:IntKind) (n:Int):AV.tree (.int k n)=true:=by simp [AV.tree]
theorem fits_str (b:List UInt8) (sz:Nat) (ag:Bool):AV.fits (.str b) sz ag=(!ag&&sz == 1):=rfl
theorem KR (b:List UInt8):AV.tree (.str b)=true:=by simp [AV.tree]
theorem fits_sl (nl:Bool) (es:List AV) (cl:Bool) (sz:Nat) (ag:Bool):AV.fits (.sl nl es cl) sz ag=(!ag&&sz == 1):=rfl
theorem lS (nl:Bool) (es:List AV) (cl:Bool):AV.tree (.sl nl es cl)=treeL es:=by simp [AV.tree]
theorem fits_fp (v:AV) (sz:Nat) (ag:Bool):AV.fits (.fp v) sz ag=(!ag&&sz == 1):=rfl
theorem BW (v:AV):AV.tree (.fp v)=v.tree:=by simp [AV.tree]
theorem fits_nilp  (sz:Nat) (ag:Bool):AV.fits (.nilp ) sz ag=(!ag&&sz == 1):=rfl
theorem IU  : AV.tree (.nilp )=true:=by simp [AV.tree]
theorem fits_nilf  (sz:Nat) (ag:Bool):AV.fits (.nilf ) sz ag=(!ag&&sz == 1):=rfl
theorem IW  : AV.tree (.nilf )=true:=by simp [AV.tree]
theorem fits_nili  (sz:Nat) (ag:Bool):AV.fits (.nili ) sz ag=(!ag&&sz == 1):=rfl
theorem IV  : AV.tree (.nili )=true:=by simp [AV.tree]
theorem fits_fn (f:Nat) (cs:List AV) (sz:Nat) (ag:Bool):AV.fits (.fn f cs) sz ag=(!ag&&sz == 1):=rfl
theorem oN (f:Nat) (cs:List AV):AV.tree (.fn f cs)=treeL cs:=by simp [AV.tree]
theorem fits_rf (k e o l c:Nat) (sz:Nat) (ag:Bool):AV.fits (.rf k e o l c) sz ag=(!ag&&sz == 1):=rfl
theorem OF (k e o l c:Nat):AV.tree (.rf k e o l c)=false:=by simp [AV.tree]
theorem fits_pt (k e o:Nat) (sz:Nat) (ag:Bool):AV.fits (.pt k e o) sz ag=(!ag&&sz == 1):=rfl
theorem OG (k e o:Nat):AV.tree (.pt k e o)=false:=by simp [AV.tree]
theorem fits_ifc (v:AV) (sz:Nat) (ag:Bool):AV.fits (.ifc v) sz ag=(!ag&&sz == 1):=rfl
theorem KS (v:AV):AV.tree (.ifc v)=v.tree:=by simp [AV.tree]
theorem fits_agg (cs:List AV) (sz:Nat) (ag:Bool):AV.fits (.agg cs) sz ag=(ag&&cs.length == sz):=rfl
theorem xI (cs:List AV):AV.tree (.agg cs)=treeL cs:=by simp [AV.tree]
theorem KQ (cs:List AV):AV.tree (.tup cs)=treeL cs:=by simp [AV.tree]
theorem LR (b:Bool):AV.one (.bool b)=true:=rfl
theorem O9 (k:IntKind) (n:Int):AV.one (.int k n)=true:=rfl
theorem O8 (b:List UInt8):AV.one (.str b)=true:=rfl
theorem RO (nl:Bool) (es:List AV) (cl:Bool):AV.one (.sl nl es cl)=true:=rfl
theorem RR (v:AV):AV.one (.fp v)=true:=rfl
theorem LO  : AV.one (.nilp )=true:=rfl
theorem LQ  : AV.one (.nilf )=true:=rfl
theorem LP  : AV.one (.nili )=true:=rfl
theorem RS (f:Nat) (cs:List AV):AV.one (.fn f cs)=true:=rfl
theorem RP (k e o l c:Nat):AV.one (.rf k e o l c)=true:=rfl
theorem RQ (k e o:Nat):AV.one (.pt k e o)=true:=rfl
theorem PA (v:AV):AV.one (.ifc v)=true:=rfl
theorem JW (b:Bool):AV.flat (.bool b)=true:=by simp [AV.flat]
theorem MQ (k:IntKind) (n:Int):AV.flat (.int k n)=true:=by simp [AV.flat]
theorem MP (b:List UInt8):AV.flat (.str b)=true:=by simp [AV.flat]
attribute [go_sem] LR O9 O8 RO RR LO LQ LP RS RP RQ PA JW MQ MP List.append_nil
theorem L7 (nl:Bool) (es:List AV) (cl:Bool):AV.isNil 1 (.sl nl es cl)=some nl:=rfl
theorem L8 (k e o l c:Nat):AV.isNil 1 (.rf k e o l c)=some false:=rfl
theorem GB:AV.isNil 4 .nili=some true:=rfl
theorem JL (v:AV):AV.isNil 4 (.ifc v)=some false:=rfl
theorem GA:AV.isNil 0 .nilp=some true:=rfl
theorem MA (v:AV):AV.isNil 0 (.fp v)=some false:=rfl
theorem L9 (k e o:Nat):AV.isNil 0 (.pt k e o)=some false:=rfl
theorem GC:AV.isNil 3 .nilf=some true:=rfl
theorem MB (f:Nat) (cs:List AV):AV.isNil 3 (.fn f cs)=some false:=rfl
attribute [go_sem ↓] PP PR SO SP PQ PT SN N1 SR PV N3 SQ PU N2 Iq FG QG QK QH QJ QI IM
 IY IZ IX HD HE HC M9 M8 NF NE
attribute [go_sem] Iq FG QG QK QH QJ QI IM N5 PW KJ KK
 SW TD N7 N6 PY PZ N4 PX TE TF S8 S7 VC TA S9 SV TG S4 S5 S3 S1 S2 ST SS SU SX S0 P0 TC TB VE VD S6 SY SZ
theorem G7 (b:Bool):AV.cells (.bool b)=[.bool b]:=rfl
theorem GG (b:Bool):AV.isAgg (.bool b)=false:=rfl
theorem J7 (k:IntKind) (n:Int):AV.cells (.int k n)=[.int k n]:=rfl
theorem JN (k:IntKind) (n:Int):AV.isAgg (.int k n)=false:=rfl
theorem J6 (b:List UInt8):AV.cells (.str b)=[.str b]:=rfl
theorem JM (b:List UInt8):AV.isAgg (.str b)=false:=rfl
theorem NK (nl:Bool) (es:List AV) (cl:Bool):AV.cells (.sl nl es cl)=[.sl nl es cl]:=rfl
theorem MD (nl:Bool) (es:List AV) (cl:Bool):AV.isAgg (.sl nl es cl)=false:=rfl
theorem NN (v:AV):AV.cells (.fp v)=[.fp v]:=rfl
theorem MG (v:AV):AV.isAgg (.fp v)=false:=rfl
theorem G4  : AV.cells (.nilp )=[.nilp ]:=rfl
theorem GD  : AV.isAgg (.nilp )=false:=rfl
theorem G6  : AV.cells (.nilf )=[.nilf ]:=rfl
theorem GF  : AV.isAgg (.nilf )=false:=rfl
theorem G5  : AV.cells (.nili )=[.nili ]:=rfl
theorem GE  : AV.isAgg (.nili )=false:=rfl
theorem NO (f:Nat) (cs:List AV):AV.cells (.fn f cs)=[.fn f cs]:=rfl
theorem MI (f:Nat) (cs:List AV):AV.isAgg (.fn f cs)=false:=rfl
theorem NL (k e o l c:Nat):AV.cells (.rf k e o l c)=[.rf k e o l c]:=rfl
theorem ME (k e o l c:Nat):AV.isAgg (.rf k e o l c)=false:=rfl
theorem NM (k e o:Nat):AV.cells (.pt k e o)=[.pt k e o]:=rfl
theorem MF (k e o:Nat):AV.isAgg (.pt k e o)=false:=rfl
theorem J8 (v:AV):AV.cells (.ifc v)=[.ifc v]:=rfl
theorem JO (v:AV):AV.isAgg (.ifc v)=false:=rfl
attribute [go_sem] G7 GG J7 JN J6 JM NK MD NN MG G4 GD G6 GF G5 GE NO MI NL ME NM MF J8 JO List.all_cons List.all_nil
attribute [go_sem] JS JT I5 I3 I4 aG PO kB t8 KI KG PB H6 LV LU
 JP J9 AW JC R7 exists_eq_left' HF JJ X.ev TM VF P6 TS VJ
 MU jA CS CR GO GQ CQ GN ID M6 M2 yZ R2 M4 M3 MT EO i7 i8 M0 MY MZ fO qP MS MV EM GR M5 lP EN R5 R4 M1 MW MX
 NX bin SJ NW oF cY L7 L8 GB JL GA MA L9 GC MB fits_agg fits_bool fits_int fits_str fits_sl fits_fp fits_nilp fits_fn fits_rf fits_pt fits_nilf fits_nili fits_ifc  bS AB C6 KR xI KQ lS BW IU IV IW oN KS OF OG eqC enter result oS vO
 List.map_cons List.map_nil List.length_cons List.length_nil List.replicate_succ List.replicate_zero List.cons_append List.nil_append List.getElem?_cons_zero List.getElem?_cons_succ List.drop_zero List.drop_succ_cons List.take_succ_cons List.take_zero
 Option.getD_some
end Go.Tev
end
