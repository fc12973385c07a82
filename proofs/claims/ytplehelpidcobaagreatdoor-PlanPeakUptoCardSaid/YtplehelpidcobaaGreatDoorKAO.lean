import Derived.Test.YtplehelpidcobaaGreatDoorKAG
import Derived.KernelRfl
set_option linter.all false
section
namespace Go.Tev
structure EF where
 nt:Nat
 dt:Bool
 l:List (Nat × AV)
def wW (nt:Nat) (dt:Bool) (t:Nat):List (Nat × AV)->AV
 | []=>bif dt then (bif t.blt nt then .tup [] else .top) else .top
 | p :: r=>bif p.1.beq t then p.2 else wW nt dt t r
def EF.get (e:EF) (t:Nat):AV:=wW e.nt e.dt t e.l
def EF.set (e:EF):Option Nat->AV->EF
 | none,_=>e
 | some d,v=>bif d.blt e.nt then ⟨e.nt,e.dt,(d,v) :: e.l⟩ else e
def tQ (e:EF):Nat->List Bool->Option (List (Nat × AV))
 | i,[]=>bif e.nt.ble i then some [] else none
 | i,true :: m=>(tQ e (i+1) m).map ((i,e.get i) :: ·)
 | i,false :: m=>tQ e (i+1) m
def EF.clear (e:EF) (m:List Bool):Option EF:=(tQ e 0 m).map fun l=>⟨e.nt,false,l⟩
def B6:Nat->List AV->List (Nat × AV)
 | _,[]=>[]
 | i,v :: r=>(i,v) :: B6 (i+1) r
def C6 (cf:CF) (args:List AV):EF:=⟨args.length+(cf.nt - args.length),true,B6 0 args⟩
def s7 (e:EF) (env:List AV):Prop:=env.length=e.nt/\∀ t,iD env t=e.get t
theorem s7.set {e:EF} {env:List AV} (h:s7 e env) (d:Option Nat) (v:AV):s7 (e.set d v) (eF env d v):=by
 cases d with
 | none=>exact h
 | some d=>
  refine ⟨?_,?_⟩
  ·rw [qT,h.1]
   simp only [EF.set,cond_eq_ite]
   split<;>rfl
  ·intro t
   rw [u7]
   simp only [EF.set,cond_eq_ite,Nat.blt_eq]
   by_cases hd:d < e.nt
   ·rw [if_pos hd]
    simp only [EF.get,wW,cond_eq_ite,Nat.beq_eq]
    by_cases ht:d=t
    ·subst ht
     rw [if_pos ⟨rfl,by rw [h.1];exact hd⟩,if_pos rfl]
    ·rw [if_neg (by rintro ⟨q,_⟩;exact ht (by simpa using q)),if_neg ht]
     exact h.2 t
   ·rw [if_neg hd,if_neg (by rintro ⟨q,q2⟩;simp at q;subst q;rw [h.1] at q2;exact hd q2)]
    exact h.2 t
theorem u3 {e:EF} {nt:Nat}:∀ {m:List Bool} {i:Nat} {l:List (Nat × AV)},tQ e i m=some l ->
  e.nt<=i+m.length/\∀ t,wW nt false t l=if i<=t/\m[t - i]?=some true then e.get t else .top
 | [],i,l,h=>by
  simp only [tQ,cond_eq_ite] at h
  split at h
  ·rename_i q
   cases h
   refine ⟨by simpa using q,fun t=>?_⟩
   simp [wW]
  ·cases h
 | true :: m,i,l,h=>by
  simp only [tQ] at h
  cases hk:tQ e (i+1) m with
  | none=>simp [hk] at h
  | some l'=>
   simp [hk] at h
   subst h
   obtain ⟨h1,h2⟩:=u3 (nt:=nt) hk
   refine ⟨by simp;omega,fun t=>?_⟩
   simp only [wW,cond_eq_ite,Nat.beq_eq]
   by_cases ht:i=t
   ·subst ht;simp
   ·rw [if_neg ht,h2]
    by_cases hle:i+1<=t
    ·have:t - i=(t - (i+1))+1:=by omega
     simp [hle,this,show i<=t by omega]
    ·rw [if_neg (by omega),if_neg (by omega)]
 | false :: m,i,l,h=>by
  simp only [tQ] at h
  obtain ⟨h1,h2⟩:=u3 (nt:=nt) h
  refine ⟨by simp;omega,fun t=>?_⟩
  rw [h2]
  by_cases hle:i+1<=t
  ·have:t - i=(t - (i+1))+1:=by omega
   simp [hle,this,show i<=t by omega]
  ·by_cases ht:i=t
   ·subst ht
    simp
    intro q
    omega
   ·rw [if_neg (by omega),if_neg (by omega)]
theorem sW:∀ (m:List Bool) (env:List AV) (t:Nat),env.length<=m.length->iD (clear m env) t=if m[t]?=some true then iD env t else .top
 | [],env,t,h=>by
  have:env=[]:=List.eq_nil_of_length_eq_zero (by simpa using h)
  subst this
  simp [clear,iD]
 | b :: m,[],t,h=>by
  cases b<;>simp [clear,iD]
 | true :: m,v :: r,0,h=>by simp [clear,iD]
 | false :: m,v :: r,0,h=>by simp [clear,iD]
 | true :: m,v :: r,t+1,h=>by
  have:=sW m r t (by simpa using h)
  simpa [clear,iD] using this
 | false :: m,v :: r,t+1,h=>by
  have:=sW m r t (by simpa using h)
  simpa [clear,iD] using this
theorem s7.clear {e e':EF} {env:List AV} (h:s7 e env) {m:List Bool} (hc:e.clear m=some e'):s7 e' (Tev.clear m env):=by
 unfold EF.clear at hc
 cases hk:tQ e 0 m with
 | none=>simp [hk] at hc
 | some l=>
  simp [hk] at hc
  subst hc
  obtain ⟨h1,h2⟩:=u3 (nt:=e.nt) hk
  refine ⟨by rw [pF];exact h.1,fun t=>?_⟩
  rw [sW m env t (by rw [h.1];omega)]
  simp only [EF.get]
  rw [h2,h.2 t]
  simp
theorem vL {nt:Nat} {dt:Bool}:∀ {args:List AV} {i t:Nat},wW nt dt t (B6 i args)=if h:i<=t/\t - i < args.length then args[t - i]'h.2 else wW nt dt t []
 | [],i,t=>by simp [B6]
 | v :: r,i,t=>by
  simp only [B6,wW,cond_eq_ite,Nat.beq_eq]
  by_cases ht:i=t
  ·subst ht;simp
  ·rw [if_neg ht,vL]
   by_cases hle:i+1<=t
   ·have e1:t - i=(t - (i+1))+1:=by omega
    by_cases hl:t - (i+1) < r.length
    ·rw [dif_pos ⟨hle,hl⟩,dif_pos ⟨by omega,by simp;omega⟩]
     simp [e1]
    ·rw [dif_neg (by omega),dif_neg (by simp;omega)]
     simp [wW,cond_eq_ite]
   ·rw [dif_neg (by omega),dif_neg (by omega)]
    simp [wW,cond_eq_ite]
theorem s7.enter (cf:CF) (args:List AV):s7 (C6 cf args) (Tev.enter cf args):=by
 refine ⟨by simp [Tev.enter,C6],fun t=>?_⟩
 simp only [EF.get,C6,vL,Tev.enter,iD]
 by_cases h:t < args.length
 ·rw [dif_pos ⟨Nat.zero_le _,by simpa using h⟩]
  simp [List.getElem?_append_left h,h]
 ·rw [dif_neg (by simpa using h),List.getElem?_append_right (by omega)]
  simp only [wW,cond_true,cond_eq_ite,Nat.blt_eq,List.getElem?_replicate]
  by_cases h2:t < args.length+(cf.nt - args.length)
  ·rw [if_pos (by omega),if_pos h2];rfl
  ·rw [if_neg (by omega),if_neg h2];rfl
def X.evE (gl:Nat->Option AV) (e:EF):X->AV
 | .t n=>e.get n
 | .c v=>v
 | .g n=>match gl n with | some v => .fp v | none => .top
 | .f n => .fn n []
structure StE where
 env:EF
 hp:Hp
def B9 (e:EF):Option (Nat × Bool)->Option Bool
 | none=>some true
 | some (t,b)=>
  match e.get t with
  | .bool c=>some (c == b)
  | .tup []=>some false
  | _=>none
def II (gl:Nat->Option AV) (call:bE) (kb:Nat) (r:R) (st:StE):Option (StE × Eff):=
 match B9 st.env r.gd with
 | none=>none
 | some false=>some (⟨st.env.set r.d (.tup []),st.hp⟩,.pat [] [])
 | some true=>
  match opR call kb r st.hp (r.xs.map (X.evE gl st.env)) with
  | some (v,eff)=>some (⟨st.env.set r.d v,eff.app st.hp⟩,eff)
  | none=>none
def A1 (gl:Nat->Option AV) (call:bE) (kb:Nat):List R->StE->Option StE
 | [],st=>some st
 | r :: rs,st=>
  match II gl call kb r st with
  | some (st',_)=>A1 gl call kb rs st'
  | none=>none
def uT (gl:Nat->Option AV) (call:bE) (kb:Nat):List R->StE->Option (StE × List Eff)
 | [],st=>some (st,[])
 | r :: rs,st=>
  match II gl call kb r st with
  | some (st',e)=>(uT gl call kb rs st').map fun (s,l)=>(s,e :: l)
  | none=>none
def ES (f:StE->Option (Ex × StE)) (clr:List Bool):Nat->StE->Option (Ex × StE)
 | 0,_=>none
 | n+1,st=>
  match st.env.clear clr with
  | none=>none
  | some e=>
   match f ⟨e,st.hp⟩ with
   | some (.nor,st')=>ES f clr n st'
   | r=>r
def EF.list (e:EF):List AV:=(List.range e.nt).map e.get
def EF.of (env:List AV):EF:=⟨env.length,false,B6 0 env⟩
theorem s7.list {e:EF} {env:List AV} (h:s7 e env):e.list=env:=by
 apply List.ext_getElem
 ·simp [EF.list,h.1]
 ·intro i h1 h2
  have:=h.2 i
  simp only [iD,List.getElem?_eq_getElem h2,Option.getD_some] at this
  simp [EF.list,this]
theorem s7.of (env:List AV):s7 (EF.of env) env:=by
 refine ⟨rfl,fun t=>?_⟩
 simp only [EF.get,EF.of,vL,iD]
 by_cases h:t < env.length
 ·rw [dif_pos ⟨Nat.zero_le _,by simpa using h⟩]
  simp [h]
 ·rw [dif_neg (by simpa using h),List.getElem?_eq_none (by omega)]
  rfl
def N7 (env:EF) (k e:Nat) (h:Hp):Option (Ex × StE):=
 match I9 [] k e h with
 | some (x,st)=>some (x,⟨env,st.hp⟩)
 | none=>none
def jV (gl:Nat->Option AV) (call:bE) (kb n:Nat):C->StE->Option (Ex × StE)
 | .skip,st=>some (.nor,st)
 | .reg rs false,st=>(A1 gl call kb rs st).map fun s=>(.nor,s)
 | .reg rs true,st=>
  match uT gl call kb rs st with
  | some (s,es)=>if gI 0 rs es then some (.nor,s) else none
  | none=>none
 | .seq a b,st=>
  match jV gl call kb n a st with
  | some (.nor,st')=>jV gl call kb n b st'
  | r=>r
 | .cond c a b,st=>
  match c.evE gl st.env with
  | .bool true=>jV gl call kb n a st
  | .bool false=>jV gl call kb n b st
  | _=>none
 | .block id b,st=>
  match jV gl call kb n b st with
  | some (.ext i,st')=>bif i.beq id then some (.nor,st') else some (.ext i,st')
  | r=>r
 | .loop b clr,st=>ES (jV gl call kb n b) clr n st
 | .exit id,st=>some (.ext id,st)
 | .ret,st=>some (.ret,st)
 | .rf x s ps a b,st=>
  match x.evE gl st.env with
  | .fn f cs=>
   match call f (.yl (kb+s) (st.hp.next (kb+s)) :: cs) ((kb+s+1)*65536) (st.hp.put (kb+s) (st.hp.next (kb+s)) (.lp 0 kb st.env.list ps a b)) with
   | some (_,h')=>N7 st.env (kb+s) (st.hp.next (kb+s)) h'
   | none=>none
  | _=>none
 | .bad,_=>none
def CR (st:StE):Sum Nat (Nat × Nat × Bool)->Option AV
 | .inl t=>some (st.env.get t)
 | .inr (t,sz,ag)=>
  match st.env.get t with
  | .pt k e off=>match st.hp.get k with
   | some (e',.blk cs _ _ _ _)=>if e'=e then fK cs off sz ag else none
   | _=>none
  | _=>none
def w7 (st:StE):List (Sum Nat (Nat × Nat × Bool))->Option (List AV)
 | []=>some []
 | x :: r=>
  match CR st x,w7 st r with
  | some v,some l=>some (v :: l)
  | _,_=>none
def CQ (st:StE) (rs:List (Sum Nat (Nat × Nat × Bool))):Option AV:=
 match w7 st rs with
 | some [v]=>some v
 | some l=>some (.tup l)
 | none=>none
def CV (memo:Nat->List AV->Option AV) (f:Nat) (args:List AV):Nat->Hp->Option AV
 | 0,[]=>memo f args
 | _,_=>none
def LZ (ex:C->Nat->StE->Option (Ex × StE)) (c:C) (b:Nat) (st:St):Option (Ex × St):=
 match ex c b ⟨EF.of st.env,st.hp⟩ with
 | some (x,s)=>some (x,⟨s.env.list,s.hp⟩)
 | none=>none
def jX (pg:Pg) (memo:Nat->List AV->Option AV):Nat->bE
 | 0=>⟨fun _ _ _ _=>none,fun _ _ _ _=>none⟩
 | n+1=>⟨fun f args kb h=>
  match CV memo f args kb h with
  | some r=>some (r,[])
  | none=>
   match pg.fs f with
   | none=>
    match pg.ex f with
    | some g=>g args kb h
    | none=>none
   | some cf=>
    match jV pg.gl (jX pg memo n) kb n cf.body ⟨C6 cf args,h⟩ with
    | some (.ext _,_)=>none
    | some (_,st)=>(CQ st cf.res).map fun v=>(v,st.hp)
    | none=>none,
  uO (LZ fun c b st=>jV pg.gl (jX pg memo n) b n c st)⟩
structure StR (s:StE) (t:St):Prop where
 env:s7 s.env t.env
 hp:s.hp=t.hp
end Go.Tev
end
section
namespace Go.Tev
structure kF (c c':bE):Prop where
 fn:∀ f a kb h r,c f a kb h=some r->c' f a kb h=some r
 yl:∀ k e a h r,c.yl k e a h=some r->c'.yl k e a h=some r
theorem kF.refl (c:bE):kF c c:=⟨fun _ _ _ _ _ h=>h,fun _ _ _ _ _ h=>h⟩
theorem qH {ex ex':C->Nat->St->Option (Ex × St)} (hx:∀ c b st r,ex c b st=some r->ex' c b st=some r) {k e:Nat} {a:List AV} {h:Hp} {r:AV × Hp} (h1:uO ex k e a h=some r):uO ex' k e a h=some r:=by
 unfold uO at h1 ⊢
 split at h1
 case h_2=>cases h1
 split at h1
 case isFalse=>cases h1
 rename_i hc
 rw [if_pos hc]
 split at h1
 case h_2=>cases h1
 rename_i he1
 rw [hx _ _ _ _ he1]
 simp only
 split at h1
 case h_2=>cases h1
 split at h1
 case isFalse=>cases h1
 rename_i hc2
 rw [if_pos hc2]
 split at h1
 case h_2=>cases h1
 rename_i he2
 rw [hx _ _ _ _ he2]
 exact h1
theorem jO {c c':bE} (hc:kF c c') {f:Nat} {ts:List AV} {r:AV} (h:eA c f ts=some r):eA c' f ts=some r:=by
 unfold eA at h ⊢
 cases hq:c f ts 0 [] with
 | none=>simp [hq] at h
 | some p=>rw [hq] at h;rw [hc.fn _ _ _ _ _ hq];exact h
theorem zS {c c':bE} (hc:kF c c') {kb s:Nat} {h:Hp} {f:Nat} {th im:Bool} {vs:List AV} {r:AV × Eff} (h1:lU c kb s h f th im vs=some r):lU c' kb s h f th im vs=some r:=by
 unfold lU at h1 ⊢
 cases hm:(if im then none else cD (snap depth h) vs) with
 | some p=>
  rw [hm] at h1
  simp only at h1 ⊢
  cases hp:eA c f p.1 with
  | none=>simp [hp] at h1
  | some q=>
   rw [hp] at h1
   rw [jO hc hp]
   exact h1
 | none=>
  rw [hm] at h1
  simp only at h1 ⊢
  cases hp:c f vs (iU kb s vs) h with
  | none=>simp [hp] at h1
  | some q=>
   rw [hp] at h1
   rw [hc.fn _ _ _ _ _ hp]
   exact h1
theorem AK {c c':bE} (hc:kF c c') {h:Hp} {f:Nat} {vs:List AV}:∀ {n b:Nat} {x:AV × List Nat × List Ent},nL c h f vs n b=some x->nL c' h f vs n b=some x
 | 0,_,_,h1=>by simp [nL] at h1
 | n+1,b,x,h1=>by
  unfold nL at h1 ⊢
  cases hp:c f vs b [] with
  | none=>simp [hp] at h1
  | some q=>
   rw [hp] at h1
   rw [hc.fn _ _ _ _ _ hp]
   simp only at h1 ⊢
   split
   ·rename_i hh
    rw [if_pos hh] at h1
    exact h1
   ·rename_i hh
    rw [if_neg hh] at h1
    cases ht:nL c h f vs n (b+4096) with
    | none=>simp [ht] at h1
    | some y=>rw [ht] at h1;rw [AK hc ht];exact h1
theorem FU {c c':bE} (hc:kF c c') {kb s:Nat} {h:Hp} {f:Nat} {vs:List AV} {r:AV × Eff} (h1:lN c kb s h f vs=some r):lN c' kb s h f vs=some r:=by
 unfold lN at h1 ⊢
 split
 ·rename_i ht
  rw [if_pos ht] at h1
  cases hq:nL c h f vs 7 ((kb+s+1)*65536) with
  | none=>simp [hq] at h1
  | some y=>rw [hq] at h1;rw [AK hc hq];exact h1
 ·rename_i ht
  rw [if_neg ht] at h1
  cases h1
theorem FT {c c':bE} (hc:kF c c') {kb s:Nat} {h:Hp} {f:Nat} {vs:List AV} {r:AV × Eff} (h1:mV c kb s h f vs=some r):mV c' kb s h f vs=some r:=by
 unfold mV at h1 ⊢
 cases hq:c f vs (iU kb s vs) h with
 | none=>simp [hq] at h1
 | some y=>rw [hq] at h1;rw [hc.fn _ _ _ _ _ hq];exact h1
theorem EJ {c c':bE} (hc:kF c c') {kb:Nat} {r:R} {h:Hp} {vs:List AV} {x:AV × Eff} (h1:opR c kb r h vs=some x):opR c' kb r h vs=some x:=by
 unfold opR at h1 ⊢
 split at h1
 ·exact zS hc h1
 ·exact FU hc h1
 ·exact FT hc h1
 ·split at h1
  ·exact zS hc h1
  ·split at h1
   ·rename_i hy
    rw [hc.yl _ _ _ _ _ hy]
    exact h1
   ·cases h1
  ·cases h1
 ·exact h1
structure AI (c c':bE):Prop where
 off:∀ f a kb h r,kb ≠ 0->c f a kb h=some r->c' f a kb h=some r
 at0:∀ f a r,eA c f a=some r->eA c' f a=some r
 yl:∀ k e a h r,c.yl k e a h=some r->c'.yl k e a h=some r
theorem B5 (kb s:Nat) (vs:List AV):iU kb s vs ≠ 0:=by
 unfold iU
 split<;>omega
theorem wP {c c':bE} (hc:AI c c') {kb s:Nat} {h:Hp} {f:Nat} {th im:Bool} {vs:List AV} {r:AV × Eff} (h1:lU c kb s h f th im vs=some r):lU c' kb s h f th im vs=some r:=by
 unfold lU at h1 ⊢
 cases hm:(if im then none else cD (snap depth h) vs) with
 | some p=>
  rw [hm] at h1
  simp only at h1 ⊢
  cases hp:eA c f p.1 with
  | none=>simp [hp] at h1
  | some q=>
   rw [hp] at h1
   rw [hc.at0 _ _ _ hp]
   exact h1
 | none=>
  rw [hm] at h1
  simp only at h1 ⊢
  cases hp:c f vs (iU kb s vs) h with
  | none=>simp [hp] at h1
  | some q=>
   rw [hp] at h1
   rw [hc.off _ _ _ _ _ (B5 kb s vs) hp]
   exact h1
theorem xL {c c':bE} (hc:AI c c') {h:Hp} {f:Nat} {vs:List AV}:∀ {n b:Nat} {x:AV × List Nat × List Ent},b ≠ 0->nL c h f vs n b=some x->nL c' h f vs n b=some x
 | 0,_,_,_,h1=>by simp [nL] at h1
 | n+1,b,x,hb,h1=>by
  unfold nL at h1 ⊢
  cases hp:c f vs b [] with
  | none=>simp [hp] at h1
  | some q=>
   rw [hp] at h1
   rw [hc.off _ _ _ _ _ hb hp]
   simp only at h1 ⊢
   split
   ·rename_i hh
    rw [if_pos hh] at h1
    exact h1
   ·rename_i hh
    rw [if_neg hh] at h1
    cases ht:nL c h f vs n (b+4096) with
    | none=>simp [ht] at h1
    | some y=>rw [ht] at h1;rw [xL hc (by omega) ht];exact h1
theorem DB {c c':bE} (hc:AI c c') {kb s:Nat} {h:Hp} {f:Nat} {vs:List AV} {r:AV × Eff} (h1:lN c kb s h f vs=some r):lN c' kb s h f vs=some r:=by
 unfold lN at h1 ⊢
 split
 ·rename_i ht
  rw [if_pos ht] at h1
  cases hq:nL c h f vs 7 ((kb+s+1)*65536) with
  | none=>simp [hq] at h1
  | some y=>rw [hq] at h1;rw [xL hc (by omega) hq];exact h1
 ·rename_i ht
  rw [if_neg ht] at h1
  cases h1
theorem C9 {c c':bE} (hc:AI c c') {kb s:Nat} {h:Hp} {f:Nat} {vs:List AV} {r:AV × Eff} (h1:mV c kb s h f vs=some r):mV c' kb s h f vs=some r:=by
 unfold mV at h1 ⊢
 cases hq:c f vs (iU kb s vs) h with
 | none=>simp [hq] at h1
 | some y=>rw [hq] at h1;rw [hc.off _ _ _ _ _ (B5 kb s vs) hq];exact h1
theorem J7 {c c':bE} (hc:AI c c') {kb:Nat} {r:R} {h:Hp} {vs:List AV} {x:AV × Eff} (h1:opR c kb r h vs=some x):opR c' kb r h vs=some x:=by
 unfold opR at h1 ⊢
 split at h1
 ·exact wP hc h1
 ·exact DB hc h1
 ·exact C9 hc h1
 ·split at h1
  ·exact wP hc h1
  ·split at h1
   ·rename_i hy
    rw [hc.yl _ _ _ _ _ hy]
    exact h1
   ·cases h1
  ·cases h1
 ·exact h1
theorem xX {gl:Nat->Option AV} {c c':bE} (hc:kF c c') {kb:Nat} {r:R} {st:St} {x:St × Eff} (h1:jP gl c kb r st=some x):jP gl c' kb r st=some x:=by
 unfold jP at h1 ⊢
 generalize wanted st.env r.gd=wg at h1 ⊢
 rcases wg with _ | _ | _
 ·exact h1
 ·exact h1
 ·simp only at h1 ⊢
  cases ho:opR c kb r st.hp (r.xs.map (X.ev gl st.env)) with
  | none=>simp [ho] at h1
  | some p=>rw [ho] at h1;rw [EJ hc ho];exact h1
theorem uQ {gl:Nat->Option AV} {c c':bE} (hc:kF c c') {kb:Nat}:∀ {rs:List R} {st st':St},oX gl c kb rs st=some st'->oX gl c' kb rs st=some st'
 | [],_,_,h=>h
 | r :: rs,st,st',h=>by
  unfold oX at h ⊢
  cases hs:jP gl c kb r st with
  | none=>simp [hs] at h
  | some p=>
   rw [hs] at h
   rw [xX hc hs]
   exact uQ hc h
theorem sJ {gl:Nat->Option AV} {c c':bE} (hc:kF c c') {kb:Nat}:∀ {rs:List R} {st:St} {x:St × List Eff},iY gl c kb rs st=some x->iY gl c' kb rs st=some x
 | [],_,_,h=>h
 | r :: rs,st,x,h=>by
  unfold iY at h ⊢
  cases hs:jP gl c kb r st with
  | none=>simp [hs] at h
  | some p=>
   rw [hs] at h
   rw [xX hc hs]
   simp only at h ⊢
   cases hr:iY gl c kb rs p.1 with
   | none=>simp [hr] at h
   | some q=>rw [hr] at h;rw [sJ hc hr];exact h
theorem sR {f f':St->Option (Ex × St)} (hf:∀ st x,f st=some x->f' st=some x) {clr:List Bool}:∀ {n n':Nat} {st:St} {x:Ex × St},n<=n'->j7 f clr n st=some x->j7 f' clr n' st=some x
 | 0,_,_,_,_,h=>by simp [j7] at h
 | n+1,0,_,_,hn,_=>by omega
 | n+1,n'+1,st,x,hn,h=>by
  simp only [j7] at h ⊢
  cases hs:f ⟨clear clr st.env,st.hp⟩ with
  | none=>simp [hs] at h
  | some p=>
   rw [hs] at h
   rw [hf _ _ hs]
   obtain ⟨e,s⟩:=p
   cases e with
   | nor=>exact sR hf (by omega) h
   | ext id=>exact h
   | ret=>exact h
theorem oJ {gl:Nat->Option AV} {c c':bE} (hc:kF c c') {kb n n':Nat} (hn:n<=n'):∀ {k:C} {st:St} {x:Ex × St},cJ gl c kb n k st=some x->cJ gl c' kb n' k st=some x:=by
 intro k
 induction k with
 | skip=>intro st x h;exact h
 | reg rs d=>
  intro st x h
  cases d with
  | false=>
   simp only [cJ] at h ⊢
   cases hr:oX gl c kb rs st with
   | none=>simp [hr] at h
   | some s=>rw [hr] at h;rw [uQ hc hr];exact h
  | true=>
   simp only [cJ] at h ⊢
   cases hr:iY gl c kb rs st with
   | none=>simp [hr] at h
   | some s=>rw [hr] at h;rw [sJ hc hr];exact h
 | seq a b iha ihb=>
  intro st x h
  simp only [cJ] at h ⊢
  cases ha:cJ gl c kb n a st with
  | none=>simp [ha] at h
  | some p=>
   rw [ha] at h
   rw [iha ha]
   obtain ⟨e,s⟩:=p
   cases e with
   | nor=>exact ihb h
   | ext id=>exact h
   | ret=>exact h
 | cond x a b iha ihb=>
  intro st y h
  simp only [cJ] at h ⊢
  split at h
  ·exact iha h
  ·exact ihb h
  ·cases h
 | block id b ih=>
  intro st x h
  simp only [cJ] at h ⊢
  cases hb:cJ gl c kb n b st with
  | none=>simp [hb] at h
  | some p=>rw [hb] at h;rw [ih hb];exact h
 | loop b m ih=>
  intro st x h
  simp only [cJ] at h ⊢
  exact sR (fun st x q=>ih q) hn h
 | exit id=>intro st x h;exact h
 | ret=>intro st x h;exact h
 | rf x s ps a b=>
  intro st y h
  simp only [cJ] at h ⊢
  split at h
  case h_2=>cases h
  rename_i f cs hf
  split at h
  case h_2=>cases h
  rename_i rr h' hcall
  rw [hc.fn _ _ _ _ _ hcall]
  exact h
 | bad=>intro st x h;simp [cJ] at h
theorem fG (pg:Pg):∀ {n n':Nat},n<=n'->kF (bM pg n) (bM pg n')
 | 0,_,_=>⟨by intro f a kb h r hq;simp [bM] at hq,by intro k e a h r hq;simp [bM] at hq⟩
 | n+1,0,h=>by omega
 | n+1,n'+1,hn=>by
  refine ⟨?_,fun k e a h r hq=>by
   simp only [bM] at hq ⊢
   exact qH (fun c b st r hr=>oJ (fG pg (Nat.le_of_succ_le_succ hn)) (Nat.le_of_succ_le_succ hn) hr) hq⟩
  intro f a kb h r hq
  simp only [bM] at hq ⊢
  cases hf:pg.fs f with
  | none=>rw [hf] at hq;exact hq
  | some cf=>
   rw [hf] at hq
   simp only at hq ⊢
   cases he:cJ pg.gl (bM pg n) kb n cf.body ⟨enter cf a,h⟩ with
   | none=>simp [he] at hq
   | some p=>
    rw [he] at hq
    rw [oJ (fG pg (Nat.le_of_succ_le_succ hn)) (Nat.le_of_succ_le_succ hn) he]
    exact hq
theorem HK {gl:Nat->Option AV} {s:StE} {t:St} (h:StR s t) (x:X):x.evE gl s.env=x.ev gl t.env:=by
 cases x with
 | t n=>simp only [X.evE,X.ev];exact (h.env.2 n).symm
 | _=>rfl
theorem AN {gl:Nat->Option AV} {c c':bE} (hc:AI c c') {kb:Nat} {r:R} {s s':StE} {t:St} {e:Eff} (hst:StR s t) (h:II gl c kb r s=some (s',e)) :
  ∃ t',jP gl c' kb r t=some (t',e)/\StR s' t':=by
 have hw:B9 s.env r.gd=wanted t.env r.gd:=by
  unfold B9 wanted
  cases r.gd with
  | none=>rfl
  | some p=>
   simp only [hst.env.2]
   rfl
 have hx:r.xs.map (X.evE gl s.env)=r.xs.map (X.ev gl t.env):=List.map_congr_left (fun x _=>HK hst x)
 unfold II at h
 unfold jP
 rw [hw,hx] at h
 generalize wanted t.env r.gd=wg at h ⊢
 rcases wg with _ | _ | _
 ·cases h
 ·simp only at h ⊢
  cases h
  exact ⟨_,rfl,⟨hst.env.set _ _,hst.hp⟩⟩
 ·simp only at h ⊢
  rw [hst.hp] at h
  cases ho:opR c kb r t.hp (r.xs.map (X.ev gl t.env)) with
  | none=>simp [ho] at h
  | some p=>
   rw [ho] at h
   rw [J7 hc ho]
   simp only at h ⊢
   cases h
   exact ⟨_,rfl,⟨hst.env.set _ _,rfl⟩⟩
theorem A0 {gl:Nat->Option AV} {c c':bE} (hc:AI c c') {kb:Nat}:∀ {rs:List R} {s s':StE} {t:St},StR s t->A1 gl c kb rs s=some s'->∃ t',oX gl c' kb rs t=some t'/\StR s' t'
 | [],s,s',t,hst,h=>by
  simp [A1] at h
  subst h
  exact ⟨t,rfl,hst⟩
 | r :: rs,s,s',t,hst,h=>by
  unfold A1 at h
  unfold oX
  split at h
  case h_2=>cases h
  rename_i s1 e hs
  obtain ⟨t1,q1,q2⟩:=AN hc hst hs
  rw [q1]
  exact A0 hc q2 h
theorem yG {gl:Nat->Option AV} {c c':bE} (hc:AI c c') {kb:Nat}:∀ {rs:List R} {s s':StE} {t:St} {es:List Eff},StR s t->uT gl c kb rs s=some (s',es)->∃ t',iY gl c' kb rs t=some (t',es)/\StR s' t'
 | [],s,s',t,es,hst,h=>by
  simp [uT] at h
  obtain ⟨rfl,rfl⟩:=h
  exact ⟨t,rfl,hst⟩
 | r :: rs,s,s',t,es,hst,h=>by
  unfold uT at h
  unfold iY
  split at h
  case h_2=>cases h
  rename_i s1 e hs
  obtain ⟨t1,q1,q2⟩:=AN hc hst hs
  cases hr:uT gl c kb rs s1 with
  | none=>simp [hr] at h
  | some p=>
   obtain ⟨s2,es2⟩:=p
   simp [hr] at h
   obtain ⟨rfl,rfl⟩:=h
   obtain ⟨t2,q3,q4⟩:=yG hc q2 hr
   exact ⟨t2,by rw [q1];simp only;rw [q3];rfl,q4⟩
theorem BE {f:StE->Option (Ex × StE)} {f':St->Option (Ex × St)} (hf:∀ s t x s',StR s t->f s=some (x,s')->∃ t',f' t=some (x,t')/\StR s' t') {clr:List Bool} :
  ∀ {n n':Nat} {s s':StE} {t:St} {x:Ex},n<=n'->StR s t->ES f clr n s=some (x,s')->∃ t',j7 f' clr n' t=some (x,t')/\StR s' t'
 | 0,_,_,_,_,_,_,_,h=>by simp [ES] at h
 | n+1,0,_,_,_,_,hn,_,_=>by omega
 | n+1,n'+1,s,s',t,x,hn,hst,h=>by
  simp only [ES] at h
  simp only [j7]
  split at h
  case h_1=>cases h
  rename_i e he
  have hst':StR ⟨e,s.hp⟩ ⟨clear clr t.env,t.hp⟩:=⟨hst.env.clear he,hst.hp⟩
  split at h
  ·rename_i s1 h1
   obtain ⟨t1,q1,q2⟩:=hf _ _ _ _ hst' h1
   rw [q1]
   exact BE hf (by omega) q2 h
  ·rename_i hne
   obtain ⟨t1,q1,q2⟩:=hf _ _ _ _ hst' h
   rw [q1]
   cases x with
   | nor=>exact absurd h (hne _)
   | ext id=>exact ⟨t1,rfl,q2⟩
   | ret=>exact ⟨t1,rfl,q2⟩
theorem BV {gl:Nat->Option AV} {c c':bE} (hc:AI c c') {kb n n':Nat} (hn:n<=n'):∀ {k:C} {s s':StE} {t:St} {x:Ex},StR s t->jV gl c kb n k s=some (x,s') ->
  ∃ t',cJ gl c' kb n' k t=some (x,t')/\StR s' t':=by
 intro k
 induction k with
 | skip=>
  intro s s' t x hst h
  simp [jV] at h
  obtain ⟨rfl,rfl⟩:=h
  exact ⟨t,rfl,hst⟩
 | reg rs d=>
  intro s s' t x hst h
  cases d with
  | false=>
   simp only [jV] at h
   simp only [cJ]
   cases hr:A1 gl c kb rs s with
   | none=>simp [hr] at h
   | some s1=>
    simp [hr] at h
    obtain ⟨rfl,rfl⟩:=h
    obtain ⟨t1,q1,q2⟩:=A0 hc hst hr
    exact ⟨t1,by rw [q1];rfl,q2⟩
  | true=>
   simp only [jV] at h
   simp only [cJ]
   split at h
   case h_2=>cases h
   rename_i s1 es hr
   obtain ⟨t1,q1,q2⟩:=yG hc hst hr
   rw [q1]
   simp only
   split at h
   case isFalse=>cases h
   rename_i ha
   rw [if_pos ha]
   cases h
   exact ⟨t1,rfl,q2⟩
 | seq a b iha ihb=>
  intro s s' t x hst h
  simp only [jV] at h
  simp only [cJ]
  split at h
  ·rename_i s1 h1
   obtain ⟨t1,q1,q2⟩:=iha hst h1
   rw [q1]
   exact ihb q2 h
  ·rename_i hne
   obtain ⟨t1,q1,q2⟩:=iha hst h
   rw [q1]
   cases x with
   | nor=>exact absurd h (hne _)
   | ext id=>exact ⟨t1,rfl,q2⟩
   | ret=>exact ⟨t1,rfl,q2⟩
 | cond y a b iha ihb=>
  intro s s' t x hst h
  simp only [jV] at h
  simp only [cJ]
  rw [HK hst] at h
  split at h
  ·rename_i hb
   rw [hb]
   exact iha hst h
  ·rename_i hb
   rw [hb]
   exact ihb hst h
  ·cases h
 | block id b ih=>
  intro s s' t x hst h
  simp only [jV] at h
  simp only [cJ]
  split at h
  ·rename_i i s1 h1
   obtain ⟨t1,q1,q2⟩:=ih hst h1
   rw [q1]
   simp only [cond_eq_ite,Nat.beq_eq] at h ⊢
   split at h
   ·rename_i hi
    rw [if_pos hi]
    cases h
    exact ⟨t1,rfl,q2⟩
   ·rename_i hi
    rw [if_neg hi]
    cases h
    exact ⟨t1,rfl,q2⟩
  ·rename_i hne
   obtain ⟨t1,q1,q2⟩:=ih hst h
   rw [q1]
   cases x with
   | nor=>exact ⟨t1,rfl,q2⟩
   | ext id=>exact absurd h (hne _ _)
   | ret=>exact ⟨t1,rfl,q2⟩
 | loop b m ih=>
  intro s s' t x hst h
  simp only [jV] at h
  simp only [cJ]
  exact BE (fun s t x s' q1 q2=>ih q1 q2) hn hst h
 | exit id=>
  intro s s' t x hst h
  simp [jV] at h
  obtain ⟨rfl,rfl⟩:=h
  exact ⟨t,rfl,hst⟩
 | ret=>
  intro s s' t x hst h
  simp [jV] at h
  obtain ⟨rfl,rfl⟩:=h
  exact ⟨t,rfl,hst⟩
 | rf fx sk ps ca cb=>
  intro s s' t x hst h
  simp only [jV] at h
  simp only [cJ]
  rw [HK hst,hst.env.list,hst.hp] at h
  split at h
  case h_2=>cases h
  rename_i f cs hf
  rw [hf]
  simp only
  split at h
  case h_2=>cases h
  rename_i rr h' hcall
  rw [hc.off _ _ _ _ _ (by omega) hcall]
  simp only
  unfold N7 at h
  split at h
  case h_2=>cases h
  rename_i y st1 he
  cases h
  unfold I9 at he ⊢
  split at he
  case h_2=>cases he
  split at he
  case isFalse=>cases he
  rename_i hee
  rw [if_pos hee]
  split at he
  ·cases he;exact ⟨_,rfl,⟨hst.env,rfl⟩⟩
  ·cases he;exact ⟨_,rfl,⟨hst.env,rfl⟩⟩
  ·cases he;exact ⟨_,rfl,⟨hst.env,rfl⟩⟩
  ·cases he
 | bad=>
  intro s s' t x hst h
  simp [jV] at h
theorem GM {s:StE} {t:St} (hst:StR s t) (rs:List (Sum Nat (Nat × Nat × Bool))):CQ s rs=result t rs:=by
 have h1:∀ r,CR s r=vX t r:=by
  intro r
  cases r with
  | inl u=>simp only [CR,vX,hst.env.2]
  | inr p=>
   simp only [CR,vX,hst.env.2,hst.hp]
   rfl
 have h2:∀ rs,w7 s rs=oW t rs:=by
  intro rs
  induction rs with
  | nil=>rfl
  | cons r rs ih=>
   simp only [w7,oW,h1,ih]
   rfl
 unfold CQ result
 rw [h2]
 rfl
theorem HR {h:Hp} {v:AV} (hv:v.tree=true):conv h v=some v:=by
 have:snap depth h v=some (v,[]):=by unfold depth snap;rw [if_pos hv]
 cases v<;>first | (simp only [conv,this];rfl) | simp [AV.tree] at hv
theorem vK (pg:Pg) {memo:Nat->List AV->Option AV} {m:Nat} (hm:∀ f a r,memo f a=some r->r.tree=true/\eA (bM pg m) f a=some r):∀ n,AI (jX pg memo n) (bM pg (m+n))
 | 0=>⟨fun f a kb h r _ hq=>by simp [jX] at hq,fun f a r hq=>by simp [eA,jX] at hq,fun k e a h r hq=>by simp [jX] at hq⟩
 | n+1=>by
  have key:∀ f a kb h r,CV memo f a kb h=none->jX pg memo (n+1) f a kb h=some r->bM pg (m+(n+1)) f a kb h=some r:=by
   intro f a kb h r hn hq
   simp only [jX] at hq
   rw [hn] at hq
   simp only at hq
   rw [<- Nat.add_assoc]
   simp only [bM]
   split at hq
   ·rename_i hf
    rw [hf]
    exact hq
   ·rename_i cf hf
    rw [hf]
    simp only
    split at hq
    ·cases hq
    ·rename_i x s hne he
     obtain ⟨t,q1,q2⟩:=BV (t:=⟨enter cf a,h⟩) (vK pg hm n) (Nat.le_add_left n m) ⟨s7.enter cf a,rfl⟩ he
     rw [q1]
     rw [GM q2,q2.hp] at hq
     cases x with
     | nor=>exact hq
     | ret=>exact hq
     | ext id=>exact (hne id rfl).elim
    ·cases hq
  have hyl:∀ k e a h r,(jX pg memo (n+1)).yl k e a h=some r->(bM pg (m+(n+1))).yl k e a h=some r:=by
   intro k e a h r hq
   rw [<- Nat.add_assoc]
   refine qH (fun c b st r hr=>?_) hq
   unfold LZ at hr
   split at hr
   case h_2=>cases hr
   rename_i x s he
   cases hr
   obtain ⟨t,q1,q2⟩:=BV (t:=⟨st.env,st.hp⟩) (vK pg hm n) (Nat.le_add_left n m) ⟨s7.of st.env,rfl⟩ he
   have:t=⟨s.env.list,s.hp⟩:=by rw [q2.env.list,q2.hp]
   rw [q1,this]
  refine ⟨fun f a kb h r hk hq=>key f a kb h r ?_ hq,fun f a r hq=>?_,hyl⟩
  ·cases kb with
   | zero=>exact absurd rfl hk
   | succ k=>rfl
  ·unfold eA at hq
   cases hc:jX pg memo (n+1) f a 0 [] with
   | none=>simp [hc] at hq
   | some p=>
    rw [hc] at hq
    cases hme:memo f a with
    | some r'=>
     have:jX pg memo (n+1) f a 0 []=some (r',[]):=by simp only [jX,CV,hme]
     rw [this] at hc
     cases hc
     obtain ⟨h1,h2⟩:=hm f a r' hme
     simp only [HR h1,Option.some.injEq] at hq
     subst hq
     exact jO (fG pg (by omega)) h2
    | none=>
     have:=key f a 0 [] p (by simp [CV,hme]) hc
     unfold eA
     rw [this]
     exact hq
end Go.Tev
end
section
namespace Go.Tev
variable {pg:Pg} {kb:Nat}
def Ret (pg:Pg) (f:Nat) (ts:List AV) (r:AV):Prop:=∃ n,eA (bM pg n) f ts=some r
def pQ (pg:Pg) (f:Nat) (vs:List AV) (kb:Nat) (h:Hp) (r:AV) (h':Hp):Prop:=∃ n,bM pg n f vs kb h=some (r,h')
def WX (pg:Pg) (kb:Nat) (c:C) (st:St) (Q:Ex->St->Prop):Prop:=∃ n ex st',cJ pg.gl (bM pg n) kb n c st=some (ex,st')/\Q ex st'
def WR (pg:Pg) (kb:Nat) (rs:List R) (st:St) (K:St->Prop):Prop:=∃ n st',oX pg.gl (bM pg n) kb rs st=some st'/\K st'
def WT (pg:Pg) (kb:Nat) (rs:List R) (st:St) (K:St->List Eff->Prop):Prop:=∃ n st' es,iY pg.gl (bM pg n) kb rs st=some (st',es)/\K st' es
def WO (pg:Pg) (kb:Nat) (k:K) (s:Nat) (h:Hp) (vs:List AV) (Q:AV->Eff->Prop):Prop:=
 ∃ n v eff,opR (bM pg n) kb ⟨none,k,[],none,0,s⟩ h vs=some (v,eff)/\Q v eff
def lD (A:St->Prop) (Q:Ex->St->Prop) (ex:Ex) (st:St):Prop:=
 match ex with
 | .nor=>A st
 | .ext i=>Q (.ext i) st
 | .ret=>Q .ret st
theorem JQ (A:St->Prop) (Q:Ex->St->Prop) (st:St):lD A Q .nor st=A st:=rfl
theorem JR (A:St->Prop) (Q:Ex->St->Prop) (i:Nat) (st:St):lD A Q (.ext i) st=Q (.ext i) st:=rfl
theorem JP (A:St->Prop) (Q:Ex->St->Prop) (st:St):lD A Q .ret st=Q .ret st:=rfl
def mW (id:Nat) (Q:Ex->St->Prop) (ex:Ex) (st:St):Prop:=
 match ex with
 | .nor=>Q .nor st
 | .ext i=>if i=id then Q .nor st else Q (.ext i) st
 | .ret=>Q .ret st
theorem H8 (id:Nat) (Q:Ex->St->Prop) (st:St):mW id Q .nor st=Q .nor st:=rfl
theorem H9 (id:Nat) (Q:Ex->St->Prop) (i:Nat) (st:St):mW id Q (.ext i) st=if i=id then Q .nor st else Q (.ext i) st:=rfl
theorem H7 (id:Nat) (Q:Ex->St->Prop) (st:St):mW id Q .ret st=Q .ret st:=rfl
def OD (v:AV) (A B:Prop):Prop:=
 match v with
 | .bool true=>A
 | .bool false=>B
 | _=>False
def GT (o:Option (AV × Eff)) (Q:AV->Eff->Prop):Prop:=
 match o with
 | some (v,e)=>Q v e
 | none=>False
theorem rP {c:C} {st:St} {o:Ex × St} {n m:Nat} (h:n<=m) (e:cJ pg.gl (bM pg n) kb n c st=some o):cJ pg.gl (bM pg m) kb m c st=some o:=
 oJ (fG pg h) h e
theorem PN {rs:List R} {st st':St} {n m:Nat} (h:n<=m) (e:oX pg.gl (bM pg n) kb rs st=some st'):oX pg.gl (bM pg m) kb rs st=some st':=
 uQ (fG pg h) e
theorem Q5 (st:St) (Q:Ex->St->Prop):WX pg kb .skip st Q=Q .nor st:=by
 apply propext;constructor
 ·rintro ⟨n,ex,st',h,q⟩;simp only [cJ,Option.some.injEq,Prod.mk.injEq] at h;obtain ⟨rfl,rfl⟩:=h;exact q
 ·intro q;exact ⟨0,_,_,rfl,q⟩
theorem Q7 (id:Nat) (st:St) (Q:Ex->St->Prop):WX pg kb (.exit id) st Q=Q (.ext id) st:=by
 apply propext;constructor
 ·rintro ⟨n,ex,st',h,q⟩;simp only [cJ,Option.some.injEq,Prod.mk.injEq] at h;obtain ⟨rfl,rfl⟩:=h;exact q
 ·intro q;exact ⟨0,_,_,rfl,q⟩
theorem UZ (st:St) (Q:Ex->St->Prop):WX pg kb .ret st Q=Q .ret st:=by
 apply propext;constructor
 ·rintro ⟨n,ex,st',h,q⟩;simp only [cJ,Option.some.injEq,Prod.mk.injEq] at h;obtain ⟨rfl,rfl⟩:=h;exact q
 ·intro q;exact ⟨0,_,_,rfl,q⟩
theorem U0 (rs:List R) (st:St) (Q:Ex->St->Prop):WX pg kb (.reg rs false) st Q=WR pg kb rs st (fun st'=>Q .nor st'):=by
 apply propext;constructor
 ·rintro ⟨n,ex,st',h,q⟩
  simp only [cJ,Option.map_eq_some_iff,Prod.mk.injEq] at h
  obtain ⟨s,h1,rfl,rfl⟩:=h
  exact ⟨n,_,h1,q⟩
 ·rintro ⟨n,st',h,q⟩
  exact ⟨n,_,_,by simp only [cJ,h,Option.map_some],q⟩
theorem Q6 (rs:List R) (st:St) (Q:Ex->St->Prop):WX pg kb (.reg rs true) st Q=WT pg kb rs st (fun st' es=>gI 0 rs es=true/\Q .nor st'):=by
 apply propext;constructor
 ·rintro ⟨n,ex,st',h,q⟩
  simp only [cJ] at h
  split at h
  ·rename_i s es h1
   split at h
   ·simp only [Option.some.injEq,Prod.mk.injEq] at h
    obtain ⟨rfl,rfl⟩:=h
    exact ⟨n,_,_,h1,by assumption,q⟩
   ·cases h
  ·cases h
 ·rintro ⟨n,st',es,h,a,q⟩
  exact ⟨n,_,_,by simp only [cJ,h,a,if_true],q⟩
theorem Q8 (c:X) (a b:C) (st:St) (Q:Ex->St->Prop):WX pg kb (.cond c a b) st Q=OD (c.ev pg.gl st.env) (WX pg kb a st Q) (WX pg kb b st Q):=by
 apply propext
 simp only [WX,cJ]
 cases c.ev pg.gl st.env with
 | bool x=>cases x<;>exact Iff.rfl
 | _=>simp [OD]
theorem UY (a b:C) (st:St) (Q:Ex->St->Prop):WX pg kb (.seq a b) st Q=WX pg kb a st (lD (fun st'=>WX pg kb b st' Q) Q):=by
 apply propext;constructor
 ·rintro ⟨n,ex,st',h,q⟩
  simp only [cJ] at h
  cases ha:cJ pg.gl (bM pg n) kb n a st with
  | none=>simp [ha] at h
  | some o=>
   obtain ⟨ex1,st1⟩:=o
   rw [ha] at h
   refine ⟨n,ex1,st1,ha,?_⟩
   cases ex1 with
   | nor=>exact ⟨n,ex,st',h,q⟩
   | ext i=>simp only [Option.some.injEq,Prod.mk.injEq] at h;obtain ⟨rfl,rfl⟩:=h;exact q
   | ret=>simp only [Option.some.injEq,Prod.mk.injEq] at h;obtain ⟨rfl,rfl⟩:=h;exact q
 ·rintro ⟨n,ex,st',h,q⟩
  cases ex with
  | nor=>
   obtain ⟨m,ex2,st2,h2,q2⟩:=q
   refine ⟨max n m,ex2,st2,?_,q2⟩
   simp only [cJ,rP (Nat.le_max_left n m) h]
   exact rP (Nat.le_max_right n m) h2
  | ext i=>exact ⟨n,_,_,by simp only [cJ,h],q⟩
  | ret=>exact ⟨n,_,_,by simp only [cJ,h],q⟩
theorem O7 (id:Nat) (b:C) (st:St) (Q:Ex->St->Prop):WX pg kb (.block id b) st Q=WX pg kb b st (mW id Q):=by
 apply propext;constructor
 ·rintro ⟨n,ex,st',h,q⟩
  simp only [cJ] at h
  cases hb:cJ pg.gl (bM pg n) kb n b st with
  | none=>simp [hb] at h
  | some o=>
   obtain ⟨ex1,st1⟩:=o
   rw [hb] at h
   refine ⟨n,ex1,st1,hb,?_⟩
   cases ex1 with
   | nor=>simp only [Option.some.injEq,Prod.mk.injEq] at h;obtain ⟨rfl,rfl⟩:=h;exact q
   | ext i=>
    simp only at h
    simp only [mW]
    split at h<;>(simp only [Option.some.injEq,Prod.mk.injEq] at h;obtain ⟨rfl,rfl⟩:=h;simp_all)
   | ret=>simp only [Option.some.injEq,Prod.mk.injEq] at h;obtain ⟨rfl,rfl⟩:=h;exact q
 ·rintro ⟨n,ex,st',h,q⟩
  cases ex with
  | nor=>exact ⟨n,_,_,by simp only [cJ,h],q⟩
  | ret=>exact ⟨n,_,_,by simp only [cJ,h],q⟩
  | ext i=>
   simp only [mW] at q
   split at q
   ·rename_i hi;exact ⟨n,.nor,st',by simp only [cJ,h,if_pos hi],q⟩
   ·rename_i hi;exact ⟨n,.ext i,st',by simp only [cJ,h,if_neg hi],q⟩
theorem EQ {b:C} {clr:List Bool} {st:St} {o:Ex × St} {n m k l:Nat} (h:n<=m) (hk:k<=l) (e:j7 (cJ pg.gl (bM pg n) kb n b) clr k st=some o) :
  j7 (cJ pg.gl (bM pg m) kb m b) clr l st=some o:=
 sR (fun _ _ q=>rP h q) hk e
theorem JH (b:C) (clr:List Bool) (st:St) (Q:Ex->St->Prop) :
  WX pg kb (.loop b clr) st Q=WX pg kb b ⟨clear clr st.env,st.hp⟩ (lD (fun st'=>WX pg kb (.loop b clr) st' Q) Q):=by
 apply propext;constructor
 ·rintro ⟨n,ex,st',h,q⟩
  simp only [cJ] at h
  cases n with
  | zero=>simp [j7] at h
  | succ n=>
   simp only [j7] at h
   cases hb:cJ pg.gl (bM pg (n+1)) kb (n+1) b ⟨clear clr st.env,st.hp⟩ with
   | none=>simp [hb] at h
   | some o=>
    obtain ⟨ex1,st1⟩:=o
    rw [hb] at h
    refine ⟨n+1,ex1,st1,hb,?_⟩
    cases ex1 with
    | nor=>exact ⟨n+1,ex,st',EQ (Nat.le_refl _) (Nat.le_succ n) h,q⟩
    | ext i=>simp only [Option.some.injEq,Prod.mk.injEq] at h;obtain ⟨rfl,rfl⟩:=h;exact q
    | ret=>simp only [Option.some.injEq,Prod.mk.injEq] at h;obtain ⟨rfl,rfl⟩:=h;exact q
 ·rintro ⟨n,ex,st',h,q⟩
  cases ex with
  | nor=>
   obtain ⟨m,ex2,st2,h2,q2⟩:=q
   refine ⟨max n m+1,ex2,st2,?_,q2⟩
   simp only [cJ] at h2 ⊢
   rw [j7]
   rw [rP (Nat.le_trans (Nat.le_max_left n m) (Nat.le_succ _)) h]
   exact EQ (Nat.le_trans (Nat.le_max_right n m) (Nat.le_succ _)) (Nat.le_max_right n m) h2
  | ext i=>exact ⟨n+1,_,_,by simp only [cJ,j7,rP (Nat.le_succ n) h],q⟩
  | ret=>exact ⟨n+1,_,_,by simp only [cJ,j7,rP (Nat.le_succ n) h],q⟩
theorem LD {α : Type} (μ : α -> Nat) (E : α -> List AV->Hp->Prop) {b:C} {clr:List Bool} {st:St} {Q:Ex->St->Prop} (a : α) (h0:E a (clear clr st.env) st.hp)
  (step:∀ a env hp,E a env hp->WX pg kb b ⟨env,hp⟩ (lD (fun st'=>∃ a',μ a' < μ a/\E a' (clear clr st'.env) st'.hp) Q)) :
  WX pg kb (.loop b clr) st Q:=by
 have key:∀ n a st,μ a < n->E a (clear clr st.env) st.hp->WX pg kb (.loop b clr) st Q:=by
  intro n
  induction n with
  | zero=>intro a st h;omega
  | succ n ih=>
   intro a st hn h
   rw [JH]
   obtain ⟨m,ex,st',h1,q⟩:=step a _ _ h
   refine ⟨m,ex,st',h1,?_⟩
   cases ex with
   | nor=>
    obtain ⟨a',h2,h3⟩:=q
    exact ih a' st' (by omega) h3
   | ext i=>exact q
   | ret=>exact q
 exact key _ a st (Nat.lt_succ_self _) h0
theorem U2 (st:St) (A:St->Prop):WR pg kb [] st A=A st:=by
 apply propext;constructor
 ·rintro ⟨n,st',h,q⟩;simp only [oX,Option.some.injEq] at h;subst h;exact q
 ·intro q;exact ⟨0,_,rfl,q⟩
theorem GW {k:K} {s:Nat} {h:Hp} {vs:List AV} {x:AV × Eff} {n m:Nat} (hn:n<=m) (e:opR (bM pg n) kb ⟨none,k,[],none,0,s⟩ h vs=some x) :
  opR (bM pg m) kb ⟨none,k,[],none,0,s⟩ h vs=some x:=
 EJ (fG pg hn) e
theorem JJ (d:Option Nat) (k:K) (xs:List X) (bef s:Nat) (rs:List R) (st:St) (A:St->Prop) :
  WR pg kb (⟨d,k,xs,none,bef,s⟩ :: rs) st A=WO pg kb k s st.hp (xs.map (X.ev pg.gl st.env)) (fun v eff=>WR pg kb rs ⟨eF st.env d v,eff.app st.hp⟩ A):=by
 apply propext;constructor
 ·rintro ⟨n,st',h,q⟩
  simp only [oX,jP,wanted] at h
  split at h
  ·rename_i st1 e h1
   split at h1
   ·rename_i v eff h2
    simp only [Option.some.injEq,Prod.mk.injEq] at h1
    obtain ⟨rfl,rfl⟩:=h1
    exact ⟨n,v,eff,h2,n,st',h,q⟩
   ·cases h1
  ·cases h
 ·rintro ⟨n,v,eff,h,m,st',h2,q⟩
  refine ⟨max n m,st',?_,q⟩
  have e1:=GW (Nat.le_max_left n m) h
  have e2:=PN (Nat.le_max_right n m) h2
  have e3:opR (bM pg (max n m)) kb ⟨d,k,xs,none,bef,s⟩ st.hp (xs.map (X.ev pg.gl st.env))=some (v,eff):=e1
  simp only [oX,jP,wanted,e3]
  exact e2
def gdQ (v:AV) (b:Bool) (A B:Prop):Prop:=
 match v with
 | .bool c=>if c=b then A else B
 | .tup []=>B
 | _=>False
theorem O9 (d:Option Nat) (k:K) (xs:List X) (t:Nat) (b:Bool) (bef s:Nat) (rs:List R) (st:St) (A:St->Prop) :
  WR pg kb (⟨d,k,xs,some (t,b),bef,s⟩ :: rs) st A =
   gdQ (iD st.env t) b (WO pg kb k s st.hp (xs.map (X.ev pg.gl st.env)) (fun v eff=>WR pg kb rs ⟨eF st.env d v,eff.app st.hp⟩ A)) (WR pg kb rs ⟨eF st.env d (.tup []),st.hp⟩ A):=by
 rw [<- JJ d k xs bef s]
 apply propext
 have hb:∀ c:Bool,(c == b)=decide (c=b):=fun c=>by cases c<;>cases b<;>rfl
 simp only [WR,oX,jP,wanted]
 generalize iD st.env t=v
 cases v with
 | bool c=>
  simp only [gdQ,hb]
  by_cases hc:c=b
  ·simp only [hc,decide_true,if_true];exact Iff.rfl
  ·simp only [hc,decide_false,if_false]
 | tup l=>cases l<;>simp [gdQ]
 | _=>simp [gdQ]
theorem U1 (st:St) (A:St->List Eff->Prop):WT pg kb [] st A=A st []:=by
 apply propext;constructor
 ·rintro ⟨n,st',es,h,q⟩;simp only [iY,Option.some.injEq,Prod.mk.injEq] at h;obtain ⟨rfl,rfl⟩:=h;exact q
 ·intro q;exact ⟨0,_,_,rfl,q⟩
theorem JI (d:Option Nat) (k:K) (xs:List X) (bef s:Nat) (rs:List R) (st:St) (A:St->List Eff->Prop) :
  WT pg kb (⟨d,k,xs,none,bef,s⟩ :: rs) st A=WO pg kb k s st.hp (xs.map (X.ev pg.gl st.env)) (fun v eff=>WT pg kb rs ⟨eF st.env d v,eff.app st.hp⟩ (fun st' es=>A st' (eff :: es))):=by
 apply propext;constructor
 ·rintro ⟨n,st',es,h,q⟩
  simp only [iY,jP,wanted] at h
  split at h
  ·rename_i st1 e h1
   split at h1
   ·rename_i v eff h2
    simp only [Option.some.injEq,Prod.mk.injEq] at h1
    obtain ⟨rfl,rfl⟩:=h1
    simp only [Option.map_eq_some_iff,Prod.mk.injEq] at h
    obtain ⟨⟨s1,l1⟩,h3,h4,h5⟩:=h
    subst h4;subst h5
    exact ⟨n,v,eff,h2,n,s1,l1,h3,q⟩
   ·cases h1
  ·cases h
 ·rintro ⟨n,v,eff,h,m,st',es,h2,q⟩
  refine ⟨max n m,st',eff :: es,?_,q⟩
  have e1:=GW (Nat.le_max_left n m) h
  have e2:=sJ (fG pg (Nat.le_max_right n m)) h2
  have e3:opR (bM pg (max n m)) kb ⟨d,k,xs,none,bef,s⟩ st.hp (xs.map (X.ev pg.gl st.env))=some (v,eff):=e1
  simp only [iY,jP,wanted,e3]
  rw [e2]
  rfl
theorem O8 (d:Option Nat) (k:K) (xs:List X) (t:Nat) (b:Bool) (bef s:Nat) (rs:List R) (st:St) (A:St->List Eff->Prop) :
  WT pg kb (⟨d,k,xs,some (t,b),bef,s⟩ :: rs) st A =
   gdQ (iD st.env t) b (WO pg kb k s st.hp (xs.map (X.ev pg.gl st.env)) (fun v eff=>WT pg kb rs ⟨eF st.env d v,eff.app st.hp⟩ (fun st' es=>A st' (eff :: es))))
    (WT pg kb rs ⟨eF st.env d (.tup []),st.hp⟩ (fun st' es=>A st' (.pat [] [] :: es))):=by
 rw [<- JI d k xs bef s]
 apply propext
 have hb:∀ c:Bool,(c == b)=decide (c=b):=fun c=>by cases c<;>cases b<;>rfl
 have key:(∃ n st' es,(iY pg.gl (bM pg n) kb rs ⟨eF st.env d (.tup []),st.hp⟩).map (fun (s,l)=>(s,Eff.pat [] [] :: l))=some (st',es)/\A st' es) ↔
   (∃ n st' es,iY pg.gl (bM pg n) kb rs ⟨eF st.env d (.tup []),st.hp⟩=some (st',es)/\A st' (.pat [] [] :: es)):=by
  constructor
  ·rintro ⟨n,st',es,h,q⟩
   simp only [Option.map_eq_some_iff,Prod.mk.injEq] at h
   obtain ⟨⟨s1,l1⟩,h3,h4,h5⟩:=h
   subst h4;subst h5
   exact ⟨n,s1,l1,h3,q⟩
  ·rintro ⟨n,st',es,h,q⟩
   exact ⟨n,st',_,by rw [h];rfl,q⟩
 simp only [WT,iY,jP,wanted]
 generalize iD st.env t=v
 cases v with
 | bool c=>
  simp only [gdQ,hb]
  by_cases hc:c=b
  ·simp only [hc,decide_true,if_true];exact Iff.rfl
  ·simp only [hc,decide_false,if_false];exact key
 | tup l=>
  cases l with
  | nil=>simp only [gdQ];exact key
  | cons a r=>simp [gdQ]
 | _=>simp [gdQ]
def K.isCall:K->Bool
 | .call .. | .callv .. | .calle .. | .callr .. => true
 | _=>false
theorem dU {k:K} (hk:k.isCall=false) (s:Nat) (h:Hp) (vs:List AV) (Q:AV->Eff->Prop):WO pg kb k s h vs Q=GT (KB h (kb+s) k vs) Q:=by
 have e:∀ call:bE,opR call kb ⟨none,k,[],none,0,s⟩ h vs=KB h (kb+s) k vs:=by
  intro call;cases k<;>first | rfl | simp [K.isCall] at hk
 apply propext
 simp only [WO,e]
 cases KB h (kb+s) k vs with
 | none=>simp [GT]
 | some x=>
  obtain ⟨v,eff⟩:=x
  simp only [GT]
  constructor
  ·rintro ⟨n,v',e',h1,q⟩;cases h1;exact q
  ·intro q;exact ⟨0,_,_,rfl,q⟩
theorem OL {f:Nat} {ts:List AV} {r:AV} {n m:Nat} (h:n<=m) (e:eA (bM pg n) f ts=some r):eA (bM pg m) f ts=some r:=
 jO (fG pg h) e
theorem Q9 {f s:Nat} {th:Bool} {h:Hp} {vs ts:List AV} {keys:List Nat} {r v:AV} {pa:List Ent} {Q:AV->Eff->Prop} (hr:Ret pg f ts r)
  (hm:cD (snap depth h) vs=some (ts,keys)) (hv:fJ h (kb+s) th r=some (v,pa)) :
  WO pg kb (.call f th false) s h vs Q=Q v (.pat ((kb+s) :: keys) ((if r.flat then [] else cA h keys)++pa)):=by
 obtain ⟨n,e⟩:=hr
 have key:∀ m,n<=m->opR (bM pg m) kb ⟨none,.call f th false,[],none,0,s⟩ h vs=some (v,.pat ((kb+s) :: keys) ((if r.flat then [] else cA h keys)++pa)):=by
  intro m hm'
  simp only [opR,lU,Bool.false_eq_true,if_false,hm,OL hm' e,hv]
 apply propext;constructor
 ·rintro ⟨m,v',e',h1,q⟩
  have h2:=key _ (Nat.le_max_left n m)
  have h3:=GW (Nat.le_max_right n m) h1
  rw [h3] at h2
  cases h2
  exact q
 ·intro q
  exact ⟨n,_,_,key n (Nat.le_refl _),q⟩
theorem PA {f s:Nat} {th im:Bool} {h h':Hp} {vs:List AV} {r:AV} {Q:AV->Eff->Prop} (hm:im=true\/cD (snap depth h) vs=none) {B:Nat} (hB:iU kb s vs=B) (hr:pQ pg f vs B h r h')
   (hq:Q r (.whole h')):WO pg kb (.call f th im) s h vs Q:=by
 subst hB
 obtain ⟨n,e⟩:=hr
 refine ⟨n,r,.whole h',?_,hq⟩
 have:(if im then none else cD (snap depth h) vs)=none:=by
  rcases hm with rfl | hm
  ·rfl
  ·simp [hm]
 simp only [opR,lU,this,e]
theorem pQ.of {f:Nat} {cf:CF} {vs:List AV} {h:Hp} {r:AV} {h':Hp} (hf:pg.fs f=some cf)
  (hw:WX pg kb cf.body ⟨enter cf vs,h⟩ (fun ex st=>(match ex with | .ext _=>False | _=>True)/\result st cf.res=some r/\st.hp=h')):pQ pg f vs kb h r h':=by
 obtain ⟨n,ex,st,h1,h2,h3,h4⟩:=hw
 refine ⟨n+1,?_⟩
 subst h4
 simp only [bM,hf,h1]
 cases ex with
 | ext i=>exact h2.elim
 | nor=>simp [h3]
 | ret=>simp [h3]
def FI (res:List (Sum Nat (Nat × Nat × Bool))) (r:AV) (ex:Ex) (st:St):Prop:=
 match ex with
 | .ext _=>False
 | _=>∃ v,result st res=some v/\conv st.hp v=some r
theorem N3 (res:List (Sum Nat (Nat × Nat × Bool))) (r:AV) (st:St):FI res r .nor st=∃ v,result st res=some v/\conv st.hp v=some r:=rfl
theorem N2 (res:List (Sum Nat (Nat × Nat × Bool))) (r:AV) (st:St):FI res r .ret st=∃ v,result st res=some v/\conv st.hp v=some r:=rfl
theorem Ret.of {f:Nat} {cf:CF} {vs:List AV} {r:AV} (hf:pg.fs f=some cf) (hw:WX pg 0 cf.body ⟨enter cf vs,[]⟩ (FI cf.res r)):Ret pg f vs r:=by
 obtain ⟨n,ex,st,h1,h2⟩:=hw
 refine ⟨n+1,?_⟩
 cases ex with
 | ext i=>exact h2.elim
 | nor=>
  obtain ⟨v,h3,h4⟩:=h2
  simp only [eA,bM,hf,h1,h3,Option.map_some,h4]
 | ret=>
  obtain ⟨v,h3,h4⟩:=h2
  simp only [eA,bM,hf,h1,h3,Option.map_some,h4]
theorem TI {α : Type} {x : α} {P : α -> Prop}:(∃ v,some x=some v/\P v)=P x:=by
 apply propext;constructor
 ·rintro ⟨v,h,p⟩;cases h;exact p
 ·intro p;exact ⟨x,rfl,p⟩
end Go.Tev
end
section
namespace Go.Tev
structure Tok.{u} {α : Sort u} (a : α):Type where
def XX (pg:Pg) (kb:Nat) (c:C) (st:St) (Q:Ex->St->Prop) (_:Tok Q):Prop:=WX pg kb c st Q
def XR (pg:Pg) (kb:Nat) (rs:List R) (st:St) (Q:St->Prop) (_:Tok Q):Prop:=WR pg kb rs st Q
def XT (pg:Pg) (kb:Nat) (rs:List R) (st:St) (Q:St->List Eff->Prop) (_:Tok Q):Prop:=WT pg kb rs st Q
def XO (pg:Pg) (kb:Nat) (k:K) (s:Nat) (h:Hp) (vs:List AV) (Q:AV->Eff->Prop) (_:Tok Q):Prop:=WO pg kb k s h vs Q
def XG (v:AV) (b:Bool) (A B:Unit->Prop) (_:Tok (A,B)):Prop:=gdQ v b (A ()) (B ())
def XC (v:AV) (A B:Unit->Prop) (_:Tok (A,B)):Prop:=OD v (A ()) (B ())
def XV (o:Option (AV × Eff)) (Q:AV->Eff->Prop) (_:Tok Q):Prop:=GT o Q
variable {pg:Pg} {kb:Nat}
theorem QU (st:St) (Q:Ex->St->Prop) (t:Tok Q):XX pg kb .skip st Q t=Q .nor st:=Q5 st Q
theorem QW (id:Nat) (st:St) (Q:Ex->St->Prop) (t:Tok Q):XX pg kb (.exit id) st Q t=Q (.ext id) st:=Q7 id st Q
theorem TZ (st:St) (Q:Ex->St->Prop) (t:Tok Q):XX pg kb .ret st Q t=Q .ret st:=UZ st Q
theorem T4 (rs:List R) (st:St) (Q:Ex->St->Prop) (t:Tok Q):XX pg kb (.reg rs false) st Q t=XR pg kb rs st (fun st'=>Q .nor st') ⟨⟩:=U0 rs st Q
theorem QV (rs:List R) (st:St) (Q:Ex->St->Prop) (t:Tok Q):XX pg kb (.reg rs true) st Q t=XT pg kb rs st (fun st' es=>gI 0 rs es=true/\Q .nor st') ⟨⟩:=Q6 rs st Q
theorem QX (c:X) (a b:C) (st:St) (Q:Ex->St->Prop) (t:Tok Q):XX pg kb (.cond c a b) st Q t=XC (c.ev pg.gl st.env) (fun _=>XX pg kb a st Q t) (fun _=>XX pg kb b st Q t) ⟨⟩:=Q8 c a b st Q
theorem TY (a b:C) (st:St) (Q:Ex->St->Prop) (t:Tok Q):XX pg kb (.seq a b) st Q t=XX pg kb a st (lD (fun st'=>XX pg kb b st' Q t) Q) ⟨⟩:=UY a b st Q
theorem OW (id:Nat) (b:C) (st:St) (Q:Ex->St->Prop) (t:Tok Q):XX pg kb (.block id b) st Q t=XX pg kb b st (mW id Q) ⟨⟩:=O7 id b st Q
theorem l9 (b:C) (clr:List Bool) (st:St) (Q:Ex->St->Prop) (t:Tok Q):XX pg kb (.loop b clr) st Q t=XX pg kb b ⟨clear clr st.env,st.hp⟩ (lD (fun st'=>XX pg kb (.loop b clr) st' Q t) Q) ⟨⟩:=JH b clr st Q
theorem oO {α : Type} (μ : α -> Nat) (E : α -> List AV->Hp->Prop) {b:C} {clr:List Bool} {st:St} {Q:Ex->St->Prop} {t:Tok Q} (a : α) (h0:E a (clear clr st.env) st.hp)
  (step:∀ a env hp,E a env hp->XX pg kb b ⟨env,hp⟩ (lD (fun st'=>∃ a',μ a' < μ a/\E a' (clear clr st'.env) st'.hp) Q) ⟨⟩) :
  XX pg kb (.loop b clr) st Q t:=LD μ E a h0 step
theorem T8 (st:St) (A:St->Prop) (t:Tok A):XR pg kb [] st A t=A st:=U2 st A
theorem QZ (d:Option Nat) (k:K) (xs:List X) (bef s:Nat) (rs:List R) (st:St) (A:St->Prop) (t:Tok A) :
  XR pg kb (⟨d,k,xs,none,bef,s⟩ :: rs) st A t=XO pg kb k s st.hp (xs.map (X.ev pg.gl st.env)) (fun v eff=>XR pg kb rs ⟨eF st.env d v,eff.app st.hp⟩ A t) ⟨⟩:=JJ d k xs bef s rs st A
theorem OY (d:Option Nat) (k:K) (xs:List X) (g:Nat) (b:Bool) (bef s:Nat) (rs:List R) (st:St) (A:St->Prop) (t:Tok A) :
  XR pg kb (⟨d,k,xs,some (g,b),bef,s⟩ :: rs) st A t =
   XG (iD st.env g) b (fun _=>XO pg kb k s st.hp (xs.map (X.ev pg.gl st.env)) (fun v eff=>XR pg kb rs ⟨eF st.env d v,eff.app st.hp⟩ A t) ⟨⟩) (fun _=>XR pg kb rs ⟨eF st.env d (.tup []),st.hp⟩ A t) ⟨⟩:=
 O9 d k xs g b bef s rs st A
theorem T7 (st:St) (A:St->List Eff->Prop) (t:Tok A):XT pg kb [] st A t=A st []:=U1 st A
theorem QY (d:Option Nat) (k:K) (xs:List X) (bef s:Nat) (rs:List R) (st:St) (A:St->List Eff->Prop) (t:Tok A) :
  XT pg kb (⟨d,k,xs,none,bef,s⟩ :: rs) st A t=XO pg kb k s st.hp (xs.map (X.ev pg.gl st.env)) (fun v eff=>XT pg kb rs ⟨eF st.env d v,eff.app st.hp⟩ (fun st' es=>A st' (eff :: es)) ⟨⟩) ⟨⟩:=JI d k xs bef s rs st A
theorem OX (d:Option Nat) (k:K) (xs:List X) (g:Nat) (b:Bool) (bef s:Nat) (rs:List R) (st:St) (A:St->List Eff->Prop) (t:Tok A) :
  XT pg kb (⟨d,k,xs,some (g,b),bef,s⟩ :: rs) st A t =
   XG (iD st.env g) b (fun _=>XO pg kb k s st.hp (xs.map (X.ev pg.gl st.env)) (fun v eff=>XT pg kb rs ⟨eF st.env d v,eff.app st.hp⟩ (fun st' es=>A st' (eff :: es)) ⟨⟩) ⟨⟩)
    (fun _=>XT pg kb rs ⟨eF st.env d (.tup []),st.hp⟩ (fun st' es=>A st' (.pat [] [] :: es)) ⟨⟩) ⟨⟩:=
 O8 d k xs g b bef s rs st A
theorem JG (A B:Unit->Prop) (t:Tok (A,B)):XC (.bool true) A B t=A ():=rfl
theorem F5 (A B:Unit->Prop) (t:Tok (A,B)):XC (.bool false) A B t=B ():=rfl
theorem aN {c:Bool} {A B:Unit->Prop} {t:Tok (A,B)} (h1:c=true->A ()) (h2:c=false->B ()):XC (.bool c) A B t:=by
 cases c
 ·exact h2 rfl
 ·exact h1 rfl
theorem RJ (A B:Unit->Prop) (t:Tok (A,B)):XG (.bool true) true A B t=A ():=rfl
theorem RN (A B:Unit->Prop) (t:Tok (A,B)):XG (.bool false) false A B t=A ():=rfl
theorem RK (A B:Unit->Prop) (t:Tok (A,B)):XG (.bool true) false A B t=B ():=rfl
theorem RM (A B:Unit->Prop) (t:Tok (A,B)):XG (.bool false) true A B t=B ():=rfl
theorem RL (b:Bool) (A B:Unit->Prop) (t:Tok (A,B)):XG (.tup []) b A B t=B ():=rfl
theorem aM {c b:Bool} {A B:Unit->Prop} {t:Tok (A,B)} (h1:c=true->XG (.bool true) b A B t) (h2:c=false->XG (.bool false) b A B t):XG (.bool c) b A B t:=by
 cases c
 ·exact h2 rfl
 ·exact h1 rfl
theorem JF (v:AV) (e:Eff) (Q:AV->Eff->Prop) (t:Tok Q):XV (some (v,e)) Q t=Q v e:=rfl
theorem bR {f s:Nat} {th:Bool} {h:Hp} {vs ts:List AV} {keys:List Nat} {r v:AV} {pa:List Ent} {Q:AV->Eff->Prop} {t:Tok Q} (hr:Ret pg f ts r)
  (hm:cD (snap depth h) vs=some (ts,keys)) (hv:fJ h (kb+s) th r=some (v,pa)) (q:Q v (.pat ((kb+s) :: keys) ((if r.flat then [] else cA h keys)++pa))) :
  XO pg kb (.call f th false) s h vs Q t:=(Q9 hr hm hv).mpr q
theorem dY (d:Nat) (h:Hp):∀ {vs:List AV},treeL vs=true->cD (snap (d+1) h) vs=some (vs,[])
 | [],_=>rfl
 | x :: r,q=>by
  simp only [treeL,Bool.and_eq_true] at q
  have e:snap (d+1) h x=some (x,[]):=by unfold snap;rw [if_pos q.1]
  rw [cD,e,dY d h q.2]
  rfl
def AV.notOs:AV->Bool
 | .os .. => false
 | _=>true
theorem aB {f s:Nat} {th:Bool} {h:Hp} {vs:List AV} {r:AV} {Q:AV->Eff->Prop} {t:Tok Q} (hr:Ret pg f vs r)
  (hm:treeL vs=true) (hv:r.notOs=true) (q:Q r (.pat [kb+s] [])) :
  XO pg kb (.call f th false) s h vs Q t:=by
 refine bR hr (dY 63 h hm) (v:=r) (pa:=[]) ?_ ?_
 ·cases r<;>first | rfl | simp [AV.notOs] at hv
 ·have:(if r.flat then ([]:List Ent) else cA h [])++[]=[]:=by split<;>rfl
  rw [this]
  exact q
theorem jE {f s:Nat} {th im:Bool} {h h':Hp} {vs:List AV} {r:AV} {Q:AV->Eff->Prop} {t:Tok Q} (hm:im=true\/cD (snap depth h) vs=none) {B:Nat} (hB:iU kb s vs=B) (hr:pQ pg f vs B h r h')
   (hq:Q r (.whole h')):XO pg kb (.call f th im) s h vs Q t:=PA hm hB hr hq
theorem O4 {f s:Nat} {th im:Bool} {h:Hp} {cs args:List AV} {Q:AV->Eff->Prop} {t:Tok Q} :
  XO pg kb (.callv th im) s h (.fn f cs :: args) Q t=XO pg kb (.call f th im) s h (args++cs) Q t:=rfl
theorem Ret.ofX {f:Nat} {cf:CF} {vs:List AV} {r:AV} (hf:pg.fs f=some cf) (hw:XX pg 0 cf.body ⟨enter cf vs,[]⟩ (FI cf.res r) ⟨⟩):Ret pg f vs r:=Ret.of hf hw
def OA (res:List (Sum Nat (Nat × Nat × Bool))) (r:AV) (h:Hp) (ex:Ex) (st:St):Prop:=(match ex with | .ext _=>False | _=>True)/\result st res=some r/\st.hp=h
theorem pQ.ofX {f:Nat} {cf:CF} {vs:List AV} {h:Hp} {r:AV} {h':Hp} (hf:pg.fs f=some cf) (hw:XX pg kb cf.body ⟨enter cf vs,h⟩ (OA cf.res r h') ⟨⟩):pQ pg f vs kb h r h':=pQ.of hf hw
theorem N9 (res:List (Sum Nat (Nat × Nat × Bool))) (r:AV) (h:Hp) (st:St):OA res r h .nor st=(result st res=some r/\st.hp=h):=by simp [OA]
theorem N8 (res:List (Sum Nat (Nat × Nat × Bool))) (r:AV) (h:Hp) (st:St):OA res r h .ret st=(result st res=some r/\st.hp=h):=by simp [OA]
theorem Q0 (s:Nat) (h:Hp) (c a b:Bool) (Q:AV->Eff->Prop) (t:Tok Q):XO pg kb .pick s h [.bool c,.bool a,.bool b] Q t=Q (.bool (bif c then a else b)) (.pat [] []):=by
 show WO pg kb .pick s h _ Q=_
 rw [dU rfl];cases c<;>rfl
theorem LB (s:Nat) (h:Hp) (a b:AV) (Q:AV->Eff->Prop) (t:Tok Q):XO pg kb .pick s h [.bool true,a,b] Q t=Q a (.pat [] []):=by
 show WO pg kb .pick s h _ Q=_
 rw [dU rfl];rfl
theorem LC (s:Nat) (h:Hp) (a b:AV) (Q:AV->Eff->Prop) (t:Tok Q):XO pg kb .pick s h [.bool false,a,b] Q t=Q b (.pat [] []):=by
 show WO pg kb .pick s h _ Q=_
 rw [dU rfl];rfl
theorem UD (s:Nat) (h:Hp) (vs:List AV) (Q:AV->Eff->Prop) (t:Tok Q):XO pg kb (.mov) s h vs Q t=XV (NO vs) Q ⟨⟩:=dU rfl s h vs Q
theorem UU (s:Nat) (h:Hp) (vs:List AV) (Q:AV->Eff->Prop) (t:Tok Q):XO pg kb (.box) s h vs Q t=XV (jB h (kb+s) vs) Q ⟨⟩:=dU rfl s h vs Q
theorem O6 (z:List AV) (ag:Bool) (s:Nat) (h:Hp) (vs:List AV) (Q:AV->Eff->Prop) (t:Tok Q):XO pg kb (.alloc z ag) s h vs Q t=XV (C4 h (kb+s) z ag vs) Q ⟨⟩:=dU rfl s h vs Q
theorem O5 (z:List AV) (ps:List (Nat × Nat)) (s:Nat) (h:Hp) (vs:List AV) (Q:AV->Eff->Prop) (t:Tok Q):XO pg kb (.build z ps) s h vs Q t=XV (C3 z ps vs) Q ⟨⟩:=dU rfl s h vs Q
theorem Q2 (e:Nat) (ag own:Bool) (s:Nat) (h:Hp) (vs:List AV) (Q:AV->Eff->Prop) (t:Tok Q):XO pg kb (.mkSl e ag own) s h vs Q t=XV (HF h (kb+s) e ag own vs) Q ⟨⟩:=dU rfl s h vs Q
theorem Q3 (sz:Nat) (ag:Bool) (s:Nat) (h:Hp) (vs:List AV) (Q:AV->Eff->Prop) (t:Tok Q):XO pg kb (.load sz ag) s h vs Q t=XV (HG h sz ag vs) Q ⟨⟩:=dU rfl s h vs Q
theorem OZ (sz:Nat) (ag:Bool) (s:Nat) (h:Hp) (vs:List AV) (Q:AV->Eff->Prop) (t:Tok Q):XO pg kb (.store sz ag) s h vs Q t=XV (C2 h sz ag vs) Q ⟨⟩:=dU rfl s h vs Q
theorem Q1 (s:Nat) (h:Hp) (vs:List AV) (Q:AV->Eff->Prop) (t:Tok Q):XO pg kb (.nilc) s h vs Q t=XV (HE vs) Q ⟨⟩:=dU rfl s h vs Q
theorem UV (op:BinOp) (s:Nat) (h:Hp) (vs:List AV) (Q:AV->Eff->Prop) (t:Tok Q):XO pg kb (.bin op) s h vs Q t=XV (I8 op vs) Q ⟨⟩:=dU rfl s h vs Q
theorem UW (ng:Bool) (s:Nat) (h:Hp) (vs:List AV) (Q:AV->Eff->Prop) (t:Tok Q):XO pg kb (.beq ng) s h vs Q t=XV (N0 ng vs) Q ⟨⟩:=dU rfl s h vs Q
theorem UP (q:Nat) (ng:Bool) (s:Nat) (h:Hp) (vs:List AV) (Q:AV->Eff->Prop) (t:Tok Q):XO pg kb (.eqn q ng) s h vs Q t=XV (NW q ng vs) Q ⟨⟩:=dU rfl s h vs Q
theorem UO (ng:Bool) (qs:List Nat) (s:Nat) (h:Hp) (vs:List AV) (Q:AV->Eff->Prop) (t:Tok Q):XO pg kb (.eqs ng qs) s h vs Q t=XV (zI ng qs vs) Q ⟨⟩:=dU rfl s h vs Q
theorem WP (op:UnOp) (s:Nat) (h:Hp) (vs:List AV) (Q:AV->Eff->Prop) (t:Tok Q):XO pg kb (.un op) s h vs Q t=XV (TD op vs) Q ⟨⟩:=dU rfl s h vs Q
theorem UR (i:IntKind) (s:Nat) (h:Hp) (vs:List AV) (Q:AV->Eff->Prop) (t:Tok Q):XO pg kb (.cvi i) s h vs Q t=XV (NY i vs) Q ⟨⟩:=dU rfl s h vs Q
theorem UQ (s:Nat) (h:Hp) (vs:List AV) (Q:AV->Eff->Prop) (t:Tok Q):XO pg kb (.cvs) s h vs Q t=XV (NX vs) Q ⟨⟩:=dU rfl s h vs Q
theorem UC (s:Nat) (h:Hp) (vs:List AV) (Q:AV->Eff->Prop) (t:Tok Q):XO pg kb (.s2b) s h vs Q t=XV (NN vs) Q ⟨⟩:=dU rfl s h vs Q
theorem UX (s:Nat) (h:Hp) (vs:List AV) (Q:AV->Eff->Prop) (t:Tok Q):XO pg kb (.b2s) s h vs Q t=XV (FD h vs) Q ⟨⟩:=dU rfl s h vs Q
theorem UL (off sz:Nat) (ag:Bool) (s:Nat) (h:Hp) (vs:List AV) (Q:AV->Eff->Prop) (t:Tok Q):XO pg kb (.fld off sz ag) s h vs Q t=XV (i8 off sz ag vs) Q ⟨⟩:=dU rfl s h vs Q
theorem UM (off sz:Nat) (ag:Bool) (s:Nat) (h:Hp) (vs:List AV) (Q:AV->Eff->Prop) (t:Tok Q):XO pg kb (.fad off sz ag) s h vs Q t=XV (jA off sz ag vs) Q ⟨⟩:=dU rfl s h vs Q
theorem UK (e:Nat) (ag:Bool) (arr:Option Nat) (s:Nat) (h:Hp) (vs:List AV) (Q:AV->Eff->Prop) (t:Tok Q):XO pg kb (.iad e ag arr) s h vs Q t=XV (NU e ag arr vs) Q ⟨⟩:=dU rfl s h vs Q
theorem UI (s:Nat) (h:Hp) (vs:List AV) (Q:AV->Eff->Prop) (t:Tok Q):XO pg kb (.ixs) s h vs Q t=XV (NS vs) Q ⟨⟩:=dU rfl s h vs Q
theorem UJ (len e:Nat) (ag:Bool) (s:Nat) (h:Hp) (vs:List AV) (Q:AV->Eff->Prop) (t:Tok Q):XO pg kb (.ixa len e ag) s h vs Q t=XV (NT len e ag vs) Q ⟨⟩:=dU rfl s h vs Q
theorem UA (e:Nat) (lo hi mx:Bool) (s:Nat) (h:Hp) (vs:List AV) (Q:AV->Eff->Prop) (t:Tok Q):XO pg kb (.slc e lo hi mx) s h vs Q t=XV (fW h e lo hi mx vs) Q ⟨⟩:=dU rfl s h vs Q
theorem T9 (lo hi:Bool) (s:Nat) (h:Hp) (vs:List AV) (Q:AV->Eff->Prop) (t:Tok Q):XO pg kb (.sls lo hi) s h vs Q t=XV (qY lo hi vs) Q ⟨⟩:=dU rfl s h vs Q
theorem UB (len e:Nat) (lo hi:Bool) (s:Nat) (h:Hp) (vs:List AV) (Q:AV->Eff->Prop) (t:Tok Q):XO pg kb (.sla len e lo hi) s h vs Q t=XV (NM h len e lo hi vs) Q ⟨⟩:=dU rfl s h vs Q
theorem UE (e:Nat) (ag:Bool) (bytes:Nat) (z:List AV) (s:Nat) (h:Hp) (vs:List AV) (Q:AV->Eff->Prop) (t:Tok Q):XO pg kb (.mks e ag bytes z) s h vs Q t=XV (NP h (kb+s) e ag bytes z vs) Q ⟨⟩:=dU rfl s h vs Q
theorem UH (q:Nat) (s:Nat) (h:Hp) (vs:List AV) (Q:AV->Eff->Prop) (t:Tok Q):XO pg kb (.len q) s h vs Q t=XV (FB h q vs) Q ⟨⟩:=dU rfl s h vs Q
theorem Q4 (n:Nat) (s:Nat) (h:Hp) (vs:List AV) (Q:AV->Eff->Prop) (t:Tok Q):XO pg kb (.lenc n) s h vs Q t=XV (HH n vs) Q ⟨⟩:=dU rfl s h vs Q
theorem UT (s:Nat) (h:Hp) (vs:List AV) (Q:AV->Eff->Prop) (t:Tok Q):XO pg kb (.cap) s h vs Q t=XV (NZ h vs) Q ⟨⟩:=dU rfl s h vs Q
theorem gJ (e:Nat) (ag:Bool) (bytes:Nat) (s:Nat) (h:Hp) (vs:List AV) (Q:AV->Eff->Prop) (t:Tok Q):XO pg kb (.app e ag bytes) s h vs Q t=XV (lS h (kb+s) e ag bytes vs) Q ⟨⟩:=dU rfl s h vs Q
theorem US (e:Nat) (ag:Bool) (s:Nat) (h:Hp) (vs:List AV) (Q:AV->Eff->Prop) (t:Tok Q):XO pg kb (.cpy e ag) s h vs Q t=XV (FC h e ag vs) Q ⟨⟩:=dU rfl s h vs Q
theorem WS (s:Nat) (h:Hp) (vs:List AV) (Q:AV->Eff->Prop) (t:Tok Q):XO pg kb (.mn) s h vs Q t=XV (TG vs) Q ⟨⟩:=dU rfl s h vs Q
theorem WQ (s:Nat) (h:Hp) (vs:List AV) (Q:AV->Eff->Prop) (t:Tok Q):XO pg kb (.mx) s h vs Q t=XV (TF vs) Q ⟨⟩:=dU rfl s h vs Q
theorem UN (i:Nat) (s:Nat) (h:Hp) (vs:List AV) (Q:AV->Eff->Prop) (t:Tok Q):XO pg kb (.ext i) s h vs Q t=XV (NV i vs) Q ⟨⟩:=dU rfl s h vs Q
theorem UF (s:Nat) (h:Hp) (vs:List AV) (Q:AV->Eff->Prop) (t:Tok Q):XO pg kb (.mki) s h vs Q t=XV (NQ vs) Q ⟨⟩:=dU rfl s h vs Q
theorem UG (f:Nat) (s:Nat) (h:Hp) (vs:List AV) (Q:AV->Eff->Prop) (t:Tok Q):XO pg kb (.mkf f) s h vs Q t=XV (NR f vs) Q ⟨⟩:=dU rfl s h vs Q
theorem KN (a:AV) (l:List AV):iD (a :: l) 0=a:=rfl
theorem KO (a:AV) (l:List AV) (n:Nat):iD (a :: l) (n+1)=iD l n:=by simp [iD]
theorem JX (l:List AV) (v:AV):eF l none v=l:=rfl
theorem JV (a:AV) (l:List AV) (v:AV):eF (a :: l) (some 0) v=v :: l:=rfl
theorem JW (a:AV) (l:List AV) (v:AV) (n:Nat):eF (a :: l) (some (n+1)) v=a :: eF l (some n) v:=rfl
theorem QT (h:Hp) (rd:List Nat):Eff.app h (.pat rd [])=h:=rfl
theorem kA (h:Hp) (rd:List Nat) (k e:Nat) (o:Ob):Eff.app h (.pat rd [⟨k,e,o⟩])=h.put k e o:=rfl
theorem uE (h:Hp) (rd:List Nat) (k e k' e':Nat) (o o':Ob):Eff.app h (.pat rd [⟨k,e,o⟩,⟨k',e',o'⟩])=(h.put k e o).put k' e' o':=rfl
theorem K9 (h h':Hp):Eff.app h (.whole h')=h':=rfl
theorem K8 (v:AV):val v=some (v,.pat [] []):=rfl
theorem QA (h:Hp) (k:Nat) (o:Ob) (v:Nat->AV):oA h k o v=some (v (h.next k),.pat [k] [⟨k,h.next k,o⟩]):=rfl
theorem MP (k:Nat):Hp.next [] k=0:=rfl
theorem MO (h:Hp) (k e:Nat) (o:Ob) (q:Nat):(h.put k e o).next q=if k=q then e+1 else h.next q:=by
 simp only [Hp.next,aG];by_cases c:k=q<;>simp [c]
theorem IZ (k:Nat):Hp.get [] k=none:=rfl
theorem KK (cs:List AV):AV.isAgg (.agg cs)=true:=rfl
theorem K2 (cs:List AV):AV.cells (.agg cs)=cs:=rfl
theorem A7 (cs:List AV) (off sz:Nat):fK cs off sz true=if off+sz<=cs.length then some (.agg ((cs.drop off).take sz)) else none:=rfl
theorem J5 (cs:List AV) (off sz:Nat):fK cs off sz false=cs[off]?:=rfl
theorem IA {α β : Type} (x : α) (f : α -> Option β):(some x).bind f=f x:=rfl
theorem KD {α β : Type} (x : α) (f : α -> β):(some x).map f=some (f x):=rfl
theorem U3 (e:List AV) (h:Hp):(St.mk e h).env=e:=rfl
theorem WU (e:List AV) (h:Hp):(St.mk e h).hp=h:=rfl
theorem RB (a b:Nat) (c:List (Sum Nat (Nat × Nat × Bool))) (d:C):(CF.mk a b c d).body=d:=rfl
theorem VA (a b:Nat) (c:List (Sum Nat (Nat × Nat × Bool))) (d:C):(CF.mk a b c d).res=c:=rfl
theorem WZ (a b:Nat) (c:List (Sum Nat (Nat × Nat × Bool))) (d:C):(CF.mk a b c d).nt=b:=rfl
theorem fits_bool (b:Bool) (sz:Nat) (ag:Bool):AV.fits (.bool b) sz ag=(!ag&&sz == 1):=rfl
theorem AL (b:Bool):AV.tree (.bool b)=true:=by simp [AV.tree]
theorem fits_int (k:IntKind) (n:Int) (sz:Nat) (ag:Bool):AV.fits (.int k n) sz ag=(!ag&&sz == 1):=rfl
theorem DK (k:IntKind) (n:Int):AV.tree (.int k n)=true:=by simp [AV.tree]
theorem fits_str (b:List UInt8) (sz:Nat) (ag:Bool):AV.fits (.str b) sz ag=(!ag&&sz == 1):=rfl
theorem LJ (b:List UInt8):AV.tree (.str b)=true:=by simp [AV.tree]
theorem fits_sl (nl:Bool) (es:List AV) (cl:Bool) (sz:Nat) (ag:Bool):AV.fits (.sl nl es cl) sz ag=(!ag&&sz == 1):=rfl
theorem lV (nl:Bool) (es:List AV) (cl:Bool):AV.tree (.sl nl es cl)=treeL es:=by simp [AV.tree]
theorem fits_fp (v:AV) (sz:Nat) (ag:Bool):AV.fits (.fp v) sz ag=(!ag&&sz == 1):=rfl
theorem CA (v:AV):AV.tree (.fp v)=v.tree:=by simp [AV.tree]
theorem fits_nilp  (sz:Nat) (ag:Bool):AV.fits (.nilp ) sz ag=(!ag&&sz == 1):=rfl
theorem JM  : AV.tree (.nilp )=true:=by simp [AV.tree]
theorem fits_nilf  (sz:Nat) (ag:Bool):AV.fits (.nilf ) sz ag=(!ag&&sz == 1):=rfl
theorem JO  : AV.tree (.nilf )=true:=by simp [AV.tree]
theorem fits_nili  (sz:Nat) (ag:Bool):AV.fits (.nili ) sz ag=(!ag&&sz == 1):=rfl
theorem JN  : AV.tree (.nili )=true:=by simp [AV.tree]
theorem fits_fn (f:Nat) (cs:List AV) (sz:Nat) (ag:Bool):AV.fits (.fn f cs) sz ag=(!ag&&sz == 1):=rfl
theorem oQ (f:Nat) (cs:List AV):AV.tree (.fn f cs)=treeL cs:=by simp [AV.tree]
theorem fits_rf (k e o l c:Nat) (sz:Nat) (ag:Bool):AV.fits (.rf k e o l c) sz ag=(!ag&&sz == 1):=rfl
theorem PF (k e o l c:Nat):AV.tree (.rf k e o l c)=false:=by simp [AV.tree]
theorem fits_pt (k e o:Nat) (sz:Nat) (ag:Bool):AV.fits (.pt k e o) sz ag=(!ag&&sz == 1):=rfl
theorem PG (k e o:Nat):AV.tree (.pt k e o)=false:=by simp [AV.tree]
theorem fits_ifc (v:AV) (sz:Nat) (ag:Bool):AV.fits (.ifc v) sz ag=(!ag&&sz == 1):=rfl
theorem LK (v:AV):AV.tree (.ifc v)=v.tree:=by simp [AV.tree]
theorem fits_agg (cs:List AV) (sz:Nat) (ag:Bool):AV.fits (.agg cs) sz ag=(ag&&cs.length == sz):=rfl
theorem xR (cs:List AV):AV.tree (.agg cs)=treeL cs:=by simp [AV.tree]
theorem LI (cs:List AV):AV.tree (.tup cs)=treeL cs:=by simp [AV.tree]
theorem MM (b:Bool):AV.one (.bool b)=true:=rfl
theorem P8 (k:IntKind) (n:Int):AV.one (.int k n)=true:=rfl
theorem P7 (b:List UInt8):AV.one (.str b)=true:=rfl
theorem SX (nl:Bool) (es:List AV) (cl:Bool):AV.one (.sl nl es cl)=true:=rfl
theorem S0 (v:AV):AV.one (.fp v)=true:=rfl
theorem MJ  : AV.one (.nilp )=true:=rfl
theorem ML  : AV.one (.nilf )=true:=rfl
theorem MK  : AV.one (.nili )=true:=rfl
theorem S1 (f:Nat) (cs:List AV):AV.one (.fn f cs)=true:=rfl
theorem SY (k e o l c:Nat):AV.one (.rf k e o l c)=true:=rfl
theorem SZ (k e o:Nat):AV.one (.pt k e o)=true:=rfl
theorem P9 (v:AV):AV.one (.ifc v)=true:=rfl
theorem KQ (b:Bool):AV.flat (.bool b)=true:=by simp [AV.flat]
theorem NL (k:IntKind) (n:Int):AV.flat (.int k n)=true:=by simp [AV.flat]
theorem NK (b:List UInt8):AV.flat (.str b)=true:=by simp [AV.flat]
attribute [go_sem] MM P8 P7 SX S0 MJ ML MK S1 SY SZ P9 KQ NL NK List.append_nil
theorem M3 (nl:Bool) (es:List AV) (cl:Bool):AV.isNil 1 (.sl nl es cl)=some nl:=rfl
theorem M4 (k e o l c:Nat):AV.isNil 1 (.rf k e o l c)=some false:=rfl
theorem G2:AV.isNil 4 .nili=some true:=rfl
theorem KG (v:AV):AV.isNil 4 (.ifc v)=some false:=rfl
theorem G1:AV.isNil 0 .nilp=some true:=rfl
theorem M6 (v:AV):AV.isNil 0 (.fp v)=some false:=rfl
theorem M5 (k e o:Nat):AV.isNil 0 (.pt k e o)=some false:=rfl
theorem G3:AV.isNil 3 .nilf=some true:=rfl
theorem M7 (f:Nat) (cs:List AV):AV.isNil 3 (.fn f cs)=some false:=rfl
attribute [go_sem ↓] QU QW TZ T4 QV QX TY OW T8 QZ OY T7 QY OX JG F5 RJ RN RK RM RL JF
 JQ JR JP H8 H9 H7 N3 N2 N9 N8
attribute [go_sem] JG F5 RJ RN RK RM RL JF O4 Q0 LB LC
 UD UU O6 O5 Q2 Q3 OZ Q1 UV UW UP UO WP UR UQ UC UX UL UM UK UI UJ UA T9 UB UE UH Q4 UT US WS WQ UN UF UG
theorem HX (b:Bool):AV.cells (.bool b)=[.bool b]:=rfl
theorem G7 (b:Bool):AV.isAgg (.bool b)=false:=rfl
theorem KZ (k:IntKind) (n:Int):AV.cells (.int k n)=[.int k n]:=rfl
theorem KI (k:IntKind) (n:Int):AV.isAgg (.int k n)=false:=rfl
theorem KY (b:List UInt8):AV.cells (.str b)=[.str b]:=rfl
theorem KH (b:List UInt8):AV.isAgg (.str b)=false:=rfl
theorem OF (nl:Bool) (es:List AV) (cl:Bool):AV.cells (.sl nl es cl)=[.sl nl es cl]:=rfl
theorem M9 (nl:Bool) (es:List AV) (cl:Bool):AV.isAgg (.sl nl es cl)=false:=rfl
theorem OI (v:AV):AV.cells (.fp v)=[.fp v]:=rfl
theorem NC (v:AV):AV.isAgg (.fp v)=false:=rfl
theorem HU  : AV.cells (.nilp )=[.nilp ]:=rfl
theorem G4  : AV.isAgg (.nilp )=false:=rfl
theorem HW  : AV.cells (.nilf )=[.nilf ]:=rfl
theorem G6  : AV.isAgg (.nilf )=false:=rfl
theorem HV  : AV.cells (.nili )=[.nili ]:=rfl
theorem G5  : AV.isAgg (.nili )=false:=rfl
theorem OJ (f:Nat) (cs:List AV):AV.cells (.fn f cs)=[.fn f cs]:=rfl
theorem ND (f:Nat) (cs:List AV):AV.isAgg (.fn f cs)=false:=rfl
theorem OG (k e o l c:Nat):AV.cells (.rf k e o l c)=[.rf k e o l c]:=rfl
theorem NA (k e o l c:Nat):AV.isAgg (.rf k e o l c)=false:=rfl
theorem OH (k e o:Nat):AV.cells (.pt k e o)=[.pt k e o]:=rfl
theorem NB (k e o:Nat):AV.isAgg (.pt k e o)=false:=rfl
theorem K0 (v:AV):AV.cells (.ifc v)=[.ifc v]:=rfl
theorem KJ (v:AV):AV.isAgg (.ifc v)=false:=rfl
attribute [go_sem] HX G7 KZ KI KY KH OF M9 OI NC HU G4 HW G6 HV G5 OJ ND OG NA OH NB K0 KJ List.all_cons List.all_nil
attribute [go_sem] KN KO JX JV JW aG QT kA uE K9 K8 QA IZ MP MO
 KK K2 A7 J5 TI exists_eq_left' IA KD X.ev U3 WU RB VA WZ
 NO jB C4 C3 HF HG C2 HE I8 N0 NW zI TD NY NX NN FD i8 jA NU NS NT fW qY NM NP FB HH NZ lS FC TG TF NV NQ NR
 OT bin TU OS oI c7 M3 M4 G2 KG G1 M6 M5 G3 M7 fits_agg fits_bool fits_int fits_str fits_sl fits_fp fits_nilp fits_fn fits_rf fits_pt fits_nilf fits_nili fits_ifc  bQ AL DK LJ xR LI lV CA JM JN JO oQ LK PF PG eqC enter result oW vX
 List.map_cons List.map_nil List.length_cons List.length_nil List.replicate_succ List.replicate_zero List.cons_append List.nil_append List.getElem?_cons_zero List.getElem?_cons_succ List.drop_zero List.drop_succ_cons List.take_succ_cons List.take_zero
 Option.getD_some
end Go.Tev
end
