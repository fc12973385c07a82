import Derived.Test.YtplehelpidcobaaGreatDoorSAG
import Derived.KernelRfl
set_option linter.all false
section
namespace Go.Tev
structure EF where
 nt:Nat
 dt:Bool
 l:List (Nat×AV)
def xF(nt:Nat)(dt:Bool)(t:Nat):List (Nat×AV)->AV
 |[]=>bif dt then (bif t.blt nt then .tup [] else .top) else .top
 |p::r=>bif p.1.beq t then p.2 else xF nt dt t r
def EF.get(e:EF)(t:Nat):AV:=xF e.nt e.dt t e.l
def EF.set(e:EF):Option Nat->AV->EF
 |none,_=>e
 |some d,v=>bif d.blt e.nt then ⟨e.nt,e.dt,(d,v)::e.l⟩ else e
def uF(e:EF):Nat->List Bool->Option (List (Nat×AV))
 |i,[]=>bif e.nt.ble i then some [] else none
 |i,true::m=>(uF e (i+1) m).map ((i,e.get i) :: ·)
 |i,false::m=>uF e (i+1) m
def EF.clear(e:EF)(m:List Bool):Option EF:=(uF e 0 m).map fun l=>⟨e.nt,false,l⟩
def CG:Nat->List AV->List (Nat×AV)
 |_,[]=>[]
 |i,v::r=>(i,v)::CG (i+1) r
def DE(cf:CF)(args:List AV):EF:=⟨args.length+(cf.nt-args.length),true,CG 0 args⟩
def tL(e:EF)(env:List AV):Prop:=env.length=e.nt/\∀t,iP env t=e.get t
theorem tL.set{e:EF}{env:List AV}(h:tL e env)(d:Option Nat)(v:AV):tL (e.set d v) (eK env d v):=by
 cases d with
 |none=>exact h
 |some d=>
  refine⟨?_,?_⟩
  ·rw[rB,h.1]
   simp only[EF.set,cond_eq_ite]
   split<;>rfl
  ·intro t
   rw[vQ]
   simp only[EF.set,cond_eq_ite,Nat.blt_eq]
   by_cases hd:d<e.nt
   ·rw[if_pos hd]
    simp only[EF.get,xF,cond_eq_ite,Nat.beq_eq]
    by_cases ht:d=t
    ·subst ht
     rw[if_pos ⟨rfl,by rw[h.1];exact hd⟩,if_pos rfl]
    ·rw[if_neg (by rintro⟨q,_⟩;exact ht (by simpa using q)),if_neg ht]
     exact h.2 t
   ·rw[if_neg hd,if_neg (by rintro⟨q,q2⟩;simp at q;subst q;rw[h.1]at q2;exact hd q2)]
    exact h.2 t
theorem vL{e:EF}{nt:Nat}:∀{m:List Bool}{i:Nat}{l:List (Nat×AV)},uF e i m=some l ->
  e.nt<=i+m.length/\∀t,xF nt false t l=if i<=t/\m[t-i]?=some true then e.get t else .top
 |[],i,l,h=>by
  simp only[uF,cond_eq_ite]at h
  split at h
  ·rename_i q
   cases h
   refine⟨by simpa using q,fun t=>?_⟩
   simp[xF]
  ·cases h
 |true::m,i,l,h=>by
  simp only[uF]at h
  cases hk:uF e (i+1) m with
  |none=>simp[hk]at h
  |some l'=>
   simp[hk]at h
   subst h
   obtain⟨h1,h2⟩:=vL (nt:=nt) hk
   refine⟨by simp;omega,fun t=>?_⟩
   simp only[xF,cond_eq_ite,Nat.beq_eq]
   by_cases ht:i=t
   ·subst ht;simp
   ·rw[if_neg ht,h2]
    by_cases hle:i+1<=t
    ·have:t-i=(t-(i+1))+1:=by omega
     simp[hle,this,show i<=t by omega]
    ·rw[if_neg (by omega),if_neg (by omega)]
 |false::m,i,l,h=>by
  simp only[uF]at h
  obtain⟨h1,h2⟩:=vL (nt:=nt) h
  refine⟨by simp;omega,fun t=>?_⟩
  rw[h2]
  by_cases hle:i+1<=t
  ·have:t-i=(t-(i+1))+1:=by omega
   simp[hle,this,show i<=t by omega]
  ·by_cases ht:i=t
   ·subst ht
    simp
    intro q
    omega
   ·rw[if_neg (by omega),if_neg (by omega)]
theorem tD:∀(m:List Bool)(env:List AV)(t:Nat),env.length<=m.length->iP (clear m env) t=if m[t]?=some true then iP env t else .top
 |[],env,t,h=>by
  have:env=[]:=List.eq_nil_of_length_eq_zero (by simpa using h)
  subst this
  simp[clear,iP]
 |b::m,[],t,h=>by
  cases b<;>simp[clear,iP]
 |true::m,v::r,0,h=>by simp[clear,iP]
 |false::m,v::r,0,h=>by simp[clear,iP]
 |true::m,v::r,t+1,h=>by
  have:=tD m r t (by simpa using h)
  simpa[clear,iP] using this
 |false::m,v::r,t+1,h=>by
  have:=tD m r t (by simpa using h)
  simpa[clear,iP] using this
theorem tL.clear{e e':EF}{env:List AV}(h:tL e env){m:List Bool}(hc:e.clear m=some e'):tL e' (Tev.clear m env):=by
 unfold EF.clear at hc
 cases hk:uF e 0 m with
 |none=>simp[hk]at hc
 |some l=>
  simp[hk]at hc
  subst hc
  obtain⟨h1,h2⟩:=vL (nt:=e.nt) hk
  refine⟨by rw[pP];exact h.1,fun t=>?_⟩
  rw[tD m env t (by rw[h.1];omega)]
  simp only[EF.get]
  rw[h2,h.2 t]
  simp
theorem wA{nt:Nat}{dt:Bool}:∀{args:List AV}{i t:Nat},xF nt dt t (CG i args)=if h:i<=t/\t-i<args.length then args[t-i]'h.2 else xF nt dt t []
 |[],i,t=>by simp[CG]
 |v::r,i,t=>by
  simp only[CG,xF,cond_eq_ite,Nat.beq_eq]
  by_cases ht:i=t
  ·subst ht;simp
  ·rw[if_neg ht,wA]
   by_cases hle:i+1<=t
   ·have e1:t-i=(t-(i+1))+1:=by omega
    by_cases hl:t-(i+1)<r.length
    ·rw[dif_pos ⟨hle,hl⟩,dif_pos ⟨by omega,by simp;omega⟩]
     simp[e1]
    ·rw[dif_neg (by omega),dif_neg (by simp;omega)]
     simp[xF,cond_eq_ite]
   ·rw[dif_neg (by omega),dif_neg (by omega)]
    simp[xF,cond_eq_ite]
theorem tL.enter(cf:CF)(args:List AV):tL (DE cf args) (Tev.enter cf args):=by
 refine⟨by simp[Tev.enter,DE],fun t=>?_⟩
 simp only[EF.get,DE,wA,Tev.enter,iP]
 by_cases h:t<args.length
 ·rw[dif_pos ⟨Nat.zero_le _,by simpa using h⟩]
  simp[List.getElem?_append_left h,h]
 ·rw[dif_neg (by simpa using h),List.getElem?_append_right (by omega)]
  simp only[xF,cond_true,cond_eq_ite,Nat.blt_eq,List.getElem?_replicate]
  by_cases h2:t<args.length+(cf.nt-args.length)
  ·rw[if_pos (by omega),if_pos h2];rfl
  ·rw[if_neg (by omega),if_neg h2];rfl
def X.evE(gl:Nat->Option AV)(e:EF):X->AV
 |.t n=>e.get n
 |.c v=>v
 |.g n=>match gl n with|some v => .fp v|none => .top
 |.f n => .fn n []
structure StE where
 env:EF
 hp:Hp
def CI(e:EF):Option (Nat×Bool)->Option Bool
 |none=>some true
 |some (t,b)=>
  match e.get t with
  |.bool c=>some (c==b)
  |.tup []=>some false
  |_=>none
def IW(gl:Nat->Option AV)(call:bF)(kb:Nat)(r:R)(st:StE):Option (StE×Eff):=
 match CI st.env r.gd with
 |none=>none
 |some false=>some (⟨st.env.set r.d (.tup []),st.hp⟩,.pat [] [])
 |some true=>
  match opR call kb r st.hp (r.xs.map (X.evE gl st.env)) with
  |some (v,eff)=>some (⟨st.env.set r.d v,eff.app st.hp⟩,eff)
  |none=>none
def BC(gl:Nat->Option AV)(call:bF)(kb:Nat):List R->StE->Option StE
 |[],st=>some st
 |r::rs,st=>
  match IW gl call kb r st with
  |some (st',_)=>BC gl call kb rs st'
  |none=>none
def vE(gl:Nat->Option AV)(call:bF)(kb:Nat):List R->StE->Option (StE×List Eff)
 |[],st=>some (st,[])
 |r::rs,st=>
  match IW gl call kb r st with
  |some (st',e)=>(vE gl call kb rs st').map fun(s,l)=>(s,e::l)
  |none=>none
def EY(f:StE->Option (Ex×StE))(clr:List Bool):Nat->StE->Option (Ex×StE)
 |0,_=>none
 |n+1,st=>
  match st.env.clear clr with
  |none=>none
  |some e=>
   match f ⟨e,st.hp⟩ with
   |some (.nor,st')=>EY f clr n st'
   |r=>r
def EF.list(e:EF):List AV:=(List.range e.nt).map e.get
def EF.of(env:List AV):EF:=⟨env.length,false,CG 0 env⟩
theorem tL.list{e:EF}{env:List AV}(h:tL e env):e.list=env:=by
 apply List.ext_getElem
 ·simp[EF.list,h.1]
 ·intro i h1 h2
  have:=h.2 i
  simp only[iP,List.getElem?_eq_getElem h2,Option.getD_some]at this
  simp[EF.list,this]
theorem tL.of(env:List AV):tL (EF.of env) env:=by
 refine⟨rfl,fun t=>?_⟩
 simp only[EF.get,EF.of,wA,iP]
 by_cases h:t<env.length
 ·rw[dif_pos ⟨Nat.zero_le _,by simpa using h⟩]
  simp[h]
 ·rw[dif_neg (by simpa using h),List.getElem?_eq_none (by omega)]
  rfl
def OL(env:EF)(k e:Nat)(h:Hp):Option (Ex×StE):=
 match JP [] k e h with
 |some (x,st)=>some (x,⟨env,st.hp⟩)
 |none=>none
def j5(gl:Nat->Option AV)(call:bF)(kb n:Nat):C->StE->Option (Ex×StE)
 |.skip,st=>some (.nor,st)
 |.reg rs false,st=>(BC gl call kb rs st).map fun s=>(.nor,s)
 |.reg rs true,st=>
  match vE gl call kb rs st with
  |some (s,es)=>if gQ 0 rs es then some (.nor,s) else none
  |none=>none
 |.seq a b,st=>
  match j5 gl call kb n a st with
  |some (.nor,st')=>j5 gl call kb n b st'
  |r=>r
 |.cond c a b,st=>
  match c.evE gl st.env with
  |.bool true=>j5 gl call kb n a st
  |.bool false=>j5 gl call kb n b st
  |_=>none
 |.block id b,st=>
  match j5 gl call kb n b st with
  |some (.ext i,st')=>bif i.beq id then some (.nor,st') else some (.ext i,st')
  |r=>r
 |.loop b clr,st=>EY (j5 gl call kb n b) clr n st
 |.exit id,st=>some (.ext id,st)
 |.ret,st=>some (.ret,st)
 |.rf x s ps a b,st=>
  match x.evE gl st.env with
  |.fn f cs=>
   match call f (.yl (kb+s) (st.hp.next (kb+s))::cs) ((kb+s+1)*65536) (st.hp.put (kb+s) (st.hp.next (kb+s)) (.lp 0 kb st.env.list ps a b)) with
   |some (_,h')=>OL st.env (kb+s) (st.hp.next (kb+s)) h'
   |none=>none
  |_=>none
 |.bad,_=>none
def CY(st:StE):Sum Nat (Nat×Nat×Bool)->Option AV
 |.inl t=>some (st.env.get t)
 |.inr (t,sz,ag)=>
  match st.env.get t with
  |.pt k e off=>match st.hp.get k with
   |some (e',.blk cs _ _ _ _)=>if e'=e then fR cs off sz ag else none
   |_=>none
  |_=>none
def xI(st:StE):List (Sum Nat (Nat×Nat×Bool))->Option (List AV)
 |[]=>some []
 |x::r=>
  match CY st x,xI st r with
  |some v,some l=>some (v::l)
  |_,_=>none
def CX(st:StE)(rs:List (Sum Nat (Nat×Nat×Bool))):Option AV:=
 match xI st rs with
 |some [v]=>some v
 |some l=>some (.tup l)
 |none=>none
def C2(memo:Nat->List AV->Option AV)(f:Nat)(args:List AV):Nat->Hp->Option AV
 |0,[]=>memo f args
 |_,_=>none
def MJ(ex:C->Nat->StE->Option (Ex×StE))(c:C)(b:Nat)(st:St):Option (Ex×St):=
 match ex c b ⟨EF.of st.env,st.hp⟩ with
 |some (x,s)=>some (x,⟨s.env.list,s.hp⟩)
 |none=>none
def j7(pg:Pg)(memo:Nat->List AV->Option AV):Nat->bF
 |0=>⟨fun _ _ _ _=>none,fun _ _ _ _=>none⟩
 |n+1=>⟨fun f args kb h=>
  match C2 memo f args kb h with
  |some r=>some (r,[])
  |none=>
   match pg.fs f with
   |none=>
    match pg.ex f with
    |some g=>g args kb h
    |none=>none
   |some cf=>
    match j5 pg.gl (j7 pg memo n) kb n cf.body ⟨DE cf args,h⟩ with
    |some (.ext _,_)=>none
    |some (_,st)=>(CX st cf.res).map fun v=>(v,st.hp)
    |none=>none,
  vB (MJ fun c b st=>j5 pg.gl (j7 pg memo n) b n c st)⟩
structure StR(s:StE)(t:St):Prop where
 env:tL s.env t.env
 hp:s.hp=t.hp
end Go.Tev
end
section
namespace Go.Tev
structure kP(c c':bF):Prop where
 fn:∀f a kb h r,c f a kb h=some r->c' f a kb h=some r
 yl:∀k e a h r,c.yl k e a h=some r->c'.yl k e a h=some r
theorem kP.refl(c:bF):kP c c:=⟨fun _ _ _ _ _ h=>h,fun _ _ _ _ _ h=>h⟩
theorem qR{ex ex':C->Nat->St->Option (Ex×St)}(hx:∀c b st r,ex c b st=some r->ex' c b st=some r){k e:Nat}{a:List AV}{h:Hp}{r:AV×Hp}(h1:vB ex k e a h=some r):vB ex' k e a h=some r:=by
 unfold vB at h1 ⊢
 split at h1
 case h_2=>cases h1
 split at h1
 case isFalse=>cases h1
 rename_i hc
 rw[if_pos hc]
 split at h1
 case h_2=>cases h1
 rename_i he1
 rw[hx _ _ _ _ he1]
 simp only
 split at h1
 case h_2=>cases h1
 split at h1
 case isFalse=>cases h1
 rename_i hc2
 rw[if_pos hc2]
 split at h1
 case h_2=>cases h1
 rename_i he2
 rw[hx _ _ _ _ he2]
 exact h1
theorem jX{c c':bF}(hc:kP c c'){f:Nat}{ts:List AV}{r:AV}(h:eF c f ts=some r):eF c' f ts=some r:=by
 unfold eF at h ⊢
 cases hq:c f ts 0 [] with
 |none=>simp[hq]at h
 |some p=>rw[hq]at h;rw[hc.fn _ _ _ _ _ hq];exact h
theorem z6{c c':bF}(hc:kP c c'){kb s:Nat}{h:Hp}{f:Nat}{th im:Bool}{vs:List AV}{r:AV×Eff}(h1:mA c kb s h f th im vs=some r):mA c' kb s h f th im vs=some r:=by
 unfold mA at h1 ⊢
 cases hm:(if im then none else cG (snap depth h) vs) with
 |some p=>
  rw[hm]at h1
  simp only at h1 ⊢
  cases hp:eF c f p.1 with
  |none=>simp[hp]at h1
  |some q=>
   rw[hp]at h1
   rw[jX hc hp]
   exact h1
 |none=>
  rw[hm]at h1
  simp only at h1 ⊢
  cases hp:c f vs (jB kb s vs) h with
  |none=>simp[hp]at h1
  |some q=>
   rw[hp]at h1
   rw[hc.fn _ _ _ _ _ hp]
   exact h1
theorem AX{c c':bF}(hc:kP c c'){h:Hp}{f:Nat}{vs:List AV}:∀{n b:Nat}{x:AV×List Nat×List Ent},nZ c h f vs n b=some x->nZ c' h f vs n b=some x
 |0,_,_,h1=>by simp[nZ]at h1
 |n+1,b,x,h1=>by
  unfold nZ at h1 ⊢
  cases hp:c f vs b [] with
  |none=>simp[hp]at h1
  |some q=>
   rw[hp]at h1
   rw[hc.fn _ _ _ _ _ hp]
   simp only at h1 ⊢
   split
   ·rename_i hh
    rw[if_pos hh]at h1
    exact h1
   ·rename_i hh
    rw[if_neg hh]at h1
    cases ht:nZ c h f vs n (b+4096) with
    |none=>simp[ht]at h1
    |some y=>rw[ht]at h1;rw[AX hc ht];exact h1
theorem FX{c c':bF}(hc:kP c c'){kb s:Nat}{h:Hp}{f:Nat}{vs:List AV}{r:AV×Eff}(h1:lW c kb s h f vs=some r):lW c' kb s h f vs=some r:=by
 unfold lW at h1 ⊢
 split
 ·rename_i ht
  rw[if_pos ht]at h1
  cases hq:nZ c h f vs 7 ((kb+s+1)*65536) with
  |none=>simp[hq]at h1
  |some y=>rw[hq]at h1;rw[AX hc hq];exact h1
 ·rename_i ht
  rw[if_neg ht]at h1
  cases h1
theorem FV{c c':bF}(hc:kP c c'){kb s:Nat}{h:Hp}{f:Nat}{vs:List AV}{r:AV×Eff}(h1:nH c kb s h f vs=some r):nH c' kb s h f vs=some r:=by
 unfold nH at h1 ⊢
 cases hq:c f vs (jB kb s vs) h with
 |none=>simp[hq]at h1
 |some y=>rw[hq]at h1;rw[hc.fn _ _ _ _ _ hq];exact h1
theorem EQ{c c':bF}(hc:kP c c'){kb:Nat}{r:R}{h:Hp}{vs:List AV}{x:AV×Eff}(h1:opR c kb r h vs=some x):opR c' kb r h vs=some x:=by
 unfold opR at h1 ⊢
 split at h1
 ·exact z6 hc h1
 ·exact FX hc h1
 ·exact FV hc h1
 ·split at h1
  ·exact z6 hc h1
  ·split at h1
   ·rename_i hy
    rw[hc.yl _ _ _ _ _ hy]
    exact h1
   ·cases h1
  ·cases h1
 ·exact h1
structure AU(c c':bF):Prop where
 off:∀f a kb h r,kb≠0->c f a kb h=some r->c' f a kb h=some r
 at0:∀f a r,eF c f a=some r->eF c' f a=some r
 yl:∀k e a h r,c.yl k e a h=some r->c'.yl k e a h=some r
theorem CE(kb s:Nat)(vs:List AV):jB kb s vs≠0:=by
 unfold jB
 split<;>omega
theorem w7{c c':bF}(hc:AU c c'){kb s:Nat}{h:Hp}{f:Nat}{th im:Bool}{vs:List AV}{r:AV×Eff}(h1:mA c kb s h f th im vs=some r):mA c' kb s h f th im vs=some r:=by
 unfold mA at h1 ⊢
 cases hm:(if im then none else cG (snap depth h) vs) with
 |some p=>
  rw[hm]at h1
  simp only at h1 ⊢
  cases hp:eF c f p.1 with
  |none=>simp[hp]at h1
  |some q=>
   rw[hp]at h1
   rw[hc.at0 _ _ _ hp]
   exact h1
 |none=>
  rw[hm]at h1
  simp only at h1 ⊢
  cases hp:c f vs (jB kb s vs) h with
  |none=>simp[hp]at h1
  |some q=>
   rw[hp]at h1
   rw[hc.off _ _ _ _ _ (CE kb s vs) hp]
   exact h1
theorem xT{c c':bF}(hc:AU c c'){h:Hp}{f:Nat}{vs:List AV}:∀{n b:Nat}{x:AV×List Nat×List Ent},b≠0->nZ c h f vs n b=some x->nZ c' h f vs n b=some x
 |0,_,_,_,h1=>by simp[nZ]at h1
 |n+1,b,x,hb,h1=>by
  unfold nZ at h1 ⊢
  cases hp:c f vs b [] with
  |none=>simp[hp]at h1
  |some q=>
   rw[hp]at h1
   rw[hc.off _ _ _ _ _ hb hp]
   simp only at h1 ⊢
   split
   ·rename_i hh
    rw[if_pos hh]at h1
    exact h1
   ·rename_i hh
    rw[if_neg hh]at h1
    cases ht:nZ c h f vs n (b+4096) with
    |none=>simp[ht]at h1
    |some y=>rw[ht]at h1;rw[xT hc (by omega) ht];exact h1
theorem DK{c c':bF}(hc:AU c c'){kb s:Nat}{h:Hp}{f:Nat}{vs:List AV}{r:AV×Eff}(h1:lW c kb s h f vs=some r):lW c' kb s h f vs=some r:=by
 unfold lW at h1 ⊢
 split
 ·rename_i ht
  rw[if_pos ht]at h1
  cases hq:nZ c h f vs 7 ((kb+s+1)*65536) with
  |none=>simp[hq]at h1
  |some y=>rw[hq]at h1;rw[xT hc (by omega) hq];exact h1
 ·rename_i ht
  rw[if_neg ht]at h1
  cases h1
theorem DI{c c':bF}(hc:AU c c'){kb s:Nat}{h:Hp}{f:Nat}{vs:List AV}{r:AV×Eff}(h1:nH c kb s h f vs=some r):nH c' kb s h f vs=some r:=by
 unfold nH at h1 ⊢
 cases hq:c f vs (jB kb s vs) h with
 |none=>simp[hq]at h1
 |some y=>rw[hq]at h1;rw[hc.off _ _ _ _ _ (CE kb s vs) hq];exact h1
theorem KM{c c':bF}(hc:AU c c'){kb:Nat}{r:R}{h:Hp}{vs:List AV}{x:AV×Eff}(h1:opR c kb r h vs=some x):opR c' kb r h vs=some x:=by
 unfold opR at h1 ⊢
 split at h1
 ·exact w7 hc h1
 ·exact DK hc h1
 ·exact DI hc h1
 ·split at h1
  ·exact w7 hc h1
  ·split at h1
   ·rename_i hy
    rw[hc.yl _ _ _ _ _ hy]
    exact h1
   ·cases h1
  ·cases h1
 ·exact h1
theorem x8{gl:Nat->Option AV}{c c':bF}(hc:kP c c'){kb:Nat}{r:R}{st:St}{x:St×Eff}(h1:jZ gl c kb r st=some x):jZ gl c' kb r st=some x:=by
 unfold jZ at h1 ⊢
 generalize wanted st.env r.gd=wg at h1 ⊢
 rcases wg with _|_|_
 ·exact h1
 ·exact h1
 ·simp only at h1 ⊢
  cases ho:opR c kb r st.hp (r.xs.map (X.ev gl st.env)) with
  |none=>simp[ho]at h1
  |some p=>rw[ho]at h1;rw[EQ hc ho];exact h1
theorem vD{gl:Nat->Option AV}{c c':bF}(hc:kP c c'){kb:Nat}:∀{rs:List R}{st st':St},pG gl c kb rs st=some st'->pG gl c' kb rs st=some st'
 |[],_,_,h=>h
 |r::rs,st,st',h=>by
  unfold pG at h ⊢
  cases hs:jZ gl c kb r st with
  |none=>simp[hs]at h
  |some p=>
   rw[hs]at h
   rw[x8 hc hs]
   exact vD hc h
theorem sT{gl:Nat->Option AV}{c c':bF}(hc:kP c c'){kb:Nat}:∀{rs:List R}{st:St}{x:St×List Eff},jF gl c kb rs st=some x->jF gl c' kb rs st=some x
 |[],_,_,h=>h
 |r::rs,st,x,h=>by
  unfold jF at h ⊢
  cases hs:jZ gl c kb r st with
  |none=>simp[hs]at h
  |some p=>
   rw[hs]at h
   rw[x8 hc hs]
   simp only at h ⊢
   cases hr:jF gl c kb rs p.1 with
   |none=>simp[hr]at h
   |some q=>rw[hr]at h;rw[sT hc hr];exact h
theorem s8{f f':St->Option (Ex×St)}(hf:∀st x,f st=some x->f' st=some x){clr:List Bool}:∀{n n':Nat}{st:St}{x:Ex×St},n<=n'->kG f clr n st=some x->kG f' clr n' st=some x
 |0,_,_,_,_,h=>by simp[kG]at h
 |n+1,0,_,_,hn,_=>by omega
 |n+1,n'+1,st,x,hn,h=>by
  simp only[kG]at h ⊢
  cases hs:f ⟨clear clr st.env,st.hp⟩ with
  |none=>simp[hs]at h
  |some p=>
   rw[hs]at h
   rw[hf _ _ hs]
   obtain⟨e,s⟩:=p
   cases e with
   |nor=>exact s8 hf (by omega) h
   |ext id=>exact h
   |ret=>exact h
theorem oW{gl:Nat->Option AV}{c c':bF}(hc:kP c c'){kb n n':Nat}(hn:n<=n'):∀{k:C}{st:St}{x:Ex×St},cM gl c kb n k st=some x->cM gl c' kb n' k st=some x:=by
 intro k
 induction k with
 |skip=>intro st x h;exact h
 |reg rs d=>
  intro st x h
  cases d with
  |false=>
   simp only[cM]at h ⊢
   cases hr:pG gl c kb rs st with
   |none=>simp[hr]at h
   |some s=>rw[hr]at h;rw[vD hc hr];exact h
  |true=>
   simp only[cM]at h ⊢
   cases hr:jF gl c kb rs st with
   |none=>simp[hr]at h
   |some s=>rw[hr]at h;rw[sT hc hr];exact h
 |seq a b iha ihb=>
  intro st x h
  simp only[cM]at h ⊢
  cases ha:cM gl c kb n a st with
  |none=>simp[ha]at h
  |some p=>
   rw[ha]at h
   rw[iha ha]
   obtain⟨e,s⟩:=p
   cases e with
   |nor=>exact ihb h
   |ext id=>exact h
   |ret=>exact h
 |cond x a b iha ihb=>
  intro st y h
  simp only[cM]at h ⊢
  split at h
  ·exact iha h
  ·exact ihb h
  ·cases h
 |block id b ih=>
  intro st x h
  simp only[cM]at h ⊢
  cases hb:cM gl c kb n b st with
  |none=>simp[hb]at h
  |some p=>rw[hb]at h;rw[ih hb];exact h
 |loop b m ih=>
  intro st x h
  simp only[cM]at h ⊢
  exact s8 (fun st x q=>ih q) hn h
 |exit id=>intro st x h;exact h
 |ret=>intro st x h;exact h
 |rf x s ps a b=>
  intro st y h
  simp only[cM]at h ⊢
  split at h
  case h_2=>cases h
  rename_i f cs hf
  split at h
  case h_2=>cases h
  rename_i rr h' hcall
  rw[hc.fn _ _ _ _ _ hcall]
  exact h
 |bad=>intro st x h;simp[cM]at h
theorem fN(pg:Pg):∀{n n':Nat},n<=n'->kP (bO pg n) (bO pg n')
 |0,_,_=>⟨by intro f a kb h r hq;simp[bO]at hq,by intro k e a h r hq;simp[bO]at hq⟩
 |n+1,0,h=>by omega
 |n+1,n'+1,hn=>by
  refine⟨?_,fun k e a h r hq=>by
   simp only[bO]at hq ⊢
   exact qR (fun c b st r hr=>oW (fN pg (Nat.le_of_succ_le_succ hn)) (Nat.le_of_succ_le_succ hn) hr) hq⟩
  intro f a kb h r hq
  simp only[bO]at hq ⊢
  cases hf:pg.fs f with
  |none=>rw[hf]at hq;exact hq
  |some cf=>
   rw[hf]at hq
   simp only at hq ⊢
   cases he:cM pg.gl (bO pg n) kb n cf.body ⟨enter cf a,h⟩ with
   |none=>simp[he]at hq
   |some p=>
    rw[he]at hq
    rw[oW (fN pg (Nat.le_of_succ_le_succ hn)) (Nat.le_of_succ_le_succ hn) he]
    exact hq
theorem HU{gl:Nat->Option AV}{s:StE}{t:St}(h:StR s t)(x:X):x.evE gl s.env=x.ev gl t.env:=by
 cases x with
 |t n=>simp only[X.evE,X.ev];exact(h.env.2 n).symm
 |_=>rfl
theorem A0{gl:Nat->Option AV}{c c':bF}(hc:AU c c'){kb:Nat}{r:R}{s s':StE}{t:St}{e:Eff}(hst:StR s t)(h:IW gl c kb r s=some (s',e)) :
  ∃t',jZ gl c' kb r t=some (t',e)/\StR s' t':=by
 have hw:CI s.env r.gd=wanted t.env r.gd:=by
  unfold CI wanted
  cases r.gd with
  |none=>rfl
  |some p=>
   simp only[hst.env.2]
   rfl
 have hx:r.xs.map (X.evE gl s.env)=r.xs.map (X.ev gl t.env):=List.map_congr_left (fun x _=>HU hst x)
 unfold IW at h
 unfold jZ
 rw[hw,hx]at h
 generalize wanted t.env r.gd=wg at h ⊢
 rcases wg with _|_|_
 ·cases h
 ·simp only at h ⊢
  cases h
  exact⟨_,rfl,⟨hst.env.set _ _,hst.hp⟩⟩
 ·simp only at h ⊢
  rw[hst.hp]at h
  cases ho:opR c kb r t.hp (r.xs.map (X.ev gl t.env)) with
  |none=>simp[ho]at h
  |some p=>
   rw[ho]at h
   rw[KM hc ho]
   simp only at h ⊢
   cases h
   exact⟨_,rfl,⟨hst.env.set _ _,rfl⟩⟩
theorem BB{gl:Nat->Option AV}{c c':bF}(hc:AU c c'){kb:Nat}:∀{rs:List R}{s s':StE}{t:St},StR s t->BC gl c kb rs s=some s'->∃t',pG gl c' kb rs t=some t'/\StR s' t'
 |[],s,s',t,hst,h=>by
  simp[BC]at h
  subst h
  exact⟨t,rfl,hst⟩
 |r::rs,s,s',t,hst,h=>by
  unfold BC at h
  unfold pG
  split at h
  case h_2=>cases h
  rename_i s1 e hs
  obtain⟨t1,q1,q2⟩:=A0 hc hst hs
  rw[q1]
  exact BB hc q2 h
theorem yM{gl:Nat->Option AV}{c c':bF}(hc:AU c c'){kb:Nat}:∀{rs:List R}{s s':StE}{t:St}{es:List Eff},StR s t->vE gl c kb rs s=some (s',es)->∃t',jF gl c' kb rs t=some (t',es)/\StR s' t'
 |[],s,s',t,es,hst,h=>by
  simp[vE]at h
  obtain⟨rfl,rfl⟩:=h
  exact⟨t,rfl,hst⟩
 |r::rs,s,s',t,es,hst,h=>by
  unfold vE at h
  unfold jF
  split at h
  case h_2=>cases h
  rename_i s1 e hs
  obtain⟨t1,q1,q2⟩:=A0 hc hst hs
  cases hr:vE gl c kb rs s1 with
  |none=>simp[hr]at h
  |some p=>
   obtain⟨s2,es2⟩:=p
   simp[hr]at h
   obtain⟨rfl,rfl⟩:=h
   obtain⟨t2,q3,q4⟩:=yM hc q2 hr
   exact⟨t2,by rw[q1];simp only;rw[q3];rfl,q4⟩
theorem BL{f:StE->Option (Ex×StE)}{f':St->Option (Ex×St)}(hf:∀s t x s',StR s t->f s=some (x,s')->∃t',f' t=some (x,t')/\StR s' t'){clr:List Bool} :
  ∀{n n':Nat}{s s':StE}{t:St}{x:Ex},n<=n'->StR s t->EY f clr n s=some (x,s')->∃t',kG f' clr n' t=some (x,t')/\StR s' t'
 |0,_,_,_,_,_,_,_,h=>by simp[EY]at h
 |n+1,0,_,_,_,_,hn,_,_=>by omega
 |n+1,n'+1,s,s',t,x,hn,hst,h=>by
  simp only[EY]at h
  simp only[kG]
  split at h
  case h_1=>cases h
  rename_i e he
  have hst':StR ⟨e,s.hp⟩ ⟨clear clr t.env,t.hp⟩:=⟨hst.env.clear he,hst.hp⟩
  split at h
  ·rename_i s1 h1
   obtain⟨t1,q1,q2⟩:=hf _ _ _ _ hst' h1
   rw[q1]
   exact BL hf (by omega) q2 h
  ·rename_i hne
   obtain⟨t1,q1,q2⟩:=hf _ _ _ _ hst' h
   rw[q1]
   cases x with
   |nor=>exact absurd h (hne _)
   |ext id=>exact⟨t1,rfl,q2⟩
   |ret=>exact⟨t1,rfl,q2⟩
theorem B5{gl:Nat->Option AV}{c c':bF}(hc:AU c c'){kb n n':Nat}(hn:n<=n'):∀{k:C}{s s':StE}{t:St}{x:Ex},StR s t->j5 gl c kb n k s=some (x,s') ->
  ∃t',cM gl c' kb n' k t=some (x,t')/\StR s' t':=by
 intro k
 induction k with
 |skip=>
  intro s s' t x hst h
  simp[j5]at h
  obtain⟨rfl,rfl⟩:=h
  exact⟨t,rfl,hst⟩
 |reg rs d=>
  intro s s' t x hst h
  cases d with
  |false=>
   simp only[j5]at h
   simp only[cM]
   cases hr:BC gl c kb rs s with
   |none=>simp[hr]at h
   |some s1=>
    simp[hr]at h
    obtain⟨rfl,rfl⟩:=h
    obtain⟨t1,q1,q2⟩:=BB hc hst hr
    exact⟨t1,by rw[q1];rfl,q2⟩
  |true=>
   simp only[j5]at h
   simp only[cM]
   split at h
   case h_2=>cases h
   rename_i s1 es hr
   obtain⟨t1,q1,q2⟩:=yM hc hst hr
   rw[q1]
   simp only
   split at h
   case isFalse=>cases h
   rename_i ha
   rw[if_pos ha]
   cases h
   exact⟨t1,rfl,q2⟩
 |seq a b iha ihb=>
  intro s s' t x hst h
  simp only[j5]at h
  simp only[cM]
  split at h
  ·rename_i s1 h1
   obtain⟨t1,q1,q2⟩:=iha hst h1
   rw[q1]
   exact ihb q2 h
  ·rename_i hne
   obtain⟨t1,q1,q2⟩:=iha hst h
   rw[q1]
   cases x with
   |nor=>exact absurd h (hne _)
   |ext id=>exact⟨t1,rfl,q2⟩
   |ret=>exact⟨t1,rfl,q2⟩
 |cond y a b iha ihb=>
  intro s s' t x hst h
  simp only[j5]at h
  simp only[cM]
  rw[HU hst]at h
  split at h
  ·rename_i hb
   rw[hb]
   exact iha hst h
  ·rename_i hb
   rw[hb]
   exact ihb hst h
  ·cases h
 |block id b ih=>
  intro s s' t x hst h
  simp only[j5]at h
  simp only[cM]
  split at h
  ·rename_i i s1 h1
   obtain⟨t1,q1,q2⟩:=ih hst h1
   rw[q1]
   simp only[cond_eq_ite,Nat.beq_eq]at h ⊢
   split at h
   ·rename_i hi
    rw[if_pos hi]
    cases h
    exact⟨t1,rfl,q2⟩
   ·rename_i hi
    rw[if_neg hi]
    cases h
    exact⟨t1,rfl,q2⟩
  ·rename_i hne
   obtain⟨t1,q1,q2⟩:=ih hst h
   rw[q1]
   cases x with
   |nor=>exact⟨t1,rfl,q2⟩
   |ext id=>exact absurd h (hne _ _)
   |ret=>exact⟨t1,rfl,q2⟩
 |loop b m ih=>
  intro s s' t x hst h
  simp only[j5]at h
  simp only[cM]
  exact BL (fun s t x s' q1 q2=>ih q1 q2) hn hst h
 |exit id=>
  intro s s' t x hst h
  simp[j5]at h
  obtain⟨rfl,rfl⟩:=h
  exact⟨t,rfl,hst⟩
 |ret=>
  intro s s' t x hst h
  simp[j5]at h
  obtain⟨rfl,rfl⟩:=h
  exact⟨t,rfl,hst⟩
 |rf fx sk ps ca cb=>
  intro s s' t x hst h
  simp only[j5]at h
  simp only[cM]
  rw[HU hst,hst.env.list,hst.hp]at h
  split at h
  case h_2=>cases h
  rename_i f cs hf
  rw[hf]
  simp only
  split at h
  case h_2=>cases h
  rename_i rr h' hcall
  rw[hc.off _ _ _ _ _ (by omega) hcall]
  simp only
  unfold OL at h
  split at h
  case h_2=>cases h
  rename_i y st1 he
  cases h
  unfold JP at he ⊢
  split at he
  case h_2=>cases he
  split at he
  case isFalse=>cases he
  rename_i hee
  rw[if_pos hee]
  split at he
  ·cases he;exact⟨_,rfl,⟨hst.env,rfl⟩⟩
  ·cases he;exact⟨_,rfl,⟨hst.env,rfl⟩⟩
  ·cases he;exact⟨_,rfl,⟨hst.env,rfl⟩⟩
  ·cases he
 |bad=>
  intro s s' t x hst h
  simp[j5]at h
theorem GS{s:StE}{t:St}(hst:StR s t)(rs:List (Sum Nat (Nat×Nat×Bool))):CX s rs=result t rs:=by
 have h1:∀r,CY s r=wJ t r:=by
  intro r
  cases r with
  |inl u=>simp only[CY,wJ,hst.env.2]
  |inr p=>
   simp only[CY,wJ,hst.env.2,hst.hp]
   rfl
 have h2:∀rs,xI s rs=pF t rs:=by
  intro rs
  induction rs with
  |nil=>rfl
  |cons r rs ih=>
   simp only[xI,pF,h1,ih]
   rfl
 unfold CX result
 rw[h2]
 rfl
theorem H7{h:Hp}{v:AV}(hv:v.tree=true):conv h v=some v:=by
 have:snap depth h v=some (v,[]):=by unfold depth snap;rw[if_pos hv]
 cases v<;>first|(simp only[conv,this];rfl)|simp[AV.tree]at hv
theorem v7(pg:Pg){memo:Nat->List AV->Option AV}{m:Nat}(hm:∀f a r,memo f a=some r->r.tree=true/\eF (bO pg m) f a=some r):∀n,AU (j7 pg memo n) (bO pg (m+n))
 |0=>⟨fun f a kb h r _ hq=>by simp[j7]at hq,fun f a r hq=>by simp[eF,j7]at hq,fun k e a h r hq=>by simp[j7]at hq⟩
 |n+1=>by
  have key:∀f a kb h r,C2 memo f a kb h=none->j7 pg memo (n+1) f a kb h=some r->bO pg (m+(n+1)) f a kb h=some r:=by
   intro f a kb h r hn hq
   simp only[j7]at hq
   rw[hn]at hq
   simp only at hq
   rw[<-Nat.add_assoc]
   simp only[bO]
   split at hq
   ·rename_i hf
    rw[hf]
    exact hq
   ·rename_i cf hf
    rw[hf]
    simp only
    split at hq
    ·cases hq
    ·rename_i x s hne he
     obtain⟨t,q1,q2⟩:=B5 (t:=⟨enter cf a,h⟩) (v7 pg hm n) (Nat.le_add_left n m) ⟨tL.enter cf a,rfl⟩ he
     rw[q1]
     rw[GS q2,q2.hp]at hq
     cases x with
     |nor=>exact hq
     |ret=>exact hq
     |ext id=>exact(hne id rfl).elim
    ·cases hq
  have hyl:∀k e a h r,(j7 pg memo (n+1)).yl k e a h=some r->(bO pg (m+(n+1))).yl k e a h=some r:=by
   intro k e a h r hq
   rw[<-Nat.add_assoc]
   refine qR (fun c b st r hr=>?_) hq
   unfold MJ at hr
   split at hr
   case h_2=>cases hr
   rename_i x s he
   cases hr
   obtain⟨t,q1,q2⟩:=B5 (t:=⟨st.env,st.hp⟩) (v7 pg hm n) (Nat.le_add_left n m) ⟨tL.of st.env,rfl⟩ he
   have:t=⟨s.env.list,s.hp⟩:=by rw[q2.env.list,q2.hp]
   rw[q1,this]
  refine⟨fun f a kb h r hk hq=>key f a kb h r ?_ hq,fun f a r hq=>?_,hyl⟩
  ·cases kb with
   |zero=>exact absurd rfl hk
   |succ k=>rfl
  ·unfold eF at hq
   cases hc:j7 pg memo (n+1) f a 0 [] with
   |none=>simp[hc]at hq
   |some p=>
    rw[hc]at hq
    cases hme:memo f a with
    |some r'=>
     have:j7 pg memo (n+1) f a 0 []=some (r',[]):=by simp only[j7,C2,hme]
     rw[this]at hc
     cases hc
     obtain⟨h1,h2⟩:=hm f a r' hme
     simp only[H7 h1,Option.some.injEq]at hq
     subst hq
     exact jX (fN pg (by omega)) h2
    |none=>
     have:=key f a 0 [] p (by simp[C2,hme]) hc
     unfold eF
     rw[this]
     exact hq
end Go.Tev
end
section
namespace Go.Tev
variable{pg:Pg}{kb:Nat}
def Ret(pg:Pg)(f:Nat)(ts:List AV)(r:AV):Prop:=∃n,eF (bO pg n) f ts=some r
def pZ(pg:Pg)(f:Nat)(vs:List AV)(kb:Nat)(h:Hp)(r:AV)(h':Hp):Prop:=∃n,bO pg n f vs kb h=some (r,h')
def WX(pg:Pg)(kb:Nat)(c:C)(st:St)(Q:Ex->St->Prop):Prop:=∃n ex st',cM pg.gl (bO pg n) kb n c st=some (ex,st')/\Q ex st'
def WR(pg:Pg)(kb:Nat)(rs:List R)(st:St)(K:St->Prop):Prop:=∃n st',pG pg.gl (bO pg n) kb rs st=some st'/\K st'
def WT(pg:Pg)(kb:Nat)(rs:List R)(st:St)(K:St->List Eff->Prop):Prop:=∃n st' es,jF pg.gl (bO pg n) kb rs st=some (st',es)/\K st' es
def WO(pg:Pg)(kb:Nat)(k:K)(s:Nat)(h:Hp)(vs:List AV)(Q:AV->Eff->Prop):Prop:=
 ∃n v eff,opR (bO pg n) kb ⟨none,k,[],none,0,s⟩ h vs=some (v,eff)/\Q v eff
def lN(A:St->Prop)(Q:Ex->St->Prop)(ex:Ex)(st:St):Prop:=
 match ex with
 |.nor=>A st
 |.ext i=>Q (.ext i) st
 |.ret=>Q .ret st
theorem J6(A:St->Prop)(Q:Ex->St->Prop)(st:St):lN A Q .nor st=A st:=rfl
theorem J7(A:St->Prop)(Q:Ex->St->Prop)(i:Nat)(st:St):lN A Q (.ext i) st=Q (.ext i) st:=rfl
theorem J5(A:St->Prop)(Q:Ex->St->Prop)(st:St):lN A Q .ret st=Q .ret st:=rfl
def nI(id:Nat)(Q:Ex->St->Prop)(ex:Ex)(st:St):Prop:=
 match ex with
 |.nor=>Q .nor st
 |.ext i=>if i=id then Q .nor st else Q (.ext i) st
 |.ret=>Q .ret st
theorem IK(id:Nat)(Q:Ex->St->Prop)(st:St):nI id Q .nor st=Q .nor st:=rfl
theorem IL(id:Nat)(Q:Ex->St->Prop)(i:Nat)(st:St):nI id Q (.ext i) st=if i=id then Q .nor st else Q (.ext i) st:=rfl
theorem IJ(id:Nat)(Q:Ex->St->Prop)(st:St):nI id Q .ret st=Q .ret st:=rfl
def OS(v:AV)(A B:Prop):Prop:=
 match v with
 |.bool true=>A
 |.bool false=>B
 |_=>False
def G0(o:Option (AV×Eff))(Q:AV->Eff->Prop):Prop:=
 match o with
 |some (v,e)=>Q v e
 |none=>False
theorem rX{c:C}{st:St}{o:Ex×St}{n m:Nat}(h:n<=m)(e:cM pg.gl (bO pg n) kb n c st=some o):cM pg.gl (bO pg m) kb m c st=some o:=
 oW (fN pg h) h e
theorem P4{rs:List R}{st st':St}{n m:Nat}(h:n<=m)(e:pG pg.gl (bO pg n) kb rs st=some st'):pG pg.gl (bO pg m) kb rs st=some st':=
 vD (fN pg h) e
theorem RF(st:St)(Q:Ex->St->Prop):WX pg kb .skip st Q=Q .nor st:=by
 apply propext;constructor
 ·rintro⟨n,ex,st',h,q⟩;simp only[cM,Option.some.injEq,Prod.mk.injEq]at h;obtain⟨rfl,rfl⟩:=h;exact q
 ·intro q;exact⟨0,_,_,rfl,q⟩
theorem RH(id:Nat)(st:St)(Q:Ex->St->Prop):WX pg kb (.exit id) st Q=Q (.ext id) st:=by
 apply propext;constructor
 ·rintro⟨n,ex,st',h,q⟩;simp only[cM,Option.some.injEq,Prod.mk.injEq]at h;obtain⟨rfl,rfl⟩:=h;exact q
 ·intro q;exact⟨0,_,_,rfl,q⟩
theorem U9(st:St)(Q:Ex->St->Prop):WX pg kb .ret st Q=Q .ret st:=by
 apply propext;constructor
 ·rintro⟨n,ex,st',h,q⟩;simp only[cM,Option.some.injEq,Prod.mk.injEq]at h;obtain⟨rfl,rfl⟩:=h;exact q
 ·intro q;exact⟨0,_,_,rfl,q⟩
theorem VA(rs:List R)(st:St)(Q:Ex->St->Prop):WX pg kb (.reg rs false) st Q=WR pg kb rs st (fun st'=>Q .nor st'):=by
 apply propext;constructor
 ·rintro⟨n,ex,st',h,q⟩
  simp only[cM,Option.map_eq_some_iff,Prod.mk.injEq]at h
  obtain⟨s,h1,rfl,rfl⟩:=h
  exact⟨n,_,h1,q⟩
 ·rintro⟨n,st',h,q⟩
  exact⟨n,_,_,by simp only[cM,h,Option.map_some],q⟩
theorem RG(rs:List R)(st:St)(Q:Ex->St->Prop):WX pg kb (.reg rs true) st Q=WT pg kb rs st (fun st' es=>gQ 0 rs es=true/\Q .nor st'):=by
 apply propext;constructor
 ·rintro⟨n,ex,st',h,q⟩
  simp only[cM]at h
  split at h
  ·rename_i s es h1
   split at h
   ·simp only[Option.some.injEq,Prod.mk.injEq]at h
    obtain⟨rfl,rfl⟩:=h
    exact⟨n,_,_,h1,by assumption,q⟩
   ·cases h
  ·cases h
 ·rintro⟨n,st',es,h,a,q⟩
  exact⟨n,_,_,by simp only[cM,h,a,if_true],q⟩
theorem RI(c:X)(a b:C)(st:St)(Q:Ex->St->Prop):WX pg kb (.cond c a b) st Q=OS (c.ev pg.gl st.env) (WX pg kb a st Q) (WX pg kb b st Q):=by
 apply propext
 simp only[WX,cM]
 cases c.ev pg.gl st.env with
 |bool x=>cases x<;>exact Iff.rfl
 |_=>simp[OS]
theorem U8(a b:C)(st:St)(Q:Ex->St->Prop):WX pg kb (.seq a b) st Q=WX pg kb a st (lN (fun st'=>WX pg kb b st' Q) Q):=by
 apply propext;constructor
 ·rintro⟨n,ex,st',h,q⟩
  simp only[cM]at h
  cases ha:cM pg.gl (bO pg n) kb n a st with
  |none=>simp[ha]at h
  |some o=>
   obtain⟨ex1,st1⟩:=o
   rw[ha]at h
   refine⟨n,ex1,st1,ha,?_⟩
   cases ex1 with
   |nor=>exact⟨n,ex,st',h,q⟩
   |ext i=>simp only[Option.some.injEq,Prod.mk.injEq]at h;obtain⟨rfl,rfl⟩:=h;exact q
   |ret=>simp only[Option.some.injEq,Prod.mk.injEq]at h;obtain⟨rfl,rfl⟩:=h;exact q
 ·rintro⟨n,ex,st',h,q⟩
  cases ex with
  |nor=>
   obtain⟨m,ex2,st2,h2,q2⟩:=q
   refine⟨max n m,ex2,st2,?_,q2⟩
   simp only[cM,rX (Nat.le_max_left n m) h]
   exact rX (Nat.le_max_right n m) h2
  |ext i=>exact⟨n,_,_,by simp only[cM,h],q⟩
  |ret=>exact⟨n,_,_,by simp only[cM,h],q⟩
theorem PO(id:Nat)(b:C)(st:St)(Q:Ex->St->Prop):WX pg kb (.block id b) st Q=WX pg kb b st (nI id Q):=by
 apply propext;constructor
 ·rintro⟨n,ex,st',h,q⟩
  simp only[cM]at h
  cases hb:cM pg.gl (bO pg n) kb n b st with
  |none=>simp[hb]at h
  |some o=>
   obtain⟨ex1,st1⟩:=o
   rw[hb]at h
   refine⟨n,ex1,st1,hb,?_⟩
   cases ex1 with
   |nor=>simp only[Option.some.injEq,Prod.mk.injEq]at h;obtain⟨rfl,rfl⟩:=h;exact q
   |ext i=>
    simp only at h
    simp only[nI]
    split at h<;>(simp only[Option.some.injEq,Prod.mk.injEq]at h;obtain⟨rfl,rfl⟩:=h;simp_all)
   |ret=>simp only[Option.some.injEq,Prod.mk.injEq]at h;obtain⟨rfl,rfl⟩:=h;exact q
 ·rintro⟨n,ex,st',h,q⟩
  cases ex with
  |nor=>exact⟨n,_,_,by simp only[cM,h],q⟩
  |ret=>exact⟨n,_,_,by simp only[cM,h],q⟩
  |ext i=>
   simp only[nI]at q
   split at q
   ·rename_i hi;exact⟨n,.nor,st',by simp only[cM,h,if_pos hi],q⟩
   ·rename_i hi;exact⟨n,.ext i,st',by simp only[cM,h,if_neg hi],q⟩
theorem EX{b:C}{clr:List Bool}{st:St}{o:Ex×St}{n m k l:Nat}(h:n<=m)(hk:k<=l)(e:kG (cM pg.gl (bO pg n) kb n b) clr k st=some o) :
  kG (cM pg.gl (bO pg m) kb m b) clr l st=some o:=
 s8 (fun _ _ q=>rX h q) hk e
theorem JY(b:C)(clr:List Bool)(st:St)(Q:Ex->St->Prop) :
  WX pg kb (.loop b clr) st Q=WX pg kb b ⟨clear clr st.env,st.hp⟩ (lN (fun st'=>WX pg kb (.loop b clr) st' Q) Q):=by
 apply propext;constructor
 ·rintro⟨n,ex,st',h,q⟩
  simp only[cM]at h
  cases n with
  |zero=>simp[kG]at h
  |succ n=>
   simp only[kG]at h
   cases hb:cM pg.gl (bO pg (n+1)) kb (n+1) b ⟨clear clr st.env,st.hp⟩ with
   |none=>simp[hb]at h
   |some o=>
    obtain⟨ex1,st1⟩:=o
    rw[hb]at h
    refine⟨n+1,ex1,st1,hb,?_⟩
    cases ex1 with
    |nor=>exact⟨n+1,ex,st',EX (Nat.le_refl _) (Nat.le_succ n) h,q⟩
    |ext i=>simp only[Option.some.injEq,Prod.mk.injEq]at h;obtain⟨rfl,rfl⟩:=h;exact q
    |ret=>simp only[Option.some.injEq,Prod.mk.injEq]at h;obtain⟨rfl,rfl⟩:=h;exact q
 ·rintro⟨n,ex,st',h,q⟩
  cases ex with
  |nor=>
   obtain⟨m,ex2,st2,h2,q2⟩:=q
   refine⟨max n m+1,ex2,st2,?_,q2⟩
   simp only[cM]at h2 ⊢
   rw[kG]
   rw[rX (Nat.le_trans (Nat.le_max_left n m) (Nat.le_succ _)) h]
   exact EX (Nat.le_trans (Nat.le_max_right n m) (Nat.le_succ _)) (Nat.le_max_right n m) h2
  |ext i=>exact⟨n+1,_,_,by simp only[cM,kG,rX (Nat.le_succ n) h],q⟩
  |ret=>exact⟨n+1,_,_,by simp only[cM,kG,rX (Nat.le_succ n) h],q⟩
theorem LS{α : Type}(μ : α -> Nat)(E : α -> List AV->Hp->Prop){b:C}{clr:List Bool}{st:St}{Q:Ex->St->Prop}(a : α)(h0:E a (clear clr st.env) st.hp)
  (step:∀a env hp,E a env hp->WX pg kb b ⟨env,hp⟩ (lN (fun st'=>∃a',μ a' < μ a/\E a' (clear clr st'.env) st'.hp) Q)) :
  WX pg kb (.loop b clr) st Q:=by
 have key:∀n a st,μ a<n->E a (clear clr st.env) st.hp->WX pg kb (.loop b clr) st Q:=by
  intro n
  induction n with
  |zero=>intro a st h;omega
  |succ n ih=>
   intro a st hn h
   rw[JY]
   obtain⟨m,ex,st',h1,q⟩:=step a _ _ h
   refine⟨m,ex,st',h1,?_⟩
   cases ex with
   |nor=>
    obtain⟨a',h2,h3⟩:=q
    exact ih a' st' (by omega) h3
   |ext i=>exact q
   |ret=>exact q
 exact key _ a st (Nat.lt_succ_self _) h0
theorem VC(st:St)(A:St->Prop):WR pg kb [] st A=A st:=by
 apply propext;constructor
 ·rintro⟨n,st',h,q⟩;simp only[pG,Option.some.injEq]at h;subst h;exact q
 ·intro q;exact⟨0,_,rfl,q⟩
theorem G3{k:K}{s:Nat}{h:Hp}{vs:List AV}{x:AV×Eff}{n m:Nat}(hn:n<=m)(e:opR (bO pg n) kb ⟨none,k,[],none,0,s⟩ h vs=some x) :
  opR (bO pg m) kb ⟨none,k,[],none,0,s⟩ h vs=some x:=
 EQ (fN pg hn) e
theorem J0(d:Option Nat)(k:K)(xs:List X)(bef s:Nat)(rs:List R)(st:St)(A:St->Prop) :
  WR pg kb (⟨d,k,xs,none,bef,s⟩::rs) st A=WO pg kb k s st.hp (xs.map (X.ev pg.gl st.env)) (fun v eff=>WR pg kb rs ⟨eK st.env d v,eff.app st.hp⟩ A):=by
 apply propext;constructor
 ·rintro⟨n,st',h,q⟩
  simp only[pG,jZ,wanted]at h
  split at h
  ·rename_i st1 e h1
   split at h1
   ·rename_i v eff h2
    simp only[Option.some.injEq,Prod.mk.injEq]at h1
    obtain⟨rfl,rfl⟩:=h1
    exact⟨n,v,eff,h2,n,st',h,q⟩
   ·cases h1
  ·cases h
 ·rintro⟨n,v,eff,h,m,st',h2,q⟩
  refine⟨max n m,st',?_,q⟩
  have e1:=G3 (Nat.le_max_left n m) h
  have e2:=P4 (Nat.le_max_right n m) h2
  have e3:opR (bO pg (max n m)) kb ⟨d,k,xs,none,bef,s⟩ st.hp (xs.map (X.ev pg.gl st.env))=some (v,eff):=e1
  simp only[pG,jZ,wanted,e3]
  exact e2
def gdQ(v:AV)(b:Bool)(A B:Prop):Prop:=
 match v with
 |.bool c=>if c=b then A else B
 |.tup []=>B
 |_=>False
theorem PQ(d:Option Nat)(k:K)(xs:List X)(t:Nat)(b:Bool)(bef s:Nat)(rs:List R)(st:St)(A:St->Prop) :
  WR pg kb (⟨d,k,xs,some (t,b),bef,s⟩::rs) st A =
   gdQ (iP st.env t) b (WO pg kb k s st.hp (xs.map (X.ev pg.gl st.env)) (fun v eff=>WR pg kb rs ⟨eK st.env d v,eff.app st.hp⟩ A)) (WR pg kb rs ⟨eK st.env d (.tup []),st.hp⟩ A):=by
 rw[<-J0 d k xs bef s]
 apply propext
 have hb:∀c:Bool,(c==b)=decide (c=b):=fun c=>by cases c<;>cases b<;>rfl
 simp only[WR,pG,jZ,wanted]
 generalize iP st.env t=v
 cases v with
 |bool c=>
  simp only[gdQ,hb]
  by_cases hc:c=b
  ·simp only[hc,decide_true,if_true];exact Iff.rfl
  ·simp only[hc,decide_false,if_false]
 |tup l=>cases l<;>simp[gdQ]
 |_=>simp[gdQ]
theorem VB(st:St)(A:St->List Eff->Prop):WT pg kb [] st A=A st []:=by
 apply propext;constructor
 ·rintro⟨n,st',es,h,q⟩;simp only[jF,Option.some.injEq,Prod.mk.injEq]at h;obtain⟨rfl,rfl⟩:=h;exact q
 ·intro q;exact⟨0,_,_,rfl,q⟩
theorem JZ(d:Option Nat)(k:K)(xs:List X)(bef s:Nat)(rs:List R)(st:St)(A:St->List Eff->Prop) :
  WT pg kb (⟨d,k,xs,none,bef,s⟩::rs) st A=WO pg kb k s st.hp (xs.map (X.ev pg.gl st.env)) (fun v eff=>WT pg kb rs ⟨eK st.env d v,eff.app st.hp⟩ (fun st' es=>A st' (eff::es))):=by
 apply propext;constructor
 ·rintro⟨n,st',es,h,q⟩
  simp only[jF,jZ,wanted]at h
  split at h
  ·rename_i st1 e h1
   split at h1
   ·rename_i v eff h2
    simp only[Option.some.injEq,Prod.mk.injEq]at h1
    obtain⟨rfl,rfl⟩:=h1
    simp only[Option.map_eq_some_iff,Prod.mk.injEq]at h
    obtain⟨⟨s1,l1⟩,h3,h4,h5⟩:=h
    subst h4;subst h5
    exact⟨n,v,eff,h2,n,s1,l1,h3,q⟩
   ·cases h1
  ·cases h
 ·rintro⟨n,v,eff,h,m,st',es,h2,q⟩
  refine⟨max n m,st',eff::es,?_,q⟩
  have e1:=G3 (Nat.le_max_left n m) h
  have e2:=sT (fN pg (Nat.le_max_right n m)) h2
  have e3:opR (bO pg (max n m)) kb ⟨d,k,xs,none,bef,s⟩ st.hp (xs.map (X.ev pg.gl st.env))=some (v,eff):=e1
  simp only[jF,jZ,wanted,e3]
  rw[e2]
  rfl
theorem PP(d:Option Nat)(k:K)(xs:List X)(t:Nat)(b:Bool)(bef s:Nat)(rs:List R)(st:St)(A:St->List Eff->Prop) :
  WT pg kb (⟨d,k,xs,some (t,b),bef,s⟩::rs) st A =
   gdQ (iP st.env t) b (WO pg kb k s st.hp (xs.map (X.ev pg.gl st.env)) (fun v eff=>WT pg kb rs ⟨eK st.env d v,eff.app st.hp⟩ (fun st' es=>A st' (eff::es))))
    (WT pg kb rs ⟨eK st.env d (.tup []),st.hp⟩ (fun st' es=>A st' (.pat [] []::es))):=by
 rw[<-JZ d k xs bef s]
 apply propext
 have hb:∀c:Bool,(c==b)=decide (c=b):=fun c=>by cases c<;>cases b<;>rfl
 have key:(∃n st' es,(jF pg.gl (bO pg n) kb rs ⟨eK st.env d (.tup []),st.hp⟩).map (fun(s,l)=>(s,Eff.pat [] []::l))=some (st',es)/\A st' es) ↔
   (∃n st' es,jF pg.gl (bO pg n) kb rs ⟨eK st.env d (.tup []),st.hp⟩=some (st',es)/\A st' (.pat [] []::es)):=by
  constructor
  ·rintro⟨n,st',es,h,q⟩
   simp only[Option.map_eq_some_iff,Prod.mk.injEq]at h
   obtain⟨⟨s1,l1⟩,h3,h4,h5⟩:=h
   subst h4;subst h5
   exact⟨n,s1,l1,h3,q⟩
  ·rintro⟨n,st',es,h,q⟩
   exact⟨n,st',_,by rw[h];rfl,q⟩
 simp only[WT,jF,jZ,wanted]
 generalize iP st.env t=v
 cases v with
 |bool c=>
  simp only[gdQ,hb]
  by_cases hc:c=b
  ·simp only[hc,decide_true,if_true];exact Iff.rfl
  ·simp only[hc,decide_false,if_false];exact key
 |tup l=>
  cases l with
  |nil=>simp only[gdQ];exact key
  |cons a r=>simp[gdQ]
 |_=>simp[gdQ]
def K.isCall:K->Bool
 |.call ..|.callv ..|.calle ..|.callr .. => true
 |_=>false
theorem dY{k:K}(hk:k.isCall=false)(s:Nat)(h:Hp)(vs:List AV)(Q:AV->Eff->Prop):WO pg kb k s h vs Q=G0 (KQ h (kb+s) k vs) Q:=by
 have e:∀call:bF,opR call kb ⟨none,k,[],none,0,s⟩ h vs=KQ h (kb+s) k vs:=by
  intro call;cases k<;>first|rfl|simp[K.isCall]at hk
 apply propext
 simp only[WO,e]
 cases KQ h (kb+s) k vs with
 |none=>simp[G0]
 |some x=>
  obtain⟨v,eff⟩:=x
  simp only[G0]
  constructor
  ·rintro⟨n,v',e',h1,q⟩;cases h1;exact q
  ·intro q;exact⟨0,_,_,rfl,q⟩
theorem O4{f:Nat}{ts:List AV}{r:AV}{n m:Nat}(h:n<=m)(e:eF (bO pg n) f ts=some r):eF (bO pg m) f ts=some r:=
 jX (fN pg h) e
theorem RJ{f s:Nat}{th:Bool}{h:Hp}{vs ts:List AV}{keys:List Nat}{r v:AV}{pa:List Ent}{Q:AV->Eff->Prop}(hr:Ret pg f ts r)
  (hm:cG (snap depth h) vs=some (ts,keys)) (hv:fP h (kb+s) th r=some (v,pa)) :
  WO pg kb (.call f th false) s h vs Q=Q v (.pat ((kb+s)::keys) ((if r.flat then [] else cD h keys)++pa)):=by
 obtain⟨n,e⟩:=hr
 have key:∀m,n<=m->opR (bO pg m) kb ⟨none,.call f th false,[],none,0,s⟩ h vs=some (v,.pat ((kb+s)::keys) ((if r.flat then [] else cD h keys)++pa)):=by
  intro m hm'
  simp only[opR,mA,Bool.false_eq_true,if_false,hm,O4 hm' e,hv]
 apply propext;constructor
 ·rintro⟨m,v',e',h1,q⟩
  have h2:=key _ (Nat.le_max_left n m)
  have h3:=G3 (Nat.le_max_right n m) h1
  rw[h3]at h2
  cases h2
  exact q
 ·intro q
  exact⟨n,_,_,key n (Nat.le_refl _),q⟩
theorem PR{f s:Nat}{th im:Bool}{h h':Hp}{vs:List AV}{r:AV}{Q:AV->Eff->Prop}(hm:im=true\/cG (snap depth h) vs=none){B:Nat}(hB:jB kb s vs=B)(hr:pZ pg f vs B h r h')
   (hq:Q r (.whole h')):WO pg kb (.call f th im) s h vs Q:=by
 subst hB
 obtain⟨n,e⟩:=hr
 refine⟨n,r,.whole h',?_,hq⟩
 have:(if im then none else cG (snap depth h) vs)=none:=by
  rcases hm with rfl|hm
  ·rfl
  ·simp[hm]
 simp only[opR,mA,this,e]
theorem pZ.of{f:Nat}{cf:CF}{vs:List AV}{h:Hp}{r:AV}{h':Hp}(hf:pg.fs f=some cf)
  (hw:WX pg kb cf.body ⟨enter cf vs,h⟩ (fun ex st=>(match ex with|.ext _=>False|_=>True)/\result st cf.res=some r/\st.hp=h')):pZ pg f vs kb h r h':=by
 obtain⟨n,ex,st,h1,h2,h3,h4⟩:=hw
 refine⟨n+1,?_⟩
 subst h4
 simp only[bO,hf,h1]
 cases ex with
 |ext i=>exact h2.elim
 |nor=>simp[h3]
 |ret=>simp[h3]
def FL(res:List (Sum Nat (Nat×Nat×Bool)))(r:AV)(ex:Ex)(st:St):Prop:=
 match ex with
 |.ext _=>False
 |_=>∃v,result st res=some v/\conv st.hp v=some r
theorem OH(res:List (Sum Nat (Nat×Nat×Bool)))(r:AV)(st:St):FL res r .nor st=∃v,result st res=some v/\conv st.hp v=some r:=rfl
theorem OG(res:List (Sum Nat (Nat×Nat×Bool)))(r:AV)(st:St):FL res r .ret st=∃v,result st res=some v/\conv st.hp v=some r:=rfl
theorem Ret.of{f:Nat}{cf:CF}{vs:List AV}{r:AV}(hf:pg.fs f=some cf)(hw:WX pg 0 cf.body ⟨enter cf vs,[]⟩ (FL cf.res r)):Ret pg f vs r:=by
 obtain⟨n,ex,st,h1,h2⟩:=hw
 refine⟨n+1,?_⟩
 cases ex with
 |ext i=>exact h2.elim
 |nor=>
  obtain⟨v,h3,h4⟩:=h2
  simp only[eF,bO,hf,h1,h3,Option.map_some,h4]
 |ret=>
  obtain⟨v,h3,h4⟩:=h2
  simp only[eF,bO,hf,h1,h3,Option.map_some,h4]
theorem TT{α : Type}{x : α}{P : α -> Prop}:(∃v,some x=some v/\P v)=P x:=by
 apply propext;constructor
 ·rintro⟨v,h,p⟩;cases h;exact p
 ·intro p;exact⟨x,rfl,p⟩
end Go.Tev
end
section
namespace Go.Tev
structure Tok.{u}{α : Sort u}(a : α):Type where
def XX(pg:Pg)(kb:Nat)(c:C)(st:St)(Q:Ex->St->Prop)(_:Tok Q):Prop:=WX pg kb c st Q
def XR(pg:Pg)(kb:Nat)(rs:List R)(st:St)(Q:St->Prop)(_:Tok Q):Prop:=WR pg kb rs st Q
def XT(pg:Pg)(kb:Nat)(rs:List R)(st:St)(Q:St->List Eff->Prop)(_:Tok Q):Prop:=WT pg kb rs st Q
def XO(pg:Pg)(kb:Nat)(k:K)(s:Nat)(h:Hp)(vs:List AV)(Q:AV->Eff->Prop)(_:Tok Q):Prop:=WO pg kb k s h vs Q
def XG(v:AV)(b:Bool)(A B:Unit->Prop)(_:Tok (A,B)):Prop:=gdQ v b (A ()) (B ())
def XC(v:AV)(A B:Unit->Prop)(_:Tok (A,B)):Prop:=OS v (A ()) (B ())
def XV(o:Option (AV×Eff))(Q:AV->Eff->Prop)(_:Tok Q):Prop:=G0 o Q
variable{pg:Pg}{kb:Nat}
theorem Q4(st:St)(Q:Ex->St->Prop)(t:Tok Q):XX pg kb .skip st Q t=Q .nor st:=RF st Q
theorem Q6(id:Nat)(st:St)(Q:Ex->St->Prop)(t:Tok Q):XX pg kb (.exit id) st Q t=Q (.ext id) st:=RH id st Q
theorem UF(st:St)(Q:Ex->St->Prop)(t:Tok Q):XX pg kb .ret st Q t=Q .ret st:=U9 st Q
theorem UG(rs:List R)(st:St)(Q:Ex->St->Prop)(t:Tok Q):XX pg kb (.reg rs false) st Q t=XR pg kb rs st (fun st'=>Q .nor st') ⟨⟩:=VA rs st Q
theorem Q5(rs:List R)(st:St)(Q:Ex->St->Prop)(t:Tok Q):XX pg kb (.reg rs true) st Q t=XT pg kb rs st (fun st' es=>gQ 0 rs es=true/\Q .nor st') ⟨⟩:=RG rs st Q
theorem Q7(c:X)(a b:C)(st:St)(Q:Ex->St->Prop)(t:Tok Q):XX pg kb (.cond c a b) st Q t=XC (c.ev pg.gl st.env) (fun _=>XX pg kb a st Q t) (fun _=>XX pg kb b st Q t) ⟨⟩:=RI c a b st Q
theorem UE(a b:C)(st:St)(Q:Ex->St->Prop)(t:Tok Q):XX pg kb (.seq a b) st Q t=XX pg kb a st (lN (fun st'=>XX pg kb b st' Q t) Q) ⟨⟩:=U8 a b st Q
theorem PH(id:Nat)(b:C)(st:St)(Q:Ex->St->Prop)(t:Tok Q):XX pg kb (.block id b) st Q t=XX pg kb b st (nI id Q) ⟨⟩:=PO id b st Q
theorem mJ(b:C)(clr:List Bool)(st:St)(Q:Ex->St->Prop)(t:Tok Q):XX pg kb (.loop b clr) st Q t=XX pg kb b ⟨clear clr st.env,st.hp⟩ (lN (fun st'=>XX pg kb (.loop b clr) st' Q t) Q) ⟨⟩:=JY b clr st Q
theorem o8{α : Type}(μ : α -> Nat)(E : α -> List AV->Hp->Prop){b:C}{clr:List Bool}{st:St}{Q:Ex->St->Prop}{t:Tok Q}(a : α)(h0:E a (clear clr st.env) st.hp)
  (step:∀a env hp,E a env hp->XX pg kb b ⟨env,hp⟩ (lN (fun st'=>∃a',μ a' < μ a/\E a' (clear clr st'.env) st'.hp) Q) ⟨⟩) :
  XX pg kb (.loop b clr) st Q t:=LS μ E a h0 step
theorem UI(st:St)(A:St->Prop)(t:Tok A):XR pg kb [] st A t=A st:=VC st A
theorem Q9(d:Option Nat)(k:K)(xs:List X)(bef s:Nat)(rs:List R)(st:St)(A:St->Prop)(t:Tok A) :
  XR pg kb (⟨d,k,xs,none,bef,s⟩::rs) st A t=XO pg kb k s st.hp (xs.map (X.ev pg.gl st.env)) (fun v eff=>XR pg kb rs ⟨eK st.env d v,eff.app st.hp⟩ A t) ⟨⟩:=J0 d k xs bef s rs st A
theorem PJ(d:Option Nat)(k:K)(xs:List X)(g:Nat)(b:Bool)(bef s:Nat)(rs:List R)(st:St)(A:St->Prop)(t:Tok A) :
  XR pg kb (⟨d,k,xs,some (g,b),bef,s⟩::rs) st A t =
   XG (iP st.env g) b (fun _=>XO pg kb k s st.hp (xs.map (X.ev pg.gl st.env)) (fun v eff=>XR pg kb rs ⟨eK st.env d v,eff.app st.hp⟩ A t) ⟨⟩) (fun _=>XR pg kb rs ⟨eK st.env d (.tup []),st.hp⟩ A t) ⟨⟩:=
 PQ d k xs g b bef s rs st A
theorem UH(st:St)(A:St->List Eff->Prop)(t:Tok A):XT pg kb [] st A t=A st []:=VB st A
theorem Q8(d:Option Nat)(k:K)(xs:List X)(bef s:Nat)(rs:List R)(st:St)(A:St->List Eff->Prop)(t:Tok A) :
  XT pg kb (⟨d,k,xs,none,bef,s⟩::rs) st A t=XO pg kb k s st.hp (xs.map (X.ev pg.gl st.env)) (fun v eff=>XT pg kb rs ⟨eK st.env d v,eff.app st.hp⟩ (fun st' es=>A st' (eff::es)) ⟨⟩) ⟨⟩:=JZ d k xs bef s rs st A
theorem PI(d:Option Nat)(k:K)(xs:List X)(g:Nat)(b:Bool)(bef s:Nat)(rs:List R)(st:St)(A:St->List Eff->Prop)(t:Tok A) :
  XT pg kb (⟨d,k,xs,some (g,b),bef,s⟩::rs) st A t =
   XG (iP st.env g) b (fun _=>XO pg kb k s st.hp (xs.map (X.ev pg.gl st.env)) (fun v eff=>XT pg kb rs ⟨eK st.env d v,eff.app st.hp⟩ (fun st' es=>A st' (eff::es)) ⟨⟩) ⟨⟩)
    (fun _=>XT pg kb rs ⟨eK st.env d (.tup []),st.hp⟩ (fun st' es=>A st' (.pat [] []::es)) ⟨⟩) ⟨⟩:=
 PP d k xs g b bef s rs st A
theorem JX(A B:Unit->Prop)(t:Tok (A,B)):XC (.bool true) A B t=A ():=rfl
theorem F8(A B:Unit->Prop)(t:Tok (A,B)):XC (.bool false) A B t=B ():=rfl
theorem aO{c:Bool}{A B:Unit->Prop}{t:Tok (A,B)}(h1:c=true->A ())(h2:c=false->B ()):XC (.bool c) A B t:=by
 cases c
 ·exact h2 rfl
 ·exact h1 rfl
theorem RT(A B:Unit->Prop)(t:Tok (A,B)):XG (.bool true) true A B t=A ():=rfl
theorem RX(A B:Unit->Prop)(t:Tok (A,B)):XG (.bool false) false A B t=A ():=rfl
theorem RU(A B:Unit->Prop)(t:Tok (A,B)):XG (.bool true) false A B t=B ():=rfl
theorem RW(A B:Unit->Prop)(t:Tok (A,B)):XG (.bool false) true A B t=B ():=rfl
theorem RV(b:Bool)(A B:Unit->Prop)(t:Tok (A,B)):XG (.tup []) b A B t=B ():=rfl
theorem aN{c b:Bool}{A B:Unit->Prop}{t:Tok (A,B)}(h1:c=true->XG (.bool true) b A B t)(h2:c=false->XG (.bool false) b A B t):XG (.bool c) b A B t:=by
 cases c
 ·exact h2 rfl
 ·exact h1 rfl
theorem JW(v:AV)(e:Eff)(Q:AV->Eff->Prop)(t:Tok Q):XV (some (v,e)) Q t=Q v e:=rfl
theorem bQ{f s:Nat}{th:Bool}{h:Hp}{vs ts:List AV}{keys:List Nat}{r v:AV}{pa:List Ent}{Q:AV->Eff->Prop}{t:Tok Q}(hr:Ret pg f ts r)
  (hm:cG (snap depth h) vs=some (ts,keys)) (hv:fP h (kb+s) th r=some (v,pa)) (q:Q v (.pat ((kb+s)::keys) ((if r.flat then [] else cD h keys)++pa))) :
  XO pg kb (.call f th false) s h vs Q t:=(RJ hr hm hv).mpr q
theorem d8(d:Nat)(h:Hp):∀{vs:List AV},treeL vs=true->cG (snap (d+1) h) vs=some (vs,[])
 |[],_=>rfl
 |x::r,q=>by
  simp only[treeL,Bool.and_eq_true]at q
  have e:snap (d+1) h x=some (x,[]):=by unfold snap;rw[if_pos q.1]
  rw[cG,e,d8 d h q.2]
  rfl
def AV.notOs:AV->Bool
 |.os .. => false
 |_=>true
theorem aB{f s:Nat}{th:Bool}{h:Hp}{vs:List AV}{r:AV}{Q:AV->Eff->Prop}{t:Tok Q}(hr:Ret pg f vs r)
  (hm:treeL vs=true) (hv:r.notOs=true) (q:Q r (.pat [kb+s] [])) :
  XO pg kb (.call f th false) s h vs Q t:=by
 refine bQ hr (d8 63 h hm) (v:=r) (pa:=[]) ?_ ?_
 ·cases r<;>first|rfl|simp[AV.notOs]at hv
 ·have:(if r.flat then ([]:List Ent) else cD h [])++[]=[]:=by split<;>rfl
  rw[this]
  exact q
theorem jO{f s:Nat}{th im:Bool}{h h':Hp}{vs:List AV}{r:AV}{Q:AV->Eff->Prop}{t:Tok Q}(hm:im=true\/cG (snap depth h) vs=none){B:Nat}(hB:jB kb s vs=B)(hr:pZ pg f vs B h r h')
   (hq:Q r (.whole h')):XO pg kb (.call f th im) s h vs Q t:=PR hm hB hr hq
theorem PL{f s:Nat}{th im:Bool}{h:Hp}{cs args:List AV}{Q:AV->Eff->Prop}{t:Tok Q} :
  XO pg kb (.callv th im) s h (.fn f cs::args) Q t=XO pg kb (.call f th im) s h (args++cs) Q t:=rfl
theorem Ret.ofX{f:Nat}{cf:CF}{vs:List AV}{r:AV}(hf:pg.fs f=some cf)(hw:XX pg 0 cf.body ⟨enter cf vs,[]⟩ (FL cf.res r) ⟨⟩):Ret pg f vs r:=Ret.of hf hw
def OO(res:List (Sum Nat (Nat×Nat×Bool)))(r:AV)(h:Hp)(ex:Ex)(st:St):Prop:=(match ex with|.ext _=>False|_=>True)/\result st res=some r/\st.hp=h
theorem pZ.ofX{f:Nat}{cf:CF}{vs:List AV}{h:Hp}{r:AV}{h':Hp}(hf:pg.fs f=some cf)(hw:XX pg kb cf.body ⟨enter cf vs,h⟩ (OO cf.res r h') ⟨⟩):pZ pg f vs kb h r h':=pZ.of hf hw
theorem ON(res:List (Sum Nat (Nat×Nat×Bool)))(r:AV)(h:Hp)(st:St):OO res r h .nor st=(result st res=some r/\st.hp=h):=by simp[OO]
theorem OM(res:List (Sum Nat (Nat×Nat×Bool)))(r:AV)(h:Hp)(st:St):OO res r h .ret st=(result st res=some r/\st.hp=h):=by simp[OO]
theorem RA(s:Nat)(h:Hp)(c a b:Bool)(Q:AV->Eff->Prop)(t:Tok Q):XO pg kb .pick s h [.bool c,.bool a,.bool b] Q t=Q (.bool (bif c then a else b)) (.pat [] []):=by
 show WO pg kb .pick s h _ Q=_
 rw[dY rfl];cases c<;>rfl
theorem LQ(s:Nat)(h:Hp)(a b:AV)(Q:AV->Eff->Prop)(t:Tok Q):XO pg kb .pick s h [.bool true,a,b] Q t=Q a (.pat [] []):=by
 show WO pg kb .pick s h _ Q=_
 rw[dY rfl];rfl
theorem LR(s:Nat)(h:Hp)(a b:AV)(Q:AV->Eff->Prop)(t:Tok Q):XO pg kb .pick s h [.bool false,a,b] Q t=Q b (.pat [] []):=by
 show WO pg kb .pick s h _ Q=_
 rw[dY rfl];rfl
theorem UN(s:Nat)(h:Hp)(vs:List AV)(Q:AV->Eff->Prop)(t:Tok Q):XO pg kb (.mov) s h vs Q t=XV (N3 vs) Q ⟨⟩:=dY rfl s h vs Q
theorem U4(s:Nat)(h:Hp)(vs:List AV)(Q:AV->Eff->Prop)(t:Tok Q):XO pg kb (.box) s h vs Q t=XV (jL h (kb+s) vs) Q ⟨⟩:=dY rfl s h vs Q
theorem PN(z:List AV)(ag:Bool)(s:Nat)(h:Hp)(vs:List AV)(Q:AV->Eff->Prop)(t:Tok Q):XO pg kb (.alloc z ag) s h vs Q t=XV (DC h (kb+s) z ag vs) Q ⟨⟩:=dY rfl s h vs Q
theorem PM(z:List AV)(ps:List (Nat×Nat))(s:Nat)(h:Hp)(vs:List AV)(Q:AV->Eff->Prop)(t:Tok Q):XO pg kb (.build z ps) s h vs Q t=XV (DB z ps vs) Q ⟨⟩:=dY rfl s h vs Q
theorem RC(e:Nat)(ag own:Bool)(s:Nat)(h:Hp)(vs:List AV)(Q:AV->Eff->Prop)(t:Tok Q):XO pg kb (.mkSl e ag own) s h vs Q t=XV (HP h (kb+s) e ag own vs) Q ⟨⟩:=dY rfl s h vs Q
theorem RD(sz:Nat)(ag:Bool)(s:Nat)(h:Hp)(vs:List AV)(Q:AV->Eff->Prop)(t:Tok Q):XO pg kb (.load sz ag) s h vs Q t=XV (HQ h sz ag vs) Q ⟨⟩:=dY rfl s h vs Q
theorem PK(sz:Nat)(ag:Bool)(s:Nat)(h:Hp)(vs:List AV)(Q:AV->Eff->Prop)(t:Tok Q):XO pg kb (.store sz ag) s h vs Q t=XV (DA h sz ag vs) Q ⟨⟩:=dY rfl s h vs Q
theorem RB(s:Nat)(h:Hp)(vs:List AV)(Q:AV->Eff->Prop)(t:Tok Q):XO pg kb (.nilc) s h vs Q t=XV (HO vs) Q ⟨⟩:=dY rfl s h vs Q
theorem U5(op:BinOp)(s:Nat)(h:Hp)(vs:List AV)(Q:AV->Eff->Prop)(t:Tok Q):XO pg kb (.bin op) s h vs Q t=XV (JO op vs) Q ⟨⟩:=dY rfl s h vs Q
theorem U6(ng:Bool)(s:Nat)(h:Hp)(vs:List AV)(Q:AV->Eff->Prop)(t:Tok Q):XO pg kb (.beq ng) s h vs Q t=XV (OF ng vs) Q ⟨⟩:=dY rfl s h vs Q
theorem UZ(q:Nat)(ng:Bool)(s:Nat)(h:Hp)(vs:List AV)(Q:AV->Eff->Prop)(t:Tok Q):XO pg kb (.eqn q ng) s h vs Q t=XV (OB q ng vs) Q ⟨⟩:=dY rfl s h vs Q
theorem UY(ng:Bool)(qs:List Nat)(s:Nat)(h:Hp)(vs:List AV)(Q:AV->Eff->Prop)(t:Tok Q):XO pg kb (.eqs ng qs) s h vs Q t=XV (zQ ng qs vs) Q ⟨⟩:=dY rfl s h vs Q
theorem XA(op:UnOp)(s:Nat)(h:Hp)(vs:List AV)(Q:AV->Eff->Prop)(t:Tok Q):XO pg kb (.un op) s h vs Q t=XV (TN op vs) Q ⟨⟩:=dY rfl s h vs Q
theorem U1(i:IntKind)(s:Nat)(h:Hp)(vs:List AV)(Q:AV->Eff->Prop)(t:Tok Q):XO pg kb (.cvi i) s h vs Q t=XV (OD i vs) Q ⟨⟩:=dY rfl s h vs Q
theorem U0(s:Nat)(h:Hp)(vs:List AV)(Q:AV->Eff->Prop)(t:Tok Q):XO pg kb (.cvs) s h vs Q t=XV (OC vs) Q ⟨⟩:=dY rfl s h vs Q
theorem UM(s:Nat)(h:Hp)(vs:List AV)(Q:AV->Eff->Prop)(t:Tok Q):XO pg kb (.s2b) s h vs Q t=XV (N2 vs) Q ⟨⟩:=dY rfl s h vs Q
theorem U7(s:Nat)(h:Hp)(vs:List AV)(Q:AV->Eff->Prop)(t:Tok Q):XO pg kb (.b2s) s h vs Q t=XV (FG h vs) Q ⟨⟩:=dY rfl s h vs Q
theorem UV(off sz:Nat)(ag:Bool)(s:Nat)(h:Hp)(vs:List AV)(Q:AV->Eff->Prop)(t:Tok Q):XO pg kb (.fld off sz ag) s h vs Q t=XV (jJ off sz ag vs) Q ⟨⟩:=dY rfl s h vs Q
theorem UW(off sz:Nat)(ag:Bool)(s:Nat)(h:Hp)(vs:List AV)(Q:AV->Eff->Prop)(t:Tok Q):XO pg kb (.fad off sz ag) s h vs Q t=XV (jK off sz ag vs) Q ⟨⟩:=dY rfl s h vs Q
theorem UU(e:Nat)(ag:Bool)(arr:Option Nat)(s:Nat)(h:Hp)(vs:List AV)(Q:AV->Eff->Prop)(t:Tok Q):XO pg kb (.iad e ag arr) s h vs Q t=XV (N9 e ag arr vs) Q ⟨⟩:=dY rfl s h vs Q
theorem US(s:Nat)(h:Hp)(vs:List AV)(Q:AV->Eff->Prop)(t:Tok Q):XO pg kb (.ixs) s h vs Q t=XV (N7 vs) Q ⟨⟩:=dY rfl s h vs Q
theorem UT(len e:Nat)(ag:Bool)(s:Nat)(h:Hp)(vs:List AV)(Q:AV->Eff->Prop)(t:Tok Q):XO pg kb (.ixa len e ag) s h vs Q t=XV (N8 len e ag vs) Q ⟨⟩:=dY rfl s h vs Q
theorem UK(e:Nat)(lo hi mx:Bool)(s:Nat)(h:Hp)(vs:List AV)(Q:AV->Eff->Prop)(t:Tok Q):XO pg kb (.slc e lo hi mx) s h vs Q t=XV (gB h e lo hi mx vs) Q ⟨⟩:=dY rfl s h vs Q
theorem UJ(lo hi:Bool)(s:Nat)(h:Hp)(vs:List AV)(Q:AV->Eff->Prop)(t:Tok Q):XO pg kb (.sls lo hi) s h vs Q t=XV (rH lo hi vs) Q ⟨⟩:=dY rfl s h vs Q
theorem UL(len e:Nat)(lo hi:Bool)(s:Nat)(h:Hp)(vs:List AV)(Q:AV->Eff->Prop)(t:Tok Q):XO pg kb (.sla len e lo hi) s h vs Q t=XV (N1 h len e lo hi vs) Q ⟨⟩:=dY rfl s h vs Q
theorem UO(e:Nat)(ag:Bool)(bytes:Nat)(z:List AV)(s:Nat)(h:Hp)(vs:List AV)(Q:AV->Eff->Prop)(t:Tok Q):XO pg kb (.mks e ag bytes z) s h vs Q t=XV (N4 h (kb+s) e ag bytes z vs) Q ⟨⟩:=dY rfl s h vs Q
theorem UR(q:Nat)(s:Nat)(h:Hp)(vs:List AV)(Q:AV->Eff->Prop)(t:Tok Q):XO pg kb (.len q) s h vs Q t=XV (FE h q vs) Q ⟨⟩:=dY rfl s h vs Q
theorem RE(n:Nat)(s:Nat)(h:Hp)(vs:List AV)(Q:AV->Eff->Prop)(t:Tok Q):XO pg kb (.lenc n) s h vs Q t=XV (HR n vs) Q ⟨⟩:=dY rfl s h vs Q
theorem U3(s:Nat)(h:Hp)(vs:List AV)(Q:AV->Eff->Prop)(t:Tok Q):XO pg kb (.cap) s h vs Q t=XV (OE h vs) Q ⟨⟩:=dY rfl s h vs Q
theorem gR(e:Nat)(ag:Bool)(bytes:Nat)(s:Nat)(h:Hp)(vs:List AV)(Q:AV->Eff->Prop)(t:Tok Q):XO pg kb (.app e ag bytes) s h vs Q t=XV (l8 h (kb+s) e ag bytes vs) Q ⟨⟩:=dY rfl s h vs Q
theorem U2(e:Nat)(ag:Bool)(s:Nat)(h:Hp)(vs:List AV)(Q:AV->Eff->Prop)(t:Tok Q):XO pg kb (.cpy e ag) s h vs Q t=XV (FF h e ag vs) Q ⟨⟩:=dY rfl s h vs Q
theorem XD(s:Nat)(h:Hp)(vs:List AV)(Q:AV->Eff->Prop)(t:Tok Q):XO pg kb (.mn) s h vs Q t=XV (TR vs) Q ⟨⟩:=dY rfl s h vs Q
theorem XB(s:Nat)(h:Hp)(vs:List AV)(Q:AV->Eff->Prop)(t:Tok Q):XO pg kb (.mx) s h vs Q t=XV (TQ vs) Q ⟨⟩:=dY rfl s h vs Q
theorem UX(i:Nat)(s:Nat)(h:Hp)(vs:List AV)(Q:AV->Eff->Prop)(t:Tok Q):XO pg kb (.ext i) s h vs Q t=XV (OA i vs) Q ⟨⟩:=dY rfl s h vs Q
theorem UP(s:Nat)(h:Hp)(vs:List AV)(Q:AV->Eff->Prop)(t:Tok Q):XO pg kb (.mki) s h vs Q t=XV (N5 vs) Q ⟨⟩:=dY rfl s h vs Q
theorem UQ(f:Nat)(s:Nat)(h:Hp)(vs:List AV)(Q:AV->Eff->Prop)(t:Tok Q):XO pg kb (.mkf f) s h vs Q t=XV (N6 f vs) Q ⟨⟩:=dY rfl s h vs Q
theorem K2(a:AV)(l:List AV):iP (a::l) 0=a:=rfl
theorem K3(a:AV)(l:List AV)(n:Nat):iP (a::l) (n+1)=iP l n:=by simp[iP]
theorem KD(l:List AV)(v:AV):eK l none v=l:=rfl
theorem KB(a:AV)(l:List AV)(v:AV):eK (a::l) (some 0) v=v::l:=rfl
theorem KC(a:AV)(l:List AV)(v:AV)(n:Nat):eK (a::l) (some (n+1)) v=a::eK l (some n) v:=rfl
theorem Q3(h:Hp)(rd:List Nat):Eff.app h (.pat rd [])=h:=rfl
theorem kK(h:Hp)(rd:List Nat)(k e:Nat)(o:Ob):Eff.app h (.pat rd [⟨k,e,o⟩])=h.put k e o:=rfl
theorem uW(h:Hp)(rd:List Nat)(k e k' e':Nat)(o o':Ob):Eff.app h (.pat rd [⟨k,e,o⟩,⟨k',e',o'⟩])=(h.put k e o).put k' e' o':=rfl
theorem LP(h h':Hp):Eff.app h (.whole h')=h':=rfl
theorem LN(v:AV):val v=some (v,.pat [] []):=rfl
theorem QO(h:Hp)(k:Nat)(o:Ob)(v:Nat->AV):oP h k o v=some (v (h.next k),.pat [k] [⟨k,h.next k,o⟩]):=rfl
theorem M8(k:Nat):Hp.next [] k=0:=rfl
theorem M7(h:Hp)(k e:Nat)(o:Ob)(q:Nat):(h.put k e o).next q=if k=q then e+1 else h.next q:=by
 simp only[Hp.next,aH];by_cases c:k=q<;>simp[c]
theorem JG(k:Nat):Hp.get [] k=none:=rfl
theorem KY(cs:List AV):AV.isAgg (.agg cs)=true:=rfl
theorem LH(cs:List AV):AV.cells (.agg cs)=cs:=rfl
theorem BH(cs:List AV)(off sz:Nat):fR cs off sz true=if off+sz<=cs.length then some (.agg ((cs.drop off).take sz)) else none:=rfl
theorem KK(cs:List AV)(off sz:Nat):fR cs off sz false=cs[off]?:=rfl
theorem IM{α β : Type}(x : α)(f : α -> Option β):(some x).bind f=f x:=rfl
theorem KS{α β : Type}(x : α)(f : α -> β):(some x).map f=some (f x):=rfl
theorem VD(e:List AV)(h:Hp):(St.mk e h).env=e:=rfl
theorem XE(e:List AV)(h:Hp):(St.mk e h).hp=h:=rfl
theorem RL(a b:Nat)(c:List (Sum Nat (Nat×Nat×Bool)))(d:C):(CF.mk a b c d).body=d:=rfl
theorem VI(a b:Nat)(c:List (Sum Nat (Nat×Nat×Bool)))(d:C):(CF.mk a b c d).res=c:=rfl
theorem XJ(a b:Nat)(c:List (Sum Nat (Nat×Nat×Bool)))(d:C):(CF.mk a b c d).nt=b:=rfl
theorem fits_bool(b:Bool)(sz:Nat)(ag:Bool):AV.fits (.bool b) sz ag=(!ag&&sz==1):=rfl
theorem AY(b:Bool):AV.tree (.bool b)=true:=by simp[AV.tree]
theorem fits_int(k:IntKind)(n:Int)(sz:Nat)(ag:Bool):AV.fits (.int k n) sz ag=(!ag&&sz==1):=rfl
theorem DS(k:IntKind)(n:Int):AV.tree (.int k n)=true:=by simp[AV.tree]
theorem fits_str(b:List UInt8)(sz:Nat)(ag:Bool):AV.fits (.str b) sz ag=(!ag&&sz==1):=rfl
theorem LY(b:List UInt8):AV.tree (.str b)=true:=by simp[AV.tree]
theorem fits_sl(nl:Bool)(es:List AV)(cl:Bool)(sz:Nat)(ag:Bool):AV.fits (.sl nl es cl) sz ag=(!ag&&sz==1):=rfl
theorem mB(nl:Bool)(es:List AV)(cl:Bool):AV.tree (.sl nl es cl)=treeL es:=by simp[AV.tree]
theorem fits_fp(v:AV)(sz:Nat)(ag:Bool):AV.fits (.fp v) sz ag=(!ag&&sz==1):=rfl
theorem CJ(v:AV):AV.tree (.fp v)=v.tree:=by simp[AV.tree]
theorem fits_nilp  (sz:Nat) (ag:Bool):AV.fits (.nilp ) sz ag=(!ag&&sz==1):=rfl
theorem J2  : AV.tree (.nilp )=true:=by simp[AV.tree]
theorem fits_nilf  (sz:Nat) (ag:Bool):AV.fits (.nilf ) sz ag=(!ag&&sz==1):=rfl
theorem J4  : AV.tree (.nilf )=true:=by simp[AV.tree]
theorem fits_nili  (sz:Nat) (ag:Bool):AV.fits (.nili ) sz ag=(!ag&&sz==1):=rfl
theorem J3  : AV.tree (.nili )=true:=by simp[AV.tree]
theorem fits_fn(f:Nat)(cs:List AV)(sz:Nat)(ag:Bool):AV.fits (.fn f cs) sz ag=(!ag&&sz==1):=rfl
theorem pB(f:Nat)(cs:List AV):AV.tree (.fn f cs)=treeL cs:=by simp[AV.tree]
theorem fits_rf(k e o l c:Nat)(sz:Nat)(ag:Bool):AV.fits (.rf k e o l c) sz ag=(!ag&&sz==1):=rfl
theorem PX(k e o l c:Nat):AV.tree (.rf k e o l c)=false:=by simp[AV.tree]
theorem fits_pt(k e o:Nat)(sz:Nat)(ag:Bool):AV.fits (.pt k e o) sz ag=(!ag&&sz==1):=rfl
theorem PY(k e o:Nat):AV.tree (.pt k e o)=false:=by simp[AV.tree]
theorem fits_ifc(v:AV)(sz:Nat)(ag:Bool):AV.fits (.ifc v) sz ag=(!ag&&sz==1):=rfl
theorem LZ(v:AV):AV.tree (.ifc v)=v.tree:=by simp[AV.tree]
theorem fits_agg(cs:List AV)(sz:Nat)(ag:Bool):AV.fits (.agg cs) sz ag=(ag&&cs.length==sz):=rfl
theorem xY(cs:List AV):AV.tree (.agg cs)=treeL cs:=by simp[AV.tree]
theorem LX(cs:List AV):AV.tree (.tup cs)=treeL cs:=by simp[AV.tree]
theorem M5(b:Bool):AV.one (.bool b)=true:=rfl
theorem QM(k:IntKind)(n:Int):AV.one (.int k n)=true:=rfl
theorem QL(b:List UInt8):AV.one (.str b)=true:=rfl
theorem S8(nl:Bool)(es:List AV)(cl:Bool):AV.one (.sl nl es cl)=true:=rfl
theorem TB(v:AV):AV.one (.fp v)=true:=rfl
theorem M2  : AV.one (.nilp )=true:=rfl
theorem M4  : AV.one (.nilf )=true:=rfl
theorem M3  : AV.one (.nili )=true:=rfl
theorem TC(f:Nat)(cs:List AV):AV.one (.fn f cs)=true:=rfl
theorem S9(k e o l c:Nat):AV.one (.rf k e o l c)=true:=rfl
theorem TA(k e o:Nat):AV.one (.pt k e o)=true:=rfl
theorem QN(v:AV):AV.one (.ifc v)=true:=rfl
theorem K5(b:Bool):AV.flat (.bool b)=true:=by simp[AV.flat]
theorem N0(k:IntKind)(n:Int):AV.flat (.int k n)=true:=by simp[AV.flat]
theorem NZ(b:List UInt8):AV.flat (.str b)=true:=by simp[AV.flat]
attribute [go_sem] M5 QM QL S8 TB M2 M4 M3 TC S9 TA QN K5 N0 NZ List.append_nil
theorem NJ(nl:Bool)(es:List AV)(cl:Bool):AV.isNil 1 (.sl nl es cl)=some nl:=rfl
theorem NK(k e o l c:Nat):AV.isNil 1 (.rf k e o l c)=some false:=rfl
theorem HB:AV.isNil 4 .nili=some true:=rfl
theorem KU(v:AV):AV.isNil 4 (.ifc v)=some false:=rfl
theorem HA:AV.isNil 0 .nilp=some true:=rfl
theorem NM(v:AV):AV.isNil 0 (.fp v)=some false:=rfl
theorem NL(k e o:Nat):AV.isNil 0 (.pt k e o)=some false:=rfl
theorem HC:AV.isNil 3 .nilf=some true:=rfl
theorem NN(f:Nat)(cs:List AV):AV.isNil 3 (.fn f cs)=some false:=rfl
attribute [go_sem ↓] Q4 Q6 UF UG Q5 Q7 UE PH UI Q9 PJ UH Q8 PI JX F8 RT RX RU RW RV JW
 J6 J7 J5 IK IL IJ OH OG ON OM
attribute [go_sem] JX F8 RT RX RU RW RV JW PL RA LQ LR
 UN U4 PN PM RC RD PK RB U5 U6 UZ UY XA U1 U0 UM U7 UV UW UU US UT UK UJ UL UO UR RE U3 U2 XD XB UX UP UQ
theorem ID(b:Bool):AV.cells (.bool b)=[.bool b]:=rfl
theorem HG(b:Bool):AV.isAgg (.bool b)=false:=rfl
theorem LF(k:IntKind)(n:Int):AV.cells (.int k n)=[.int k n]:=rfl
theorem KW(k:IntKind)(n:Int):AV.isAgg (.int k n)=false:=rfl
theorem LE(b:List UInt8):AV.cells (.str b)=[.str b]:=rfl
theorem KV(b:List UInt8):AV.isAgg (.str b)=false:=rfl
theorem OU(nl:Bool)(es:List AV)(cl:Bool):AV.cells (.sl nl es cl)=[.sl nl es cl]:=rfl
theorem NP(nl:Bool)(es:List AV)(cl:Bool):AV.isAgg (.sl nl es cl)=false:=rfl
theorem OX(v:AV):AV.cells (.fp v)=[.fp v]:=rfl
theorem NS(v:AV):AV.isAgg (.fp v)=false:=rfl
theorem IA  : AV.cells (.nilp )=[.nilp ]:=rfl
theorem HD  : AV.isAgg (.nilp )=false:=rfl
theorem IC  : AV.cells (.nilf )=[.nilf ]:=rfl
theorem HF  : AV.isAgg (.nilf )=false:=rfl
theorem IB  : AV.cells (.nili )=[.nili ]:=rfl
theorem HE  : AV.isAgg (.nili )=false:=rfl
theorem OY(f:Nat)(cs:List AV):AV.cells (.fn f cs)=[.fn f cs]:=rfl
theorem NT(f:Nat)(cs:List AV):AV.isAgg (.fn f cs)=false:=rfl
theorem OV(k e o l c:Nat):AV.cells (.rf k e o l c)=[.rf k e o l c]:=rfl
theorem NQ(k e o l c:Nat):AV.isAgg (.rf k e o l c)=false:=rfl
theorem OW(k e o:Nat):AV.cells (.pt k e o)=[.pt k e o]:=rfl
theorem NR(k e o:Nat):AV.isAgg (.pt k e o)=false:=rfl
theorem LG(v:AV):AV.cells (.ifc v)=[.ifc v]:=rfl
theorem KX(v:AV):AV.isAgg (.ifc v)=false:=rfl
attribute [go_sem] ID HG LF KW LE KV OU NP OX NS IA HD IC HF IB HE OY NT OV NQ OW NR LG KX List.all_cons List.all_nil
attribute [go_sem] K2 K3 KD KB KC aH Q3 kK uW LP LN QO JG M8 M7
 KY LH BH KK TT exists_eq_left' IM KS X.ev VD XE RL VI XJ
 N3 jL DC DB HP HQ DA HO JO OF OB zQ TN OD OC N2 FG jJ jK N9 N7 N8 gB rH N1 N4 FE HR OE l8 FF TR TQ OA N5 N6
 PC bin UA PB oV dJ NJ NK HB KU HA NM NL HC NN fits_agg fits_bool fits_int fits_str fits_sl fits_fp fits_nilp fits_fn fits_rf fits_pt fits_nilf fits_nili fits_ifc  bU AY DS LY xY LX mB CJ J2 J3 J4 pB LZ PX PY eqC enter result pF wJ
 List.map_cons List.map_nil List.length_cons List.length_nil List.replicate_succ List.replicate_zero List.cons_append List.nil_append List.getElem?_cons_zero List.getElem?_cons_succ List.drop_zero List.drop_succ_cons List.take_succ_cons List.take_zero
 Option.getD_some
end Go.Tev
end
