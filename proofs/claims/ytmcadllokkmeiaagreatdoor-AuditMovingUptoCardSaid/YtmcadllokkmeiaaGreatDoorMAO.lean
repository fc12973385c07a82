import Derived.Test.YtmcadllokkmeiaaGreatDoorMAG
set_option linter.all false
section
namespace Go.Tev
structure EF where
 nt:Nat
 dt:Bool
 l:List (Nat×AV)
def r7(nt:Nat)(dt:Bool)(t:Nat):List (Nat×AV)->AV
 |[]=>bif dt then (bif t.blt nt then .tup [] else .top) else .top
 |p::r=>bif p.1.beq t then p.2 else r7 nt dt t r
def EF.get(e:EF)(t:Nat):AV:=r7 e.nt e.dt t e.l
def EF.set(e:EF):Option Nat->AV->EF
 |none,_=>e
 |some d,v=>bif d.blt e.nt then ⟨e.nt,e.dt,(d,v)::e.l⟩ else e
def pG(e:EF):Nat->List Bool->Option (List (Nat×AV))
 |i,[]=>bif e.nt.ble i then some [] else none
 |i,true::m=>(pG e (i+1) m).map ((i,e.get i) :: ·)
 |i,false::m=>pG e (i+1) m
def EF.clear(e:EF)(m:List Bool):Option EF:=(pG e 0 m).map fun l=>⟨e.nt,false,l⟩
def xC:Nat->List AV->List (Nat×AV)
 |_,[]=>[]
 |i,v::r=>(i,v)::xC (i+1) r
def yG(cf:CF)(args:List AV):EF:=⟨args.length+(cf.nt-args.length),true,xC 0 args⟩
def nI(e:EF)(env:List AV):Prop:=env.length=e.nt/\∀t,eC env t=e.get t
theorem nI.set{e:EF}{env:List AV}(h:nI e env)(d:Option Nat)(v:AV):nI (e.set d v) (cD env d v):=by
 cases d with
 |none=>exact h
 |some d=>
  refine⟨?_,?_⟩
  ·rw[mH,h.1]
   simp only[EF.set,cond_eq_ite]
   split<;>rfl
  ·intro t
   rw[qI]
   simp only[EF.set,cond_eq_ite,Nat.blt_eq]
   by_cases hd:d<e.nt
   ·rw[if_pos hd]
    simp only[EF.get,r7,cond_eq_ite,Nat.beq_eq]
    by_cases ht:d=t
    ·subst ht
     rw[if_pos ⟨rfl,by rw[h.1];exact hd⟩,if_pos rfl]
    ·rw[if_neg (by rintro⟨q,_⟩;exact ht (by simpa using q)),if_neg ht]
     exact h.2 t
   ·rw[if_neg hd,if_neg (by rintro⟨q,q2⟩;simp at q;subst q;rw[h.1]at q2;exact hd q2)]
    exact h.2 t
theorem qF{e:EF}{nt:Nat}:∀{m:List Bool}{i:Nat}{l:List (Nat×AV)},pG e i m=some l ->
  e.nt<=i+m.length/\∀t,r7 nt false t l=if i<=t/\m[t-i]?=some true then e.get t else .top
 |[],i,l,h=>by
  simp only[pG,cond_eq_ite]at h
  split at h
  ·rename_i q
   cases h
   refine⟨by simpa using q,fun t=>?_⟩
   simp[r7]
  ·cases h
 |true::m,i,l,h=>by
  simp only[pG]at h
  cases hk:pG e (i+1) m with
  |none=>simp[hk]at h
  |some l'=>
   simp[hk]at h
   subst h
   obtain⟨h1,h2⟩:=qF (nt:=nt) hk
   refine⟨by simp;omega,fun t=>?_⟩
   simp only[r7,cond_eq_ite,Nat.beq_eq]
   by_cases ht:i=t
   ·subst ht;simp
   ·rw[if_neg ht,h2]
    by_cases hle:i+1<=t
    ·have:t-i=(t-(i+1))+1:=by omega
     simp[hle,this,show i<=t by omega]
    ·rw[if_neg (by omega),if_neg (by omega)]
 |false::m,i,l,h=>by
  simp only[pG]at h
  obtain⟨h1,h2⟩:=qF (nt:=nt) h
  refine⟨by simp;omega,fun t=>?_⟩
  rw[h2]
  by_cases hle:i+1<=t
  ·have:t-i=(t-(i+1))+1:=by omega
   simp[hle,this,show i<=t by omega]
  ·by_cases ht:i=t
   ·subst ht
    simp
    intro q
    omega
   ·rw[if_neg (by omega),if_neg (by omega)]
theorem oG:∀(m:List Bool)(env:List AV)(t:Nat),env.length<=m.length->eC (clear m env) t=if m[t]?=some true then eC env t else .top
 |[],env,t,h=>by
  have:env=[]:=List.eq_nil_of_length_eq_zero (by simpa using h)
  subst this
  simp[clear,eC]
 |b::m,[],t,h=>by
  cases b<;>simp[clear,eC]
 |true::m,v::r,0,h=>by simp[clear,eC]
 |false::m,v::r,0,h=>by simp[clear,eC]
 |true::m,v::r,t+1,h=>by
  have:=oG m r t (by simpa using h)
  simpa[clear,eC] using this
 |false::m,v::r,t+1,h=>by
  have:=oG m r t (by simpa using h)
  simpa[clear,eC] using this
theorem nI.clear{e e':EF}{env:List AV}(h:nI e env){m:List Bool}(hc:e.clear m=some e'):nI e' (Tev.clear m env):=by
 unfold EF.clear at hc
 cases hk:pG e 0 m with
 |none=>simp[hk]at hc
 |some l=>
  simp[hk]at hc
  subst hc
  obtain⟨h1,h2⟩:=qF (nt:=e.nt) hk
  refine⟨by rw[gV];exact h.1,fun t=>?_⟩
  rw[oG m env t (by rw[h.1];omega)]
  simp only[EF.get]
  rw[h2,h.2 t]
  simp
theorem qU{nt:Nat}{dt:Bool}:∀{args:List AV}{i t:Nat},r7 nt dt t (xC i args)=if h:i<=t/\t-i<args.length then args[t-i]'h.2 else r7 nt dt t []
 |[],i,t=>by simp[xC]
 |v::r,i,t=>by
  simp only[xC,r7,cond_eq_ite,Nat.beq_eq]
  by_cases ht:i=t
  ·subst ht;simp
  ·rw[if_neg ht,qU]
   by_cases hle:i+1<=t
   ·have e1:t-i=(t-(i+1))+1:=by omega
    by_cases hl:t-(i+1)<r.length
    ·rw[dif_pos ⟨hle,hl⟩,dif_pos ⟨by omega,by simp;omega⟩]
     simp[e1]
    ·rw[dif_neg (by omega),dif_neg (by simp;omega)]
     simp[r7,cond_eq_ite]
   ·rw[dif_neg (by omega),dif_neg (by omega)]
    simp[r7,cond_eq_ite]
theorem nI.enter(cf:CF)(args:List AV):nI (yG cf args) (Tev.enter cf args):=by
 refine⟨by simp[Tev.enter,yG],fun t=>?_⟩
 simp only[EF.get,yG,qU,Tev.enter,eC]
 by_cases h:t<args.length
 ·rw[dif_pos ⟨Nat.zero_le _,by simpa using h⟩]
  simp[List.getElem?_append_left h,h]
 ·rw[dif_neg (by simpa using h),List.getElem?_append_right (by omega)]
  simp only[r7,cond_true,cond_eq_ite,Nat.blt_eq,List.getElem?_replicate]
  by_cases h2:t<args.length+(cf.nt-args.length)
  ·rw[if_pos (by omega),if_pos h2];rfl
  ·rw[if_neg (by omega),if_neg h2];rfl
def X.evE(gl:Nat->Option AV)(e:EF):X->AV
 |.t n=>e.get n
 |.c v=>v
 |.g n=>match gl n with|some v => .fp v|none => .top
 |.f n => .fn n []
structure StE where
 env:EF
 hp:Hp
def xG(e:EF):Option (Nat×Bool)->Option Bool
 |none=>some true
 |some (t,b)=>
  match e.get t with
  |.bool c=>some (c==b)
  |.tup []=>some false
  |_=>none
def DE(gl:Nat->Option AV)(call:aN)(kb:Nat)(r:R)(st:StE):Option (StE×Eff):=
 match xG st.env r.gd with
 |none=>none
 |some false=>some (⟨st.env.set r.d (.tup []),st.hp⟩,.pat [] [])
 |some true=>
  match opR call kb r st.hp (r.xs.map (X.evE gl st.env)) with
  |some (v,eff)=>some (⟨st.env.set r.d v,eff.app st.hp⟩,eff)
  |none=>none
def vW(gl:Nat->Option AV)(call:aN)(kb:Nat):List R->StE->Option StE
 |[],st=>some st
 |r::rs,st=>
  match DE gl call kb r st with
  |some (st',_)=>vW gl call kb rs st'
  |none=>none
def p9(gl:Nat->Option AV)(call:aN)(kb:Nat):List R->StE->Option (StE×List Eff)
 |[],st=>some (st,[])
 |r::rs,st=>
  match DE gl call kb r st with
  |some (st',e)=>(p9 gl call kb rs st').map fun(s,l)=>(s,e::l)
  |none=>none
def z8(f:StE->Option (Ex×StE))(clr:List Bool):Nat->StE->Option (Ex×StE)
 |0,_=>none
 |n+1,st=>
  match st.env.clear clr with
  |none=>none
  |some e=>
   match f ⟨e,st.hp⟩ with
   |some (.nor,st')=>z8 f clr n st'
   |r=>r
def EF.list(e:EF):List AV:=(List.range e.nt).map e.get
def EF.of(env:List AV):EF:=⟨env.length,false,xC 0 env⟩
theorem nI.list{e:EF}{env:List AV}(h:nI e env):e.list=env:=by
 apply List.ext_getElem
 ·simp[EF.list,h.1]
 ·intro i h1 h2
  have:=h.2 i
  simp only[eC,List.getElem?_eq_getElem h2,Option.getD_some]at this
  simp[EF.list,this]
theorem nI.of(env:List AV):nI (EF.of env) env:=by
 refine⟨rfl,fun t=>?_⟩
 simp only[EF.get,EF.of,qU,eC]
 by_cases h:t<env.length
 ·rw[dif_pos ⟨Nat.zero_le _,by simpa using h⟩]
  simp[h]
 ·rw[dif_neg (by simpa using h),List.getElem?_eq_none (by omega)]
  rfl
def IU(env:EF)(k e:Nat)(h:Hp):Option (Ex×StE):=
 match AN [] k e h with
 |some (x,st)=>some (x,⟨env,st.hp⟩)
 |none=>none
def GJ(e:EF)(nx more:Nat)(v:AV)(b:Bool):EF:=(e.set (some nx) v).set (some more) (.bool b)
def N4(x y:Ex×StE):Bool:=decide (x.1=y.1)&&pN x.2.env.list y.2.env.list&&CQ x.2.hp y.2.hp
def mrE(f:StE->Option (Ex×StE))(it nx more out:Nat)(clr:List Bool):Nat->StE->Option (Ex×StE)
 |0,_=>none
 |n+1,st=>
  if nx<st.env.nt/\more<st.env.nt then
  match st.env.clear clr with
  |none=>none
  |some env=>
  match env.get it with
  |.pt k e 0=>
   match DN st.hp k e with
   |some (l,o)=>
    if l.isEmpty then (killI st.hp k e).map fun h=>(.ext out,⟨GJ env nx more (.tup [.bool false]) false,h⟩)
    else gJ N4 (fun b=>
     match f ⟨GJ env nx more (.tup [.bool true,.top,.top]) true,st.hp.put k e (o b)⟩ with
     |some (.nor,st')=>mrE f it nx more out clr n st'
     |some (x,st')=>(killI st'.hp k e).map fun h=>(x,⟨st'.env,h⟩)
     |none=>none) l
   |none=>none
  |_=>none
  else none
def fK(gl:Nat->Option AV)(call:aN)(kb n:Nat):C->StE->Option (Ex×StE)
 |.skip,st=>some (.nor,st)
 |.reg rs false,st=>(vW gl call kb rs st).map fun s=>(.nor,s)
 |.reg rs true,st=>
  match p9 gl call kb rs st with
  |some (s,es)=>if iQ 0 rs es then some (.nor,s) else none
  |none=>none
 |.seq a b,st=>
  match fK gl call kb n a st with
  |some (.nor,st')=>fK gl call kb n b st'
  |r=>r
 |.cond c a b,st=>
  match c.evE gl st.env with
  |.bool true=>fK gl call kb n a st
  |.bool false=>fK gl call kb n b st
  |_=>none
 |.block id b,st=>
  match fK gl call kb n b st with
  |some (.ext i,st')=>bif i.beq id then some (.nor,st') else some (.ext i,st')
  |r=>r
 |.loop b clr,st=>z8 (fK gl call kb n b) clr n st
 |.exit id,st=>some (.ext id,st)
 |.ret,st=>some (.ret,st)
 |.rf x s ps a b,st=>
  match x.evE gl st.env with
  |.fn f cs=>
   match call f (.yl (kb+s) (st.hp.next (kb+s))::cs) ((kb+s+1)*65536) (st.hp.put (kb+s) (st.hp.next (kb+s)) (.lp 0 kb st.env.list ps a b)) with
   |some (_,h')=>IU st.env (kb+s) (st.hp.next (kb+s)) h'
   |none=>none
  |_=>none
 |.mr it nx more out b clr,st=>mrE (fK gl call kb n b) it nx more out clr n st
 |.bad,_=>none
def xX(st:StE):Sum Nat (Nat×Nat×Bool)->Option AV
 |.inl t=>some (st.env.get t)
 |.inr (t,sz,ag)=>
  match st.env.get t with
  |.pt k e off=>match st.hp.get k with
   |some (e',.blk cs _ _ _ _)=>if e'=e then dQ cs off sz ag else none
   |_=>none
  |_=>none
def sD(st:StE):List (Sum Nat (Nat×Nat×Bool))->Option (List AV)
 |[]=>some []
 |x::r=>
  match xX st x,sD st r with
  |some v,some l=>some (v::l)
  |_,_=>none
def xW(st:StE)(rs:List (Sum Nat (Nat×Nat×Bool))):Option AV:=
 match sD st rs with
 |some [v]=>some v
 |some l=>some (.tup l)
 |none=>none
def x5(memo:Nat->List AV->Option AV)(f:Nat)(args:List AV):Nat->Hp->Option AV
 |0,[]=>memo f args
 |_,_=>none
def GM(ex:C->Nat->StE->Option (Ex×StE))(c:C)(b:Nat)(st:St):Option (Ex×St):=
 match ex c b ⟨EF.of st.env,st.hp⟩ with
 |some (x,s)=>some (x,⟨s.env.list,s.hp⟩)
 |none=>none
def cL(pg:Pg)(memo:Nat->List AV->Option AV):Nat->aN
 |0=>⟨fun _ _ _ _=>none,fun _ _ _ _=>none⟩
 |n+1=>⟨fun f args kb h=>
  match x5 memo f args kb h with
  |some r=>some (r,[])
  |none=>
   match pg.fs f with
   |none=>
    match pg.ex f with
    |some g=>g args kb h
    |none=>none
   |some cf=>
    match fK pg.gl (cL pg memo n) kb n cf.body ⟨yG cf args,h⟩ with
    |some (.ext _,_)=>none
    |some (_,st)=>(xW st cf.res).map fun v=>(v,st.hp)
    |none=>none,
  nY (GM fun c b st=>fK pg.gl (cL pg memo n) b n c st)⟩
structure StR(s:StE)(t:St):Prop where
 env:nI s.env t.env
 hp:s.hp=t.hp
end Go.Tev
end
section
namespace Go.Tev
structure gY(c c':aN):Prop where
 fn:∀f a kb h r,c f a kb h=some r->c' f a kb h=some r
 yl:∀k e a h r,c.yl k e a h=some r->c'.yl k e a h=some r
theorem gY.refl(c:aN):gY c c:=⟨fun _ _ _ _ _ h=>h,fun _ _ _ _ _ h=>h⟩
theorem l8{ex ex':C->Nat->St->Option (Ex×St)}(hx:∀c b st r,ex c b st=some r->ex' c b st=some r){k e:Nat}{a:List AV}{h:Hp}{r:AV×Hp}(h1:nY ex k e a h=some r):nY ex' k e a h=some r:=by
 unfold nY at h1 ⊢
 split at h1
 case h_2=>cases h1
 split at h1
 case isFalse=>cases h1
 rename_i hc
 rw[if_pos hc]
 split at h1
 case h_2=>cases h1
 rename_i he1
 rw[hx _ _ _ _ he1]
 simp only
 split at h1
 case h_2=>cases h1
 split at h1
 case isFalse=>cases h1
 rename_i hc2
 rw[if_pos hc2]
 split at h1
 case h_2=>cases h1
 rename_i he2
 rw[hx _ _ _ _ he2]
 exact h1
theorem d7{c c':aN}(hc:gY c c'){f:Nat}{ts:List AV}{r:AV}(h:bA c f ts=some r):bA c' f ts=some r:=by
 unfold bA at h ⊢
 cases hq:c f ts 0 [] with
 |none=>simp[hq]at h
 |some p=>rw[hq]at h;rw[hc.fn _ _ _ _ _ hq];exact h
theorem uQ{c c':aN}(hc:gY c c'){kb s:Nat}{h:Hp}{f:Nat}{th im:Bool}{vs:List AV}{r:AV×Eff}(h1:i6 c kb s h f th im vs=some r):i6 c' kb s h f th im vs=some r:=by
 unfold i6 at h1 ⊢
 cases hm:(if im then none else bJ (snap depth h) vs) with
 |some p=>
  rw[hm]at h1
  simp only at h1 ⊢
  cases hp:bA c f p.1 with
  |none=>simp[hp]at h1
  |some q=>
   rw[hp]at h1
   rw[d7 hc hp]
   exact h1
 |none=>
  rw[hm]at h1
  simp only at h1 ⊢
  cases hp:c f vs (iY kb s vs) h with
  |none=>simp[hp]at h1
  |some q=>
   rw[hp]at h1
   rw[hc.fn _ _ _ _ _ hp]
   exact h1
theorem vJ{c c':aN}(hc:gY c c'){h:Hp}{f:Nat}{vs:List AV}:∀{n b:Nat}{x:AV×List Nat×List Ent},kC c h f vs n b=some x->kC c' h f vs n b=some x
 |0,_,_,h1=>by simp[kC]at h1
 |n+1,b,x,h1=>by
  unfold kC at h1 ⊢
  cases hp:c f vs b [] with
  |none=>simp[hp]at h1
  |some q=>
   rw[hp]at h1
   rw[hc.fn _ _ _ _ _ hp]
   simp only at h1 ⊢
   split
   ·rename_i hh
    rw[if_pos hh]at h1
    exact h1
   ·rename_i hh
    rw[if_neg hh]at h1
    cases ht:kC c h f vs n (b+4096) with
    |none=>simp[ht]at h1
    |some y=>rw[ht]at h1;rw[vJ hc ht];exact h1
theorem A1{c c':aN}(hc:gY c c'){kb s:Nat}{h:Hp}{f:Nat}{vs:List AV}{r:AV×Eff}(h1:iX c kb s h f vs=some r):iX c' kb s h f vs=some r:=by
 unfold iX at h1 ⊢
 split
 ·rename_i ht
  rw[if_pos ht]at h1
  cases hq:kC c h f vs 7 ((kb+s+1)*65536) with
  |none=>simp[hq]at h1
  |some y=>rw[hq]at h1;rw[vJ hc hq];exact h1
 ·rename_i ht
  rw[if_neg ht]at h1
  cases h1
theorem A0{c c':aN}(hc:gY c c'){kb s:Nat}{h:Hp}{f:Nat}{vs:List AV}{r:AV×Eff}(h1:jS c kb s h f vs=some r):jS c' kb s h f vs=some r:=by
 unfold jS at h1 ⊢
 cases hq:c f vs (iY kb s vs) h with
 |none=>simp[hq]at h1
 |some y=>rw[hq]at h1;rw[hc.fn _ _ _ _ _ hq];exact h1
theorem zT{c c':aN}(hc:gY c c'){kb:Nat}{r:R}{h:Hp}{vs:List AV}{x:AV×Eff}(h1:opR c kb r h vs=some x):opR c' kb r h vs=some x:=by
 unfold opR at h1 ⊢
 split at h1
 ·exact uQ hc h1
 ·exact A1 hc h1
 ·exact A0 hc h1
 ·split at h1
  ·exact uQ hc h1
  ·split at h1
   ·rename_i hy
    rw[hc.yl _ _ _ _ _ hy]
    exact h1
   ·cases h1
  ·cases h1
 ·exact h1
structure vF(c c':aN):Prop where
 off:∀f a kb h r,kb≠0->c f a kb h=some r->c' f a kb h=some r
 at0:∀f a r,bA c f a=some r->bA c' f a=some r
 yl:∀k e a h r,c.yl k e a h=some r->c'.yl k e a h=some r
theorem xB(kb s:Nat)(vs:List AV):iY kb s vs≠0:=by
 unfold iY
 split<;>omega
theorem rU{c c':aN}(hc:vF c c'){kb s:Nat}{h:Hp}{f:Nat}{th im:Bool}{vs:List AV}{r:AV×Eff}(h1:i6 c kb s h f th im vs=some r):i6 c' kb s h f th im vs=some r:=by
 unfold i6 at h1 ⊢
 cases hm:(if im then none else bJ (snap depth h) vs) with
 |some p=>
  rw[hm]at h1
  simp only at h1 ⊢
  cases hp:bA c f p.1 with
  |none=>simp[hp]at h1
  |some q=>
   rw[hp]at h1
   rw[hc.at0 _ _ _ hp]
   exact h1
 |none=>
  rw[hm]at h1
  simp only at h1 ⊢
  cases hp:c f vs (iY kb s vs) h with
  |none=>simp[hp]at h1
  |some q=>
   rw[hp]at h1
   rw[hc.off _ _ _ _ _ (xB kb s vs) hp]
   exact h1
theorem sS{c c':aN}(hc:vF c c'){h:Hp}{f:Nat}{vs:List AV}:∀{n b:Nat}{x:AV×List Nat×List Ent},b≠0->kC c h f vs n b=some x->kC c' h f vs n b=some x
 |0,_,_,_,h1=>by simp[kC]at h1
 |n+1,b,x,hb,h1=>by
  unfold kC at h1 ⊢
  cases hp:c f vs b [] with
  |none=>simp[hp]at h1
  |some q=>
   rw[hp]at h1
   rw[hc.off _ _ _ _ _ hb hp]
   simp only at h1 ⊢
   split
   ·rename_i hh
    rw[if_pos hh]at h1
    exact h1
   ·rename_i hh
    rw[if_neg hh]at h1
    cases ht:kC c h f vs n (b+4096) with
    |none=>simp[ht]at h1
    |some y=>rw[ht]at h1;rw[sS hc (by omega) ht];exact h1
theorem yN{c c':aN}(hc:vF c c'){kb s:Nat}{h:Hp}{f:Nat}{vs:List AV}{r:AV×Eff}(h1:iX c kb s h f vs=some r):iX c' kb s h f vs=some r:=by
 unfold iX at h1 ⊢
 split
 ·rename_i ht
  rw[if_pos ht]at h1
  cases hq:kC c h f vs 7 ((kb+s+1)*65536) with
  |none=>simp[hq]at h1
  |some y=>rw[hq]at h1;rw[sS hc (by omega) hq];exact h1
 ·rename_i ht
  rw[if_neg ht]at h1
  cases h1
theorem yL{c c':aN}(hc:vF c c'){kb s:Nat}{h:Hp}{f:Nat}{vs:List AV}{r:AV×Eff}(h1:jS c kb s h f vs=some r):jS c' kb s h f vs=some r:=by
 unfold jS at h1 ⊢
 cases hq:c f vs (iY kb s vs) h with
 |none=>simp[hq]at h1
 |some y=>rw[hq]at h1;rw[hc.off _ _ _ _ _ (xB kb s vs) hq];exact h1
theorem EX{c c':aN}(hc:vF c c'){kb:Nat}{r:R}{h:Hp}{vs:List AV}{x:AV×Eff}(h1:opR c kb r h vs=some x):opR c' kb r h vs=some x:=by
 unfold opR at h1 ⊢
 split at h1
 ·exact rU hc h1
 ·exact yN hc h1
 ·exact yL hc h1
 ·split at h1
  ·exact rU hc h1
  ·split at h1
   ·rename_i hy
    rw[hc.yl _ _ _ _ _ hy]
    exact h1
   ·cases h1
  ·cases h1
 ·exact h1
theorem s7{gl:Nat->Option AV}{c c':aN}(hc:gY c c'){kb:Nat}{r:R}{st:St}{x:St×Eff}(h1:fS gl c kb r st=some x):fS gl c' kb r st=some x:=by
 unfold fS at h1 ⊢
 generalize wanted st.env r.gd=wg at h1 ⊢
 rcases wg with _|_|_
 ·exact h1
 ·exact h1
 ·simp only at h1 ⊢
  cases ho:opR c kb r st.hp (r.xs.map (X.ev gl st.env)) with
  |none=>simp[ho]at h1
  |some p=>rw[ho]at h1;rw[zT hc ho];exact h1
theorem pZ{gl:Nat->Option AV}{c c':aN}(hc:gY c c'){kb:Nat}:∀{rs:List R}{st st':St},lA gl c kb rs st=some st'->lA gl c' kb rs st=some st'
 |[],_,_,h=>h
 |r::rs,st,st',h=>by
  unfold lA at h ⊢
  cases hs:fS gl c kb r st with
  |none=>simp[hs]at h
  |some p=>
   rw[hs]at h
   rw[s7 hc hs]
   exact pZ hc h
theorem n6{gl:Nat->Option AV}{c c':aN}(hc:gY c c'){kb:Nat}:∀{rs:List R}{st:St}{x:St×List Eff},fU gl c kb rs st=some x->fU gl c' kb rs st=some x
 |[],_,_,h=>h
 |r::rs,st,x,h=>by
  unfold fU at h ⊢
  cases hs:fS gl c kb r st with
  |none=>simp[hs]at h
  |some p=>
   rw[hs]at h
   rw[s7 hc hs]
   simp only at h ⊢
   cases hr:fU gl c kb rs p.1 with
   |none=>simp[hr]at h
   |some q=>rw[hr]at h;rw[n6 hc hr];exact h
theorem oA{f f':St->Option (Ex×St)}(hf:∀st x,f st=some x->f' st=some x){clr:List Bool}:∀{n n':Nat}{st:St}{x:Ex×St},n<=n'->gU f clr n st=some x->gU f' clr n' st=some x
 |0,_,_,_,_,h=>by simp[gU]at h
 |n+1,0,_,_,hn,_=>by omega
 |n+1,n'+1,st,x,hn,h=>by
  simp only[gU]at h ⊢
  cases hs:f ⟨clear clr st.env,st.hp⟩ with
  |none=>simp[hs]at h
  |some p=>
   rw[hs]at h
   rw[hf _ _ hs]
   obtain⟨e,s⟩:=p
   cases e with
   |nor=>exact oA hf (by omega) h
   |ext id=>exact h
   |ret=>exact h
theorem rW{α : Type}{eq : α -> α -> Bool}{f g:Nat->Option α}(hf:∀b r,f b=some r->g b=some r):∀{l:List Nat}{r : α},gJ eq f l=some r->gJ eq g l=some r
 |[],_,h=>by simp[gJ]at h
 |[b],_,h=>hf _ _ h
 |b::b2::l,r,h=>by
  simp only[gJ]at h ⊢
  split at h
  case h_2=>cases h
  rename_i r1 s1 h1 h2
  rw[hf _ _ h1,rW hf h2]
  exact h
theorem zW{f f':St->Option (Ex×St)}(hf:∀st x,f st=some x->f' st=some x){it nx more out:Nat}{clr:List Bool}:∀{n n':Nat}{st:St}{x:Ex×St},n<=n'->mrN f it nx more out clr n st=some x->mrN f' it nx more out clr n' st=some x
 |0,_,_,_,_,h=>by simp[mrN]at h
 |n+1,0,_,_,hn,_=>by omega
 |n+1,n'+1,st,x,hn,h=>by
  simp only[mrN]at h ⊢
  split at h
  case isFalse=>cases h
  rename_i hl
  rw[if_pos hl]
  split at h
  case h_2=>cases h
  rename_i k e hit
  split at h
  case h_2=>cases h
  rename_i l o hx
  split at h
  ·rename_i hle
   first|exact h|(rw[if_pos hle];exact h)
  ·rename_i hle
   try rw[if_neg hle]
   refine rW (fun b r hr=>?_) h
   split at hr
   ·rename_i s1 h1
    rw[hf _ _ h1]
    exact zW hf (by omega) hr
   ·rename_i x1 s1 hne h1
    rw[hf _ _ h1]
    cases x1 with
    |nor=>exact(hne rfl).elim
    |ext id=>exact hr
    |ret=>exact hr
   ·cases hr
theorem kQ{gl:Nat->Option AV}{c c':aN}(hc:gY c c'){kb n n':Nat}(hn:n<=n'):∀{k:C}{st:St}{x:Ex×St},bF gl c kb n k st=some x->bF gl c' kb n' k st=some x:=by
 intro k
 induction k with
 |skip=>intro st x h;exact h
 |reg rs d=>
  intro st x h
  cases d with
  |false=>
   simp only[bF]at h ⊢
   cases hr:lA gl c kb rs st with
   |none=>simp[hr]at h
   |some s=>rw[hr]at h;rw[pZ hc hr];exact h
  |true=>
   simp only[bF]at h ⊢
   cases hr:fU gl c kb rs st with
   |none=>simp[hr]at h
   |some s=>rw[hr]at h;rw[n6 hc hr];exact h
 |seq a b iha ihb=>
  intro st x h
  simp only[bF]at h ⊢
  cases ha:bF gl c kb n a st with
  |none=>simp[ha]at h
  |some p=>
   rw[ha]at h
   rw[iha ha]
   obtain⟨e,s⟩:=p
   cases e with
   |nor=>exact ihb h
   |ext id=>exact h
   |ret=>exact h
 |cond x a b iha ihb=>
  intro st y h
  simp only[bF]at h ⊢
  split at h
  ·exact iha h
  ·exact ihb h
  ·cases h
 |block id b ih=>
  intro st x h
  simp only[bF]at h ⊢
  cases hb:bF gl c kb n b st with
  |none=>simp[hb]at h
  |some p=>rw[hb]at h;rw[ih hb];exact h
 |loop b m ih=>
  intro st x h
  simp only[bF]at h ⊢
  exact oA (fun st x q=>ih q) hn h
 |exit id=>intro st x h;exact h
 |ret=>intro st x h;exact h
 |rf x s ps a b=>
  intro st y h
  simp only[bF]at h ⊢
  split at h
  case h_2=>cases h
  rename_i f cs hf
  split at h
  case h_2=>cases h
  rename_i rr h' hcall
  rw[hc.fn _ _ _ _ _ hcall]
  exact h
 |bad=>intro st x h;simp[bF]at h
 |mr it nx more out b clr ih=>
  intro st x h
  simp only[bF]at h ⊢
  exact zW (fun st x q=>ih q) hn h
theorem cF(pg:Pg):∀{n n':Nat},n<=n'->gY (aO pg n) (aO pg n')
 |0,_,_=>⟨by intro f a kb h r hq;simp[aO]at hq,by intro k e a h r hq;simp[aO]at hq⟩
 |n+1,0,h=>by omega
 |n+1,n'+1,hn=>by
  refine⟨?_,fun k e a h r hq=>by
   simp only[aO]at hq ⊢
   exact l8 (fun c b st r hr=>kQ (cF pg (Nat.le_of_succ_le_succ hn)) (Nat.le_of_succ_le_succ hn) hr) hq⟩
  intro f a kb h r hq
  simp only[aO]at hq ⊢
  cases hf:pg.fs f with
  |none=>rw[hf]at hq;exact hq
  |some cf=>
   rw[hf]at hq
   simp only at hq ⊢
   cases he:bF pg.gl (aO pg n) kb n cf.body ⟨enter cf a,h⟩ with
   |none=>simp[he]at hq
   |some p=>
    rw[he]at hq
    rw[kQ (cF pg (Nat.le_of_succ_le_succ hn)) (Nat.le_of_succ_le_succ hn) he]
    exact hq
theorem CP{gl:Nat->Option AV}{s:StE}{t:St}(h:StR s t)(x:X):x.evE gl s.env=x.ev gl t.env:=by
 cases x with
 |t n=>simp only[X.evE,X.ev];exact(h.env.2 n).symm
 |_=>rfl
theorem vM{gl:Nat->Option AV}{c c':aN}(hc:vF c c'){kb:Nat}{r:R}{s s':StE}{t:St}{e:Eff}(hst:StR s t)(h:DE gl c kb r s=some (s',e)) :
  ∃t',fS gl c' kb r t=some (t',e)/\StR s' t':=by
 have hw:xG s.env r.gd=wanted t.env r.gd:=by
  unfold xG wanted
  cases r.gd with
  |none=>rfl
  |some p=>
   simp only[hst.env.2]
   rfl
 have hx:r.xs.map (X.evE gl s.env)=r.xs.map (X.ev gl t.env):=List.map_congr_left (fun x _=>CP hst x)
 unfold DE at h
 unfold fS
 rw[hw,hx]at h
 generalize wanted t.env r.gd=wg at h ⊢
 rcases wg with _|_|_
 ·cases h
 ·simp only at h ⊢
  cases h
  exact⟨_,rfl,⟨hst.env.set _ _,hst.hp⟩⟩
 ·simp only at h ⊢
  rw[hst.hp]at h
  cases ho:opR c kb r t.hp (r.xs.map (X.ev gl t.env)) with
  |none=>simp[ho]at h
  |some p=>
   rw[ho]at h
   rw[EX hc ho]
   simp only at h ⊢
   cases h
   exact⟨_,rfl,⟨hst.env.set _ _,rfl⟩⟩
theorem vV{gl:Nat->Option AV}{c c':aN}(hc:vF c c'){kb:Nat}:∀{rs:List R}{s s':StE}{t:St},StR s t->vW gl c kb rs s=some s'->∃t',lA gl c' kb rs t=some t'/\StR s' t'
 |[],s,s',t,hst,h=>by
  simp[vW]at h
  subst h
  exact⟨t,rfl,hst⟩
 |r::rs,s,s',t,hst,h=>by
  unfold vW at h
  unfold lA
  split at h
  case h_2=>cases h
  rename_i s1 e hs
  obtain⟨t1,q1,q2⟩:=vM hc hst hs
  rw[q1]
  exact vV hc q2 h
theorem tH{gl:Nat->Option AV}{c c':aN}(hc:vF c c'){kb:Nat}:∀{rs:List R}{s s':StE}{t:St}{es:List Eff},StR s t->p9 gl c kb rs s=some (s',es)->∃t',fU gl c' kb rs t=some (t',es)/\StR s' t'
 |[],s,s',t,es,hst,h=>by
  simp[p9]at h
  obtain⟨rfl,rfl⟩:=h
  exact⟨t,rfl,hst⟩
 |r::rs,s,s',t,es,hst,h=>by
  unfold p9 at h
  unfold fU
  split at h
  case h_2=>cases h
  rename_i s1 e hs
  obtain⟨t1,q1,q2⟩:=vM hc hst hs
  cases hr:p9 gl c kb rs s1 with
  |none=>simp[hr]at h
  |some p=>
   obtain⟨s2,es2⟩:=p
   simp[hr]at h
   obtain⟨rfl,rfl⟩:=h
   obtain⟨t2,q3,q4⟩:=tH hc q2 hr
   exact⟨t2,by rw[q1];simp only;rw[q3];rfl,q4⟩
theorem wI{f:StE->Option (Ex×StE)}{f':St->Option (Ex×St)}(hf:∀s t x s',StR s t->f s=some (x,s')->∃t',f' t=some (x,t')/\StR s' t'){clr:List Bool} :
  ∀{n n':Nat}{s s':StE}{t:St}{x:Ex},n<=n'->StR s t->z8 f clr n s=some (x,s')->∃t',gU f' clr n' t=some (x,t')/\StR s' t'
 |0,_,_,_,_,_,_,_,h=>by simp[z8]at h
 |n+1,0,_,_,_,_,hn,_,_=>by omega
 |n+1,n'+1,s,s',t,x,hn,hst,h=>by
  simp only[z8]at h
  simp only[gU]
  split at h
  case h_1=>cases h
  rename_i e he
  have hst':StR ⟨e,s.hp⟩ ⟨clear clr t.env,t.hp⟩:=⟨hst.env.clear he,hst.hp⟩
  split at h
  ·rename_i s1 h1
   obtain⟨t1,q1,q2⟩:=hf _ _ _ _ hst' h1
   rw[q1]
   exact wI hf (by omega) q2 h
  ·rename_i hne
   obtain⟨t1,q1,q2⟩:=hf _ _ _ _ hst' h
   rw[q1]
   cases x with
   |nor=>exact absurd h (hne _)
   |ext id=>exact⟨t1,rfl,q2⟩
   |ret=>exact⟨t1,rfl,q2⟩
theorem xD{F:Nat->Option (Ex×StE)}{G:Nat->Option (Ex×St)}(hf:∀b x s',F b=some (x,s')->∃t',G b=some (x,t')/\StR s' t') :
  ∀{l:List Nat}{x:Ex}{s':StE},gJ N4 F l=some (x,s')->∃t',gJ eqR G l=some (x,t')/\StR s' t'
 |[],_,_,h=>by simp[gJ]at h
 |[b],_,_,h=>hf _ _ _ h
 |b::b2::l,x,s',h=>by
  simp only[gJ]at h
  split at h
  case h_2=>cases h
  rename_i r1 s1 h1 h2
  split at h
  case isFalse=>cases h
  rename_i hq
  cases h
  obtain⟨x2,s2⟩:=s1
  obtain⟨t1,a1,a2⟩:=hf _ _ _ h1
  obtain⟨t2,b1,b2⟩:=xD hf h2
  refine⟨t1,?_,a2⟩
  simp only[gJ]
  rw[a1,b1]
  simp only
  have:eqR (x,t1) (x2,t2)=true:=by
   simp only[N4,a2.env.list,b2.env.list,a2.hp,b2.hp]at hq
   exact hq
  rw[if_pos this]
theorem DP{f:StE->Option (Ex×StE)}{f':St->Option (Ex×St)}(hf:∀s t x s',StR s t->f s=some (x,s')->∃t',f' t=some (x,t')/\StR s' t'){it nx more out:Nat}{clr:List Bool} :
  ∀{n n':Nat}{s s':StE}{t:St}{x:Ex},n<=n'->StR s t->mrE f it nx more out clr n s=some (x,s')->∃t',mrN f' it nx more out clr n' t=some (x,t')/\StR s' t'
 |0,_,_,_,_,_,_,_,h=>by simp[mrE]at h
 |n+1,0,_,_,_,_,hn,_,_=>by omega
 |n+1,n'+1,s,s',t,x,hn,hst,h=>by
  simp only[mrE]at h
  simp only[mrN]
  split at h
  case isFalse=>cases h
  rename_i hl
  rw[<-hst.env.1]at hl
  rw[if_pos hl]
  split at h
  case h_1=>cases h
  rename_i e he
  have hc:=hst.env.clear he
  split at h
  case h_2=>cases h
  rename_i k ep hit
  rw[<-hc.2]at hit
  rw[hit]
  simp only
  split at h
  case h_2=>cases h
  rename_i l o hx
  rw[hst.hp]at hx
  rw[hx]
  simp only
  have hset:∀v b,nI (GJ e nx more v b) (((clear clr t.env).set nx v).set more (.bool b)):=fun v b=>(hc.set (some nx) v).set (some more) (.bool b)
  split at h
  ·rename_i hle
   rw[if_pos hle]
   rw[hst.hp]at h
   cases hk:killI t.hp k ep with
   |none=>simp[hk]at h
   |some h2=>
    simp only[hk,Option.map_some,Option.some.injEq,Prod.mk.injEq]at h
    obtain⟨rfl,rfl⟩:=h
    exact⟨_,rfl,⟨hset _ _,rfl⟩⟩
  ·rename_i hle
   rw[if_neg hle]
   refine xD (fun b x s' hr=>?_) h
   split at hr
   ·rename_i s1 h1
    obtain⟨t1,q1,q2⟩:=hf _ ⟨((clear clr t.env).set nx (.tup [.bool true,.top,.top])).set more (.bool true),t.hp.put k ep (o b)⟩ _ _ ⟨hset _ _,by rw[hst.hp]⟩ h1
    rw[q1]
    exact DP hf (by omega) q2 hr
   ·rename_i x1 s1 hne h1
    obtain⟨t1,q1,q2⟩:=hf _ ⟨((clear clr t.env).set nx (.tup [.bool true,.top,.top])).set more (.bool true),t.hp.put k ep (o b)⟩ _ _ ⟨hset _ _,by rw[hst.hp]⟩ h1
    rw[q1]
    have key:∀y,(killI s1.hp k ep).map (fun h=>(x1,(⟨s1.env,h⟩:StE)))=some (x,y)->∃t',(killI t1.hp k ep).map (fun h=>(x1,(⟨t1.env,h⟩:St)))=some (x,t')/\StR y t':=by
     intro y hy
     rw[q2.hp]at hy
     cases hk:killI t1.hp k ep with
     |none=>simp[hk]at hy
     |some h2=>
      simp only[hk,Option.map_some,Option.some.injEq,Prod.mk.injEq]at hy
      obtain⟨rfl,rfl⟩:=hy
      exact⟨_,rfl,⟨q2.env,rfl⟩⟩
    cases x1 with
    |nor=>exact(hne rfl).elim
    |ext id=>exact key _ hr
    |ret=>exact key _ hr
   ·cases hr
theorem wY{gl:Nat->Option AV}{c c':aN}(hc:vF c c'){kb n n':Nat}(hn:n<=n'):∀{k:C}{s s':StE}{t:St}{x:Ex},StR s t->fK gl c kb n k s=some (x,s') ->
  ∃t',bF gl c' kb n' k t=some (x,t')/\StR s' t':=by
 intro k
 induction k with
 |skip=>
  intro s s' t x hst h
  simp[fK]at h
  obtain⟨rfl,rfl⟩:=h
  exact⟨t,rfl,hst⟩
 |reg rs d=>
  intro s s' t x hst h
  cases d with
  |false=>
   simp only[fK]at h
   simp only[bF]
   cases hr:vW gl c kb rs s with
   |none=>simp[hr]at h
   |some s1=>
    simp[hr]at h
    obtain⟨rfl,rfl⟩:=h
    obtain⟨t1,q1,q2⟩:=vV hc hst hr
    exact⟨t1,by rw[q1];rfl,q2⟩
  |true=>
   simp only[fK]at h
   simp only[bF]
   split at h
   case h_2=>cases h
   rename_i s1 es hr
   obtain⟨t1,q1,q2⟩:=tH hc hst hr
   rw[q1]
   simp only
   split at h
   case isFalse=>cases h
   rename_i ha
   rw[if_pos ha]
   cases h
   exact⟨t1,rfl,q2⟩
 |seq a b iha ihb=>
  intro s s' t x hst h
  simp only[fK]at h
  simp only[bF]
  split at h
  ·rename_i s1 h1
   obtain⟨t1,q1,q2⟩:=iha hst h1
   rw[q1]
   exact ihb q2 h
  ·rename_i hne
   obtain⟨t1,q1,q2⟩:=iha hst h
   rw[q1]
   cases x with
   |nor=>exact absurd h (hne _)
   |ext id=>exact⟨t1,rfl,q2⟩
   |ret=>exact⟨t1,rfl,q2⟩
 |cond y a b iha ihb=>
  intro s s' t x hst h
  simp only[fK]at h
  simp only[bF]
  rw[CP hst]at h
  split at h
  ·rename_i hb
   rw[hb]
   exact iha hst h
  ·rename_i hb
   rw[hb]
   exact ihb hst h
  ·cases h
 |block id b ih=>
  intro s s' t x hst h
  simp only[fK]at h
  simp only[bF]
  split at h
  ·rename_i i s1 h1
   obtain⟨t1,q1,q2⟩:=ih hst h1
   rw[q1]
   simp only[cond_eq_ite,Nat.beq_eq]at h ⊢
   split at h
   ·rename_i hi
    rw[if_pos hi]
    cases h
    exact⟨t1,rfl,q2⟩
   ·rename_i hi
    rw[if_neg hi]
    cases h
    exact⟨t1,rfl,q2⟩
  ·rename_i hne
   obtain⟨t1,q1,q2⟩:=ih hst h
   rw[q1]
   cases x with
   |nor=>exact⟨t1,rfl,q2⟩
   |ext id=>exact absurd h (hne _ _)
   |ret=>exact⟨t1,rfl,q2⟩
 |loop b m ih=>
  intro s s' t x hst h
  simp only[fK]at h
  simp only[bF]
  exact wI (fun s t x s' q1 q2=>ih q1 q2) hn hst h
 |exit id=>
  intro s s' t x hst h
  simp[fK]at h
  obtain⟨rfl,rfl⟩:=h
  exact⟨t,rfl,hst⟩
 |ret=>
  intro s s' t x hst h
  simp[fK]at h
  obtain⟨rfl,rfl⟩:=h
  exact⟨t,rfl,hst⟩
 |rf fx sk ps ca cb=>
  intro s s' t x hst h
  simp only[fK]at h
  simp only[bF]
  rw[CP hst,hst.env.list,hst.hp]at h
  split at h
  case h_2=>cases h
  rename_i f cs hf
  rw[hf]
  simp only
  split at h
  case h_2=>cases h
  rename_i rr h' hcall
  rw[hc.off _ _ _ _ _ (by omega) hcall]
  simp only
  unfold IU at h
  split at h
  case h_2=>cases h
  rename_i y st1 he
  cases h
  unfold AN at he ⊢
  split at he
  case h_2=>cases he
  split at he
  case isFalse=>cases he
  rename_i hee
  rw[if_pos hee]
  split at he
  ·cases he;exact⟨_,rfl,⟨hst.env,rfl⟩⟩
  ·cases he;exact⟨_,rfl,⟨hst.env,rfl⟩⟩
  ·cases he;exact⟨_,rfl,⟨hst.env,rfl⟩⟩
  ·cases he
 |bad=>
  intro s s' t x hst h
  simp[fK]at h
 |mr it nx more out b clr ih=>
  intro s s' t x hst h
  simp only[fK]at h
  simp only[bF]
  exact DP (fun s t x s' q1 q2=>ih q1 q2) hn hst h
theorem BM{s:StE}{t:St}(hst:StR s t)(rs:List (Sum Nat (Nat×Nat×Bool))):xW s rs=result t rs:=by
 have h1:∀r,xX s r=rF t r:=by
  intro r
  cases r with
  |inl u=>simp only[xX,rF,hst.env.2]
  |inr p=>
   simp only[xX,rF,hst.env.2,hst.hp]
   rfl
 have h2:∀rs,sD s rs=kZ t rs:=by
  intro rs
  induction rs with
  |nil=>rfl
  |cons r rs ih=>
   simp only[sD,kZ,h1,ih]
   rfl
 unfold xW result
 rw[h2]
 rfl
theorem CW{h:Hp}{v:AV}(hv:v.tree=true):conv h v=some v:=by
 have:snap depth h v=some (v,[]):=by unfold depth snap;rw[if_pos hv]
 cases v<;>first|(simp only[conv,this];rfl)|simp[AV.tree]at hv
theorem qS(pg:Pg){memo:Nat->List AV->Option AV}{m:Nat}(hm:∀f a r,memo f a=some r->r.tree=true/\bA (aO pg m) f a=some r):∀n,vF (cL pg memo n) (aO pg (m+n))
 |0=>⟨fun f a kb h r _ hq=>by simp[cL]at hq,fun f a r hq=>by simp[bA,cL]at hq,fun k e a h r hq=>by simp[cL]at hq⟩
 |n+1=>by
  have key:∀f a kb h r,x5 memo f a kb h=none->cL pg memo (n+1) f a kb h=some r->aO pg (m+(n+1)) f a kb h=some r:=by
   intro f a kb h r hn hq
   simp only[cL]at hq
   rw[hn]at hq
   simp only at hq
   rw[<-Nat.add_assoc]
   simp only[aO]
   split at hq
   ·rename_i hf
    rw[hf]
    exact hq
   ·rename_i cf hf
    rw[hf]
    simp only
    split at hq
    ·cases hq
    ·rename_i x s hne he
     obtain⟨t,q1,q2⟩:=wY (t:=⟨enter cf a,h⟩) (qS pg hm n) (Nat.le_add_left n m) ⟨nI.enter cf a,rfl⟩ he
     rw[q1]
     rw[BM q2,q2.hp]at hq
     cases x with
     |nor=>exact hq
     |ret=>exact hq
     |ext id=>exact(hne id rfl).elim
    ·cases hq
  have hyl:∀k e a h r,(cL pg memo (n+1)).yl k e a h=some r->(aO pg (m+(n+1))).yl k e a h=some r:=by
   intro k e a h r hq
   rw[<-Nat.add_assoc]
   refine l8 (fun c b st r hr=>?_) hq
   unfold GM at hr
   split at hr
   case h_2=>cases hr
   rename_i x s he
   cases hr
   obtain⟨t,q1,q2⟩:=wY (t:=⟨st.env,st.hp⟩) (qS pg hm n) (Nat.le_add_left n m) ⟨nI.of st.env,rfl⟩ he
   have:t=⟨s.env.list,s.hp⟩:=by rw[q2.env.list,q2.hp]
   rw[q1,this]
  refine⟨fun f a kb h r hk hq=>key f a kb h r ?_ hq,fun f a r hq=>?_,hyl⟩
  ·cases kb with
   |zero=>exact absurd rfl hk
   |succ k=>rfl
  ·unfold bA at hq
   cases hc:cL pg memo (n+1) f a 0 [] with
   |none=>simp[hc]at hq
   |some p=>
    rw[hc]at hq
    cases hme:memo f a with
    |some r'=>
     have:cL pg memo (n+1) f a 0 []=some (r',[]):=by simp only[cL,x5,hme]
     rw[this]at hc
     cases hc
     obtain⟨h1,h2⟩:=hm f a r' hme
     simp only[CW h1,Option.some.injEq]at hq
     subst hq
     exact d7 (cF pg (by omega)) h2
    |none=>
     have:=key f a 0 [] p (by simp[x5,hme]) hc
     unfold bA
     rw[this]
     exact hq
end Go.Tev
end
section
namespace Go.Tev
variable{pg:Pg}{kb:Nat}
def Ret(pg:Pg)(f:Nat)(ts:List AV)(r:AV):Prop:=∃n,bA (aO pg n) f ts=some r
def oM(pg:Pg)(f:Nat)(vs:List AV)(kb:Nat)(h:Hp)(r:AV)(h':Hp):Prop:=∃n,aO pg n f vs kb h=some (r,h')
def WX(pg:Pg)(kb:Nat)(c:C)(st:St)(Q:Ex->St->Prop):Prop:=∃n ex st',bF pg.gl (aO pg n) kb n c st=some (ex,st')/\Q ex st'
def WR(pg:Pg)(kb:Nat)(rs:List R)(st:St)(K:St->Prop):Prop:=∃n st',lA pg.gl (aO pg n) kb rs st=some st'/\K st'
def WT(pg:Pg)(kb:Nat)(rs:List R)(st:St)(K:St->List Eff->Prop):Prop:=∃n st' es,fU pg.gl (aO pg n) kb rs st=some (st',es)/\K st' es
def WO(pg:Pg)(kb:Nat)(k:K)(s:Nat)(h:Hp)(vs:List AV)(Q:AV->Eff->Prop):Prop:=
 ∃n v eff,opR (aO pg n) kb ⟨none,k,[],none,0,s⟩ h vs=some (v,eff)/\Q v eff
def jZ(A:St->Prop)(Q:Ex->St->Prop)(ex:Ex)(st:St):Prop:=
 match ex with
 |.nor=>A st
 |.ext i=>Q (.ext i) st
 |.ret=>Q .ret st
theorem EH(A:St->Prop)(Q:Ex->St->Prop)(st:St):jZ A Q .nor st=A st:=rfl
theorem EI(A:St->Prop)(Q:Ex->St->Prop)(i:Nat)(st:St):jZ A Q (.ext i) st=Q (.ext i) st:=rfl
theorem EG(A:St->Prop)(Q:Ex->St->Prop)(st:St):jZ A Q .ret st=Q .ret st:=rfl
def lL(id:Nat)(Q:Ex->St->Prop)(ex:Ex)(st:St):Prop:=
 match ex with
 |.nor=>Q .nor st
 |.ext i=>if i=id then Q .nor st else Q (.ext i) st
 |.ret=>Q .ret st
theorem C8(id:Nat)(Q:Ex->St->Prop)(st:St):lL id Q .nor st=Q .nor st:=rfl
theorem C9(id:Nat)(Q:Ex->St->Prop)(i:Nat)(st:St):lL id Q (.ext i) st=if i=id then Q .nor st else Q (.ext i) st:=rfl
theorem C7(id:Nat)(Q:Ex->St->Prop)(st:St):lL id Q .ret st=Q .ret st:=rfl
def I1(v:AV)(A B:Prop):Prop:=
 match v with
 |.bool true=>A
 |.bool false=>B
 |_=>False
def BS(o:Option (AV×Eff))(Q:AV->Eff->Prop):Prop:=
 match o with
 |some (v,e)=>Q v e
 |none=>False
theorem j7{c:C}{st:St}{o:Ex×St}{n m:Nat}(h:n<=m)(e:bF pg.gl (aO pg n) kb n c st=some o):bF pg.gl (aO pg m) kb m c st=some o:=
 kQ (cF pg h) h e
theorem J7{rs:List R}{st st':St}{n m:Nat}(h:n<=m)(e:lA pg.gl (aO pg n) kb rs st=some st'):lA pg.gl (aO pg m) kb rs st=some st':=
 pZ (cF pg h) e
theorem LN(st:St)(Q:Ex->St->Prop):WX pg kb .skip st Q=Q .nor st:=by
 apply propext;constructor
 ·rintro⟨n,ex,st',h,q⟩;simp only[bF,Option.some.injEq,Prod.mk.injEq]at h;obtain⟨rfl,rfl⟩:=h;exact q
 ·intro q;exact⟨0,_,_,rfl,q⟩
theorem LP(id:Nat)(st:St)(Q:Ex->St->Prop):WX pg kb (.exit id) st Q=Q (.ext id) st:=by
 apply propext;constructor
 ·rintro⟨n,ex,st',h,q⟩;simp only[bF,Option.some.injEq,Prod.mk.injEq]at h;obtain⟨rfl,rfl⟩:=h;exact q
 ·intro q;exact⟨0,_,_,rfl,q⟩
theorem PN(st:St)(Q:Ex->St->Prop):WX pg kb .ret st Q=Q .ret st:=by
 apply propext;constructor
 ·rintro⟨n,ex,st',h,q⟩;simp only[bF,Option.some.injEq,Prod.mk.injEq]at h;obtain⟨rfl,rfl⟩:=h;exact q
 ·intro q;exact⟨0,_,_,rfl,q⟩
theorem PO(rs:List R)(st:St)(Q:Ex->St->Prop):WX pg kb (.reg rs false) st Q=WR pg kb rs st (fun st'=>Q .nor st'):=by
 apply propext;constructor
 ·rintro⟨n,ex,st',h,q⟩
  simp only[bF,Option.map_eq_some_iff,Prod.mk.injEq]at h
  obtain⟨s,h1,rfl,rfl⟩:=h
  exact⟨n,_,h1,q⟩
 ·rintro⟨n,st',h,q⟩
  exact⟨n,_,_,by simp only[bF,h,Option.map_some],q⟩
theorem LO(rs:List R)(st:St)(Q:Ex->St->Prop):WX pg kb (.reg rs true) st Q=WT pg kb rs st (fun st' es=>iQ 0 rs es=true/\Q .nor st'):=by
 apply propext;constructor
 ·rintro⟨n,ex,st',h,q⟩
  simp only[bF]at h
  split at h
  ·rename_i s es h1
   split at h
   ·simp only[Option.some.injEq,Prod.mk.injEq]at h
    obtain⟨rfl,rfl⟩:=h
    exact⟨n,_,_,h1,by assumption,q⟩
   ·cases h
  ·cases h
 ·rintro⟨n,st',es,h,a,q⟩
  exact⟨n,_,_,by simp only[bF,h,a,if_true],q⟩
theorem LQ(c:X)(a b:C)(st:St)(Q:Ex->St->Prop):WX pg kb (.cond c a b) st Q=I1 (c.ev pg.gl st.env) (WX pg kb a st Q) (WX pg kb b st Q):=by
 apply propext
 simp only[WX,bF]
 cases c.ev pg.gl st.env with
 |bool x=>cases x<;>exact Iff.rfl
 |_=>simp[I1]
theorem PM(a b:C)(st:St)(Q:Ex->St->Prop):WX pg kb (.seq a b) st Q=WX pg kb a st (jZ (fun st'=>WX pg kb b st' Q) Q):=by
 apply propext;constructor
 ·rintro⟨n,ex,st',h,q⟩
  simp only[bF]at h
  cases ha:bF pg.gl (aO pg n) kb n a st with
  |none=>simp[ha]at h
  |some o=>
   obtain⟨ex1,st1⟩:=o
   rw[ha]at h
   refine⟨n,ex1,st1,ha,?_⟩
   cases ex1 with
   |nor=>exact⟨n,ex,st',h,q⟩
   |ext i=>simp only[Option.some.injEq,Prod.mk.injEq]at h;obtain⟨rfl,rfl⟩:=h;exact q
   |ret=>simp only[Option.some.injEq,Prod.mk.injEq]at h;obtain⟨rfl,rfl⟩:=h;exact q
 ·rintro⟨n,ex,st',h,q⟩
  cases ex with
  |nor=>
   obtain⟨m,ex2,st2,h2,q2⟩:=q
   refine⟨max n m,ex2,st2,?_,q2⟩
   simp only[bF,j7 (Nat.le_max_left n m) h]
   exact j7 (Nat.le_max_right n m) h2
  |ext i=>exact⟨n,_,_,by simp only[bF,h],q⟩
  |ret=>exact⟨n,_,_,by simp only[bF,h],q⟩
theorem JT(id:Nat)(b:C)(st:St)(Q:Ex->St->Prop):WX pg kb (.block id b) st Q=WX pg kb b st (lL id Q):=by
 apply propext;constructor
 ·rintro⟨n,ex,st',h,q⟩
  simp only[bF]at h
  cases hb:bF pg.gl (aO pg n) kb n b st with
  |none=>simp[hb]at h
  |some o=>
   obtain⟨ex1,st1⟩:=o
   rw[hb]at h
   refine⟨n,ex1,st1,hb,?_⟩
   cases ex1 with
   |nor=>simp only[Option.some.injEq,Prod.mk.injEq]at h;obtain⟨rfl,rfl⟩:=h;exact q
   |ext i=>
    simp only at h
    simp only[lL]
    split at h<;>(simp only[Option.some.injEq,Prod.mk.injEq]at h;obtain⟨rfl,rfl⟩:=h;simp_all)
   |ret=>simp only[Option.some.injEq,Prod.mk.injEq]at h;obtain⟨rfl,rfl⟩:=h;exact q
 ·rintro⟨n,ex,st',h,q⟩
  cases ex with
  |nor=>exact⟨n,_,_,by simp only[bF,h],q⟩
  |ret=>exact⟨n,_,_,by simp only[bF,h],q⟩
  |ext i=>
   simp only[lL]at q
   split at q
   ·rename_i hi;exact⟨n,.nor,st',by simp only[bF,h,if_pos hi],q⟩
   ·rename_i hi;exact⟨n,.ext i,st',by simp only[bF,h,if_neg hi],q⟩
theorem z7{b:C}{clr:List Bool}{st:St}{o:Ex×St}{n m k l:Nat}(h:n<=m)(hk:k<=l)(e:gU (bF pg.gl (aO pg n) kb n b) clr k st=some o) :
  gU (bF pg.gl (aO pg m) kb m b) clr l st=some o:=
 oA (fun _ _ q=>j7 h q) hk e
theorem D7(b:C)(clr:List Bool)(st:St)(Q:Ex->St->Prop) :
  WX pg kb (.loop b clr) st Q=WX pg kb b ⟨clear clr st.env,st.hp⟩ (jZ (fun st'=>WX pg kb (.loop b clr) st' Q) Q):=by
 apply propext;constructor
 ·rintro⟨n,ex,st',h,q⟩
  simp only[bF]at h
  cases n with
  |zero=>simp[gU]at h
  |succ n=>
   simp only[gU]at h
   cases hb:bF pg.gl (aO pg (n+1)) kb (n+1) b ⟨clear clr st.env,st.hp⟩ with
   |none=>simp[hb]at h
   |some o=>
    obtain⟨ex1,st1⟩:=o
    rw[hb]at h
    refine⟨n+1,ex1,st1,hb,?_⟩
    cases ex1 with
    |nor=>exact⟨n+1,ex,st',z7 (Nat.le_refl _) (Nat.le_succ n) h,q⟩
    |ext i=>simp only[Option.some.injEq,Prod.mk.injEq]at h;obtain⟨rfl,rfl⟩:=h;exact q
    |ret=>simp only[Option.some.injEq,Prod.mk.injEq]at h;obtain⟨rfl,rfl⟩:=h;exact q
 ·rintro⟨n,ex,st',h,q⟩
  cases ex with
  |nor=>
   obtain⟨m,ex2,st2,h2,q2⟩:=q
   refine⟨max n m+1,ex2,st2,?_,q2⟩
   simp only[bF]at h2 ⊢
   rw[gU]
   rw[j7 (Nat.le_trans (Nat.le_max_left n m) (Nat.le_succ _)) h]
   exact z7 (Nat.le_trans (Nat.le_max_right n m) (Nat.le_succ _)) (Nat.le_max_right n m) h2
  |ext i=>exact⟨n+1,_,_,by simp only[bF,gU,j7 (Nat.le_succ n) h],q⟩
  |ret=>exact⟨n+1,_,_,by simp only[bF,gU,j7 (Nat.le_succ n) h],q⟩
theorem F4{α : Type}(μ : α -> Nat)(E : α -> List AV->Hp->Prop){b:C}{clr:List Bool}{st:St}{Q:Ex->St->Prop}(a : α)(h0:E a (clear clr st.env) st.hp)
  (step:∀a env hp,E a env hp->WX pg kb b ⟨env,hp⟩ (jZ (fun st'=>∃a',μ a' < μ a/\E a' (clear clr st'.env) st'.hp) Q)) :
  WX pg kb (.loop b clr) st Q:=by
 have key:∀n a st,μ a<n->E a (clear clr st.env) st.hp->WX pg kb (.loop b clr) st Q:=by
  intro n
  induction n with
  |zero=>intro a st h;omega
  |succ n ih=>
   intro a st hn h
   rw[D7]
   obtain⟨m,ex,st',h1,q⟩:=step a _ _ h
   refine⟨m,ex,st',h1,?_⟩
   cases ex with
   |nor=>
    obtain⟨a',h2,h3⟩:=q
    exact ih a' st' (by omega) h3
   |ext i=>exact q
   |ret=>exact q
 exact key _ a st (Nat.lt_succ_self _) h0
theorem PQ(st:St)(A:St->Prop):WR pg kb [] st A=A st:=by
 apply propext;constructor
 ·rintro⟨n,st',h,q⟩;simp only[lA,Option.some.injEq]at h;subst h;exact q
 ·intro q;exact⟨0,_,rfl,q⟩
theorem BW{k:K}{s:Nat}{h:Hp}{vs:List AV}{x:AV×Eff}{n m:Nat}(hn:n<=m)(e:opR (aO pg n) kb ⟨none,k,[],none,0,s⟩ h vs=some x) :
  opR (aO pg m) kb ⟨none,k,[],none,0,s⟩ h vs=some x:=
 zT (cF pg hn) e
theorem D9(d:Option Nat)(k:K)(xs:List X)(bef s:Nat)(rs:List R)(st:St)(A:St->Prop) :
  WR pg kb (⟨d,k,xs,none,bef,s⟩::rs) st A=WO pg kb k s st.hp (xs.map (X.ev pg.gl st.env)) (fun v eff=>WR pg kb rs ⟨cD st.env d v,eff.app st.hp⟩ A):=by
 apply propext;constructor
 ·rintro⟨n,st',h,q⟩
  simp only[lA,fS,wanted]at h
  split at h
  ·rename_i st1 e h1
   split at h1
   ·rename_i v eff h2
    simp only[Option.some.injEq,Prod.mk.injEq]at h1
    obtain⟨rfl,rfl⟩:=h1
    exact⟨n,v,eff,h2,n,st',h,q⟩
   ·cases h1
  ·cases h
 ·rintro⟨n,v,eff,h,m,st',h2,q⟩
  refine⟨max n m,st',?_,q⟩
  have e1:=BW (Nat.le_max_left n m) h
  have e2:=J7 (Nat.le_max_right n m) h2
  have e3:opR (aO pg (max n m)) kb ⟨d,k,xs,none,bef,s⟩ st.hp (xs.map (X.ev pg.gl st.env))=some (v,eff):=e1
  simp only[lA,fS,wanted,e3]
  exact e2
def gdQ(v:AV)(b:Bool)(A B:Prop):Prop:=
 match v with
 |.bool c=>if c=b then A else B
 |.tup []=>B
 |_=>False
theorem JV(d:Option Nat)(k:K)(xs:List X)(t:Nat)(b:Bool)(bef s:Nat)(rs:List R)(st:St)(A:St->Prop) :
  WR pg kb (⟨d,k,xs,some (t,b),bef,s⟩::rs) st A =
   gdQ (eC st.env t) b (WO pg kb k s st.hp (xs.map (X.ev pg.gl st.env)) (fun v eff=>WR pg kb rs ⟨cD st.env d v,eff.app st.hp⟩ A)) (WR pg kb rs ⟨cD st.env d (.tup []),st.hp⟩ A):=by
 rw[<-D9 d k xs bef s]
 apply propext
 have hb:∀c:Bool,(c==b)=decide (c=b):=fun c=>by cases c<;>cases b<;>rfl
 simp only[WR,lA,fS,wanted]
 generalize eC st.env t=v
 cases v with
 |bool c=>
  simp only[gdQ,hb]
  by_cases hc:c=b
  ·simp only[hc,decide_true,if_true];exact Iff.rfl
  ·simp only[hc,decide_false,if_false]
 |tup l=>cases l<;>simp[gdQ]
 |_=>simp[gdQ]
theorem PP(st:St)(A:St->List Eff->Prop):WT pg kb [] st A=A st []:=by
 apply propext;constructor
 ·rintro⟨n,st',es,h,q⟩;simp only[fU,Option.some.injEq,Prod.mk.injEq]at h;obtain⟨rfl,rfl⟩:=h;exact q
 ·intro q;exact⟨0,_,_,rfl,q⟩
theorem D8(d:Option Nat)(k:K)(xs:List X)(bef s:Nat)(rs:List R)(st:St)(A:St->List Eff->Prop) :
  WT pg kb (⟨d,k,xs,none,bef,s⟩::rs) st A=WO pg kb k s st.hp (xs.map (X.ev pg.gl st.env)) (fun v eff=>WT pg kb rs ⟨cD st.env d v,eff.app st.hp⟩ (fun st' es=>A st' (eff::es))):=by
 apply propext;constructor
 ·rintro⟨n,st',es,h,q⟩
  simp only[fU,fS,wanted]at h
  split at h
  ·rename_i st1 e h1
   split at h1
   ·rename_i v eff h2
    simp only[Option.some.injEq,Prod.mk.injEq]at h1
    obtain⟨rfl,rfl⟩:=h1
    simp only[Option.map_eq_some_iff,Prod.mk.injEq]at h
    obtain⟨⟨s1,l1⟩,h3,h4,h5⟩:=h
    subst h4;subst h5
    exact⟨n,v,eff,h2,n,s1,l1,h3,q⟩
   ·cases h1
  ·cases h
 ·rintro⟨n,v,eff,h,m,st',es,h2,q⟩
  refine⟨max n m,st',eff::es,?_,q⟩
  have e1:=BW (Nat.le_max_left n m) h
  have e2:=n6 (cF pg (Nat.le_max_right n m)) h2
  have e3:opR (aO pg (max n m)) kb ⟨d,k,xs,none,bef,s⟩ st.hp (xs.map (X.ev pg.gl st.env))=some (v,eff):=e1
  simp only[fU,fS,wanted,e3]
  rw[e2]
  rfl
theorem JU(d:Option Nat)(k:K)(xs:List X)(t:Nat)(b:Bool)(bef s:Nat)(rs:List R)(st:St)(A:St->List Eff->Prop) :
  WT pg kb (⟨d,k,xs,some (t,b),bef,s⟩::rs) st A =
   gdQ (eC st.env t) b (WO pg kb k s st.hp (xs.map (X.ev pg.gl st.env)) (fun v eff=>WT pg kb rs ⟨cD st.env d v,eff.app st.hp⟩ (fun st' es=>A st' (eff::es))))
    (WT pg kb rs ⟨cD st.env d (.tup []),st.hp⟩ (fun st' es=>A st' (.pat [] []::es))):=by
 rw[<-D8 d k xs bef s]
 apply propext
 have hb:∀c:Bool,(c==b)=decide (c=b):=fun c=>by cases c<;>cases b<;>rfl
 have key:(∃n st' es,(fU pg.gl (aO pg n) kb rs ⟨cD st.env d (.tup []),st.hp⟩).map (fun(s,l)=>(s,Eff.pat [] []::l))=some (st',es)/\A st' es) ↔
   (∃n st' es,fU pg.gl (aO pg n) kb rs ⟨cD st.env d (.tup []),st.hp⟩=some (st',es)/\A st' (.pat [] []::es)):=by
  constructor
  ·rintro⟨n,st',es,h,q⟩
   simp only[Option.map_eq_some_iff,Prod.mk.injEq]at h
   obtain⟨⟨s1,l1⟩,h3,h4,h5⟩:=h
   subst h4;subst h5
   exact⟨n,s1,l1,h3,q⟩
  ·rintro⟨n,st',es,h,q⟩
   exact⟨n,st',_,by rw[h];rfl,q⟩
 simp only[WT,fU,fS,wanted]
 generalize eC st.env t=v
 cases v with
 |bool c=>
  simp only[gdQ,hb]
  by_cases hc:c=b
  ·simp only[hc,decide_true,if_true];exact Iff.rfl
  ·simp only[hc,decide_false,if_false];exact key
 |tup l=>
  cases l with
  |nil=>simp only[gdQ];exact key
  |cons a r=>simp[gdQ]
 |_=>simp[gdQ]
def K.isCall:K->Bool
 |.call ..|.callv ..|.calle ..|.callr .. => true
 |_=>false
theorem cA{k:K}(hk:k.isCall=false)(s:Nat)(h:Hp)(vs:List AV)(Q:AV->Eff->Prop):WO pg kb k s h vs Q=BS (BX h (kb+s) k vs) Q:=by
 have e:∀call:aN,opR call kb ⟨none,k,[],none,0,s⟩ h vs=BX h (kb+s) k vs:=by
  intro call;cases k<;>first|rfl|simp[K.isCall]at hk
 apply propext
 simp only[WO,e]
 cases BX h (kb+s) k vs with
 |none=>simp[BS]
 |some x=>
  obtain⟨v,eff⟩:=x
  simp only[BS]
  constructor
  ·rintro⟨n,v',e',h1,q⟩;cases h1;exact q
  ·intro q;exact⟨0,_,_,rfl,q⟩
theorem JB{f:Nat}{ts:List AV}{r:AV}{n m:Nat}(h:n<=m)(e:bA (aO pg n) f ts=some r):bA (aO pg m) f ts=some r:=
 d7 (cF pg h) e
theorem LR{f s:Nat}{th:Bool}{h:Hp}{vs ts:List AV}{keys:List Nat}{r v:AV}{pa:List Ent}{Q:AV->Eff->Prop}(hr:Ret pg f ts r)
  (hm:bJ (snap depth h) vs=some (ts,keys)) (hv:dH h (kb+s) th r=some (v,pa)) :
  WO pg kb (.call f th false) s h vs Q=Q v (.pat ((kb+s)::keys) ((if r.flat then [] else aW h keys)++pa)):=by
 obtain⟨n,e⟩:=hr
 have key:∀m,n<=m->opR (aO pg m) kb ⟨none,.call f th false,[],none,0,s⟩ h vs=some (v,.pat ((kb+s)::keys) ((if r.flat then [] else aW h keys)++pa)):=by
  intro m hm'
  simp only[opR,i6,Bool.false_eq_true,if_false,hm,JB hm' e,hv]
 apply propext;constructor
 ·rintro⟨m,v',e',h1,q⟩
  have h2:=key _ (Nat.le_max_left n m)
  have h3:=BW (Nat.le_max_right n m) h1
  rw[h3]at h2
  cases h2
  exact q
 ·intro q
  exact⟨n,_,_,key n (Nat.le_refl _),q⟩
theorem JW{f s:Nat}{th im:Bool}{h h':Hp}{vs:List AV}{r:AV}{Q:AV->Eff->Prop}(hm:im=true\/bJ (snap depth h) vs=none){B:Nat}(hB:iY kb s vs=B)(hr:oM pg f vs B h r h')
   (hq:Q r (.whole h')):WO pg kb (.call f th im) s h vs Q:=by
 subst hB
 obtain⟨n,e⟩:=hr
 refine⟨n,r,.whole h',?_,hq⟩
 have:(if im then none else bJ (snap depth h) vs)=none:=by
  rcases hm with rfl|hm
  ·rfl
  ·simp[hm]
 simp only[opR,i6,this,e]
theorem oM.of{f:Nat}{cf:CF}{vs:List AV}{h:Hp}{r:AV}{h':Hp}(hf:pg.fs f=some cf)
  (hw:WX pg kb cf.body ⟨enter cf vs,h⟩ (fun ex st=>(match ex with|.ext _=>False|_=>True)/\result st cf.res=some r/\st.hp=h')):oM pg f vs kb h r h':=by
 obtain⟨n,ex,st,h1,h2,h3,h4⟩:=hw
 refine⟨n+1,?_⟩
 subst h4
 simp only[aO,hf,h1]
 cases ex with
 |ext i=>exact h2.elim
 |nor=>simp[h3]
 |ret=>simp[h3]
def K3(res:List (Sum Nat (Nat×Nat×Bool)))(r:AV)(ex:Ex)(st:St):Prop:=
 match ex with
 |.ext _=>False
 |_=>∃v,result st res=some v/\conv st.hp v=some r
theorem IP(res:List (Sum Nat (Nat×Nat×Bool)))(r:AV)(st:St):K3 res r .nor st=∃v,result st res=some v/\conv st.hp v=some r:=rfl
theorem Iq(res:List (Sum Nat (Nat×Nat×Bool)))(r:AV)(st:St):K3 res r .ret st=∃v,result st res=some v/\conv st.hp v=some r:=rfl
theorem Ret.of{f:Nat}{cf:CF}{vs:List AV}{r:AV}(hf:pg.fs f=some cf)(hw:WX pg 0 cf.body ⟨enter cf vs,[]⟩ (K3 cf.res r)):Ret pg f vs r:=by
 obtain⟨n,ex,st,h1,h2⟩:=hw
 refine⟨n+1,?_⟩
 cases ex with
 |ext i=>exact h2.elim
 |nor=>
  obtain⟨v,h3,h4⟩:=h2
  simp only[bA,aO,hf,h1,h3,Option.map_some,h4]
 |ret=>
  obtain⟨v,h3,h4⟩:=h2
  simp only[bA,aO,hf,h1,h3,Option.map_some,h4]
theorem N1{α : Type}{x : α}{P : α -> Prop}:(∃v,some x=some v/\P v)=P x:=by
 apply propext;constructor
 ·rintro⟨v,h,p⟩;cases h;exact p
 ·intro p;exact⟨x,rfl,p⟩
end Go.Tev
end
