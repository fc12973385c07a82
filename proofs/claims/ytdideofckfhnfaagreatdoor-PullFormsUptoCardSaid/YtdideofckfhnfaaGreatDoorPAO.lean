import Derived.Test.YtdideofckfhnfaaGreatDoorPAH
set_option linter.all false
namespace Go.Tev
section
structure EF where
 nt:Nat
 dt:Bool
 l:List (Nat×AV)
def oV(nt:Nat)(dt:Bool)(t:Nat):List (Nat×AV)->AV
 |[]=>bif dt then (bif t.blt nt then .tup [] else .top) else .top
 |p::r=>bif p.1.beq t then p.2 else oV nt dt t r
def EF.get:EF->Nat->AV
 |⟨nt,dt,l⟩,t=>oV nt dt t l
def EF.set:EF->Option Nat->AV->EF
 |e,none,_=>e
 |⟨nt,dt,l⟩,some d,v=>bif d.blt nt then ⟨nt,dt,(d,v)::l⟩ else ⟨nt,dt,l⟩
theorem EF.get_eq(e:EF)(t:Nat):e.get t=oV e.nt e.dt t e.l:=rfl
theorem EF.set_some(e:EF)(d:Nat)(v:AV):e.set (some d) v=bif d.blt e.nt then ⟨e.nt,e.dt,(d,v)::e.l⟩ else e:=rfl
def nP(e:EF):Nat->List Bool->Option (List (Nat×AV))
 |i,[]=>bif e.nt.ble i then some [] else none
 |i,true::m=>(nP e (i+1) m).map ((i,e.get i) :: ·)
 |i,false::m=>nP e (i+1) m
def EF.clear(e:EF)(m:List Bool):Option EF:=(nP e 0 m).map λl=>⟨e.nt,false,l⟩
def vQ:Nat->List AV->List (Nat×AV)
 |_,[]=>[]
 |i,v::r=>(i,v)::vQ (i+1) r
def wV(cf:CF)(args:List AV):EF:=⟨args.length+(cf.nt-args.length),true,vQ 0 args⟩
def mG(e:EF)(env:List AV):Prop:=env.length=e.nt/\∀t,d9 env t=e.get t
theorem mG.set{e:EF}{env:List AV}(h:mG e env)(d:Option Nat)(v:AV):mG (e.set d v) (cG env d v):=by
 cases d with
 |none=>exact h
 |some d=>refine⟨?_,?_⟩;rw[lP,h.1];simp only[EF.set_some,cond_eq_ite];split<;>rfl;intro t;rw[oU];simp only[EF.set_some,cond_eq_ite,Nat.blt_eq];by_cases hd:d<e.nt;rw[if_pos hd];simp only[EF.get_eq,oV,cond_eq_ite,Nat.beq_eq];by_cases ht:d=t;subst ht;rw[if_pos ⟨rfl,by rw[h.1];exact hd⟩,if_pos rfl];rw[if_neg (by rintro⟨q,_⟩;exact ht (by simpa using q)),if_neg ht];exact h.2 t;rw[if_neg hd,if_neg (by rintro⟨q,q2⟩;simp at q;subst q;rw[h.1]at q2;exact hd q2)];exact h.2 t
theorem oO{e:EF}{nt:Nat}:∀{m:List Bool}{i:Nat}{l:List (Nat×AV)},nP e i m=some l ->
  e.nt<=i+m.length/\∀t,oV nt false t l=if i<=t/\m[t-i]?=some true then e.get t else .top
 |[],i,l,h=>by simp only[nP,cond_eq_ite]at h;split at h;rename_i q;cases h;refine⟨by simpa using q,λt=>?_⟩;simp[oV];cases h
 |true::m,i,l,h=>by
  simp only[nP]at h;cases hk:nP e (i+1) m with
  |none=>simp[hk]at h
  |some l'=>
   simp[hk]at h;subst h;obtain⟨h1,h2⟩:=oO (nt:=nt) hk;refine⟨by simp;omega,λt=>?_⟩;simp only[oV,cond_eq_ite,Nat.beq_eq];by_cases ht:i=t;subst ht;simp;rw[if_neg ht,h2];by_cases hle:i+1<=t;have:t-i=(t-(i+1))+1:=by omega
   simp[hle,this,show i<=t by omega];rw[if_neg (by omega),if_neg (by omega)]
 |false::m,i,l,h=>by
  simp only[nP]at h;obtain⟨h1,h2⟩:=oO (nt:=nt) h;refine⟨by simp;omega,λt=>?_⟩;rw[h2];by_cases hle:i+1<=t;have:t-i=(t-(i+1))+1:=by omega
  simp[hle,this,show i<=t by omega];by_cases ht:i=t;subst ht;simp;intro q;omega;rw[if_neg (by omega),if_neg (by omega)]
theorem m0:∀(m:List Bool)(env:List AV)(t:Nat),env.length<=m.length->d9 (clear m env) t=if m[t]?=some true then d9 env t else .top
 |[],env,t,h=>by have:env=[]:=eG (by simpa using h);subst this;simp[clear,d9]
 |b::m,[],t,h=>by cases b<;>simp[clear,d9]
 |true::m,v::r,0,h=>by simp[clear,d9]
 |false::m,v::r,0,h=>by simp[clear,d9]
 |true::m,v::r,t+1,h=>by have:=m0 m r t (by simpa using h);simpa[clear,d9] using this
 |false::m,v::r,t+1,h=>by have:=m0 m r t (by simpa using h);simpa[clear,d9] using this
theorem mG.clear{e e':EF}{env:List AV}(h:mG e env){m:List Bool}(hc:e.clear m=some e'):mG e' (Tev.clear m env):=by
 unfold EF.clear at hc;cases hk:nP e 0 m with
 |none=>simp[hk]at hc
 |some l=>simp[hk]at hc;subst hc;obtain⟨h1,h2⟩:=oO (nt:=e.nt) hk;refine⟨by rw[hU];exact h.1,λt=>?_⟩;rw[m0 m env t (by rw[h.1];omega)];simp only[EF.get];rw[h2,h.2 t];simp
theorem pG{nt:Nat}{dt:Bool}:∀{args:List AV}{i t:Nat},oV nt dt t (vQ i args)=if h:i<=t/\t-i<args.length then args[t-i]'h.2 else oV nt dt t []
 |[],i,t=>by simp[vQ]
 |v::r,i,t=>by
  simp only[vQ,oV,cond_eq_ite,Nat.beq_eq];by_cases ht:i=t;subst ht;simp;rw[if_neg ht,pG];by_cases hle:i+1<=t;have e1:t-i=(t-(i+1))+1:=by omega
  by_cases hl:t-(i+1)<r.length;rw[dif_pos ⟨hle,hl⟩,dif_pos ⟨by omega,by simp;omega⟩];simp[e1];rw[dif_neg (by omega),dif_neg (by simp;omega)];simp[oV,cond_eq_ite];rw[dif_neg (by omega),dif_neg (by omega)];simp[oV,cond_eq_ite]
theorem mG.enter(cf:CF)(args:List AV):mG (wV cf args) (Tev.enter cf args):=by
 refine⟨by simp[Tev.enter,wV],λt=>?_⟩;simp only[EF.get_eq,wV,pG,Tev.enter,d9];by_cases h:t<args.length;rw[dif_pos ⟨Nat.zero_le _,by simpa using h⟩];simp[List.getElem?_append_left h,h];rw[dif_neg (by simpa using h),qS (by omega)];simp only[oV,cond_true,cond_eq_ite,Nat.blt_eq,List.getElem?_replicate];by_cases h2:t<args.length+(cf.nt-args.length)
 rw[if_pos (by omega),if_pos h2];rfl;rw[if_neg (by omega),if_neg h2];rfl
def X.evE(gl:Nat->Option AV)(e:EF):X->AV
 |.t n=>e.get n
 |.c v=>v
 |.g n=>match gl n with|some v => .fp v|none => .top
 |.f n => .fn n []
structure StE where
 env:EF
 hp:Hp
def vW(e:EF):Option (Nat×Bool)->Option Bool
 |none=>some true
 |some (t,b)=>
  match e.get t with
  |.bool c=>some (c==b)
  |.tup []=>some false
  |_=>none
def C8(gl:Nat->Option AV)(call:aN)(kb:Nat)(r:R)(st:StE):Option (StE×Eff):=
 match vW st.env r.gd with
 |none=>none
 |some false=>some (⟨st.env.set r.d (.tup []),st.hp⟩,.pat [] [])
 |some true=>
  match opR call kb r st.hp (r.xs.map (X.evE gl st.env)) with
  |some (v,eff)=>some (⟨st.env.set r.d v,eff.app st.hp⟩,eff)
  |none=>none
def uE(gl:Nat->Option AV)(call:aN)(kb:Nat):List R->StE->Option StE
 |[],st=>some st
 |r::rs,st=>
  match C8 gl call kb r st with
  |some (st',_)=>uE gl call kb rs st'
  |none=>none
def oJ(gl:Nat->Option AV)(call:aN)(kb:Nat):List R->StE->Option (StE×List Eff)
 |[],st=>some (st,[])
 |r::rs,st=>
  match C8 gl call kb r st with
  |some (st',e)=>(oJ gl call kb rs st').map fun(s,l)=>(s,e::l)
  |none=>none
def yS(f:StE->Option (Ex×StE))(clr:List Bool):Nat->StE->Option (Ex×StE)
 |0,_=>none
 |n+1,st=>
  match st.env.clear clr with
  |none=>none
  |some e=>
   match f ⟨e,st.hp⟩ with
   |some (.nor,st')=>yS f clr n st'
   |r=>r
def EF.list(e:EF):List AV:=(List.range e.nt).map e.get
def EF.of(env:List AV):EF:=⟨env.length,false,vQ 0 env⟩
theorem mG.list{e:EF}{env:List AV}(h:mG e env):e.list=env:=by apply List.ext_getElem;simp[EF.list,h.1];intro i h1 h2;have:=h.2 i;simp only[d9,cD h2,Option.getD_some]at this;simp[EF.list,this]
theorem mG.of(env:List AV):mG (EF.of env) env:=by refine⟨rfl,λt=>?_⟩;simp only[EF.get,EF.of,pG,d9];by_cases h:t<env.length;rw[dif_pos ⟨Nat.zero_le _,by simpa using h⟩];simp[h];rw[dif_neg (by simpa using h),bR (by omega)];rfl
def IQ(env:EF)(k e:Nat)(h:Hp):Option (Ex×StE):=
 match DT [] k e h with
 |some (x,st)=>some (x,⟨env,st.hp⟩)
 |none=>none
def GL(e:EF)(nx more:Nat)(v:AV)(b:Bool):EF:=(e.set (some nx) v).set (some more) (.bool b)
def YL(x y:Ex×StE):Bool:=decide (x.1=y.1)&&kZ x.2.env.list y.2.env.list&&BO x.2.hp y.2.hp
def mrE(f:StE->Option (Ex×StE))(fin:Ex×StE->Option (Ex×StE))(it nx more out:Nat)(clr:List Bool):Nat->StE->Option (Ex×StE)
 |0,_=>none
 |n+1,st=>
  if nx<st.env.nt/\more<st.env.nt then
  match st.env.clear clr with
  |none=>none
  |some env=>
  match env.get it with
  |.pt k e 0=>
   match DD st.hp k e with
   |some (l,o)=>
    if l.isEmpty then (killI st.hp k e).bind λh=>fin (.ext out,⟨GL env nx more (.tup [.bool false]) false,h⟩)
    else gK YL (λb=>
     match f ⟨GL env nx more (.tup [.bool true,.top,.top]) true,st.hp.put k e (o b)⟩ with
     |some (.nor,st')=>mrE f fin it nx more out clr n st'
     |some (x,st')=>(killI st'.hp k e).bind λh=>fin (x,⟨st'.env,h⟩)
     |none=>none) l
   |none=>none
  |_=>none
  else none
def G9(kb:Nat)(msk:List Bool)(drop:List Nat)(q:Ex×StE):Option (Ex×StE):=(q.2.env.clear msk).map λenv=>(q.1,⟨env,zB kb drop q.2.hp⟩)
def eA(gl:Nat->Option AV)(call:aN)(kb n:Nat):C->StE->Option (Ex×StE)
 |.skip,st=>some (.nor,st)
 |.reg rs false,st=>(uE gl call kb rs st).map λs=>(.nor,s)
 |.reg rs true,st=>
  match oJ gl call kb rs st with
  |some (s,es)=>if eC 0 rs es then some (.nor,s) else none
  |none=>none
 |.seq a b,st=>
  match eA gl call kb n a st with
  |some (.nor,st')=>eA gl call kb n b st'
  |r=>r
 |.cond c a b,st=>
  match c.evE gl st.env with
  |.bool true=>eA gl call kb n a st
  |.bool false=>eA gl call kb n b st
  |_=>none
 |.block id b,st=>
  match eA gl call kb n b st with
  |some (.ext i,st')=>bif i.beq id then some (.nor,st') else some (.ext i,st')
  |r=>r
 |.loop b clr,st=>yS (eA gl call kb n b) clr n st
 |.exit id,st=>some (.ext id,st)
 |.ret,st=>some (.ret,st)
 |.rf x s ps a b,st=>
  match x.evE gl st.env with
  |.fn f cs=>
   match call f (.yl (kb+s) (st.hp.next (kb+s))::cs) ((kb+s+1)*65536) (st.hp.put (kb+s) (st.hp.next (kb+s)) (.lp 0 kb st.env.list ps a b)) with
   |some (_,h')=>IQ st.env (kb+s) (st.hp.next (kb+s)) h'
   |none=>none
  |_=>none
 |.mr it nx more out b clr,st=>mrE (eA gl call kb n b) some it nx more out clr n st
 |.mq p id it nx more out b clr rest msk drop,st=>
  match eA gl call kb n p st with
  |some (.nor,st1)=>mrE (eA gl call kb n b) (λo=>(match oB id o.1 with|.nor=>eA gl call kb n rest o.2|x=>some (x,o.2)).bind (G9 kb msk drop)) it nx more out clr n st1
  |r=>r
 |.bad,_=>none
def wJ(st:StE):Sum Nat (Nat×Nat×Bool)->Option AV
 |.inl t=>some (st.env.get t)
 |.inr (t,sz,ag)=>
  match st.env.get t with
  |.pt k e off=>match st.hp.get k with
   |some (e',.blk cs _ _ _ _)=>if e'=e then cX cs off sz ag else none
   |_=>none
  |_=>none
def qJ(st:StE):List (Sum Nat (Nat×Nat×Bool))->Option (List AV)
 |[]=>some []
 |x::r=>
  match wJ st x,qJ st r with
  |some v,some l=>some (v::l)
  |_,_=>none
def wI(st:StE)(rs:List (Sum Nat (Nat×Nat×Bool))):Option AV:=
 match qJ st rs with
 |some [v]=>some v
 |some l=>some (.tup l)
 |none=>none
def wN(memo:Nat->List AV->Option AV)(f:Nat)(args:List AV):Nat->Hp->Option AV
 |0,[]=>memo f args
 |_,_=>none
def mQ(r:AV):AV×Hp:=
 match r with
 |.os es esz ag=>match aW esz ag es with
  |some cs=>(.rf 1 0 0 es.length es.length,[⟨1,0,.blk cs esz ag false false⟩])
  |none=>(r,[])
 |r=>(r,[])
def lO(r:AV):Bool:=match conv (mQ r).2 (mQ r).1 with|some q=>eqA q r|none=>false
def GO(ex:C->Nat->StE->Option (Ex×StE))(c:C)(b:Nat)(st:St):Option (Ex×St):=
 match ex c b ⟨EF.of st.env,st.hp⟩ with
 |some (x,s)=>some (x,⟨s.env.list,s.hp⟩)
 |none=>none
def cJ(pg:Pg)(memo:Nat->List AV->Option AV):Nat->aN
 |0=>⟨λ_ _ _ _=>none,λ_ _ _ _=>none⟩
 |n+1=>⟨λf args kb h=>
  match wN memo f args kb h with
  |some r=>some (mQ r)
  |none=>
   match pg.fs f with
   |none=>
    match pg.ex f with
    |some g=>g args kb h
    |none=>none
   |some cf=>
    match eA pg.gl (cJ pg memo n) kb n cf.body ⟨wV cf args,h⟩ with
    |some (.ext _,_)=>none
    |some (_,st)=>(wI st cf.res).map λv=>(v,st.hp)
    |none=>none,
  oH (GO λc b st=>eA pg.gl (cJ pg memo n) b n c st)⟩
structure StR(s:StE)(t:St):Prop where
 env:mG s.env t.env
 hp:s.hp=t.hp
end
section
structure iA(c c':aN):Prop where
 fn:∀f a kb h r,c f a kb h=some r->c' f a kb h=some r
 yl:∀k e a h r,c.yl k e a h=some r->c'.yl k e a h=some r
theorem iA.refl(c:aN):iA c c:=⟨λ_ _ _ _ _ h=>h,λ_ _ _ _ _ h=>h⟩
theorem lK{ex ex':C->Nat->St->Option (Ex×St)}(hx:∀c b st r,ex c b st=some r->ex' c b st=some r){k e:Nat}{a:List AV}{h:Hp}{r:AV×Hp}(h1:oH ex k e a h=some r):oH ex' k e a h=some r:=by
 unfold oH at h1 ⊢;split at h1
 case h_2=>cases h1
 split at h1
 case isFalse=>cases h1
 rename_i hc;rw[if_pos hc];split at h1
 case h_2=>cases h1
 rename_i he1;rw[hx _ _ _ _ he1];simp only;split at h1
 case h_2=>cases h1
 split at h1
 case isFalse=>cases h1
 rename_i hc2;rw[if_pos hc2];split at h1
 case h_2=>cases h1
 rename_i he2;rw[hx _ _ _ _ he2];exact h1
theorem dU{c c':aN}(hc:iA c c'){f:Nat}{ts:List AV}{r:AV}(h:bB c f ts=some r):bB c' f ts=some r:=by
 unfold bB at h ⊢;cases hq:c f ts 0 [] with
 |none=>simp[hq]at h
 |some p=>rw[hq]at h;rw[hc.fn _ _ _ _ _ hq];exact h
theorem kV{c c':aN}(hc:iA c c'){kb s:Nat}{h:Hp}{f:Nat}{th im:Bool}{vs:List AV}{r:AV×Eff}(h1:iE c kb s h f th im vs=some r):iE c' kb s h f th im vs=some r:=by
 unfold iE at h1 ⊢;cases hm:(if im then none else bO (snap depth h) vs) with
 |some p=>
  rw[hm]at h1;simp only at h1 ⊢;cases hp:bB c f p.1 with
  |none=>simp[hp]at h1
  |some q=>rw[hp]at h1;rw[dU hc hp];exact h1
 |none=>
  rw[hm]at h1;simp only at h1 ⊢;cases hp:c f vs (gJ kb s vs) h with
  |none=>simp[hp]at h1
  |some q=>rw[hp]at h1;rw[hc.fn _ _ _ _ _ hp];exact h1
theorem tU{c c':aN}(hc:iA c c'){h:Hp}{f:Nat}{vs:List AV}:∀{n b:Nat}{x:AV×List Nat×List Ent},j2 c h f vs n b=some x->j2 c' h f vs n b=some x
 |0,_,_,h1=>by simp[j2]at h1
 |n+1,b,x,h1=>by
  unfold j2 at h1 ⊢;cases hp:c f vs b [] with
  |none=>simp[hp]at h1
  |some q=>
   rw[hp]at h1;rw[hc.fn _ _ _ _ _ hp];simp only at h1 ⊢;split;rename_i hh;rw[if_pos hh]at h1;exact h1;rename_i hh;rw[if_neg hh]at h1;cases ht:j2 c h f vs n (b+4096) with
   |none=>simp[ht]at h1
   |some y=>rw[ht]at h1;rw[tU hc ht];exact h1
theorem AB{c c':aN}(hc:iA c c'){kb s:Nat}{h:Hp}{f:Nat}{vs:List AV}{r:AV×Eff}(h1:iV c kb s h f vs=some r):iV c' kb s h f vs=some r:=by
 unfold iV at h1 ⊢;split;rename_i ht;rw[if_pos ht]at h1;cases hq:j2 c h f vs 7 ((kb+s+1)*65536) with
 |none=>simp[hq]at h1
 |some y=>rw[hq]at h1;rw[tU hc hq];exact h1
 rename_i ht;rw[if_neg ht]at h1;cases h1
theorem qA{c c':aN}(hc:iA c c'){kb s:Nat}{h:Hp}{f:Nat}{vs:List AV}{r:AV×Eff}(h1:iU c kb s h f vs=some r):iU c' kb s h f vs=some r:=by
 unfold iU at h1 ⊢;cases hq:c f vs (gJ kb s vs) h with
 |none=>simp[hq]at h1
 |some y=>rw[hq]at h1;rw[hc.fn _ _ _ _ _ hq];exact h1
theorem yK{c c':aN}(hc:iA c c'){kb:Nat}{r:R}{h:Hp}{vs:List AV}{x:AV×Eff}(h1:opR c kb r h vs=some x):opR c' kb r h vs=some x:=by unfold opR at h1 ⊢;split at h1;exact kV hc h1;exact AB hc h1;exact qA hc h1;split at h1;exact qA hc h1;cases h1;split at h1;exact kV hc h1;split at h1;rename_i hy;rw[hc.yl _ _ _ _ _ hy];exact h1;cases h1;exact kV hc h1;cases h1;split at h1;split at h1;exact kV hc h1;cases h1;cases h1;exact h1
structure tH(c c':aN):Prop where
 off:∀f a kb h r,kb≠0->c f a kb h=some r->c' f a kb h=some r
 at0:∀f a r,bB c f a=some r->bB c' f a=some r
 yl:∀k e a h r,c.yl k e a h=some r->c'.yl k e a h=some r
theorem vP(kb s:Nat)(vs:List AV):gJ kb s vs≠0:=by unfold gJ;split<;>omega
theorem jZ{c c':aN}(hc:tH c c'){kb s:Nat}{h:Hp}{f:Nat}{th im:Bool}{vs:List AV}{r:AV×Eff}(h1:iE c kb s h f th im vs=some r):iE c' kb s h f th im vs=some r:=by
 unfold iE at h1 ⊢;cases hm:(if im then none else bO (snap depth h) vs) with
 |some p=>
  rw[hm]at h1;simp only at h1 ⊢;cases hp:bB c f p.1 with
  |none=>simp[hp]at h1
  |some q=>rw[hp]at h1;rw[hc.at0 _ _ _ hp];exact h1
 |none=>
  rw[hm]at h1;simp only at h1 ⊢;cases hp:c f vs (gJ kb s vs) h with
  |none=>simp[hp]at h1
  |some q=>rw[hp]at h1;rw[hc.off _ _ _ _ _ (vP kb s vs) hp];exact h1
theorem qV{c c':aN}(hc:tH c c'){h:Hp}{f:Nat}{vs:List AV}:∀{n b:Nat}{x:AV×List Nat×List Ent},b≠0->j2 c h f vs n b=some x->j2 c' h f vs n b=some x
 |0,_,_,_,h1=>by simp[j2]at h1
 |n+1,b,x,hb,h1=>by
  unfold j2 at h1 ⊢;cases hp:c f vs b [] with
  |none=>simp[hp]at h1
  |some q=>
   rw[hp]at h1;rw[hc.off _ _ _ _ _ hb hp];simp only at h1 ⊢;split;rename_i hh;rw[if_pos hh]at h1;exact h1;rename_i hh;rw[if_neg hh]at h1;cases ht:j2 c h f vs n (b+4096) with
   |none=>simp[ht]at h1
   |some y=>rw[ht]at h1;rw[qV hc (by omega) ht];exact h1
theorem xU{c c':aN}(hc:tH c c'){kb s:Nat}{h:Hp}{f:Nat}{vs:List AV}{r:AV×Eff}(h1:iV c kb s h f vs=some r):iV c' kb s h f vs=some r:=by
 unfold iV at h1 ⊢;split;rename_i ht;rw[if_pos ht]at h1;cases hq:j2 c h f vs 7 ((kb+s+1)*65536) with
 |none=>simp[hq]at h1
 |some y=>rw[hq]at h1;rw[qV hc (by omega) hq];exact h1
 rename_i ht;rw[if_neg ht]at h1;cases h1
theorem oA{c c':aN}(hc:tH c c'){kb s:Nat}{h:Hp}{f:Nat}{vs:List AV}{r:AV×Eff}(h1:iU c kb s h f vs=some r):iU c' kb s h f vs=some r:=by
 unfold iU at h1 ⊢;cases hq:c f vs (gJ kb s vs) h with
 |none=>simp[hq]at h1
 |some y=>rw[hq]at h1;rw[hc.off _ _ _ _ _ (vP kb s vs) hq];exact h1
theorem EW{c c':aN}(hc:tH c c'){kb:Nat}{r:R}{h:Hp}{vs:List AV}{x:AV×Eff}(h1:opR c kb r h vs=some x):opR c' kb r h vs=some x:=by unfold opR at h1 ⊢;split at h1;exact jZ hc h1;exact xU hc h1;exact oA hc h1;split at h1;exact oA hc h1;cases h1;split at h1;exact jZ hc h1;split at h1;rename_i hy;rw[hc.yl _ _ _ _ _ hy];exact h1;cases h1;exact jZ hc h1;cases h1;split at h1;split at h1;exact jZ hc h1;cases h1;cases h1;exact h1
theorem rA{gl:Nat->Option AV}{c c':aN}(hc:iA c c'){kb:Nat}{r:R}{st:St}{x:St×Eff}(h1:fT gl c kb r st=some x):fT gl c' kb r st=some x:=by
 unfold fT at h1 ⊢;generalize wanted st.env r.gd=wg at h1 ⊢;rcases wg with _|_|_;exact h1;exact h1;simp only at h1 ⊢;cases ho:opR c kb r st.hp (r.xs.map (X.ev gl st.env)) with
 |none=>simp[ho]at h1
 |some p=>rw[ho]at h1;rw[yK hc ho];exact h1
theorem oI{gl:Nat->Option AV}{c c':aN}(hc:iA c c'){kb:Nat}:∀{rs:List R}{st st':St},kK gl c kb rs st=some st'->kK gl c' kb rs st=some st'
 |[],_,_,h=>h
 |r::rs,st,st',h=>by
  unfold kK at h ⊢;cases hs:fT gl c kb r st with
  |none=>simp[hs]at h
  |some p=>rw[hs]at h;rw[rA hc hs];exact oI hc h
theorem mU{gl:Nat->Option AV}{c c':aN}(hc:iA c c'){kb:Nat}:∀{rs:List R}{st:St}{x:St×List Eff},fU gl c kb rs st=some x->fU gl c' kb rs st=some x
 |[],_,_,h=>h
 |r::rs,st,x,h=>by
  unfold fU at h ⊢;cases hs:fT gl c kb r st with
  |none=>simp[hs]at h
  |some p=>
   rw[hs]at h;rw[rA hc hs];simp only at h ⊢;cases hr:fU gl c kb rs p.1 with
   |none=>simp[hr]at h
   |some q=>rw[hr]at h;rw[mU hc hr];exact h
theorem mY{f f':St->Option (Ex×St)}(hf:∀st x,f st=some x->f' st=some x){clr:List Bool}:∀{n n':Nat}{st:St}{x:Ex×St},n<=n'->hQ f clr n st=some x->hQ f' clr n' st=some x
 |0,_,_,_,_,h=>by simp[hQ]at h
 |n+1,0,_,_,hn,_=>by omega
 |n+1,n'+1,st,x,hn,h=>by
  simp only[hQ]at h ⊢;cases hs:f ⟨clear clr st.env,st.hp⟩ with
  |none=>simp[hs]at h
  |some p=>
   rw[hs]at h;rw[hf _ _ hs];obtain⟨e,s⟩:=p;cases e with
   |nor=>exact mY hf (by omega) h
   |ext id=>exact h
   |ret=>exact h
theorem qD{α : Type}{eq : α -> α -> Bool}{f g:Nat->Option α}(hf:∀b r,f b=some r->g b=some r):∀{l:List Nat}{r : α},gK eq f l=some r->gK eq g l=some r
 |[],_,h=>by simp[gK]at h
 |[b],_,h=>hf _ _ h
 |b::b2::l,r,h=>by
  simp only[gK]at h ⊢;split at h
  case h_2=>cases h
  rename_i r1 s1 h1 h2;rw[hf _ _ h1,qD hf h2];exact h
theorem rM{f f':St->Option (Ex×St)}{fin fin':Ex×St->Option (Ex×St)}(hf:∀st x,f st=some x->f' st=some x)(hg:∀o x,fin o=some x->fin' o=some x){it nx more out:Nat}{clr:List Bool}:∀{n n':Nat}{st:St}{x:Ex×St},n<=n'->mrN f fin it nx more out clr n st=some x->mrN f' fin' it nx more out clr n' st=some x
 |0,_,_,_,_,h=>by simp[mrN]at h
 |n+1,0,_,_,hn,_=>by omega
 |n+1,n'+1,st,x,hn,h=>by
  simp only[mrN]at h ⊢;split at h
  case isFalse=>cases h
  rename_i hl;rw[if_pos hl];split at h
  case h_2=>cases h
  rename_i k e hit;split at h
  case h_2=>cases h
  rename_i l o hx;split at h
  ·rename_i hle
   try rw[if_pos hle]
   cases hk:killI st.hp k e with
   |none=>simp[hk]at h
   |some h2=>simp only[hk,Option.bind_some]at h ⊢;exact hg _ _ h
  ·rename_i hle
   try rw[if_neg hle]
   refine qD (λb r hr=>?_) h;split at hr;rename_i s1 h1;rw[hf _ _ h1];exact rM hf hg (by omega) hr;rename_i x1 s1 hne h1;rw[hf _ _ h1];cases x1 with
   |nor=>exact(hne rfl).elim
   |ext id=>
    cases hk:killI s1.hp k e with
    |none=>simp[hk]at hr
    |some h2=>simp only[hk,Option.bind_some]at hr ⊢;exact hg _ _ hr
   |ret=>
    cases hk:killI s1.hp k e with
    |none=>simp[hk]at hr
    |some h2=>simp only[hk,Option.bind_some]at hr ⊢;exact hg _ _ hr
   cases hr
theorem kE{gl:Nat->Option AV}{c c':aN}(hc:iA c c'){kb n n':Nat}(hn:n<=n'):∀{k:C}{st:St}{x:Ex×St},aY gl c kb n k st=some x->aY gl c' kb n' k st=some x:=by
 intro k
 induction k with
 |skip=>intro st x h;exact h
 |reg rs d=>
  intro st x h;cases d with
  |false=>
   simp only[aY]at h ⊢;cases hr:kK gl c kb rs st with
   |none=>simp[hr]at h
   |some s=>rw[hr]at h;rw[oI hc hr];exact h
  |true=>
   simp only[aY]at h ⊢;cases hr:fU gl c kb rs st with
   |none=>simp[hr]at h
   |some s=>rw[hr]at h;rw[mU hc hr];exact h
 |seq a b iha ihb=>
  intro st x h;simp only[aY]at h ⊢;cases ha:aY gl c kb n a st with
  |none=>simp[ha]at h
  |some p=>
   rw[ha]at h;rw[iha ha];obtain⟨e,s⟩:=p;cases e with
   |nor=>exact ihb h
   |ext id=>exact h
   |ret=>exact h
 |cond x a b iha ihb=>intro st y h;simp only[aY]at h ⊢;split at h;exact iha h;exact ihb h;cases h
 |block id b ih=>
  intro st x h;simp only[aY]at h ⊢;cases hb:aY gl c kb n b st with
  |none=>simp[hb]at h
  |some p=>rw[hb]at h;rw[ih hb];exact h
 |loop b m ih=>intro st x h;simp only[aY]at h ⊢;exact mY (λst x q=>ih q) hn h
 |exit id=>intro st x h;exact h
 |ret=>intro st x h;exact h
 |rf x s ps a b=>
  intro st y h;simp only[aY]at h ⊢;split at h
  case h_2=>cases h
  rename_i f cs hf;split at h
  case h_2=>cases h
  rename_i rr h' hcall;rw[hc.fn _ _ _ _ _ hcall];exact h
 |bad=>intro st x h;simp[aY]at h
 |mr it nx more out b clr ih=>intro st x h;simp only[aY]at h ⊢;exact rM (λst x q=>ih q) (λ_ _ q=>q) hn h
 |mq p id it nx more out b clr c2 msk drop ihp ih ih2=>
  intro st x h;simp only[aY]at h ⊢;split at h;rename_i st1 h1;rw[ihp h1];refine rM (λst x q=>ih q) (λo x q=>?_) hn h;simp only[gC]at q ⊢;obtain⟨y,q1,q2⟩:=q;refine⟨y,?_,q2⟩;split at q1;exact ih2 q1;exact q1;rename_i hne;rw[ihp h];obtain⟨x,s⟩:=x;cases x with
  |nor=>exact absurd h (hne _)
  |ext id=>rfl
  |ret=>rfl
theorem bX(pg:Pg):∀{n n':Nat},n<=n'->iA (aP pg n) (aP pg n')
 |0,_,_=>⟨by intro f a kb h r hq;simp[aP]at hq,by intro k e a h r hq;simp[aP]at hq⟩
 |n+1,0,h=>by omega
 |n+1,n'+1,hn=>by
  refine⟨?_,λk e a h r hq=>by
   simp only[aP]at hq ⊢;exact lK (λc b st r hr=>kE (bX pg (Nat.le_of_succ_le_succ hn)) (Nat.le_of_succ_le_succ hn) hr) hq⟩
  intro f a kb h r hq;simp only[aP]at hq ⊢;cases hf:pg.fs f with
  |none=>rw[hf]at hq;exact hq
  |some cf=>
   rw[hf]at hq;simp only at hq ⊢;cases he:aY pg.gl (aP pg n) kb n cf.body ⟨enter cf a,h⟩ with
   |none=>simp[he]at hq
   |some p=>rw[he]at hq;rw[kE (bX pg (Nat.le_of_succ_le_succ hn)) (Nat.le_of_succ_le_succ hn) he];exact hq
theorem BN{gl:Nat->Option AV}{s:StE}{t:St}(h:StR s t)(x:X):x.evE gl s.env=x.ev gl t.env:=by
 cases x with
 |t n=>simp only[X.evE,X.ev];exact(h.env.2 n).symm
 |_=>rfl
theorem tX{gl:Nat->Option AV}{c c':aN}(hc:tH c c'){kb:Nat}{r:R}{s s':StE}{t:St}{e:Eff}(hst:StR s t)(h:C8 gl c kb r s=some (s',e)) :
  ∃t',fT gl c' kb r t=some (t',e)/\StR s' t':=by
 have hw:vW s.env r.gd=wanted t.env r.gd:=by
  unfold vW wanted;cases r.gd with
  |none=>rfl
  |some p=>simp only[hst.env.2];rfl
 have hx:r.xs.map (X.evE gl s.env)=r.xs.map (X.ev gl t.env):=List.map_congr_left (λx _=>BN hst x);unfold C8 at h;unfold fT;rw[hw,hx]at h;generalize wanted t.env r.gd=wg at h ⊢;rcases wg with _|_|_;cases h;simp only at h ⊢;cases h;exact⟨_,rfl,⟨hst.env.set _ _,hst.hp⟩⟩;simp only at h ⊢;rw[hst.hp]at h;cases ho:opR c kb r t.hp (r.xs.map (X.ev gl t.env)) with
 |none=>simp[ho]at h
 |some p=>rw[ho]at h;rw[EW hc ho];simp only at h ⊢;cases h;exact⟨_,rfl,⟨hst.env.set _ _,rfl⟩⟩
theorem uD{gl:Nat->Option AV}{c c':aN}(hc:tH c c'){kb:Nat}:∀{rs:List R}{s s':StE}{t:St},StR s t->uE gl c kb rs s=some s'->∃t',kK gl c' kb rs t=some t'/\StR s' t'
 |[],s,s',t,hst,h=>by simp[uE]at h;subst h;exact⟨t,rfl,hst⟩
 |r::rs,s,s',t,hst,h=>by
  unfold uE at h;unfold kK;split at h
  case h_2=>cases h
  rename_i s1 e hs;obtain⟨t1,q1,q2⟩:=tX hc hst hs;rw[q1];exact uD hc q2 h
theorem rH{gl:Nat->Option AV}{c c':aN}(hc:tH c c'){kb:Nat}:∀{rs:List R}{s s':StE}{t:St}{es:List Eff},StR s t->oJ gl c kb rs s=some (s',es)->∃t',fU gl c' kb rs t=some (t',es)/\StR s' t'
 |[],s,s',t,es,hst,h=>by simp[oJ]at h;obtain⟨rfl,rfl⟩:=h;exact⟨t,rfl,hst⟩
 |r::rs,s,s',t,es,hst,h=>by
  unfold oJ at h;unfold fU;split at h
  case h_2=>cases h
  rename_i s1 e hs;obtain⟨t1,q1,q2⟩:=tX hc hst hs;cases hr:oJ gl c kb rs s1 with
  |none=>simp[hr]at h
  |some p=>obtain⟨s2,es2⟩:=p;simp[hr]at h;obtain⟨rfl,rfl⟩:=h;obtain⟨t2,q3,q4⟩:=rH hc q2 hr;exact⟨t2,by rw[q1];simp only;rw[q3];rfl,q4⟩
theorem uP{f:StE->Option (Ex×StE)}{f':St->Option (Ex×St)}(hf:∀s t x s',StR s t->f s=some (x,s')->∃t',f' t=some (x,t')/\StR s' t'){clr:List Bool} :
  ∀{n n':Nat}{s s':StE}{t:St}{x:Ex},n<=n'->StR s t->yS f clr n s=some (x,s')->∃t',hQ f' clr n' t=some (x,t')/\StR s' t'
 |0,_,_,_,_,_,_,_,h=>by simp[yS]at h
 |n+1,0,_,_,_,_,hn,_,_=>by omega
 |n+1,n'+1,s,s',t,x,hn,hst,h=>by
  simp only[yS]at h;simp only[hQ];split at h
  case h_1=>cases h
  rename_i e he;have hst':StR ⟨e,s.hp⟩ ⟨clear clr t.env,t.hp⟩:=⟨hst.env.clear he,hst.hp⟩
  split at h;rename_i s1 h1;obtain⟨t1,q1,q2⟩:=hf _ _ _ _ hst' h1;rw[q1];exact uP hf (by omega) q2 h;rename_i hne;obtain⟨t1,q1,q2⟩:=hf _ _ _ _ hst' h;rw[q1];cases x with
  |nor=>exact absurd h (hne _)
  |ext id=>exact⟨t1,rfl,q2⟩
  |ret=>exact⟨t1,rfl,q2⟩
theorem vS{F:Nat->Option (Ex×StE)}{G:Nat->Option (Ex×St)}(hf:∀b x s',F b=some (x,s')->∃t',G b=some (x,t')/\StR s' t') :
  ∀{l:List Nat}{x:Ex}{s':StE},gK YL F l=some (x,s')->∃t',gK eqR G l=some (x,t')/\StR s' t'
 |[],_,_,h=>by simp[gK]at h
 |[b],_,_,h=>hf _ _ _ h
 |b::b2::l,x,s',h=>by
  simp only[gK]at h;split at h
  case h_2=>cases h
  rename_i r1 s1 h1 h2;split at h
  case isFalse=>cases h
  rename_i hq;cases h;obtain⟨x2,s2⟩:=s1;obtain⟨t1,a1,a2⟩:=hf _ _ _ h1;obtain⟨t2,b1,b2⟩:=vS hf h2;refine⟨t1,?_,a2⟩;simp only[gK];rw[a1,b1];simp only;have:eqR (x,t1) (x2,t2)=true:=by simp only[YL,a2.env.list,b2.env.list,a2.hp,b2.hp]at hq;exact hq
  rw[if_pos this]
theorem wM{f:StE->Option (Ex×StE)}{f':St->Option (Ex×St)}(hf:∀s t x s',StR s t->f s=some (x,s')->∃t',f' t=some (x,t')/\StR s' t'){fin:Ex×StE->Option (Ex×StE)}{fin':Ex×St->Option (Ex×St)}(hg:∀x1 s t x s',StR s t->fin (x1,s)=some (x,s')->∃t',fin' (x1,t)=some (x,t')/\StR s' t'){it nx more out:Nat}{clr:List Bool} :
  ∀{n n':Nat}{s s':StE}{t:St}{x:Ex},n<=n'->StR s t->mrE f fin it nx more out clr n s=some (x,s')->∃t',mrN f' fin' it nx more out clr n' t=some (x,t')/\StR s' t'
 |0,_,_,_,_,_,_,_,h=>by simp[mrE]at h
 |n+1,0,_,_,_,_,hn,_,_=>by omega
 |n+1,n'+1,s,s',t,x,hn,hst,h=>by
  simp only[mrE]at h;simp only[mrN];split at h
  case isFalse=>cases h
  rename_i hl;rw[<-hst.env.1]at hl;rw[if_pos hl];split at h
  case h_1=>cases h
  rename_i e he;have hc:=hst.env.clear he;split at h
  case h_2=>cases h
  rename_i k ep hit;rw[<-hc.2]at hit;rw[hit];simp only;split at h
  case h_2=>cases h
  rename_i l o hx;rw[hst.hp]at hx;rw[hx];simp only;have hset:∀v b,mG (GL e nx more v b) (((clear clr t.env).set nx v).set more (.bool b)):=λv b=>(hc.set (some nx) v).set (some more) (.bool b);split at h;rename_i hle;rw[if_pos hle];rw[hst.hp]at h;cases hk:killI t.hp k ep with
  |none=>simp[hk]at h
  |some h2=>simp only[hk,Option.bind_some]at h ⊢;exact hg _ _ _ _ _ ⟨hset _ _,rfl⟩ h
  rename_i hle;rw[if_neg hle];refine vS (λb x s' hr=>?_) h;split at hr;rename_i s1 h1;obtain⟨t1,q1,q2⟩:=hf _ ⟨((clear clr t.env).set nx (.tup [.bool true,.top,.top])).set more (.bool true),t.hp.put k ep (o b)⟩ _ _ ⟨hset _ _,by rw[hst.hp]⟩ h1;rw[q1];exact wM hf hg (by omega) q2 hr;rename_i x1 s1 hne h1;obtain⟨t1,q1,q2⟩:=hf _ ⟨((clear clr t.env).set nx (.tup [.bool true,.top,.top])).set more (.bool true),t.hp.put k ep (o b)⟩ _ _ ⟨hset _ _,by rw[hst.hp]⟩ h1;rw[q1]
  have key:∀y,(killI s1.hp k ep).bind (λh=>fin (x1,(⟨s1.env,h⟩:StE)))=some (x,y)->∃t',(killI t1.hp k ep).bind (λh=>fin' (x1,(⟨t1.env,h⟩:St)))=some (x,t')/\StR y t':=by
   intro y hy;rw[q2.hp]at hy;cases hk:killI t1.hp k ep with
   |none=>simp[hk]at hy
   |some h2=>simp only[hk,Option.bind_some]at hy ⊢;exact hg x1 ⟨s1.env,h2⟩ ⟨t1.env,h2⟩ _ _ ⟨q2.env,rfl⟩ hy
  cases x1 with
  |nor=>exact(hne rfl).elim
  |ext id=>exact key _ hr
  |ret=>exact key _ hr
  cases hr
theorem u5{gl:Nat->Option AV}{c c':aN}(hc:tH c c'){kb n n':Nat}(hn:n<=n'):∀{k:C}{s s':StE}{t:St}{x:Ex},StR s t->eA gl c kb n k s=some (x,s') ->
  ∃t',aY gl c' kb n' k t=some (x,t')/\StR s' t':=by
 intro k
 induction k with
 |skip=>intro s s' t x hst h;simp[eA]at h;obtain⟨rfl,rfl⟩:=h;exact⟨t,rfl,hst⟩
 |reg rs d=>
  intro s s' t x hst h;cases d with
  |false=>
   simp only[eA]at h;simp only[aY];cases hr:uE gl c kb rs s with
   |none=>simp[hr]at h
   |some s1=>simp[hr]at h;obtain⟨rfl,rfl⟩:=h;obtain⟨t1,q1,q2⟩:=uD hc hst hr;exact⟨t1,by rw[q1];rfl,q2⟩
  |true=>
   simp only[eA]at h;simp only[aY];split at h
   case h_2=>cases h
   rename_i s1 es hr;obtain⟨t1,q1,q2⟩:=rH hc hst hr;rw[q1];simp only;split at h
   case isFalse=>cases h
   rename_i ha;rw[if_pos ha];cases h;exact⟨t1,rfl,q2⟩
 |seq a b iha ihb=>
  intro s s' t x hst h;simp only[eA]at h;simp only[aY];split at h;rename_i s1 h1;obtain⟨t1,q1,q2⟩:=iha hst h1;rw[q1];exact ihb q2 h;rename_i hne;obtain⟨t1,q1,q2⟩:=iha hst h;rw[q1];cases x with
  |nor=>exact absurd h (hne _)
  |ext id=>exact⟨t1,rfl,q2⟩
  |ret=>exact⟨t1,rfl,q2⟩
 |cond y a b iha ihb=>intro s s' t x hst h;simp only[eA]at h;simp only[aY];rw[BN hst]at h;split at h;rename_i hb;rw[hb];exact iha hst h;rename_i hb;rw[hb];exact ihb hst h;cases h
 |block id b ih=>
  intro s s' t x hst h;simp only[eA]at h;simp only[aY];split at h;rename_i i s1 h1;obtain⟨t1,q1,q2⟩:=ih hst h1;rw[q1];simp only[cond_eq_ite,Nat.beq_eq]at h ⊢;split at h;rename_i hi;rw[if_pos hi];cases h;exact⟨t1,rfl,q2⟩;rename_i hi;rw[if_neg hi];cases h;exact⟨t1,rfl,q2⟩;rename_i hne;obtain⟨t1,q1,q2⟩:=ih hst h;rw[q1];cases x with
  |nor=>exact⟨t1,rfl,q2⟩
  |ext id=>exact absurd h (hne _ _)
  |ret=>exact⟨t1,rfl,q2⟩
 |loop b m ih=>intro s s' t x hst h;simp only[eA]at h;simp only[aY];exact uP (λs t x s' q1 q2=>ih q1 q2) hn hst h
 |exit id=>intro s s' t x hst h;simp[eA]at h;obtain⟨rfl,rfl⟩:=h;exact⟨t,rfl,hst⟩
 |ret=>intro s s' t x hst h;simp[eA]at h;obtain⟨rfl,rfl⟩:=h;exact⟨t,rfl,hst⟩
 |rf fx sk ps ca cb=>
  intro s s' t x hst h;simp only[eA]at h;simp only[aY];rw[BN hst,hst.env.list,hst.hp]at h;split at h
  case h_2=>cases h
  rename_i f cs hf;rw[hf];simp only;split at h
  case h_2=>cases h
  rename_i rr h' hcall;rw[hc.off _ _ _ _ _ (by omega) hcall];simp only;unfold IQ at h;split at h
  case h_2=>cases h
  rename_i y st1 he;cases h;unfold DT at he ⊢;split at he
  case h_2=>cases he
  split at he
  case isFalse=>cases he
  rename_i hee;rw[if_pos hee];split at he;cases he;exact⟨_,rfl,⟨hst.env,rfl⟩⟩;cases he;exact⟨_,rfl,⟨hst.env,rfl⟩⟩;cases he;exact⟨_,rfl,⟨hst.env,rfl⟩⟩;cases he
 |bad=>intro s s' t x hst h;simp[eA]at h
 |mr it nx more out b clr ih=>intro s s' t x hst h;simp only[eA]at h;simp only[aY];exact wM (λs t x s' q1 q2=>ih q1 q2) (λx1 s t x s' q1 q2=>by cases q2;exact⟨t,rfl,q1⟩) hn hst h
 |mq p id it nx more out b clr c2 msk drop ihp ih ih2=>
  intro s s' t x hst h;simp only[eA]at h;simp only[aY];split at h;rename_i s1 h1;obtain⟨t1,q1,q2⟩:=ihp hst h1;rw[q1];refine wM (λs t x s' q1 q2=>ih q1 q2) (λx1 s t x s' r1 r2=>?_) hn q2 h;have key:∀(y:Ex×StE)(t2:St),StR y.2 t2->G9 kb msk drop y=some (x,s')->∃t',G8 kb msk drop (y.1,t2)=(x,t')/\StR s' t':=by intro y t2 hy hm;simp only[G9,gC,aM]at hm;obtain⟨env,m1,rfl,rfl⟩:=hm;exact⟨_,rfl,⟨hy.env.clear m1,by rw[hy.hp]⟩⟩
  simp only at r2 ⊢;split at r2;rename_i hb;rw[hb];simp only;cases hx:eA gl c kb n c2 s with
  |none=>simp[hx]at r2
  |some y=>simp only[hx,Option.bind_some]at r2;obtain⟨y1,y2⟩:=y;obtain⟨t2,a1,a2⟩:=ih2 r1 hx;rw[a1];obtain⟨t',k1,k2⟩:=key (y1,y2) t2 a2 r2;exact⟨t',by rw[Option.map_some,k1],k2⟩
  rename_i hb;simp only[Option.bind_some]at r2;obtain⟨t',k1,k2⟩:=key (oB id x1,s) t r1 r2;refine⟨t',?_,k2⟩;cases hbx:oB id x1 with
  |nor=>exact absurd hbx hb
  |ext i=>rw[hbx]at k1;simp only[Option.map_some,k1]
  |ret=>rw[hbx]at k1;simp only[Option.map_some,k1]
  rename_i hne;obtain⟨t1,q1,q2⟩:=ihp hst h;rw[q1];cases x with
  |nor=>exact absurd h (hne _)
  |ext id=>exact⟨t1,rfl,q2⟩
  |ret=>exact⟨t1,rfl,q2⟩
theorem AR{s:StE}{t:St}(hst:StR s t)(rs:List (Sum Nat (Nat×Nat×Bool))):wI s rs=result t rs:=by
 have h1:∀r,wJ s r=pM t r:=by
  intro r;cases r with
  |inl u=>simp only[wJ,pM,hst.env.2]
  |inr p=>simp only[wJ,pM,hst.env.2,hst.hp];rfl
 have h2:∀rs,qJ s rs=kJ t rs:=by
  intro rs
  induction rs with
  |nil=>rfl
  |cons r rs ih=>simp only[qJ,kJ,h1,ih];rfl
 unfold wI result;rw[h2];rfl
theorem BS{h:Hp}{v:AV}(hv:v.tree=true):conv h v=some v:=by
 have:snap depth h v=some (v,[]):=by unfold depth snap;rw[if_pos hv]
 cases v<;>first|(simp only[conv,this];rfl)|simp[AV.tree]at hv
theorem yO{r:AV}(h:lO r=true):conv (mQ r).2 (mQ r).1=some r:=by unfold lO at h;split at h;rename_i q hq;rw[hq,fN _ _ h];cases h
theorem tJ{r:AV}(h:r.tree=true):lO r=true:=by
 have h1:mQ r=(r,[]):=by cases r<;>first|rfl|simp[AV.tree]at h
 unfold lO;rw[h1];simp only[BS h,jR]
theorem nD(pg:Pg){memo:Nat->List AV->Option AV}{m:Nat}(hm:∀f a r,memo f a=some r->lO r=true/\bB (aP pg m) f a=some r):∀n,tH (cJ pg memo n) (aP pg (m+n))
 |0=>⟨λf a kb h r _ hq=>by simp[cJ]at hq,λf a r hq=>by simp[bB,cJ]at hq,λk e a h r hq=>by simp[cJ]at hq⟩
 |n+1=>by
  have key:∀f a kb h r,wN memo f a kb h=none->cJ pg memo (n+1) f a kb h=some r->aP pg (m+(n+1)) f a kb h=some r:=by
   intro f a kb h r hn hq;simp only[cJ]at hq;rw[hn]at hq;simp only at hq;rw[<-Nat.add_assoc];simp only[aP];split at hq;rename_i hf;rw[hf];exact hq;rename_i cf hf;rw[hf];simp only;split at hq;cases hq;rename_i x s hne he;obtain⟨t,q1,q2⟩:=u5 (t:=⟨enter cf a,h⟩) (nD pg hm n) (Nat.le_add_left n m) ⟨mG.enter cf a,rfl⟩ he;rw[q1];rw[AR q2,q2.hp]at hq;cases x with
   |nor=>exact hq
   |ret=>exact hq
   |ext id=>exact(hne id rfl).elim
   cases hq
  have hyl:∀k e a h r,(cJ pg memo (n+1)).yl k e a h=some r->(aP pg (m+(n+1))).yl k e a h=some r:=by
   intro k e a h r hq;rw[<-Nat.add_assoc];refine lK (λc b st r hr=>?_) hq;unfold GO at hr;split at hr
   case h_2=>cases hr
   rename_i x s he;cases hr;obtain⟨t,q1,q2⟩:=u5 (t:=⟨st.env,st.hp⟩) (nD pg hm n) (Nat.le_add_left n m) ⟨mG.of st.env,rfl⟩ he;have:t=⟨s.env.list,s.hp⟩:=by rw[q2.env.list,q2.hp]
   rw[q1,this]
  refine⟨λf a kb h r hk hq=>key f a kb h r ?_ hq,λf a r hq=>?_,hyl⟩;cases kb with
  |zero=>exact absurd rfl hk
  |succ k=>rfl
  unfold bB at hq;cases hc:cJ pg memo (n+1) f a 0 [] with
  |none=>simp[hc]at hq
  |some p=>
   rw[hc]at hq;cases hme:memo f a with
   |some r'=>
    have:cJ pg memo (n+1) f a 0 []=some (mQ r'):=by simp only[cJ,wN,hme]
    rw[this]at hc;cases hc;obtain⟨h1,h2⟩:=hm f a r' hme;simp only[yO h1,aK]at hq;subst hq;exact dU (bX pg (by omega)) h2
   |none=>have:=key f a 0 [] p (by simp[wN,hme]) hc;unfold bB;rw[this];exact hq
theorem FT(pg:Pg){memo:Nat->List AV->Option AV}{m:Nat}(hm:∀f a r,memo f a=some r->r.tree=true/\bB (aP pg m) f a=some r)(n:Nat):tH (cJ pg memo n) (aP pg (m+n)):=
 nD pg (λf a r h=>⟨tJ (hm f a r h).1,(hm f a r h).2⟩) n
end
section
variable{pg:Pg}{kb:Nat}
def Ret(pg:Pg)(f:Nat)(ts:List AV)(r:AV):Prop:=∃n,bB (aP pg n) f ts=some r
def nE(pg:Pg)(f:Nat)(vs:List AV)(kb:Nat)(h:Hp)(r:AV)(h':Hp):Prop:=∃n,aP pg n f vs kb h=some (r,h')
def WX(pg:Pg)(kb:Nat)(c:C)(st:St)(Q:Ex->St->Prop):Prop:=∃n ex st',aY pg.gl (aP pg n) kb n c st=some (ex,st')/\Q ex st'
def WR(pg:Pg)(kb:Nat)(rs:List R)(st:St)(K:St->Prop):Prop:=∃n st',kK pg.gl (aP pg n) kb rs st=some st'/\K st'
def WT(pg:Pg)(kb:Nat)(rs:List R)(st:St)(K:St->List Eff->Prop):Prop:=∃n st' es,fU pg.gl (aP pg n) kb rs st=some (st',es)/\K st' es
def WO(pg:Pg)(kb:Nat)(k:K)(s:Nat)(h:Hp)(vs:List AV)(Q:AV->Eff->Prop):Prop:=
 ∃n v eff,opR (aP pg n) kb ⟨none,k,[],none,0,s⟩ h vs=some (v,eff)/\Q v eff
def iL(A:St->Prop)(Q:Ex->St->Prop)(ex:Ex)(st:St):Prop:=
 match ex with
 |.nor=>A st
 |.ext i=>Q (.ext i) st
 |.ret=>Q .ret st
theorem EK(A:St->Prop)(Q:Ex->St->Prop)(st:St):iL A Q .nor st=A st:=rfl
theorem EL(A:St->Prop)(Q:Ex->St->Prop)(i:Nat)(st:St):iL A Q (.ext i) st=Q (.ext i) st:=rfl
theorem EJ(A:St->Prop)(Q:Ex->St->Prop)(st:St):iL A Q .ret st=Q .ret st:=rfl
def jS(id:Nat)(Q:Ex->St->Prop)(ex:Ex)(st:St):Prop:=
 match ex with
 |.nor=>Q .nor st
 |.ext i=>if i=id then Q .nor st else Q (.ext i) st
 |.ret=>Q .ret st
theorem CX(id:Nat)(Q:Ex->St->Prop)(st:St):jS id Q .nor st=Q .nor st:=rfl
theorem CY(id:Nat)(Q:Ex->St->Prop)(i:Nat)(st:St):jS id Q (.ext i) st=if i=id then Q .nor st else Q (.ext i) st:=rfl
theorem CW(id:Nat)(Q:Ex->St->Prop)(st:St):jS id Q .ret st=Q .ret st:=rfl
def IW(v:AV)(A B:Prop):Prop:=
 match v with
 |.bool true=>A
 |.bool false=>B
 |_=>False
def AZ(o:Option (AV×Eff))(Q:AV->Eff->Prop):Prop:=
 match o with
 |some (v,e)=>Q v e
 |none=>False
theorem mB{c:C}{st:St}{o:Ex×St}{n m:Nat}(h:n<=m)(e:aY pg.gl (aP pg n) kb n c st=some o):aY pg.gl (aP pg m) kb m c st=some o:=
 kE (bX pg h) h e
theorem KD{rs:List R}{st st':St}{n m:Nat}(h:n<=m)(e:kK pg.gl (aP pg n) kb rs st=some st'):kK pg.gl (aP pg m) kb rs st=some st':=
 oI (bX pg h) e
theorem OY(st:St)(Q:Ex->St->Prop):WX pg kb .skip st Q=Q .nor st:=by apply propext;constructor;rintro⟨n,ex,st',h,q⟩;simp only[aY,aK,aM]at h;obtain⟨rfl,rfl⟩:=h;exact q;intro q;exact⟨0,_,_,rfl,q⟩
theorem O4(id:Nat)(st:St)(Q:Ex->St->Prop):WX pg kb (.exit id) st Q=Q (.ext id) st:=by apply propext;constructor;rintro⟨n,ex,st',h,q⟩;simp only[aY,aK,aM]at h;obtain⟨rfl,rfl⟩:=h;exact q;intro q;exact⟨0,_,_,rfl,q⟩
theorem ZS(st:St)(Q:Ex->St->Prop):WX pg kb .ret st Q=Q .ret st:=by apply propext;constructor;rintro⟨n,ex,st',h,q⟩;simp only[aY,aK,aM]at h;obtain⟨rfl,rfl⟩:=h;exact q;intro q;exact⟨0,_,_,rfl,q⟩
theorem ZT(rs:List R)(st:St)(Q:Ex->St->Prop):WX pg kb (.reg rs false) st Q=WR pg kb rs st (λst'=>Q .nor st'):=by apply propext;constructor;rintro⟨n,ex,st',h,q⟩;simp only[aY,gC,aM]at h;obtain⟨s,h1,rfl,rfl⟩:=h;exact⟨n,_,h1,q⟩;rintro⟨n,st',h,q⟩;exact⟨n,_,_,by simp only[aY,h,Option.map_some],q⟩
theorem OZ(rs:List R)(st:St)(Q:Ex->St->Prop):WX pg kb (.reg rs true) st Q=WT pg kb rs st (λst' es=>eC 0 rs es=true/\Q .nor st'):=by apply propext;constructor;rintro⟨n,ex,st',h,q⟩;simp only[aY]at h;split at h;rename_i s es h1;split at h;simp only[aK,aM]at h;obtain⟨rfl,rfl⟩:=h;exact⟨n,_,_,h1,by assumption,q⟩;cases h;cases h;rintro⟨n,st',es,h,a,q⟩;exact⟨n,_,_,by simp only[aY,h,a,if_true],q⟩
theorem O5(c:X)(a b:C)(st:St)(Q:Ex->St->Prop):WX pg kb (.cond c a b) st Q=IW (c.ev pg.gl st.env) (WX pg kb a st Q) (WX pg kb b st Q):=by
 apply propext;simp only[WX,aY];cases c.ev pg.gl st.env with
 |bool x=>cases x<;>exact Iff.rfl
 |_=>simp[IW]
theorem ZR(a b:C)(st:St)(Q:Ex->St->Prop):WX pg kb (.seq a b) st Q=WX pg kb a st (iL (λst'=>WX pg kb b st' Q) Q):=by
 apply propext;constructor;rintro⟨n,ex,st',h,q⟩;simp only[aY]at h;cases ha:aY pg.gl (aP pg n) kb n a st with
 |none=>simp[ha]at h
 |some o=>
  obtain⟨ex1,st1⟩:=o;rw[ha]at h;refine⟨n,ex1,st1,ha,?_⟩;cases ex1 with
  |nor=>exact⟨n,ex,st',h,q⟩
  |ext i=>simp only[aK,aM]at h;obtain⟨rfl,rfl⟩:=h;exact q
  |ret=>simp only[aK,aM]at h;obtain⟨rfl,rfl⟩:=h;exact q
 rintro⟨n,ex,st',h,q⟩;cases ex with
 |nor=>obtain⟨m,ex2,st2,h2,q2⟩:=q;refine⟨max n m,ex2,st2,?_,q2⟩;simp only[aY,mB (Nat.le_max_left n m) h];exact mB (Nat.le_max_right n m) h2
 |ext i=>exact⟨n,_,_,by simp only[aY,h],q⟩
 |ret=>exact⟨n,_,_,by simp only[aY,h],q⟩
theorem JX(id:Nat)(b:C)(st:St)(Q:Ex->St->Prop):WX pg kb (.block id b) st Q=WX pg kb b st (jS id Q):=by
 apply propext;constructor;rintro⟨n,ex,st',h,q⟩;simp only[aY]at h;cases hb:aY pg.gl (aP pg n) kb n b st with
 |none=>simp[hb]at h
 |some o=>
  obtain⟨ex1,st1⟩:=o;rw[hb]at h;refine⟨n,ex1,st1,hb,?_⟩;cases ex1 with
  |nor=>simp only[aK,aM]at h;obtain⟨rfl,rfl⟩:=h;exact q
  |ext i=>simp only at h;simp only[jS];split at h<;>(simp only[aK,aM]at h;obtain⟨rfl,rfl⟩:=h;simp_all)
  |ret=>simp only[aK,aM]at h;obtain⟨rfl,rfl⟩:=h;exact q
 rintro⟨n,ex,st',h,q⟩;cases ex with
 |nor=>exact⟨n,_,_,by simp only[aY,h],q⟩
 |ret=>exact⟨n,_,_,by simp only[aY,h],q⟩
 |ext i=>simp only[jS]at q;split at q;rename_i hi;exact⟨n,.nor,st',by simp only[aY,h,if_pos hi],q⟩;rename_i hi;exact⟨n,.ext i,st',by simp only[aY,h,if_neg hi],q⟩
theorem yR{b:C}{clr:List Bool}{st:St}{o:Ex×St}{n m k l:Nat}(h:n<=m)(hk:k<=l)(e:hQ (aY pg.gl (aP pg n) kb n b) clr k st=some o) :
  hQ (aY pg.gl (aP pg m) kb m b) clr l st=some o:=
 mY (λ_ _ q=>mB h q) hk e
theorem EB(b:C)(clr:List Bool)(st:St)(Q:Ex->St->Prop) :
  WX pg kb (.loop b clr) st Q=WX pg kb b ⟨clear clr st.env,st.hp⟩ (iL (λst'=>WX pg kb (.loop b clr) st' Q) Q):=by
 apply propext;constructor;rintro⟨n,ex,st',h,q⟩;simp only[aY]at h;cases n with
 |zero=>simp[hQ]at h
 |succ n=>
  simp only[hQ]at h;cases hb:aY pg.gl (aP pg (n+1)) kb (n+1) b ⟨clear clr st.env,st.hp⟩ with
  |none=>simp[hb]at h
  |some o=>
   obtain⟨ex1,st1⟩:=o;rw[hb]at h;refine⟨n+1,ex1,st1,hb,?_⟩;cases ex1 with
   |nor=>exact⟨n+1,ex,st',yR (Nat.le_refl _) (Nat.le_succ n) h,q⟩
   |ext i=>simp only[aK,aM]at h;obtain⟨rfl,rfl⟩:=h;exact q
   |ret=>simp only[aK,aM]at h;obtain⟨rfl,rfl⟩:=h;exact q
 rintro⟨n,ex,st',h,q⟩;cases ex with
 |nor=>obtain⟨m,ex2,st2,h2,q2⟩:=q;refine⟨max n m+1,ex2,st2,?_,q2⟩;simp only[aY]at h2 ⊢;rw[hQ];rw[mB (Nat.le_trans (Nat.le_max_left n m) (Nat.le_succ _)) h];exact yR (Nat.le_trans (Nat.le_max_right n m) (Nat.le_succ _)) (Nat.le_max_right n m) h2
 |ext i=>exact⟨n+1,_,_,by simp only[aY,hQ,mB (Nat.le_succ n) h],q⟩
 |ret=>exact⟨n+1,_,_,by simp only[aY,hQ,mB (Nat.le_succ n) h],q⟩
theorem F7{α : Type}(μ : α -> Nat)(E : α -> List AV->Hp->Prop){b:C}{clr:List Bool}{st:St}{Q:Ex->St->Prop}(a : α)(h0:E a (clear clr st.env) st.hp)
  (step:∀a env hp,E a env hp->WX pg kb b ⟨env,hp⟩ (iL (λst'=>∃a',μ a' < μ a/\E a' (clear clr st'.env) st'.hp) Q)) :
  WX pg kb (.loop b clr) st Q:=by
 have key:∀n a st,μ a<n->E a (clear clr st.env) st.hp->WX pg kb (.loop b clr) st Q:=by
  intro n
  induction n with
  |zero=>intro a st h;omega
  |succ n ih=>
   intro a st hn h;rw[EB];obtain⟨m,ex,st',h1,q⟩:=step a _ _ h;refine⟨m,ex,st',h1,?_⟩;cases ex with
   |nor=>obtain⟨a',h2,h3⟩:=q;exact ih a' st' (by omega) h3
   |ext i=>exact q
   |ret=>exact q
 exact key _ a st (Nat.lt_succ_self _) h0
theorem ZV(st:St)(A:St->Prop):WR pg kb [] st A=A st:=by apply propext;constructor;rintro⟨n,st',h,q⟩;simp only[kK,aK]at h;subst h;exact q;intro q;exact⟨0,_,rfl,q⟩
theorem A3{k:K}{s:Nat}{h:Hp}{vs:List AV}{x:AV×Eff}{n m:Nat}(hn:n<=m)(e:opR (aP pg n) kb ⟨none,k,[],none,0,s⟩ h vs=some x) :
  opR (aP pg m) kb ⟨none,k,[],none,0,s⟩ h vs=some x:=
 yK (bX pg hn) e
theorem ED(d:Option Nat)(k:K)(xs:List X)(bef s:Nat)(rs:List R)(st:St)(A:St->Prop) :
  WR pg kb (⟨d,k,xs,none,bef,s⟩::rs) st A=WO pg kb k s st.hp (xs.map (X.ev pg.gl st.env)) (λv eff=>WR pg kb rs ⟨cG st.env d v,eff.app st.hp⟩ A):=by
 apply propext;constructor;rintro⟨n,st',h,q⟩;simp only[kK,fT,wanted]at h;split at h;rename_i st1 e h1;split at h1;rename_i v eff h2;simp only[aK,aM]at h1;obtain⟨rfl,rfl⟩:=h1;exact⟨n,v,eff,h2,n,st',h,q⟩;cases h1;cases h;rintro⟨n,v,eff,h,m,st',h2,q⟩;refine⟨max n m,st',?_,q⟩;have e1:=A3 (Nat.le_max_left n m) h;have e2:=KD (Nat.le_max_right n m) h2;have e3:opR (aP pg (max n m)) kb ⟨d,k,xs,none,bef,s⟩ st.hp (xs.map (X.ev pg.gl st.env))=some (v,eff):=e1;simp only[kK,fT,wanted,e3];exact e2
def gdQ(v:AV)(b:Bool)(A B:Prop):Prop:=
 match v with
 |.bool c=>if c=b then A else B
 |.tup []=>B
 |_=>False
theorem JZ(d:Option Nat)(k:K)(xs:List X)(t:Nat)(b:Bool)(bef s:Nat)(rs:List R)(st:St)(A:St->Prop) :
  WR pg kb (⟨d,k,xs,some (t,b),bef,s⟩::rs) st A =
   gdQ (d9 st.env t) b (WO pg kb k s st.hp (xs.map (X.ev pg.gl st.env)) (λv eff=>WR pg kb rs ⟨cG st.env d v,eff.app st.hp⟩ A)) (WR pg kb rs ⟨cG st.env d (.tup []),st.hp⟩ A):=by
 rw[<-ED d k xs bef s];apply propext;have hb:∀c:Bool,(c==b)=decide (c=b):=λc=>by cases c<;>cases b<;>rfl
 simp only[WR,kK,fT,wanted];generalize d9 st.env t=v;cases v with
 |bool c=>simp only[gdQ,hb];by_cases hc:c=b;simp only[hc,decide_true,if_true];exact Iff.rfl;simp only[hc,decide_false,if_false]
 |tup l=>cases l<;>simp[gdQ]
 |_=>simp[gdQ]
theorem ZU(st:St)(A:St->List Eff->Prop):WT pg kb [] st A=A st []:=by apply propext;constructor;rintro⟨n,st',es,h,q⟩;simp only[fU,aK,aM]at h;obtain⟨rfl,rfl⟩:=h;exact q;intro q;exact⟨0,_,_,rfl,q⟩
theorem EC(d:Option Nat)(k:K)(xs:List X)(bef s:Nat)(rs:List R)(st:St)(A:St->List Eff->Prop) :
  WT pg kb (⟨d,k,xs,none,bef,s⟩::rs) st A=WO pg kb k s st.hp (xs.map (X.ev pg.gl st.env)) (λv eff=>WT pg kb rs ⟨cG st.env d v,eff.app st.hp⟩ (λst' es=>A st' (eff::es))):=by
 apply propext;constructor;rintro⟨n,st',es,h,q⟩;simp only[fU,fT,wanted]at h;split at h;rename_i st1 e h1;split at h1;rename_i v eff h2;simp only[aK,aM]at h1;obtain⟨rfl,rfl⟩:=h1;simp only[gC,aM]at h;obtain⟨⟨s1,l1⟩,h3,h4,h5⟩:=h;subst h4;subst h5;exact⟨n,v,eff,h2,n,s1,l1,h3,q⟩;cases h1;cases h;rintro⟨n,v,eff,h,m,st',es,h2,q⟩;refine⟨max n m,st',eff::es,?_,q⟩;have e1:=A3 (Nat.le_max_left n m) h;have e2:=mU (bX pg (Nat.le_max_right n m)) h2;have e3:opR (aP pg (max n m)) kb ⟨d,k,xs,none,bef,s⟩ st.hp (xs.map (X.ev pg.gl st.env))=some (v,eff):=e1;simp only[fU,fT,wanted,e3];rw[e2];rfl
theorem JY(d:Option Nat)(k:K)(xs:List X)(t:Nat)(b:Bool)(bef s:Nat)(rs:List R)(st:St)(A:St->List Eff->Prop) :
  WT pg kb (⟨d,k,xs,some (t,b),bef,s⟩::rs) st A =
   gdQ (d9 st.env t) b (WO pg kb k s st.hp (xs.map (X.ev pg.gl st.env)) (λv eff=>WT pg kb rs ⟨cG st.env d v,eff.app st.hp⟩ (λst' es=>A st' (eff::es))))
    (WT pg kb rs ⟨cG st.env d (.tup []),st.hp⟩ (λst' es=>A st' (.pat [] []::es))):=by
 rw[<-EC d k xs bef s];apply propext;have hb:∀c:Bool,(c==b)=decide (c=b):=λc=>by cases c<;>cases b<;>rfl
 have key:(∃n st' es,(fU pg.gl (aP pg n) kb rs ⟨cG st.env d (.tup []),st.hp⟩).map (fun(s,l)=>(s,Eff.pat [] []::l))=some (st',es)/\A st' es) ↔
   (∃n st' es,fU pg.gl (aP pg n) kb rs ⟨cG st.env d (.tup []),st.hp⟩=some (st',es)/\A st' (.pat [] []::es)):=by
  constructor;rintro⟨n,st',es,h,q⟩;simp only[gC,aM]at h;obtain⟨⟨s1,l1⟩,h3,h4,h5⟩:=h;subst h4;subst h5;exact⟨n,s1,l1,h3,q⟩;rintro⟨n,st',es,h,q⟩;exact⟨n,st',_,by rw[h];rfl,q⟩
 simp only[WT,fU,fT,wanted];generalize d9 st.env t=v;cases v with
 |bool c=>simp only[gdQ,hb];by_cases hc:c=b;simp only[hc,decide_true,if_true];exact Iff.rfl;simp only[hc,decide_false,if_false];exact key
 |tup l=>
  cases l with
  |nil=>simp only[gdQ];exact key
  |cons a r=>simp[gdQ]
 |_=>simp[gdQ]
def K.isCall:K->Bool
 |.call ..|.callv ..|.calle ..|.callr ..|.callvr|.inv .. => true
 |_=>false
theorem bS{k:K}(hk:k.isCall=false)(s:Nat)(h:Hp)(vs:List AV)(Q:AV->Eff->Prop):WO pg kb k s h vs Q=AZ (A4 h (kb+s) k vs) Q:=by
 have e:∀call:aN,opR call kb ⟨none,k,[],none,0,s⟩ h vs=A4 h (kb+s) k vs:=by intro call;cases k<;>first|rfl|simp[K.isCall]at hk
 apply propext;simp only[WO,e];cases A4 h (kb+s) k vs with
 |none=>simp[AZ]
 |some x=>obtain⟨v,eff⟩:=x;simp only[AZ];constructor;rintro⟨n,v',e',h1,q⟩;cases h1;exact q;intro q;exact⟨0,_,_,rfl,q⟩
theorem JE{f:Nat}{ts:List AV}{r:AV}{n m:Nat}(h:n<=m)(e:bB (aP pg n) f ts=some r):bB (aP pg m) f ts=some r:=
 dU (bX pg h) e
theorem O6{f s:Nat}{th:Bool}{h:Hp}{vs ts:List AV}{keys:List Nat}{r v:AV}{pa:List Ent}{Q:AV->Eff->Prop}(hr:Ret pg f ts r)
  (hm:bO (snap depth h) vs=some (ts,keys)) (hv:fE h (kb+s) th r=some (v,pa)) :
  WO pg kb (.call f th false) s h vs Q=Q v (.pat ((kb+s)::keys) ((if r.flat then [] else bE h keys)++pa)):=by
 obtain⟨n,e⟩:=hr;have key:∀m,n<=m->opR (aP pg m) kb ⟨none,.call f th false,[],none,0,s⟩ h vs=some (v,.pat ((kb+s)::keys) ((if r.flat then [] else bE h keys)++pa)):=by intro m hm';simp only[opR,iE,Bool.false_eq_true,if_false,hm,JE hm' e,hv]
 apply propext;constructor;rintro⟨m,v',e',h1,q⟩;have h2:=key _ (Nat.le_max_left n m);have h3:=A3 (Nat.le_max_right n m) h1;rw[h3]at h2;cases h2;exact q;intro q;exact⟨n,_,_,key n (Nat.le_refl _),q⟩
theorem J0{f s:Nat}{th im:Bool}{h h':Hp}{vs:List AV}{r:AV}{Q:AV->Eff->Prop}(hm:im=true\/bO (snap depth h) vs=none){B:Nat}(hB:gJ kb s vs=B)(hr:nE pg f vs B h r h')
   (hq:Q r (.whole h')):WO pg kb (.call f th im) s h vs Q:=by
 subst hB;obtain⟨n,e⟩:=hr;refine⟨n,r,.whole h',?_,hq⟩;have:(if im then none else bO (snap depth h) vs)=none:=by rcases hm with rfl|hm;rfl;simp[hm]
 simp only[opR,iE,this,e]
theorem nE.of{f:Nat}{cf:CF}{vs:List AV}{h:Hp}{r:AV}{h':Hp}(hf:pg.fs f=some cf)
  (hw:WX pg kb cf.body ⟨enter cf vs,h⟩ (λex st=>(match ex with|.ext _=>False|_=>True)/\result st cf.res=some r/\st.hp=h')):nE pg f vs kb h r h':=by
 obtain⟨n,ex,st,h1,h2,h3,h4⟩:=hw;refine⟨n+1,?_⟩;subst h4;simp only[aP,hf,h1];cases ex with
 |ext i=>exact h2.elim
 |nor=>simp[h3]
 |ret=>simp[h3]
def zA(res:List (Sum Nat (Nat×Nat×Bool)))(r:AV)(ex:Ex)(st:St):Prop:=
 match ex with
 |.ext _=>False
 |_=>∃v,result st res=some v/\conv st.hp v=some r
theorem IK(res:List (Sum Nat (Nat×Nat×Bool)))(r:AV)(st:St):zA res r .nor st=∃v,result st res=some v/\conv st.hp v=some r:=rfl
theorem IJ(res:List (Sum Nat (Nat×Nat×Bool)))(r:AV)(st:St):zA res r .ret st=∃v,result st res=some v/\conv st.hp v=some r:=rfl
theorem Ret.of{f:Nat}{cf:CF}{vs:List AV}{r:AV}(hf:pg.fs f=some cf)(hw:WX pg 0 cf.body ⟨enter cf vs,[]⟩ (zA cf.res r)):Ret pg f vs r:=by
 obtain⟨n,ex,st,h1,h2⟩:=hw;refine⟨n+1,?_⟩;cases ex with
 |ext i=>exact h2.elim
 |nor=>obtain⟨v,h3,h4⟩:=h2;simp only[bB,aP,hf,h1,h3,Option.map_some,h4]
 |ret=>obtain⟨v,h3,h4⟩:=h2;simp only[bB,aP,hf,h1,h3,Option.map_some,h4]
theorem YI{α : Type}{x : α}{P : α -> Prop}:(∃v,some x=some v/\P v)=P x:=by apply propext;constructor;rintro⟨v,h,p⟩;cases h;exact p;intro p;exact⟨x,rfl,p⟩
end
end Go.Tev
