import Derived.Test.YtlalckpnpidccaaGreatDoorDAH
set_option linter.all false
namespace Go.Tev
section
structure EF where
 nt:Nat
 dt:Bool
 l:List (Nat×AV)
def nX(nt:Nat)(dt:Bool)(t:Nat):List (Nat×AV)->AV
 |[]=>bif dt then (bif t.blt nt then .tup [] else .top) else .top
 |p::r=>bif p.1.beq t then p.2 else nX nt dt t r
def EF.get:EF->Nat->AV
 |⟨nt,dt,l⟩,t=>nX nt dt t l
def EF.set:EF->Option Nat->AV->EF
 |e,none,_=>e
 |⟨nt,dt,l⟩,some d,v=>bif d.blt nt then ⟨nt,dt,(d,v)::l⟩ else ⟨nt,dt,l⟩
theorem EF.get_eq(e:EF)(t:Nat):e.get t=nX e.nt e.dt t e.l:=rfl
theorem EF.set_some(e:EF)(d:Nat)(v:AV):e.set (some d) v=bif d.blt e.nt then ⟨e.nt,e.dt,(d,v)::e.l⟩ else e:=rfl
def m5(e:EF):Nat->List Bool->Option (List (Nat×AV))
 |i,[]=>bif e.nt.ble i then some [] else none
 |i,true::m=>(m5 e (i+1) m).map ((i,e.get i) :: ·)
 |i,false::m=>m5 e (i+1) m
def EF.clear(e:EF)(m:List Bool):Option EF:=(m5 e 0 m).map λl=>⟨e.nt,false,l⟩
def u0:Nat->List AV->List (Nat×AV)
 |_,[]=>[]
 |i,v::r=>(i,v)::u0 (i+1) r
def wD(cf:CF)(args:List AV):EF:=⟨args.length+(cf.nt-args.length),true,u0 0 args⟩
def lE(e:EF)(env:List AV):Prop:=env.length=e.nt/\∀t,cO env t=e.get t
theorem lE.set{e:EF}{env:List AV}(h:lE e env)(d:Option Nat)(v:AV):lE (e.set d v) (d6 env d v):=by
 cases d with
 |none=>exact h
 |some d=>refine⟨?_,?_⟩;rw[kI,h.1];simp only[EF.set_some,cond_eq_ite];split<;>rfl;intro t;rw[nW];simp only[EF.set_some,cond_eq_ite,Nat.blt_eq];by_cases hd:d<e.nt;rw[if_pos hd];simp only[EF.get_eq,nX,cond_eq_ite,Nat.beq_eq];by_cases ht:d=t;subst ht;rw[if_pos ⟨rfl,by rw[h.1];exact hd⟩,if_pos rfl];rw[if_neg (by rintro⟨q,_⟩;exact ht (by simpa using q)),if_neg ht];exact h.2 t;rw[if_neg hd,if_neg (by rintro⟨q,q2⟩;simp at q;subst q;rw[h.1]at q2;exact hd q2)];exact h.2 t
theorem nS{e:EF}{nt:Nat}:∀{m:List Bool}{i:Nat}{l:List (Nat×AV)},m5 e i m=some l ->
  e.nt<=i+m.length/\∀t,nX nt false t l=if i<=t/\m[t-i]?=some true then e.get t else .top
 |[],i,l,h=>by simp only[m5,cond_eq_ite]at h;split at h;rename_i q;cases h;refine⟨by simpa using q,λt=>?_⟩;simp[nX];cases h
 |true::m,i,l,h=>by
  simp only[m5]at h;cases hk:m5 e (i+1) m with
  |none=>simp[hk]at h
  |some l'=>
   simp[hk]at h;subst h;obtain⟨h1,h2⟩:=nS (nt:=nt) hk;refine⟨by simp;omega,λt=>?_⟩;simp only[nX,cond_eq_ite,Nat.beq_eq];by_cases ht:i=t;subst ht;simp;rw[if_neg ht,h2];by_cases hle:i+1<=t;have:t-i=(t-(i+1))+1:=by omega
   simp[hle,this,show i<=t by omega];rw[if_neg (by omega),if_neg (by omega)]
 |false::m,i,l,h=>by
  simp only[m5]at h;obtain⟨h1,h2⟩:=nS (nt:=nt) h;refine⟨by simp;omega,λt=>?_⟩;rw[h2];by_cases hle:i+1<=t;have:t-i=(t-(i+1))+1:=by omega
  simp[hle,this,show i<=t by omega];by_cases ht:i=t;subst ht;simp;intro q;omega;rw[if_neg (by omega),if_neg (by omega)]
theorem l6:∀(m:List Bool)(env:List AV)(t:Nat),env.length<=m.length->cO (clear m env) t=if m[t]?=some true then cO env t else .top
 |[],env,t,h=>by have:env=[]:=eD (by simpa using h);subst this;simp[clear,cO]
 |b::m,[],t,h=>by cases b<;>simp[clear,cO]
 |true::m,v::r,0,h=>by simp[clear,cO]
 |false::m,v::r,0,h=>by simp[clear,cO]
 |true::m,v::r,t+1,h=>by have:=l6 m r t (by simpa using h);simpa[clear,cO] using this
 |false::m,v::r,t+1,h=>by have:=l6 m r t (by simpa using h);simpa[clear,cO] using this
theorem lE.clear{e e':EF}{env:List AV}(h:lE e env){m:List Bool}(hc:e.clear m=some e'):lE e' (Tev.clear m env):=by
 unfold EF.clear at hc;cases hk:m5 e 0 m with
 |none=>simp[hk]at hc
 |some l=>simp[hk]at hc;subst hc;obtain⟨h1,h2⟩:=nS (nt:=e.nt) hk;refine⟨by rw[dS];exact h.1,λt=>?_⟩;rw[l6 m env t (by rw[h.1];omega)];simp only[EF.get];rw[h2,h.2 t];simp
theorem oD{nt:Nat}{dt:Bool}:∀{args:List AV}{i t:Nat},nX nt dt t (u0 i args)=if h:i<=t/\t-i<args.length then args[t-i]'h.2 else nX nt dt t []
 |[],i,t=>by simp[u0]
 |v::r,i,t=>by
  simp only[u0,nX,cond_eq_ite,Nat.beq_eq];by_cases ht:i=t;subst ht;simp;rw[if_neg ht,oD];by_cases hle:i+1<=t;have e1:t-i=(t-(i+1))+1:=by omega
  by_cases hl:t-(i+1)<r.length;rw[dif_pos ⟨hle,hl⟩,dif_pos ⟨by omega,by simp;omega⟩];simp[e1];rw[dif_neg (by omega),dif_neg (by simp;omega)];simp[nX,cond_eq_ite];rw[dif_neg (by omega),dif_neg (by omega)];simp[nX,cond_eq_ite]
theorem lE.enter(cf:CF)(args:List AV):lE (wD cf args) (Tev.enter cf args):=by
 refine⟨by simp[Tev.enter,wD],λt=>?_⟩;simp only[EF.get_eq,wD,oD,Tev.enter,cO];by_cases h:t<args.length;rw[dif_pos ⟨Nat.zero_le _,by simpa using h⟩];simp[List.getElem?_append_left h,h];rw[dif_neg (by simpa using h),pU (by omega)];simp only[nX,cond_true,cond_eq_ite,Nat.blt_eq,List.getElem?_replicate];by_cases h2:t<args.length+(cf.nt-args.length)
 rw[if_pos (by omega),if_pos h2];rfl;rw[if_neg (by omega),if_neg h2];rfl
def X.evE(gl:Nat->Option AV)(e:EF):X->AV
 |.t n=>e.get n
 |.c v=>v
 |.g n=>match gl n with|some v => .fp v|none => .top
 |.f n => .fn n []
structure StE where
 env:EF
 hp:Hp
def u5(e:EF):Option (Nat×Bool)->Option Bool
 |none=>some true
 |some (t,b)=>
  match e.get t with
  |.bool c=>some (c==b)
  |.tup []=>some false
  |_=>none
def CN(gl:Nat->Option AV)(call:aM)(kb:Nat)(r:R)(st:StE):Option (StE×Eff):=
 match u5 st.env r.gd with
 |none=>none
 |some false=>some (⟨st.env.set r.d (.tup []),st.hp⟩,.pat [] [])
 |some true=>
  match opR call kb r st.hp (r.xs.map (X.evE gl st.env)) with
  |some (v,eff)=>some (⟨st.env.set r.d v,eff.app st.hp⟩,eff)
  |none=>none
def s6(gl:Nat->Option AV)(call:aM)(kb:Nat):List R->StE->Option StE
 |[],st=>some st
 |r::rs,st=>
  match CN gl call kb r st with
  |some (st',_)=>s6 gl call kb rs st'
  |none=>none
def nO(gl:Nat->Option AV)(call:aM)(kb:Nat):List R->StE->Option (StE×List Eff)
 |[],st=>some (st,[])
 |r::rs,st=>
  match CN gl call kb r st with
  |some (st',e)=>(nO gl call kb rs st').map fun(s,l)=>(s,e::l)
  |none=>none
def y8(f:StE->Option (Ex×StE))(clr:List Bool):Nat->StE->Option (Ex×StE)
 |0,_=>none
 |n+1,st=>
  match st.env.clear clr with
  |none=>none
  |some e=>
   match f ⟨e,st.hp⟩ with
   |some (.nor,st')=>y8 f clr n st'
   |r=>r
def EF.list(e:EF):List AV:=(List.range e.nt).map e.get
def EF.of(env:List AV):EF:=⟨env.length,false,u0 0 env⟩
theorem lE.list{e:EF}{env:List AV}(h:lE e env):e.list=env:=by apply List.ext_getElem;simp[EF.list,h.1];intro i h1 h2;have:=h.2 i;simp only[cO,aY h2,Option.getD_some]at this;simp[EF.list,this]
theorem lE.of(env:List AV):lE (EF.of env) env:=by refine⟨rfl,λt=>?_⟩;simp only[EF.get,EF.of,oD,cO];by_cases h:t<env.length;rw[dif_pos ⟨Nat.zero_le _,by simpa using h⟩];simp[h];rw[dif_neg (by simpa using h),bR (by omega)];rfl
def IA(env:EF)(k e:Nat)(h:Hp):Option (Ex×StE):=
 match C6 [] k e h with
 |some (x,st)=>some (x,⟨env,st.hp⟩)
 |none=>none
def FT(e:EF)(nx more:Nat)(v:AV)(b:Bool):EF:=(e.set (some nx) v).set (some more) (.bool b)
def U8(x y:Ex×StE):Bool:=decide (x.1=y.1)&&j1 x.2.env.list y.2.env.list&&wC x.2.hp y.2.hp
def mrE(f:StE->Option (Ex×StE))(fin:Ex×StE->Option (Ex×StE))(it nx more out:Nat)(clr:List Bool):Nat->StE->Option (Ex×StE)
 |0,_=>none
 |n+1,st=>
  if nx<st.env.nt/\more<st.env.nt then
  match st.env.clear clr with
  |none=>none
  |some env=>
  match env.get it with
  |.pt k e 0=>
   match oP st.hp k e with
   |some (l,o)=>
    if l.isEmpty then (killI st.hp k e).bind λh=>fin (.ext out,⟨FT env nx more (.tup [.bool false]) false,h⟩)
    else eF U8 (λb=>
     match f ⟨FT env nx more (.tup [.bool true,.top,.top]) true,st.hp.put k e (o b)⟩ with
     |some (.nor,st')=>mrE f fin it nx more out clr n st'
     |some (x,st')=>(killI st'.hp k e).bind λh=>fin (x,⟨st'.env,h⟩)
     |none=>none) l
   |none=>none
  |_=>none
  else none
def GM(kb:Nat)(msk:List Bool)(drop:List Nat)(q:Ex×StE):Option (Ex×StE):=(q.2.env.clear msk).map λenv=>(q.1,⟨env,zP kb drop q.2.hp⟩)
def c8(gl:Nat->Option AV)(call:aM)(kb n:Nat):C->StE->Option (Ex×StE)
 |.skip,st=>some (.nor,st)
 |.reg rs false,st=>(s6 gl call kb rs st).map λs=>(.nor,s)
 |.reg rs true,st=>
  match nO gl call kb rs st with
  |some (s,es)=>if eL 0 rs es then some (.nor,s) else none
  |none=>none
 |.seq a b,st=>
  match c8 gl call kb n a st with
  |some (.nor,st')=>c8 gl call kb n b st'
  |r=>r
 |.cond c a b,st=>
  match c.evE gl st.env with
  |.bool true=>c8 gl call kb n a st
  |.bool false=>c8 gl call kb n b st
  |_=>none
 |.block id b,st=>
  match c8 gl call kb n b st with
  |some (.ext i,st')=>bif i.beq id then some (.nor,st') else some (.ext i,st')
  |r=>r
 |.loop b clr,st=>y8 (c8 gl call kb n b) clr n st
 |.exit id,st=>some (.ext id,st)
 |.ret,st=>some (.ret,st)
 |.rf x s ps a b,st=>
  match x.evE gl st.env with
  |.fn f cs=>
   match call f (.yl (kb+s) (st.hp.next (kb+s))::cs) ((kb+s+1)*65536) (st.hp.put (kb+s) (st.hp.next (kb+s)) (.lp 0 kb st.env.list ps a b)) with
   |some (_,h')=>IA st.env (kb+s) (st.hp.next (kb+s)) h'
   |none=>none
  |_=>none
 |.mr it nx more out b clr,st=>mrE (c8 gl call kb n b) some it nx more out clr n st
 |.mq p id it nx more out b clr rest msk drop,st=>
  match c8 gl call kb n p st with
  |some (.nor,st1)=>mrE (c8 gl call kb n b) (λo=>(match gG id o.1 with|.nor=>c8 gl call kb n rest o.2|x=>some (x,o.2)).bind (GM kb msk drop)) it nx more out clr n st1
  |r=>r
 |.bad,_=>none
def vN(st:StE):Sum Nat (Nat×Nat×Bool)->Option AV
 |.inl t=>some (st.env.get t)
 |.inr (t,sz,ag)=>
  match st.env.get t with
  |.pt k e off=>match st.hp.get k with
   |some (e',.blk cs _ _ _ _)=>if e'=e then dK cs off sz ag else none
   |_=>none
  |_=>none
def pG(st:StE):List (Sum Nat (Nat×Nat×Bool))->Option (List AV)
 |[]=>some []
 |x::r=>
  match vN st x,pG st r with
  |some v,some l=>some (v::l)
  |_,_=>none
def vM(st:StE)(rs:List (Sum Nat (Nat×Nat×Bool))):Option AV:=
 match pG st rs with
 |some [v]=>some v
 |some l=>some (.tup l)
 |none=>none
def vW(memo:Nat->List AV->Option AV)(f:Nat)(args:List AV):Nat->Hp->Option AV
 |0,[]=>memo f args
 |_,_=>none
def lQ(r:AV):AV×Hp:=
 match r with
 |.os es esz ag=>match bG esz ag es with
  |some cs=>(.rf 1 0 0 es.length es.length,[⟨1,0,.blk cs esz ag false false⟩])
  |none=>(r,[])
 |r=>(r,[])
def kF(r:AV):Bool:=match conv (lQ r).2 (lQ r).1 with|some q=>eqA q r|none=>false
def FV(ex:C->Nat->StE->Option (Ex×StE))(c:C)(b:Nat)(st:St):Option (Ex×St):=
 match ex c b ⟨EF.of st.env,st.hp⟩ with
 |some (x,s)=>some (x,⟨s.env.list,s.hp⟩)
 |none=>none
def cC(pg:Pg)(memo:Nat->List AV->Option AV):Nat->aM
 |0=>⟨λ_ _ _ _=>none,λ_ _ _ _=>none⟩
 |n+1=>⟨λf args kb h=>
  match vW memo f args kb h with
  |some r=>some (lQ r)
  |none=>
   match pg.fs f with
   |none=>
    match pg.ex f with
    |some g=>g args kb h
    |none=>none
   |some cf=>
    match c8 pg.gl (cC pg memo n) kb n cf.body ⟨wD cf args,h⟩ with
    |some (.ext _,_)=>none
    |some (_,st)=>(vM st cf.res).map λv=>(v,st.hp)
    |none=>none,
  lU (FV λc b st=>c8 pg.gl (cC pg memo n) b n c st)⟩
structure StR(s:StE)(t:St):Prop where
 env:lE s.env t.env
 hp:s.hp=t.hp
end
section
structure gF(c c':aM):Prop where
 fn:∀f a kb h r,c f a kb h=some r->c' f a kb h=some r
 yl:∀k e a h r,c.yl k e a h=some r->c'.yl k e a h=some r
theorem gF.refl(c:aM):gF c c:=⟨λ_ _ _ _ _ h=>h,λ_ _ _ _ _ h=>h⟩
theorem oK{ex ex':C->Nat->St->Option (Ex×St)}(hx:∀c b st r,ex c b st=some r->ex' c b st=some r){k e:Nat}{a:List AV}{h:Hp}{r:AV×Hp}(h1:lU ex k e a h=some r):lU ex' k e a h=some r:=by
 unfold lU at h1 ⊢;split at h1
 case h_2=>cases h1
 split at h1
 case isFalse=>cases h1
 rename_i hc;rw[if_pos hc];split at h1
 case h_2=>cases h1
 rename_i he1;rw[hx _ _ _ _ he1];simp only;split at h1
 case h_2=>cases h1
 split at h1
 case isFalse=>cases h1
 rename_i hc2;rw[if_pos hc2];split at h1
 case h_2=>cases h1
 rename_i he2;rw[hx _ _ _ _ he2];exact h1
theorem dU{c c':aM}(hc:gF c c'){f:Nat}{ts:List AV}{r:AV}(h:bA c f ts=some r):bA c' f ts=some r:=by
 unfold bA at h ⊢;cases hq:c f ts 0 [] with
 |none=>simp[hq]at h
 |some p=>rw[hq]at h;rw[hc.fn _ _ _ _ _ hq];exact h
theorem jV{c c':aM}(hc:gF c c'){kb s:Nat}{h:Hp}{f:Nat}{th im:Bool}{vs:List AV}{r:AV×Eff}(h1:gM c kb s h f th im vs=some r):gM c' kb s h f th im vs=some r:=by
 unfold gM at h1 ⊢;cases hm:(if im then none else b7 (snap depth h) vs) with
 |some p=>
  rw[hm]at h1;simp only at h1 ⊢;cases hp:bA c f p.1 with
  |none=>simp[hp]at h1
  |some q=>rw[hp]at h1;rw[dU hc hp];exact h1
 |none=>
  rw[hm]at h1;simp only at h1 ⊢;cases hp:c f vs (kP kb s vs) h with
  |none=>simp[hp]at h1
  |some q=>rw[hp]at h1;rw[hc.fn _ _ _ _ _ hp];exact h1
theorem sO{c c':aM}(hc:gF c c'){h:Hp}{f:Nat}{vs:List AV}:∀{n b:Nat}{x:AV×List Nat×List Ent},iH c h f vs n b=some x->iH c' h f vs n b=some x
 |0,_,_,h1=>by simp[iH]at h1
 |n+1,b,x,h1=>by
  unfold iH at h1 ⊢;cases hp:c f vs b [] with
  |none=>simp[hp]at h1
  |some q=>
   rw[hp]at h1;rw[hc.fn _ _ _ _ _ hp];simp only at h1 ⊢;split;rename_i hh;rw[if_pos hh]at h1;exact h1;rename_i hh;rw[if_neg hh]at h1;cases ht:iH c h f vs n (b+4096) with
   |none=>simp[ht]at h1
   |some y=>rw[ht]at h1;rw[sO hc ht];exact h1
theorem AD{c c':aM}(hc:gF c c'){kb s:Nat}{h:Hp}{f:Nat}{vs:List AV}{r:AV×Eff}(h1:gC c kb s h f vs=some r):gC c' kb s h f vs=some r:=by
 unfold gC at h1 ⊢;split;rename_i ht;rw[if_pos ht]at h1;cases hq:iH c h f vs 7 ((kb+s+1)*65536) with
 |none=>simp[hq]at h1
 |some y=>rw[hq]at h1;rw[sO hc hq];exact h1
 rename_i ht;rw[if_neg ht]at h1;cases h1
theorem o7{c c':aM}(hc:gF c c'){kb s:Nat}{h:Hp}{f:Nat}{vs:List AV}{r:AV×Eff}(h1:gQ c kb s h f vs=some r):gQ c' kb s h f vs=some r:=by
 unfold gQ at h1 ⊢;cases hq:c f vs (kP kb s vs) h with
 |none=>simp[hq]at h1
 |some y=>rw[hq]at h1;rw[hc.fn _ _ _ _ _ hq];exact h1
theorem yR{c c':aM}(hc:gF c c'){kb:Nat}{r:R}{h:Hp}{vs:List AV}{x:AV×Eff}(h1:opR c kb r h vs=some x):opR c' kb r h vs=some x:=by unfold opR at h1 ⊢;split at h1;exact jV hc h1;exact AD hc h1;exact o7 hc h1;split at h1;exact o7 hc h1;cases h1;split at h1;exact jV hc h1;split at h1;rename_i hy;rw[hc.yl _ _ _ _ _ hy];exact h1;cases h1;exact jV hc h1;cases h1;split at h1;split at h1;exact jV hc h1;cases h1;cases h1;exact h1
structure sB(c c':aM):Prop where
 off:∀f a kb h r,kb≠0->c f a kb h=some r->c' f a kb h=some r
 at0:∀f a r,bA c f a=some r->bA c' f a=some r
 yl:∀k e a h r,c.yl k e a h=some r->c'.yl k e a h=some r
theorem uZ(kb s:Nat)(vs:List AV):kP kb s vs≠0:=by unfold kP;split<;>omega
theorem iU{c c':aM}(hc:sB c c'){kb s:Nat}{h:Hp}{f:Nat}{th im:Bool}{vs:List AV}{r:AV×Eff}(h1:gM c kb s h f th im vs=some r):gM c' kb s h f th im vs=some r:=by
 unfold gM at h1 ⊢;cases hm:(if im then none else b7 (snap depth h) vs) with
 |some p=>
  rw[hm]at h1;simp only at h1 ⊢;cases hp:bA c f p.1 with
  |none=>simp[hp]at h1
  |some q=>rw[hp]at h1;rw[hc.at0 _ _ _ hp];exact h1
 |none=>
  rw[hm]at h1;simp only at h1 ⊢;cases hp:c f vs (kP kb s vs) h with
  |none=>simp[hp]at h1
  |some q=>rw[hp]at h1;rw[hc.off _ _ _ _ _ (uZ kb s vs) hp];exact h1
theorem pY{c c':aM}(hc:sB c c'){h:Hp}{f:Nat}{vs:List AV}:∀{n b:Nat}{x:AV×List Nat×List Ent},b≠0->iH c h f vs n b=some x->iH c' h f vs n b=some x
 |0,_,_,_,h1=>by simp[iH]at h1
 |n+1,b,x,hb,h1=>by
  unfold iH at h1 ⊢;cases hp:c f vs b [] with
  |none=>simp[hp]at h1
  |some q=>
   rw[hp]at h1;rw[hc.off _ _ _ _ _ hb hp];simp only at h1 ⊢;split;rename_i hh;rw[if_pos hh]at h1;exact h1;rename_i hh;rw[if_neg hh]at h1;cases ht:iH c h f vs n (b+4096) with
   |none=>simp[ht]at h1
   |some y=>rw[ht]at h1;rw[pY hc (by omega) ht];exact h1
theorem xX{c c':aM}(hc:sB c c'){kb s:Nat}{h:Hp}{f:Nat}{vs:List AV}{r:AV×Eff}(h1:gC c kb s h f vs=some r):gC c' kb s h f vs=some r:=by
 unfold gC at h1 ⊢;split;rename_i ht;rw[if_pos ht]at h1;cases hq:iH c h f vs 7 ((kb+s+1)*65536) with
 |none=>simp[hq]at h1
 |some y=>rw[hq]at h1;rw[pY hc (by omega) hq];exact h1
 rename_i ht;rw[if_neg ht]at h1;cases h1
theorem nD{c c':aM}(hc:sB c c'){kb s:Nat}{h:Hp}{f:Nat}{vs:List AV}{r:AV×Eff}(h1:gQ c kb s h f vs=some r):gQ c' kb s h f vs=some r:=by
 unfold gQ at h1 ⊢;cases hq:c f vs (kP kb s vs) h with
 |none=>simp[hq]at h1
 |some y=>rw[hq]at h1;rw[hc.off _ _ _ _ _ (uZ kb s vs) hq];exact h1
theorem EB{c c':aM}(hc:sB c c'){kb:Nat}{r:R}{h:Hp}{vs:List AV}{x:AV×Eff}(h1:opR c kb r h vs=some x):opR c' kb r h vs=some x:=by unfold opR at h1 ⊢;split at h1;exact iU hc h1;exact xX hc h1;exact nD hc h1;split at h1;exact nD hc h1;cases h1;split at h1;exact iU hc h1;split at h1;rename_i hy;rw[hc.yl _ _ _ _ _ hy];exact h1;cases h1;exact iU hc h1;cases h1;split at h1;split at h1;exact iU hc h1;cases h1;cases h1;exact h1
theorem qA{gl:Nat->Option AV}{c c':aM}(hc:gF c c'){kb:Nat}{r:R}{st:St}{x:St×Eff}(h1:eU gl c kb r st=some x):eU gl c' kb r st=some x:=by
 unfold eU at h1 ⊢;generalize wanted st.env r.gd=wg at h1 ⊢;rcases wg with _|_|_;exact h1;exact h1;simp only at h1 ⊢;cases ho:opR c kb r st.hp (r.xs.map (X.ev gl st.env)) with
 |none=>simp[ho]at h1
 |some p=>rw[ho]at h1;rw[yR hc ho];exact h1
theorem nN{gl:Nat->Option AV}{c c':aM}(hc:gF c c'){kb:Nat}:∀{rs:List R}{st st':St},jP gl c kb rs st=some st'->jP gl c' kb rs st=some st'
 |[],_,_,h=>h
 |r::rs,st,st',h=>by
  unfold jP at h ⊢;cases hs:eU gl c kb r st with
  |none=>simp[hs]at h
  |some p=>rw[hs]at h;rw[qA hc hs];exact nN hc h
theorem lV{gl:Nat->Option AV}{c c':aM}(hc:gF c c'){kb:Nat}:∀{rs:List R}{st:St}{x:St×List Eff},eV gl c kb rs st=some x->eV gl c' kb rs st=some x
 |[],_,_,h=>h
 |r::rs,st,x,h=>by
  unfold eV at h ⊢;cases hs:eU gl c kb r st with
  |none=>simp[hs]at h
  |some p=>
   rw[hs]at h;rw[qA hc hs];simp only at h ⊢;cases hr:eV gl c kb rs p.1 with
   |none=>simp[hr]at h
   |some q=>rw[hr]at h;rw[lV hc hr];exact h
theorem lZ{f f':St->Option (Ex×St)}(hf:∀st x,f st=some x->f' st=some x){clr:List Bool}:∀{n n':Nat}{st:St}{x:Ex×St},n<=n'->fP f clr n st=some x->fP f' clr n' st=some x
 |0,_,_,_,_,h=>by simp[fP]at h
 |n+1,0,_,_,hn,_=>by omega
 |n+1,n'+1,st,x,hn,h=>by
  simp only[fP]at h ⊢;cases hs:f ⟨clear clr st.env,st.hp⟩ with
  |none=>simp[hs]at h
  |some p=>
   rw[hs]at h;rw[hf _ _ hs];obtain⟨e,s⟩:=p;cases e with
   |nor=>exact lZ hf (by omega) h
   |ext id=>exact h
   |ret=>exact h
theorem pB{α : Type}{eq : α -> α -> Bool}{f g:Nat->Option α}(hf:∀b r,f b=some r->g b=some r):∀{l:List Nat}{r : α},eF eq f l=some r->eF eq g l=some r
 |[],_,h=>by simp[eF]at h
 |[b],_,h=>hf _ _ h
 |b::b2::l,r,h=>by
  simp only[eF]at h ⊢;split at h
  case h_2=>cases h
  rename_i r1 s1 h1 h2;rw[hf _ _ h1,pB hf h2];exact h
theorem hZ{f f':St->Option (Ex×St)}{fin fin':Ex×St->Option (Ex×St)}(hf:∀st x,f st=some x->f' st=some x)(hg:∀o x,fin o=some x->fin' o=some x){it nx more out:Nat}{clr:List Bool}:∀{n n':Nat}{st:St}{x:Ex×St},n<=n'->mrN f fin it nx more out clr n st=some x->mrN f' fin' it nx more out clr n' st=some x
 |0,_,_,_,_,h=>by simp[mrN]at h
 |n+1,0,_,_,hn,_=>by omega
 |n+1,n'+1,st,x,hn,h=>by
  simp only[mrN]at h ⊢;split at h
  case isFalse=>cases h
  rename_i hl;rw[if_pos hl];split at h
  case h_2=>cases h
  rename_i k e hit;split at h
  case h_2=>cases h
  rename_i l o hx;split at h
  ·rename_i hle
   try rw[if_pos hle]
   cases hk:killI st.hp k e with
   |none=>simp[hk]at h
   |some h2=>simp only[hk,Option.bind_some]at h ⊢;exact hg _ _ h
  ·rename_i hle
   try rw[if_neg hle]
   refine pB (λb r hr=>?_) h;split at hr;rename_i s1 h1;rw[hf _ _ h1];exact hZ hf hg (by omega) hr;rename_i x1 s1 hne h1;rw[hf _ _ h1];cases x1 with
   |nor=>exact(hne rfl).elim
   |ext id=>
    cases hk:killI s1.hp k e with
    |none=>simp[hk]at hr
    |some h2=>simp only[hk,Option.bind_some]at hr ⊢;exact hg _ _ hr
   |ret=>
    cases hk:killI s1.hp k e with
    |none=>simp[hk]at hr
    |some h2=>simp only[hk,Option.bind_some]at hr ⊢;exact hg _ _ hr
   cases hr
theorem nY{gl:Nat->Option AV}{c c':aM}(hc:gF c c'){kb n n':Nat}(hn:n<=n'):∀{k:C}{st:St}{x:Ex×St},aX gl c kb n k st=some x->aX gl c' kb n' k st=some x:=by
 intro k
 induction k with
 |skip=>intro st x h;exact h
 |reg rs d=>
  intro st x h;cases d with
  |false=>
   simp only[aX]at h ⊢;cases hr:jP gl c kb rs st with
   |none=>simp[hr]at h
   |some s=>rw[hr]at h;rw[nN hc hr];exact h
  |true=>
   simp only[aX]at h ⊢;cases hr:eV gl c kb rs st with
   |none=>simp[hr]at h
   |some s=>rw[hr]at h;rw[lV hc hr];exact h
 |seq a b iha ihb=>
  intro st x h;simp only[aX]at h ⊢;cases ha:aX gl c kb n a st with
  |none=>simp[ha]at h
  |some p=>
   rw[ha]at h;rw[iha ha];obtain⟨e,s⟩:=p;cases e with
   |nor=>exact ihb h
   |ext id=>exact h
   |ret=>exact h
 |cond x a b iha ihb=>intro st y h;simp only[aX]at h ⊢;split at h;exact iha h;exact ihb h;cases h
 |block id b ih=>
  intro st x h;simp only[aX]at h ⊢;cases hb:aX gl c kb n b st with
  |none=>simp[hb]at h
  |some p=>rw[hb]at h;rw[ih hb];exact h
 |loop b m ih=>intro st x h;simp only[aX]at h ⊢;exact lZ (λst x q=>ih q) hn h
 |exit id=>intro st x h;exact h
 |ret=>intro st x h;exact h
 |rf x s ps a b=>
  intro st y h;simp only[aX]at h ⊢;split at h
  case h_2=>cases h
  rename_i f cs hf;split at h
  case h_2=>cases h
  rename_i rr h' hcall;rw[hc.fn _ _ _ _ _ hcall];exact h
 |bad=>intro st x h;simp[aX]at h
 |mr it nx more out b clr ih=>intro st x h;simp only[aX]at h ⊢;exact hZ (λst x q=>ih q) (λ_ _ q=>q) hn h
 |mq p id it nx more out b clr c2 msk drop ihp ih ih2=>
  intro st x h;simp only[aX]at h ⊢;split at h;rename_i st1 h1;rw[ihp h1];refine hZ (λst x q=>ih q) (λo x q=>?_) hn h;simp only[fX]at q ⊢;obtain⟨y,q1,q2⟩:=q;refine⟨y,?_,q2⟩;split at q1;exact ih2 q1;exact q1;rename_i hne;rw[ihp h];obtain⟨x,s⟩:=x;cases x with
  |nor=>exact absurd h (hne _)
  |ext id=>rfl
  |ret=>rfl
theorem b8(pg:Pg):∀{n n':Nat},n<=n'->gF (aO pg n) (aO pg n')
 |0,_,_=>⟨by intro f a kb h r hq;simp[aO]at hq,by intro k e a h r hq;simp[aO]at hq⟩
 |n+1,0,h=>by omega
 |n+1,n'+1,hn=>by
  refine⟨?_,λk e a h r hq=>by
   simp only[aO]at hq ⊢;exact oK (λc b st r hr=>nY (b8 pg (Nat.le_of_succ_le_succ hn)) (Nat.le_of_succ_le_succ hn) hr) hq⟩
  intro f a kb h r hq;simp only[aO]at hq ⊢;cases hf:pg.fs f with
  |none=>rw[hf]at hq;exact hq
  |some cf=>
   rw[hf]at hq;simp only at hq ⊢;cases he:aX pg.gl (aO pg n) kb n cf.body ⟨enter cf a,h⟩ with
   |none=>simp[he]at hq
   |some p=>rw[he]at hq;rw[nY (b8 pg (Nat.le_of_succ_le_succ hn)) (Nat.le_of_succ_le_succ hn) he];exact hq
theorem BQ{gl:Nat->Option AV}{s:StE}{t:St}(h:StR s t)(x:X):x.evE gl s.env=x.ev gl t.env:=by
 cases x with
 |t n=>simp only[X.evE,X.ev];exact(h.env.2 n).symm
 |_=>rfl
theorem sR{gl:Nat->Option AV}{c c':aM}(hc:sB c c'){kb:Nat}{r:R}{s s':StE}{t:St}{e:Eff}(hst:StR s t)(h:CN gl c kb r s=some (s',e)) :
  ∃t',eU gl c' kb r t=some (t',e)/\StR s' t':=by
 have hw:u5 s.env r.gd=wanted t.env r.gd:=by
  unfold u5 wanted;cases r.gd with
  |none=>rfl
  |some p=>simp only[hst.env.2];rfl
 have hx:r.xs.map (X.evE gl s.env)=r.xs.map (X.ev gl t.env):=List.map_congr_left (λx _=>BQ hst x);unfold CN at h;unfold eU;rw[hw,hx]at h;generalize wanted t.env r.gd=wg at h ⊢;rcases wg with _|_|_;cases h;simp only at h ⊢;cases h;exact⟨_,rfl,⟨hst.env.set _ _,hst.hp⟩⟩;simp only at h ⊢;rw[hst.hp]at h;cases ho:opR c kb r t.hp (r.xs.map (X.ev gl t.env)) with
 |none=>simp[ho]at h
 |some p=>rw[ho]at h;rw[EB hc ho];simp only at h ⊢;cases h;exact⟨_,rfl,⟨hst.env.set _ _,rfl⟩⟩
theorem sZ{gl:Nat->Option AV}{c c':aM}(hc:sB c c'){kb:Nat}:∀{rs:List R}{s s':StE}{t:St},StR s t->s6 gl c kb rs s=some s'->∃t',jP gl c' kb rs t=some t'/\StR s' t'
 |[],s,s',t,hst,h=>by simp[s6]at h;subst h;exact⟨t,rfl,hst⟩
 |r::rs,s,s',t,hst,h=>by
  unfold s6 at h;unfold jP;split at h
  case h_2=>cases h
  rename_i s1 e hs;obtain⟨t1,q1,q2⟩:=sR hc hst hs;rw[q1];exact sZ hc q2 h
theorem qL{gl:Nat->Option AV}{c c':aM}(hc:sB c c'){kb:Nat}:∀{rs:List R}{s s':StE}{t:St}{es:List Eff},StR s t->nO gl c kb rs s=some (s',es)->∃t',eV gl c' kb rs t=some (t',es)/\StR s' t'
 |[],s,s',t,es,hst,h=>by simp[nO]at h;obtain⟨rfl,rfl⟩:=h;exact⟨t,rfl,hst⟩
 |r::rs,s,s',t,es,hst,h=>by
  unfold nO at h;unfold eV;split at h
  case h_2=>cases h
  rename_i s1 e hs;obtain⟨t1,q1,q2⟩:=sR hc hst hs;cases hr:nO gl c kb rs s1 with
  |none=>simp[hr]at h
  |some p=>obtain⟨s2,es2⟩:=p;simp[hr]at h;obtain⟨rfl,rfl⟩:=h;obtain⟨t2,q3,q4⟩:=qL hc q2 hr;exact⟨t2,by rw[q1];simp only;rw[q3];rfl,q4⟩
theorem tH{f:StE->Option (Ex×StE)}{f':St->Option (Ex×St)}(hf:∀s t x s',StR s t->f s=some (x,s')->∃t',f' t=some (x,t')/\StR s' t'){clr:List Bool} :
  ∀{n n':Nat}{s s':StE}{t:St}{x:Ex},n<=n'->StR s t->y8 f clr n s=some (x,s')->∃t',fP f' clr n' t=some (x,t')/\StR s' t'
 |0,_,_,_,_,_,_,_,h=>by simp[y8]at h
 |n+1,0,_,_,_,_,hn,_,_=>by omega
 |n+1,n'+1,s,s',t,x,hn,hst,h=>by
  simp only[y8]at h;simp only[fP];split at h
  case h_1=>cases h
  rename_i e he;have hst':StR ⟨e,s.hp⟩ ⟨clear clr t.env,t.hp⟩:=⟨hst.env.clear he,hst.hp⟩
  split at h;rename_i s1 h1;obtain⟨t1,q1,q2⟩:=hf _ _ _ _ hst' h1;rw[q1];exact tH hf (by omega) q2 h;rename_i hne;obtain⟨t1,q1,q2⟩:=hf _ _ _ _ hst' h;rw[q1];cases x with
  |nor=>exact absurd h (hne _)
  |ext id=>exact⟨t1,rfl,q2⟩
  |ret=>exact⟨t1,rfl,q2⟩
theorem u1{F:Nat->Option (Ex×StE)}{G:Nat->Option (Ex×St)}(hf:∀b x s',F b=some (x,s')->∃t',G b=some (x,t')/\StR s' t') :
  ∀{l:List Nat}{x:Ex}{s':StE},eF U8 F l=some (x,s')->∃t',eF eqR G l=some (x,t')/\StR s' t'
 |[],_,_,h=>by simp[eF]at h
 |[b],_,_,h=>hf _ _ _ h
 |b::b2::l,x,s',h=>by
  simp only[eF]at h;split at h
  case h_2=>cases h
  rename_i r1 s1 h1 h2;split at h
  case isFalse=>cases h
  rename_i hq;cases h;obtain⟨x2,s2⟩:=s1;obtain⟨t1,a1,a2⟩:=hf _ _ _ h1;obtain⟨t2,b1,b2⟩:=u1 hf h2;refine⟨t1,?_,a2⟩;simp only[eF];rw[a1,b1];simp only;have:eqR (x,t1) (x2,t2)=true:=by simp only[U8,a2.env.list,b2.env.list,a2.hp,b2.hp]at hq;exact hq
  rw[if_pos this]
theorem vV{f:StE->Option (Ex×StE)}{f':St->Option (Ex×St)}(hf:∀s t x s',StR s t->f s=some (x,s')->∃t',f' t=some (x,t')/\StR s' t'){fin:Ex×StE->Option (Ex×StE)}{fin':Ex×St->Option (Ex×St)}(hg:∀x1 s t x s',StR s t->fin (x1,s)=some (x,s')->∃t',fin' (x1,t)=some (x,t')/\StR s' t'){it nx more out:Nat}{clr:List Bool} :
  ∀{n n':Nat}{s s':StE}{t:St}{x:Ex},n<=n'->StR s t->mrE f fin it nx more out clr n s=some (x,s')->∃t',mrN f' fin' it nx more out clr n' t=some (x,t')/\StR s' t'
 |0,_,_,_,_,_,_,_,h=>by simp[mrE]at h
 |n+1,0,_,_,_,_,hn,_,_=>by omega
 |n+1,n'+1,s,s',t,x,hn,hst,h=>by
  simp only[mrE]at h;simp only[mrN];split at h
  case isFalse=>cases h
  rename_i hl;rw[<-hst.env.1]at hl;rw[if_pos hl];split at h
  case h_1=>cases h
  rename_i e he;have hc:=hst.env.clear he;split at h
  case h_2=>cases h
  rename_i k ep hit;rw[<-hc.2]at hit;rw[hit];simp only;split at h
  case h_2=>cases h
  rename_i l o hx;rw[hst.hp]at hx;rw[hx];simp only;have hset:∀v b,lE (FT e nx more v b) (((clear clr t.env).set nx v).set more (.bool b)):=λv b=>(hc.set (some nx) v).set (some more) (.bool b);split at h;rename_i hle;rw[if_pos hle];rw[hst.hp]at h;cases hk:killI t.hp k ep with
  |none=>simp[hk]at h
  |some h2=>simp only[hk,Option.bind_some]at h ⊢;exact hg _ _ _ _ _ ⟨hset _ _,rfl⟩ h
  rename_i hle;rw[if_neg hle];refine u1 (λb x s' hr=>?_) h;split at hr;rename_i s1 h1;obtain⟨t1,q1,q2⟩:=hf _ ⟨((clear clr t.env).set nx (.tup [.bool true,.top,.top])).set more (.bool true),t.hp.put k ep (o b)⟩ _ _ ⟨hset _ _,by rw[hst.hp]⟩ h1;rw[q1];exact vV hf hg (by omega) q2 hr;rename_i x1 s1 hne h1;obtain⟨t1,q1,q2⟩:=hf _ ⟨((clear clr t.env).set nx (.tup [.bool true,.top,.top])).set more (.bool true),t.hp.put k ep (o b)⟩ _ _ ⟨hset _ _,by rw[hst.hp]⟩ h1;rw[q1]
  have key:∀y,(killI s1.hp k ep).bind (λh=>fin (x1,(⟨s1.env,h⟩:StE)))=some (x,y)->∃t',(killI t1.hp k ep).bind (λh=>fin' (x1,(⟨t1.env,h⟩:St)))=some (x,t')/\StR y t':=by
   intro y hy;rw[q2.hp]at hy;cases hk:killI t1.hp k ep with
   |none=>simp[hk]at hy
   |some h2=>simp only[hk,Option.bind_some]at hy ⊢;exact hg x1 ⟨s1.env,h2⟩ ⟨t1.env,h2⟩ _ _ ⟨q2.env,rfl⟩ hy
  cases x1 with
  |nor=>exact(hne rfl).elim
  |ext id=>exact key _ hr
  |ret=>exact key _ hr
  cases hr
theorem t8{gl:Nat->Option AV}{c c':aM}(hc:sB c c'){kb n n':Nat}(hn:n<=n'):∀{k:C}{s s':StE}{t:St}{x:Ex},StR s t->c8 gl c kb n k s=some (x,s') ->
  ∃t',aX gl c' kb n' k t=some (x,t')/\StR s' t':=by
 intro k
 induction k with
 |skip=>intro s s' t x hst h;simp[c8]at h;obtain⟨rfl,rfl⟩:=h;exact⟨t,rfl,hst⟩
 |reg rs d=>
  intro s s' t x hst h;cases d with
  |false=>
   simp only[c8]at h;simp only[aX];cases hr:s6 gl c kb rs s with
   |none=>simp[hr]at h
   |some s1=>simp[hr]at h;obtain⟨rfl,rfl⟩:=h;obtain⟨t1,q1,q2⟩:=sZ hc hst hr;exact⟨t1,by rw[q1];rfl,q2⟩
  |true=>
   simp only[c8]at h;simp only[aX];split at h
   case h_2=>cases h
   rename_i s1 es hr;obtain⟨t1,q1,q2⟩:=qL hc hst hr;rw[q1];simp only;split at h
   case isFalse=>cases h
   rename_i ha;rw[if_pos ha];cases h;exact⟨t1,rfl,q2⟩
 |seq a b iha ihb=>
  intro s s' t x hst h;simp only[c8]at h;simp only[aX];split at h;rename_i s1 h1;obtain⟨t1,q1,q2⟩:=iha hst h1;rw[q1];exact ihb q2 h;rename_i hne;obtain⟨t1,q1,q2⟩:=iha hst h;rw[q1];cases x with
  |nor=>exact absurd h (hne _)
  |ext id=>exact⟨t1,rfl,q2⟩
  |ret=>exact⟨t1,rfl,q2⟩
 |cond y a b iha ihb=>intro s s' t x hst h;simp only[c8]at h;simp only[aX];rw[BQ hst]at h;split at h;rename_i hb;rw[hb];exact iha hst h;rename_i hb;rw[hb];exact ihb hst h;cases h
 |block id b ih=>
  intro s s' t x hst h;simp only[c8]at h;simp only[aX];split at h;rename_i i s1 h1;obtain⟨t1,q1,q2⟩:=ih hst h1;rw[q1];simp only[cond_eq_ite,Nat.beq_eq]at h ⊢;split at h;rename_i hi;rw[if_pos hi];cases h;exact⟨t1,rfl,q2⟩;rename_i hi;rw[if_neg hi];cases h;exact⟨t1,rfl,q2⟩;rename_i hne;obtain⟨t1,q1,q2⟩:=ih hst h;rw[q1];cases x with
  |nor=>exact⟨t1,rfl,q2⟩
  |ext id=>exact absurd h (hne _ _)
  |ret=>exact⟨t1,rfl,q2⟩
 |loop b m ih=>intro s s' t x hst h;simp only[c8]at h;simp only[aX];exact tH (λs t x s' q1 q2=>ih q1 q2) hn hst h
 |exit id=>intro s s' t x hst h;simp[c8]at h;obtain⟨rfl,rfl⟩:=h;exact⟨t,rfl,hst⟩
 |ret=>intro s s' t x hst h;simp[c8]at h;obtain⟨rfl,rfl⟩:=h;exact⟨t,rfl,hst⟩
 |rf fx sk ps ca cb=>
  intro s s' t x hst h;simp only[c8]at h;simp only[aX];rw[BQ hst,hst.env.list,hst.hp]at h;split at h
  case h_2=>cases h
  rename_i f cs hf;rw[hf];simp only;split at h
  case h_2=>cases h
  rename_i rr h' hcall;rw[hc.off _ _ _ _ _ (by omega) hcall];simp only;unfold IA at h;split at h
  case h_2=>cases h
  rename_i y st1 he;cases h;unfold C6 at he ⊢;split at he
  case h_2=>cases he
  split at he
  case isFalse=>cases he
  rename_i hee;rw[if_pos hee];split at he;cases he;exact⟨_,rfl,⟨hst.env,rfl⟩⟩;cases he;exact⟨_,rfl,⟨hst.env,rfl⟩⟩;cases he;exact⟨_,rfl,⟨hst.env,rfl⟩⟩;cases he
 |bad=>intro s s' t x hst h;simp[c8]at h
 |mr it nx more out b clr ih=>intro s s' t x hst h;simp only[c8]at h;simp only[aX];exact vV (λs t x s' q1 q2=>ih q1 q2) (λx1 s t x s' q1 q2=>by cases q2;exact⟨t,rfl,q1⟩) hn hst h
 |mq p id it nx more out b clr c2 msk drop ihp ih ih2=>
  intro s s' t x hst h;simp only[c8]at h;simp only[aX];split at h;rename_i s1 h1;obtain⟨t1,q1,q2⟩:=ihp hst h1;rw[q1];refine vV (λs t x s' q1 q2=>ih q1 q2) (λx1 s t x s' r1 r2=>?_) hn q2 h;have key:∀(y:Ex×StE)(t2:St),StR y.2 t2->GM kb msk drop y=some (x,s')->∃t',mX kb msk drop (y.1,t2)=(x,t')/\StR s' t':=by intro y t2 hy hm;simp only[GM,fX,aL]at hm;obtain⟨env,m1,rfl,rfl⟩:=hm;exact⟨_,rfl,⟨hy.env.clear m1,by rw[hy.hp]⟩⟩
  simp only at r2 ⊢;split at r2;rename_i hb;rw[hb];simp only;cases hx:c8 gl c kb n c2 s with
  |none=>simp[hx]at r2
  |some y=>simp only[hx,Option.bind_some]at r2;obtain⟨y1,y2⟩:=y;obtain⟨t2,a1,a2⟩:=ih2 r1 hx;rw[a1];obtain⟨t',k1,k2⟩:=key (y1,y2) t2 a2 r2;exact⟨t',by rw[Option.map_some,k1],k2⟩
  rename_i hb;simp only[Option.bind_some]at r2;obtain⟨t',k1,k2⟩:=key (gG id x1,s) t r1 r2;refine⟨t',?_,k2⟩;cases hbx:gG id x1 with
  |nor=>exact absurd hbx hb
  |ext i=>rw[hbx]at k1;simp only[Option.map_some,k1]
  |ret=>rw[hbx]at k1;simp only[Option.map_some,k1]
  rename_i hne;obtain⟨t1,q1,q2⟩:=ihp hst h;rw[q1];cases x with
  |nor=>exact absurd h (hne _)
  |ext id=>exact⟨t1,rfl,q2⟩
  |ret=>exact⟨t1,rfl,q2⟩
theorem A0{s:StE}{t:St}(hst:StR s t)(rs:List (Sum Nat (Nat×Nat×Bool))):vM s rs=result t rs:=by
 have h1:∀r,vN s r=oL t r:=by
  intro r;cases r with
  |inl u=>simp only[vN,oL,hst.env.2]
  |inr p=>simp only[vN,oL,hst.env.2,hst.hp];rfl
 have h2:∀rs,pG s rs=jO t rs:=by
  intro rs
  induction rs with
  |nil=>rfl
  |cons r rs ih=>simp only[pG,jO,h1,ih];rfl
 unfold vM result;rw[h2];rfl
theorem BU{h:Hp}{v:AV}(hv:v.tree=true):conv h v=some v:=by
 have:snap depth h v=some (v,[]):=by unfold depth snap;rw[if_pos hv]
 cases v<;>first|(simp only[conv,this];rfl)|simp[AV.tree]at hv
theorem yW{r:AV}(h:kF r=true):conv (lQ r).2 (lQ r).1=some r:=by unfold kF at h;split at h;rename_i q hq;rw[hq,eP _ _ h];cases h
theorem sC{r:AV}(h:r.tree=true):kF r=true:=by
 have h1:lQ r=(r,[]):=by cases r<;>first|rfl|simp[AV.tree]at h
 unfold kF;rw[h1];simp only[BU h,gL]
theorem mE(pg:Pg){memo:Nat->List AV->Option AV}{m:Nat}(hm:∀f a r,memo f a=some r->kF r=true/\bA (aO pg m) f a=some r):∀n,sB (cC pg memo n) (aO pg (m+n))
 |0=>⟨λf a kb h r _ hq=>by simp[cC]at hq,λf a r hq=>by simp[bA,cC]at hq,λk e a h r hq=>by simp[cC]at hq⟩
 |n+1=>by
  have key:∀f a kb h r,vW memo f a kb h=none->cC pg memo (n+1) f a kb h=some r->aO pg (m+(n+1)) f a kb h=some r:=by
   intro f a kb h r hn hq;simp only[cC]at hq;rw[hn]at hq;simp only at hq;rw[<-Nat.add_assoc];simp only[aO];split at hq;rename_i hf;rw[hf];exact hq;rename_i cf hf;rw[hf];simp only;split at hq;cases hq;rename_i x s hne he;obtain⟨t,q1,q2⟩:=t8 (t:=⟨enter cf a,h⟩) (mE pg hm n) (Nat.le_add_left n m) ⟨lE.enter cf a,rfl⟩ he;rw[q1];rw[A0 q2,q2.hp]at hq;cases x with
   |nor=>exact hq
   |ret=>exact hq
   |ext id=>exact(hne id rfl).elim
   cases hq
  have hyl:∀k e a h r,(cC pg memo (n+1)).yl k e a h=some r->(aO pg (m+(n+1))).yl k e a h=some r:=by
   intro k e a h r hq;rw[<-Nat.add_assoc];refine oK (λc b st r hr=>?_) hq;unfold FV at hr;split at hr
   case h_2=>cases hr
   rename_i x s he;cases hr;obtain⟨t,q1,q2⟩:=t8 (t:=⟨st.env,st.hp⟩) (mE pg hm n) (Nat.le_add_left n m) ⟨lE.of st.env,rfl⟩ he;have:t=⟨s.env.list,s.hp⟩:=by rw[q2.env.list,q2.hp]
   rw[q1,this]
  refine⟨λf a kb h r hk hq=>key f a kb h r ?_ hq,λf a r hq=>?_,hyl⟩;cases kb with
  |zero=>exact absurd rfl hk
  |succ k=>rfl
  unfold bA at hq;cases hc:cC pg memo (n+1) f a 0 [] with
  |none=>simp[hc]at hq
  |some p=>
   rw[hc]at hq;cases hme:memo f a with
   |some r'=>
    have:cC pg memo (n+1) f a 0 []=some (lQ r'):=by simp only[cC,vW,hme]
    rw[this]at hc;cases hc;obtain⟨h1,h2⟩:=hm f a r' hme;simp only[yW h1,aK]at hq;subst hq;exact dU (b8 pg (by omega)) h2
   |none=>have:=key f a 0 [] p (by simp[vW,hme]) hc;unfold bA;rw[this];exact hq
theorem FA(pg:Pg){memo:Nat->List AV->Option AV}{m:Nat}(hm:∀f a r,memo f a=some r->r.tree=true/\bA (aO pg m) f a=some r)(n:Nat):sB (cC pg memo n) (aO pg (m+n)):=
 mE pg (λf a r h=>⟨sC (hm f a r h).1,(hm f a r h).2⟩) n
end
section
variable{pg:Pg}{kb:Nat}
def Ret(pg:Pg)(f:Nat)(ts:List AV)(r:AV):Prop:=∃n,bA (aO pg n) f ts=some r
def x5(pg:Pg)(f:Nat)(vs:List AV)(kb:Nat)(h:Hp)(r:AV)(h':Hp):Prop:=∃n,aO pg n f vs kb h=some (r,h')
def WX(pg:Pg)(kb:Nat)(c:C)(st:St)(Q:Ex->St->Prop):Prop:=∃n ex st',aX pg.gl (aO pg n) kb n c st=some (ex,st')/\Q ex st'
def WR(pg:Pg)(kb:Nat)(rs:List R)(st:St)(K:St->Prop):Prop:=∃n st',jP pg.gl (aO pg n) kb rs st=some st'/\K st'
def WT(pg:Pg)(kb:Nat)(rs:List R)(st:St)(K:St->List Eff->Prop):Prop:=∃n st' es,eV pg.gl (aO pg n) kb rs st=some (st',es)/\K st' es
def WO(pg:Pg)(kb:Nat)(k:K)(s:Nat)(h:Hp)(vs:List AV)(Q:AV->Eff->Prop):Prop:=
 ∃n v eff,opR (aO pg n) kb ⟨none,k,[],none,0,s⟩ h vs=some (v,eff)/\Q v eff
def jX(A:St->Prop)(Q:Ex->St->Prop)(ex:Ex)(st:St):Prop:=
 match ex with
 |.nor=>A st
 |.ext i=>Q (.ext i) st
 |.ret=>Q .ret st
theorem DY(A:St->Prop)(Q:Ex->St->Prop)(st:St):jX A Q .nor st=A st:=rfl
theorem DZ(A:St->Prop)(Q:Ex->St->Prop)(i:Nat)(st:St):jX A Q (.ext i) st=Q (.ext i) st:=rfl
theorem DX(A:St->Prop)(Q:Ex->St->Prop)(st:St):jX A Q .ret st=Q .ret st:=rfl
def mF(id:Nat)(Q:Ex->St->Prop)(ex:Ex)(st:St):Prop:=
 match ex with
 |.nor=>Q .nor st
 |.ext i=>if i=id then Q .nor st else Q (.ext i) st
 |.ret=>Q .ret st
theorem CB(id:Nat)(Q:Ex->St->Prop)(st:St):mF id Q .nor st=Q .nor st:=rfl
theorem CC(id:Nat)(Q:Ex->St->Prop)(i:Nat)(st:St):mF id Q (.ext i) st=if i=id then Q .nor st else Q (.ext i) st:=rfl
theorem CA(id:Nat)(Q:Ex->St->Prop)(st:St):mF id Q .ret st=Q .ret st:=rfl
def II(v:AV)(A B:Prop):Prop:=
 match v with
 |.bool true=>A
 |.bool false=>B
 |_=>False
def D9(o:Option (AV×Eff))(Q:AV->Eff->Prop):Prop:=
 match o with
 |some (v,e)=>Q v e
 |none=>False
theorem cH{c:C}{st:St}{o:Ex×St}{n m:Nat}(h:n<=m)(e:aX pg.gl (aO pg n) kb n c st=some o):aX pg.gl (aO pg m) kb m c st=some o:=
 nY (b8 pg h) h e
theorem J8{rs:List R}{st st':St}{n m:Nat}(h:n<=m)(e:jP pg.gl (aO pg n) kb rs st=some st'):jP pg.gl (aO pg m) kb rs st=some st':=
 nN (b8 pg h) e
theorem OD(st:St)(Q:Ex->St->Prop):WX pg kb .skip st Q=Q .nor st:=by apply propext;constructor;rintro⟨n,ex,st',h,q⟩;simp only[aX,aK,aL]at h;obtain⟨rfl,rfl⟩:=h;exact q;intro q;exact⟨0,_,_,rfl,q⟩
theorem OG(id:Nat)(st:St)(Q:Ex->St->Prop):WX pg kb (.exit id) st Q=Q (.ext id) st:=by apply propext;constructor;rintro⟨n,ex,st',h,q⟩;simp only[aX,aK,aL]at h;obtain⟨rfl,rfl⟩:=h;exact q;intro q;exact⟨0,_,_,rfl,q⟩
theorem XH(st:St)(Q:Ex->St->Prop):WX pg kb .ret st Q=Q .ret st:=by apply propext;constructor;rintro⟨n,ex,st',h,q⟩;simp only[aX,aK,aL]at h;obtain⟨rfl,rfl⟩:=h;exact q;intro q;exact⟨0,_,_,rfl,q⟩
theorem XI(rs:List R)(st:St)(Q:Ex->St->Prop):WX pg kb (.reg rs false) st Q=WR pg kb rs st (λst'=>Q .nor st'):=by apply propext;constructor;rintro⟨n,ex,st',h,q⟩;simp only[aX,fX,aL]at h;obtain⟨s,h1,rfl,rfl⟩:=h;exact⟨n,_,h1,q⟩;rintro⟨n,st',h,q⟩;exact⟨n,_,_,by simp only[aX,h,Option.map_some],q⟩
theorem OE(rs:List R)(st:St)(Q:Ex->St->Prop):WX pg kb (.reg rs true) st Q=WT pg kb rs st (λst' es=>eL 0 rs es=true/\Q .nor st'):=by apply propext;constructor;rintro⟨n,ex,st',h,q⟩;simp only[aX]at h;split at h;rename_i s es h1;split at h;simp only[aK,aL]at h;obtain⟨rfl,rfl⟩:=h;exact⟨n,_,_,h1,by assumption,q⟩;cases h;cases h;rintro⟨n,st',es,h,a,q⟩;exact⟨n,_,_,by simp only[aX,h,a,if_true],q⟩
theorem OH(c:X)(a b:C)(st:St)(Q:Ex->St->Prop):WX pg kb (.cond c a b) st Q=II (c.ev pg.gl st.env) (WX pg kb a st Q) (WX pg kb b st Q):=by
 apply propext;simp only[WX,aX];cases c.ev pg.gl st.env with
 |bool x=>cases x<;>exact Iff.rfl
 |_=>simp[II]
theorem XF(a b:C)(st:St)(Q:Ex->St->Prop):WX pg kb (.seq a b) st Q=WX pg kb a st (jX (λst'=>WX pg kb b st' Q) Q):=by
 apply propext;constructor;rintro⟨n,ex,st',h,q⟩;simp only[aX]at h;cases ha:aX pg.gl (aO pg n) kb n a st with
 |none=>simp[ha]at h
 |some o=>
  obtain⟨ex1,st1⟩:=o;rw[ha]at h;refine⟨n,ex1,st1,ha,?_⟩;cases ex1 with
  |nor=>exact⟨n,ex,st',h,q⟩
  |ext i=>simp only[aK,aL]at h;obtain⟨rfl,rfl⟩:=h;exact q
  |ret=>simp only[aK,aL]at h;obtain⟨rfl,rfl⟩:=h;exact q
 rintro⟨n,ex,st',h,q⟩;cases ex with
 |nor=>obtain⟨m,ex2,st2,h2,q2⟩:=q;refine⟨max n m,ex2,st2,?_,q2⟩;simp only[aX,cH (Nat.le_max_left n m) h];exact cH (Nat.le_max_right n m) h2
 |ext i=>exact⟨n,_,_,by simp only[aX,h],q⟩
 |ret=>exact⟨n,_,_,by simp only[aX,h],q⟩
theorem JP(id:Nat)(b:C)(st:St)(Q:Ex->St->Prop):WX pg kb (.block id b) st Q=WX pg kb b st (mF id Q):=by
 apply propext;constructor;rintro⟨n,ex,st',h,q⟩;simp only[aX]at h;cases hb:aX pg.gl (aO pg n) kb n b st with
 |none=>simp[hb]at h
 |some o=>
  obtain⟨ex1,st1⟩:=o;rw[hb]at h;refine⟨n,ex1,st1,hb,?_⟩;cases ex1 with
  |nor=>simp only[aK,aL]at h;obtain⟨rfl,rfl⟩:=h;exact q
  |ext i=>simp only at h;simp only[mF];split at h<;>(simp only[aK,aL]at h;obtain⟨rfl,rfl⟩:=h;simp_all)
  |ret=>simp only[aK,aL]at h;obtain⟨rfl,rfl⟩:=h;exact q
 rintro⟨n,ex,st',h,q⟩;cases ex with
 |nor=>exact⟨n,_,_,by simp only[aX,h],q⟩
 |ret=>exact⟨n,_,_,by simp only[aX,h],q⟩
 |ext i=>simp only[mF]at q;split at q;rename_i hi;exact⟨n,.nor,st',by simp only[aX,h,if_pos hi],q⟩;rename_i hi;exact⟨n,.ext i,st',by simp only[aX,h,if_neg hi],q⟩
theorem y7{b:C}{clr:List Bool}{st:St}{o:Ex×St}{n m k l:Nat}(h:n<=m)(hk:k<=l)(e:fP (aX pg.gl (aO pg n) kb n b) clr k st=some o) :
  fP (aX pg.gl (aO pg m) kb m b) clr l st=some o:=
 lZ (λ_ _ q=>cH h q) hk e
theorem OF(b:C)(clr:List Bool)(st:St)(Q:Ex->St->Prop) :
  WX pg kb (.loop b clr) st Q=WX pg kb b ⟨clear clr st.env,st.hp⟩ (jX (λst'=>WX pg kb (.loop b clr) st' Q) Q):=by
 apply propext;constructor;rintro⟨n,ex,st',h,q⟩;simp only[aX]at h;cases n with
 |zero=>simp[fP]at h
 |succ n=>
  simp only[fP]at h;cases hb:aX pg.gl (aO pg (n+1)) kb (n+1) b ⟨clear clr st.env,st.hp⟩ with
  |none=>simp[hb]at h
  |some o=>
   obtain⟨ex1,st1⟩:=o;rw[hb]at h;refine⟨n+1,ex1,st1,hb,?_⟩;cases ex1 with
   |nor=>exact⟨n+1,ex,st',y7 (Nat.le_refl _) (Nat.le_succ n) h,q⟩
   |ext i=>simp only[aK,aL]at h;obtain⟨rfl,rfl⟩:=h;exact q
   |ret=>simp only[aK,aL]at h;obtain⟨rfl,rfl⟩:=h;exact q
 rintro⟨n,ex,st',h,q⟩;cases ex with
 |nor=>obtain⟨m,ex2,st2,h2,q2⟩:=q;refine⟨max n m+1,ex2,st2,?_,q2⟩;simp only[aX]at h2 ⊢;rw[fP];rw[cH (Nat.le_trans (Nat.le_max_left n m) (Nat.le_succ _)) h];exact y7 (Nat.le_trans (Nat.le_max_right n m) (Nat.le_succ _)) (Nat.le_max_right n m) h2
 |ext i=>exact⟨n+1,_,_,by simp only[aX,fP,cH (Nat.le_succ n) h],q⟩
 |ret=>exact⟨n+1,_,_,by simp only[aX,fP,cH (Nat.le_succ n) h],q⟩
theorem FH{α : Type}(μ : α -> Nat)(E : α -> List AV->Hp->Prop){b:C}{clr:List Bool}{st:St}{Q:Ex->St->Prop}(a : α)(h0:E a (clear clr st.env) st.hp)
  (step:∀a env hp,E a env hp->WX pg kb b ⟨env,hp⟩ (jX (λst'=>∃a',μ a' < μ a/\E a' (clear clr st'.env) st'.hp) Q)) :
  WX pg kb (.loop b clr) st Q:=by
 have key:∀n a st,μ a<n->E a (clear clr st.env) st.hp->WX pg kb (.loop b clr) st Q:=by
  intro n
  induction n with
  |zero=>intro a st h;omega
  |succ n ih=>
   intro a st hn h;rw[OF];obtain⟨m,ex,st',h1,q⟩:=step a _ _ h;refine⟨m,ex,st',h1,?_⟩;cases ex with
   |nor=>obtain⟨a',h2,h3⟩:=q;exact ih a' st' (by omega) h3
   |ext i=>exact q
   |ret=>exact q
 exact key _ a st (Nat.lt_succ_self _) h0
theorem XK(st:St)(A:St->Prop):WR pg kb [] st A=A st:=by apply propext;constructor;rintro⟨n,st',h,q⟩;simp only[jP,aK]at h;subst h;exact q;intro q;exact⟨0,_,rfl,q⟩
theorem A7{k:K}{s:Nat}{h:Hp}{vs:List AV}{x:AV×Eff}{n m:Nat}(hn:n<=m)(e:opR (aO pg n) kb ⟨none,k,[],none,0,s⟩ h vs=some x) :
  opR (aO pg m) kb ⟨none,k,[],none,0,s⟩ h vs=some x:=
 yR (b8 pg hn) e
theorem DQ(d:Option Nat)(k:K)(xs:List X)(bef s:Nat)(rs:List R)(st:St)(A:St->Prop) :
  WR pg kb (⟨d,k,xs,none,bef,s⟩::rs) st A=WO pg kb k s st.hp (xs.map (X.ev pg.gl st.env)) (λv eff=>WR pg kb rs ⟨d6 st.env d v,eff.app st.hp⟩ A):=by
 apply propext;constructor;rintro⟨n,st',h,q⟩;simp only[jP,eU,wanted]at h;split at h;rename_i st1 e h1;split at h1;rename_i v eff h2;simp only[aK,aL]at h1;obtain⟨rfl,rfl⟩:=h1;exact⟨n,v,eff,h2,n,st',h,q⟩;cases h1;cases h;rintro⟨n,v,eff,h,m,st',h2,q⟩;refine⟨max n m,st',?_,q⟩;have e1:=A7 (Nat.le_max_left n m) h;have e2:=J8 (Nat.le_max_right n m) h2;have e3:opR (aO pg (max n m)) kb ⟨d,k,xs,none,bef,s⟩ st.hp (xs.map (X.ev pg.gl st.env))=some (v,eff):=e1;simp only[jP,eU,wanted,e3];exact e2
def gdQ(v:AV)(b:Bool)(A B:Prop):Prop:=
 match v with
 |.bool c=>if c=b then A else B
 |.tup []=>B
 |_=>False
theorem JR(d:Option Nat)(k:K)(xs:List X)(t:Nat)(b:Bool)(bef s:Nat)(rs:List R)(st:St)(A:St->Prop) :
  WR pg kb (⟨d,k,xs,some (t,b),bef,s⟩::rs) st A =
   gdQ (cO st.env t) b (WO pg kb k s st.hp (xs.map (X.ev pg.gl st.env)) (λv eff=>WR pg kb rs ⟨d6 st.env d v,eff.app st.hp⟩ A)) (WR pg kb rs ⟨d6 st.env d (.tup []),st.hp⟩ A):=by
 rw[<-DQ d k xs bef s];apply propext;have hb:∀c:Bool,(c==b)=decide (c=b):=λc=>by cases c<;>cases b<;>rfl
 simp only[WR,jP,eU,wanted];generalize cO st.env t=v;cases v with
 |bool c=>simp only[gdQ,hb];by_cases hc:c=b;simp only[hc,decide_true,if_true];exact Iff.rfl;simp only[hc,decide_false,if_false]
 |tup l=>cases l<;>simp[gdQ]
 |_=>simp[gdQ]
theorem XJ(st:St)(A:St->List Eff->Prop):WT pg kb [] st A=A st []:=by apply propext;constructor;rintro⟨n,st',es,h,q⟩;simp only[eV,aK,aL]at h;obtain⟨rfl,rfl⟩:=h;exact q;intro q;exact⟨0,_,_,rfl,q⟩
theorem DP(d:Option Nat)(k:K)(xs:List X)(bef s:Nat)(rs:List R)(st:St)(A:St->List Eff->Prop) :
  WT pg kb (⟨d,k,xs,none,bef,s⟩::rs) st A=WO pg kb k s st.hp (xs.map (X.ev pg.gl st.env)) (λv eff=>WT pg kb rs ⟨d6 st.env d v,eff.app st.hp⟩ (λst' es=>A st' (eff::es))):=by
 apply propext;constructor;rintro⟨n,st',es,h,q⟩;simp only[eV,eU,wanted]at h;split at h;rename_i st1 e h1;split at h1;rename_i v eff h2;simp only[aK,aL]at h1;obtain⟨rfl,rfl⟩:=h1;simp only[fX,aL]at h;obtain⟨⟨s1,l1⟩,h3,h4,h5⟩:=h;subst h4;subst h5;exact⟨n,v,eff,h2,n,s1,l1,h3,q⟩;cases h1;cases h;rintro⟨n,v,eff,h,m,st',es,h2,q⟩;refine⟨max n m,st',eff::es,?_,q⟩;have e1:=A7 (Nat.le_max_left n m) h;have e2:=lV (b8 pg (Nat.le_max_right n m)) h2;have e3:opR (aO pg (max n m)) kb ⟨d,k,xs,none,bef,s⟩ st.hp (xs.map (X.ev pg.gl st.env))=some (v,eff):=e1;simp only[eV,eU,wanted,e3];rw[e2];rfl
theorem JQ(d:Option Nat)(k:K)(xs:List X)(t:Nat)(b:Bool)(bef s:Nat)(rs:List R)(st:St)(A:St->List Eff->Prop) :
  WT pg kb (⟨d,k,xs,some (t,b),bef,s⟩::rs) st A =
   gdQ (cO st.env t) b (WO pg kb k s st.hp (xs.map (X.ev pg.gl st.env)) (λv eff=>WT pg kb rs ⟨d6 st.env d v,eff.app st.hp⟩ (λst' es=>A st' (eff::es))))
    (WT pg kb rs ⟨d6 st.env d (.tup []),st.hp⟩ (λst' es=>A st' (.pat [] []::es))):=by
 rw[<-DP d k xs bef s];apply propext;have hb:∀c:Bool,(c==b)=decide (c=b):=λc=>by cases c<;>cases b<;>rfl
 have key:(∃n st' es,(eV pg.gl (aO pg n) kb rs ⟨d6 st.env d (.tup []),st.hp⟩).map (fun(s,l)=>(s,Eff.pat [] []::l))=some (st',es)/\A st' es) ↔
   (∃n st' es,eV pg.gl (aO pg n) kb rs ⟨d6 st.env d (.tup []),st.hp⟩=some (st',es)/\A st' (.pat [] []::es)):=by
  constructor;rintro⟨n,st',es,h,q⟩;simp only[fX,aL]at h;obtain⟨⟨s1,l1⟩,h3,h4,h5⟩:=h;subst h4;subst h5;exact⟨n,s1,l1,h3,q⟩;rintro⟨n,st',es,h,q⟩;exact⟨n,st',_,by rw[h];rfl,q⟩
 simp only[WT,eV,eU,wanted];generalize cO st.env t=v;cases v with
 |bool c=>simp only[gdQ,hb];by_cases hc:c=b;simp only[hc,decide_true,if_true];exact Iff.rfl;simp only[hc,decide_false,if_false];exact key
 |tup l=>
  cases l with
  |nil=>simp only[gdQ];exact key
  |cons a r=>simp[gdQ]
 |_=>simp[gdQ]
def K.isCall:K->Bool
 |.call ..|.callv ..|.calle ..|.callr ..|.callvr|.inv .. => true
 |_=>false
theorem bM{k:K}(hk:k.isCall=false)(s:Nat)(h:Hp)(vs:List AV)(Q:AV->Eff->Prop):WO pg kb k s h vs Q=D9 (EG h (kb+s) k vs) Q:=by
 have e:∀call:aM,opR call kb ⟨none,k,[],none,0,s⟩ h vs=EG h (kb+s) k vs:=by intro call;cases k<;>first|rfl|simp[K.isCall]at hk
 apply propext;simp only[WO,e];cases EG h (kb+s) k vs with
 |none=>simp[D9]
 |some x=>obtain⟨v,eff⟩:=x;simp only[D9];constructor;rintro⟨n,v',e',h1,q⟩;cases h1;exact q;intro q;exact⟨0,_,_,rfl,q⟩
theorem I6{f:Nat}{ts:List AV}{r:AV}{n m:Nat}(h:n<=m)(e:bA (aO pg n) f ts=some r):bA (aO pg m) f ts=some r:=
 dU (b8 pg h) e
theorem OI{f s:Nat}{th:Bool}{h:Hp}{vs ts:List AV}{keys:List Nat}{r v:AV}{pa:List Ent}{Q:AV->Eff->Prop}(hr:Ret pg f ts r)
  (hm:b7 (snap depth h) vs=some (ts,keys)) (hv:e9 h (kb+s) th r=some (v,pa)) :
  WO pg kb (.call f th false) s h vs Q=Q v (.pat ((kb+s)::keys) ((if r.flat then [] else bE h keys)++pa)):=by
 obtain⟨n,e⟩:=hr;have key:∀m,n<=m->opR (aO pg m) kb ⟨none,.call f th false,[],none,0,s⟩ h vs=some (v,.pat ((kb+s)::keys) ((if r.flat then [] else bE h keys)++pa)):=by intro m hm';simp only[opR,gM,Bool.false_eq_true,if_false,hm,I6 hm' e,hv]
 apply propext;constructor;rintro⟨m,v',e',h1,q⟩;have h2:=key _ (Nat.le_max_left n m);have h3:=A7 (Nat.le_max_right n m) h1;rw[h3]at h2;cases h2;exact q;intro q;exact⟨n,_,_,key n (Nat.le_refl _),q⟩
theorem x5.of{f:Nat}{cf:CF}{vs:List AV}{h:Hp}{r:AV}{h':Hp}(hf:pg.fs f=some cf)
  (hw:WX pg kb cf.body ⟨enter cf vs,h⟩ (λex st=>(match ex with|.ext _=>False|_=>True)/\result st cf.res=some r/\st.hp=h')):x5 pg f vs kb h r h':=by
 obtain⟨n,ex,st,h1,h2,h3,h4⟩:=hw;refine⟨n+1,?_⟩;subst h4;simp only[aO,hf,h1];cases ex with
 |ext i=>exact h2.elim
 |nor=>simp[h3]
 |ret=>simp[h3]
def KR(res:List (Sum Nat (Nat×Nat×Bool)))(r:AV)(ex:Ex)(st:St):Prop:=
 match ex with
 |.ext _=>False
 |_=>∃v,result st res=some v/\conv st.hp v=some r
theorem H7(res:List (Sum Nat (Nat×Nat×Bool)))(r:AV)(st:St):KR res r .nor st=∃v,result st res=some v/\conv st.hp v=some r:=rfl
theorem H6(res:List (Sum Nat (Nat×Nat×Bool)))(r:AV)(st:St):KR res r .ret st=∃v,result st res=some v/\conv st.hp v=some r:=rfl
theorem Ret.of{f:Nat}{cf:CF}{vs:List AV}{r:AV}(hf:pg.fs f=some cf)(hw:WX pg 0 cf.body ⟨enter cf vs,[]⟩ (KR cf.res r)):Ret pg f vs r:=by
 obtain⟨n,ex,st,h1,h2⟩:=hw;refine⟨n+1,?_⟩;cases ex with
 |ext i=>exact h2.elim
 |nor=>obtain⟨v,h3,h4⟩:=h2;simp only[bA,aO,hf,h1,h3,Option.map_some,h4]
 |ret=>obtain⟨v,h3,h4⟩:=h2;simp only[bA,aO,hf,h1,h3,Option.map_some,h4]
theorem U4{α : Type}{x : α}{P : α -> Prop}:(∃v,some x=some v/\P v)=P x:=by apply propext;constructor;rintro⟨v,h,p⟩;cases h;exact p;intro p;exact⟨x,rfl,p⟩
end
end Go.Tev
