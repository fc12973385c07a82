import Derived.Test.YtdegpppbhhjlhaaGreatDoorCAH
set_option linter.all false
namespace Go.Tev
section
structure EF where
 nt:Nat
 dt:Bool
 l:List (Nat×AV)
def vP(nt:Nat)(dt:Bool)(t:Nat):List (Nat×AV)->AV
 |[]=>bif dt then (bif t.blt nt then .tup [] else .top) else .top
 |p::r=>bif p.1.beq t then p.2 else vP nt dt t r
def EF.get:EF->Nat->AV
 |⟨nt,dt,l⟩,t=>vP nt dt t l
def EF.set:EF->Option Nat->AV->EF
 |e,none,_=>e
 |⟨nt,dt,l⟩,some d,v=>bif d.blt nt then ⟨nt,dt,(d,v)::l⟩ else ⟨nt,dt,l⟩
theorem EF.get_eq(e:EF)(t:Nat):e.get t=vP e.nt e.dt t e.l:=rfl
theorem EF.set_some(e:EF)(d:Nat)(v:AV):e.set (some d) v=bif d.blt e.nt then ⟨e.nt,e.dt,(d,v)::e.l⟩ else e:=rfl
def uE(e:EF):Nat->List Bool->Option (List (Nat×AV))
 |i,[]=>bif e.nt.ble i then some [] else none
 |i,true::m=>(uE e (i+1) m).map ((i,e.get i) :: ·)
 |i,false::m=>uE e (i+1) m
def EF.clear(e:EF)(m:List Bool):Option EF:=(uE e 0 m).map λl=>⟨e.nt,false,l⟩
def EB:Nat->List AV->List (Nat×AV)
 |_,[]=>[]
 |i,v::r=>(i,v)::EB (i+1) r
def FS(cf:CF)(args:List AV):EF:=⟨args.length+(cf.nt-args.length),true,EB 0 args⟩
def rS(e:EF)(env:List AV):Prop:=env.length=e.nt/\∀t,gB env t=e.get t
theorem rS.set{e:EF}{env:List AV}(h:rS e env)(d:Option Nat)(v:AV):rS (e.set d v) (eI env d v):=by
 cases d with
 |none=>exact h
 |some d=>refine⟨?_,?_⟩;rw[qF,h.1];simp only[EF.set_some,cond_eq_ite];split<;>rfl;intro t;rw[vO];simp only[EF.set_some,cond_eq_ite,Nat.blt_eq];by_cases hd:d<e.nt;rw[if_pos hd];simp only[EF.get_eq,vP,cond_eq_ite,Nat.beq_eq];by_cases ht:d=t;subst ht;rw[if_pos ⟨rfl,by rw[h.1];exact hd⟩,if_pos rfl];rw[if_neg (by rintro⟨q,_⟩;exact ht (by simpa using q)),if_neg ht];exact h.2 t;rw[if_neg hd,if_neg (by rintro⟨q,q2⟩;simp at q;subst q;rw[h.1]at q2;exact hd q2)];exact h.2 t
theorem vK{e:EF}{nt:Nat}:∀{m:List Bool}{i:Nat}{l:List (Nat×AV)},uE e i m=some l ->
  e.nt<=i+m.length/\∀t,vP nt false t l=if i<=t/\m[t-i]?=some true then e.get t else .top
 |[],i,l,h=>by simp only[uE,cond_eq_ite]at h;split at h;rename_i q;cases h;refine⟨by simpa using q,λt=>?_⟩;simp[vP];cases h
 |true::m,i,l,h=>by
  simp only[uE]at h;cases hk:uE e (i+1) m with
  |none=>simp[hk]at h
  |some l'=>
   simp[hk]at h;subst h;obtain⟨h1,h2⟩:=vK (nt:=nt) hk;refine⟨by simp;omega,λt=>?_⟩;simp only[vP,cond_eq_ite,Nat.beq_eq];by_cases ht:i=t;subst ht;simp;rw[if_neg ht,h2];by_cases hle:i+1<=t;have:t-i=(t-(i+1))+1:=by omega
   simp[hle,this,show i<=t by omega];rw[if_neg (by omega),if_neg (by omega)]
 |false::m,i,l,h=>by
  simp only[uE]at h;obtain⟨h1,h2⟩:=vK (nt:=nt) h;refine⟨by simp;omega,λt=>?_⟩;rw[h2];by_cases hle:i+1<=t;have:t-i=(t-(i+1))+1:=by omega
  simp[hle,this,show i<=t by omega];by_cases ht:i=t;subst ht;simp;intro q;omega;rw[if_neg (by omega),if_neg (by omega)]
theorem sU:∀(m:List Bool)(env:List AV)(t:Nat),env.length<=m.length->gB (clear m env) t=if m[t]?=some true then gB env t else .top
 |[],env,t,h=>by have:env=[]:=gL (by simpa using h);subst this;simp[clear,gB]
 |b::m,[],t,h=>by cases b<;>simp[clear,gB]
 |true::m,v::r,0,h=>by simp[clear,gB]
 |false::m,v::r,0,h=>by simp[clear,gB]
 |true::m,v::r,t+1,h=>by have:=sU m r t (by simpa using h);simpa[clear,gB] using this
 |false::m,v::r,t+1,h=>by have:=sU m r t (by simpa using h);simpa[clear,gB] using this
theorem rS.clear{e e':EF}{env:List AV}(h:rS e env){m:List Bool}(hc:e.clear m=some e'):rS e' (Tev.clear m env):=by
 unfold EF.clear at hc;cases hk:uE e 0 m with
 |none=>simp[hk]at hc
 |some l=>simp[hk]at hc;subst hc;obtain⟨h1,h2⟩:=vK (nt:=e.nt) hk;refine⟨by rw[kL];exact h.1,λt=>?_⟩;rw[sU m env t (by rw[h.1];omega)];simp only[EF.get];rw[h2,h.2 t];simp
theorem wD{nt:Nat}{dt:Bool}:∀{args:List AV}{i t:Nat},vP nt dt t (EB i args)=if h:i<=t/\t-i<args.length then args[t-i]'h.2 else vP nt dt t []
 |[],i,t=>by simp[EB]
 |v::r,i,t=>by
  simp only[EB,vP,cond_eq_ite,Nat.beq_eq];by_cases ht:i=t;subst ht;simp;rw[if_neg ht,wD];by_cases hle:i+1<=t;have e1:t-i=(t-(i+1))+1:=by omega
  by_cases hl:t-(i+1)<r.length;rw[dif_pos ⟨hle,hl⟩,dif_pos ⟨by omega,by simp;omega⟩];simp[e1];rw[dif_neg (by omega),dif_neg (by simp;omega)];simp[vP,cond_eq_ite];rw[dif_neg (by omega),dif_neg (by omega)];simp[vP,cond_eq_ite]
theorem rS.enter(cf:CF)(args:List AV):rS (FS cf args) (Tev.enter cf args):=by
 refine⟨by simp[Tev.enter,FS],λt=>?_⟩;simp only[EF.get_eq,FS,wD,Tev.enter,gB];by_cases h:t<args.length;rw[dif_pos ⟨Nat.zero_le _,by simpa using h⟩];simp[List.getElem?_append_left h,h];rw[dif_neg (by simpa using h),yR (by omega)];simp only[vP,cond_true,cond_eq_ite,Nat.blt_eq,List.getElem?_replicate];by_cases h2:t<args.length+(cf.nt-args.length)
 rw[if_pos (by omega),if_pos h2];rfl;rw[if_neg (by omega),if_neg h2];rfl
def X.evE(gl:Nat->Option AV)(e:EF):X->AV
 |.t n=>e.get n
 |.c v=>v
 |.g n=>match gl n with|some v => .fp v|none => .top
 |.f n => .fn n []
structure StE where
 env:EF
 hp:Hp
def EH(e:EF):Option (Nat×Bool)->Option Bool
 |none=>some true
 |some (t,b)=>
  match e.get t with
  |.bool c=>some (c==b)
  |.tup []=>some false
  |_=>none
def OJ(gl:Nat->Option AV)(call:aY)(kb:Nat)(r:R)(st:StE):Option (StE×Eff):=
 match EH st.env r.gd with
 |none=>none
 |some false=>some (⟨st.env.set r.d (.tup []),st.hp⟩,.pat [] [])
 |some true=>
  match opR call kb r st.hp (r.xs.map (X.evE gl st.env)) with
  |some (v,eff)=>some (⟨st.env.set r.d v,eff.app st.hp⟩,eff)
  |none=>none
def CI(gl:Nat->Option AV)(call:aY)(kb:Nat):List R->StE->Option StE
 |[],st=>some st
 |r::rs,st=>
  match OJ gl call kb r st with
  |some (st',_)=>CI gl call kb rs st'
  |none=>none
def u9(gl:Nat->Option AV)(call:aY)(kb:Nat):List R->StE->Option (StE×List Eff)
 |[],st=>some (st,[])
 |r::rs,st=>
  match OJ gl call kb r st with
  |some (st',e)=>(u9 gl call kb rs st').map fun(s,l)=>(s,e::l)
  |none=>none
def I7(f:StE->Option (Ex×StE))(clr:List Bool):Nat->StE->Option (Ex×StE)
 |0,_=>none
 |n+1,st=>
  match st.env.clear clr with
  |none=>none
  |some e=>
   match f ⟨e,st.hp⟩ with
   |some (.nor,st')=>I7 f clr n st'
   |r=>r
def EF.list(e:EF):List AV:=(List.range e.nt).map e.get
def EF.of(env:List AV):EF:=⟨env.length,false,EB 0 env⟩
theorem rS.list{e:EF}{env:List AV}(h:rS e env):e.list=env:=by apply List.ext_getElem;simp[EF.list,h.1];intro i h1 h2;have:=h.2 i;simp only[gB,cK h2,Option.getD_some]at this;simp[EF.list,this]
theorem rS.of(env:List AV):rS (EF.of env) env:=by refine⟨rfl,λt=>?_⟩;simp only[EF.get,EF.of,wD,gB];by_cases h:t<env.length;rw[dif_pos ⟨Nat.zero_le _,by simpa using h⟩];simp[h];rw[dif_neg (by simpa using h),cZ (by omega)];rfl
def U0(env:EF)(k e:Nat)(h:Hp):Option (Ex×StE):=
 match DG [] k e h with
 |some (x,st)=>some (x,⟨env,st.hp⟩)
 |none=>none
def SY(e:EF)(nx more:Nat)(v:AV)(b:Bool):EF:=(e.set (some nx) v).set (some more) (.bool b)
def aGt(x y:Ex×StE):Bool:=decide (x.1=y.1)&&pJ x.2.env.list y.2.env.list&&MW x.2.hp y.2.hp
def mrE(f:StE->Option (Ex×StE))(fin:Ex×StE->Option (Ex×StE))(it nx more out:Nat)(clr:List Bool):Nat->StE->Option (Ex×StE)
 |0,_=>none
 |n+1,st=>
  if nx<st.env.nt/\more<st.env.nt then
  match st.env.clear clr with
  |none=>none
  |some env=>
  match env.get it with
  |.pt k e 0=>
   match OP st.hp k e with
   |some (l,o)=>
    if l.isEmpty then (killI st.hp k e).bind λh=>fin (.ext out,⟨SY env nx more (.tup [.bool false]) false,h⟩)
    else iM aGt (λb=>
     match f ⟨SY env nx more (.tup [.bool true,.top,.top]) true,st.hp.put k e (o b)⟩ with
     |some (.nor,st')=>mrE f fin it nx more out clr n st'
     |some (x,st')=>(killI st'.hp k e).bind λh=>fin (x,⟨st'.env,h⟩)
     |none=>none) l
   |none=>none
  |_=>none
  else none
def TU(kb:Nat)(msk:List Bool)(drop:List Nat)(q:Ex×StE):Option (Ex×StE):=(q.2.env.clear msk).map λenv=>(q.1,⟨env,AW kb drop q.2.hp⟩)
def gD(gl:Nat->Option AV)(call:aY)(kb n:Nat):C->StE->Option (Ex×StE)
 |.skip,st=>some (.nor,st)
 |.reg rs false,st=>(CI gl call kb rs st).map λs=>(.nor,s)
 |.reg rs true,st=>
  match u9 gl call kb rs st with
  |some (s,es)=>if bT 0 rs es then some (.nor,s) else none
  |none=>none
 |.seq a b,st=>
  match gD gl call kb n a st with
  |some (.nor,st')=>gD gl call kb n b st'
  |r=>r
 |.cond c a b,st=>
  match c.evE gl st.env with
  |.bool true=>gD gl call kb n a st
  |.bool false=>gD gl call kb n b st
  |_=>none
 |.block id b,st=>
  match gD gl call kb n b st with
  |some (.ext i,st')=>bif i.beq id then some (.nor,st') else some (.ext i,st')
  |r=>r
 |.loop b clr,st=>I7 (gD gl call kb n b) clr n st
 |.exit id,st=>some (.ext id,st)
 |.ret,st=>some (.ret,st)
 |.rf x s ps a b,st=>
  match x.evE gl st.env with
  |.fn f cs=>
   match call f (.yl (kb+s) (st.hp.next (kb+s))::cs) ((kb+s+1)*65536) (st.hp.put (kb+s) (st.hp.next (kb+s)) (.lp 0 kb st.env.list ps a b)) with
   |some (_,h')=>U0 st.env (kb+s) (st.hp.next (kb+s)) h'
   |none=>none
  |_=>none
 |.mr it nx more out b clr,st=>mrE (gD gl call kb n b) some it nx more out clr n st
 |.mq p id it nx more out b clr rest msk drop,st=>
  match gD gl call kb n p st with
  |some (.nor,st1)=>mrE (gD gl call kb n b) (λo=>(match lE id o.1 with|.nor=>gD gl call kb n rest o.2|x=>some (x,o.2)).bind (TU kb msk drop)) it nx more out clr n st1
  |r=>r
 |.bad,_=>none
def E3(st:StE):Sum Nat (Nat×Nat×Bool)->Option AV
 |.inl t=>some (st.env.get t)
 |.inr (t,sz,ag)=>
  match st.env.get t with
  |.pt k e off=>match st.hp.get k with
   |some (e',.blk cs _ _ _ _)=>if e'=e then fM cs off sz ag else none
   |_=>none
  |_=>none
def xX(st:StE):List (Sum Nat (Nat×Nat×Bool))->Option (List AV)
 |[]=>some []
 |x::r=>
  match E3 st x,xX st r with
  |some v,some l=>some (v::l)
  |_,_=>none
def E2(st:StE)(rs:List (Sum Nat (Nat×Nat×Bool))):Option AV:=
 match xX st rs with
 |some [v]=>some v
 |some l=>some (.tup l)
 |none=>none
def FF(memo:Nat->List AV->Option AV)(f:Nat)(args:List AV):Nat->Hp->Option AV
 |0,[]=>memo f args
 |_,_=>none
def sG(r:AV):AV×Hp:=
 match r with
 |.os es esz ag=>match aV esz ag es with
  |some cs=>(.rf 1 0 0 es.length es.length,[⟨1,0,.blk cs esz ag false false⟩])
  |none=>(r,[])
 |r=>(r,[])
def qD(r:AV):Bool:=match conv (sG r).2 (sG r).1 with|some q=>eqA q r|none=>false
def S3(ex:C->Nat->StE->Option (Ex×StE))(c:C)(b:Nat)(st:St):Option (Ex×St):=
 match ex c b ⟨EF.of st.env,st.hp⟩ with
 |some (x,s)=>some (x,⟨s.env.list,s.hp⟩)
 |none=>none
def cM(pg:Pg)(memo:Nat->List AV->Option AV):Nat->aY
 |0=>⟨λ_ _ _ _=>none,λ_ _ _ _=>none⟩
 |n+1=>⟨λf args kb h=>
  match FF memo f args kb h with
  |some r=>some (sG r)
  |none=>
   match pg.fs f with
   |none=>
    match pg.ex f with
    |some g=>g args kb h
    |none=>none
   |some cf=>
    match gD pg.gl (cM pg memo n) kb n cf.body ⟨FS cf args,h⟩ with
    |some (.ext _,_)=>none
    |some (_,st)=>(E2 st cf.res).map λv=>(v,st.hp)
    |none=>none,
  pY (S3 λc b st=>gD pg.gl (cM pg memo n) b n c st)⟩
structure StR(s:StE)(t:St):Prop where
 env:rS s.env t.env
 hp:s.hp=t.hp
end
section
structure kT(c c':aY):Prop where
 fn:∀f a kb h r,c f a kb h=some r->c' f a kb h=some r
 yl:∀k e a h r,c.yl k e a h=some r->c'.yl k e a h=some r
theorem kT.refl(c:aY):kT c c:=⟨λ_ _ _ _ _ h=>h,λ_ _ _ _ _ h=>h⟩
theorem pX{ex ex':C->Nat->St->Option (Ex×St)}(hx:∀c b st r,ex c b st=some r->ex' c b st=some r){k e:Nat}{a:List AV}{h:Hp}{r:AV×Hp}(h1:pY ex k e a h=some r):pY ex' k e a h=some r:=by
 unfold pY at h1 ⊢;split at h1
 case h_2=>cases h1
 split at h1
 case isFalse=>cases h1
 rename_i hc;rw[if_pos hc];split at h1
 case h_2=>cases h1
 rename_i he1;rw[hx _ _ _ _ he1];simp only;split at h1
 case h_2=>cases h1
 split at h1
 case isFalse=>cases h1
 rename_i hc2;rw[if_pos hc2];split at h1
 case h_2=>cases h1
 rename_i he2;rw[hx _ _ _ _ he2];exact h1
theorem fR{c c':aY}(hc:kT c c'){f:Nat}{ts:List AV}{r:AV}(h:bJ c f ts=some r):bJ c' f ts=some r:=by
 unfold bJ at h ⊢;cases hq:c f ts 0 [] with
 |none=>simp[hq]at h
 |some p=>rw[hq]at h;rw[hc.fn _ _ _ _ _ hq];exact h
theorem pD{c c':aY}(hc:kT c c'){kb s:Nat}{h:Hp}{f:Nat}{th im:Bool}{vs:List AV}{r:AV×Eff}(h1:kB c kb s h f th im vs=some r):kB c' kb s h f th im vs=some r:=by
 unfold kB at h1 ⊢;cases hm:(if im then none else mapS (snap depth h) vs) with
 |some p=>
  rw[hm]at h1;simp only at h1 ⊢;cases hp:bJ c f p.1 with
  |none=>simp[hp]at h1
  |some q=>rw[hp]at h1;rw[fR hc hp];exact h1
 |none=>
  rw[hm]at h1;simp only at h1 ⊢;cases hp:c f vs (eD kb s vs) h with
  |none=>simp[hp]at h1
  |some q=>rw[hp]at h1;rw[hc.fn _ _ _ _ _ hp];exact h1
theorem B5{c c':aY}(hc:kT c c'){h:Hp}{f:Nat}{vs:List AV}:∀{n b:Nat}{x:AV×List Nat×List Ent},m9 c h f vs n b=some x->m9 c' h f vs n b=some x
 |0,_,_,h1=>by simp[m9]at h1
 |n+1,b,x,h1=>by
  unfold m9 at h1 ⊢;cases hp:c f vs b [] with
  |none=>simp[hp]at h1
  |some q=>
   rw[hp]at h1;rw[hc.fn _ _ _ _ _ hp];simp only at h1 ⊢;split;rename_i hh;rw[if_pos hh]at h1;exact h1;rename_i hh;rw[if_neg hh]at h1;cases ht:m9 c h f vs n (b+4096) with
   |none=>simp[ht]at h1
   |some y=>rw[ht]at h1;rw[B5 hc ht];exact h1
theorem LA{c c':aY}(hc:kT c c'){kb s:Nat}{h:Hp}{f:Nat}{vs:List AV}{r:AV×Eff}(h1:kR c kb s h f vs=some r):kR c' kb s h f vs=some r:=by
 unfold kR at h1 ⊢;split;rename_i ht;rw[if_pos ht]at h1;cases hq:m9 c h f vs 7 ((kb+s+1)*65536) with
 |none=>simp[hq]at h1
 |some y=>rw[hq]at h1;rw[B5 hc hq];exact h1
 rename_i ht;rw[if_neg ht]at h1;cases h1
theorem xI{c c':aY}(hc:kT c c'){kb s:Nat}{h:Hp}{f:Nat}{vs:List AV}{r:AV×Eff}(h1:jV c kb s h f vs=some r):jV c' kb s h f vs=some r:=by
 unfold jV at h1 ⊢;cases hq:c f vs (eD kb s vs) h with
 |none=>simp[hq]at h1
 |some y=>rw[hq]at h1;rw[hc.fn _ _ _ _ _ hq];exact h1
theorem IW{c c':aY}(hc:kT c c'){kb:Nat}{r:R}{h:Hp}{vs:List AV}{x:AV×Eff}(h1:opR c kb r h vs=some x):opR c' kb r h vs=some x:=by unfold opR at h1 ⊢;split at h1;exact pD hc h1;exact LA hc h1;exact xI hc h1;split at h1;exact xI hc h1;cases h1;split at h1;exact pD hc h1;split at h1;rename_i hy;rw[hc.yl _ _ _ _ _ hy];exact h1;cases h1;exact pD hc h1;cases h1;split at h1;split at h1;exact pD hc h1;cases h1;cases h1;exact h1
structure BQ(c c':aY):Prop where
 off:∀f a kb h r,kb≠0->c f a kb h=some r->c' f a kb h=some r
 at0:∀f a r,bJ c f a=some r->bJ c' f a=some r
 yl:∀k e a h r,c.yl k e a h=some r->c'.yl k e a h=some r
theorem D8(kb s:Nat)(vs:List AV):eD kb s vs≠0:=by unfold eD;split<;>omega
theorem nM{c c':aY}(hc:BQ c c'){kb s:Nat}{h:Hp}{f:Nat}{th im:Bool}{vs:List AV}{r:AV×Eff}(h1:kB c kb s h f th im vs=some r):kB c' kb s h f th im vs=some r:=by
 unfold kB at h1 ⊢;cases hm:(if im then none else mapS (snap depth h) vs) with
 |some p=>
  rw[hm]at h1;simp only at h1 ⊢;cases hp:bJ c f p.1 with
  |none=>simp[hp]at h1
  |some q=>rw[hp]at h1;rw[hc.at0 _ _ _ hp];exact h1
 |none=>
  rw[hm]at h1;simp only at h1 ⊢;cases hp:c f vs (eD kb s vs) h with
  |none=>simp[hp]at h1
  |some q=>rw[hp]at h1;rw[hc.off _ _ _ _ _ (D8 kb s vs) hp];exact h1
theorem yT{c c':aY}(hc:BQ c c'){h:Hp}{f:Nat}{vs:List AV}:∀{n b:Nat}{x:AV×List Nat×List Ent},b≠0->m9 c h f vs n b=some x->m9 c' h f vs n b=some x
 |0,_,_,_,h1=>by simp[m9]at h1
 |n+1,b,x,hb,h1=>by
  unfold m9 at h1 ⊢;cases hp:c f vs b [] with
  |none=>simp[hp]at h1
  |some q=>
   rw[hp]at h1;rw[hc.off _ _ _ _ _ hb hp];simp only at h1 ⊢;split;rename_i hh;rw[if_pos hh]at h1;exact h1;rename_i hh;rw[if_neg hh]at h1;cases ht:m9 c h f vs n (b+4096) with
   |none=>simp[ht]at h1
   |some y=>rw[ht]at h1;rw[yT hc (by omega) ht];exact h1
theorem HO{c c':aY}(hc:BQ c c'){kb s:Nat}{h:Hp}{f:Nat}{vs:List AV}{r:AV×Eff}(h1:kR c kb s h f vs=some r):kR c' kb s h f vs=some r:=by
 unfold kR at h1 ⊢;split;rename_i ht;rw[if_pos ht]at h1;cases hq:m9 c h f vs 7 ((kb+s+1)*65536) with
 |none=>simp[hq]at h1
 |some y=>rw[hq]at h1;rw[yT hc (by omega) hq];exact h1
 rename_i ht;rw[if_neg ht]at h1;cases h1
theorem uU{c c':aY}(hc:BQ c c'){kb s:Nat}{h:Hp}{f:Nat}{vs:List AV}{r:AV×Eff}(h1:jV c kb s h f vs=some r):jV c' kb s h f vs=some r:=by
 unfold jV at h1 ⊢;cases hq:c f vs (eD kb s vs) h with
 |none=>simp[hq]at h1
 |some y=>rw[hq]at h1;rw[hc.off _ _ _ _ _ (D8 kb s vs) hq];exact h1
theorem QW{c c':aY}(hc:BQ c c'){kb:Nat}{r:R}{h:Hp}{vs:List AV}{x:AV×Eff}(h1:opR c kb r h vs=some x):opR c' kb r h vs=some x:=by unfold opR at h1 ⊢;split at h1;exact nM hc h1;exact HO hc h1;exact uU hc h1;split at h1;exact uU hc h1;cases h1;split at h1;exact nM hc h1;split at h1;rename_i hy;rw[hc.yl _ _ _ _ _ hy];exact h1;cases h1;exact nM hc h1;cases h1;split at h1;split at h1;exact nM hc h1;cases h1;cases h1;exact h1
theorem yX{gl:Nat->Option AV}{c c':aY}(hc:kT c c'){kb:Nat}{r:R}{st:St}{x:St×Eff}(h1:iE gl c kb r st=some x):iE gl c' kb r st=some x:=by
 unfold iE at h1 ⊢;generalize wanted st.env r.gd=wg at h1 ⊢;rcases wg with _|_|_;exact h1;exact h1;simp only at h1 ⊢;cases ho:opR c kb r st.hp (r.xs.map (X.ev gl st.env)) with
 |none=>simp[ho]at h1
 |some p=>rw[ho]at h1;rw[IW hc ho];exact h1
theorem u7{gl:Nat->Option AV}{c c':aY}(hc:kT c c'){kb:Nat}:∀{rs:List R}{st st':St},nA gl c kb rs st=some st'->nA gl c' kb rs st=some st'
 |[],_,_,h=>h
 |r::rs,st,st',h=>by
  unfold nA at h ⊢;cases hs:iE gl c kb r st with
  |none=>simp[hs]at h
  |some p=>rw[hs]at h;rw[yX hc hs];exact u7 hc h
theorem sL{gl:Nat->Option AV}{c c':aY}(hc:kT c c'){kb:Nat}:∀{rs:List R}{st:St}{x:St×List Eff},hJ gl c kb rs st=some x->hJ gl c' kb rs st=some x
 |[],_,_,h=>h
 |r::rs,st,x,h=>by
  unfold hJ at h ⊢;cases hs:iE gl c kb r st with
  |none=>simp[hs]at h
  |some p=>
   rw[hs]at h;rw[yX hc hs];simp only at h ⊢;cases hr:hJ gl c kb rs p.1 with
   |none=>simp[hr]at h
   |some q=>rw[hr]at h;rw[sL hc hr];exact h
theorem sR{f f':St->Option (Ex×St)}(hf:∀st x,f st=some x->f' st=some x){clr:List Bool}:∀{n n':Nat}{st:St}{x:Ex×St},n<=n'->jI f clr n st=some x->jI f' clr n' st=some x
 |0,_,_,_,_,h=>by simp[jI]at h
 |n+1,0,_,_,hn,_=>by omega
 |n+1,n'+1,st,x,hn,h=>by
  simp only[jI]at h ⊢;cases hs:f ⟨clear clr st.env,st.hp⟩ with
  |none=>simp[hs]at h
  |some p=>
   rw[hs]at h;rw[hf _ _ hs];obtain⟨e,s⟩:=p;cases e with
   |nor=>exact sR hf (by omega) h
   |ext id=>exact h
   |ret=>exact h
theorem xN{α : Type}{eq : α -> α -> Bool}{f g:Nat->Option α}(hf:∀b r,f b=some r->g b=some r):∀{l:List Nat}{r : α},iM eq f l=some r->iM eq g l=some r
 |[],_,h=>by simp[iM]at h
 |[b],_,h=>hf _ _ h
 |b::b2::l,r,h=>by
  simp only[iM]at h ⊢;split at h
  case h_2=>cases h
  rename_i r1 s1 h1 h2;rw[hf _ _ h1,xN hf h2];exact h
theorem zN{f f':St->Option (Ex×St)}{fin fin':Ex×St->Option (Ex×St)}(hf:∀st x,f st=some x->f' st=some x)(hg:∀o x,fin o=some x->fin' o=some x){it nx more out:Nat}{clr:List Bool}:∀{n n':Nat}{st:St}{x:Ex×St},n<=n'->mrN f fin it nx more out clr n st=some x->mrN f' fin' it nx more out clr n' st=some x
 |0,_,_,_,_,h=>by simp[mrN]at h
 |n+1,0,_,_,hn,_=>by omega
 |n+1,n'+1,st,x,hn,h=>by
  simp only[mrN]at h ⊢;split at h
  case isFalse=>cases h
  rename_i hl;rw[if_pos hl];split at h
  case h_2=>cases h
  rename_i k e hit;split at h
  case h_2=>cases h
  rename_i l o hx;split at h
  ·rename_i hle
   try rw[if_pos hle]
   cases hk:killI st.hp k e with
   |none=>simp[hk]at h
   |some h2=>simp only[hk,Option.bind_some]at h ⊢;exact hg _ _ h
  ·rename_i hle
   try rw[if_neg hle]
   refine xN (λb r hr=>?_) h;split at hr;rename_i s1 h1;rw[hf _ _ h1];exact zN hf hg (by omega) hr;rename_i x1 s1 hne h1;rw[hf _ _ h1];cases x1 with
   |nor=>exact(hne rfl).elim
   |ext id=>
    cases hk:killI s1.hp k e with
    |none=>simp[hk]at hr
    |some h2=>simp only[hk,Option.bind_some]at hr ⊢;exact hg _ _ hr
   |ret=>
    cases hk:killI s1.hp k e with
    |none=>simp[hk]at hr
    |some h2=>simp only[hk,Option.bind_some]at hr ⊢;exact hg _ _ hr
   cases hr
theorem oI{gl:Nat->Option AV}{c c':aY}(hc:kT c c'){kb n n':Nat}(hn:n<=n'):∀{k:C}{st:St}{x:Ex×St},bB gl c kb n k st=some x->bB gl c' kb n' k st=some x:=by
 intro k
 induction k with
 |skip=>intro st x h;exact h
 |reg rs d=>
  intro st x h;cases d with
  |false=>
   simp only[bB]at h ⊢;cases hr:nA gl c kb rs st with
   |none=>simp[hr]at h
   |some s=>rw[hr]at h;rw[u7 hc hr];exact h
  |true=>
   simp only[bB]at h ⊢;cases hr:hJ gl c kb rs st with
   |none=>simp[hr]at h
   |some s=>rw[hr]at h;rw[sL hc hr];exact h
 |seq a b iha ihb=>
  intro st x h;simp only[bB]at h ⊢;cases ha:bB gl c kb n a st with
  |none=>simp[ha]at h
  |some p=>
   rw[ha]at h;rw[iha ha];obtain⟨e,s⟩:=p;cases e with
   |nor=>exact ihb h
   |ext id=>exact h
   |ret=>exact h
 |cond x a b iha ihb=>intro st y h;simp only[bB]at h ⊢;split at h;exact iha h;exact ihb h;cases h
 |block id b ih=>
  intro st x h;simp only[bB]at h ⊢;cases hb:bB gl c kb n b st with
  |none=>simp[hb]at h
  |some p=>rw[hb]at h;rw[ih hb];exact h
 |loop b m ih=>intro st x h;simp only[bB]at h ⊢;exact sR (λst x q=>ih q) hn h
 |exit id=>intro st x h;exact h
 |ret=>intro st x h;exact h
 |rf x s ps a b=>
  intro st y h;simp only[bB]at h ⊢;split at h
  case h_2=>cases h
  rename_i f cs hf;split at h
  case h_2=>cases h
  rename_i rr h' hcall;rw[hc.fn _ _ _ _ _ hcall];exact h
 |bad=>intro st x h;simp[bB]at h
 |mr it nx more out b clr ih=>intro st x h;simp only[bB]at h ⊢;exact zN (λst x q=>ih q) (λ_ _ q=>q) hn h
 |mq p id it nx more out b clr c2 msk drop ihp ih ih2=>
  intro st x h;simp only[bB]at h ⊢;split at h;rename_i st1 h1;rw[ihp h1];refine zN (λst x q=>ih q) (λo x q=>?_) hn h;simp only[kW]at q ⊢;obtain⟨y,q1,q2⟩:=q;refine⟨y,?_,q2⟩;split at q1;exact ih2 q1;exact q1;rename_i hne;rw[ihp h];obtain⟨x,s⟩:=x;cases x with
  |nor=>exact absurd h (hne _)
  |ext id=>rfl
  |ret=>rfl
theorem dY(pg:Pg):∀{n n':Nat},n<=n'->kT (aZ pg n) (aZ pg n')
 |0,_,_=>⟨by intro f a kb h r hq;simp[aZ]at hq,by intro k e a h r hq;simp[aZ]at hq⟩
 |n+1,0,h=>by omega
 |n+1,n'+1,hn=>by
  refine⟨?_,λk e a h r hq=>by
   simp only[aZ]at hq ⊢;exact pX (λc b st r hr=>oI (dY pg (Nat.le_of_succ_le_succ hn)) (Nat.le_of_succ_le_succ hn) hr) hq⟩
  intro f a kb h r hq;simp only[aZ]at hq ⊢;cases hf:pg.fs f with
  |none=>rw[hf]at hq;exact hq
  |some cf=>
   rw[hf]at hq;simp only at hq ⊢;cases he:bB pg.gl (aZ pg n) kb n cf.body ⟨enter cf a,h⟩ with
   |none=>simp[he]at hq
   |some p=>rw[he]at hq;rw[oI (dY pg (Nat.le_of_succ_le_succ hn)) (Nat.le_of_succ_le_succ hn) he];exact hq
theorem MV{gl:Nat->Option AV}{s:StE}{t:St}(h:StR s t)(x:X):x.evE gl s.env=x.ev gl t.env:=by
 cases x with
 |t n=>simp only[X.evE,X.ev];exact(h.env.2 n).symm
 |_=>rfl
theorem B9{gl:Nat->Option AV}{c c':aY}(hc:BQ c c'){kb:Nat}{r:R}{s s':StE}{t:St}{e:Eff}(hst:StR s t)(h:OJ gl c kb r s=some (s',e)) :
  ∃t',iE gl c' kb r t=some (t',e)/\StR s' t':=by
 have hw:EH s.env r.gd=wanted t.env r.gd:=by
  unfold EH wanted;cases r.gd with
  |none=>rfl
  |some p=>simp only[hst.env.2];rfl
 have hx:r.xs.map (X.evE gl s.env)=r.xs.map (X.ev gl t.env):=List.map_congr_left (λx _=>MV hst x);unfold OJ at h;unfold iE;rw[hw,hx]at h;generalize wanted t.env r.gd=wg at h ⊢;rcases wg with _|_|_;cases h;simp only at h ⊢;cases h;exact⟨_,rfl,⟨hst.env.set _ _,hst.hp⟩⟩;simp only at h ⊢;rw[hst.hp]at h;cases ho:opR c kb r t.hp (r.xs.map (X.ev gl t.env)) with
 |none=>simp[ho]at h
 |some p=>rw[ho]at h;rw[QW hc ho];simp only at h ⊢;cases h;exact⟨_,rfl,⟨hst.env.set _ _,rfl⟩⟩
theorem CH{gl:Nat->Option AV}{c c':aY}(hc:BQ c c'){kb:Nat}:∀{rs:List R}{s s':StE}{t:St},StR s t->CI gl c kb rs s=some s'->∃t',nA gl c' kb rs t=some t'/\StR s' t'
 |[],s,s',t,hst,h=>by simp[CI]at h;subst h;exact⟨t,rfl,hst⟩
 |r::rs,s,s',t,hst,h=>by
  unfold CI at h;unfold nA;split at h
  case h_2=>cases h
  rename_i s1 e hs;obtain⟨t1,q1,q2⟩:=B9 hc hst hs;rw[q1];exact CH hc q2 h
theorem zG{gl:Nat->Option AV}{c c':aY}(hc:BQ c c'){kb:Nat}:∀{rs:List R}{s s':StE}{t:St}{es:List Eff},StR s t->u9 gl c kb rs s=some (s',es)->∃t',hJ gl c' kb rs t=some (t',es)/\StR s' t'
 |[],s,s',t,es,hst,h=>by simp[u9]at h;obtain⟨rfl,rfl⟩:=h;exact⟨t,rfl,hst⟩
 |r::rs,s,s',t,es,hst,h=>by
  unfold u9 at h;unfold hJ;split at h
  case h_2=>cases h
  rename_i s1 e hs;obtain⟨t1,q1,q2⟩:=B9 hc hst hs;cases hr:u9 gl c kb rs s1 with
  |none=>simp[hr]at h
  |some p=>obtain⟨s2,es2⟩:=p;simp[hr]at h;obtain⟨rfl,rfl⟩:=h;obtain⟨t2,q3,q4⟩:=zG hc q2 hr;exact⟨t2,by rw[q1];simp only;rw[q3];rfl,q4⟩
theorem CT{f:StE->Option (Ex×StE)}{f':St->Option (Ex×St)}(hf:∀s t x s',StR s t->f s=some (x,s')->∃t',f' t=some (x,t')/\StR s' t'){clr:List Bool} :
  ∀{n n':Nat}{s s':StE}{t:St}{x:Ex},n<=n'->StR s t->I7 f clr n s=some (x,s')->∃t',jI f' clr n' t=some (x,t')/\StR s' t'
 |0,_,_,_,_,_,_,_,h=>by simp[I7]at h
 |n+1,0,_,_,_,_,hn,_,_=>by omega
 |n+1,n'+1,s,s',t,x,hn,hst,h=>by
  simp only[I7]at h;simp only[jI];split at h
  case h_1=>cases h
  rename_i e he;have hst':StR ⟨e,s.hp⟩ ⟨clear clr t.env,t.hp⟩:=⟨hst.env.clear he,hst.hp⟩
  split at h;rename_i s1 h1;obtain⟨t1,q1,q2⟩:=hf _ _ _ _ hst' h1;rw[q1];exact CT hf (by omega) q2 h;rename_i hne;obtain⟨t1,q1,q2⟩:=hf _ _ _ _ hst' h;rw[q1];cases x with
  |nor=>exact absurd h (hne _)
  |ext id=>exact⟨t1,rfl,q2⟩
  |ret=>exact⟨t1,rfl,q2⟩
theorem EC{F:Nat->Option (Ex×StE)}{G:Nat->Option (Ex×St)}(hf:∀b x s',F b=some (x,s')->∃t',G b=some (x,t')/\StR s' t') :
  ∀{l:List Nat}{x:Ex}{s':StE},iM aGt F l=some (x,s')->∃t',iM eqR G l=some (x,t')/\StR s' t'
 |[],_,_,h=>by simp[iM]at h
 |[b],_,_,h=>hf _ _ _ h
 |b::b2::l,x,s',h=>by
  simp only[iM]at h;split at h
  case h_2=>cases h
  rename_i r1 s1 h1 h2;split at h
  case isFalse=>cases h
  rename_i hq;cases h;obtain⟨x2,s2⟩:=s1;obtain⟨t1,a1,a2⟩:=hf _ _ _ h1;obtain⟨t2,b1,b2⟩:=EC hf h2;refine⟨t1,?_,a2⟩;simp only[iM];rw[a1,b1];simp only;have:eqR (x,t1) (x2,t2)=true:=by simp only[aGt,a2.env.list,b2.env.list,a2.hp,b2.hp]at hq;exact hq
  rw[if_pos this]
theorem FE{f:StE->Option (Ex×StE)}{f':St->Option (Ex×St)}(hf:∀s t x s',StR s t->f s=some (x,s')->∃t',f' t=some (x,t')/\StR s' t'){fin:Ex×StE->Option (Ex×StE)}{fin':Ex×St->Option (Ex×St)}(hg:∀x1 s t x s',StR s t->fin (x1,s)=some (x,s')->∃t',fin' (x1,t)=some (x,t')/\StR s' t'){it nx more out:Nat}{clr:List Bool} :
  ∀{n n':Nat}{s s':StE}{t:St}{x:Ex},n<=n'->StR s t->mrE f fin it nx more out clr n s=some (x,s')->∃t',mrN f' fin' it nx more out clr n' t=some (x,t')/\StR s' t'
 |0,_,_,_,_,_,_,_,h=>by simp[mrE]at h
 |n+1,0,_,_,_,_,hn,_,_=>by omega
 |n+1,n'+1,s,s',t,x,hn,hst,h=>by
  simp only[mrE]at h;simp only[mrN];split at h
  case isFalse=>cases h
  rename_i hl;rw[<-hst.env.1]at hl;rw[if_pos hl];split at h
  case h_1=>cases h
  rename_i e he;have hc:=hst.env.clear he;split at h
  case h_2=>cases h
  rename_i k ep hit;rw[<-hc.2]at hit;rw[hit];simp only;split at h
  case h_2=>cases h
  rename_i l o hx;rw[hst.hp]at hx;rw[hx];simp only;have hset:∀v b,rS (SY e nx more v b) (((clear clr t.env).set nx v).set more (.bool b)):=λv b=>(hc.set (some nx) v).set (some more) (.bool b);split at h;rename_i hle;rw[if_pos hle];rw[hst.hp]at h;cases hk:killI t.hp k ep with
  |none=>simp[hk]at h
  |some h2=>simp only[hk,Option.bind_some]at h ⊢;exact hg _ _ _ _ _ ⟨hset _ _,rfl⟩ h
  rename_i hle;rw[if_neg hle];refine EC (λb x s' hr=>?_) h;split at hr;rename_i s1 h1;obtain⟨t1,q1,q2⟩:=hf _ ⟨((clear clr t.env).set nx (.tup [.bool true,.top,.top])).set more (.bool true),t.hp.put k ep (o b)⟩ _ _ ⟨hset _ _,by rw[hst.hp]⟩ h1;rw[q1];exact FE hf hg (by omega) q2 hr;rename_i x1 s1 hne h1;obtain⟨t1,q1,q2⟩:=hf _ ⟨((clear clr t.env).set nx (.tup [.bool true,.top,.top])).set more (.bool true),t.hp.put k ep (o b)⟩ _ _ ⟨hset _ _,by rw[hst.hp]⟩ h1;rw[q1]
  have key:∀y,(killI s1.hp k ep).bind (λh=>fin (x1,(⟨s1.env,h⟩:StE)))=some (x,y)->∃t',(killI t1.hp k ep).bind (λh=>fin' (x1,(⟨t1.env,h⟩:St)))=some (x,t')/\StR y t':=by
   intro y hy;rw[q2.hp]at hy;cases hk:killI t1.hp k ep with
   |none=>simp[hk]at hy
   |some h2=>simp only[hk,Option.bind_some]at hy ⊢;exact hg x1 ⟨s1.env,h2⟩ ⟨t1.env,h2⟩ _ _ ⟨q2.env,rfl⟩ hy
  cases x1 with
  |nor=>exact(hne rfl).elim
  |ext id=>exact key _ hr
  |ret=>exact key _ hr
  cases hr
theorem DA{gl:Nat->Option AV}{c c':aY}(hc:BQ c c'){kb n n':Nat}(hn:n<=n'):∀{k:C}{s s':StE}{t:St}{x:Ex},StR s t->gD gl c kb n k s=some (x,s') ->
  ∃t',bB gl c' kb n' k t=some (x,t')/\StR s' t':=by
 intro k
 induction k with
 |skip=>intro s s' t x hst h;simp[gD]at h;obtain⟨rfl,rfl⟩:=h;exact⟨t,rfl,hst⟩
 |reg rs d=>
  intro s s' t x hst h;cases d with
  |false=>
   simp only[gD]at h;simp only[bB];cases hr:CI gl c kb rs s with
   |none=>simp[hr]at h
   |some s1=>simp[hr]at h;obtain⟨rfl,rfl⟩:=h;obtain⟨t1,q1,q2⟩:=CH hc hst hr;exact⟨t1,by rw[q1];rfl,q2⟩
  |true=>
   simp only[gD]at h;simp only[bB];split at h
   case h_2=>cases h
   rename_i s1 es hr;obtain⟨t1,q1,q2⟩:=zG hc hst hr;rw[q1];simp only;split at h
   case isFalse=>cases h
   rename_i ha;rw[if_pos ha];cases h;exact⟨t1,rfl,q2⟩
 |seq a b iha ihb=>
  intro s s' t x hst h;simp only[gD]at h;simp only[bB];split at h;rename_i s1 h1;obtain⟨t1,q1,q2⟩:=iha hst h1;rw[q1];exact ihb q2 h;rename_i hne;obtain⟨t1,q1,q2⟩:=iha hst h;rw[q1];cases x with
  |nor=>exact absurd h (hne _)
  |ext id=>exact⟨t1,rfl,q2⟩
  |ret=>exact⟨t1,rfl,q2⟩
 |cond y a b iha ihb=>intro s s' t x hst h;simp only[gD]at h;simp only[bB];rw[MV hst]at h;split at h;rename_i hb;rw[hb];exact iha hst h;rename_i hb;rw[hb];exact ihb hst h;cases h
 |block id b ih=>
  intro s s' t x hst h;simp only[gD]at h;simp only[bB];split at h;rename_i i s1 h1;obtain⟨t1,q1,q2⟩:=ih hst h1;rw[q1];simp only[cond_eq_ite,Nat.beq_eq]at h ⊢;split at h;rename_i hi;rw[if_pos hi];cases h;exact⟨t1,rfl,q2⟩;rename_i hi;rw[if_neg hi];cases h;exact⟨t1,rfl,q2⟩;rename_i hne;obtain⟨t1,q1,q2⟩:=ih hst h;rw[q1];cases x with
  |nor=>exact⟨t1,rfl,q2⟩
  |ext id=>exact absurd h (hne _ _)
  |ret=>exact⟨t1,rfl,q2⟩
 |loop b m ih=>intro s s' t x hst h;simp only[gD]at h;simp only[bB];exact CT (λs t x s' q1 q2=>ih q1 q2) hn hst h
 |exit id=>intro s s' t x hst h;simp[gD]at h;obtain⟨rfl,rfl⟩:=h;exact⟨t,rfl,hst⟩
 |ret=>intro s s' t x hst h;simp[gD]at h;obtain⟨rfl,rfl⟩:=h;exact⟨t,rfl,hst⟩
 |rf fx sk ps ca cb=>
  intro s s' t x hst h;simp only[gD]at h;simp only[bB];rw[MV hst,hst.env.list,hst.hp]at h;split at h
  case h_2=>cases h
  rename_i f cs hf;rw[hf];simp only;split at h
  case h_2=>cases h
  rename_i rr h' hcall;rw[hc.off _ _ _ _ _ (by omega) hcall];simp only;unfold U0 at h;split at h
  case h_2=>cases h
  rename_i y st1 he;cases h;unfold DG at he ⊢;split at he
  case h_2=>cases he
  split at he
  case isFalse=>cases he
  rename_i hee;rw[if_pos hee];split at he;cases he;exact⟨_,rfl,⟨hst.env,rfl⟩⟩;cases he;exact⟨_,rfl,⟨hst.env,rfl⟩⟩;cases he;exact⟨_,rfl,⟨hst.env,rfl⟩⟩;cases he
 |bad=>intro s s' t x hst h;simp[gD]at h
 |mr it nx more out b clr ih=>intro s s' t x hst h;simp only[gD]at h;simp only[bB];exact FE (λs t x s' q1 q2=>ih q1 q2) (λx1 s t x s' q1 q2=>by cases q2;exact⟨t,rfl,q1⟩) hn hst h
 |mq p id it nx more out b clr c2 msk drop ihp ih ih2=>
  intro s s' t x hst h;simp only[gD]at h;simp only[bB];split at h;rename_i s1 h1;obtain⟨t1,q1,q2⟩:=ihp hst h1;rw[q1];refine FE (λs t x s' q1 q2=>ih q1 q2) (λx1 s t x s' r1 r2=>?_) hn q2 h;have key:∀(y:Ex×StE)(t2:St),StR y.2 t2->TU kb msk drop y=some (x,s')->∃t',wQ kb msk drop (y.1,t2)=(x,t')/\StR s' t':=by intro y t2 hy hm;simp only[TU,kW,bA]at hm;obtain⟨env,m1,rfl,rfl⟩:=hm;exact⟨_,rfl,⟨hy.env.clear m1,by rw[hy.hp]⟩⟩
  simp only at r2 ⊢;split at r2;rename_i hb;rw[hb];simp only;cases hx:gD gl c kb n c2 s with
  |none=>simp[hx]at r2
  |some y=>simp only[hx,Option.bind_some]at r2;obtain⟨y1,y2⟩:=y;obtain⟨t2,a1,a2⟩:=ih2 r1 hx;rw[a1];obtain⟨t',k1,k2⟩:=key (y1,y2) t2 a2 r2;exact⟨t',by rw[Option.map_some,k1],k2⟩
  rename_i hb;simp only[Option.bind_some]at r2;obtain⟨t',k1,k2⟩:=key (lE id x1,s) t r1 r2;refine⟨t',?_,k2⟩;cases hbx:lE id x1 with
  |nor=>exact absurd hbx hb
  |ext i=>rw[hbx]at k1;simp only[Option.map_some,k1]
  |ret=>rw[hbx]at k1;simp only[Option.map_some,k1]
  rename_i hne;obtain⟨t1,q1,q2⟩:=ihp hst h;rw[q1];cases x with
  |nor=>exact absurd h (hne _)
  |ext id=>exact⟨t1,rfl,q2⟩
  |ret=>exact⟨t1,rfl,q2⟩
theorem L4{s:StE}{t:St}(hst:StR s t)(rs:List (Sum Nat (Nat×Nat×Bool))):E2 s rs=result t rs:=by
 have h1:∀r,E3 s r=wM t r:=by
  intro r;cases r with
  |inl u=>simp only[E3,wM,hst.env.2]
  |inr p=>simp only[E3,wM,hst.env.2,hst.hp];rfl
 have h2:∀rs,xX s rs=oP t rs:=by
  intro rs
  induction rs with
  |nil=>rfl
  |cons r rs ih=>simp only[xX,oP,h1,ih];rfl
 unfold E2 result;rw[h2];rfl
theorem MZ{h:Hp}{v:AV}(hv:v.tree=true):conv h v=some v:=by
 have:snap depth h v=some (v,[]):=by unfold depth snap;rw[if_pos hv]
 cases v<;>first|(simp only[conv,this];rfl)|simp[AV.tree]at hv
theorem I1{r:AV}(h:qD r=true):conv (sG r).2 (sG r).1=some r:=by unfold qD at h;split at h;rename_i q hq;rw[hq,iY _ _ h];cases h
theorem BS{r:AV}(h:r.tree=true):qD r=true:=by
 have h1:sG r=(r,[]):=by cases r<;>first|rfl|simp[AV.tree]at h
 unfold qD;rw[h1];simp only[MZ h,lK]
theorem tD(pg:Pg){memo:Nat->List AV->Option AV}{m:Nat}(hm:∀f a r,memo f a=some r->qD r=true/\bJ (aZ pg m) f a=some r):∀n,BQ (cM pg memo n) (aZ pg (m+n))
 |0=>⟨λf a kb h r _ hq=>by simp[cM]at hq,λf a r hq=>by simp[bJ,cM]at hq,λk e a h r hq=>by simp[cM]at hq⟩
 |n+1=>by
  have key:∀f a kb h r,FF memo f a kb h=none->cM pg memo (n+1) f a kb h=some r->aZ pg (m+(n+1)) f a kb h=some r:=by
   intro f a kb h r hn hq;simp only[cM]at hq;rw[hn]at hq;simp only at hq;rw[<-Nat.add_assoc];simp only[aZ];split at hq;rename_i hf;rw[hf];exact hq;rename_i cf hf;rw[hf];simp only;split at hq;cases hq;rename_i x s hne he;obtain⟨t,q1,q2⟩:=DA (t:=⟨enter cf a,h⟩) (tD pg hm n) (Nat.le_add_left n m) ⟨rS.enter cf a,rfl⟩ he;rw[q1];rw[L4 q2,q2.hp]at hq;cases x with
   |nor=>exact hq
   |ret=>exact hq
   |ext id=>exact(hne id rfl).elim
   cases hq
  have hyl:∀k e a h r,(cM pg memo (n+1)).yl k e a h=some r->(aZ pg (m+(n+1))).yl k e a h=some r:=by
   intro k e a h r hq;rw[<-Nat.add_assoc];refine pX (λc b st r hr=>?_) hq;unfold S3 at hr;split at hr
   case h_2=>cases hr
   rename_i x s he;cases hr;obtain⟨t,q1,q2⟩:=DA (t:=⟨st.env,st.hp⟩) (tD pg hm n) (Nat.le_add_left n m) ⟨rS.of st.env,rfl⟩ he;have:t=⟨s.env.list,s.hp⟩:=by rw[q2.env.list,q2.hp]
   rw[q1,this]
  refine⟨λf a kb h r hk hq=>key f a kb h r ?_ hq,λf a r hq=>?_,hyl⟩;cases kb with
  |zero=>exact absurd rfl hk
  |succ k=>rfl
  unfold bJ at hq;cases hc:cM pg memo (n+1) f a 0 [] with
  |none=>simp[hc]at hq
  |some p=>
   rw[hc]at hq;cases hme:memo f a with
   |some r'=>
    have:cM pg memo (n+1) f a 0 []=some (sG r'):=by simp only[cM,FF,hme]
    rw[this]at hc;cases hc;obtain⟨h1,h2⟩:=hm f a r' hme;simp only[I1 h1,aW]at hq;subst hq;exact fR (dY pg (by omega)) h2
   |none=>have:=key f a 0 [] p (by simp[FF,hme]) hc;unfold bJ;rw[this];exact hq
theorem RW(pg:Pg){memo:Nat->List AV->Option AV}{m:Nat}(hm:∀f a r,memo f a=some r->r.tree=true/\bJ (aZ pg m) f a=some r)(n:Nat):BQ (cM pg memo n) (aZ pg (m+n)):=
 tD pg (λf a r h=>⟨BS (hm f a r h).1,(hm f a r h).2⟩) n
end
section
variable{pg:Pg}{kb:Nat}
def Ret(pg:Pg)(f:Nat)(ts:List AV)(r:AV):Prop:=∃n,bJ (aZ pg n) f ts=some r
def tF(pg:Pg)(f:Nat)(vs:List AV)(kb:Nat)(h:Hp)(r:AV)(h':Hp):Prop:=∃n,aZ pg n f vs kb h=some (r,h')
def WX(pg:Pg)(kb:Nat)(c:C)(st:St)(Q:Ex->St->Prop):Prop:=∃n ex st',bB pg.gl (aZ pg n) kb n c st=some (ex,st')/\Q ex st'
def WR(pg:Pg)(kb:Nat)(rs:List R)(st:St)(K:St->Prop):Prop:=∃n st',nA pg.gl (aZ pg n) kb rs st=some st'/\K st'
def WT(pg:Pg)(kb:Nat)(rs:List R)(st:St)(K:St->List Eff->Prop):Prop:=∃n st' es,hJ pg.gl (aZ pg n) kb rs st=some (st',es)/\K st' es
def WO(pg:Pg)(kb:Nat)(k:K)(s:Nat)(h:Hp)(vs:List AV)(Q:AV->Eff->Prop):Prop:=
 ∃n v eff,opR (aZ pg n) kb ⟨none,k,[],none,0,s⟩ h vs=some (v,eff)/\Q v eff
def lG(A:St->Prop)(Q:Ex->St->Prop)(ex:Ex)(st:St):Prop:=
 match ex with
 |.nor=>A st
 |.ext i=>Q (.ext i) st
 |.ret=>Q .ret st
theorem QK(A:St->Prop)(Q:Ex->St->Prop)(st:St):lG A Q .nor st=A st:=rfl
theorem QL(A:St->Prop)(Q:Ex->St->Prop)(i:Nat)(st:St):lG A Q (.ext i) st=Q (.ext i) st:=rfl
theorem QJ(A:St->Prop)(Q:Ex->St->Prop)(st:St):lG A Q .ret st=Q .ret st:=rfl
def nZ(id:Nat)(Q:Ex->St->Prop)(ex:Ex)(st:St):Prop:=
 match ex with
 |.nor=>Q .nor st
 |.ext i=>if i=id then Q .nor st else Q (.ext i) st
 |.ret=>Q .ret st
theorem N5(id:Nat)(Q:Ex->St->Prop)(st:St):nZ id Q .nor st=Q .nor st:=rfl
theorem N6(id:Nat)(Q:Ex->St->Prop)(i:Nat)(st:St):nZ id Q (.ext i) st=if i=id then Q .nor st else Q (.ext i) st:=rfl
theorem N4(id:Nat)(Q:Ex->St->Prop)(st:St):nZ id Q .ret st=Q .ret st:=rfl
def U7(v:AV)(A B:Prop):Prop:=
 match v with
 |.bool true=>A
 |.bool false=>B
 |_=>False
def IV(o:Option (AV×Eff))(Q:AV->Eff->Prop):Prop:=
 match o with
 |some (v,e)=>Q v e
 |none=>False
theorem nL{c:C}{st:St}{o:Ex×St}{n m:Nat}(h:n<=m)(e:bB pg.gl (aZ pg n) kb n c st=some o):bB pg.gl (aZ pg m) kb m c st=some o:=
 oI (dY pg h) h e
theorem XM{rs:List R}{st st':St}{n m:Nat}(h:n<=m)(e:nA pg.gl (aZ pg n) kb rs st=some st'):nA pg.gl (aZ pg m) kb rs st=some st':=
 u7 (dY pg h) e
theorem aBq(st:St)(Q:Ex->St->Prop):WX pg kb .skip st Q=Q .nor st:=by apply propext;constructor;rintro⟨n,ex,st',h,q⟩;simp only[bB,aW,bA]at h;obtain⟨rfl,rfl⟩:=h;exact q;intro q;exact⟨0,_,_,rfl,q⟩
theorem aBs(id:Nat)(st:St)(Q:Ex->St->Prop):WX pg kb (.exit id) st Q=Q (.ext id) st:=by apply propext;constructor;rintro⟨n,ex,st',h,q⟩;simp only[bB,aW,bA]at h;obtain⟨rfl,rfl⟩:=h;exact q;intro q;exact⟨0,_,_,rfl,q⟩
theorem aHI(st:St)(Q:Ex->St->Prop):WX pg kb .ret st Q=Q .ret st:=by apply propext;constructor;rintro⟨n,ex,st',h,q⟩;simp only[bB,aW,bA]at h;obtain⟨rfl,rfl⟩:=h;exact q;intro q;exact⟨0,_,_,rfl,q⟩
theorem aHJ(rs:List R)(st:St)(Q:Ex->St->Prop):WX pg kb (.reg rs false) st Q=WR pg kb rs st (λst'=>Q .nor st'):=by apply propext;constructor;rintro⟨n,ex,st',h,q⟩;simp only[bB,kW,bA]at h;obtain⟨s,h1,rfl,rfl⟩:=h;exact⟨n,_,h1,q⟩;rintro⟨n,st',h,q⟩;exact⟨n,_,_,by simp only[bB,h,Option.map_some],q⟩
theorem aBr(rs:List R)(st:St)(Q:Ex->St->Prop):WX pg kb (.reg rs true) st Q=WT pg kb rs st (λst' es=>bT 0 rs es=true/\Q .nor st'):=by apply propext;constructor;rintro⟨n,ex,st',h,q⟩;simp only[bB]at h;split at h;rename_i s es h1;split at h;simp only[aW,bA]at h;obtain⟨rfl,rfl⟩:=h;exact⟨n,_,_,h1,by assumption,q⟩;cases h;cases h;rintro⟨n,st',es,h,a,q⟩;exact⟨n,_,_,by simp only[bB,h,a,if_true],q⟩
theorem aBt(c:X)(a b:C)(st:St)(Q:Ex->St->Prop):WX pg kb (.cond c a b) st Q=U7 (c.ev pg.gl st.env) (WX pg kb a st Q) (WX pg kb b st Q):=by
 apply propext;simp only[WX,bB];cases c.ev pg.gl st.env with
 |bool x=>cases x<;>exact Iff.rfl
 |_=>simp[U7]
theorem aHH(a b:C)(st:St)(Q:Ex->St->Prop):WX pg kb (.seq a b) st Q=WX pg kb a st (lG (λst'=>WX pg kb b st' Q) Q):=by
 apply propext;constructor;rintro⟨n,ex,st',h,q⟩;simp only[bB]at h;cases ha:bB pg.gl (aZ pg n) kb n a st with
 |none=>simp[ha]at h
 |some o=>
  obtain⟨ex1,st1⟩:=o;rw[ha]at h;refine⟨n,ex1,st1,ha,?_⟩;cases ex1 with
  |nor=>exact⟨n,ex,st',h,q⟩
  |ext i=>simp only[aW,bA]at h;obtain⟨rfl,rfl⟩:=h;exact q
  |ret=>simp only[aW,bA]at h;obtain⟨rfl,rfl⟩:=h;exact q
 rintro⟨n,ex,st',h,q⟩;cases ex with
 |nor=>obtain⟨m,ex2,st2,h2,q2⟩:=q;refine⟨max n m,ex2,st2,?_,q2⟩;simp only[bB,nL (Nat.le_max_left n m) h];exact nL (Nat.le_max_right n m) h2
 |ext i=>exact⟨n,_,_,by simp only[bB,h],q⟩
 |ret=>exact⟨n,_,_,by simp only[bB,h],q⟩
theorem WV(id:Nat)(b:C)(st:St)(Q:Ex->St->Prop):WX pg kb (.block id b) st Q=WX pg kb b st (nZ id Q):=by
 apply propext;constructor;rintro⟨n,ex,st',h,q⟩;simp only[bB]at h;cases hb:bB pg.gl (aZ pg n) kb n b st with
 |none=>simp[hb]at h
 |some o=>
  obtain⟨ex1,st1⟩:=o;rw[hb]at h;refine⟨n,ex1,st1,hb,?_⟩;cases ex1 with
  |nor=>simp only[aW,bA]at h;obtain⟨rfl,rfl⟩:=h;exact q
  |ext i=>simp only at h;simp only[nZ];split at h<;>(simp only[aW,bA]at h;obtain⟨rfl,rfl⟩:=h;simp_all)
  |ret=>simp only[aW,bA]at h;obtain⟨rfl,rfl⟩:=h;exact q
 rintro⟨n,ex,st',h,q⟩;cases ex with
 |nor=>exact⟨n,_,_,by simp only[bB,h],q⟩
 |ret=>exact⟨n,_,_,by simp only[bB,h],q⟩
 |ext i=>simp only[nZ]at q;split at q;rename_i hi;exact⟨n,.nor,st',by simp only[bB,h,if_pos hi],q⟩;rename_i hi;exact⟨n,.ext i,st',by simp only[bB,h,if_neg hi],q⟩
theorem I5{b:C}{clr:List Bool}{st:St}{o:Ex×St}{n m k l:Nat}(h:n<=m)(hk:k<=l)(e:jI (bB pg.gl (aZ pg n) kb n b) clr k st=some o) :
  jI (bB pg.gl (aZ pg m) kb m b) clr l st=some o:=
 sR (λ_ _ q=>nL h q) hk e
theorem QA(b:C)(clr:List Bool)(st:St)(Q:Ex->St->Prop) :
  WX pg kb (.loop b clr) st Q=WX pg kb b ⟨clear clr st.env,st.hp⟩ (lG (λst'=>WX pg kb (.loop b clr) st' Q) Q):=by
 apply propext;constructor;rintro⟨n,ex,st',h,q⟩;simp only[bB]at h;cases n with
 |zero=>simp[jI]at h
 |succ n=>
  simp only[jI]at h;cases hb:bB pg.gl (aZ pg (n+1)) kb (n+1) b ⟨clear clr st.env,st.hp⟩ with
  |none=>simp[hb]at h
  |some o=>
   obtain⟨ex1,st1⟩:=o;rw[hb]at h;refine⟨n+1,ex1,st1,hb,?_⟩;cases ex1 with
   |nor=>exact⟨n+1,ex,st',I5 (Nat.le_refl _) (Nat.le_succ n) h,q⟩
   |ext i=>simp only[aW,bA]at h;obtain⟨rfl,rfl⟩:=h;exact q
   |ret=>simp only[aW,bA]at h;obtain⟨rfl,rfl⟩:=h;exact q
 rintro⟨n,ex,st',h,q⟩;cases ex with
 |nor=>obtain⟨m,ex2,st2,h2,q2⟩:=q;refine⟨max n m+1,ex2,st2,?_,q2⟩;simp only[bB]at h2 ⊢;rw[jI];rw[nL (Nat.le_trans (Nat.le_max_left n m) (Nat.le_succ _)) h];exact I5 (Nat.le_trans (Nat.le_max_right n m) (Nat.le_succ _)) (Nat.le_max_right n m) h2
 |ext i=>exact⟨n+1,_,_,by simp only[bB,jI,nL (Nat.le_succ n) h],q⟩
 |ret=>exact⟨n+1,_,_,by simp only[bB,jI,nL (Nat.le_succ n) h],q⟩
theorem SH{α : Type}(μ : α -> Nat)(E : α -> List AV->Hp->Prop){b:C}{clr:List Bool}{st:St}{Q:Ex->St->Prop}(a : α)(h0:E a (clear clr st.env) st.hp)
  (step:∀a env hp,E a env hp->WX pg kb b ⟨env,hp⟩ (lG (λst'=>∃a',μ a' < μ a/\E a' (clear clr st'.env) st'.hp) Q)) :
  WX pg kb (.loop b clr) st Q:=by
 have key:∀n a st,μ a<n->E a (clear clr st.env) st.hp->WX pg kb (.loop b clr) st Q:=by
  intro n
  induction n with
  |zero=>intro a st h;omega
  |succ n ih=>
   intro a st hn h;rw[QA];obtain⟨m,ex,st',h1,q⟩:=step a _ _ h;refine⟨m,ex,st',h1,?_⟩;cases ex with
   |nor=>obtain⟨a',h2,h3⟩:=q;exact ih a' st' (by omega) h3
   |ext i=>exact q
   |ret=>exact q
 exact key _ a st (Nat.lt_succ_self _) h0
theorem aHL(st:St)(A:St->Prop):WR pg kb [] st A=A st:=by apply propext;constructor;rintro⟨n,st',h,q⟩;simp only[nA,aW]at h;subst h;exact q;intro q;exact⟨0,_,rfl,q⟩
theorem MD{k:K}{s:Nat}{h:Hp}{vs:List AV}{x:AV×Eff}{n m:Nat}(hn:n<=m)(e:opR (aZ pg n) kb ⟨none,k,[],none,0,s⟩ h vs=some x) :
  opR (aZ pg m) kb ⟨none,k,[],none,0,s⟩ h vs=some x:=
 IW (dY pg hn) e
theorem QC(d:Option Nat)(k:K)(xs:List X)(bef s:Nat)(rs:List R)(st:St)(A:St->Prop) :
  WR pg kb (⟨d,k,xs,none,bef,s⟩::rs) st A=WO pg kb k s st.hp (xs.map (X.ev pg.gl st.env)) (λv eff=>WR pg kb rs ⟨eI st.env d v,eff.app st.hp⟩ A):=by
 apply propext;constructor;rintro⟨n,st',h,q⟩;simp only[nA,iE,wanted]at h;split at h;rename_i st1 e h1;split at h1;rename_i v eff h2;simp only[aW,bA]at h1;obtain⟨rfl,rfl⟩:=h1;exact⟨n,v,eff,h2,n,st',h,q⟩;cases h1;cases h;rintro⟨n,v,eff,h,m,st',h2,q⟩;refine⟨max n m,st',?_,q⟩;have e1:=MD (Nat.le_max_left n m) h;have e2:=XM (Nat.le_max_right n m) h2;have e3:opR (aZ pg (max n m)) kb ⟨d,k,xs,none,bef,s⟩ st.hp (xs.map (X.ev pg.gl st.env))=some (v,eff):=e1;simp only[nA,iE,wanted,e3];exact e2
def gdQ(v:AV)(b:Bool)(A B:Prop):Prop:=
 match v with
 |.bool c=>if c=b then A else B
 |.tup []=>B
 |_=>False
theorem WY(d:Option Nat)(k:K)(xs:List X)(t:Nat)(b:Bool)(bef s:Nat)(rs:List R)(st:St)(A:St->Prop) :
  WR pg kb (⟨d,k,xs,some (t,b),bef,s⟩::rs) st A =
   gdQ (gB st.env t) b (WO pg kb k s st.hp (xs.map (X.ev pg.gl st.env)) (λv eff=>WR pg kb rs ⟨eI st.env d v,eff.app st.hp⟩ A)) (WR pg kb rs ⟨eI st.env d (.tup []),st.hp⟩ A):=by
 rw[<-QC d k xs bef s];apply propext;have hb:∀c:Bool,(c==b)=decide (c=b):=λc=>by cases c<;>cases b<;>rfl
 simp only[WR,nA,iE,wanted];generalize gB st.env t=v;cases v with
 |bool c=>simp only[gdQ,hb];by_cases hc:c=b;simp only[hc,decide_true,if_true];exact Iff.rfl;simp only[hc,decide_false,if_false]
 |tup l=>cases l<;>simp[gdQ]
 |_=>simp[gdQ]
theorem aHK(st:St)(A:St->List Eff->Prop):WT pg kb [] st A=A st []:=by apply propext;constructor;rintro⟨n,st',es,h,q⟩;simp only[hJ,aW,bA]at h;obtain⟨rfl,rfl⟩:=h;exact q;intro q;exact⟨0,_,_,rfl,q⟩
theorem QB(d:Option Nat)(k:K)(xs:List X)(bef s:Nat)(rs:List R)(st:St)(A:St->List Eff->Prop) :
  WT pg kb (⟨d,k,xs,none,bef,s⟩::rs) st A=WO pg kb k s st.hp (xs.map (X.ev pg.gl st.env)) (λv eff=>WT pg kb rs ⟨eI st.env d v,eff.app st.hp⟩ (λst' es=>A st' (eff::es))):=by
 apply propext;constructor;rintro⟨n,st',es,h,q⟩;simp only[hJ,iE,wanted]at h;split at h;rename_i st1 e h1;split at h1;rename_i v eff h2;simp only[aW,bA]at h1;obtain⟨rfl,rfl⟩:=h1;simp only[kW,bA]at h;obtain⟨⟨s1,l1⟩,h3,h4,h5⟩:=h;subst h4;subst h5;exact⟨n,v,eff,h2,n,s1,l1,h3,q⟩;cases h1;cases h;rintro⟨n,v,eff,h,m,st',es,h2,q⟩;refine⟨max n m,st',eff::es,?_,q⟩;have e1:=MD (Nat.le_max_left n m) h;have e2:=sL (dY pg (Nat.le_max_right n m)) h2;have e3:opR (aZ pg (max n m)) kb ⟨d,k,xs,none,bef,s⟩ st.hp (xs.map (X.ev pg.gl st.env))=some (v,eff):=e1;simp only[hJ,iE,wanted,e3];rw[e2];rfl
theorem WW(d:Option Nat)(k:K)(xs:List X)(t:Nat)(b:Bool)(bef s:Nat)(rs:List R)(st:St)(A:St->List Eff->Prop) :
  WT pg kb (⟨d,k,xs,some (t,b),bef,s⟩::rs) st A =
   gdQ (gB st.env t) b (WO pg kb k s st.hp (xs.map (X.ev pg.gl st.env)) (λv eff=>WT pg kb rs ⟨eI st.env d v,eff.app st.hp⟩ (λst' es=>A st' (eff::es))))
    (WT pg kb rs ⟨eI st.env d (.tup []),st.hp⟩ (λst' es=>A st' (.pat [] []::es))):=by
 rw[<-QB d k xs bef s];apply propext;have hb:∀c:Bool,(c==b)=decide (c=b):=λc=>by cases c<;>cases b<;>rfl
 have key:(∃n st' es,(hJ pg.gl (aZ pg n) kb rs ⟨eI st.env d (.tup []),st.hp⟩).map (fun(s,l)=>(s,Eff.pat [] []::l))=some (st',es)/\A st' es) ↔
   (∃n st' es,hJ pg.gl (aZ pg n) kb rs ⟨eI st.env d (.tup []),st.hp⟩=some (st',es)/\A st' (.pat [] []::es)):=by
  constructor;rintro⟨n,st',es,h,q⟩;simp only[kW,bA]at h;obtain⟨⟨s1,l1⟩,h3,h4,h5⟩:=h;subst h4;subst h5;exact⟨n,s1,l1,h3,q⟩;rintro⟨n,st',es,h,q⟩;exact⟨n,st',_,by rw[h];rfl,q⟩
 simp only[WT,hJ,iE,wanted];generalize gB st.env t=v;cases v with
 |bool c=>simp only[gdQ,hb];by_cases hc:c=b;simp only[hc,decide_true,if_true];exact Iff.rfl;simp only[hc,decide_false,if_false];exact key
 |tup l=>
  cases l with
  |nil=>simp only[gdQ];exact key
  |cons a r=>simp[gdQ]
 |_=>simp[gdQ]
def K.isCall:K->Bool
 |.call ..|.callv ..|.calle ..|.callr ..|.callvr|.inv .. => true
 |_=>false
theorem cQ{k:K}(hk:k.isCall=false)(s:Nat)(h:Hp)(vs:List AV)(Q:AV->Eff->Prop):WO pg kb k s h vs Q=IV (FA h (kb+s) k vs) Q:=by
 have e:∀call:aY,opR call kb ⟨none,k,[],none,0,s⟩ h vs=FA h (kb+s) k vs:=by intro call;cases k<;>first|rfl|simp[K.isCall]at hk
 apply propext;simp only[WO,e];cases FA h (kb+s) k vs with
 |none=>simp[IV]
 |some x=>obtain⟨v,eff⟩:=x;simp only[IV];constructor;rintro⟨n,v',e',h1,q⟩;cases h1;exact q;intro q;exact⟨0,_,_,rfl,q⟩
theorem V6{f:Nat}{ts:List AV}{r:AV}{n m:Nat}(h:n<=m)(e:bJ (aZ pg n) f ts=some r):bJ (aZ pg m) f ts=some r:=
 fR (dY pg h) e
theorem aBu{f s:Nat}{th:Bool}{h:Hp}{vs ts:List AV}{keys:List Nat}{r v:AV}{pa:List Ent}{Q:AV->Eff->Prop}(hr:Ret pg f ts r)
  (hm:mapS (snap depth h) vs=some (ts,keys)) (hv:hY h (kb+s) th r=some (v,pa)) :
  WO pg kb (.call f th false) s h vs Q=Q v (.pat ((kb+s)::keys) ((if r.flat then [] else aU h keys)++pa)):=by
 obtain⟨n,e⟩:=hr;have key:∀m,n<=m->opR (aZ pg m) kb ⟨none,.call f th false,[],none,0,s⟩ h vs=some (v,.pat ((kb+s)::keys) ((if r.flat then [] else aU h keys)++pa)):=by intro m hm';simp only[opR,kB,Bool.false_eq_true,if_false,hm,V6 hm' e,hv]
 apply propext;constructor;rintro⟨m,v',e',h1,q⟩;have h2:=key _ (Nat.le_max_left n m);have h3:=MD (Nat.le_max_right n m) h1;rw[h3]at h2;cases h2;exact q;intro q;exact⟨n,_,_,key n (Nat.le_refl _),q⟩
theorem WZ{f s:Nat}{th im:Bool}{h h':Hp}{vs:List AV}{r:AV}{Q:AV->Eff->Prop}(hm:im=true\/mapS (snap depth h) vs=none){B:Nat}(hB:eD kb s vs=B)(hr:tF pg f vs B h r h')
   (hq:Q r (.whole h')):WO pg kb (.call f th im) s h vs Q:=by
 subst hB;obtain⟨n,e⟩:=hr;refine⟨n,r,.whole h',?_,hq⟩;have:(if im then none else mapS (snap depth h) vs)=none:=by rcases hm with rfl|hm;rfl;simp[hm]
 simp only[opR,kB,this,e]
theorem tF.of{f:Nat}{cf:CF}{vs:List AV}{h:Hp}{r:AV}{h':Hp}(hf:pg.fs f=some cf)
  (hw:WX pg kb cf.body ⟨enter cf vs,h⟩ (λex st=>(match ex with|.ext _=>False|_=>True)/\result st cf.res=some r/\st.hp=h')):tF pg f vs kb h r h':=by
 obtain⟨n,ex,st,h1,h2,h3,h4⟩:=hw;refine⟨n+1,?_⟩;subst h4;simp only[aZ,hf,h1];cases ex with
 |ext i=>exact h2.elim
 |nor=>simp[h3]
 |ret=>simp[h3]
def JP(res:List (Sum Nat (Nat×Nat×Bool)))(r:AV)(ex:Ex)(st:St):Prop:=
 match ex with
 |.ext _=>False
 |_=>∃v,result st res=some v/\conv st.hp v=some r
theorem UW(res:List (Sum Nat (Nat×Nat×Bool)))(r:AV)(st:St):JP res r .nor st=∃v,result st res=some v/\conv st.hp v=some r:=rfl
theorem UV(res:List (Sum Nat (Nat×Nat×Bool)))(r:AV)(st:St):JP res r .ret st=∃v,result st res=some v/\conv st.hp v=some r:=rfl
theorem Ret.of{f:Nat}{cf:CF}{vs:List AV}{r:AV}(hf:pg.fs f=some cf)(hw:WX pg 0 cf.body ⟨enter cf vs,[]⟩ (JP cf.res r)):Ret pg f vs r:=by
 obtain⟨n,ex,st,h1,h2⟩:=hw;refine⟨n+1,?_⟩;cases ex with
 |ext i=>exact h2.elim
 |nor=>obtain⟨v,h3,h4⟩:=h2;simp only[bJ,aZ,hf,h1,h3,Option.map_some,h4]
 |ret=>obtain⟨v,h3,h4⟩:=h2;simp only[bJ,aZ,hf,h1,h3,Option.map_some,h4]
theorem aGn{α : Type}{x : α}{P : α -> Prop}:(∃v,some x=some v/\P v)=P x:=by apply propext;constructor;rintro⟨v,h,p⟩;cases h;exact p;intro p;exact⟨x,rfl,p⟩
end
end Go.Tev
