import Derived.Test.YtilkdbbkkcnocaaGreatDoorSAH
set_option linter.all false
namespace Go.Tev
section
structure EF where
 nt:Nat
 dt:Bool
 l:List (Nat×AV)
def vJ(nt:Nat)(dt:Bool)(t:Nat):List (Nat×AV)->AV
 |[]=>bif dt then (bif t.blt nt then .tup [] else .top) else .top
 |p::r=>bif p.1.beq t then p.2 else vJ nt dt t r
def EF.get:EF->Nat->AV
 |⟨nt,dt,l⟩,t=>vJ nt dt t l
def EF.set:EF->Option Nat->AV->EF
 |e,none,_=>e
 |⟨nt,dt,l⟩,some d,v=>bif d.blt nt then ⟨nt,dt,(d,v)::l⟩ else ⟨nt,dt,l⟩
theorem EF.get_eq(e:EF)(t:Nat):e.get t=vJ e.nt e.dt t e.l:=rfl
theorem EF.set_some(e:EF)(d:Nat)(v:AV):e.set (some d) v=bif d.blt e.nt then ⟨e.nt,e.dt,(d,v)::e.l⟩ else e:=rfl
def uD(e:EF):Nat->List Bool->Option (List (Nat×AV))
 |i,[]=>bif e.nt.ble i then some [] else none
 |i,true::m=>(uD e (i+1) m).map ((i,e.get i) :: ·)
 |i,false::m=>uD e (i+1) m
def EF.clear(e:EF)(m:List Bool):Option EF:=(uD e 0 m).map λl=>⟨e.nt,false,l⟩
def ED:Nat->List AV->List (Nat×AV)
 |_,[]=>[]
 |i,v::r=>(i,v)::ED (i+1) r
def FV(cf:CF)(args:List AV):EF:=⟨args.length+(cf.nt-args.length),true,ED 0 args⟩
def rO(e:EF)(env:List AV):Prop:=env.length=e.nt/\∀t,gB env t=e.get t
theorem rO.set{e:EF}{env:List AV}(h:rO e env)(d:Option Nat)(v:AV):rO (e.set d v) (eH env d v):=by
 cases d with
 |none=>exact h
 |some d=>refine⟨?_,?_⟩;rw[pZ,h.1];simp only[EF.set_some,cond_eq_ite];split<;>rfl;intro t;rw[vI];simp only[EF.set_some,cond_eq_ite,Nat.blt_eq];by_cases hd:d<e.nt;rw[if_pos hd];simp only[EF.get_eq,vJ,cond_eq_ite,Nat.beq_eq];by_cases ht:d=t;subst ht;rw[if_pos ⟨rfl,by rw[h.1];exact hd⟩,if_pos rfl];rw[if_neg (by rintro⟨q,_⟩;exact ht (by simpa using q)),if_neg ht];exact h.2 t;rw[if_neg hd,if_neg (by rintro⟨q,q2⟩;simp at q;subst q;rw[h.1]at q2;exact hd q2)];exact h.2 t
theorem vE{e:EF}{nt:Nat}:∀{m:List Bool}{i:Nat}{l:List (Nat×AV)},uD e i m=some l ->
  e.nt<=i+m.length/\∀t,vJ nt false t l=if i<=t/\m[t-i]?=some true then e.get t else .top
 |[],i,l,h=>by simp only[uD,cond_eq_ite]at h;split at h;rename_i q;cases h;refine⟨by simpa using q,λt=>?_⟩;simp[vJ];cases h
 |true::m,i,l,h=>by
  simp only[uD]at h;cases hk:uD e (i+1) m with
  |none=>simp[hk]at h
  |some l'=>
   simp[hk]at h;subst h;obtain⟨h1,h2⟩:=vE (nt:=nt) hk;refine⟨by simp;omega,λt=>?_⟩;simp only[vJ,cond_eq_ite,Nat.beq_eq];by_cases ht:i=t;subst ht;simp;rw[if_neg ht,h2];by_cases hle:i+1<=t;have:t-i=(t-(i+1))+1:=by omega
   simp[hle,this,show i<=t by omega];rw[if_neg (by omega),if_neg (by omega)]
 |false::m,i,l,h=>by
  simp only[uD]at h;obtain⟨h1,h2⟩:=vE (nt:=nt) h;refine⟨by simp;omega,λt=>?_⟩;rw[h2];by_cases hle:i+1<=t;have:t-i=(t-(i+1))+1:=by omega
  simp[hle,this,show i<=t by omega];by_cases ht:i=t;subst ht;simp;intro q;omega;rw[if_neg (by omega),if_neg (by omega)]
theorem sU:∀(m:List Bool)(env:List AV)(t:Nat),env.length<=m.length->gB (clear m env) t=if m[t]?=some true then gB env t else .top
 |[],env,t,h=>by have:env=[]:=gU (by simpa using h);subst this;simp[clear,gB]
 |b::m,[],t,h=>by cases b<;>simp[clear,gB]
 |true::m,v::r,0,h=>by simp[clear,gB]
 |false::m,v::r,0,h=>by simp[clear,gB]
 |true::m,v::r,t+1,h=>by have:=sU m r t (by simpa using h);simpa[clear,gB] using this
 |false::m,v::r,t+1,h=>by have:=sU m r t (by simpa using h);simpa[clear,gB] using this
theorem rO.clear{e e':EF}{env:List AV}(h:rO e env){m:List Bool}(hc:e.clear m=some e'):rO e' (Tev.clear m env):=by
 unfold EF.clear at hc;cases hk:uD e 0 m with
 |none=>simp[hk]at hc
 |some l=>simp[hk]at hc;subst hc;obtain⟨h1,h2⟩:=vE (nt:=e.nt) hk;refine⟨by rw[kA];exact h.1,λt=>?_⟩;rw[sU m env t (by rw[h.1];omega)];simp only[EF.get];rw[h2,h.2 t];simp
theorem vW{nt:Nat}{dt:Bool}:∀{args:List AV}{i t:Nat},vJ nt dt t (ED i args)=if h:i<=t/\t-i<args.length then args[t-i]'h.2 else vJ nt dt t []
 |[],i,t=>by simp[ED]
 |v::r,i,t=>by
  simp only[ED,vJ,cond_eq_ite,Nat.beq_eq];by_cases ht:i=t;subst ht;simp;rw[if_neg ht,vW];by_cases hle:i+1<=t;have e1:t-i=(t-(i+1))+1:=by omega
  by_cases hl:t-(i+1)<r.length;rw[dif_pos ⟨hle,hl⟩,dif_pos ⟨by omega,by simp;omega⟩];simp[e1];rw[dif_neg (by omega),dif_neg (by simp;omega)];simp[vJ,cond_eq_ite];rw[dif_neg (by omega),dif_neg (by omega)];simp[vJ,cond_eq_ite]
theorem rO.enter(cf:CF)(args:List AV):rO (FV cf args) (Tev.enter cf args):=by
 refine⟨by simp[Tev.enter,FV],λt=>?_⟩;simp only[EF.get_eq,FV,vW,Tev.enter,gB];by_cases h:t<args.length;rw[dif_pos ⟨Nat.zero_le _,by simpa using h⟩];simp[List.getElem?_append_left h,h];rw[dif_neg (by simpa using h),u4 (by omega)];simp only[vJ,cond_true,cond_eq_ite,Nat.blt_eq,List.getElem?_replicate];by_cases h2:t<args.length+(cf.nt-args.length)
 rw[if_pos (by omega),if_pos h2];rfl;rw[if_neg (by omega),if_neg h2];rfl
def X.evE(gl:Nat->Option AV)(e:EF):X->AV
 |.t n=>e.get n
 |.c v=>v
 |.g n=>match gl n with|some v => .fp v|none => .top
 |.f n => .fn n []
structure StE where
 env:EF
 hp:Hp
def EK(e:EF):Option (Nat×Bool)->Option Bool
 |none=>some true
 |some (t,b)=>
  match e.get t with
  |.bool c=>some (c==b)
  |.tup []=>some false
  |_=>none
def OL(gl:Nat->Option AV)(call:aW)(kb:Nat)(r:R)(st:StE):Option (StE×Eff):=
 match EK st.env r.gd with
 |none=>none
 |some false=>some (⟨st.env.set r.d (.tup []),st.hp⟩,.pat [] [])
 |some true=>
  match opR call kb r st.hp (r.xs.map (X.evE gl st.env)) with
  |some (v,eff)=>some (⟨st.env.set r.d v,eff.app st.hp⟩,eff)
  |none=>none
def CG(gl:Nat->Option AV)(call:aW)(kb:Nat):List R->StE->Option StE
 |[],st=>some st
 |r::rs,st=>
  match OL gl call kb r st with
  |some (st',_)=>CG gl call kb rs st'
  |none=>none
def vA(gl:Nat->Option AV)(call:aW)(kb:Nat):List R->StE->Option (StE×List Eff)
 |[],st=>some (st,[])
 |r::rs,st=>
  match OL gl call kb r st with
  |some (st',e)=>(vA gl call kb rs st').map fun(s,l)=>(s,e::l)
  |none=>none
def I7(f:StE->Option (Ex×StE))(clr:List Bool):Nat->StE->Option (Ex×StE)
 |0,_=>none
 |n+1,st=>
  match st.env.clear clr with
  |none=>none
  |some e=>
   match f ⟨e,st.hp⟩ with
   |some (.nor,st')=>I7 f clr n st'
   |r=>r
def EF.list(e:EF):List AV:=(List.range e.nt).map e.get
def EF.of(env:List AV):EF:=⟨env.length,false,ED 0 env⟩
theorem rO.list{e:EF}{env:List AV}(h:rO e env):e.list=env:=by apply List.ext_getElem;simp[EF.list,h.1];intro i h1 h2;have:=h.2 i;simp only[gB,cZ h2,Option.getD_some]at this;simp[EF.list,this]
theorem rO.of(env:List AV):rO (EF.of env) env:=by refine⟨rfl,λt=>?_⟩;simp only[EF.get,EF.of,vW,gB];by_cases h:t<env.length;rw[dif_pos ⟨Nat.zero_le _,by simpa using h⟩];simp[h];rw[dif_neg (by simpa using h),cY (by omega)];rfl
def VL(env:EF)(k e:Nat)(h:Hp):Option (Ex×StE):=
 match AM [] k e h with
 |some (x,st)=>some (x,⟨env,st.hp⟩)
 |none=>none
def TE(e:EF)(nx more:Nat)(v:AV)(b:Bool):EF:=(e.set (some nx) v).set (some more) (.bool b)
def aGO(x y:Ex×StE):Bool:=decide (x.1=y.1)&&pB x.2.env.list y.2.env.list&&MW x.2.hp y.2.hp
def mrE(f:StE->Option (Ex×StE))(fin:Ex×StE->Option (Ex×StE))(it nx more out:Nat)(clr:List Bool):Nat->StE->Option (Ex×StE)
 |0,_=>none
 |n+1,st=>
  if nx<st.env.nt/\more<st.env.nt then
  match st.env.clear clr with
  |none=>none
  |some env=>
  match env.get it with
  |.pt k e 0=>
   match OU st.hp k e with
   |some (l,o)=>
    if l.isEmpty then (killI st.hp k e).bind λh=>fin (.ext out,⟨TE env nx more (.tup [.bool false]) false,h⟩)
    else iH aGO (λb=>
     match f ⟨TE env nx more (.tup [.bool true,.top,.top]) true,st.hp.put k e (o b)⟩ with
     |some (.nor,st')=>mrE f fin it nx more out clr n st'
     |some (x,st')=>(killI st'.hp k e).bind λh=>fin (x,⟨st'.env,h⟩)
     |none=>none) l
   |none=>none
  |_=>none
  else none
def UH(kb:Nat)(msk:List Bool)(drop:List Nat)(q:Ex×StE):Option (Ex×StE):=(q.2.env.clear msk).map λenv=>(q.1,⟨env,AN kb drop q.2.hp⟩)
def gD(gl:Nat->Option AV)(call:aW)(kb n:Nat):C->StE->Option (Ex×StE)
 |.skip,st=>some (.nor,st)
 |.reg rs false,st=>(CG gl call kb rs st).map λs=>(.nor,s)
 |.reg rs true,st=>
  match vA gl call kb rs st with
  |some (s,es)=>if cW 0 rs es then some (.nor,s) else none
  |none=>none
 |.seq a b,st=>
  match gD gl call kb n a st with
  |some (.nor,st')=>gD gl call kb n b st'
  |r=>r
 |.cond c a b,st=>
  match c.evE gl st.env with
  |.bool true=>gD gl call kb n a st
  |.bool false=>gD gl call kb n b st
  |_=>none
 |.block id b,st=>
  match gD gl call kb n b st with
  |some (.ext i,st')=>bif i.beq id then some (.nor,st') else some (.ext i,st')
  |r=>r
 |.loop b clr,st=>I7 (gD gl call kb n b) clr n st
 |.exit id,st=>some (.ext id,st)
 |.ret,st=>some (.ret,st)
 |.rf x s ps a b,st=>
  match x.evE gl st.env with
  |.fn f cs=>
   match call f (.yl (kb+s) (st.hp.next (kb+s))::cs) ((kb+s+1)*65536) (st.hp.put (kb+s) (st.hp.next (kb+s)) (.lp 0 kb st.env.list ps a b)) with
   |some (_,h')=>VL st.env (kb+s) (st.hp.next (kb+s)) h'
   |none=>none
  |_=>none
 |.mr it nx more out b clr,st=>mrE (gD gl call kb n b) some it nx more out clr n st
 |.mq p id it nx more out b clr rest msk drop,st=>
  match gD gl call kb n p st with
  |some (.nor,st1)=>mrE (gD gl call kb n b) (λo=>(match kY id o.1 with|.nor=>gD gl call kb n rest o.2|x=>some (x,o.2)).bind (UH kb msk drop)) it nx more out clr n st1
  |r=>r
 |.bad,_=>none
def E6(st:StE):Sum Nat (Nat×Nat×Bool)->Option AV
 |.inl t=>some (st.env.get t)
 |.inr (t,sz,ag)=>
  match st.env.get t with
  |.pt k e off=>match st.hp.get k with
   |some (e',.blk cs _ _ _ _)=>if e'=e then eY cs off sz ag else none
   |_=>none
  |_=>none
def xO(st:StE):List (Sum Nat (Nat×Nat×Bool))->Option (List AV)
 |[]=>some []
 |x::r=>
  match E6 st x,xO st r with
  |some v,some l=>some (v::l)
  |_,_=>none
def E4(st:StE)(rs:List (Sum Nat (Nat×Nat×Bool))):Option AV:=
 match xO st rs with
 |some [v]=>some v
 |some l=>some (.tup l)
 |none=>none
def FK(memo:Nat->List AV->Option AV)(f:Nat)(args:List AV):Nat->Hp->Option AV
 |0,[]=>memo f args
 |_,_=>none
def sE(r:AV):AV×Hp:=
 match r with
 |.os es esz ag=>match aP esz ag es with
  |some cs=>(.rf 1 0 0 es.length es.length,[⟨1,0,.blk cs esz ag false false⟩])
  |none=>(r,[])
 |r=>(r,[])
def pW(r:AV):Bool:=match conv (sE r).2 (sE r).1 with|some q=>eqA q r|none=>false
def TI(ex:C->Nat->StE->Option (Ex×StE))(c:C)(b:Nat)(st:St):Option (Ex×St):=
 match ex c b ⟨EF.of st.env,st.hp⟩ with
 |some (x,s)=>some (x,⟨s.env.list,s.hp⟩)
 |none=>none
def cE(pg:Pg)(memo:Nat->List AV->Option AV):Nat->aW
 |0=>⟨λ_ _ _ _=>none,λ_ _ _ _=>none⟩
 |n+1=>⟨λf args kb h=>
  match FK memo f args kb h with
  |some r=>some (sE r)
  |none=>
   match pg.fs f with
   |none=>
    match pg.ex f with
    |some g=>g args kb h
    |none=>none
   |some cf=>
    match gD pg.gl (cE pg memo n) kb n cf.body ⟨FV cf args,h⟩ with
    |some (.ext _,_)=>none
    |some (_,st)=>(E4 st cf.res).map λv=>(v,st.hp)
    |none=>none,
  pQ (TI λc b st=>gD pg.gl (cE pg memo n) b n c st)⟩
structure StR(s:StE)(t:St):Prop where
 env:rO s.env t.env
 hp:s.hp=t.hp
end
section
structure kK(c c':aW):Prop where
 fn:∀f a kb h r,c f a kb h=some r->c' f a kb h=some r
 yl:∀k e a h r,c.yl k e a h=some r->c'.yl k e a h=some r
theorem kK.refl(c:aW):kK c c:=⟨λ_ _ _ _ _ h=>h,λ_ _ _ _ _ h=>h⟩
theorem pP{ex ex':C->Nat->St->Option (Ex×St)}(hx:∀c b st r,ex c b st=some r->ex' c b st=some r){k e:Nat}{a:List AV}{h:Hp}{r:AV×Hp}(h1:pQ ex k e a h=some r):pQ ex' k e a h=some r:=by
 unfold pQ at h1 ⊢;split at h1
 case h_2=>cases h1
 split at h1
 case isFalse=>cases h1
 rename_i hc;rw[if_pos hc];split at h1
 case h_2=>cases h1
 rename_i he1;rw[hx _ _ _ _ he1];simp only;split at h1
 case h_2=>cases h1
 split at h1
 case isFalse=>cases h1
 rename_i hc2;rw[if_pos hc2];split at h1
 case h_2=>cases h1
 rename_i he2;rw[hx _ _ _ _ he2];exact h1
theorem fQ{c c':aW}(hc:kK c c'){f:Nat}{ts:List AV}{r:AV}(h:bJ c f ts=some r):bJ c' f ts=some r:=by
 unfold bJ at h ⊢;cases hq:c f ts 0 [] with
 |none=>simp[hq]at h
 |some p=>rw[hq]at h;rw[hc.fn _ _ _ _ _ hq];exact h
theorem oX{c c':aW}(hc:kK c c'){kb s:Nat}{h:Hp}{f:Nat}{th im:Bool}{vs:List AV}{r:AV×Eff}(h1:jT c kb s h f th im vs=some r):jT c' kb s h f th im vs=some r:=by
 unfold jT at h1 ⊢;cases hm:(if im then none else mapS (snap depth h) vs) with
 |some p=>
  rw[hm]at h1;simp only at h1 ⊢;cases hp:bJ c f p.1 with
  |none=>simp[hp]at h1
  |some q=>rw[hp]at h1;rw[fQ hc hp];exact h1
 |none=>
  rw[hm]at h1;simp only at h1 ⊢;cases hp:c f vs (gX kb s vs) h with
  |none=>simp[hp]at h1
  |some q=>rw[hp]at h1;rw[hc.fn _ _ _ _ _ hp];exact h1
theorem B2{c c':aW}(hc:kK c c'){h:Hp}{f:Nat}{vs:List AV}:∀{n b:Nat}{x:AV×List Nat×List Ent},mS c h f vs n b=some x->mS c' h f vs n b=some x
 |0,_,_,h1=>by simp[mS]at h1
 |n+1,b,x,h1=>by
  unfold mS at h1 ⊢;cases hp:c f vs b [] with
  |none=>simp[hp]at h1
  |some q=>
   rw[hp]at h1;rw[hc.fn _ _ _ _ _ hp];simp only at h1 ⊢;split;rename_i hh;rw[if_pos hh]at h1;exact h1;rename_i hh;rw[if_neg hh]at h1;cases ht:mS c h f vs n (b+4096) with
   |none=>simp[ht]at h1
   |some y=>rw[ht]at h1;rw[B2 hc ht];exact h1
theorem LE{c c':aW}(hc:kK c c'){kb s:Nat}{h:Hp}{f:Nat}{vs:List AV}{r:AV×Eff}(h1:kG c kb s h f vs=some r):kG c' kb s h f vs=some r:=by
 unfold kG at h1 ⊢;split;rename_i ht;rw[if_pos ht]at h1;cases hq:mS c h f vs 7 ((kb+s+1)*65536) with
 |none=>simp[hq]at h1
 |some y=>rw[hq]at h1;rw[B2 hc hq];exact h1
 rename_i ht;rw[if_neg ht]at h1;cases h1
theorem w8{c c':aW}(hc:kK c c'){kb s:Nat}{h:Hp}{f:Nat}{vs:List AV}{r:AV×Eff}(h1:jK c kb s h f vs=some r):jK c' kb s h f vs=some r:=by
 unfold jK at h1 ⊢;cases hq:c f vs (gX kb s vs) h with
 |none=>simp[hq]at h1
 |some y=>rw[hq]at h1;rw[hc.fn _ _ _ _ _ hq];exact h1
theorem IZ{c c':aW}(hc:kK c c'){kb:Nat}{r:R}{h:Hp}{vs:List AV}{x:AV×Eff}(h1:opR c kb r h vs=some x):opR c' kb r h vs=some x:=by unfold opR at h1 ⊢;split at h1;exact oX hc h1;exact LE hc h1;exact w8 hc h1;split at h1;exact w8 hc h1;cases h1;split at h1;exact oX hc h1;split at h1;rename_i hy;rw[hc.yl _ _ _ _ _ hy];exact h1;cases h1;exact oX hc h1;cases h1;split at h1;split at h1;exact oX hc h1;cases h1;cases h1;exact h1
structure BQ(c c':aW):Prop where
 off:∀f a kb h r,kb≠0->c f a kb h=some r->c' f a kb h=some r
 at0:∀f a r,bJ c f a=some r->bJ c' f a=some r
 yl:∀k e a h r,c.yl k e a h=some r->c'.yl k e a h=some r
theorem EC(kb s:Nat)(vs:List AV):gX kb s vs≠0:=by unfold gX;split<;>omega
theorem nC{c c':aW}(hc:BQ c c'){kb s:Nat}{h:Hp}{f:Nat}{th im:Bool}{vs:List AV}{r:AV×Eff}(h1:jT c kb s h f th im vs=some r):jT c' kb s h f th im vs=some r:=by
 unfold jT at h1 ⊢;cases hm:(if im then none else mapS (snap depth h) vs) with
 |some p=>
  rw[hm]at h1;simp only at h1 ⊢;cases hp:bJ c f p.1 with
  |none=>simp[hp]at h1
  |some q=>rw[hp]at h1;rw[hc.at0 _ _ _ hp];exact h1
 |none=>
  rw[hm]at h1;simp only at h1 ⊢;cases hp:c f vs (gX kb s vs) h with
  |none=>simp[hp]at h1
  |some q=>rw[hp]at h1;rw[hc.off _ _ _ _ _ (EC kb s vs) hp];exact h1
theorem yO{c c':aW}(hc:BQ c c'){h:Hp}{f:Nat}{vs:List AV}:∀{n b:Nat}{x:AV×List Nat×List Ent},b≠0->mS c h f vs n b=some x->mS c' h f vs n b=some x
 |0,_,_,_,h1=>by simp[mS]at h1
 |n+1,b,x,hb,h1=>by
  unfold mS at h1 ⊢;cases hp:c f vs b [] with
  |none=>simp[hp]at h1
  |some q=>
   rw[hp]at h1;rw[hc.off _ _ _ _ _ hb hp];simp only at h1 ⊢;split;rename_i hh;rw[if_pos hh]at h1;exact h1;rename_i hh;rw[if_neg hh]at h1;cases ht:mS c h f vs n (b+4096) with
   |none=>simp[ht]at h1
   |some y=>rw[ht]at h1;rw[yO hc (by omega) ht];exact h1
theorem HH{c c':aW}(hc:BQ c c'){kb s:Nat}{h:Hp}{f:Nat}{vs:List AV}{r:AV×Eff}(h1:kG c kb s h f vs=some r):kG c' kb s h f vs=some r:=by
 unfold kG at h1 ⊢;split;rename_i ht;rw[if_pos ht]at h1;cases hq:mS c h f vs 7 ((kb+s+1)*65536) with
 |none=>simp[hq]at h1
 |some y=>rw[hq]at h1;rw[yO hc (by omega) hq];exact h1
 rename_i ht;rw[if_neg ht]at h1;cases h1
theorem uW{c c':aW}(hc:BQ c c'){kb s:Nat}{h:Hp}{f:Nat}{vs:List AV}{r:AV×Eff}(h1:jK c kb s h f vs=some r):jK c' kb s h f vs=some r:=by
 unfold jK at h1 ⊢;cases hq:c f vs (gX kb s vs) h with
 |none=>simp[hq]at h1
 |some y=>rw[hq]at h1;rw[hc.off _ _ _ _ _ (EC kb s vs) hq];exact h1
theorem Q9{c c':aW}(hc:BQ c c'){kb:Nat}{r:R}{h:Hp}{vs:List AV}{x:AV×Eff}(h1:opR c kb r h vs=some x):opR c' kb r h vs=some x:=by unfold opR at h1 ⊢;split at h1;exact nC hc h1;exact HH hc h1;exact uW hc h1;split at h1;exact uW hc h1;cases h1;split at h1;exact nC hc h1;split at h1;rename_i hy;rw[hc.yl _ _ _ _ _ hy];exact h1;cases h1;exact nC hc h1;cases h1;split at h1;split at h1;exact nC hc h1;cases h1;cases h1;exact h1
theorem yT{gl:Nat->Option AV}{c c':aW}(hc:kK c c'){kb:Nat}{r:R}{st:St}{x:St×Eff}(h1:iB gl c kb r st=some x):iB gl c' kb r st=some x:=by
 unfold iB at h1 ⊢;generalize wanted st.env r.gd=wg at h1 ⊢;rcases wg with _|_|_;exact h1;exact h1;simp only at h1 ⊢;cases ho:opR c kb r st.hp (r.xs.map (X.ev gl st.env)) with
 |none=>simp[ho]at h1
 |some p=>rw[ho]at h1;rw[IZ hc ho];exact h1
theorem u9{gl:Nat->Option AV}{c c':aW}(hc:kK c c'){kb:Nat}:∀{rs:List R}{st st':St},mT gl c kb rs st=some st'->mT gl c' kb rs st=some st'
 |[],_,_,h=>h
 |r::rs,st,st',h=>by
  unfold mT at h ⊢;cases hs:iB gl c kb r st with
  |none=>simp[hs]at h
  |some p=>rw[hs]at h;rw[yT hc hs];exact u9 hc h
theorem sJ{gl:Nat->Option AV}{c c':aW}(hc:kK c c'){kb:Nat}:∀{rs:List R}{st:St}{x:St×List Eff},gZ gl c kb rs st=some x->gZ gl c' kb rs st=some x
 |[],_,_,h=>h
 |r::rs,st,x,h=>by
  unfold gZ at h ⊢;cases hs:iB gl c kb r st with
  |none=>simp[hs]at h
  |some p=>
   rw[hs]at h;rw[yT hc hs];simp only at h ⊢;cases hr:gZ gl c kb rs p.1 with
   |none=>simp[hr]at h
   |some q=>rw[hr]at h;rw[sJ hc hr];exact h
theorem sP{f f':St->Option (Ex×St)}(hf:∀st x,f st=some x->f' st=some x){clr:List Bool}:∀{n n':Nat}{st:St}{x:Ex×St},n<=n'->i7 f clr n st=some x->i7 f' clr n' st=some x
 |0,_,_,_,_,h=>by simp[i7]at h
 |n+1,0,_,_,hn,_=>by omega
 |n+1,n'+1,st,x,hn,h=>by
  simp only[i7]at h ⊢;cases hs:f ⟨clear clr st.env,st.hp⟩ with
  |none=>simp[hs]at h
  |some p=>
   rw[hs]at h;rw[hf _ _ hs];obtain⟨e,s⟩:=p;cases e with
   |nor=>exact sP hf (by omega) h
   |ext id=>exact h
   |ret=>exact h
theorem xB{α : Type}{eq : α -> α -> Bool}{f g:Nat->Option α}(hf:∀b r,f b=some r->g b=some r):∀{l:List Nat}{r : α},iH eq f l=some r->iH eq g l=some r
 |[],_,h=>by simp[iH]at h
 |[b],_,h=>hf _ _ h
 |b::b2::l,r,h=>by
  simp only[iH]at h ⊢;split at h
  case h_2=>cases h
  rename_i r1 s1 h1 h2;rw[hf _ _ h1,xB hf h2];exact h
theorem zM{f f':St->Option (Ex×St)}{fin fin':Ex×St->Option (Ex×St)}(hf:∀st x,f st=some x->f' st=some x)(hg:∀o x,fin o=some x->fin' o=some x){it nx more out:Nat}{clr:List Bool}:∀{n n':Nat}{st:St}{x:Ex×St},n<=n'->mrN f fin it nx more out clr n st=some x->mrN f' fin' it nx more out clr n' st=some x
 |0,_,_,_,_,h=>by simp[mrN]at h
 |n+1,0,_,_,hn,_=>by omega
 |n+1,n'+1,st,x,hn,h=>by
  simp only[mrN]at h ⊢;split at h
  case isFalse=>cases h
  rename_i hl;rw[if_pos hl];split at h
  case h_2=>cases h
  rename_i k e hit;split at h
  case h_2=>cases h
  rename_i l o hx;split at h
  ·rename_i hle
   try rw[if_pos hle]
   cases hk:killI st.hp k e with
   |none=>simp[hk]at h
   |some h2=>simp only[hk,Option.bind_some]at h ⊢;exact hg _ _ h
  ·rename_i hle
   try rw[if_neg hle]
   refine xB (λb r hr=>?_) h;split at hr;rename_i s1 h1;rw[hf _ _ h1];exact zM hf hg (by omega) hr;rename_i x1 s1 hne h1;rw[hf _ _ h1];cases x1 with
   |nor=>exact(hne rfl).elim
   |ext id=>
    cases hk:killI s1.hp k e with
    |none=>simp[hk]at hr
    |some h2=>simp only[hk,Option.bind_some]at hr ⊢;exact hg _ _ hr
   |ret=>
    cases hk:killI s1.hp k e with
    |none=>simp[hk]at hr
    |some h2=>simp only[hk,Option.bind_some]at hr ⊢;exact hg _ _ hr
   cases hr
theorem oD{gl:Nat->Option AV}{c c':aW}(hc:kK c c'){kb n n':Nat}(hn:n<=n'):∀{k:C}{st:St}{x:Ex×St},bE gl c kb n k st=some x->bE gl c' kb n' k st=some x:=by
 intro k
 induction k with
 |skip=>intro st x h;exact h
 |reg rs d=>
  intro st x h;cases d with
  |false=>
   simp only[bE]at h ⊢;cases hr:mT gl c kb rs st with
   |none=>simp[hr]at h
   |some s=>rw[hr]at h;rw[u9 hc hr];exact h
  |true=>
   simp only[bE]at h ⊢;cases hr:gZ gl c kb rs st with
   |none=>simp[hr]at h
   |some s=>rw[hr]at h;rw[sJ hc hr];exact h
 |seq a b iha ihb=>
  intro st x h;simp only[bE]at h ⊢;cases ha:bE gl c kb n a st with
  |none=>simp[ha]at h
  |some p=>
   rw[ha]at h;rw[iha ha];obtain⟨e,s⟩:=p;cases e with
   |nor=>exact ihb h
   |ext id=>exact h
   |ret=>exact h
 |cond x a b iha ihb=>intro st y h;simp only[bE]at h ⊢;split at h;exact iha h;exact ihb h;cases h
 |block id b ih=>
  intro st x h;simp only[bE]at h ⊢;cases hb:bE gl c kb n b st with
  |none=>simp[hb]at h
  |some p=>rw[hb]at h;rw[ih hb];exact h
 |loop b m ih=>intro st x h;simp only[bE]at h ⊢;exact sP (λst x q=>ih q) hn h
 |exit id=>intro st x h;exact h
 |ret=>intro st x h;exact h
 |rf x s ps a b=>
  intro st y h;simp only[bE]at h ⊢;split at h
  case h_2=>cases h
  rename_i f cs hf;split at h
  case h_2=>cases h
  rename_i rr h' hcall;rw[hc.fn _ _ _ _ _ hcall];exact h
 |bad=>intro st x h;simp[bE]at h
 |mr it nx more out b clr ih=>intro st x h;simp only[bE]at h ⊢;exact zM (λst x q=>ih q) (λ_ _ q=>q) hn h
 |mq p id it nx more out b clr c2 msk drop ihp ih ih2=>
  intro st x h;simp only[bE]at h ⊢;split at h;rename_i st1 h1;rw[ihp h1];refine zM (λst x q=>ih q) (λo x q=>?_) hn h;simp only[lH]at q ⊢;obtain⟨y,q1,q2⟩:=q;refine⟨y,?_,q2⟩;split at q1;exact ih2 q1;exact q1;rename_i hne;rw[ihp h];obtain⟨x,s⟩:=x;cases x with
  |nor=>exact absurd h (hne _)
  |ext id=>rfl
  |ret=>rfl
theorem d7(pg:Pg):∀{n n':Nat},n<=n'->kK (aX pg n) (aX pg n')
 |0,_,_=>⟨by intro f a kb h r hq;simp[aX]at hq,by intro k e a h r hq;simp[aX]at hq⟩
 |n+1,0,h=>by omega
 |n+1,n'+1,hn=>by
  refine⟨?_,λk e a h r hq=>by
   simp only[aX]at hq ⊢;exact pP (λc b st r hr=>oD (d7 pg (Nat.le_of_succ_le_succ hn)) (Nat.le_of_succ_le_succ hn) hr) hq⟩
  intro f a kb h r hq;simp only[aX]at hq ⊢;cases hf:pg.fs f with
  |none=>rw[hf]at hq;exact hq
  |some cf=>
   rw[hf]at hq;simp only at hq ⊢;cases he:bE pg.gl (aX pg n) kb n cf.body ⟨enter cf a,h⟩ with
   |none=>simp[he]at hq
   |some p=>rw[he]at hq;rw[oD (d7 pg (Nat.le_of_succ_le_succ hn)) (Nat.le_of_succ_le_succ hn) he];exact hq
theorem MV{gl:Nat->Option AV}{s:StE}{t:St}(h:StR s t)(x:X):x.evE gl s.env=x.ev gl t.env:=by
 cases x with
 |t n=>simp only[X.evE,X.ev];exact(h.env.2 n).symm
 |_=>rfl
theorem B7{gl:Nat->Option AV}{c c':aW}(hc:BQ c c'){kb:Nat}{r:R}{s s':StE}{t:St}{e:Eff}(hst:StR s t)(h:OL gl c kb r s=some (s',e)) :
  ∃t',iB gl c' kb r t=some (t',e)/\StR s' t':=by
 have hw:EK s.env r.gd=wanted t.env r.gd:=by
  unfold EK wanted;cases r.gd with
  |none=>rfl
  |some p=>simp only[hst.env.2];rfl
 have hx:r.xs.map (X.evE gl s.env)=r.xs.map (X.ev gl t.env):=List.map_congr_left (λx _=>MV hst x);unfold OL at h;unfold iB;rw[hw,hx]at h;generalize wanted t.env r.gd=wg at h ⊢;rcases wg with _|_|_;cases h;simp only at h ⊢;cases h;exact⟨_,rfl,⟨hst.env.set _ _,hst.hp⟩⟩;simp only at h ⊢;rw[hst.hp]at h;cases ho:opR c kb r t.hp (r.xs.map (X.ev gl t.env)) with
 |none=>simp[ho]at h
 |some p=>rw[ho]at h;rw[Q9 hc ho];simp only at h ⊢;cases h;exact⟨_,rfl,⟨hst.env.set _ _,rfl⟩⟩
theorem CE{gl:Nat->Option AV}{c c':aW}(hc:BQ c c'){kb:Nat}:∀{rs:List R}{s s':StE}{t:St},StR s t->CG gl c kb rs s=some s'->∃t',mT gl c' kb rs t=some t'/\StR s' t'
 |[],s,s',t,hst,h=>by simp[CG]at h;subst h;exact⟨t,rfl,hst⟩
 |r::rs,s,s',t,hst,h=>by
  unfold CG at h;unfold mT;split at h
  case h_2=>cases h
  rename_i s1 e hs;obtain⟨t1,q1,q2⟩:=B7 hc hst hs;rw[q1];exact CE hc q2 h
theorem zC{gl:Nat->Option AV}{c c':aW}(hc:BQ c c'){kb:Nat}:∀{rs:List R}{s s':StE}{t:St}{es:List Eff},StR s t->vA gl c kb rs s=some (s',es)->∃t',gZ gl c' kb rs t=some (t',es)/\StR s' t'
 |[],s,s',t,es,hst,h=>by simp[vA]at h;obtain⟨rfl,rfl⟩:=h;exact⟨t,rfl,hst⟩
 |r::rs,s,s',t,es,hst,h=>by
  unfold vA at h;unfold gZ;split at h
  case h_2=>cases h
  rename_i s1 e hs;obtain⟨t1,q1,q2⟩:=B7 hc hst hs;cases hr:vA gl c kb rs s1 with
  |none=>simp[hr]at h
  |some p=>obtain⟨s2,es2⟩:=p;simp[hr]at h;obtain⟨rfl,rfl⟩:=h;obtain⟨t2,q3,q4⟩:=zC hc q2 hr;exact⟨t2,by rw[q1];simp only;rw[q3];rfl,q4⟩
theorem CV{f:StE->Option (Ex×StE)}{f':St->Option (Ex×St)}(hf:∀s t x s',StR s t->f s=some (x,s')->∃t',f' t=some (x,t')/\StR s' t'){clr:List Bool} :
  ∀{n n':Nat}{s s':StE}{t:St}{x:Ex},n<=n'->StR s t->I7 f clr n s=some (x,s')->∃t',i7 f' clr n' t=some (x,t')/\StR s' t'
 |0,_,_,_,_,_,_,_,h=>by simp[I7]at h
 |n+1,0,_,_,_,_,hn,_,_=>by omega
 |n+1,n'+1,s,s',t,x,hn,hst,h=>by
  simp only[I7]at h;simp only[i7];split at h
  case h_1=>cases h
  rename_i e he;have hst':StR ⟨e,s.hp⟩ ⟨clear clr t.env,t.hp⟩:=⟨hst.env.clear he,hst.hp⟩
  split at h;rename_i s1 h1;obtain⟨t1,q1,q2⟩:=hf _ _ _ _ hst' h1;rw[q1];exact CV hf (by omega) q2 h;rename_i hne;obtain⟨t1,q1,q2⟩:=hf _ _ _ _ hst' h;rw[q1];cases x with
  |nor=>exact absurd h (hne _)
  |ext id=>exact⟨t1,rfl,q2⟩
  |ret=>exact⟨t1,rfl,q2⟩
theorem EE{F:Nat->Option (Ex×StE)}{G:Nat->Option (Ex×St)}(hf:∀b x s',F b=some (x,s')->∃t',G b=some (x,t')/\StR s' t') :
  ∀{l:List Nat}{x:Ex}{s':StE},iH aGO F l=some (x,s')->∃t',iH eqR G l=some (x,t')/\StR s' t'
 |[],_,_,h=>by simp[iH]at h
 |[b],_,_,h=>hf _ _ _ h
 |b::b2::l,x,s',h=>by
  simp only[iH]at h;split at h
  case h_2=>cases h
  rename_i r1 s1 h1 h2;split at h
  case isFalse=>cases h
  rename_i hq;cases h;obtain⟨x2,s2⟩:=s1;obtain⟨t1,a1,a2⟩:=hf _ _ _ h1;obtain⟨t2,b1,b2⟩:=EE hf h2;refine⟨t1,?_,a2⟩;simp only[iH];rw[a1,b1];simp only;have:eqR (x,t1) (x2,t2)=true:=by simp only[aGO,a2.env.list,b2.env.list,a2.hp,b2.hp]at hq;exact hq
  rw[if_pos this]
theorem FJ{f:StE->Option (Ex×StE)}{f':St->Option (Ex×St)}(hf:∀s t x s',StR s t->f s=some (x,s')->∃t',f' t=some (x,t')/\StR s' t'){fin:Ex×StE->Option (Ex×StE)}{fin':Ex×St->Option (Ex×St)}(hg:∀x1 s t x s',StR s t->fin (x1,s)=some (x,s')->∃t',fin' (x1,t)=some (x,t')/\StR s' t'){it nx more out:Nat}{clr:List Bool} :
  ∀{n n':Nat}{s s':StE}{t:St}{x:Ex},n<=n'->StR s t->mrE f fin it nx more out clr n s=some (x,s')->∃t',mrN f' fin' it nx more out clr n' t=some (x,t')/\StR s' t'
 |0,_,_,_,_,_,_,_,h=>by simp[mrE]at h
 |n+1,0,_,_,_,_,hn,_,_=>by omega
 |n+1,n'+1,s,s',t,x,hn,hst,h=>by
  simp only[mrE]at h;simp only[mrN];split at h
  case isFalse=>cases h
  rename_i hl;rw[<-hst.env.1]at hl;rw[if_pos hl];split at h
  case h_1=>cases h
  rename_i e he;have hc:=hst.env.clear he;split at h
  case h_2=>cases h
  rename_i k ep hit;rw[<-hc.2]at hit;rw[hit];simp only;split at h
  case h_2=>cases h
  rename_i l o hx;rw[hst.hp]at hx;rw[hx];simp only;have hset:∀v b,rO (TE e nx more v b) (((clear clr t.env).set nx v).set more (.bool b)):=λv b=>(hc.set (some nx) v).set (some more) (.bool b);split at h;rename_i hle;rw[if_pos hle];rw[hst.hp]at h;cases hk:killI t.hp k ep with
  |none=>simp[hk]at h
  |some h2=>simp only[hk,Option.bind_some]at h ⊢;exact hg _ _ _ _ _ ⟨hset _ _,rfl⟩ h
  rename_i hle;rw[if_neg hle];refine EE (λb x s' hr=>?_) h;split at hr;rename_i s1 h1;obtain⟨t1,q1,q2⟩:=hf _ ⟨((clear clr t.env).set nx (.tup [.bool true,.top,.top])).set more (.bool true),t.hp.put k ep (o b)⟩ _ _ ⟨hset _ _,by rw[hst.hp]⟩ h1;rw[q1];exact FJ hf hg (by omega) q2 hr;rename_i x1 s1 hne h1;obtain⟨t1,q1,q2⟩:=hf _ ⟨((clear clr t.env).set nx (.tup [.bool true,.top,.top])).set more (.bool true),t.hp.put k ep (o b)⟩ _ _ ⟨hset _ _,by rw[hst.hp]⟩ h1;rw[q1]
  have key:∀y,(killI s1.hp k ep).bind (λh=>fin (x1,(⟨s1.env,h⟩:StE)))=some (x,y)->∃t',(killI t1.hp k ep).bind (λh=>fin' (x1,(⟨t1.env,h⟩:St)))=some (x,t')/\StR y t':=by
   intro y hy;rw[q2.hp]at hy;cases hk:killI t1.hp k ep with
   |none=>simp[hk]at hy
   |some h2=>simp only[hk,Option.bind_some]at hy ⊢;exact hg x1 ⟨s1.env,h2⟩ ⟨t1.env,h2⟩ _ _ ⟨q2.env,rfl⟩ hy
  cases x1 with
  |nor=>exact(hne rfl).elim
  |ext id=>exact key _ hr
  |ret=>exact key _ hr
  cases hr
theorem DG{gl:Nat->Option AV}{c c':aW}(hc:BQ c c'){kb n n':Nat}(hn:n<=n'):∀{k:C}{s s':StE}{t:St}{x:Ex},StR s t->gD gl c kb n k s=some (x,s') ->
  ∃t',bE gl c' kb n' k t=some (x,t')/\StR s' t':=by
 intro k
 induction k with
 |skip=>intro s s' t x hst h;simp[gD]at h;obtain⟨rfl,rfl⟩:=h;exact⟨t,rfl,hst⟩
 |reg rs d=>
  intro s s' t x hst h;cases d with
  |false=>
   simp only[gD]at h;simp only[bE];cases hr:CG gl c kb rs s with
   |none=>simp[hr]at h
   |some s1=>simp[hr]at h;obtain⟨rfl,rfl⟩:=h;obtain⟨t1,q1,q2⟩:=CE hc hst hr;exact⟨t1,by rw[q1];rfl,q2⟩
  |true=>
   simp only[gD]at h;simp only[bE];split at h
   case h_2=>cases h
   rename_i s1 es hr;obtain⟨t1,q1,q2⟩:=zC hc hst hr;rw[q1];simp only;split at h
   case isFalse=>cases h
   rename_i ha;rw[if_pos ha];cases h;exact⟨t1,rfl,q2⟩
 |seq a b iha ihb=>
  intro s s' t x hst h;simp only[gD]at h;simp only[bE];split at h;rename_i s1 h1;obtain⟨t1,q1,q2⟩:=iha hst h1;rw[q1];exact ihb q2 h;rename_i hne;obtain⟨t1,q1,q2⟩:=iha hst h;rw[q1];cases x with
  |nor=>exact absurd h (hne _)
  |ext id=>exact⟨t1,rfl,q2⟩
  |ret=>exact⟨t1,rfl,q2⟩
 |cond y a b iha ihb=>intro s s' t x hst h;simp only[gD]at h;simp only[bE];rw[MV hst]at h;split at h;rename_i hb;rw[hb];exact iha hst h;rename_i hb;rw[hb];exact ihb hst h;cases h
 |block id b ih=>
  intro s s' t x hst h;simp only[gD]at h;simp only[bE];split at h;rename_i i s1 h1;obtain⟨t1,q1,q2⟩:=ih hst h1;rw[q1];simp only[cond_eq_ite,Nat.beq_eq]at h ⊢;split at h;rename_i hi;rw[if_pos hi];cases h;exact⟨t1,rfl,q2⟩;rename_i hi;rw[if_neg hi];cases h;exact⟨t1,rfl,q2⟩;rename_i hne;obtain⟨t1,q1,q2⟩:=ih hst h;rw[q1];cases x with
  |nor=>exact⟨t1,rfl,q2⟩
  |ext id=>exact absurd h (hne _ _)
  |ret=>exact⟨t1,rfl,q2⟩
 |loop b m ih=>intro s s' t x hst h;simp only[gD]at h;simp only[bE];exact CV (λs t x s' q1 q2=>ih q1 q2) hn hst h
 |exit id=>intro s s' t x hst h;simp[gD]at h;obtain⟨rfl,rfl⟩:=h;exact⟨t,rfl,hst⟩
 |ret=>intro s s' t x hst h;simp[gD]at h;obtain⟨rfl,rfl⟩:=h;exact⟨t,rfl,hst⟩
 |rf fx sk ps ca cb=>
  intro s s' t x hst h;simp only[gD]at h;simp only[bE];rw[MV hst,hst.env.list,hst.hp]at h;split at h
  case h_2=>cases h
  rename_i f cs hf;rw[hf];simp only;split at h
  case h_2=>cases h
  rename_i rr h' hcall;rw[hc.off _ _ _ _ _ (by omega) hcall];simp only;unfold VL at h;split at h
  case h_2=>cases h
  rename_i y st1 he;cases h;unfold AM at he ⊢;split at he
  case h_2=>cases he
  split at he
  case isFalse=>cases he
  rename_i hee;rw[if_pos hee];split at he;cases he;exact⟨_,rfl,⟨hst.env,rfl⟩⟩;cases he;exact⟨_,rfl,⟨hst.env,rfl⟩⟩;cases he;exact⟨_,rfl,⟨hst.env,rfl⟩⟩;cases he
 |bad=>intro s s' t x hst h;simp[gD]at h
 |mr it nx more out b clr ih=>intro s s' t x hst h;simp only[gD]at h;simp only[bE];exact FJ (λs t x s' q1 q2=>ih q1 q2) (λx1 s t x s' q1 q2=>by cases q2;exact⟨t,rfl,q1⟩) hn hst h
 |mq p id it nx more out b clr c2 msk drop ihp ih ih2=>
  intro s s' t x hst h;simp only[gD]at h;simp only[bE];split at h;rename_i s1 h1;obtain⟨t1,q1,q2⟩:=ihp hst h1;rw[q1];refine FJ (λs t x s' q1 q2=>ih q1 q2) (λx1 s t x s' r1 r2=>?_) hn q2 h;have key:∀(y:Ex×StE)(t2:St),StR y.2 t2->UH kb msk drop y=some (x,s')->∃t',wL kb msk drop (y.1,t2)=(x,t')/\StR s' t':=by intro y t2 hy hm;simp only[UH,lH,bA]at hm;obtain⟨env,m1,rfl,rfl⟩:=hm;exact⟨_,rfl,⟨hy.env.clear m1,by rw[hy.hp]⟩⟩
  simp only at r2 ⊢;split at r2;rename_i hb;rw[hb];simp only;cases hx:gD gl c kb n c2 s with
  |none=>simp[hx]at r2
  |some y=>simp only[hx,Option.bind_some]at r2;obtain⟨y1,y2⟩:=y;obtain⟨t2,a1,a2⟩:=ih2 r1 hx;rw[a1];obtain⟨t',k1,k2⟩:=key (y1,y2) t2 a2 r2;exact⟨t',by rw[Option.map_some,k1],k2⟩
  rename_i hb;simp only[Option.bind_some]at r2;obtain⟨t',k1,k2⟩:=key (kY id x1,s) t r1 r2;refine⟨t',?_,k2⟩;cases hbx:kY id x1 with
  |nor=>exact absurd hbx hb
  |ext i=>rw[hbx]at k1;simp only[Option.map_some,k1]
  |ret=>rw[hbx]at k1;simp only[Option.map_some,k1]
  rename_i hne;obtain⟨t1,q1,q2⟩:=ihp hst h;rw[q1];cases x with
  |nor=>exact absurd h (hne _)
  |ext id=>exact⟨t1,rfl,q2⟩
  |ret=>exact⟨t1,rfl,q2⟩
theorem L3{s:StE}{t:St}(hst:StR s t)(rs:List (Sum Nat (Nat×Nat×Bool))):E4 s rs=result t rs:=by
 have h1:∀r,E6 s r=wE t r:=by
  intro r;cases r with
  |inl u=>simp only[E6,wE,hst.env.2]
  |inr p=>simp only[E6,wE,hst.env.2,hst.hp];rfl
 have h2:∀rs,xO s rs=oJ t rs:=by
  intro rs
  induction rs with
  |nil=>rfl
  |cons r rs ih=>simp only[xO,oJ,h1,ih];rfl
 unfold E4 result;rw[h2];rfl
theorem M0{h:Hp}{v:AV}(hv:v.tree=true):conv h v=some v:=by
 have:snap depth h v=some (v,[]):=by unfold depth snap;rw[if_pos hv]
 cases v<;>first|(simp only[conv,this];rfl)|simp[AV.tree]at hv
theorem I3{r:AV}(h:pW r=true):conv (sE r).2 (sE r).1=some r:=by unfold pW at h;split at h;rename_i q hq;rw[hq,iR _ _ h];cases h
theorem BR{r:AV}(h:r.tree=true):pW r=true:=by
 have h1:sE r=(r,[]):=by cases r<;>first|rfl|simp[AV.tree]at h
 unfold pW;rw[h1];simp only[M0 h,lD]
theorem s9(pg:Pg){memo:Nat->List AV->Option AV}{m:Nat}(hm:∀f a r,memo f a=some r->pW r=true/\bJ (aX pg m) f a=some r):∀n,BQ (cE pg memo n) (aX pg (m+n))
 |0=>⟨λf a kb h r _ hq=>by simp[cE]at hq,λf a r hq=>by simp[bJ,cE]at hq,λk e a h r hq=>by simp[cE]at hq⟩
 |n+1=>by
  have key:∀f a kb h r,FK memo f a kb h=none->cE pg memo (n+1) f a kb h=some r->aX pg (m+(n+1)) f a kb h=some r:=by
   intro f a kb h r hn hq;simp only[cE]at hq;rw[hn]at hq;simp only at hq;rw[<-Nat.add_assoc];simp only[aX];split at hq;rename_i hf;rw[hf];exact hq;rename_i cf hf;rw[hf];simp only;split at hq;cases hq;rename_i x s hne he;obtain⟨t,q1,q2⟩:=DG (t:=⟨enter cf a,h⟩) (s9 pg hm n) (Nat.le_add_left n m) ⟨rO.enter cf a,rfl⟩ he;rw[q1];rw[L3 q2,q2.hp]at hq;cases x with
   |nor=>exact hq
   |ret=>exact hq
   |ext id=>exact(hne id rfl).elim
   cases hq
  have hyl:∀k e a h r,(cE pg memo (n+1)).yl k e a h=some r->(aX pg (m+(n+1))).yl k e a h=some r:=by
   intro k e a h r hq;rw[<-Nat.add_assoc];refine pP (λc b st r hr=>?_) hq;unfold TI at hr;split at hr
   case h_2=>cases hr
   rename_i x s he;cases hr;obtain⟨t,q1,q2⟩:=DG (t:=⟨st.env,st.hp⟩) (s9 pg hm n) (Nat.le_add_left n m) ⟨rO.of st.env,rfl⟩ he;have:t=⟨s.env.list,s.hp⟩:=by rw[q2.env.list,q2.hp]
   rw[q1,this]
  refine⟨λf a kb h r hk hq=>key f a kb h r ?_ hq,λf a r hq=>?_,hyl⟩;cases kb with
  |zero=>exact absurd rfl hk
  |succ k=>rfl
  unfold bJ at hq;cases hc:cE pg memo (n+1) f a 0 [] with
  |none=>simp[hc]at hq
  |some p=>
   rw[hc]at hq;cases hme:memo f a with
   |some r'=>
    have:cE pg memo (n+1) f a 0 []=some (sE r'):=by simp only[cE,FK,hme]
    rw[this]at hc;cases hc;obtain⟨h1,h2⟩:=hm f a r' hme;simp only[I3 h1,aU]at hq;subst hq;exact fQ (d7 pg (by omega)) h2
   |none=>have:=key f a 0 [] p (by simp[FK,hme]) hc;unfold bJ;rw[this];exact hq
theorem SE(pg:Pg){memo:Nat->List AV->Option AV}{m:Nat}(hm:∀f a r,memo f a=some r->r.tree=true/\bJ (aX pg m) f a=some r)(n:Nat):BQ (cE pg memo n) (aX pg (m+n)):=
 s9 pg (λf a r h=>⟨BR (hm f a r h).1,(hm f a r h).2⟩) n
end
section
variable{pg:Pg}{kb:Nat}
def Ret(pg:Pg)(f:Nat)(ts:List AV)(r:AV):Prop:=∃n,bJ (aX pg n) f ts=some r
def tE(pg:Pg)(f:Nat)(vs:List AV)(kb:Nat)(h:Hp)(r:AV)(h':Hp):Prop:=∃n,aX pg n f vs kb h=some (r,h')
def WX(pg:Pg)(kb:Nat)(c:C)(st:St)(Q:Ex->St->Prop):Prop:=∃n ex st',bE pg.gl (aX pg n) kb n c st=some (ex,st')/\Q ex st'
def WR(pg:Pg)(kb:Nat)(rs:List R)(st:St)(K:St->Prop):Prop:=∃n st',mT pg.gl (aX pg n) kb rs st=some st'/\K st'
def WT(pg:Pg)(kb:Nat)(rs:List R)(st:St)(K:St->List Eff->Prop):Prop:=∃n st' es,gZ pg.gl (aX pg n) kb rs st=some (st',es)/\K st' es
def WO(pg:Pg)(kb:Nat)(k:K)(s:Nat)(h:Hp)(vs:List AV)(Q:AV->Eff->Prop):Prop:=
 ∃n v eff,opR (aX pg n) kb ⟨none,k,[],none,0,s⟩ h vs=some (v,eff)/\Q v eff
def lB(A:St->Prop)(Q:Ex->St->Prop)(ex:Ex)(st:St):Prop:=
 match ex with
 |.nor=>A st
 |.ext i=>Q (.ext i) st
 |.ret=>Q .ret st
theorem QS(A:St->Prop)(Q:Ex->St->Prop)(st:St):lB A Q .nor st=A st:=rfl
theorem QT(A:St->Prop)(Q:Ex->St->Prop)(i:Nat)(st:St):lB A Q (.ext i) st=Q (.ext i) st:=rfl
theorem QR(A:St->Prop)(Q:Ex->St->Prop)(st:St):lB A Q .ret st=Q .ret st:=rfl
def nS(id:Nat)(Q:Ex->St->Prop)(ex:Ex)(st:St):Prop:=
 match ex with
 |.nor=>Q .nor st
 |.ext i=>if i=id then Q .nor st else Q (.ext i) st
 |.ret=>Q .ret st
theorem N7(id:Nat)(Q:Ex->St->Prop)(st:St):nS id Q .nor st=Q .nor st:=rfl
theorem N8(id:Nat)(Q:Ex->St->Prop)(i:Nat)(st:St):nS id Q (.ext i) st=if i=id then Q .nor st else Q (.ext i) st:=rfl
theorem N6(id:Nat)(Q:Ex->St->Prop)(st:St):nS id Q .ret st=Q .ret st:=rfl
def VT(v:AV)(A B:Prop):Prop:=
 match v with
 |.bool true=>A
 |.bool false=>B
 |_=>False
def IY(o:Option (AV×Eff))(Q:AV->Eff->Prop):Prop:=
 match o with
 |some (v,e)=>Q v e
 |none=>False
theorem m7{c:C}{st:St}{o:Ex×St}{n m:Nat}(h:n<=m)(e:bE pg.gl (aX pg n) kb n c st=some o):bE pg.gl (aX pg m) kb m c st=some o:=
 oD (d7 pg h) h e
theorem YM{rs:List R}{st st':St}{n m:Nat}(h:n<=m)(e:mT pg.gl (aX pg n) kb rs st=some st'):mT pg.gl (aX pg m) kb rs st=some st':=
 u9 (d7 pg h) e
theorem aBS(st:St)(Q:Ex->St->Prop):WX pg kb .skip st Q=Q .nor st:=by apply propext;constructor;rintro⟨n,ex,st',h,q⟩;simp only[bE,aU,bA]at h;obtain⟨rfl,rfl⟩:=h;exact q;intro q;exact⟨0,_,_,rfl,q⟩
theorem aBU(id:Nat)(st:St)(Q:Ex->St->Prop):WX pg kb (.exit id) st Q=Q (.ext id) st:=by apply propext;constructor;rintro⟨n,ex,st',h,q⟩;simp only[bE,aU,bA]at h;obtain⟨rfl,rfl⟩:=h;exact q;intro q;exact⟨0,_,_,rfl,q⟩
theorem aIg(st:St)(Q:Ex->St->Prop):WX pg kb .ret st Q=Q .ret st:=by apply propext;constructor;rintro⟨n,ex,st',h,q⟩;simp only[bE,aU,bA]at h;obtain⟨rfl,rfl⟩:=h;exact q;intro q;exact⟨0,_,_,rfl,q⟩
theorem aIh(rs:List R)(st:St)(Q:Ex->St->Prop):WX pg kb (.reg rs false) st Q=WR pg kb rs st (λst'=>Q .nor st'):=by apply propext;constructor;rintro⟨n,ex,st',h,q⟩;simp only[bE,lH,bA]at h;obtain⟨s,h1,rfl,rfl⟩:=h;exact⟨n,_,h1,q⟩;rintro⟨n,st',h,q⟩;exact⟨n,_,_,by simp only[bE,h,Option.map_some],q⟩
theorem aBT(rs:List R)(st:St)(Q:Ex->St->Prop):WX pg kb (.reg rs true) st Q=WT pg kb rs st (λst' es=>cW 0 rs es=true/\Q .nor st'):=by apply propext;constructor;rintro⟨n,ex,st',h,q⟩;simp only[bE]at h;split at h;rename_i s es h1;split at h;simp only[aU,bA]at h;obtain⟨rfl,rfl⟩:=h;exact⟨n,_,_,h1,by assumption,q⟩;cases h;cases h;rintro⟨n,st',es,h,a,q⟩;exact⟨n,_,_,by simp only[bE,h,a,if_true],q⟩
theorem aBV(c:X)(a b:C)(st:St)(Q:Ex->St->Prop):WX pg kb (.cond c a b) st Q=VT (c.ev pg.gl st.env) (WX pg kb a st Q) (WX pg kb b st Q):=by
 apply propext;simp only[WX,bE];cases c.ev pg.gl st.env with
 |bool x=>cases x<;>exact Iff.rfl
 |_=>simp[VT]
theorem aIf(a b:C)(st:St)(Q:Ex->St->Prop):WX pg kb (.seq a b) st Q=WX pg kb a st (lB (λst'=>WX pg kb b st' Q) Q):=by
 apply propext;constructor;rintro⟨n,ex,st',h,q⟩;simp only[bE]at h;cases ha:bE pg.gl (aX pg n) kb n a st with
 |none=>simp[ha]at h
 |some o=>
  obtain⟨ex1,st1⟩:=o;rw[ha]at h;refine⟨n,ex1,st1,ha,?_⟩;cases ex1 with
  |nor=>exact⟨n,ex,st',h,q⟩
  |ext i=>simp only[aU,bA]at h;obtain⟨rfl,rfl⟩:=h;exact q
  |ret=>simp only[aU,bA]at h;obtain⟨rfl,rfl⟩:=h;exact q
 rintro⟨n,ex,st',h,q⟩;cases ex with
 |nor=>obtain⟨m,ex2,st2,h2,q2⟩:=q;refine⟨max n m,ex2,st2,?_,q2⟩;simp only[bE,m7 (Nat.le_max_left n m) h];exact m7 (Nat.le_max_right n m) h2
 |ext i=>exact⟨n,_,_,by simp only[bE,h],q⟩
 |ret=>exact⟨n,_,_,by simp only[bE,h],q⟩
theorem XQ(id:Nat)(b:C)(st:St)(Q:Ex->St->Prop):WX pg kb (.block id b) st Q=WX pg kb b st (nS id Q):=by
 apply propext;constructor;rintro⟨n,ex,st',h,q⟩;simp only[bE]at h;cases hb:bE pg.gl (aX pg n) kb n b st with
 |none=>simp[hb]at h
 |some o=>
  obtain⟨ex1,st1⟩:=o;rw[hb]at h;refine⟨n,ex1,st1,hb,?_⟩;cases ex1 with
  |nor=>simp only[aU,bA]at h;obtain⟨rfl,rfl⟩:=h;exact q
  |ext i=>simp only at h;simp only[nS];split at h<;>(simp only[aU,bA]at h;obtain⟨rfl,rfl⟩:=h;simp_all)
  |ret=>simp only[aU,bA]at h;obtain⟨rfl,rfl⟩:=h;exact q
 rintro⟨n,ex,st',h,q⟩;cases ex with
 |nor=>exact⟨n,_,_,by simp only[bE,h],q⟩
 |ret=>exact⟨n,_,_,by simp only[bE,h],q⟩
 |ext i=>simp only[nS]at q;split at q;rename_i hi;exact⟨n,.nor,st',by simp only[bE,h,if_pos hi],q⟩;rename_i hi;exact⟨n,.ext i,st',by simp only[bE,h,if_neg hi],q⟩
theorem I6{b:C}{clr:List Bool}{st:St}{o:Ex×St}{n m k l:Nat}(h:n<=m)(hk:k<=l)(e:i7 (bE pg.gl (aX pg n) kb n b) clr k st=some o) :
  i7 (bE pg.gl (aX pg m) kb m b) clr l st=some o:=
 sP (λ_ _ q=>m7 h q) hk e
theorem QG(b:C)(clr:List Bool)(st:St)(Q:Ex->St->Prop) :
  WX pg kb (.loop b clr) st Q=WX pg kb b ⟨clear clr st.env,st.hp⟩ (lB (λst'=>WX pg kb (.loop b clr) st' Q) Q):=by
 apply propext;constructor;rintro⟨n,ex,st',h,q⟩;simp only[bE]at h;cases n with
 |zero=>simp[i7]at h
 |succ n=>
  simp only[i7]at h;cases hb:bE pg.gl (aX pg (n+1)) kb (n+1) b ⟨clear clr st.env,st.hp⟩ with
  |none=>simp[hb]at h
  |some o=>
   obtain⟨ex1,st1⟩:=o;rw[hb]at h;refine⟨n+1,ex1,st1,hb,?_⟩;cases ex1 with
   |nor=>exact⟨n+1,ex,st',I6 (Nat.le_refl _) (Nat.le_succ n) h,q⟩
   |ext i=>simp only[aU,bA]at h;obtain⟨rfl,rfl⟩:=h;exact q
   |ret=>simp only[aU,bA]at h;obtain⟨rfl,rfl⟩:=h;exact q
 rintro⟨n,ex,st',h,q⟩;cases ex with
 |nor=>obtain⟨m,ex2,st2,h2,q2⟩:=q;refine⟨max n m+1,ex2,st2,?_,q2⟩;simp only[bE]at h2 ⊢;rw[i7];rw[m7 (Nat.le_trans (Nat.le_max_left n m) (Nat.le_succ _)) h];exact I6 (Nat.le_trans (Nat.le_max_right n m) (Nat.le_succ _)) (Nat.le_max_right n m) h2
 |ext i=>exact⟨n+1,_,_,by simp only[bE,i7,m7 (Nat.le_succ n) h],q⟩
 |ret=>exact⟨n+1,_,_,by simp only[bE,i7,m7 (Nat.le_succ n) h],q⟩
theorem ST{α : Type}(μ : α -> Nat)(E : α -> List AV->Hp->Prop){b:C}{clr:List Bool}{st:St}{Q:Ex->St->Prop}(a : α)(h0:E a (clear clr st.env) st.hp)
  (step:∀a env hp,E a env hp->WX pg kb b ⟨env,hp⟩ (lB (λst'=>∃a',μ a' < μ a/\E a' (clear clr st'.env) st'.hp) Q)) :
  WX pg kb (.loop b clr) st Q:=by
 have key:∀n a st,μ a<n->E a (clear clr st.env) st.hp->WX pg kb (.loop b clr) st Q:=by
  intro n
  induction n with
  |zero=>intro a st h;omega
  |succ n ih=>
   intro a st hn h;rw[QG];obtain⟨m,ex,st',h1,q⟩:=step a _ _ h;refine⟨m,ex,st',h1,?_⟩;cases ex with
   |nor=>obtain⟨a',h2,h3⟩:=q;exact ih a' st' (by omega) h3
   |ext i=>exact q
   |ret=>exact q
 exact key _ a st (Nat.lt_succ_self _) h0
theorem aIj(st:St)(A:St->Prop):WR pg kb [] st A=A st:=by apply propext;constructor;rintro⟨n,st',h,q⟩;simp only[mT,aU]at h;subst h;exact q;intro q;exact⟨0,_,rfl,q⟩
theorem ME{k:K}{s:Nat}{h:Hp}{vs:List AV}{x:AV×Eff}{n m:Nat}(hn:n<=m)(e:opR (aX pg n) kb ⟨none,k,[],none,0,s⟩ h vs=some x) :
  opR (aX pg m) kb ⟨none,k,[],none,0,s⟩ h vs=some x:=
 IZ (d7 pg hn) e
theorem QI(d:Option Nat)(k:K)(xs:List X)(bef s:Nat)(rs:List R)(st:St)(A:St->Prop) :
  WR pg kb (⟨d,k,xs,none,bef,s⟩::rs) st A=WO pg kb k s st.hp (xs.map (X.ev pg.gl st.env)) (λv eff=>WR pg kb rs ⟨eH st.env d v,eff.app st.hp⟩ A):=by
 apply propext;constructor;rintro⟨n,st',h,q⟩;simp only[mT,iB,wanted]at h;split at h;rename_i st1 e h1;split at h1;rename_i v eff h2;simp only[aU,bA]at h1;obtain⟨rfl,rfl⟩:=h1;exact⟨n,v,eff,h2,n,st',h,q⟩;cases h1;cases h;rintro⟨n,v,eff,h,m,st',h2,q⟩;refine⟨max n m,st',?_,q⟩;have e1:=ME (Nat.le_max_left n m) h;have e2:=YM (Nat.le_max_right n m) h2;have e3:opR (aX pg (max n m)) kb ⟨d,k,xs,none,bef,s⟩ st.hp (xs.map (X.ev pg.gl st.env))=some (v,eff):=e1;simp only[mT,iB,wanted,e3];exact e2
def gdQ(v:AV)(b:Bool)(A B:Prop):Prop:=
 match v with
 |.bool c=>if c=b then A else B
 |.tup []=>B
 |_=>False
theorem XW(d:Option Nat)(k:K)(xs:List X)(t:Nat)(b:Bool)(bef s:Nat)(rs:List R)(st:St)(A:St->Prop) :
  WR pg kb (⟨d,k,xs,some (t,b),bef,s⟩::rs) st A =
   gdQ (gB st.env t) b (WO pg kb k s st.hp (xs.map (X.ev pg.gl st.env)) (λv eff=>WR pg kb rs ⟨eH st.env d v,eff.app st.hp⟩ A)) (WR pg kb rs ⟨eH st.env d (.tup []),st.hp⟩ A):=by
 rw[<-QI d k xs bef s];apply propext;have hb:∀c:Bool,(c==b)=decide (c=b):=λc=>by cases c<;>cases b<;>rfl
 simp only[WR,mT,iB,wanted];generalize gB st.env t=v;cases v with
 |bool c=>simp only[gdQ,hb];by_cases hc:c=b;simp only[hc,decide_true,if_true];exact Iff.rfl;simp only[hc,decide_false,if_false]
 |tup l=>cases l<;>simp[gdQ]
 |_=>simp[gdQ]
theorem aIi(st:St)(A:St->List Eff->Prop):WT pg kb [] st A=A st []:=by apply propext;constructor;rintro⟨n,st',es,h,q⟩;simp only[gZ,aU,bA]at h;obtain⟨rfl,rfl⟩:=h;exact q;intro q;exact⟨0,_,_,rfl,q⟩
theorem QH(d:Option Nat)(k:K)(xs:List X)(bef s:Nat)(rs:List R)(st:St)(A:St->List Eff->Prop) :
  WT pg kb (⟨d,k,xs,none,bef,s⟩::rs) st A=WO pg kb k s st.hp (xs.map (X.ev pg.gl st.env)) (λv eff=>WT pg kb rs ⟨eH st.env d v,eff.app st.hp⟩ (λst' es=>A st' (eff::es))):=by
 apply propext;constructor;rintro⟨n,st',es,h,q⟩;simp only[gZ,iB,wanted]at h;split at h;rename_i st1 e h1;split at h1;rename_i v eff h2;simp only[aU,bA]at h1;obtain⟨rfl,rfl⟩:=h1;simp only[lH,bA]at h;obtain⟨⟨s1,l1⟩,h3,h4,h5⟩:=h;subst h4;subst h5;exact⟨n,v,eff,h2,n,s1,l1,h3,q⟩;cases h1;cases h;rintro⟨n,v,eff,h,m,st',es,h2,q⟩;refine⟨max n m,st',eff::es,?_,q⟩;have e1:=ME (Nat.le_max_left n m) h;have e2:=sJ (d7 pg (Nat.le_max_right n m)) h2;have e3:opR (aX pg (max n m)) kb ⟨d,k,xs,none,bef,s⟩ st.hp (xs.map (X.ev pg.gl st.env))=some (v,eff):=e1;simp only[gZ,iB,wanted,e3];rw[e2];rfl
theorem XS(d:Option Nat)(k:K)(xs:List X)(t:Nat)(b:Bool)(bef s:Nat)(rs:List R)(st:St)(A:St->List Eff->Prop) :
  WT pg kb (⟨d,k,xs,some (t,b),bef,s⟩::rs) st A =
   gdQ (gB st.env t) b (WO pg kb k s st.hp (xs.map (X.ev pg.gl st.env)) (λv eff=>WT pg kb rs ⟨eH st.env d v,eff.app st.hp⟩ (λst' es=>A st' (eff::es))))
    (WT pg kb rs ⟨eH st.env d (.tup []),st.hp⟩ (λst' es=>A st' (.pat [] []::es))):=by
 rw[<-QH d k xs bef s];apply propext;have hb:∀c:Bool,(c==b)=decide (c=b):=λc=>by cases c<;>cases b<;>rfl
 have key:(∃n st' es,(gZ pg.gl (aX pg n) kb rs ⟨eH st.env d (.tup []),st.hp⟩).map (fun(s,l)=>(s,Eff.pat [] []::l))=some (st',es)/\A st' es) ↔
   (∃n st' es,gZ pg.gl (aX pg n) kb rs ⟨eH st.env d (.tup []),st.hp⟩=some (st',es)/\A st' (.pat [] []::es)):=by
  constructor;rintro⟨n,st',es,h,q⟩;simp only[lH,bA]at h;obtain⟨⟨s1,l1⟩,h3,h4,h5⟩:=h;subst h4;subst h5;exact⟨n,s1,l1,h3,q⟩;rintro⟨n,st',es,h,q⟩;exact⟨n,st',_,by rw[h];rfl,q⟩
 simp only[WT,gZ,iB,wanted];generalize gB st.env t=v;cases v with
 |bool c=>simp only[gdQ,hb];by_cases hc:c=b;simp only[hc,decide_true,if_true];exact Iff.rfl;simp only[hc,decide_false,if_false];exact key
 |tup l=>
  cases l with
  |nil=>simp only[gdQ];exact key
  |cons a r=>simp[gdQ]
 |_=>simp[gdQ]
def K.isCall:K->Bool
 |.call ..|.callv ..|.calle ..|.callr ..|.callvr|.inv .. => true
 |_=>false
theorem cG{k:K}(hk:k.isCall=false)(s:Nat)(h:Hp)(vs:List AV)(Q:AV->Eff->Prop):WO pg kb k s h vs Q=IY (FF h (kb+s) k vs) Q:=by
 have e:∀call:aW,opR call kb ⟨none,k,[],none,0,s⟩ h vs=FF h (kb+s) k vs:=by intro call;cases k<;>first|rfl|simp[K.isCall]at hk
 apply propext;simp only[WO,e];cases FF h (kb+s) k vs with
 |none=>simp[IY]
 |some x=>obtain⟨v,eff⟩:=x;simp only[IY];constructor;rintro⟨n,v',e',h1,q⟩;cases h1;exact q;intro q;exact⟨0,_,_,rfl,q⟩
theorem WY{f:Nat}{ts:List AV}{r:AV}{n m:Nat}(h:n<=m)(e:bJ (aX pg n) f ts=some r):bJ (aX pg m) f ts=some r:=
 fQ (d7 pg h) e
theorem aBW{f s:Nat}{th:Bool}{h:Hp}{vs ts:List AV}{keys:List Nat}{r v:AV}{pa:List Ent}{Q:AV->Eff->Prop}(hr:Ret pg f ts r)
  (hm:mapS (snap depth h) vs=some (ts,keys)) (hv:hU h (kb+s) th r=some (v,pa)) :
  WO pg kb (.call f th false) s h vs Q=Q v (.pat ((kb+s)::keys) ((if r.flat then [] else aI h keys)++pa)):=by
 obtain⟨n,e⟩:=hr;have key:∀m,n<=m->opR (aX pg m) kb ⟨none,.call f th false,[],none,0,s⟩ h vs=some (v,.pat ((kb+s)::keys) ((if r.flat then [] else aI h keys)++pa)):=by intro m hm';simp only[opR,jT,Bool.false_eq_true,if_false,hm,WY hm' e,hv]
 apply propext;constructor;rintro⟨m,v',e',h1,q⟩;have h2:=key _ (Nat.le_max_left n m);have h3:=ME (Nat.le_max_right n m) h1;rw[h3]at h2;cases h2;exact q;intro q;exact⟨n,_,_,key n (Nat.le_refl _),q⟩
theorem XY{f s:Nat}{th im:Bool}{h h':Hp}{vs:List AV}{r:AV}{Q:AV->Eff->Prop}(hm:im=true\/mapS (snap depth h) vs=none){B:Nat}(hB:gX kb s vs=B)(hr:tE pg f vs B h r h')
   (hq:Q r (.whole h')):WO pg kb (.call f th im) s h vs Q:=by
 subst hB;obtain⟨n,e⟩:=hr;refine⟨n,r,.whole h',?_,hq⟩;have:(if im then none else mapS (snap depth h) vs)=none:=by rcases hm with rfl|hm;rfl;simp[hm]
 simp only[opR,jT,this,e]
theorem tE.of{f:Nat}{cf:CF}{vs:List AV}{h:Hp}{r:AV}{h':Hp}(hf:pg.fs f=some cf)
  (hw:WX pg kb cf.body ⟨enter cf vs,h⟩ (λex st=>(match ex with|.ext _=>False|_=>True)/\result st cf.res=some r/\st.hp=h')):tE pg f vs kb h r h':=by
 obtain⟨n,ex,st,h1,h2,h3,h4⟩:=hw;refine⟨n+1,?_⟩;subst h4;simp only[aX,hf,h1];cases ex with
 |ext i=>exact h2.elim
 |nor=>simp[h3]
 |ret=>simp[h3]
def JR(res:List (Sum Nat (Nat×Nat×Bool)))(r:AV)(ex:Ex)(st:St):Prop:=
 match ex with
 |.ext _=>False
 |_=>∃v,result st res=some v/\conv st.hp v=some r
theorem VG(res:List (Sum Nat (Nat×Nat×Bool)))(r:AV)(st:St):JR res r .nor st=∃v,result st res=some v/\conv st.hp v=some r:=rfl
theorem VF(res:List (Sum Nat (Nat×Nat×Bool)))(r:AV)(st:St):JR res r .ret st=∃v,result st res=some v/\conv st.hp v=some r:=rfl
theorem Ret.of{f:Nat}{cf:CF}{vs:List AV}{r:AV}(hf:pg.fs f=some cf)(hw:WX pg 0 cf.body ⟨enter cf vs,[]⟩ (JR cf.res r)):Ret pg f vs r:=by
 obtain⟨n,ex,st,h1,h2⟩:=hw;refine⟨n+1,?_⟩;cases ex with
 |ext i=>exact h2.elim
 |nor=>obtain⟨v,h3,h4⟩:=h2;simp only[bJ,aX,hf,h1,h3,Option.map_some,h4]
 |ret=>obtain⟨v,h3,h4⟩:=h2;simp only[bJ,aX,hf,h1,h3,Option.map_some,h4]
theorem aGK{α : Type}{x : α}{P : α -> Prop}:(∃v,some x=some v/\P v)=P x:=by apply propext;constructor;rintro⟨v,h,p⟩;cases h;exact p;intro p;exact⟨x,rfl,p⟩
end
end Go.Tev
