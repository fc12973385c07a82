import Derived.Test.YtmcadllokkmeiaaGreatDoorBAG
set_option linter.all false
namespace Go.Tev
section
structure EF where
 nt:Nat
 dt:Bool
 l:List (Nat×AV)
def D0(nt:Nat)(dt:Bool)(t:Nat):List (Nat×AV)->AV
 |[]=>bif dt then (bif t.blt nt then .tup [] else .top) else .top
 |p::r=>bif p.1.beq t then p.2 else D0 nt dt t r
def EF.get(e:EF)(t:Nat):AV:=D0 e.nt e.dt t e.l
def EF.set(e:EF):Option Nat->AV->EF
 |none,_=>e
 |some d,v=>bif d.blt e.nt then ⟨e.nt,e.dt,(d,v)::e.l⟩ else e
def z8(e:EF):Nat->List Bool->Option (List (Nat×AV))
 |i,[]=>bif e.nt.ble i then some [] else none
 |i,true::m=>(z8 e (i+1) m).map ((i,e.get i) :: ·)
 |i,false::m=>z8 e (i+1) m
def EF.clear(e:EF)(m:List Bool):Option EF:=(z8 e 0 m).map λl=>⟨e.nt,false,l⟩
def KQ:Nat->List AV->List (Nat×AV)
 |_,[]=>[]
 |i,v::r=>(i,v)::KQ (i+1) r
def LU(cf:CF)(args:List AV):EF:=⟨args.length+(cf.nt-args.length),true,KQ 0 args⟩
def xV(e:EF)(env:List AV):Prop:=env.length=e.nt/\∀t,jT env t=e.get t
theorem xV.set{e:EF}{env:List AV}(h:xV e env)(d:Option Nat)(v:AV):xV (e.set d v) (fP env d v):=by
 cases d with
 |none=>exact h
 |some d=>refine⟨?_,?_⟩;rw[wB,h.1];simp only[EF.set,cond_eq_ite];split<;>rfl;intro t;rw[BX];simp only[EF.set,cond_eq_ite,Nat.blt_eq];by_cases hd:d<e.nt;rw[if_pos hd];simp only[EF.get,D0,cond_eq_ite,Nat.beq_eq];by_cases ht:d=t;subst ht;rw[if_pos ⟨rfl,by rw[h.1];exact hd⟩,if_pos rfl];rw[if_neg (by rintro⟨q,_⟩;exact ht (by simpa using q)),if_neg ht];exact h.2 t;rw[if_neg hd,if_neg (by rintro⟨q,q2⟩;simp at q;subst q;rw[h.1]at q2;exact hd q2)];exact h.2 t
theorem BS{e:EF}{nt:Nat}:∀{m:List Bool}{i:Nat}{l:List (Nat×AV)},z8 e i m=some l ->
  e.nt<=i+m.length/\∀t,D0 nt false t l=if i<=t/\m[t-i]?=some true then e.get t else .top
 |[],i,l,h=>by simp only[z8,cond_eq_ite]at h;split at h;rename_i q;cases h;refine⟨by simpa using q,λt=>?_⟩;simp[D0];cases h
 |true::m,i,l,h=>by
  simp only[z8]at h;cases hk:z8 e (i+1) m with
  |none=>simp[hk]at h
  |some l'=>
   simp[hk]at h;subst h;obtain⟨h1,h2⟩:=BS (nt:=nt) hk;refine⟨by simp;omega,λt=>?_⟩;simp only[D0,cond_eq_ite,Nat.beq_eq];by_cases ht:i=t;subst ht;simp;rw[if_neg ht,h2];by_cases hle:i+1<=t;have:t-i=(t-(i+1))+1:=by omega
   simp[hle,this,show i<=t by omega];rw[if_neg (by omega),if_neg (by omega)]
 |false::m,i,l,h=>by
  simp only[z8]at h;obtain⟨h1,h2⟩:=BS (nt:=nt) h;refine⟨by simp;omega,λt=>?_⟩;rw[h2];by_cases hle:i+1<=t;have:t-i=(t-(i+1))+1:=by omega
  simp[hle,this,show i<=t by omega];by_cases ht:i=t;subst ht;simp;intro q;omega;rw[if_neg (by omega),if_neg (by omega)]
theorem zB:∀(m:List Bool)(env:List AV)(t:Nat),env.length<=m.length->jT (clear m env) t=if m[t]?=some true then jT env t else .top
 |[],env,t,h=>by have:env=[]:=iR (by simpa using h);subst this;simp[clear,jT]
 |b::m,[],t,h=>by cases b<;>simp[clear,jT]
 |true::m,v::r,0,h=>by simp[clear,jT]
 |false::m,v::r,0,h=>by simp[clear,jT]
 |true::m,v::r,t+1,h=>by have:=zB m r t (by simpa using h);simpa[clear,jT] using this
 |false::m,v::r,t+1,h=>by have:=zB m r t (by simpa using h);simpa[clear,jT] using this
theorem xV.clear{e e':EF}{env:List AV}(h:xV e env){m:List Bool}(hc:e.clear m=some e'):xV e' (Tev.clear m env):=by
 unfold EF.clear at hc;cases hk:z8 e 0 m with
 |none=>simp[hk]at hc
 |some l=>simp[hk]at hc;subst hc;obtain⟨h1,h2⟩:=BS (nt:=e.nt) hk;refine⟨by rw[nA];exact h.1,λt=>?_⟩;rw[zB m env t (by rw[h.1];omega)];simp only[EF.get];rw[h2,h.2 t];simp
theorem CK{nt:Nat}{dt:Bool}:∀{args:List AV}{i t:Nat},D0 nt dt t (KQ i args)=if h:i<=t/\t-i<args.length then args[t-i]'h.2 else D0 nt dt t []
 |[],i,t=>by simp[KQ]
 |v::r,i,t=>by
  simp only[KQ,D0,cond_eq_ite,Nat.beq_eq];by_cases ht:i=t;subst ht;simp;rw[if_neg ht,CK];by_cases hle:i+1<=t;have e1:t-i=(t-(i+1))+1:=by omega
  by_cases hl:t-(i+1)<r.length;rw[dif_pos ⟨hle,hl⟩,dif_pos ⟨by omega,by simp;omega⟩];simp[e1];rw[dif_neg (by omega),dif_neg (by simp;omega)];simp[D0,cond_eq_ite];rw[dif_neg (by omega),dif_neg (by omega)];simp[D0,cond_eq_ite]
theorem xV.enter(cf:CF)(args:List AV):xV (LU cf args) (Tev.enter cf args):=by
 refine⟨by simp[Tev.enter,LU],λt=>?_⟩;simp only[EF.get,LU,CK,Tev.enter,jT];by_cases h:t<args.length;rw[dif_pos ⟨Nat.zero_le _,by simpa using h⟩];simp[List.getElem?_append_left h,h];rw[dif_neg (by simpa using h),yA (by omega)];simp only[D0,cond_true,cond_eq_ite,Nat.blt_eq,List.getElem?_replicate];by_cases h2:t<args.length+(cf.nt-args.length)
 rw[if_pos (by omega),if_pos h2];rfl;rw[if_neg (by omega),if_neg h2];rfl
def X.evE(gl:Nat->Option AV)(e:EF):X->AV
 |.t n=>e.get n
 |.c v=>v
 |.g n=>match gl n with|some v => .fp v|none => .top
 |.f n => .fn n []
structure StE where
 env:EF
 hp:Hp
def KU(e:EF):Option (Nat×Bool)->Option Bool
 |none=>some true
 |some (t,b)=>
  match e.get t with
  |.bool c=>some (c==b)
  |.tup []=>some false
  |_=>none
def X9(gl:Nat->Option AV)(call:cG)(kb:Nat)(r:R)(st:StE):Option (StE×Eff):=
 match KU st.env r.gd with
 |none=>none
 |some false=>some (⟨st.env.set r.d (.tup []),st.hp⟩,.pat [] [])
 |some true=>
  match opR call kb r st.hp (r.xs.map (X.evE gl st.env)) with
  |some (v,eff)=>some (⟨st.env.set r.d v,eff.app st.hp⟩,eff)
  |none=>none
def IP(gl:Nat->Option AV)(call:cG)(kb:Nat):List R->StE->Option StE
 |[],st=>some st
 |r::rs,st=>
  match X9 gl call kb r st with
  |some (st',_)=>IP gl call kb rs st'
  |none=>none
def BK(gl:Nat->Option AV)(call:cG)(kb:Nat):List R->StE->Option (StE×List Eff)
 |[],st=>some (st,[])
 |r::rs,st=>
  match X9 gl call kb r st with
  |some (st',e)=>(BK gl call kb rs st').map fun(s,l)=>(s,e::l)
  |none=>none
def P3(f:StE->Option (Ex×StE))(clr:List Bool):Nat->StE->Option (Ex×StE)
 |0,_=>none
 |n+1,st=>
  match st.env.clear clr with
  |none=>none
  |some e=>
   match f ⟨e,st.hp⟩ with
   |some (.nor,st')=>P3 f clr n st'
   |r=>r
def EF.aSf(e:EF):List AV:=(List.range e.nt).map e.get
def EF.of(env:List AV):EF:=⟨env.length,false,KQ 0 env⟩
theorem xV.aSf{e:EF}{env:List AV}(h:xV e env):e.aSf=env:=by apply List.ext_getElem;simp[EF.aSf,h.1];intro i h1 h2;have:=h.2 i;simp only[jT,aW h2,Option.getD_some]at this;simp[EF.aSf,this]
theorem xV.of(env:List AV):xV (EF.of env) env:=by refine⟨rfl,λt=>?_⟩;simp only[EF.get,EF.of,CK,jT];by_cases h:t<env.length;rw[dif_pos ⟨Nat.zero_le _,by simpa using h⟩];simp[h];rw[dif_neg (by simpa using h),eK (by omega)];rfl
def aCY(env:EF)(k e:Nat)(h:Hp):Option (Ex×StE):=
 match QT [] k e h with
 |some (x,st)=>some (x,⟨env,st.hp⟩)
 |none=>none
def aBu(e:EF)(nx more:Nat)(v:AV)(b:Bool):EF:=(e.set (some nx) v).set (some more) (.bool b)
def aJN(x y:Ex×StE):Bool:=decide (x.1=y.1)&&vD x.2.env.aSf y.2.env.aSf&&UV x.2.hp y.2.hp
def mrE(f:StE->Option (Ex×StE))(it nx more out:Nat)(clr:List Bool):Nat->StE->Option (Ex×StE)
 |0,_=>none
 |n+1,st=>
  if nx<st.env.nt/\more<st.env.nt then
  match st.env.clear clr with
  |none=>none
  |some env=>
  match env.get it with
  |.pt k e 0=>
   match YK st.hp k e with
   |some (l,o)=>
    if l.isEmpty then (killI st.hp k e).map λh=>(.ext out,⟨aBu env nx more (.tup [.bool false]) false,h⟩)
    else mE aJN (λb=>
     match f ⟨aBu env nx more (.tup [.bool true,.top,.top]) true,st.hp.put k e (o b)⟩ with
     |some (.nor,st')=>mrE f it nx more out clr n st'
     |some (x,st')=>(killI st'.hp k e).map λh=>(x,⟨st'.env,h⟩)
     |none=>none) l
   |none=>none
  |_=>none
  else none
def lF(gl:Nat->Option AV)(call:cG)(kb n:Nat):C->StE->Option (Ex×StE)
 |.skip,st=>some (.nor,st)
 |.reg rs false,st=>(IP gl call kb rs st).map λs=>(.nor,s)
 |.reg rs true,st=>
  match BK gl call kb rs st with
  |some (s,es)=>if i7 0 rs es then some (.nor,s) else none
  |none=>none
 |.seq a b,st=>
  match lF gl call kb n a st with
  |some (.nor,st')=>lF gl call kb n b st'
  |r=>r
 |.cond c a b,st=>
  match c.evE gl st.env with
  |.bool true=>lF gl call kb n a st
  |.bool false=>lF gl call kb n b st
  |_=>none
 |.block id b,st=>
  match lF gl call kb n b st with
  |some (.ext i,st')=>bif i.beq id then some (.nor,st') else some (.ext i,st')
  |r=>r
 |.loop b clr,st=>P3 (lF gl call kb n b) clr n st
 |.exit id,st=>some (.ext id,st)
 |.ret,st=>some (.ret,st)
 |.rf x s ps a b,st=>
  match x.evE gl st.env with
  |.fn f cs=>
   match call f (.yl (kb+s) (st.hp.next (kb+s))::cs) ((kb+s+1)*65536) (st.hp.put (kb+s) (st.hp.next (kb+s)) (.lp 0 kb st.env.aSf ps a b)) with
   |some (_,h')=>aCY st.env (kb+s) (st.hp.next (kb+s)) h'
   |none=>none
  |_=>none
 |.mr it nx more out b clr,st=>mrE (lF gl call kb n b) it nx more out clr n st
 |.bad,_=>none
def LD(st:StE):Sum Nat (Nat×Nat×Bool)->Option AV
 |.inl t=>some (st.env.get t)
 |.inr (t,sz,ag)=>
  match st.env.get t with
  |.pt k e off=>match st.hp.get k with
   |some (e',.blk cs _ _ _ _)=>if e'=e then jR cs off sz ag else none
   |_=>none
  |_=>none
def D3(st:StE):List (Sum Nat (Nat×Nat×Bool))->Option (List AV)
 |[]=>some []
 |x::r=>
  match LD st x,D3 st r with
  |some v,some l=>some (v::l)
  |_,_=>none
def LC(st:StE)(rs:List (Sum Nat (Nat×Nat×Bool))):Option AV:=
 match D3 st rs with
 |some [v]=>some v
 |some l=>some (.tup l)
 |none=>none
def LJ(memo:Nat->List AV->Option AV)(f:Nat)(args:List AV):Nat->Hp->Option AV
 |0,[]=>memo f args
 |_,_=>none
def aBz(ex:C->Nat->StE->Option (Ex×StE))(c:C)(b:Nat)(st:St):Option (Ex×St):=
 match ex c b ⟨EF.of st.env,st.hp⟩ with
 |some (x,s)=>some (x,⟨s.env.aSf,s.hp⟩)
 |none=>none
def gC(pg:Pg)(memo:Nat->List AV->Option AV):Nat->cG
 |0=>⟨λ_ _ _ _=>none,λ_ _ _ _=>none⟩
 |n+1=>⟨λf args kb h=>
  match LJ memo f args kb h with
  |some r=>some (r,[])
  |none=>
   match pg.fs f with
   |none=>
    match pg.ex f with
    |some g=>g args kb h
    |none=>none
   |some cf=>
    match lF pg.gl (gC pg memo n) kb n cf.body ⟨LU cf args,h⟩ with
    |some (.ext _,_)=>none
    |some (_,st)=>(LC st cf.res).map λv=>(v,st.hp)
    |none=>none,
  yO (aBz λc b st=>lF pg.gl (gC pg memo n) b n c st)⟩
structure StR(s:StE)(t:St):Prop where
 env:xV s.env t.env
 hp:s.hp=t.hp
end
section
structure nL(c c':cG):Prop where
 fn:∀f a kb h r,c f a kb h=some r->c' f a kb h=some r
 yl:∀k e a h r,c.yl k e a h=some r->c'.yl k e a h=some r
theorem nL.refl(c:cG):nL c c:=⟨λ_ _ _ _ _ h=>h,λ_ _ _ _ _ h=>h⟩
theorem vO{ex ex':C->Nat->St->Option (Ex×St)}(hx:∀c b st r,ex c b st=some r->ex' c b st=some r){k e:Nat}{a:List AV}{h:Hp}{r:AV×Hp}(h1:yO ex k e a h=some r):yO ex' k e a h=some r:=by
 unfold yO at h1 ⊢;split at h1
 case h_2=>cases h1
 split at h1
 case isFalse=>cases h1
 rename_i hc;rw[if_pos hc];split at h1
 case h_2=>cases h1
 rename_i he1;rw[hx _ _ _ _ he1];simp only;split at h1
 case h_2=>cases h1
 split at h1
 case isFalse=>cases h1
 rename_i hc2;rw[if_pos hc2];split at h1
 case h_2=>cases h1
 rename_i he2;rw[hx _ _ _ _ he2];exact h1
theorem jG{c c':cG}(hc:nL c c'){f:Nat}{ts:List AV}{r:AV}(h:dS c f ts=some r):dS c' f ts=some r:=by
 unfold dS at h ⊢;cases hq:c f ts 0 [] with
 |none=>simp[hq]at h
 |some p=>rw[hq]at h;rw[hc.fn _ _ _ _ _ hq];exact h
theorem HH{c c':cG}(hc:nL c c'){kb s:Nat}{h:Hp}{f:Nat}{th im:Bool}{vs:List AV}{r:AV×Eff}(h1:pL c kb s h f th im vs=some r):pL c' kb s h f th im vs=some r:=by
 unfold pL at h1 ⊢;cases hm:(if im then none else eN (snap depth h) vs) with
 |some p=>
  rw[hm]at h1;simp only at h1 ⊢;cases hp:dS c f p.1 with
  |none=>simp[hp]at h1
  |some q=>rw[hp]at h1;rw[jG hc hp];exact h1
 |none=>
  rw[hm]at h1;simp only at h1 ⊢;cases hp:c f vs (jU kb s vs) h with
  |none=>simp[hp]at h1
  |some q=>rw[hp]at h1;rw[hc.fn _ _ _ _ _ hp];exact h1
theorem IA{c c':cG}(hc:nL c c'){h:Hp}{f:Nat}{vs:List AV}:∀{n b:Nat}{x:AV×List Nat×List Ent},rV c h f vs n b=some x->rV c' h f vs n b=some x
 |0,_,_,h1=>by simp[rV]at h1
 |n+1,b,x,h1=>by
  unfold rV at h1 ⊢;cases hp:c f vs b [] with
  |none=>simp[hp]at h1
  |some q=>
   rw[hp]at h1;rw[hc.fn _ _ _ _ _ hp];simp only at h1 ⊢;split;rename_i hh;rw[if_pos hh]at h1;exact h1;rename_i hh;rw[if_neg hh]at h1;cases ht:rV c h f vs n (b+4096) with
   |none=>simp[ht]at h1
   |some y=>rw[ht]at h1;rw[IA hc ht];exact h1
theorem SL{c c':cG}(hc:nL c c'){kb s:Nat}{h:Hp}{f:Nat}{vs:List AV}{r:AV×Eff}(h1:pF c kb s h f vs=some r):pF c' kb s h f vs=some r:=by
 unfold pF at h1 ⊢;split;rename_i ht;rw[if_pos ht]at h1;cases hq:rV c h f vs 7 ((kb+s+1)*65536) with
 |none=>simp[hq]at h1
 |some y=>rw[hq]at h1;rw[IA hc hq];exact h1
 rename_i ht;rw[if_neg ht]at h1;cases h1
theorem DQ{c c':cG}(hc:nL c c'){kb s:Nat}{h:Hp}{f:Nat}{vs:List AV}{r:AV×Eff}(h1:oH c kb s h f vs=some r):oH c' kb s h f vs=some r:=by
 unfold oH at h1 ⊢;cases hq:c f vs (jU kb s vs) h with
 |none=>simp[hq]at h1
 |some y=>rw[hq]at h1;rw[hc.fn _ _ _ _ _ hq];exact h1
theorem PQ{c c':cG}(hc:nL c c'){kb:Nat}{r:R}{h:Hp}{vs:List AV}{x:AV×Eff}(h1:opR c kb r h vs=some x):opR c' kb r h vs=some x:=by unfold opR at h1 ⊢;split at h1;exact HH hc h1;exact SL hc h1;exact DQ hc h1;split at h1;exact DQ hc h1;cases h1;split at h1;exact HH hc h1;split at h1;rename_i hy;rw[hc.yl _ _ _ _ _ hy];exact h1;cases h1;cases h1;exact h1
structure H6(c c':cG):Prop where
 off:∀f a kb h r,kb≠0->c f a kb h=some r->c' f a kb h=some r
 at0:∀f a r,dS c f a=some r->dS c' f a=some r
 yl:∀k e a h r,c.yl k e a h=some r->c'.yl k e a h=some r
theorem KP(kb s:Nat)(vs:List AV):jU kb s vs≠0:=by unfold jU;split<;>omega
theorem DS{c c':cG}(hc:H6 c c'){kb s:Nat}{h:Hp}{f:Nat}{th im:Bool}{vs:List AV}{r:AV×Eff}(h1:pL c kb s h f th im vs=some r):pL c' kb s h f th im vs=some r:=by
 unfold pL at h1 ⊢;cases hm:(if im then none else eN (snap depth h) vs) with
 |some p=>
  rw[hm]at h1;simp only at h1 ⊢;cases hp:dS c f p.1 with
  |none=>simp[hp]at h1
  |some q=>rw[hp]at h1;rw[hc.at0 _ _ _ hp];exact h1
 |none=>
  rw[hm]at h1;simp only at h1 ⊢;cases hp:c f vs (jU kb s vs) h with
  |none=>simp[hp]at h1
  |some q=>rw[hp]at h1;rw[hc.off _ _ _ _ _ (KP kb s vs) hp];exact h1
theorem EY{c c':cG}(hc:H6 c c'){h:Hp}{f:Nat}{vs:List AV}:∀{n b:Nat}{x:AV×List Nat×List Ent},b≠0->rV c h f vs n b=some x->rV c' h f vs n b=some x
 |0,_,_,_,h1=>by simp[rV]at h1
 |n+1,b,x,hb,h1=>by
  unfold rV at h1 ⊢;cases hp:c f vs b [] with
  |none=>simp[hp]at h1
  |some q=>
   rw[hp]at h1;rw[hc.off _ _ _ _ _ hb hp];simp only at h1 ⊢;split;rename_i hh;rw[if_pos hh]at h1;exact h1;rename_i hh;rw[if_neg hh]at h1;cases ht:rV c h f vs n (b+4096) with
   |none=>simp[ht]at h1
   |some y=>rw[ht]at h1;rw[EY hc (by omega) ht];exact h1
theorem N9{c c':cG}(hc:H6 c c'){kb s:Nat}{h:Hp}{f:Nat}{vs:List AV}{r:AV×Eff}(h1:pF c kb s h f vs=some r):pF c' kb s h f vs=some r:=by
 unfold pF at h1 ⊢;split;rename_i ht;rw[if_pos ht]at h1;cases hq:rV c h f vs 7 ((kb+s+1)*65536) with
 |none=>simp[hq]at h1
 |some y=>rw[hq]at h1;rw[EY hc (by omega) hq];exact h1
 rename_i ht;rw[if_neg ht]at h1;cases h1
theorem A6{c c':cG}(hc:H6 c c'){kb s:Nat}{h:Hp}{f:Nat}{vs:List AV}{r:AV×Eff}(h1:oH c kb s h f vs=some r):oH c' kb s h f vs=some r:=by
 unfold oH at h1 ⊢;cases hq:c f vs (jU kb s vs) h with
 |none=>simp[hq]at h1
 |some y=>rw[hq]at h1;rw[hc.off _ _ _ _ _ (KP kb s vs) hq];exact h1
theorem Z6{c c':cG}(hc:H6 c c'){kb:Nat}{r:R}{h:Hp}{vs:List AV}{x:AV×Eff}(h1:opR c kb r h vs=some x):opR c' kb r h vs=some x:=by unfold opR at h1 ⊢;split at h1;exact DS hc h1;exact N9 hc h1;exact A6 hc h1;split at h1;exact A6 hc h1;cases h1;split at h1;exact DS hc h1;split at h1;rename_i hy;rw[hc.yl _ _ _ _ _ hy];exact h1;cases h1;cases h1;exact h1
theorem E8{gl:Nat->Option AV}{c c':cG}(hc:nL c c'){kb:Nat}{r:R}{st:St}{x:St×Eff}(h1:lM gl c kb r st=some x):lM gl c' kb r st=some x:=by
 unfold lM at h1 ⊢;generalize wanted st.env r.gd=wg at h1 ⊢;rcases wg with _|_|_;exact h1;exact h1;simp only at h1 ⊢;cases ho:opR c kb r st.hp (r.xs.map (X.ev gl st.env)) with
 |none=>simp[ho]at h1
 |some p=>rw[ho]at h1;rw[PQ hc ho];exact h1
theorem BJ{gl:Nat->Option AV}{c c':cG}(hc:nL c c'){kb:Nat}:∀{rs:List R}{st st':St},tQ gl c kb rs st=some st'->tQ gl c' kb rs st=some st'
 |[],_,_,h=>h
 |r::rs,st,st',h=>by
  unfold tQ at h ⊢;cases hs:lM gl c kb r st with
  |none=>simp[hs]at h
  |some p=>rw[hs]at h;rw[E8 hc hs];exact BJ hc h
theorem yP{gl:Nat->Option AV}{c c':cG}(hc:nL c c'){kb:Nat}:∀{rs:List R}{st:St}{x:St×List Eff},lO gl c kb rs st=some x->lO gl c' kb rs st=some x
 |[],_,_,h=>h
 |r::rs,st,x,h=>by
  unfold lO at h ⊢;cases hs:lM gl c kb r st with
  |none=>simp[hs]at h
  |some p=>
   rw[hs]at h;rw[E8 hc hs];simp only at h ⊢;cases hr:lO gl c kb rs p.1 with
   |none=>simp[hr]at h
   |some q=>rw[hr]at h;rw[yP hc hr];exact h
theorem yZ{f f':St->Option (Ex×St)}(hf:∀st x,f st=some x->f' st=some x){clr:List Bool}:∀{n n':Nat}{st:St}{x:Ex×St},n<=n'->mZ f clr n st=some x->mZ f' clr n' st=some x
 |0,_,_,_,_,h=>by simp[mZ]at h
 |n+1,0,_,_,hn,_=>by omega
 |n+1,n'+1,st,x,hn,h=>by
  simp only[mZ]at h ⊢;cases hs:f ⟨clear clr st.env,st.hp⟩ with
  |none=>simp[hs]at h
  |some p=>
   rw[hs]at h;rw[hf _ _ hs];obtain⟨e,s⟩:=p;cases e with
   |nor=>exact yZ hf (by omega) h
   |ext id=>exact h
   |ret=>exact h
theorem DV{α : Type}{eq : α -> α -> Bool}{f g:Nat->Option α}(hf:∀b r,f b=some r->g b=some r):∀{l:List Nat}{r : α},mE eq f l=some r->mE eq g l=some r
 |[],_,h=>by simp[mE]at h
 |[b],_,h=>hf _ _ h
 |b::b2::l,r,h=>by
  simp only[mE]at h ⊢;split at h
  case h_2=>cases h
  rename_i r1 s1 h1 h2;rw[hf _ _ h1,DV hf h2];exact h
theorem PX{f f':St->Option (Ex×St)}(hf:∀st x,f st=some x->f' st=some x){it nx more out:Nat}{clr:List Bool}:∀{n n':Nat}{st:St}{x:Ex×St},n<=n'->mrN f it nx more out clr n st=some x->mrN f' it nx more out clr n' st=some x
 |0,_,_,_,_,h=>by simp[mrN]at h
 |n+1,0,_,_,hn,_=>by omega
 |n+1,n'+1,st,x,hn,h=>by
  simp only[mrN]at h ⊢;split at h
  case isFalse=>cases h
  rename_i hl;rw[if_pos hl];split at h
  case h_2=>cases h
  rename_i k e hit;split at h
  case h_2=>cases h
  rename_i l o hx;split at h;rename_i hle
  first|exact h|(rw[if_pos hle];exact h)
  ·rename_i hle
   try rw[if_neg hle]
   refine DV (λb r hr=>?_) h;split at hr;rename_i s1 h1;rw[hf _ _ h1];exact PX hf (by omega) hr;rename_i x1 s1 hne h1;rw[hf _ _ h1];cases x1 with
   |nor=>exact(hne rfl).elim
   |ext id=>exact hr
   |ret=>exact hr
   cases hr
theorem tA{gl:Nat->Option AV}{c c':cG}(hc:nL c c'){kb n n':Nat}(hn:n<=n'):∀{k:C}{st:St}{x:Ex×St},d6 gl c kb n k st=some x->d6 gl c' kb n' k st=some x:=by
 intro k
 induction k with
 |skip=>intro st x h;exact h
 |reg rs d=>
  intro st x h;cases d with
  |false=>
   simp only[d6]at h ⊢;cases hr:tQ gl c kb rs st with
   |none=>simp[hr]at h
   |some s=>rw[hr]at h;rw[BJ hc hr];exact h
  |true=>
   simp only[d6]at h ⊢;cases hr:lO gl c kb rs st with
   |none=>simp[hr]at h
   |some s=>rw[hr]at h;rw[yP hc hr];exact h
 |seq a b iha ihb=>
  intro st x h;simp only[d6]at h ⊢;cases ha:d6 gl c kb n a st with
  |none=>simp[ha]at h
  |some p=>
   rw[ha]at h;rw[iha ha];obtain⟨e,s⟩:=p;cases e with
   |nor=>exact ihb h
   |ext id=>exact h
   |ret=>exact h
 |cond x a b iha ihb=>intro st y h;simp only[d6]at h ⊢;split at h;exact iha h;exact ihb h;cases h
 |block id b ih=>
  intro st x h;simp only[d6]at h ⊢;cases hb:d6 gl c kb n b st with
  |none=>simp[hb]at h
  |some p=>rw[hb]at h;rw[ih hb];exact h
 |loop b m ih=>intro st x h;simp only[d6]at h ⊢;exact yZ (λst x q=>ih q) hn h
 |exit id=>intro st x h;exact h
 |ret=>intro st x h;exact h
 |rf x s ps a b=>
  intro st y h;simp only[d6]at h ⊢;split at h
  case h_2=>cases h
  rename_i f cs hf;split at h
  case h_2=>cases h
  rename_i rr h' hcall;rw[hc.fn _ _ _ _ _ hcall];exact h
 |bad=>intro st x h;simp[d6]at h
 |mr it nx more out b clr ih=>intro st x h;simp only[d6]at h ⊢;exact PX (λst x q=>ih q) hn h
theorem fT(pg:Pg):∀{n n':Nat},n<=n'->nL (cM pg n) (cM pg n')
 |0,_,_=>⟨by intro f a kb h r hq;simp[cM]at hq,by intro k e a h r hq;simp[cM]at hq⟩
 |n+1,0,h=>by omega
 |n+1,n'+1,hn=>by
  refine⟨?_,λk e a h r hq=>by
   simp only[cM]at hq ⊢;exact vO (λc b st r hr=>tA (fT pg (Nat.le_of_succ_le_succ hn)) (Nat.le_of_succ_le_succ hn) hr) hq⟩
  intro f a kb h r hq;simp only[cM]at hq ⊢;cases hf:pg.fs f with
  |none=>rw[hf]at hq;exact hq
  |some cf=>
   rw[hf]at hq;simp only at hq ⊢;cases he:d6 pg.gl (cM pg n) kb n cf.body ⟨enter cf a,h⟩ with
   |none=>simp[he]at hq
   |some p=>rw[he]at hq;rw[tA (fT pg (Nat.le_of_succ_le_succ hn)) (Nat.le_of_succ_le_succ hn) he];exact hq
theorem UU{gl:Nat->Option AV}{s:StE}{t:St}(h:StR s t)(x:X):x.evE gl s.env=x.ev gl t.env:=by
 cases x with
 |t n=>simp only[X.evE,X.ev];exact(h.env.2 n).symm
 |_=>rfl
theorem ID{gl:Nat->Option AV}{c c':cG}(hc:H6 c c'){kb:Nat}{r:R}{s s':StE}{t:St}{e:Eff}(hst:StR s t)(h:X9 gl c kb r s=some (s',e)) :
  ∃t',lM gl c' kb r t=some (t',e)/\StR s' t':=by
 have hw:KU s.env r.gd=wanted t.env r.gd:=by
  unfold KU wanted;cases r.gd with
  |none=>rfl
  |some p=>simp only[hst.env.2];rfl
 have hx:r.xs.map (X.evE gl s.env)=r.xs.map (X.ev gl t.env):=List.map_congr_left (λx _=>UU hst x);unfold X9 at h;unfold lM;rw[hw,hx]at h;generalize wanted t.env r.gd=wg at h ⊢;rcases wg with _|_|_;cases h;simp only at h ⊢;cases h;exact⟨_,rfl,⟨hst.env.set _ _,hst.hp⟩⟩;simp only at h ⊢;rw[hst.hp]at h;cases ho:opR c kb r t.hp (r.xs.map (X.ev gl t.env)) with
 |none=>simp[ho]at h
 |some p=>rw[ho]at h;rw[Z6 hc ho];simp only at h ⊢;cases h;exact⟨_,rfl,⟨hst.env.set _ _,rfl⟩⟩
theorem Iq{gl:Nat->Option AV}{c c':cG}(hc:H6 c c'){kb:Nat}:∀{rs:List R}{s s':StE}{t:St},StR s t->IP gl c kb rs s=some s'->∃t',tQ gl c' kb rs t=some t'/\StR s' t'
 |[],s,s',t,hst,h=>by simp[IP]at h;subst h;exact⟨t,rfl,hst⟩
 |r::rs,s,s',t,hst,h=>by
  unfold IP at h;unfold tQ;split at h
  case h_2=>cases h
  rename_i s1 e hs;obtain⟨t1,q1,q2⟩:=ID hc hst hs;rw[q1];exact Iq hc q2 h
theorem FN{gl:Nat->Option AV}{c c':cG}(hc:H6 c c'){kb:Nat}:∀{rs:List R}{s s':StE}{t:St}{es:List Eff},StR s t->BK gl c kb rs s=some (s',es)->∃t',lO gl c' kb rs t=some (t',es)/\StR s' t'
 |[],s,s',t,es,hst,h=>by simp[BK]at h;obtain⟨rfl,rfl⟩:=h;exact⟨t,rfl,hst⟩
 |r::rs,s,s',t,es,hst,h=>by
  unfold BK at h;unfold lO;split at h
  case h_2=>cases h
  rename_i s1 e hs;obtain⟨t1,q1,q2⟩:=ID hc hst hs;cases hr:BK gl c kb rs s1 with
  |none=>simp[hr]at h
  |some p=>obtain⟨s2,es2⟩:=p;simp[hr]at h;obtain⟨rfl,rfl⟩:=h;obtain⟨t2,q3,q4⟩:=FN hc q2 hr;exact⟨t2,by rw[q1];simp only;rw[q3];rfl,q4⟩
theorem I4{f:StE->Option (Ex×StE)}{f':St->Option (Ex×St)}(hf:∀s t x s',StR s t->f s=some (x,s')->∃t',f' t=some (x,t')/\StR s' t'){clr:List Bool} :
  ∀{n n':Nat}{s s':StE}{t:St}{x:Ex},n<=n'->StR s t->P3 f clr n s=some (x,s')->∃t',mZ f' clr n' t=some (x,t')/\StR s' t'
 |0,_,_,_,_,_,_,_,h=>by simp[P3]at h
 |n+1,0,_,_,_,_,hn,_,_=>by omega
 |n+1,n'+1,s,s',t,x,hn,hst,h=>by
  simp only[P3]at h;simp only[mZ];split at h
  case h_1=>cases h
  rename_i e he;have hst':StR ⟨e,s.hp⟩ ⟨clear clr t.env,t.hp⟩:=⟨hst.env.clear he,hst.hp⟩
  split at h;rename_i s1 h1;obtain⟨t1,q1,q2⟩:=hf _ _ _ _ hst' h1;rw[q1];exact I4 hf (by omega) q2 h;rename_i hne;obtain⟨t1,q1,q2⟩:=hf _ _ _ _ hst' h;rw[q1];cases x with
  |nor=>exact absurd h (hne _)
  |ext id=>exact⟨t1,rfl,q2⟩
  |ret=>exact⟨t1,rfl,q2⟩
theorem KR{F:Nat->Option (Ex×StE)}{G:Nat->Option (Ex×St)}(hf:∀b x s',F b=some (x,s')->∃t',G b=some (x,t')/\StR s' t') :
  ∀{l:List Nat}{x:Ex}{s':StE},mE aJN F l=some (x,s')->∃t',mE eqR G l=some (x,t')/\StR s' t'
 |[],_,_,h=>by simp[mE]at h
 |[b],_,_,h=>hf _ _ _ h
 |b::b2::l,x,s',h=>by
  simp only[mE]at h;split at h
  case h_2=>cases h
  rename_i r1 s1 h1 h2;split at h
  case isFalse=>cases h
  rename_i hq;cases h;obtain⟨x2,s2⟩:=s1;obtain⟨t1,a1,a2⟩:=hf _ _ _ h1;obtain⟨t2,b1,b2⟩:=KR hf h2;refine⟨t1,?_,a2⟩;simp only[mE];rw[a1,b1];simp only;have:eqR (x,t1) (x2,t2)=true:=by simp only[aJN,a2.env.aSf,b2.env.aSf,a2.hp,b2.hp]at hq;exact hq
  rw[if_pos this]
theorem YL{f:StE->Option (Ex×StE)}{f':St->Option (Ex×St)}(hf:∀s t x s',StR s t->f s=some (x,s')->∃t',f' t=some (x,t')/\StR s' t'){it nx more out:Nat}{clr:List Bool} :
  ∀{n n':Nat}{s s':StE}{t:St}{x:Ex},n<=n'->StR s t->mrE f it nx more out clr n s=some (x,s')->∃t',mrN f' it nx more out clr n' t=some (x,t')/\StR s' t'
 |0,_,_,_,_,_,_,_,h=>by simp[mrE]at h
 |n+1,0,_,_,_,_,hn,_,_=>by omega
 |n+1,n'+1,s,s',t,x,hn,hst,h=>by
  simp only[mrE]at h;simp only[mrN];split at h
  case isFalse=>cases h
  rename_i hl;rw[<-hst.env.1]at hl;rw[if_pos hl];split at h
  case h_1=>cases h
  rename_i e he;have hc:=hst.env.clear he;split at h
  case h_2=>cases h
  rename_i k ep hit;rw[<-hc.2]at hit;rw[hit];simp only;split at h
  case h_2=>cases h
  rename_i l o hx;rw[hst.hp]at hx;rw[hx];simp only;have hset:∀v b,xV (aBu e nx more v b) (((clear clr t.env).set nx v).set more (.bool b)):=λv b=>(hc.set (some nx) v).set (some more) (.bool b);split at h;rename_i hle;rw[if_pos hle];rw[hst.hp]at h;cases hk:killI t.hp k ep with
  |none=>simp[hk]at h
  |some h2=>simp only[hk,Option.map_some,cF,cQ]at h;obtain⟨rfl,rfl⟩:=h;exact⟨_,rfl,⟨hset _ _,rfl⟩⟩
  rename_i hle;rw[if_neg hle];refine KR (λb x s' hr=>?_) h;split at hr;rename_i s1 h1;obtain⟨t1,q1,q2⟩:=hf _ ⟨((clear clr t.env).set nx (.tup [.bool true,.top,.top])).set more (.bool true),t.hp.put k ep (o b)⟩ _ _ ⟨hset _ _,by rw[hst.hp]⟩ h1;rw[q1];exact YL hf (by omega) q2 hr;rename_i x1 s1 hne h1;obtain⟨t1,q1,q2⟩:=hf _ ⟨((clear clr t.env).set nx (.tup [.bool true,.top,.top])).set more (.bool true),t.hp.put k ep (o b)⟩ _ _ ⟨hset _ _,by rw[hst.hp]⟩ h1;rw[q1]
  have key:∀y,(killI s1.hp k ep).map (λh=>(x1,(⟨s1.env,h⟩:StE)))=some (x,y)->∃t',(killI t1.hp k ep).map (λh=>(x1,(⟨t1.env,h⟩:St)))=some (x,t')/\StR y t':=by
   intro y hy;rw[q2.hp]at hy;cases hk:killI t1.hp k ep with
   |none=>simp[hk]at hy
   |some h2=>simp only[hk,Option.map_some,cF,cQ]at hy;obtain⟨rfl,rfl⟩:=hy;exact⟨_,rfl,⟨q2.env,rfl⟩⟩
  cases x1 with
  |nor=>exact(hne rfl).elim
  |ext id=>exact key _ hr
  |ret=>exact key _ hr
  cases hr
theorem JQ{gl:Nat->Option AV}{c c':cG}(hc:H6 c c'){kb n n':Nat}(hn:n<=n'):∀{k:C}{s s':StE}{t:St}{x:Ex},StR s t->lF gl c kb n k s=some (x,s') ->
  ∃t',d6 gl c' kb n' k t=some (x,t')/\StR s' t':=by
 intro k
 induction k with
 |skip=>intro s s' t x hst h;simp[lF]at h;obtain⟨rfl,rfl⟩:=h;exact⟨t,rfl,hst⟩
 |reg rs d=>
  intro s s' t x hst h;cases d with
  |false=>
   simp only[lF]at h;simp only[d6];cases hr:IP gl c kb rs s with
   |none=>simp[hr]at h
   |some s1=>simp[hr]at h;obtain⟨rfl,rfl⟩:=h;obtain⟨t1,q1,q2⟩:=Iq hc hst hr;exact⟨t1,by rw[q1];rfl,q2⟩
  |true=>
   simp only[lF]at h;simp only[d6];split at h
   case h_2=>cases h
   rename_i s1 es hr;obtain⟨t1,q1,q2⟩:=FN hc hst hr;rw[q1];simp only;split at h
   case isFalse=>cases h
   rename_i ha;rw[if_pos ha];cases h;exact⟨t1,rfl,q2⟩
 |seq a b iha ihb=>
  intro s s' t x hst h;simp only[lF]at h;simp only[d6];split at h;rename_i s1 h1;obtain⟨t1,q1,q2⟩:=iha hst h1;rw[q1];exact ihb q2 h;rename_i hne;obtain⟨t1,q1,q2⟩:=iha hst h;rw[q1];cases x with
  |nor=>exact absurd h (hne _)
  |ext id=>exact⟨t1,rfl,q2⟩
  |ret=>exact⟨t1,rfl,q2⟩
 |cond y a b iha ihb=>intro s s' t x hst h;simp only[lF]at h;simp only[d6];rw[UU hst]at h;split at h;rename_i hb;rw[hb];exact iha hst h;rename_i hb;rw[hb];exact ihb hst h;cases h
 |block id b ih=>
  intro s s' t x hst h;simp only[lF]at h;simp only[d6];split at h;rename_i i s1 h1;obtain⟨t1,q1,q2⟩:=ih hst h1;rw[q1];simp only[cond_eq_ite,Nat.beq_eq]at h ⊢;split at h;rename_i hi;rw[if_pos hi];cases h;exact⟨t1,rfl,q2⟩;rename_i hi;rw[if_neg hi];cases h;exact⟨t1,rfl,q2⟩;rename_i hne;obtain⟨t1,q1,q2⟩:=ih hst h;rw[q1];cases x with
  |nor=>exact⟨t1,rfl,q2⟩
  |ext id=>exact absurd h (hne _ _)
  |ret=>exact⟨t1,rfl,q2⟩
 |loop b m ih=>intro s s' t x hst h;simp only[lF]at h;simp only[d6];exact I4 (λs t x s' q1 q2=>ih q1 q2) hn hst h
 |exit id=>intro s s' t x hst h;simp[lF]at h;obtain⟨rfl,rfl⟩:=h;exact⟨t,rfl,hst⟩
 |ret=>intro s s' t x hst h;simp[lF]at h;obtain⟨rfl,rfl⟩:=h;exact⟨t,rfl,hst⟩
 |rf fx sk ps ca cb=>
  intro s s' t x hst h;simp only[lF]at h;simp only[d6];rw[UU hst,hst.env.aSf,hst.hp]at h;split at h
  case h_2=>cases h
  rename_i f cs hf;rw[hf];simp only;split at h
  case h_2=>cases h
  rename_i rr h' hcall;rw[hc.off _ _ _ _ _ (by omega) hcall];simp only;unfold aCY at h;split at h
  case h_2=>cases h
  rename_i y st1 he;cases h;unfold QT at he ⊢;split at he
  case h_2=>cases he
  split at he
  case isFalse=>cases he
  rename_i hee;rw[if_pos hee];split at he;cases he;exact⟨_,rfl,⟨hst.env,rfl⟩⟩;cases he;exact⟨_,rfl,⟨hst.env,rfl⟩⟩;cases he;exact⟨_,rfl,⟨hst.env,rfl⟩⟩;cases he
 |bad=>intro s s' t x hst h;simp[lF]at h
 |mr it nx more out b clr ih=>intro s s' t x hst h;simp only[lF]at h;simp only[d6];exact YL (λs t x s' q1 q2=>ih q1 q2) hn hst h
theorem TK{s:StE}{t:St}(hst:StR s t)(rs:List (Sum Nat (Nat×Nat×Bool))):LC s rs=result t rs:=by
 have h1:∀r,LD s r=CV t r:=by
  intro r;cases r with
  |inl u=>simp only[LD,CV,hst.env.2]
  |inr p=>simp only[LD,CV,hst.env.2,hst.hp];rfl
 have h2:∀rs,D3 s rs=tP t rs:=by
  intro rs
  induction rs with
  |nil=>rfl
  |cons r rs ih=>simp only[D3,tP,h1,ih];rfl
 unfold LC result;rw[h2];rfl
theorem U1{h:Hp}{v:AV}(hv:v.tree=true):conv h v=some v:=by
 have:snap depth h v=some (v,[]):=by unfold depth snap;rw[if_pos hv]
 cases v<;>first|(simp only[conv,this];rfl)|simp[AV.tree]at hv
theorem CI(pg:Pg){memo:Nat->List AV->Option AV}{m:Nat}(hm:∀f a r,memo f a=some r->r.tree=true/\dS (cM pg m) f a=some r):∀n,H6 (gC pg memo n) (cM pg (m+n))
 |0=>⟨λf a kb h r _ hq=>by simp[gC]at hq,λf a r hq=>by simp[dS,gC]at hq,λk e a h r hq=>by simp[gC]at hq⟩
 |n+1=>by
  have key:∀f a kb h r,LJ memo f a kb h=none->gC pg memo (n+1) f a kb h=some r->cM pg (m+(n+1)) f a kb h=some r:=by
   intro f a kb h r hn hq;simp only[gC]at hq;rw[hn]at hq;simp only at hq;rw[<-eX];simp only[cM];split at hq;rename_i hf;rw[hf];exact hq;rename_i cf hf;rw[hf];simp only;split at hq;cases hq;rename_i x s hne he;obtain⟨t,q1,q2⟩:=JQ (t:=⟨enter cf a,h⟩) (CI pg hm n) (Nat.le_add_left n m) ⟨xV.enter cf a,rfl⟩ he;rw[q1];rw[TK q2,q2.hp]at hq;cases x with
   |nor=>exact hq
   |ret=>exact hq
   |ext id=>exact(hne id rfl).elim
   cases hq
  have hyl:∀k e a h r,(gC pg memo (n+1)).yl k e a h=some r->(cM pg (m+(n+1))).yl k e a h=some r:=by
   intro k e a h r hq;rw[<-eX];refine vO (λc b st r hr=>?_) hq;unfold aBz at hr;split at hr
   case h_2=>cases hr
   rename_i x s he;cases hr;obtain⟨t,q1,q2⟩:=JQ (t:=⟨st.env,st.hp⟩) (CI pg hm n) (Nat.le_add_left n m) ⟨xV.of st.env,rfl⟩ he;have:t=⟨s.env.aSf,s.hp⟩:=by rw[q2.env.aSf,q2.hp]
   rw[q1,this]
  refine⟨λf a kb h r hk hq=>key f a kb h r ?_ hq,λf a r hq=>?_,hyl⟩;cases kb with
  |zero=>exact absurd rfl hk
  |succ k=>rfl
  unfold dS at hq;cases hc:gC pg memo (n+1) f a 0 [] with
  |none=>simp[hc]at hq
  |some p=>
   rw[hc]at hq;cases hme:memo f a with
   |some r'=>
    have:gC pg memo (n+1) f a 0 []=some (r',[]):=by simp only[gC,LJ,hme]
    rw[this]at hc;cases hc;obtain⟨h1,h2⟩:=hm f a r' hme;simp only[U1 h1,cF]at hq;subst hq;exact jG (fT pg (by omega)) h2
   |none=>have:=key f a 0 [] p (by simp[LJ,hme]) hc;unfold dS;rw[this];exact hq
end
section
variable{pg:Pg}{kb:Nat}
def Ret(pg:Pg)(f:Nat)(ts:List AV)(r:AV):Prop:=∃n,dS (cM pg n) f ts=some r
def wX(pg:Pg)(f:Nat)(vs:List AV)(kb:Nat)(h:Hp)(r:AV)(h':Hp):Prop:=∃n,cM pg n f vs kb h=some (r,h')
def WX(pg:Pg)(kb:Nat)(c:C)(st:St)(Q:Ex->St->Prop):Prop:=∃n ex st',d6 pg.gl (cM pg n) kb n c st=some (ex,st')/\Q ex st'
def WR(pg:Pg)(kb:Nat)(rs:List R)(st:St)(K:St->Prop):Prop:=∃n st',tQ pg.gl (cM pg n) kb rs st=some st'/\K st'
def WT(pg:Pg)(kb:Nat)(rs:List R)(st:St)(K:St->List Eff->Prop):Prop:=∃n st' es,lO pg.gl (cM pg n) kb rs st=some (st',es)/\K st' es
def WO(pg:Pg)(kb:Nat)(k:K)(s:Nat)(h:Hp)(vs:List AV)(Q:AV->Eff->Prop):Prop:=
 ∃n v eff,opR (cM pg n) kb ⟨none,k,[],none,0,s⟩ h vs=some (v,eff)/\Q v eff
def oT(A:St->Prop)(Q:Ex->St->Prop)(ex:Ex)(st:St):Prop:=
 match ex with
 |.nor=>A st
 |.ext i=>Q (.ext i) st
 |.ret=>Q .ret st
theorem ZO(A:St->Prop)(Q:Ex->St->Prop)(st:St):oT A Q .nor st=A st:=rfl
theorem ZP(A:St->Prop)(Q:Ex->St->Prop)(i:Nat)(st:St):oT A Q (.ext i) st=Q (.ext i) st:=rfl
theorem ZN(A:St->Prop)(Q:Ex->St->Prop)(st:St):oT A Q .ret st=Q .ret st:=rfl
def qU(id:Nat)(Q:Ex->St->Prop)(ex:Ex)(st:St):Prop:=
 match ex with
 |.nor=>Q .nor st
 |.ext i=>if i=id then Q .nor st else Q (.ext i) st
 |.ret=>Q .ret st
theorem XW(id:Nat)(Q:Ex->St->Prop)(st:St):qU id Q .nor st=Q .nor st:=rfl
theorem XY(id:Nat)(Q:Ex->St->Prop)(i:Nat)(st:St):qU id Q (.ext i) st=if i=id then Q .nor st else Q (.ext i) st:=rfl
theorem XU(id:Nat)(Q:Ex->St->Prop)(st:St):qU id Q .ret st=Q .ret st:=rfl
def aDb(v:AV)(A B:Prop):Prop:=
 match v with
 |.bool true=>A
 |.bool false=>B
 |_=>False
def TS(o:Option (AV×Eff))(Q:AV->Eff->Prop):Prop:=
 match o with
 |some (v,e)=>Q v e
 |none=>False
theorem rK{c:C}{st:St}{o:Ex×St}{n m:Nat}(h:n<=m)(e:d6 pg.gl (cM pg n) kb n c st=some o):d6 pg.gl (cM pg m) kb m c st=some o:=
 tA (fT pg h) h e
theorem aFg{rs:List R}{st st':St}{n m:Nat}(h:n<=m)(e:tQ pg.gl (cM pg n) kb rs st=some st'):tQ pg.gl (cM pg m) kb rs st=some st':=
 BJ (fT pg h) e
theorem aHg(st:St)(Q:Ex->St->Prop):WX pg kb .skip st Q=Q .nor st:=by apply propext;constructor;rintro⟨n,ex,st',h,q⟩;simp only[d6,cF,cQ]at h;obtain⟨rfl,rfl⟩:=h;exact q;intro q;exact⟨0,_,_,rfl,q⟩
theorem aHi(id:Nat)(st:St)(Q:Ex->St->Prop):WX pg kb (.exit id) st Q=Q (.ext id) st:=by apply propext;constructor;rintro⟨n,ex,st',h,q⟩;simp only[d6,cF,cQ]at h;obtain⟨rfl,rfl⟩:=h;exact q;intro q;exact⟨0,_,_,rfl,q⟩
theorem aKI(st:St)(Q:Ex->St->Prop):WX pg kb .ret st Q=Q .ret st:=by apply propext;constructor;rintro⟨n,ex,st',h,q⟩;simp only[d6,cF,cQ]at h;obtain⟨rfl,rfl⟩:=h;exact q;intro q;exact⟨0,_,_,rfl,q⟩
theorem aKJ(rs:List R)(st:St)(Q:Ex->St->Prop):WX pg kb (.reg rs false) st Q=WR pg kb rs st (λst'=>Q .nor st'):=by apply propext;constructor;rintro⟨n,ex,st',h,q⟩;simp only[d6,tJ,cQ]at h;obtain⟨s,h1,rfl,rfl⟩:=h;exact⟨n,_,h1,q⟩;rintro⟨n,st',h,q⟩;exact⟨n,_,_,by simp only[d6,h,Option.map_some],q⟩
theorem aHh(rs:List R)(st:St)(Q:Ex->St->Prop):WX pg kb (.reg rs true) st Q=WT pg kb rs st (λst' es=>i7 0 rs es=true/\Q .nor st'):=by apply propext;constructor;rintro⟨n,ex,st',h,q⟩;simp only[d6]at h;split at h;rename_i s es h1;split at h;simp only[cF,cQ]at h;obtain⟨rfl,rfl⟩:=h;exact⟨n,_,_,h1,by assumption,q⟩;cases h;cases h;rintro⟨n,st',es,h,a,q⟩;exact⟨n,_,_,by simp only[d6,h,a,aN],q⟩
theorem aHj(c:X)(a b:C)(st:St)(Q:Ex->St->Prop):WX pg kb (.cond c a b) st Q=aDb (c.ev pg.gl st.env) (WX pg kb a st Q) (WX pg kb b st Q):=by
 apply propext;simp only[WX,d6];cases c.ev pg.gl st.env with
 |bool x=>cases x<;>exact Iff.rfl
 |_=>simp[aDb]
theorem aKH(a b:C)(st:St)(Q:Ex->St->Prop):WX pg kb (.seq a b) st Q=WX pg kb a st (oT (λst'=>WX pg kb b st' Q) Q):=by
 apply propext;constructor;rintro⟨n,ex,st',h,q⟩;simp only[d6]at h;cases ha:d6 pg.gl (cM pg n) kb n a st with
 |none=>simp[ha]at h
 |some o=>
  obtain⟨ex1,st1⟩:=o;rw[ha]at h;refine⟨n,ex1,st1,ha,?_⟩;cases ex1 with
  |nor=>exact⟨n,ex,st',h,q⟩
  |ext i=>simp only[cF,cQ]at h;obtain⟨rfl,rfl⟩:=h;exact q
  |ret=>simp only[cF,cQ]at h;obtain⟨rfl,rfl⟩:=h;exact q
 rintro⟨n,ex,st',h,q⟩;cases ex with
 |nor=>obtain⟨m,ex2,st2,h2,q2⟩:=q;refine⟨max n m,ex2,st2,?_,q2⟩;simp only[d6,rK (Nat.le_max_left n m) h];exact rK (Nat.le_max_right n m) h2
 |ext i=>exact⟨n,_,_,by simp only[d6,h],q⟩
 |ret=>exact⟨n,_,_,by simp only[d6,h],q⟩
theorem aEM(id:Nat)(b:C)(st:St)(Q:Ex->St->Prop):WX pg kb (.block id b) st Q=WX pg kb b st (qU id Q):=by
 apply propext;constructor;rintro⟨n,ex,st',h,q⟩;simp only[d6]at h;cases hb:d6 pg.gl (cM pg n) kb n b st with
 |none=>simp[hb]at h
 |some o=>
  obtain⟨ex1,st1⟩:=o;rw[hb]at h;refine⟨n,ex1,st1,hb,?_⟩;cases ex1 with
  |nor=>simp only[cF,cQ]at h;obtain⟨rfl,rfl⟩:=h;exact q
  |ext i=>simp only at h;simp only[qU];split at h<;>(simp only[cF,cQ]at h;obtain⟨rfl,rfl⟩:=h;simp_all)
  |ret=>simp only[cF,cQ]at h;obtain⟨rfl,rfl⟩:=h;exact q
 rintro⟨n,ex,st',h,q⟩;cases ex with
 |nor=>exact⟨n,_,_,by simp only[d6,h],q⟩
 |ret=>exact⟨n,_,_,by simp only[d6,h],q⟩
 |ext i=>simp only[qU]at q;split at q;rename_i hi;exact⟨n,.nor,st',by simp only[d6,h,if_pos hi],q⟩;rename_i hi;exact⟨n,.ext i,st',by simp only[d6,h,if_neg hi],q⟩
theorem P2{b:C}{clr:List Bool}{st:St}{o:Ex×St}{n m k l:Nat}(h:n<=m)(hk:k<=l)(e:mZ (d6 pg.gl (cM pg n) kb n b) clr k st=some o) :
  mZ (d6 pg.gl (cM pg m) kb m b) clr l st=some o:=
 yZ (λ_ _ q=>rK h q) hk e
theorem ZJ(b:C)(clr:List Bool)(st:St)(Q:Ex->St->Prop) :
  WX pg kb (.loop b clr) st Q=WX pg kb b ⟨clear clr st.env,st.hp⟩ (oT (λst'=>WX pg kb (.loop b clr) st' Q) Q):=by
 apply propext;constructor;rintro⟨n,ex,st',h,q⟩;simp only[d6]at h;cases n with
 |zero=>simp[mZ]at h
 |succ n=>
  simp only[mZ]at h;cases hb:d6 pg.gl (cM pg (n+1)) kb (n+1) b ⟨clear clr st.env,st.hp⟩ with
  |none=>simp[hb]at h
  |some o=>
   obtain⟨ex1,st1⟩:=o;rw[hb]at h;refine⟨n+1,ex1,st1,hb,?_⟩;cases ex1 with
   |nor=>exact⟨n+1,ex,st',P2 (aX _) (Nat.le_succ n) h,q⟩
   |ext i=>simp only[cF,cQ]at h;obtain⟨rfl,rfl⟩:=h;exact q
   |ret=>simp only[cF,cQ]at h;obtain⟨rfl,rfl⟩:=h;exact q
 rintro⟨n,ex,st',h,q⟩;cases ex with
 |nor=>obtain⟨m,ex2,st2,h2,q2⟩:=q;refine⟨max n m+1,ex2,st2,?_,q2⟩;simp only[d6]at h2 ⊢;rw[mZ];rw[rK (Nat.le_trans (Nat.le_max_left n m) (Nat.le_succ _)) h];exact P2 (Nat.le_trans (Nat.le_max_right n m) (Nat.le_succ _)) (Nat.le_max_right n m) h2
 |ext i=>exact⟨n+1,_,_,by simp only[d6,mZ,rK (Nat.le_succ n) h],q⟩
 |ret=>exact⟨n+1,_,_,by simp only[d6,mZ,rK (Nat.le_succ n) h],q⟩
theorem aBg{α : Type}(μ : α -> Nat)(E : α -> List AV->Hp->Prop){b:C}{clr:List Bool}{st:St}{Q:Ex->St->Prop}(a : α)(h0:E a (clear clr st.env) st.hp)
  (step:∀a env hp,E a env hp->WX pg kb b ⟨env,hp⟩ (oT (λst'=>∃a',μ a' < μ a/\E a' (clear clr st'.env) st'.hp) Q)) :
  WX pg kb (.loop b clr) st Q:=by
 have key:∀n a st,μ a<n->E a (clear clr st.env) st.hp->WX pg kb (.loop b clr) st Q:=by
  intro n
  induction n with
  |zero=>intro a st h;omega
  |succ n ih=>
   intro a st hn h;rw[ZJ];obtain⟨m,ex,st',h1,q⟩:=step a _ _ h;refine⟨m,ex,st',h1,?_⟩;cases ex with
   |nor=>obtain⟨a',h2,h3⟩:=q;exact ih a' st' (by omega) h3
   |ext i=>exact q
   |ret=>exact q
 exact key _ a st (Nat.lt_succ_self _) h0
theorem aKL(st:St)(A:St->Prop):WR pg kb [] st A=A st:=by apply propext;constructor;rintro⟨n,st',h,q⟩;simp only[tQ,cF]at h;subst h;exact q;intro q;exact⟨0,_,rfl,q⟩
theorem TV{k:K}{s:Nat}{h:Hp}{vs:List AV}{x:AV×Eff}{n m:Nat}(hn:n<=m)(e:opR (cM pg n) kb ⟨none,k,[],none,0,s⟩ h vs=some x) :
  opR (cM pg m) kb ⟨none,k,[],none,0,s⟩ h vs=some x:=
 PQ (fT pg hn) e
theorem ZL(d:Option Nat)(k:K)(xs:List X)(bef s:Nat)(rs:List R)(st:St)(A:St->Prop) :
  WR pg kb (⟨d,k,xs,none,bef,s⟩::rs) st A=WO pg kb k s st.hp (xs.map (X.ev pg.gl st.env)) (λv eff=>WR pg kb rs ⟨fP st.env d v,eff.app st.hp⟩ A):=by
 apply propext;constructor;rintro⟨n,st',h,q⟩;simp only[tQ,lM,wanted]at h;split at h;rename_i st1 e h1;split at h1;rename_i v eff h2;simp only[cF,cQ]at h1;obtain⟨rfl,rfl⟩:=h1;exact⟨n,v,eff,h2,n,st',h,q⟩;cases h1;cases h;rintro⟨n,v,eff,h,m,st',h2,q⟩;refine⟨max n m,st',?_,q⟩;have e1:=TV (Nat.le_max_left n m) h;have e2:=aFg (Nat.le_max_right n m) h2;have e3:opR (cM pg (max n m)) kb ⟨d,k,xs,none,bef,s⟩ st.hp (xs.map (X.ev pg.gl st.env))=some (v,eff):=e1;simp only[tQ,lM,wanted,e3];exact e2
def gdQ(v:AV)(b:Bool)(A B:Prop):Prop:=
 match v with
 |.bool c=>if c=b then A else B
 |.tup []=>B
 |_=>False
theorem aEO(d:Option Nat)(k:K)(xs:List X)(t:Nat)(b:Bool)(bef s:Nat)(rs:List R)(st:St)(A:St->Prop) :
  WR pg kb (⟨d,k,xs,some (t,b),bef,s⟩::rs) st A =
   gdQ (jT st.env t) b (WO pg kb k s st.hp (xs.map (X.ev pg.gl st.env)) (λv eff=>WR pg kb rs ⟨fP st.env d v,eff.app st.hp⟩ A)) (WR pg kb rs ⟨fP st.env d (.tup []),st.hp⟩ A):=by
 rw[<-ZL d k xs bef s];apply propext;have hb:∀c:Bool,(c==b)=decide (c=b):=λc=>by cases c<;>cases b<;>rfl
 simp only[WR,tQ,lM,wanted];generalize jT st.env t=v;cases v with
 |bool c=>simp only[gdQ,hb];by_cases hc:c=b;simp only[hc,decide_true,aN];exact Iff.rfl;simp only[hc,decide_false,aL]
 |tup l=>cases l<;>simp[gdQ]
 |_=>simp[gdQ]
theorem aKK(st:St)(A:St->List Eff->Prop):WT pg kb [] st A=A st []:=by apply propext;constructor;rintro⟨n,st',es,h,q⟩;simp only[lO,cF,cQ]at h;obtain⟨rfl,rfl⟩:=h;exact q;intro q;exact⟨0,_,_,rfl,q⟩
theorem ZK(d:Option Nat)(k:K)(xs:List X)(bef s:Nat)(rs:List R)(st:St)(A:St->List Eff->Prop) :
  WT pg kb (⟨d,k,xs,none,bef,s⟩::rs) st A=WO pg kb k s st.hp (xs.map (X.ev pg.gl st.env)) (λv eff=>WT pg kb rs ⟨fP st.env d v,eff.app st.hp⟩ (λst' es=>A st' (eff::es))):=by
 apply propext;constructor;rintro⟨n,st',es,h,q⟩;simp only[lO,lM,wanted]at h;split at h;rename_i st1 e h1;split at h1;rename_i v eff h2;simp only[cF,cQ]at h1;obtain⟨rfl,rfl⟩:=h1;simp only[tJ,cQ]at h;obtain⟨⟨s1,l1⟩,h3,h4,h5⟩:=h;subst h4;subst h5;exact⟨n,v,eff,h2,n,s1,l1,h3,q⟩;cases h1;cases h;rintro⟨n,v,eff,h,m,st',es,h2,q⟩;refine⟨max n m,st',eff::es,?_,q⟩;have e1:=TV (Nat.le_max_left n m) h;have e2:=yP (fT pg (Nat.le_max_right n m)) h2;have e3:opR (cM pg (max n m)) kb ⟨d,k,xs,none,bef,s⟩ st.hp (xs.map (X.ev pg.gl st.env))=some (v,eff):=e1;simp only[lO,lM,wanted,e3];rw[e2];rfl
theorem aEN(d:Option Nat)(k:K)(xs:List X)(t:Nat)(b:Bool)(bef s:Nat)(rs:List R)(st:St)(A:St->List Eff->Prop) :
  WT pg kb (⟨d,k,xs,some (t,b),bef,s⟩::rs) st A =
   gdQ (jT st.env t) b (WO pg kb k s st.hp (xs.map (X.ev pg.gl st.env)) (λv eff=>WT pg kb rs ⟨fP st.env d v,eff.app st.hp⟩ (λst' es=>A st' (eff::es))))
    (WT pg kb rs ⟨fP st.env d (.tup []),st.hp⟩ (λst' es=>A st' (.pat [] []::es))):=by
 rw[<-ZK d k xs bef s];apply propext;have hb:∀c:Bool,(c==b)=decide (c=b):=λc=>by cases c<;>cases b<;>rfl
 have key:(∃n st' es,(lO pg.gl (cM pg n) kb rs ⟨fP st.env d (.tup []),st.hp⟩).map (fun(s,l)=>(s,Eff.pat [] []::l))=some (st',es)/\A st' es) ↔
   (∃n st' es,lO pg.gl (cM pg n) kb rs ⟨fP st.env d (.tup []),st.hp⟩=some (st',es)/\A st' (.pat [] []::es)):=by
  constructor;rintro⟨n,st',es,h,q⟩;simp only[tJ,cQ]at h;obtain⟨⟨s1,l1⟩,h3,h4,h5⟩:=h;subst h4;subst h5;exact⟨n,s1,l1,h3,q⟩;rintro⟨n,st',es,h,q⟩;exact⟨n,st',_,by rw[h];rfl,q⟩
 simp only[WT,lO,lM,wanted];generalize jT st.env t=v;cases v with
 |bool c=>simp only[gdQ,hb];by_cases hc:c=b;simp only[hc,decide_true,aN];exact Iff.rfl;simp only[hc,decide_false,aL];exact key
 |tup l=>
  cases l with
  |nil=>simp only[gdQ];exact key
  |cons a r=>simp[gdQ]
 |_=>simp[gdQ]
def K.isCall:K->Bool
 |.call ..|.callv ..|.calle ..|.callr ..|.callvr=>true
 |_=>false
theorem gS{k:K}(hk:k.isCall=false)(s:Nat)(h:Hp)(vs:List AV)(Q:AV->Eff->Prop):WO pg kb k s h vs Q=TS (TW h (kb+s) k vs) Q:=by
 have e:∀call:cG,opR call kb ⟨none,k,[],none,0,s⟩ h vs=TW h (kb+s) k vs:=by intro call;cases k<;>first|rfl|simp[K.isCall]at hk
 apply propext;simp only[WO,e];cases TW h (kb+s) k vs with
 |none=>simp[TS]
 |some x=>obtain⟨v,eff⟩:=x;simp only[TS];constructor;rintro⟨n,v',e',h1,q⟩;cases h1;exact q;intro q;exact⟨0,_,_,rfl,q⟩
theorem aEs{f:Nat}{ts:List AV}{r:AV}{n m:Nat}(h:n<=m)(e:dS (cM pg n) f ts=some r):dS (cM pg m) f ts=some r:=
 jG (fT pg h) e
theorem aHk{f s:Nat}{th:Bool}{h:Hp}{vs ts:List AV}{keys:List Nat}{r v:AV}{pa:List Ent}{Q:AV->Eff->Prop}(hr:Ret pg f ts r)
  (hm:eN (snap depth h) vs=some (ts,keys)) (hv:iO h (kb+s) th r=some (v,pa)) :
  WO pg kb (.call f th false) s h vs Q=Q v (.pat ((kb+s)::keys) ((if r.flat then [] else gJ h keys)++pa)):=by
 obtain⟨n,e⟩:=hr;have key:∀m,n<=m->opR (cM pg m) kb ⟨none,.call f th false,[],none,0,s⟩ h vs=some (v,.pat ((kb+s)::keys) ((if r.flat then [] else gJ h keys)++pa)):=by intro m hm';simp only[opR,pL,bR,aL,hm,aEs hm' e,hv]
 apply propext;constructor;rintro⟨m,v',e',h1,q⟩;have h2:=key _ (Nat.le_max_left n m);have h3:=TV (Nat.le_max_right n m) h1;rw[h3]at h2;cases h2;exact q;intro q;exact⟨n,_,_,key n (aX _),q⟩
theorem aEP{f s:Nat}{th im:Bool}{h h':Hp}{vs:List AV}{r:AV}{Q:AV->Eff->Prop}(hm:im=true\/eN (snap depth h) vs=none){B:Nat}(hB:jU kb s vs=B)(hr:wX pg f vs B h r h')
   (hq:Q r (.whole h')):WO pg kb (.call f th im) s h vs Q:=by
 subst hB;obtain⟨n,e⟩:=hr;refine⟨n,r,.whole h',?_,hq⟩;have:(if im then none else eN (snap depth h) vs)=none:=by rcases hm with rfl|hm;rfl;simp[hm]
 simp only[opR,pL,this,e]
theorem wX.of{f:Nat}{cf:CF}{vs:List AV}{h:Hp}{r:AV}{h':Hp}(hf:pg.fs f=some cf)
  (hw:WX pg kb cf.body ⟨enter cf vs,h⟩ (λex st=>(match ex with|.ext _=>False|_=>True)/\result st cf.res=some r/\st.hp=h')):wX pg f vs kb h r h':=by
 obtain⟨n,ex,st,h1,h2,h3,h4⟩:=hw;refine⟨n+1,?_⟩;subst h4;simp only[cM,hf,h1];cases ex with
 |ext i=>exact h2.elim
 |nor=>simp[h3]
 |ret=>simp[h3]
def QS(res:List (Sum Nat (Nat×Nat×Bool)))(r:AV)(ex:Ex)(st:St):Prop:=
 match ex with
 |.ext _=>False
 |_=>∃v,result st res=some v/\conv st.hp v=some r
theorem aCU(res:List (Sum Nat (Nat×Nat×Bool)))(r:AV)(st:St):QS res r .nor st=∃v,result st res=some v/\conv st.hp v=some r:=rfl
theorem aCT(res:List (Sum Nat (Nat×Nat×Bool)))(r:AV)(st:St):QS res r .ret st=∃v,result st res=some v/\conv st.hp v=some r:=rfl
theorem Ret.of{f:Nat}{cf:CF}{vs:List AV}{r:AV}(hf:pg.fs f=some cf)(hw:WX pg 0 cf.body ⟨enter cf vs,[]⟩ (QS cf.res r)):Ret pg f vs r:=by
 obtain⟨n,ex,st,h1,h2⟩:=hw;refine⟨n+1,?_⟩;cases ex with
 |ext i=>exact h2.elim
 |nor=>obtain⟨v,h3,h4⟩:=h2;simp only[dS,cM,hf,h1,h3,Option.map_some,h4]
 |ret=>obtain⟨v,h3,h4⟩:=h2;simp only[dS,cM,hf,h1,h3,Option.map_some,h4]
end
end Go.Tev
