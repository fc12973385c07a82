import Derived.Test.YtdglfamcgppilaaGreatDoorVBK
import Derived.Test.YtdglfamcgppilaaGreatDoorVBG
import Derived.Test.YtdglfamcgppilaaGreatDoorVAT
import Derived.Test.YtdglfamcgppilaaGreatDoorVAX
import Derived.Test.YtdglfamcgppilaaGreatDoorVBD
import Derived.Test.YtdglfamcgppilaaGreatDoorVAR
import Derived.Test.YtdglfamcgppilaaGreatDoorVAS
set_option linter.all false
namespace Go.Tev
section
def vP(o:Option (AV×Eff)):Prop:=∀v e,o=some (v,e)->∃rd pa,e = .pat rd pa
theorem rC:vP none:=λ_ _ h=>by cases h
theorem x3(v:AV)(rd:List Nat)(pa:List Ent):vP (some (v,.pat rd pa)):=λ_ _ h=>by cases h;exact⟨_,_,rfl⟩
theorem A0(v:AV):vP (val v):=λ_ _ h=>by cases h;exact⟨_,_,rfl⟩
theorem A1{α : Type}(o:Option α)(f : α -> AV)(rd:List Nat)(pa:List Ent):vP (o.map λv=>(f v,.pat rd pa)):=by
 intro v e h;cases o with
 |none=>cases h
 |some x=>cases h;exact⟨_,_,rfl⟩
theorem x4(o:Option AV):vP (o.bind val):=by
 intro v e h;cases o with
 |none=>cases h
 |some x=>cases h;exact⟨_,_,rfl⟩
theorem GM{α : Type}(o:Option α)(f : α -> Option (AV×Eff))(h:∀x,vP (f x)):vP (o.bind f):=by
 intro v e h';cases o with
 |none=>cases h'
 |some x=>exact h x v e h'
set_option maxHeartbeats 4000000 in
theorem QE(h:Hp)(k0:Nat)(o:K)(xs:List AV):vP (C8 h k0 o xs):=by
 cases o<;>simp only[C8]<;>first|exact rC|skip
 all_goals (first|unfold MA|unfold RI|unfold fW|unfold wB|unfold wA|unfold DJ|unfold tW|unfold v8|unfold DI|unfold MM|unfold MN|unfold MH|unfold vA|unfold UF|unfold MJ|unfold MI|unfold L9|unfold MO|unfold fU|unfold fV|unfold yE|unfold MF|unfold MG|unfold iA|unfold u6|unfold L8|unfold MB|unfold u9|unfold DK|unfold ML|unfold i6|unfold RJ|unfold MK|unfold Y1|unfold UH|unfold UG|unfold GT|unfold MD|unfold YW|unfold YV|unfold YR|unfold ME|unfold MC|unfold BB|unfold u7|unfold tU|unfold YY|unfold YX|unfold aGE|unfold YS|unfold Y0|unfold YU|unfold YT|unfold YZ|skip)
 all_goals repeat' (first|exact rC|exact x3 _ _ _|exact A0 _|exact A1 _ _ _ _|exact x4 _|split)
 all_goals (try unfold gF);all_goals (try unfold iI);all_goals (try unfold mT);all_goals (try unfold xN)
 all_goals repeat' (first|exact rC|exact x3 _ _ _|exact A0 _|exact A1 _ _ _ _|exact x4 _|(refine GM _ _ ?_;intro _)|split|dsimp only)
def LF(call:aP):Prop:=(∀f vs kb h r h',call f vs kb h=some (r,h')->eH h=true->eH h'=true)/\(∀k e args h r h',call.yl k e args h=some (r,h')->eH h=true->eH h'=true)
def TC(f:St->Option (Ex×St)):Prop:=∀st ex st',f st=some (ex,st')->eH st.hp=true->eH st'.hp=true
section
variable{call:aP}{kb:Nat}
theorem qF(hc:LF call){s:Nat}{h:Hp}{f:Nat}{th im:Bool}{vs:List AV}{v:AV}{eff:Eff}(e:j1 call kb s h f th im vs=some (v,eff))(ha:eH h=true):eH (eff.app h)=true:=by unfold j1 at e;split at e;split at e;split at e;cases e;exact j3 ha;cases e;cases e;split at e;rename_i r h' hr;cases e;exact hc.1 _ _ _ _ _ _ hr ha;cases e
theorem zE{s:Nat}{h:Hp}{f:Nat}{vs:List AV}{v:AV}{eff:Eff}(e:jR call kb s h f vs=some (v,eff))(ha:eH h=true):eH (eff.app h)=true:=by unfold jR at e;split at e;simp only at e;split at e;cases e;exact j3 ha;cases e;cases e
theorem T4(hc:LF call){r:R}{h:Hp}{vs:List AV}{v:AV}{eff:Eff}(e:opR call kb r h vs=some (v,eff))(ha:eH h=true):eH (eff.app h)=true:=by unfold opR at e;split at e;exact qF hc e ha;unfold kM at e;split at e;split at e;cases e;exact j3 ha;cases e;cases e;exact zE e ha;split at e;exact zE e ha;cases e;split at e;exact qF hc e ha;split at e;rename_i v' h' hr;cases e;exact hc.2 _ _ _ _ _ _ hr ha;cases e;exact qF hc e ha;cases e;split at e;split at e;exact qF hc e ha;cases e;cases e;obtain⟨rd,pa,rfl⟩:=QE _ _ _ _ _ _ e;exact j3 ha
theorem AB(hc:LF call){gl:Nat->Option AV}{r:R}{st st':St}{eff:Eff}(e:iH gl call kb r st=some (st',eff))(ha:eH st.hp=true):eH st'.hp=true:=by unfold iH at e;split at e;cases e;cases e;exact ha;split at e;rename_i h1;cases e;exact T4 hc h1 ha;cases e
theorem F5(hc:LF call){gl:Nat->Option AV}:∀{rs:List R}{st st':St},mD gl call kb rs st=some st'->eH st.hp=true->eH st'.hp=true
 |[],st,st',e,ha=>by cases e;exact ha
 |r::rs,st,st',e,ha=>by rw[mD]at e;split at e;rename_i h1;exact F5 hc e (AB hc h1 ha);cases e
theorem AG(hc:LF call){gl:Nat->Option AV}:∀{rs:List R}{st st':St}{es:List Eff},gZ gl call kb rs st=some (st',es)->eH st.hp=true->eH st'.hp=true
 |[],st,st',es,e,ha=>by cases e;exact ha
 |r::rs,st,st',es,e,ha=>by
  rw[gZ]at e;split at e;rename_i st1 e1 h1;cases h2:gZ gl call kb rs st1 with
  |none=>rw[h2]at e;cases e
  |some q=>rw[h2]at e;cases e;exact AG hc (es:=q.2) h2 (AB hc h1 ha)
  cases e
end
theorem AQ{f:St->Option (Ex×St)}(hf:TC f){clr:List Bool}:∀n,TC (jD f clr n)
 |0=>λ_ _ _ e=>by cases e
 |n+1=>λst ex st' e ha=>by rw[jD]at e;split at e;rename_i st1 h1;exact AQ hf n _ _ _ e (hf _ _ _ h1 ha);exact hf _ _ _ e ha
theorem AY{h h':Hp}{k e:Nat}(hk:killI h k e=some h')(ha:eH h=true):eH h'=true:=by unfold killI at hk;split at hk;split at hk;cases hk;exact dC ha;cases hk;cases hk
theorem LB{α : Type}{eq : α -> α -> Bool}{f:Nat->Option α}:∀{l:List Nat}{r : α},iT eq f l=some r->∃b,f b=some r
 |[],r,h=>by cases h
 |[b],r,h=>⟨b,h⟩
 |b::c::l,r,h=>by rw[iT]at h;split at h;rename_i r1 s1 h1 h2;split at h;cases h;exact⟨b,h1⟩;cases h;cases h;intro h;cases h
theorem DB{f:St->Option (Ex×St)}{fin:Ex×St->Option (Ex×St)}(hf:TC f)(hfin:∀o r,fin o=some r->eH o.2.hp=true->eH r.2.hp=true){it nx more out:Nat}{clr:List Bool}:∀n,TC (mrN f fin it nx more out clr n)
 |0=>λ_ _ _ e=>by cases e
 |n+1=>λst ex st' e ha=>by
  rw[mrN]at e;split at e;split at e;split at e;rename_i l o hn;split at e;generalize hk:killI st.hp _ _=kk at e;cases kk with
  |none=>cases e
  |some h2=>exact hfin _ _ e (AY hk ha)
  obtain⟨b,hb⟩:=LB e;split at hb;rename_i st1 h1;exact DB hf hfin n _ _ _ hb (hf _ _ _ h1 (dC ha));rename_i x st1 _ h1;have h3:=hf _ _ _ h1 (dC ha);generalize hk:killI st1.hp _ _=kk at hb;cases kk with
  |none=>cases hb
  |some h2=>exact hfin _ _ hb (AY hk h3)
  cases hb;cases e;cases e;cases e
theorem uC{kb:Nat}:∀{l:List Nat}{h:Hp},eH h=true->eH (yK kb l h)=true
 |[],h,ha=>ha
 |s::r,h,ha=>by rw[yK];refine uC ?_;split;exact dC ha;exact ha
theorem OF{env:List AV}{k e:Nat}{h:Hp}{ex:Ex}{st:St}(he:BH env k e h=some (ex,st))(ha:eH h=true):eH st.hp=true:=by unfold BH at he;split at he;split at he;split at he;cases he;exact dC ha;cases he;exact dC ha;cases he;exact dC ha;cases he;cases he;cases he
theorem eV{gl:Nat->Option AV}{call:aP}{kb n:Nat}(hc:LF call):∀c:C,TC (aZ gl call kb n c)
 |.skip=>λst ex st' e ha=>by rw[aZ]at e;cases e;exact ha
 |.reg rs false=>λst ex st' e ha=>by
  rw[aZ]at e;cases h1:mD gl call kb rs st with
  |none=>rw[h1]at e;cases e
  |some s=>rw[h1]at e;cases e;exact F5 hc h1 ha
 |.reg rs true=>λst ex st' e ha=>by rw[aZ]at e;split at e;rename_i s es h1;split at e;cases e;exact AG hc h1 ha;cases e;cases e
 |.seq a b=>λst ex st' e ha=>by rw[aZ]at e;split at e;rename_i st1 h1;exact eV hc b _ _ _ e (eV hc a _ _ _ h1 ha);exact eV hc a _ _ _ e ha
 |.cond c a b=>λst ex st' e ha=>by rw[aZ]at e;split at e;exact eV hc a _ _ _ e ha;exact eV hc b _ _ _ e ha;cases e
 |.block id b=>λst ex st' e ha=>by
  rw[aZ]at e;split at e;rename_i h1;have h2:=eV hc b _ _ _ h1 ha;split at e<;>(cases e;exact h2)
  exact eV hc b _ _ _ e ha
 |.loop b clr=>λst ex st' e ha=>by rw[aZ]at e;exact AQ (eV hc b) n _ _ _ e ha
 |.exit id=>λst ex st' e ha=>by rw[aZ]at e;cases e;exact ha
 |.ret=>λst ex st' e ha=>by rw[aZ]at e;cases e;exact ha
 |.rf x s ps a b=>λst ex st' e ha=>by rw[aZ]at e;split at e;split at e;rename_i h1;exact OF e (hc.1 _ _ _ _ _ _ h1 (dC ha));cases e;cases e
 |.mr it nx more out b clr=>λst ex st' e ha=>by rw[aZ]at e;exact DB (eV hc b) (λo r h1 h2=>by cases h1;exact h2) n _ _ _ e ha
 |.mq p id it nx more out b clr rest msk drop=>λst ex st' e ha=>by
  rw[aZ]at e;split at e;rename_i st1 h1;refine DB (eV hc b) ?_ n _ _ _ e (eV hc p _ _ _ h1 ha);intro o r h2 h3;split at h2;cases h4:aZ gl call kb n rest o.2 with
  |none=>rw[h4]at h2;cases h2
  |some q=>rw[h4]at h2;cases h2;exact uC (eV hc rest _ _ _ h4 h3)
  cases h2;exact uC h3;exact eV hc p _ _ _ e ha
 |.bad=>λst ex st' e ha=>by rw[aZ]at e;cases e
theorem CA{pg:Pg}(hx:∀f g,pg.ex f=some g->∀args kb h r h',g args kb h=some (r,h')->eH h=true->eH h'=true):∀n,LF (aV pg n)
 |0=>⟨λ_ _ _ _ _ _ e=>(by cases e),λ_ _ _ _ _ _ e=>(by cases e)⟩
 |n+1=>by
  have ih:=CA hx n;refine⟨λf vs kb h r h' e ha=>?_,λk e args h r h' he ha=>?_⟩;simp only[aV]at e;split at e;split at e;rename_i h1;exact hx _ _ h1 _ _ _ _ _ e ha;cases e;split at e;cases e;rename_i ex st hne h1;have h2:=eV ih _ _ _ _ h1 ha;generalize h3:result st _=kk at e;cases kk with
  |none=>cases e
  |some v=>cases e;exact h2
  cases e;simp only[aV,oX]at he;split at he;split at he;split at he;rename_i st1 h1;have h2:=eV ih _ _ _ _ h1 ha;split at he;split at he;split at he;rename_i h3;have h4:=eV ih _ _ _ _ h3 (dC h2);split at he;split at he;cases he;exact dC h4;cases he;cases he;cases he;cases he;cases he;cases he;cases he;cases he
theorem pN.asc{pg:Pg}(hx:∀f g,pg.ex f=some g->∀args kb h r h',g args kb h=some (r,h')->eH h=true->eH h'=true){f kb:Nat}{vs:List AV}{h h':Hp}{r:AV}(e:pN pg f vs kb h r h')(ha:eH h=true):eH h'=true:=by obtain⟨n,e⟩:=e;exact(CA hx n).1 _ _ _ _ _ _ e ha
end
section
instance (env:List Val):Decidable (lB env):=inferInstanceAs (Decidable (List.Nodup _))
def qG(arrs:List Arr)(v:Int):Bool := !(match arrs[v.toNat]? with|some a=>gD a|none=>false)
def jI(arrs:List Arr)(p:aA)(env:List Val):Rs:=
 if ¬lB env then .er 1 else if gW p (env.map (·.v)) arrs.length=false then .er 1 else
 if (cX p).any (qG arrs)=true then .er 1 else evU arrs p env ⟨0,0,0,[]⟩
def zP(o:Rs)(r:AV):Prop:=
 match o with
 |.er e=>r = .tup [.int .i64 0,.agg [.int .i64 0,.int .i64 0,.int .i64 0,.int .i64 0],.sl true [] true,.int .i64 e]
 |.ok n c=>∃nl cl,r = .tup [.int .i64 n,.agg [.int .i64 c.rd,.int .i64 0,.int .i64 c.ops,.int .i64 0],.sl nl ((eE [] c.vi).map aE) cl,.int .i64 0]
def AscX(pg:Pg):Prop:=∀f g,pg.ex f=some g->∀args kb h r h',g args kb h=some (r,h')->eH h=true->eH h'=true
section
variable{pg:Pg}{kb:Nat}
theorem LD(hx:AscX pg){f s:Nat}{th im:Bool}{h:Hp}{vs:List AV}{P:AV->Hp->Prop}{Q:AV->Eff->Prop}{t:Tok Q}(hm:im=true\/mapS (snap depth h) vs=none){B:Nat}(hB:dQ kb s vs=B)(ha:eH h=true)(hr:cL pg f vs B h P)
  (hq:∀r h',P r h'->eH h'=true->Q r (.whole h')):XO pg kb (.call f th im) s h vs Q t:=by
 obtain⟨r,h',h1,h2⟩:=hr;exact kX hm hB h1 (hq r h' h2 (h1.asc hx ha))
theorem IW{f s:Nat}{h:Hp}{vs:List AV}{P:AV->Hp->Prop}{Q:AV->Eff->Prop}{t:Tok Q}{B:Nat}(hB:dQ kb s vs=B)(hr:cL pg f vs B h (λr h'=>P r h'/\eH h'=true/\∀q,h.get q≠none->h'.get q≠none))
  (hq:∀r h' pa,P r h'->(∀q,(bC h pa).get q=h'.get q)->(∀q,h'.get q=h.get q->q ∉ pa.map (·.k))->Q r (.all pa)):XO pg kb (.callr f) s h vs Q t:=by
 obtain⟨r,h',⟨n,e⟩,hp,hn,hk⟩:=hr;subst hB;have hn':=zJ hn;refine⟨n,r,.all (chg h h'),?_,hq r h' _ hp (MY hn' hk) (λq he=>UM hn' he)⟩;simp only[opR,jR,e]
 have hall:((h++h').all λx=>pI ((bC h (chg h h')).get x.k) (h'.get x.k))=true:=by rw[cO];intro x _;rw[MY hn' hk];exact yJ _
 unfold chg at hall ⊢;rw[if_pos hall]
end
section
variable{pg:Pg}
theorem El.names(l:List Val):∀x∈l.map (λv:Val=>AV.str v.v.bs),El 1 false x:=by intro x hx;simp only[List.mem_map]at hx;obtain⟨y,_,rfl⟩:=hx;exact El.str _
theorem c302(hf:pg.fs 302=some BW)(arrs:List Arr)(anl acl:Bool)(h303:∀a∈arrs,Ret pg 303 [a.av] (.bool (gD a)))(v:Int)(h0:0<=v)(h1:v<arrs.length) :
  Ret pg 302 [aE v,.fp (.sl anl (arrs.map Arr.av) acl)] (.bool (qG arrs v)):=by
 obtain⟨a,ha⟩:∃a,arrs[v.toNat]?=some a:=⟨_,bJ (by omega)⟩
 have h3:=h303 a (List.mem_of_getElem? ha);rw[Arr.avc]at h3;have h0':(0<=v)=True:=eq_true h0;have hb:qG arrs v = !gD a:=by simp only[qG,ha]
 refine Ret.ofX hf ?_;unfold BW;rw[hb];simp only[h0',ha,go_sem,seval];refine aC h3 ?_;simp only[go_sem,seval]
theorem FT{h:Hp}{kv e cp:Nat}{l:List Int}{tl:List AV}(hg:h.get kv=some (e,.blk (l.map aE++tl) 1 false false false)){a b c:AV}(ha:a.tree=true)(hb:b.tree=true)(hc:c.tree=true)(d:Nat) :
  Tev.snap (d+3) h (.tup [a,b,.rf kv e 0 l.length cp,c])=some (.tup [a,b,.sl false (l.map aE) false,c],[kv]):=by
 have h0:Tev.snap (d+2) h (.rf kv e 0 l.length cp)=some (.sl false (l.map aE) false,[kv]):=by unfold Tev.snap;rw[if_neg (by simp[AV.tree])];simp only[hg,if_true,List.drop_zero,rI,dK d h (gO l),Option.map_some,Bool.false_and]
 unfold Tev.snap;rw[if_neg (by simp[AV.tree,Tev.treeL])];simp only[cA,fY,rO ha,rO hb,rO hc,h0,Option.map_some,List.append_nil,List.nil_append]
set_option maxRecDepth 100000 in
set_option maxHeartbeats 2000000 in
theorem c279(hf:pg.fs 279=some HV)(hx:AscX pg)(S:TB pg)(h302:pg.fs 302=some BW)(h109:∀p:aA,p.ok->∀(nl cl:Bool) (vars:List Str),vars.length+p.sz<=big->∀v:Int,Ret pg 109 [p.av,.sl nl (vars.map Str.av) cl,.int .i64 v] (.bool (gW p vars v)))
  (h48:∀p:aA,p.ok->p.sz<=big->cB pg 48 [p.av] (nK 1 false ((cX p).map aE))) (h45:pg.fs 45=some OO) (h71:pg.fs 71=some KD)
  (arrs:List Arr) (anl acl:Bool) (h303:∀a∈arrs,Ret pg 303 [a.av] (.bool (gD a))) (hab:arrs.length<=big)
  (h304:∀p:aA,p.ok->∀env,vQ arrs p env->EvC pg arrs (.sl anl (arrs.map Arr.av) acl) p env)
  (p:aA) (hp:p.ok) (enl ecl:Bool) (env:List Val) (hsz:env.length+p.sz<=big) (hB:∀n c,evU arrs p env ⟨0,0,0,[]⟩ = .ok n c->c.vi.length<=big) :
  cB pg 279 [p.av,.sl enl (env.map Val.av) ecl,.sl anl (arrs.map Arr.av) acl] (zP (jI arrs p env)):=by
 refine cB.ofX hf ?_;unfold HV;have heb:env.length<=big:=by omega
 have hqs:∀s:List UInt8,(AV.str s).keyQ 1=true:=λ_=>rfl;have hmp:∀k e:Nat,(AV.mp k e).fits 1 false=true:=λ_ _=>rfl;have hmc:∀k e:Nat,(AV.mp k e).cells=[.mp k e]:=λ_ _=>rfl;have hmo:∀k e:Nat,(AV.mp k e).one=true:=λ_ _=>rfl;simp only[hmp,hmc,hmo,Option.bind_some,go_sem,seval]
 refine aM env (λd r e hp=>∃v,e=wN (.pt 1 0 0) (.pt 5 0 0) (.pt 9 0 0) (.pt 17 0 0) v (.sl enl (env.map Val.av) ecl) (.int .i64 env.length) (.int .i64 d.length) /\
  hp.get 1=some (0,.blk p.cells 9 true true false)/\hp.get 5=some (0,.blk [.sl anl (arrs.map Arr.av) acl] 1 false true false)/\hp.get 9=some (0,.blk [.int .i64 0,.int .i64 0,.int .i64 0,.int .i64 0] 4 true true false) /\
  Ev 0 0 (.sl anl (arrs.map Arr.av) acl) d ⟨0,0,0,[]⟩ 0 hp/\Own hp 25 1 false v (d.map λv => .str v.v.bs)/\lB d/\eH hp=true) ?_ ?_ ?_
 refine⟨_,rfl,?_,?_,?_,⟨_,[],0,?_,?_,65536+37,.inl ⟨true,true,rfl,rfl⟩,by decide,by decide,.inl rfl⟩,Own.nil _ _ _ _ _ _ rfl,?_,?_⟩;rfl;rfl;rfl;rfl;rfl;simp[lB];rfl;rintro e hp' ⟨v,rfl,g1,g5,g9,hv,ho,hd,hasc⟩;obtain⟨nl8,cl8,keys,hsn,hnl8⟩:=ho.snap (El.names env) 62;have h2:=h109 p hp nl8 cl8 (env.map (·.v)) (by simpa using hsz) arrs.length;have hmm:(env.map (·.v)).map Str.av=env.map (λv:Val=>AV.str v.v.bs):=by rw[List.map_map];rfl
 rw[aA.avc,hmm]at h2;have h3:=h48 p hp (by omega);rw[aA.avc]at h3;simp only[aA.cells,aA.kav,Sl.av]at g1;simp only[wM,wN,aY,g1,g5,g9,go_sem,seval];refine gQ h2 (nU (by simp only[go_sem,seval]) hsn (by simp only[go_sem,seval])) (v:=.bool (gW p (env.map (·.v)) arrs.length)) (pa:=[]) rfl ?_;cases hpk:gW p (env.map (·.v)) arrs.length;have hE:jI arrs p env = .er 1:=by rw[jI,if_neg (λh=>h hd),if_pos hpk]
 simp only[g9,go_sem,seval];rw[hE];rfl;simp only[g1,go_sem,seval];refine sY h3 (by simp only[go_sem,seval]) ?_;intro nl9 cl9 hnl9;refine Wk ?_;have hrl:(cX p).length<=big:=by have e1:=lQ (eD (cJ p));have e2:=gU (cJ p);have e3:=nO p;simp only[cX];omega
 have hin:∀a∈cX p,0<=a/\a<(arrs.length:Int):=by intro a ha;simp only[cX,j0,kK]at ha;have hv2:=hpk;simp only[gW,aD]at hv2;exact uQ _ p (env.map (·.v)) hv2.2 a ha
 have hag:vQ arrs p env\/(cX p).any (qG arrs)=true:=by
  cases hq:(cX p).any (qG arrs);refine .inl ⟨?_,hd,?_⟩;have hv2:=hpk;simp only[gW,aD]at hv2;exact hv2.2;intro v hv;have hv3:v∈cX p:=by simp only[cX,j0,kK];exact hv
  have hb:=List.any_eq_false.1 hq v hv3;obtain⟨h0,h1⟩:=hin v hv3;obtain⟨a,ha⟩:∃a,arrs[v.toNat]?=some a:=⟨_,bJ (by omega)⟩
  exact⟨a,ha,by simpa[qG,ha] using hb⟩;exact .inr rfl
 refine gQ (c45 h45 h71 nl9 cl9 (cX p) hrl 302 [.fp (.sl anl (arrs.map Arr.av) acl)] (by simp only[treeL,LL,pQ,Arr.treeL_av,Bool.and_true]) (qG arrs) (λv hv'=>c302 h302 arrs anl acl h303 v (hin v hv').1 (hin v hv').2)) (keys:=[5]) ?_ (v:=.bool ((cX p).any (qG arrs))) (pa:=[]) rfl ?_;simp only[g5,depth,fY,cA,lV,go_sem,Nat.reduceAdd,↓reduceIte];cases hq:(cX p).any (qG arrs);have hg:vQ arrs p env:=by rcases hag with hg|hg;exact hg;rw[hq]at hg;cases hg
 have h4:=h304 p hp env hg 0 0 ⟨0,0,0,[]⟩ (42*65536) hp' (by decide) (by decide) ⟨by decide,by decide,by decide⟩ hv;have hE:jI arrs p env=evU arrs p env ⟨0,0,0,[]⟩:=by rw[jI,if_neg (λh=>h hd),if_neg (by simp[hpk]),if_neg (by simp[hq])]
 rw[hE];rw[aA.avc]at h4;simp only[g1,go_sem,seval];refine LD hx (.inl rfl) (B:=42*65536) rfl hasc h4 ?_;rintro r h' ⟨k1,k2⟩ hasc';have q9:=(k1 9 (by decide) (by decide) (by decide) (by decide)).trans g9;cases hU:evU arrs p env ⟨0,0,0,[]⟩ with
 |er e=>
  rw[hU]at k2;obtain⟨⟨n,rfl⟩,he0,env',c',vi,bs,ck,b1,b2,b3⟩:=k2;have he1:decide (e=0)=false:=by simp[he0]
  simp only[b1,fD,q9,he1,go_sem,seval];refine bI ?_;rfl
 |ok n c=>
  rw[hU]at k2;obtain⟨rfl,vi,bs,ck,b1,b2,kv,gv,gk1,gk2,hsh⟩:=k2;have hlen:c.vi.length<=big:=hB n c hU;simp only[b1,fD,q9,go_sem,seval];rcases gv with ⟨nl',cl',rfl,hc⟩|⟨e,rfl,hg⟩
  have hnil:c.vi=[]:=by
   rcases hsh with h|⟨e,h⟩
   exact h;cases h
  rw[hnil,List.map_nil]at b1 ⊢;refine kX (.inl rfl) rfl (S.sortN _ _ nl' cl') ?_;simp only[b1,fD,q9,go_sem,seval];obtain⟨mC,hmC⟩:=S.compN (dQ 0 49 [.sl nl' [] cl']) h' nl' cl';refine IW (P:=λr h''=>r = .sl nl' [] cl'/\h''=h') rfl ⟨_,_,⟨mC,hmC⟩,⟨rfl,rfl⟩,hasc',λq hq=>hq⟩ ?_;rintro r h'' pa ⟨rfl,hh⟩ hget hnot;rw[hh]at hget hnot;have hd17:j5 (pa.map (·.k)) [17]=true:=by simp only[j5,cO];intro x hx;have:x≠17:=λe=>hnot 17 rfl (e ▸ hx);simp[this]
  have hdn:∀l:List Ent,j5 (l.map λx=>x.k) []=true:=λl=>by simp[j5]
  have hap:Eff.app h' (.all pa)=bC h' pa:=rfl;rw[hap];have r9:=(hget 9).trans q9;generalize bC h' pa=H3 at r9 ⊢;simp only[r9,go_sem,seval];refine And.intro (by simp[bM,cF,R.apart,R.uses,X.tmp,Eff.apart,hd17,hdn,show j5 [] []=true from rfl,show j5 [] [17]=true from rfl,Nat.testBit]) ?_;exact⟨nl',cl',by rw[hnil];rfl⟩;refine kX (.inl rfl) rfl (S.sort _ h' kv e c.vi hg hlen) ?_;have n17:(kv=17)=False:=eq_false (by omega);have n9:(kv=9)=False:=eq_false (by omega);simp only[b1,fD,q9,n17,n9,go_sem,seval];have hcm:=S.comp (dQ 0 49 [.rf kv e 0 c.vi.length c.vi.length]) (h'.put kv e (.blk ((eD c.vi).map aE) 1 false false false)) kv e (eD c.vi) (by rw[aB,if_pos rfl]) (by rw[gU];exact hlen);rw[gU]at hcm;obtain⟨tl,hcm⟩:=hcm;have hl2:(bU (eD c.vi)).length<=c.vi.length:=by have e1:=lQ (eD c.vi);rw[gU]at e1;exact e1
  generalize hH1:h'.put kv e (.blk ((eD c.vi).map aE) 1 false false false)=H1 at hcm ⊢;have ha1:eH H1=true:=hH1 ▸ dC hasc';have r9a:H1.get 9=some (0,.blk [.int .i64 0,.int .i64 0,.int .i64 0,.int .i64 0] 4 true true false):=by rw[<-hH1,aB,if_neg (by omega)];exact q9
  refine IW (P:=λr h''=>r = .rf kv e 0 (bU (eD c.vi)).length c.vi.length/\h''=H1.put kv e (.blk ((bU (eD c.vi)).map aE++tl) 1 false false false)) rfl ⟨_,_,hcm,⟨rfl,rfl⟩,dC ha1,λq hq=>by rw[aB];split;(exact Option.some_ne_none _);exact hq⟩ ?_;rintro r h'' pa ⟨rfl,hh⟩ hget hnot;rw[hh]at hget hnot;have hd17:j5 (pa.map (·.k)) [17]=true:=by simp only[j5,cO];intro x hx;have:x≠17:=λe=>hnot 17 (by rw[aB,if_neg (by omega)]) (e ▸ hx);simp[this]
  have hdn:∀l:List Ent,j5 (l.map λx=>x.k) []=true:=λl=>by simp[j5]
  have hap:Eff.app H1 (.all pa)=bC H1 pa:=rfl;rw[hap];have r9:=((hget 9).trans (by rw[aB,if_neg (by omega)])).trans r9a;have rk:(bC H1 pa).get kv=some (e,.blk ((bU (eD c.vi)).map aE++tl) 1 false false false):=(hget kv).trans (by rw[aB,if_pos rfl]);generalize bC H1 pa=H3 at r9 rk ⊢;obtain⟨cs,q1,q2,q3,q4⟩:=bT (El.ints (bU (eD c.vi)));rw[cM]at q1;cases q1;have hl:((bU (eD c.vi)).map aE).length=(bU (eD c.vi)).length:=by simp
  have hq:=q4 tl;rw[hl]at hq;have hsn:∀h,mapS (snap 64 h) ((bU (eD c.vi)).map aE)=some ((bU (eD c.vi)).map aE,[]):=λh=>dK 63 h (gO _);have hsp:bU (eD c.vi)=eE [] c.vi:=K9 _ _ (zI _ (lG _)) (zH _ _ (by simp[Asc])) (λx=>by rw[j0,kK,tJ];simp);have n9':(9=kv)=False:=eq_false (by omega);simp only[r9,conv,rk,n9,n9',go_sem,seval];refine And.intro (by simp[bM,cF,R.apart,R.uses,X.tmp,Eff.apart,hd17,hdn,show j5 [] []=true from rfl,show j5 [] [17]=true from rfl,Nat.testBit]) ?_;refine⟨_,congrArg (Option.map λx=>x.1) (FT (l:=bU (eD c.vi)) (tl:=tl) (by rw[aB,if_neg (by omega)];exact rk) rfl rfl rfl 61),?_⟩;exact⟨false,false,by rw[hsp]⟩
 have hE:jI arrs p env = .er 1:=by rw[jI,if_neg (λh=>h hd),if_neg (by simp[hpk]),if_pos hq]
 rw[hE];simp only[g9,go_sem,seval];rfl;rintro d x r e hp' hes ⟨v,rfl,g1,g5,g9,hv,ho,hd,hasc⟩;obtain⟨hget,e1,e2,ew⟩:=cG hes heb;obtain⟨vi,bs,ck,a1,a2,a3⟩:=hv;have hmf:=pD x.v.bs d;cases hL:gS d x.v.bs with
 |some m=>
  rw[hL]at hmf;have hdup:¬lB env:=by intro hde;rw[hes]at hde;simp only[lB,List.map_append,List.map_cons,List.nodup_append,List.mem_cons,List.mem_map]at hde;simp only[gS,iC]at hL;obtain⟨y,hy,_⟩:=hL;exact hde.2.2 _ ⟨y,List.mem_of_find?_eq_some hy,rfl⟩ _ (.inl rfl) (by simpa using List.find?_some hy)
  have hE:jI arrs p env = .er 1:=if_pos hdup;simp only[wM,wN,e1,e2,hget,a1,fD,a2,hqs,hmf,g9,go_sem,seval];refine bI ?_;rw[hE];rfl
 |none=>
  rw[hL,Option.map_none]at hmf;have hno:∀y∈d,¬y.v.bs=x.v.bs:=by intro y hy e;simp only[gS,Option.map_eq_none_iff,List.find?_eq_none]at hL;exact hL y hy (by simp[e])
  have hset:=CR x.v x.n hno;have hfi:(AV.int .i64 x.n).fits (AV.int .i64 x.n).cells.length (AV.int .i64 x.n).isAgg=true:=rfl;obtain⟨H,hH⟩:∃H:Hp,H=(hp'.put 21 (hp'.next 21) (.blk [.str [],.int .i64 0] 2 true true false)).put 21 (hp'.next 21) (.blk [.str x.v.bs,.int .i64 x.n] 2 true true false):=⟨_,rfl⟩
  have hoH:∀q,q≠21->H.get q=hp'.get q:=by intro q hq;rw[hH,aB,if_neg (Ne.symm hq),aB,if_neg (Ne.symm hq)]
  have hmu:u7 H 1 [.mp 13 0,.str x.v.bs,.int .i64 x.n]=some (.tup [],.pat [13] [⟨13,0,.mpo (kvE (d++[x])) (sS none bs ck) (sC none ck)⟩]):=by simp only[u7,hoH 13 (by decide),a2,hqs,hfi,and_self,if_true,hmf,hset]
  have hascH:eH H=true:=by rw[hH];exact dC (dC hasc)
  have h21:H.get 21=some (hp'.next 21,.blk [.str x.v.bs,.int .i64 x.n] 2 true true false):=by rw[hH,aB,if_pos rfl]
  have h17:=(hoH 17 (by decide)).trans a1;have hhd:(hp'.put 21 (hp'.next 21) (.blk [.str [],.int .i64 0] 2 true true false)).put 21 (hp'.next 21) (.blk [.str x.v.bs,.int .i64 x.n] 2 true true false)=H:=hH.symm;simp only[wM,wN,e1,e2,hget,a1,fD,a2,hqs,hmf,g9,go_sem,seval];refine bI ?_;rw[hhd]at *;refine bI ?_;have hG:∀q,q≠13->q≠21->(H.put 13 0 (.mpo (eP (kvE d) (.str x.v.bs) (.int .i64 x.n)) (sS none bs ck) (sC none ck))).get q=hp'.get q:=by intro q q1 q2;rw[aB,if_neg (Ne.symm q1)];exact hoH q q2
  have h13:(H.put 13 0 (.mpo (eP (kvE d) (.str x.v.bs) (.int .i64 x.n)) (sS none bs ck) (sC none ck))).get 13=some (0,.mpo (kvE (d++[x])) (sS none bs ck) (sC none ck)):=by rw[aB,if_pos rfl,hset]
  refine kN (kb:=0) (s:=25) (bytes:=16) (es:=d.map λx => .str x.v.bs) (ho.mono (hG 25 (by decide) (by decide))) (El.names d) (xs:=[.str x.v.bs]) (by intro y hy;simp at hy;subst hy;exact El.str _) ?_ (by decide) ?_;have hl:=congrArg List.length hes;simp only[dZ,List.length_cons,List.length_nil,bD,big]at *;omega;intro v' rd pa ho' hk hpa;have hasc2:=j3 (pa:=pa) (dC (k:=13) (e:=0) (o:=.mpo (eP (kvE d) (.str x.v.bs) (.int .i64 x.n)) (sS none bs ck) (sC none ck)) hascH);generalize hH2:Eff.app _ (Eff.pat rd pa)=H2 at ho' hk;simp only[ew,hH2,go_sem,seval];have hq:∀q,q≠25->q≠13->q≠21->H2.get q=hp'.get q:=λq q1 q2 q3=>(hk q (by omega)).trans (hG q q2 q3);refine⟨v',rfl,(hq 1 (by decide) (by decide) (by decide)).trans g1,(hq 5 (by decide) (by decide) (by decide)).trans g5,(hq 9 (by decide) (by decide) (by decide)).trans g9,⟨vi,sS none bs ck,sC none ck,(hq 17 (by decide) (by decide) (by decide)).trans a1,(hk 13 (by decide)).trans h13,a3.mono (λq h1 h2=>hq q (by omega) (by omega) (by omega))⟩,?_,?_,?_⟩;rw[List.map_append];exact ho';simp only[lB,List.map_append,List.map_cons,List.map_nil,List.nodup_append,List.nodup_cons,List.mem_map];refine⟨hd,by simp,?_⟩;rintro a ⟨y,hy,rfl⟩ b hb e;simp only[List.mem_singleton]at hb;exact hno y hy (e.trans hb);exact hH2 ▸ hasc2
end
end
section
section
variable{pg:Pg}
theorem RF{d:List Val}{x:Val}{r:List Val}(h:jF (d.map (·.v)) x.v.bs=true):¬lB (d++x::r):=by intro hde;simp only[jF,List.any_eq_true,List.mem_map,aQ]at h;obtain⟨s,⟨y,hy,rfl⟩,hs⟩:=h;simp only[lB,List.map_append,List.map_cons,List.nodup_append,List.mem_cons,List.mem_map]at hde;exact hde.2.2 _ ⟨y,hy,rfl⟩ _ (.inl rfl) hs.symm
theorem RE{d:List Val}{x:Val}(hd:lB d)(h:jF (d.map (·.v)) x.v.bs=false):lB (d++[x]):=by
 simp only[lB,List.map_append,List.map_cons,List.map_nil,List.nodup_append,List.nodup_cons,List.mem_map];refine⟨hd,by simp,?_⟩;rintro a ⟨y,hy,rfl⟩ b hb e;simp only[List.mem_singleton]at hb;have h2:jF (d.map (·.v)) x.v.bs=true:=by simp only[jF,List.any_eq_true,List.mem_map,aQ];exact⟨y.v,⟨y,hy,rfl⟩,(e.trans hb).symm⟩
 rw[h]at h2;cases h2
set_option maxRecDepth 100000 in
set_option maxHeartbeats 2000000 in
theorem c937(hf:pg.fs 937=some HD)(h194:pg.fs 194=some vI)(h123:∀p:aA,p.ok->∀(nl cl:Bool) (vars:List Str),vars.length+p.sz<=big->∀v:Int,Ret pg 123 [p.av,.sl nl (vars.map Str.av) cl,.int .i64 v] (.bool (gW p vars v)))
  (h37:∀p:aA,p.ok->p.sz<=big->cB pg 37 [p.av] (nK 1 false ((cE p).map aE)))
  (arrs:List Arr) (anl acl:Bool) (h943:∀a∈arrs,Ret pg 943 [a.av] (.bool (gD a))) (hab:arrs.length<=big)
  (h944:∀p:aA,p.ok->∀env,env.length+p.sz<=big->vQ arrs p env->EvR pg arrs (.sl anl (arrs.map Arr.av) acl) p env)
  (p:aA) (hp:p.ok) (enl ecl:Bool) (env:List Val) (hsz:env.length+p.sz<=big) :
  cB pg 937 [p.av,.sl enl (env.map Val.av) ecl,.sl anl (arrs.map Arr.av) acl] (zP (jI arrs p env)):=by
 refine cB.ofX hf ?_;unfold HD;have heb:env.length<=big:=by omega
 refine Wk ?_
 refine aM env (λd r e hp=>∃v,e=D3 (.sl enl (env.map Val.av) ecl) (.sl anl (arrs.map Arr.av) acl) (.pt 1 0 0) (.pt 5 0 0) v (.int .i64 d.length) /\
  hp.get 1=some (0,.blk p.cells 9 true true false)/\hp.get 5=some (0,.blk [.int .i64 0,.int .i64 0,.int .i64 0,.int .i64 0] 4 true true false) /\
  Own hp 13 1 false v (d.map λv => .str v.v.bs)/\lB d/\hp.get 29=none) ?_ ?_ ?_
 refine⟨_,rfl,rfl,rfl,Own.nil _ _ _ _ _ _ rfl,?_,rfl⟩;simp[lB];rintro e hp' ⟨v,rfl,g1,g5,ho,hd,g29⟩;obtain⟨nl8,cl8,keys,hsn,hnl8⟩:=ho.snap (El.names env) 62;have h2:=h123 p hp nl8 cl8 (env.map (·.v)) (by simpa using hsz) arrs.length;have hmm:(env.map (·.v)).map Str.av=env.map (λv:Val=>AV.str v.v.bs):=by rw[List.map_map];rfl
 rw[aA.avc,hmm]at h2;have h3:=h37 p hp (by omega);rw[aA.avc]at h3;simp only[aA.cells,aA.kav,Sl.av]at g1;simp only[D1,D3,aY,g1,g5,go_sem,seval];refine gQ h2 (nU (by simp only[go_sem,seval]) hsn (by simp only[go_sem,seval])) (v:=.bool (gW p (env.map (·.v)) arrs.length)) (pa:=[]) rfl ?_;cases hpk:gW p (env.map (·.v)) arrs.length;have hE:jI arrs p env = .er 1:=by rw[jI,if_neg (λh=>h hd),if_pos hpk]
 simp only[g5,go_sem,seval];rw[hE];rfl;simp only[g1,go_sem,seval];refine sY h3 (by simp only[go_sem,seval]) ?_;intro nl9 cl9 hnl9;refine Wk ?_;have hrl:(cE p).length<=big:=by rw[<-oZ];have e1:=lQ (eD (cJ p));have e2:=gU (cJ p);have e3:=nO p;simp only[cX];omega
 have hin:∀a∈cE p,0<=a/\a<(arrs.length:Int):=by intro a ha;rw[<-oZ]at ha;simp only[cX,j0,kK]at ha;have hv2:=hpk;simp only[gW,aD]at hv2;exact uQ _ p (env.map (·.v)) hv2.2 a ha
 refine aM (cE p) (λd r e hp2=>e=D2 (.sl enl (env.map Val.av) ecl) (.sl anl (arrs.map Arr.av) acl) (.pt 1 0 0) (.pt 5 0 0) (.sl nl9 ((cE p).map aE) cl9) (.int .i64 d.length)/\hp2=hp'/\∀v∈d,qG arrs v=false) ?_ ?_ ?_;exact⟨rfl,rfl,by simp⟩;rintro e hp2 ⟨rfl,rfl,hall⟩;have hq:(cX p).any (qG arrs)=false:=by rw[List.any_eq_false];intro v hv;rw[oZ]at hv;rw[hall v hv];decide
 have hg:vQ arrs p env:=by
  refine⟨?_,hd,?_⟩;have hv2:=hpk;simp only[gW,aD]at hv2;exact hv2.2;intro v hv;have hv3:v∈cE p:=by rw[<-oZ];simp only[cX,j0,kK];exact hv
  have hb:=hall v hv3;obtain⟨h0,h1⟩:=hin v hv3;obtain⟨a,ha⟩:∃a,arrs[v.toNat]?=some a:=⟨_,bJ (by omega)⟩
  exact⟨a,ha,by simpa[qG,ha] using hb⟩
 have hE:jI arrs p env=evU arrs p env ⟨0,0,0,[]⟩:=by rw[jI,if_neg (λh=>h hd),if_neg (by simp[hpk]),if_neg (by simp[hq])]
 rw[hE];simp only[D0,D2,aY,g1,g5,go_sem,seval];generalize hHH:(Hp.put _ 29 (hp2.next 29) (.blk [.sl anl (arrs.map Arr.av) acl,.int .i64 0,.int .i64 0,.int .i64 0,.int .i64 0,.sl true [] true,.int .i64 0] 7 true true false):Hp)=H;have hv:Rn (hp2.next 29) (.sl anl (arrs.map Arr.av) acl) ⟨0,0,0,[]⟩ H:=⟨.sl true [] true,by rw[<-hHH,aB,if_pos rfl];rfl,26*65536+5,Own.nil _ _ _ _ _ _ rfl,by decide,by decide⟩
 have g5H:H.get 5=some (0,.blk [.int .i64 0,.int .i64 0,.int .i64 0,.int .i64 0] 4 true true false):=by rw[<-hHH,aB,if_neg (by decide),aB,if_neg (by decide)];exact g5
 have h4:=h944 p hp env hsz hg (hp2.next 29) ⟨0,0,0,[]⟩ (34*65536) H (.sl enl (env.map Val.av) ecl) (by decide) (by decide) ⟨by decide,by decide,by decide⟩ hv (.inl ⟨enl,ecl,rfl⟩);rw[aA.avc]at h4;refine aN (.inl rfl) (B:=34*65536) rfl h4 ?_;rintro r h' ⟨k1,k2⟩;have q5:=(k1 5 (by decide) (by decide) (by decide)).trans g5H;cases hU:evU arrs p env ⟨0,0,0,[]⟩ with
 |er e=>
  rw[hU]at k2;obtain⟨he0,n,rfl⟩:=k2;have he1:decide (e=0)=false:=by simp[he0]
  simp only[q5,he1,go_sem,seval];rfl
 |ok n c=>
  rw[hU]at k2;obtain⟨rfl,vi,b1,kv,ho2,hk1,hk2⟩:=k2;have n5:(kv=5)=False:=eq_false (by omega);simp only[b1,oY,q5,conv,go_sem,seval];refine bI ?_;rcases ho2 with ⟨hnil,nl',cl',rfl,hc⟩|⟨e,cs,rfl,hg9,hu⟩
  have hz:eE [] c.vi=[]:=by simpa using hnil
  exact⟨_,rfl,nl',cl',by rw[hz];rfl⟩;rw[cM]at hu;cases hu;rw[bD];simp only[depth];refine⟨_,congrArg (Option.map λx=>x.1) (FT (l:=eE [] c.vi) (tl:=[]) (by rw[aB,if_neg (by omega),List.append_nil];exact hg9) rfl rfl rfl 61),?_⟩;exact⟨false,false,rfl⟩
 rintro d x r e hp2 hes ⟨rfl,rfl,hall⟩;obtain⟨hget,e1,e2,ew⟩:=cG hes hrl;obtain⟨h0,h1⟩:=hin x (by rw[hes];simp);obtain⟨a,ha⟩:∃a,arrs[x.toNat]?=some a:=⟨_,bJ (by omega)⟩
 have h4:=h943 a (List.mem_of_getElem? ha);rw[Arr.avc]at h4;have h0':(0<=x)=True:=eq_true h0;have hb:qG arrs x = !gD a:=by simp only[qG,ha]
 simp only[D0,D2,e1,e2,hget,h0',ha,go_sem,seval];refine aC h4 ?_;cases hok:gD a;have hq:(cX p).any (qG arrs)=true:=by rw[List.any_eq_true];exact⟨x,by rw[oZ,hes];simp,by rw[hb,hok];rfl⟩
 have hE:jI arrs p env = .er 1:=by rw[jI,if_neg (λh=>h hd),if_neg (by simp[hpk]),if_pos hq]
 simp only[g5,go_sem,seval];rw[hE];rfl;simp only[ew,go_sem,seval];refine⟨rfl,λv hv=>?_⟩;rcases lS.1 hv with hv|hv;exact hall v hv;simp only[List.mem_singleton]at hv;rw[hv,hb,hok];rfl;rintro d x r e hp' hes ⟨v,rfl,g1,g5,ho,hd,g29⟩;obtain⟨hget,e1,e2,ew⟩:=cG hes heb;obtain⟨nl8,cl8,keys,hsn,hnl8⟩:=ho.snap (El.names d) 62;have hdl:d.length<=big:=by have hl:=congrArg List.length hes;simp only[dZ,List.length_cons]at hl;omega
 have h2:=c194 h194 nl8 cl8 (d.map (·.v)) (by simpa using hdl) x.v.bs;have hmm:(d.map (·.v)).map Str.av=d.map (λv:Val=>AV.str v.v.bs):=by rw[List.map_map];rfl
 rw[hmm]at h2;simp only[D1,D3,e1,e2,hget,go_sem,seval];refine gQ h2 (NZ hsn rfl) (v:=.bool (jF (d.map (·.v)) x.v.bs)) (pa:=[]) rfl ?_;cases hL:jF (d.map (·.v)) x.v.bs;simp only[hget,e2,go_sem,seval];refine kN (kb:=0) (s:=13) (bytes:=16) (es:=d.map λx => .str x.v.bs) ho (El.names d) (xs:=[.str x.v.bs]) (by intro y hy;simp at hy;subst hy;exact El.str _) ?_ (by decide) ?_;simp only[bD,List.length_cons,List.length_nil,big]at *;omega;intro v' rd pa ho' hk hpa;simp only[ew,go_sem,seval];refine⟨v',rfl,(hk 1 (by decide)).trans g1,(hk 5 (by decide)).trans g5,?_,RE hd hL,(hk 29 (by decide)).trans g29⟩;rw[List.map_append];exact ho';have hE:jI arrs p env = .er 1:=if_pos (by rw[hes];exact RF hL);simp only[g5,go_sem,seval];rw[hE];rfl
end
end
section
section
variable{pg:Pg}
def JT(a:Arr)(n:Int):Bool:=decide ((a.elem.bs.length:Int)<=20)&&decide ((a.dims.es.length:Int)<=8)&&decide ((a.data.es.length:Int)<=n)
theorem c942(hf:pg.fs 942=some BN)(a:Arr)(n:Int):Ret pg 942 [a.av,.int .i64 n] (.bool (JT a n)):=by refine Ret.ofX hf ?_;unfold BN;rw[Arr.avc];cases h1:decide ((a.elem.bs.length:Int)<=20)<;>cases h2:decide ((a.dims.es.length:Int)<=8)<;>cases h3:decide ((a.data.es.length:Int)<=n)<;>simp only[h1,h2,h3,JT,go_sem,seval]
end
end
section
section
variable{pg:Pg}
def aEy(env:List Val)(arrs:List Arr):Bool:=arrs.all (λa=>JT a 60)&&(decide ((env.length:Int)<=8)&&decide ((arrs.length:Int)<=16))
set_option maxHeartbeats 1000000 in
theorem c935(hf:pg.fs 935=some HF)(h942:pg.fs 942=some BN)(enl ecl:Bool)(env:List Val)(anl acl:Bool)(arrs:List Arr)(hab:arrs.length<=big) :
  Ret pg 935 [.sl enl (env.map Val.av) ecl,.sl anl (arrs.map Arr.av) acl] (.bool (aEy env arrs)):=by
 refine Ret.ofX hf ?_;unfold HF;refine Wk ?_;refine aM arrs (λd r e hp=>e=D7 (.sl enl (env.map Val.av) ecl) (.sl anl (arrs.map Arr.av) acl) (.sl anl (arrs.map Arr.av) acl) (.int .i64 arrs.length) (.int .i64 d.length)/\∀a∈d,JT a 60=true) ?_ ?_ ?_;exact⟨rfl,by simp⟩;rintro e hp' ⟨rfl,hall⟩;have h:arrs.all (λa=>JT a 60)=true:=cO.2 hall;simp only[D6,D7,aY,go_sem,seval];cases h1:decide ((env.length:Int)<=8)<;>cases h2:decide ((arrs.length:Int)<=16)<;>simp only[h1,h2,aEy,h,go_sem,seval];rintro d x r e hp' hes ⟨rfl,hall⟩;obtain⟨hget,e1,e2,ew⟩:=cG hes hab;have h4:=c942 h942 x 60;rw[Arr.avc]at h4;simp only[D6,D7,e1,e2,hget,go_sem,seval];refine aC h4 ?_;cases hF:JT x 60;have hq:arrs.all (λa=>JT a 60)=false:=by rw[hes];simp[hF]
 simp only[aEy,hq,go_sem,seval];simp only[ew,go_sem,seval];refine⟨rfl,λv hv=>?_⟩;rcases lS.1 hv with hv|hv;exact hall v hv;simp only[List.mem_singleton]at hv;rw[hv,hF]
end
end
section
section
variable{pg:Pg}
end
end
section
theorem aNg(a b:Int):(gJ max2 (.int .i64 a) [.int .i64 b]).bind val=val (.int .i64 (if a<b then b else a)):=by simp[gJ,max2]
section
variable{pg:Pg}
set_option maxRecDepth 100000 in
set_option maxHeartbeats 1000000 in
theorem c936(hf:pg.fs 936=some HE)(enl ecl:Bool)(env:List Val)(heb:env.length<=big):∀p:aA,p.ok->cB pg 936 [p.av,.sl enl (env.map Val.av) ecl] IsB:=by
 refine aA.ind' λp ih hp=>?_;obtain⟨hb,hk⟩:=(aA.ok_iff p).1 hp;refine cB.ofX hf ?_;unfold HE;refine Wk ?_;cases b0:decide (p.op.bs=[114,101,100,117,99,101])
 rotate_left 1
 simp only[b0,go_sem,seval];cases b1:decide ((p.at_.es.length:Int)=1);simp only[b1,go_sem,seval]
 rotate_left 1
 obtain⟨l,hl⟩:∃l,p.at_.es[0]?=some l:=⟨_,bJ (by have:=aG b1;omega)⟩
 have hlb:=l.ts.ok;simp only[b1,hl,go_sem,seval]
 refine aM l.ts.es (λd r e hp=>∃n,e=wJ (.sl enl (env.map Val.av) ecl) (.pt 1 0 0) (.int .i64 n) (.sl l.ts.nl (l.ts.es.map bH.av) l.ts.cl) (.int .i64 l.ts.es.length) (.int .i64 d.length) /\
   hp.get 1=some (0,.blk (nA p p.kids) 9 true true false)) ?_ ?_ ?_
 exact⟨_,rfl,rfl⟩
 rotate_left 1
 rintro d x r e hp hes ⟨n,rfl,h1⟩;obtain⟨hget,e1,e2,ew⟩:=cG hes hlb;simp only[wH,wJ,e1,e2,hget,ew,aNg,go_sem,seval];exact⟨_,rfl,h1⟩;simp only[b0,go_sem,seval]
 rotate_left 2
 rintro e hp ⟨n,rfl,h1⟩;have h0:=h1;simp only[nA]at h1;cases b2:decide (40<n);simp only[wH,wJ,aY,b2,h1,go_sem,seval]
 rotate_left 1
 simp only[wH,wJ,aY,b2,go_sem,seval]
 all_goals (refine aM p.kids (λd r e hp=>e=D5 (.sl enl (env.map Val.av) ecl) (.sl p.knl (p.kids.map aA.av) p.kcl) (.int .i64 p.kids.length) (.int .i64 d.length)) ?_ ?_ ?_)
 all_goals first|rfl|skip
 all_goals first
  |(rintro e hp rfl
    simp only[D4,D5,aY,go_sem,seval];refine aM env (λd r e hp=>e=wI (.sl enl (env.map Val.av) ecl) (.int .i64 env.length) (.int .i64 d.length)) ?_ ?_ ?_;rfl;rintro e hp rfl;simp only[wG,wI,aY,go_sem,seval];rintro d x r e hp hes rfl;obtain⟨hget,e1,e2,ew⟩:=cG hes heb;cases b3:decide (8<x.n);simp only[wG,wI,e1,e2,hget,b3,ew,go_sem,seval];rfl;simp only[wG,wI,e1,e2,hget,b3,go_sem,seval])
  |(rintro d x r e hp hes rfl
    obtain⟨hget,e1,e2,ew⟩:=cG hes hb;obtain⟨r3,a3,b3,rfl⟩:=ih x (by rw[hes];simp) (hk x (by rw[hes];simp));rw[aA.avc]at a3;simp only[D4,D5,e1,e2,hget,go_sem,seval];refine aC a3 ?_;cases b3;simp only[go_sem,seval];simp only[ew,go_sem,seval];rfl)
end
end
section
section
variable{pg:Pg}
set_option maxRecDepth 100000 in
set_option maxHeartbeats 1000000 in
theorem c933(hf:pg.fs 933=some HG)(h266:Ret pg 266 [] (.bool true))(p:aA)(enl ecl anl acl:Bool)(env:List Val)(arrs:List Arr)(fp b1 b2:Bool)(o:Rs)
  (a25:Ret pg 25 [p.av] (.bool fp)) (a935:Ret pg 935 [.sl enl (env.map Val.av) ecl,.sl anl (arrs.map Arr.av) acl] (.bool b1)) (a936:Ret pg 936 [p.av,.sl enl (env.map Val.av) ecl] (.bool b2))
  (a279:cB pg 279 [p.av,.sl enl (env.map Val.av) ecl,.sl anl (arrs.map Arr.av) acl] (zP o)) (a937:cB pg 937 [p.av,.sl enl (env.map Val.av) ecl,.sl anl (arrs.map Arr.av) acl] (zP o))
  (h15:∀(nl cl:Bool)(l:List Int),l.length<=big->∀nl' cl',Ret pg 15 [.sl nl (l.map aE) cl,.sl nl' (l.map aE) cl'] (.bool true)) (hB:∀n c,o = .ok n c->(eE [] c.vi).length<=big) :
  Ret pg 933 [p.av,.sl enl (env.map Val.av) ecl,.sl anl (arrs.map Arr.av) acl] (.bool true):=by
 have te:treeL (env.map Val.av)=true:=bG (λ_=>rfl) env;have ta:treeL (arrs.map Arr.av)=true:=Arr.treeL_av arrs;have tp:treeL [p.av]=true:=by simp only[treeL,aA.tree_av,Bool.and_true]
 obtain⟨p0,p1,p2,p3,p4,p5,p6,p7,p8,hpa⟩:∃p0 p1 p2 p3 p4 p5 p6 p7 p8,p.av = .agg [p0,p1,p2,p3,p4,p5,p6,p7,p8]:=⟨_,_,_,_,_,_,_,_,_,aA.avc p⟩
 obtain⟨E,hE⟩:∃E,E=AV.sl enl (env.map Val.av) ecl:=⟨_,rfl⟩
 obtain⟨A,hA⟩:∃A,A=AV.sl anl (arrs.map Arr.av) acl:=⟨_,rfl⟩
 have tE:E.tree=true:=by rw[hE];simp only[te,go_sem,seval]
 have tA:A.tree=true:=by rw[hA];simp only[ta,go_sem,seval]
 rw[<-hE,<-hA]at a935 a279 a937 ⊢;rw[<-hE]at a936;rw[hpa]at a25 a936 a279 a937 tp ⊢;have tpe:treeL [AV.agg [p0,p1,p2,p3,p4,p5,p6,p7,p8],E]=true:=by simp only[treeL,aD]at tp ⊢;exact⟨tp.1,tE,trivial⟩
 have tpea:treeL [AV.agg [p0,p1,p2,p3,p4,p5,p6,p7,p8],E,A]=true:=by simp only[treeL,aD]at tp ⊢;exact⟨tp.1,tE,tA,trivial⟩
 have tea:treeL [E,A]=true:=by simp only[treeL,aD];exact⟨tE,tA,trivial⟩
 clear te ta hE hA;refine Ret.ofX hf ?_;unfold HG;refine Wk ?_;refine dH h266 rfl rfl (Wk ?_);refine dH a25 tp rfl ?_;cases fp
 case false=>refine Wk ?_;refine dH h266 rfl rfl ?_;simp only[go_sem,seval]
 refine Wk ?_;refine dH a935 tea rfl ?_;cases b1
 case false=>refine Wk ?_;refine dH h266 rfl rfl ?_;simp only[go_sem,seval]
 refine Wk ?_;refine dH a936 tpe rfl ?_;cases b2
 case false=>refine Wk ?_;refine dH h266 rfl rfl ?_;simp only[go_sem,seval]
 refine Wk ?_;obtain⟨r1,a279,q1⟩:=a279;obtain⟨r2,a937,q2⟩:=a937;cases o with
 |er e=>
  simp only[zP]at q1 q2;subst q1 q2;have t1:=h15 true true [] (by simp) true true;have e1:decide (e=e)=true:=by simp
  refine dH a279 tpea rfl (Wk ?_);refine dH a937 tpea rfl (Wk ?_);refine dH t1 rfl rfl ?_;simp only[e1,go_sem,seval]
 |ok n c=>
  obtain⟨nl1,cl1,rfl⟩:=q1;obtain⟨nl2,cl2,rfl⟩:=q2;have t1:=h15 nl1 cl1 _ (hB n c rfl) nl2 cl2;have e1:decide (n=n)=true:=by simp
  have tl:treeL [AV.sl nl1 ((eE [] c.vi).map aE) cl1,.sl nl2 ((eE [] c.vi).map aE) cl2]=true:=by have:=bG (f:=aE) (λ_=>rfl) (eE [] c.vi);simp only[this,go_sem,seval]
  refine dH a279 tpea rfl ?_;simp only[e1,go_sem,seval];refine dH a937 tpea rfl ?_;simp only[e1,go_sem,seval];refine dH t1 tl rfl ?_;simp only[go_sem,seval]
end
end
section
structure CodePe(pg:Pg):Prop where
 f15:pg.fs 15=some E5
 f25:pg.fs 25=some R9
 f26:pg.fs 26=some KX
 f37:pg.fs 37=some R8
 f40:pg.fs 40=some KU
 f41:pg.fs 41=some OP
 f42:pg.fs 42=some KP
 f45:pg.fs 45=some OO
 f48:pg.fs 48=some R7
 f51:pg.fs 51=some R6
 f54:pg.fs 54=some R5
 f55:pg.fs 55=some rJ
 f56:pg.fs 56=some HH
 f57:pg.fs 57=some ON
 f70:pg.fs 70=some R4
 f71:pg.fs 71=some KD
 f74:pg.fs 74=some OM
 f77:pg.fs 77=some R3
 f87:pg.fs 87=some R2
 f89:pg.fs 89=some OL
 f90:pg.fs 90=some OK
 f91:pg.fs 91=some J7
 f95:pg.fs 95=some R0
 f96:pg.fs 96=some OJ
 f98:pg.fs 98=some OI
 f107:pg.fs 107=some B8
 f109:pg.fs 109=some ID
 f111:pg.fs 111=some IC
 f114:pg.fs 114=some B7
 f115:pg.fs 115=some B6
 f118:pg.fs 118=some IB
 f121:pg.fs 121=some IA
 f123:pg.fs 123=some H9
 f124:pg.fs 124=some l9
 f125:pg.fs 125=some H8
 f126:pg.fs 126=some vJ
 f137:pg.fs 137=some B5
 f138:pg.fs 138=some zC
 f140:pg.fs 140=some H7
 f146:pg.fs 146=some B4
 f147:pg.fs 147=some H6
 f148:pg.fs 148=some nG
 f161:pg.fs 161=some B3
 f162:pg.fs 162=some B2
 f164:pg.fs 164=some HZ
 f177:pg.fs 177=some zB
 f182:pg.fs 182=some HY
 f183:pg.fs 183=some SC
 f184:pg.fs 184=some B1
 f190:pg.fs 190=some zA
 f191:pg.fs 191=some y9
 f192:pg.fs 192=some HX
 f193:pg.fs 193=some HW
 f194:pg.fs 194=some vI
 f206:pg.fs 206=some kV
 f207:pg.fs 207=some BZ
 f208:pg.fs 208=some SA
 f209:pg.fs 209=some yZ
 f279:pg.fs 279=some HV
 f289:pg.fs 289=some BX
 f293:pg.fs 293=some M0
 f302:pg.fs 302=some BW
 f303:pg.fs 303=some HU
 f304:pg.fs 304=some HT
 f315:pg.fs 315=some HS
 f316:pg.fs 316=some HR
 f336:pg.fs 336=some HQ
 f337:pg.fs 337=some qP
 f338:pg.fs 338=some yY
 f339:pg.fs 339=some vH
 f340:pg.fs 340=some BV
 f341:pg.fs 341=some BU
 f342:pg.fs 342=some yX
 f343:pg.fs 343=some yW
 f344:pg.fs 344=some HP
 f355:pg.fs 355=some HO
 f358:pg.fs 358=some BS
 f383:pg.fs 383=some HN
 f384:pg.fs 384=some HM
 f385:pg.fs 385=some HL
 f403:pg.fs 403=some HK
 f404:pg.fs 404=some HJ
 f405:pg.fs 405=some BR
 f406:pg.fs 406=some BQ
 f407:pg.fs 407=some BP
 f443:pg.fs 443=some HI
 f444:pg.fs 444=some yT
 f587:pg.fs 587=some vG
 f588:pg.fs 588=some BO
 f605:pg.fs 605=some yS
 f933:pg.fs 933=some HG
 f935:pg.fs 935=some HF
 f936:pg.fs 936=some HE
 f937:pg.fs 937=some HD
 f942:pg.fs 942=some BN
 f943:pg.fs 943=some HC
 f944:pg.fs 944=some HB
 f949:pg.fs 949=some HA
 f950:pg.fs 950=some vF
 f951:pg.fs 951=some BM
 f952:pg.fs 952=some BL
 f953:pg.fs 953=some G9
 f954:pg.fs 954=some G8
 f957:pg.fs 957=some G7
 f958:pg.fs 958=some G6
 f959:pg.fs 959=some G5
 f960:pg.fs 960=some G4
 f961:pg.fs 961=some G3
 f964:pg.fs 964=some G2
 f965:pg.fs 965=some yP
 f966:pg.fs 966=some BK
section
variable{pg:Pg}
theorem aFM(C:CodePe pg)(A:Ora pg)(p:aA)(hp:p.ok)(nl cl:Bool)(vars:List Str)(hb:vars.length+p.sz<=big)(v:Int):Ret pg 109 [p.av,.sl nl (vars.map Str.av) cl,.int .i64 v] (.bool (gW p vars v)):=by
 have h57:=c57 A C.f57 C.f91 C.f126;have h51:∀l:Lin,Ret pg 51 [l.av] (.bool (lE l)):=c51 C.f51 C.f89 h57;have h183:∀(nl cl:Bool)(ls:List Lin),ls.length<=big->∀(nl' cl':Bool)(vars:List Str),vars.length<=big->Ret pg 183 [.sl nl (ls.map Lin.av) cl,.sl nl' (vars.map Str.av) cl'] (.bool (eK ls vars)):=
  λnl cl ls hb nl' cl' vars hb'=>QA (g:=208) C.f183 h51 C.f96 C.f95 C.f137 C.f208 C.f98 C.f138 nl cl ls hb nl' cl' vars hb'
 have h140:∀op,cB pg 140 [.str op] (gK op):=c140 C.f140 C.f177 C.f107;have h111:=c111 C.f111 C.f148 h140;have h70:∀(nl cl:Bool)(fn:List aH),fn.length<=big->∀n:Int,Ret pg 70 [.sl nl (fn.map aH.av) cl,.int .i64 n] (.bool (bK fn n)):=λnl cl fn hb n=>c70 C.f70 h111 nl cl fn hb n;have h182:∀(p:aA),p.kids.length<=big->∀(nl cl:Bool)(vars:List Str),vars.length<=big->∀v:Int,Ret pg 182 [p.av,.sl nl (vars.map Str.av) cl,.int .i64 v] (.bool (bZ p vars v)):=
  λp hp nl cl vars hb v=>c182 h57 C.f182 C.f206 C.f148 C.f207 C.f98 C.f138 h70 h140 p hp nl cl vars hb v
 have h147:∀p:aA,p.ok->∀(nl cl:Bool)(vars:List Str),vars.length+p.sz<=big->∀v:Int,Ret pg 147 [p.av,.sl nl (vars.map Str.av) cl,.int .i64 v] (.bool (eJ v p vars)):=
  λp hp nl cl vars hb v=>c147 C.f147 h182 h183 C.f184 C.f209 v p hp nl cl vars hb
 exact c109 C.f109 C.f146 h147 p hp nl cl vars hb v
theorem aFL(C:CodePe pg)(p:aA)(hp:p.ok)(nl cl:Bool)(vars:List Str)(hb:vars.length+p.sz<=big)(v:Int):Ret pg 123 [p.av,.sl nl (vars.map Str.av) cl,.int .i64 v] (.bool (gW p vars v)):=by
 have h77:∀s:Str,Ret pg 77 [.str s.bs] (.bool (jC s.bs)):=λs=>c77 C.f77 C.f114 C.f115 s.bs s.ok;have h54:∀l:Lin,Ret pg 54 [l.av] (.bool (lE l)):=c54 C.f54 h77 C.f90;have h121:=c121 C.f121 C.f162 C.f191;have h118:=c118 C.f118 C.f161 C.f15 h121;have h125:=c125 C.f125;have h87:∀(nl cl:Bool)(fn:List aH),fn.length<=big->∀n:Int,Ret pg 87 [.sl nl (fn.map aH.av) cl,.int .i64 n] (.bool (bK fn n)):=λnl cl fn hb n=>c87 C.f87 C.f124 h125 nl cl fn hb n;have h192:=c192 C.f192 h125;have h193:∀(nl cl:Bool)(ls:List Lin),ls.length<=big->∀(nl' cl':Bool)(vars:List Str),vars.length<=big->Ret pg 193 [.sl nl (ls.map Lin.av) cl,.sl nl' (vars.map Str.av) cl'] (.bool (eK ls vars)):=
  λnl cl ls hb nl' cl' vars hb'=>c193 C.f193 h54 C.f194 nl cl ls hb nl' cl' vars hb'
 exact c123 C.f123 C.f40 (c164 C.f164 h192 h118 h193 C.f124 h77 C.f194 h87) p hp nl cl vars hb v
theorem PJ(arrs:List Arr)(p:aA)(env:List Val)(n:Int)(c:Cn)(h:evU arrs p env ⟨0,0,0,[]⟩ = .ok n c):c.vi.length<=big:=by have hb:=kO arrs p env ⟨0,0,0,[]⟩ n c (by decide) (by decide) h;obtain⟨b1,b2,b3⟩:=hb;simp only[List.length_nil]at b1;simp only[big];omega
theorem RL{arrs:List Arr}{p:aA}{env:List Val}{n:Int}{c:Cn}(h:jI arrs p env = .ok n c):evU arrs p env ⟨0,0,0,[]⟩ = .ok n c:=by unfold jI at h;split at h;cases h;split at h;cases h;split at h;cases h;exact h
theorem UI(C:CodePe pg)(A:Ora pg)(hx:AscX pg)(arrs:Sl Arr)(hnl:∀a∈arrs.es,(a.dims.nl=true->a.dims.es=[])/\(a.data.nl=true->a.data.es=[])) :
  (∀a∈arrs.es,Ret pg 303 [a.av] (.bool (gD a)))/\(∀p:aA,p.ok->∀env,vQ arrs.es p env->EvC pg arrs.es (.sl arrs.nl (arrs.es.map Arr.av) arrs.cl) p env):=by
 have h140:∀op,cB pg 140 [.str op] (gK op):=c140 C.f140 C.f177 C.f107;have h111:=c111 C.f111 C.f148 h140;have h70:∀(nl cl:Bool)(fn:List aH),fn.length<=big->∀n:Int,Ret pg 70 [.sl nl (fn.map aH.av) cl,.int .i64 n] (.bool (bK fn n)):=λnl cl fn hb n=>c70 C.f70 h111 nl cl fn hb n;have h344:∀op nl cl (xs:List Int),xs.length<=big->Ret pg 344 [.str op,.sl nl (xs.map aE) cl] (eQ op xs):=c344 C.f344 h140 C.f148 (λop nl cl xs h=>c385 C.f385 C.f338 C.f405 C.f406 C.f190 C.f407 C.f444 op nl cl xs h);have h315:∀nl cl (fn:List aH),fn.length<=big->∀nl' cl' (xs:List Int),xs.length<=big->Ret pg 315 [.sl nl (fn.map aH.av) cl,.sl nl' (xs.map aE) cl'] (oH fn xs):=λnl cl fn hb nl' cl' xs hx=>c315 C.f315 C.f148 h70 h344 C.f358 nl cl fn hb nl' cl' xs hx
 have h293:∀nl cl (es:List Int),es.length<=big->∀v,Ret pg 293 [.sl nl (es.map aE) cl,.int .i64 v] (.bool (es.any λx=>decide (v=x))):=by
  intro nl cl es hb v;have h:=c293 C.f293 C.f316 nl cl es hb v
  have e:es.contains v=es.any λy=>decide (v=y):=by rw[List.contains_eq_any_beq];congr 1
  rw[e]at h;exact h
 have h355:∀nl cl (ds:List Int),ds.length<=big->Ret pg 355 [.sl nl (ds.map aE) cl] (fQ ds):=c355 C.f355 h293;have h336:=λt nl cl ds hb hnl nl' cl' xs hx hnl'=>c336 C.f336 h355 C.f383 C.f403 C.f45 C.f71 C.f148 C.f289 t nl cl ds hb hnl nl' cl' xs hx hnl';have h303:∀a∈arrs.es,Ret pg 303 [a.av] (.bool (gD a)):=λa ha=>c303 C.f303 h336 a (hnl a ha).1 (hnl a ha).2;have h443:=c443 C.f443 h355;have h384:∀a∈arrs.es,∀nl cl ix,Ret pg 384 [a.av,.sl nl (ix.map aE) cl] (atV a ix):=λa ha nl cl ix=>c384 C.f384 a nl cl ix (c404 C.f404 a (h303 a ha) h443 nl cl ix);exact⟨h303,c304 C.f304 C.f337 C.f339 C.f340 C.f341 C.f342 C.f343 C.f338 h315 h344 arrs.es arrs.nl arrs.cl h384⟩
theorem OB(C:CodePe pg)(A:Ora pg)(hx:AscX pg)(arrs:Sl Arr)(hnl:∀a∈arrs.es,(a.dims.nl=true->a.dims.es=[])/\(a.data.nl=true->a.data.es=[]))(p:aA)(hp:p.ok)(env:Sl Val)(hb:env.es.length+p.sz<=big) :
  cB pg 279 [p.av,.sl env.nl (env.es.map Val.av) env.cl,.sl arrs.nl (arrs.es.map Arr.av) arrs.cl] (zP (jI arrs.es p env.es)):=by
 obtain⟨h303,h304⟩:=UI C A hx arrs hnl;exact c279 C.f279 hx (IQ A) C.f302 (aFM C A) (c48 (IQ A) C.f48 C.f74) C.f45 C.f71 arrs.es arrs.nl arrs.cl h303 arrs.ok h304 p hp env.nl env.cl env.es hb (PJ arrs.es p env.es)
theorem RK(C:CodePe pg)(arrs:Sl Arr)(p:aA)(hp:p.ok)(env:Sl Val)(hb:env.es.length+p.sz<=big) :
  cB pg 937 [p.av,.sl env.nl (env.es.map Val.av) env.cl,.sl arrs.nl (arrs.es.map Arr.av) arrs.cl] (zP (jI arrs.es p env.es)):=by
 have h125:=c125 C.f125;have h960:=c960 C.f960 C.f950 C.f965;have h961:=c961 C.f961 C.f950 C.f965 C.f966;have h954:∀op nl cl (xs:List Int),xs.length<=big->Ret pg 954 [.str op,.sl nl (xs.map aE) cl] (eQ op xs):=λop nl cl xs hb=>c954 C.f954 C.f124 h125 h960 h961 op nl cl xs hb;have h87:∀(nl cl:Bool)(fn:List aH),fn.length<=big->∀n:Int,Ret pg 87 [.sl nl (fn.map aH.av) cl,.int .i64 n] (.bool (bK fn n)):=λnl cl fn hb n=>c87 C.f87 C.f124 h125 nl cl fn hb n;have h958:=c958 C.f958 C.f124 h87 h954;have h959:=c959 C.f959 h125;have h943:=c943 C.f943 C.f588 C.f587 C.f124 C.f605;have h964:=c964 C.f964 C.f587;have h957:=c957 C.f957 h943 h964;have h944:=c944 C.f944 C.f55 C.f950 C.f951 C.f952 (c949 C.f949) (c953 C.f953 h959 h958) h954 arrs.es arrs.nl arrs.cl h957;exact c937 C.f937 C.f194 (aFL C) (c37 C.f37 C.f55) arrs.es arrs.nl arrs.cl (λa _=>h943 a) arrs.ok h944 p hp env.nl env.cl env.es hb
theorem aEM(C:CodePe pg)(A:Ora pg)(hx:AscX pg)(h266:Ret pg 266 [] (.bool true))(p:aA)(hp:p.ok)(env:Sl Val)(arrs:Sl Arr)(hnl:∀a∈arrs.es,(a.dims.nl=true->a.dims.es=[])/\(a.data.nl=true->a.data.es=[]))(hb:env.es.length+p.sz<=big) :
  Ret pg 933 [p.av,env.av Val.av,arrs.av Arr.av] (.bool true):=by
 obtain⟨_,a936,b2,rfl⟩:=c936 C.f936 env.nl env.cl env.es env.ok p hp;refine c933 C.f933 h266 p env.nl env.cl arrs.nl arrs.cl env.es arrs.es _ _ b2 (jI arrs.es p env.es) (c25 C.f25 C.f40 C.f41 C.f42 C.f56 C.f26 p hp) (c935 C.f935 C.f942 env.nl env.cl env.es arrs.nl arrs.cl arrs.es arrs.ok) a936 (OB C A hx arrs hnl p hp env hb) (RK C arrs p hp env hb)
  (λnl cl l hl nl' cl'=>c15 C.f15 nl cl l hl nl' cl' l rfl) ?_
 intro n c h;have h1:=m9 c.vi [];have h2:=PJ arrs.es p env.es n c (RL h);simp only[List.length_nil]at h1;omega
end
end
section
def LE(g:List AV->Nat->Hp->Option (AV×Hp)):Prop:=∀args kb h r h',g args kb h=some (r,h')->eH h=true->eH h'=true
theorem PD:LE mW:=by
 intro args kb h r h' e ha;unfold mW at e
 repeat' (split at e)
 all_goals first|(cases e;done)|(cases e;exact ha)
theorem PB:LE nW:=by
 intro args kb h r h' e ha;unfold nW at e
 repeat' (split at e)
 all_goals first|(cases e;done)|(cases e;exact ha)
theorem O9:LE pG:=by
 intro args kb h r h' e ha;unfold pG at e
 repeat' (split at e)
 all_goals first|(cases e;done)|(cases e;exact ha)|(cases e;exact dC ha)
theorem PC:LE pH:=by
 intro args kb h r h' e ha;unfold pH at e
 repeat' (split at e)
 all_goals first|(cases e;done)|(cases e;exact ha)|(cases e;exact dC ha)
theorem PA:LE tX:=by
 intro args kb h r h' e ha;unfold tX at e
 repeat' (split at e)
 all_goals first|(cases e;done)|(cases e;exact ha)
theorem SU:LE BD:=by intro args kb h r h' e ha;unfold BD at e;split at e;rename_i s sep;cases hb:s.length.ble 1000000;rw[hb]at e;cases e;rw[hb]at e;cases e;exact ha;cases e
theorem IT(G:Nat):LE (nE G):=by
 intro args kb h r h' e ha;unfold nE at e
 repeat' (split at e)
 all_goals first|(cases e;done)|skip
 rename_i l _;revert e;generalize okK l _ _=b;intro e;cases b;cases e;cases e;exact ha
end
end Go.Tev
