import Derived.Test.YtdegpppbhhjlhaaGreatDoorCBJ
import Derived.Test.YtdegpppbhhjlhaaGreatDoorCBF
import Derived.Test.YtdegpppbhhjlhaaGreatDoorCAT
import Derived.Test.YtdegpppbhhjlhaaGreatDoorCAW
import Derived.Test.YtdegpppbhhjlhaaGreatDoorCBC
set_option linter.all false
namespace Go.Tev
section
def xO(o:Option (AV×Eff)):Prop:=∀v e,o=some (v,e)->∃rd pa,e = .pat rd pa
theorem sS:xO none:=λ_ _ h=>by cases h
theorem zZ(v:AV)(rd:List Nat)(pa:List Ent):xO (some (v,.pat rd pa)):=λ_ _ h=>by cases h;exact⟨_,_,rfl⟩
theorem CY(v:AV):xO (val v):=λ_ _ h=>by cases h;exact⟨_,_,rfl⟩
theorem CZ{α : Type}(o:Option α)(f : α -> AV)(rd:List Nat)(pa:List Ent):xO (o.map λv=>(f v,.pat rd pa)):=by
 intro v e h;cases o with
 |none=>cases h
 |some x=>cases h;exact⟨_,_,rfl⟩
theorem z6(o:Option AV):xO (o.bind val):=by
 intro v e h;cases o with
 |none=>cases h
 |some x=>cases h;exact⟨_,_,rfl⟩
theorem JB{α : Type}(o:Option α)(f : α -> Option (AV×Eff))(h:∀x,xO (f x)):xO (o.bind f):=by
 intro v e h';cases o with
 |none=>cases h'
 |some x=>exact h x v e h'
set_option maxHeartbeats 4000000 in
theorem TI(h:Hp)(k0:Nat)(o:K)(xs:List AV):xO (FA h k0 o xs):=by
 cases o<;>simp only[FA]<;>first|exact sS|skip
 all_goals (first|unfold O9|unfold UP|unfold fW|unfold yA|unfold x9|unfold FN|unfold vT|unfold x8|unfold FM|unfold PL|unfold PM|unfold PG|unfold wY|unfold YJ|unfold PI|unfold PH|unfold O6|unfold PN|unfold fU|unfold fV|unfold AL|unfold PE|unfold PF|unfold iB|unfold wV|unfold O5|unfold PA|unfold wX|unfold FP|unfold PK|unfold jN|unfold UR|unfold PJ|unfold aBM|unfold YL|unfold YK|unfold JL|unfold PC|unfold aBJ|unfold aBI|unfold aBF|unfold PD|unfold PB|unfold wW|unfold O8|unfold FO|unfold aBL|unfold aBK|unfold aJR|unfold O7|unfold UQ|unfold aBH|unfold aBG|unfold JK|skip)
 all_goals repeat' (first|exact sS|exact zZ _ _ _|exact CY _|exact CZ _ _ _ _|exact z6 _|split)
 all_goals (try unfold i6);all_goals (try unfold iH);all_goals (try unfold nT);all_goals (try unfold zO)
 all_goals repeat' (first|exact sS|exact zZ _ _ _|exact CY _|exact CZ _ _ _ _|exact z6 _|(refine JB _ _ ?_;intro _)|split|dsimp only)
def OD(call:aY):Prop:=(∀f vs kb h r h',call f vs kb h=some (r,h')->bW h=true->bW h'=true)/\(∀k e args h r h',call.yl k e args h=some (r,h')->bW h=true->bW h'=true)
def W5(f:St->Option (Ex×St)):Prop:=∀st ex st',f st=some (ex,st')->bW st.hp=true->bW st'.hp=true
section
variable{call:aY}{kb:Nat}
theorem rQ(hc:OD call){s:Nat}{h:Hp}{f:Nat}{th im:Bool}{vs:List AV}{v:AV}{eff:Eff}(e:kB call kb s h f th im vs=some (v,eff))(ha:bW h=true):bW (eff.app h)=true:=by unfold kB at e;split at e;split at e;split at e;cases e;exact eU ha;cases e;cases e;split at e;rename_i r h' hr;cases e;exact hc.1 _ _ _ _ _ _ hr ha;cases e
theorem BH{s:Nat}{h:Hp}{f:Nat}{vs:List AV}{v:AV}{eff:Eff}(e:jV call kb s h f vs=some (v,eff))(ha:bW h=true):bW (eff.app h)=true:=by unfold jV at e;split at e;simp only at e;split at e;cases e;exact eU ha;cases e;cases e
theorem X4(hc:OD call){r:R}{h:Hp}{vs:List AV}{v:AV}{eff:Eff}(e:opR call kb r h vs=some (v,eff))(ha:bW h=true):bW (eff.app h)=true:=by unfold opR at e;split at e;exact rQ hc e ha;unfold kR at e;split at e;split at e;cases e;exact eU ha;cases e;cases e;exact BH e ha;split at e;exact BH e ha;cases e;split at e;exact rQ hc e ha;split at e;rename_i v' h' hr;cases e;exact hc.2 _ _ _ _ _ _ hr ha;cases e;exact rQ hc e ha;cases e;split at e;split at e;exact rQ hc e ha;cases e;cases e;obtain⟨rd,pa,rfl⟩:=TI _ _ _ _ _ _ e;exact eU ha
theorem B8(hc:OD call){gl:Nat->Option AV}{r:R}{st st':St}{eff:Eff}(e:iE gl call kb r st=some (st',eff))(ha:bW st.hp=true):bW st'.hp=true:=by unfold iE at e;split at e;cases e;cases e;exact ha;split at e;rename_i h1;cases e;exact X4 hc h1 ha;cases e
theorem IK(hc:OD call){gl:Nat->Option AV}:∀{rs:List R}{st st':St},nA gl call kb rs st=some st'->bW st.hp=true->bW st'.hp=true
 |[],st,st',e,ha=>by cases e;exact ha
 |r::rs,st,st',e,ha=>by rw[nA]at e;split at e;rename_i h1;exact IK hc e (B8 hc h1 ha);cases e
theorem CG(hc:OD call){gl:Nat->Option AV}:∀{rs:List R}{st st':St}{es:List Eff},hJ gl call kb rs st=some (st',es)->bW st.hp=true->bW st'.hp=true
 |[],st,st',es,e,ha=>by cases e;exact ha
 |r::rs,st,st',es,e,ha=>by
  rw[hJ]at e;split at e;rename_i st1 e1 h1;cases h2:hJ gl call kb rs st1 with
  |none=>rw[h2]at e;cases e
  |some q=>rw[h2]at e;cases e;exact CG hc (es:=q.2) h2 (B8 hc h1 ha)
  cases e
end
theorem CS{f:St->Option (Ex×St)}(hf:W5 f){clr:List Bool}:∀n,W5 (jI f clr n)
 |0=>λ_ _ _ e=>by cases e
 |n+1=>λst ex st' e ha=>by rw[jI]at e;split at e;rename_i st1 h1;exact CS hf n _ _ _ e (hf _ _ _ h1 ha);exact hf _ _ _ e ha
theorem CW{h h':Hp}{k e:Nat}(hk:killI h k e=some h')(ha:bW h=true):bW h'=true:=by unfold killI at hk;split at hk;split at hk;cases hk;exact aR ha;cases hk;cases hk
theorem OB{α : Type}{eq : α -> α -> Bool}{f:Nat->Option α}:∀{l:List Nat}{r : α},iM eq f l=some r->∃b,f b=some r
 |[],r,h=>by cases h
 |[b],r,h=>⟨b,h⟩
 |b::c::l,r,h=>by rw[iM]at h;split at h;rename_i r1 s1 h1 h2;split at h;cases h;exact⟨b,h1⟩;cases h;cases h;intro h;cases h
theorem FD{f:St->Option (Ex×St)}{fin:Ex×St->Option (Ex×St)}(hf:W5 f)(hfin:∀o r,fin o=some r->bW o.2.hp=true->bW r.2.hp=true){it nx more out:Nat}{clr:List Bool}:∀n,W5 (mrN f fin it nx more out clr n)
 |0=>λ_ _ _ e=>by cases e
 |n+1=>λst ex st' e ha=>by
  rw[mrN]at e;split at e;split at e;split at e;rename_i l o hn;split at e;generalize hk:killI st.hp _ _=kk at e;cases kk with
  |none=>cases e
  |some h2=>exact hfin _ _ e (CW hk ha)
  obtain⟨b,hb⟩:=OB e;split at hb;rename_i st1 h1;exact FD hf hfin n _ _ _ hb (hf _ _ _ h1 (aR ha));rename_i x st1 _ h1;have h3:=hf _ _ _ h1 (aR ha);generalize hk:killI st1.hp _ _=kk at hb;cases kk with
  |none=>cases hb
  |some h2=>exact hfin _ _ hb (CW hk h3)
  cases hb;cases e;cases e;cases e
theorem vW{kb:Nat}:∀{l:List Nat}{h:Hp},bW h=true->bW (AW kb l h)=true
 |[],h,ha=>ha
 |s::r,h,ha=>by rw[AW];refine vW ?_;split;exact aR ha;exact ha
theorem RK{env:List AV}{k e:Nat}{h:Hp}{ex:Ex}{st:St}(he:DG env k e h=some (ex,st))(ha:bW h=true):bW st.hp=true:=by unfold DG at he;split at he;split at he;split at he;cases he;exact aR ha;cases he;exact aR ha;cases he;exact aR ha;cases he;cases he;cases he
theorem eN{gl:Nat->Option AV}{call:aY}{kb n:Nat}(hc:OD call):∀c:C,W5 (bB gl call kb n c)
 |.skip=>λst ex st' e ha=>by rw[bB]at e;cases e;exact ha
 |.reg rs false=>λst ex st' e ha=>by
  rw[bB]at e;cases h1:nA gl call kb rs st with
  |none=>rw[h1]at e;cases e
  |some s=>rw[h1]at e;cases e;exact IK hc h1 ha
 |.reg rs true=>λst ex st' e ha=>by rw[bB]at e;split at e;rename_i s es h1;split at e;cases e;exact CG hc h1 ha;cases e;cases e
 |.seq a b=>λst ex st' e ha=>by rw[bB]at e;split at e;rename_i st1 h1;exact eN hc b _ _ _ e (eN hc a _ _ _ h1 ha);exact eN hc a _ _ _ e ha
 |.cond c a b=>λst ex st' e ha=>by rw[bB]at e;split at e;exact eN hc a _ _ _ e ha;exact eN hc b _ _ _ e ha;cases e
 |.block id b=>λst ex st' e ha=>by
  rw[bB]at e;split at e;rename_i h1;have h2:=eN hc b _ _ _ h1 ha;split at e<;>(cases e;exact h2)
  exact eN hc b _ _ _ e ha
 |.loop b clr=>λst ex st' e ha=>by rw[bB]at e;exact CS (eN hc b) n _ _ _ e ha
 |.exit id=>λst ex st' e ha=>by rw[bB]at e;cases e;exact ha
 |.ret=>λst ex st' e ha=>by rw[bB]at e;cases e;exact ha
 |.rf x s ps a b=>λst ex st' e ha=>by rw[bB]at e;split at e;split at e;rename_i h1;exact RK e (hc.1 _ _ _ _ _ _ h1 (aR ha));cases e;cases e
 |.mr it nx more out b clr=>λst ex st' e ha=>by rw[bB]at e;exact FD (eN hc b) (λo r h1 h2=>by cases h1;exact h2) n _ _ _ e ha
 |.mq p id it nx more out b clr rest msk drop=>λst ex st' e ha=>by
  rw[bB]at e;split at e;rename_i st1 h1;refine FD (eN hc b) ?_ n _ _ _ e (eN hc p _ _ _ h1 ha);intro o r h2 h3;split at h2;cases h4:bB gl call kb n rest o.2 with
  |none=>rw[h4]at h2;cases h2
  |some q=>rw[h4]at h2;cases h2;exact vW (eN hc rest _ _ _ h4 h3)
  cases h2;exact vW h3;exact eN hc p _ _ _ e ha
 |.bad=>λst ex st' e ha=>by rw[bB]at e;cases e
theorem D6{pg:Pg}(hx:∀f g,pg.ex f=some g->∀args kb h r h',g args kb h=some (r,h')->bW h=true->bW h'=true):∀n,OD (aZ pg n)
 |0=>⟨λ_ _ _ _ _ _ e=>(by cases e),λ_ _ _ _ _ _ e=>(by cases e)⟩
 |n+1=>by
  have ih:=D6 hx n;refine⟨λf vs kb h r h' e ha=>?_,λk e args h r h' he ha=>?_⟩;simp only[aZ]at e;split at e;split at e;rename_i h1;exact hx _ _ h1 _ _ _ _ _ e ha;cases e;split at e;cases e;rename_i ex st hne h1;have h2:=eN ih _ _ _ _ h1 ha;generalize h3:result st _=kk at e;cases kk with
  |none=>cases e
  |some v=>cases e;exact h2
  cases e;simp only[aZ,pY]at he;split at he;split at he;split at he;rename_i st1 h1;have h2:=eN ih _ _ _ _ h1 ha;split at he;split at he;split at he;rename_i h3;have h4:=eN ih _ _ _ _ h3 (aR h2);split at he;split at he;cases he;exact aR h4;cases he;cases he;cases he;cases he;cases he;cases he;cases he;cases he
theorem tF.asc{pg:Pg}(hx:∀f g,pg.ex f=some g->∀args kb h r h',g args kb h=some (r,h')->bW h=true->bW h'=true){f kb:Nat}{vs:List AV}{h h':Hp}{r:AV}(e:tF pg f vs kb h r h')(ha:bW h=true):bW h'=true:=by obtain⟨n,e⟩:=e;exact(D6 hx n).1 _ _ _ _ _ _ e ha
end
section
instance (env:List Val):Decidable (kN env):=inferInstanceAs (Decidable (List.Nodup _))
def N9(arrs:List Arr)(v:Int):Bool := !(match arrs[v.toNat]? with|some a=>mZ a|none=>false)
def lW(arrs:List Arr)(p:aA)(env:List Val):Rs:=
 if ¬kN env then .er 1 else if dQ p (env.map (·.v)) arrs.length=false then .er 1 else
 if (jQ p).any (N9 arrs)=true then .er 1 else evU arrs p env ⟨0,0,0,[]⟩
def LR(o:Rs)(r:AV):Prop:=
 match o with
 |.er e=>r = .tup [.int .i64 0,.agg [.int .i64 0,.int .i64 0,.int .i64 0,.int .i64 0],.sl true [] true,.int .i64 e]
 |.ok n c=>∃nl cl,r = .tup [.int .i64 n,.agg [.int .i64 c.rd,.int .i64 0,.int .i64 c.ops,.int .i64 0],.sl nl ((eX [] c.vi).map aH) cl,.int .i64 0]
def AscX(pg:Pg):Prop:=∀f g,pg.ex f=some g->∀args kb h r h',g args kb h=some (r,h')->bW h=true->bW h'=true
section
variable{pg:Pg}{kb:Nat}
theorem lC(hx:AscX pg){f s:Nat}{th im:Bool}{h:Hp}{vs:List AV}{P:AV->Hp->Prop}{Q:AV->Eff->Prop}{t:Tok Q}(hm:im=true\/mapS (snap depth h) vs=none){B:Nat}(hB:eD kb s vs=B)(ha:bW h=true)(hr:cW pg f vs B h P)
  (hq:∀r h',P r h'->bW h'=true->Q r (.whole h')):XO pg kb (.call f th im) s h vs Q t:=by
 obtain⟨r,h',h1,h2⟩:=hr;exact LL hm hB h1 (hq r h' h2 (h1.asc hx ha))
theorem WP{f s:Nat}{h:Hp}{vs:List AV}{P:AV->Hp->Prop}{Q:AV->Eff->Prop}{t:Tok Q}{B:Nat}(hB:eD kb s vs=B)(hr:cW pg f vs B h (λr h'=>P r h'/\bW h'=true/\∀q,h.get q≠none->h'.get q≠none))
  (hq:∀r h' pa,P r h'->(∀q,(aJ h pa).get q=h'.get q)->(∀q,h'.get q=h.get q->q ∉ pa.map (·.k))->Q r (.all pa)):XO pg kb (.callr f) s h vs Q t:=by
 obtain⟨r,h',⟨n,e⟩,hp,hn,hk⟩:=hr;subst hB;have hn':=BJ hn;refine⟨n,r,.all (chg h h'),?_,hq r h' _ hp (PR hn' hk) (λq he=>YP hn' he)⟩;simp only[opR,jV,e]
 have hall:((h++h').all λx=>qK ((aJ h (chg h h')).get x.k) (h'.get x.k))=true:=by rw[eE];intro x _;rw[PR hn' hk];exact AU _
 unfold chg at hall ⊢;rw[if_pos hall]
end
section
variable{pg:Pg}
theorem El.names(l:List Val):∀x∈l.map (λv:Val=>AV.str v.v.bs),El 1 false x:=by intro x hx;simp only[List.mem_map]at hx;obtain⟨y,_,rfl⟩:=hx;exact El.str _
theorem SU{h:Hp}{kv e cp:Nat}{l:List Int}{tl:List AV}(hg:h.get kv=some (e,.blk (l.map aH++tl) 1 false false false)){a b c:AV}(ha:a.tree=true)(hb:b.tree=true)(hc:c.tree=true)(d:Nat) :
  Tev.snap (d+3) h (.tup [a,b,.rf kv e 0 l.length cp,c])=some (.tup [a,b,.sl false (l.map aH) false,c],[kv]):=by
 have h0:Tev.snap (d+2) h (.rf kv e 0 l.length cp)=some (.sl false (l.map aH) false,[kv]):=by unfold Tev.snap;rw[if_neg (by simp[AV.tree])];simp only[hg,if_true,List.drop_zero,s8,eK d h (oW l),Option.map_some,Bool.false_and]
 unfold Tev.snap;rw[if_neg (by simp[AV.tree,Tev.treeL])];simp only[eG,iK,nD ha,nD hb,nD hc,h0,Option.map_some,List.append_nil,List.nil_append]
end
end
section
section
variable{pg:Pg}
theorem AC{d:List Val}{x:Val}{r:List Val}(h:fD (d.map (·.v)) x.v.bs=true):¬kN (d++x::r):=by intro hde;simp only[fD,List.any_eq_true,List.mem_map,bC]at h;obtain⟨s,⟨y,hy,rfl⟩,hs⟩:=h;simp only[kN,List.map_append,List.map_cons,List.nodup_append,List.mem_cons,List.mem_map]at hde;exact hde.2.2 _ ⟨y,hy,rfl⟩ _ (.inl rfl) hs.symm
theorem AB{d:List Val}{x:Val}(hd:kN d)(h:fD (d.map (·.v)) x.v.bs=false):kN (d++[x]):=by
 simp only[kN,List.map_append,List.map_cons,List.map_nil,List.nodup_append,List.nodup_cons,List.mem_map];refine⟨hd,by simp,?_⟩;rintro a ⟨y,hy,rfl⟩ b hb e;simp only[List.mem_singleton]at hb;have h2:fD (d.map (·.v)) x.v.bs=true:=by simp only[fD,List.any_eq_true,List.mem_map,bC];exact⟨y.v,⟨y,hy,rfl⟩,(e.trans hb).symm⟩
 rw[h]at h2;cases h2
set_option maxRecDepth 100000 in
set_option maxHeartbeats 2000000 in
theorem c937(hf:pg.fs 937=some KN)(h194:pg.fs 194=some xG)(h123:∀p:aA,p.ok->∀(nl cl:Bool) (vars:List Str),vars.length+p.sz<=big->∀v:Int,Ret pg 123 [p.av,.sl nl (vars.map Str.av) cl,.int .i64 v] (.bool (dQ p vars v)))
  (h37:∀p:aA,p.ok->p.sz<=big->cA pg 37 [p.av] (pP 1 false ((cT p).map aH)))
  (arrs:List Arr) (anl acl:Bool) (h943:∀a∈arrs,Ret pg 943 [a.av] (.bool (mZ a))) (hab:arrs.length<=big)
  (h944:∀p:aA,p.ok->∀env,env.length+p.sz<=big->W1 arrs p env->EvR pg arrs (.sl anl (arrs.map Arr.av) acl) p env)
  (p:aA) (hp:p.ok) (enl ecl:Bool) (env:List Val) (hsz:env.length+p.sz<=big) :
  cA pg 937 [p.av,.sl enl (env.map Val.av) ecl,.sl anl (arrs.map Arr.av) acl] (LR (lW arrs p env)):=by
 refine cA.ofX hf ?_;unfold KN;have heb:env.length<=big:=by omega
 refine Wk ?_
 refine aN env (λd r e hp=>∃v,e=GV (.sl enl (env.map Val.av) ecl) (.sl anl (arrs.map Arr.av) acl) (.pt 1 0 0) (.pt 5 0 0) v (.int .i64 d.length) /\
  hp.get 1=some (0,.blk p.cells 9 true true false)/\hp.get 5=some (0,.blk [.int .i64 0,.int .i64 0,.int .i64 0,.int .i64 0] 4 true true false) /\
  Own hp 13 1 false v (d.map λv => .str v.v.bs)/\kN d/\hp.get 29=none) ?_ ?_ ?_
 refine⟨_,rfl,rfl,rfl,Own.nil _ _ _ _ _ _ rfl,?_,rfl⟩;simp[kN];rintro e hp' ⟨v,rfl,g1,g5,ho,hd,g29⟩;obtain⟨nl8,cl8,keys,hsn,hnl8⟩:=ho.snap (El.names env) 62;have h2:=h123 p hp nl8 cl8 (env.map (·.v)) (by simpa using hsz) arrs.length;have hmm:(env.map (·.v)).map Str.av=env.map (λv:Val=>AV.str v.v.bs):=by rw[List.map_map];rfl
 rw[aA.avc,hmm]at h2;have h3:=h37 p hp (by omega);rw[aA.avc]at h3;simp only[aA.cells,aA.kav,Sl.av]at g1;simp only[GT,GV,bH,g1,g5,go_sem,seval];refine i7 h2 (sP (by simp only[go_sem,seval]) hsn (by simp only[go_sem,seval])) (v:=.bool (dQ p (env.map (·.v)) arrs.length)) (pa:=[]) rfl ?_;cases hpk:dQ p (env.map (·.v)) arrs.length;have hE:lW arrs p env = .er 1:=by rw[lW,if_neg (λh=>h hd),if_pos hpk]
 simp only[g5,go_sem,seval];rw[hE];rfl;simp only[g1,go_sem,seval];refine qQ h3 (by simp only[go_sem,seval]) ?_;intro nl9 cl9 hnl9;refine Wk ?_;have hrl:(cT p).length<=big:=by rw[<-p9];have e1:=rE (mL (jC p));have e2:=qU (jC p);have e3:=sM p;simp only[jQ];omega
 have hin:∀a∈cT p,0<=a/\a<(arrs.length:Int):=by intro a ha;rw[<-p9]at ha;simp only[jQ,mA,oE]at ha;have hv2:=hpk;simp only[dQ,aD]at hv2;exact wH _ p (env.map (·.v)) hv2.2 a ha
 refine aN (cT p) (λd r e hp2=>e=GU (.sl enl (env.map Val.av) ecl) (.sl anl (arrs.map Arr.av) acl) (.pt 1 0 0) (.pt 5 0 0) (.sl nl9 ((cT p).map aH) cl9) (.int .i64 d.length)/\hp2=hp'/\∀v∈d,N9 arrs v=false) ?_ ?_ ?_;exact⟨rfl,rfl,by simp⟩;rintro e hp2 ⟨rfl,rfl,hall⟩;have hq:(jQ p).any (N9 arrs)=false:=by rw[List.any_eq_false];intro v hv;rw[p9]at hv;rw[hall v hv];decide
 have hg:W1 arrs p env:=by
  refine⟨?_,hd,?_⟩;have hv2:=hpk;simp only[dQ,aD]at hv2;exact hv2.2;intro v hv;have hv3:v∈cT p:=by rw[<-p9];simp only[jQ,mA,oE];exact hv
  have hb:=hall v hv3;obtain⟨h0,h1⟩:=hin v hv3;obtain⟨a,ha⟩:∃a,arrs[v.toNat]?=some a:=⟨_,cK (by omega)⟩
  exact⟨a,ha,by simpa[N9,ha] using hb⟩
 have hE:lW arrs p env=evU arrs p env ⟨0,0,0,[]⟩:=by rw[lW,if_neg (λh=>h hd),if_neg (by simp[hpk]),if_neg (by simp[hq])]
 rw[hE];simp only[GS,GU,bH,g1,g5,go_sem,seval];generalize hHH:(Hp.put _ 29 (hp2.next 29) (.blk [.sl anl (arrs.map Arr.av) acl,.int .i64 0,.int .i64 0,.int .i64 0,.int .i64 0,.sl true [] true,.int .i64 0] 7 true true false):Hp)=H;have hv:Rn (hp2.next 29) (.sl anl (arrs.map Arr.av) acl) ⟨0,0,0,[]⟩ H:=⟨.sl true [] true,by rw[<-hHH,aB,if_pos rfl];rfl,26*65536+5,Own.nil _ _ _ _ _ _ rfl,by decide,by decide⟩
 have g5H:H.get 5=some (0,.blk [.int .i64 0,.int .i64 0,.int .i64 0,.int .i64 0] 4 true true false):=by rw[<-hHH,aB,if_neg (by decide),aB,if_neg (by decide)];exact g5
 have h4:=h944 p hp env hsz hg (hp2.next 29) ⟨0,0,0,[]⟩ (34*65536) H (.sl enl (env.map Val.av) ecl) (by decide) (by decide) ⟨by decide,by decide,by decide⟩ hv (.inl ⟨enl,ecl,rfl⟩);rw[aA.avc]at h4;refine eA (.inl rfl) (B:=34*65536) rfl h4 ?_;rintro r h' ⟨k1,k2⟩;have q5:=(k1 5 (by decide) (by decide) (by decide)).trans g5H;cases hU:evU arrs p env ⟨0,0,0,[]⟩ with
 |er e=>
  rw[hU]at k2;obtain⟨he0,n,rfl⟩:=k2;have he1:decide (e=0)=false:=by simp[he0]
  simp only[q5,he1,go_sem,seval];rfl
 |ok n c=>
  rw[hU]at k2;obtain⟨rfl,vi,b1,kv,ho2,hk1,hk2⟩:=k2;have n5:(kv=5)=False:=eq_false (by omega);simp only[b1,pZ,q5,conv,go_sem,seval];refine cB ?_;rcases ho2 with ⟨hnil,nl',cl',rfl,hc⟩|⟨e,cs,rfl,hg9,hu⟩
  have hz:eX [] c.vi=[]:=by simpa using hnil
  exact⟨_,rfl,nl',cl',by rw[hz];rfl⟩;rw[fJ]at hu;cases hu;rw[bU];simp only[depth];refine⟨_,congrArg (Option.map λx=>x.1) (SU (l:=eX [] c.vi) (tl:=[]) (by rw[aB,if_neg (by omega),List.append_nil];exact hg9) rfl rfl rfl 61),?_⟩;exact⟨false,false,rfl⟩
 rintro d x r e hp2 hes ⟨rfl,rfl,hall⟩;obtain⟨hget,e1,e2,ew⟩:=cY hes hrl;obtain⟨h0,h1⟩:=hin x (by rw[hes];simp);obtain⟨a,ha⟩:∃a,arrs[x.toNat]?=some a:=⟨_,cK (by omega)⟩
 have h4:=h943 a (List.mem_of_getElem? ha);rw[Arr.avc]at h4;have h0':(0<=x)=True:=eq_true h0;have hb:N9 arrs x = !mZ a:=by simp only[N9,ha]
 simp only[GS,GU,e1,e2,hget,h0',ha,go_sem,seval];refine aC h4 ?_;cases hok:mZ a;have hq:(jQ p).any (N9 arrs)=true:=by rw[List.any_eq_true];exact⟨x,by rw[p9,hes];simp,by rw[hb,hok];rfl⟩
 have hE:lW arrs p env = .er 1:=by rw[lW,if_neg (λh=>h hd),if_neg (by simp[hpk]),if_pos hq]
 simp only[g5,go_sem,seval];rw[hE];rfl;simp only[ew,go_sem,seval];refine⟨rfl,λv hv=>?_⟩;rcases kE.1 hv with hv|hv;exact hall v hv;simp only[List.mem_singleton]at hv;rw[hv,hb,hok];rfl;rintro d x r e hp' hes ⟨v,rfl,g1,g5,ho,hd,g29⟩;obtain⟨hget,e1,e2,ew⟩:=cY hes heb;obtain⟨nl8,cl8,keys,hsn,hnl8⟩:=ho.snap (El.names d) 62;have hdl:d.length<=big:=by have hl:=congrArg List.length hes;simp only[dA,List.length_cons]at hl;omega
 have h2:=c194 h194 nl8 cl8 (d.map (·.v)) (by simpa using hdl) x.v.bs;have hmm:(d.map (·.v)).map Str.av=d.map (λv:Val=>AV.str v.v.bs):=by rw[List.map_map];rfl
 rw[hmm]at h2;simp only[GT,GV,e1,e2,hget,go_sem,seval];refine i7 h2 (vI hsn rfl) (v:=.bool (fD (d.map (·.v)) x.v.bs)) (pa:=[]) rfl ?_;cases hL:fD (d.map (·.v)) x.v.bs;simp only[hget,e2,go_sem,seval];refine m8 (kb:=0) (s:=13) (bytes:=16) (es:=d.map λx => .str x.v.bs) ho (El.names d) (xs:=[.str x.v.bs]) (by intro y hy;simp at hy;subst hy;exact El.str _) ?_ (by decide) ?_;simp only[bU,List.length_cons,List.length_nil,big]at *;omega;intro v' rd pa ho' hk hpa;simp only[ew,go_sem,seval];refine⟨v',rfl,(hk 1 (by decide)).trans g1,(hk 5 (by decide)).trans g5,?_,AB hd hL,(hk 29 (by decide)).trans g29⟩;rw[List.map_append];exact ho';have hE:lW arrs p env = .er 1:=if_pos (by rw[hes];exact AC hL);simp only[g5,go_sem,seval];rw[hE];rfl
end
end
section
section
variable{pg:Pg}
def aGm(a:Arr)(n:Int):Bool:=decide ((a.elem.bs.length:Int)<=20)&&decide ((a.dims.es.length:Int)<=8)&&decide ((a.data.es.length:Int)<=n)
theorem c942(hf:pg.fs 942=some DU)(a:Arr)(n:Int):Ret pg 942 [a.av,.int .i64 n] (.bool (aGm a n)):=by refine Ret.ofX hf ?_;unfold DU;rw[Arr.avc];cases h1:decide ((a.elem.bs.length:Int)<=20)<;>cases h2:decide ((a.dims.es.length:Int)<=8)<;>cases h3:decide ((a.data.es.length:Int)<=n)<;>simp only[h1,h2,h3,aGm,go_sem,seval]
end
end
section
section
variable{pg:Pg}
end
end
section
section
variable{pg:Pg}
theorem c568(hf:pg.fs 568=some KP)(nl cl:Bool)(ls:List Lin)(hb:ls.length<=big):cA pg 568 [.sl nl (ls.map Lin.av) cl] IsB:=by
 refine cA.ofX hf ?_;unfold KP;refine Wk ?_;refine aN ls (λd r env hp=>env=rN (.sl nl (ls.map Lin.av) cl) (.int .i64 d.length)) ?_ ?_ ?_;rfl;rintro env hp rfl;simp only[rL,rN,bH,go_sem,seval];rintro d x r env hp hes rfl;obtain⟨hget,e1,e2,ew⟩:=cY hes hb;have hlb:=x.ts.ok;cases b1:decide (6<(x.ts.es.length:Int))
 case true=>simp only[rL,rN,e1,e2,hget,b1,go_sem,seval]
 cases b2:decide (x.c < -100)
 case true=>simp only[rL,rN,e1,e2,hget,b1,b2,go_sem,seval]
 cases b3:decide (100<x.c)
 case true=>simp only[rL,rN,e1,e2,hget,b1,b2,b3,go_sem,seval]
 simp only[rL,rN,e1,e2,hget,b1,b2,b3,go_sem,seval];refine aN x.ts.es (λd2 r2 env hp=>env=rO (.sl nl (ls.map Lin.av) cl) (.int .i64 d.length) (.int .i64 d2.length)) ?_ ?_ ?_;rfl;rintro env hp rfl;simp only[rM,rO,bH,hget,e1,e2,ew,go_sem,seval];rfl;rintro d2 y r2 env hp he2 rfl;obtain⟨hget2,f1,f2,fw⟩:=cY he2 hlb;cases b4:decide (y.c < -100)
 case true=>simp only[rM,rO,e1,e2,hget,hget2,f1,f2,b4,go_sem,seval]
 cases b5:decide (100<y.c)
 case true=>simp only[rM,rO,e1,e2,hget,hget2,f1,f2,b4,b5,go_sem,seval]
 cases b6:decide (35<(y.v.bs.length:Int))
 case true=>simp only[rM,rO,e1,e2,hget,hget2,f1,f2,b4,b5,b6,go_sem,seval]
 simp only[rM,rO,e1,e2,hget,hget2,f1,f2,b4,b5,b6,fw,go_sem,seval];rfl
end
end
section
section
variable{pg:Pg}
end
end
section
section
variable{pg:Pg}
end
end
section
section
variable{pg:Pg}
end
end
section
section
variable{pg:Pg}
theorem c53(hf:pg.fs 53=some NG)(c:bE)(v:Val):Ret pg 53 [v.av,.fp c.av] (.bool (decide (v.v.bs=c.v.bs))):=by refine Ret.ofX hf ?_;unfold NG;simp only[go_sem,seval]
end
end
end Go.Tev
