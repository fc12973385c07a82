import Derived.Test.YtilkdbbkkcnocaaGreatDoorSBJ
import Derived.Test.YtilkdbbkkcnocaaGreatDoorSBF
import Derived.Test.YtilkdbbkkcnocaaGreatDoorSAT
import Derived.Test.YtilkdbbkkcnocaaGreatDoorSAW
import Derived.Test.YtilkdbbkkcnocaaGreatDoorSBC
set_option linter.all false
namespace Go.Tev
section
def xC(o:Option (AV×Eff)):Prop:=∀v e,o=some (v,e)->∃rd pa,e = .pat rd pa
theorem sQ:xC none:=λ_ _ h=>by cases h
theorem zW(v:AV)(rd:List Nat)(pa:List Ent):xC (some (v,.pat rd pa)):=λ_ _ h=>by cases h;exact⟨_,_,rfl⟩
theorem C0(v:AV):xC (val v):=λ_ _ h=>by cases h;exact⟨_,_,rfl⟩
theorem C1{α : Type}(o:Option α)(f : α -> AV)(rd:List Nat)(pa:List Ent):xC (o.map λv=>(f v,.pat rd pa)):=by
 intro v e h;cases o with
 |none=>cases h
 |some x=>cases h;exact⟨_,_,rfl⟩
theorem zX(o:Option AV):xC (o.bind val):=by
 intro v e h;cases o with
 |none=>cases h
 |some x=>cases h;exact⟨_,_,rfl⟩
theorem JB{α : Type}(o:Option α)(f : α -> Option (AV×Eff))(h:∀x,xC (f x)):xC (o.bind f):=by
 intro v e h';cases o with
 |none=>cases h'
 |some x=>exact h x v e h'
set_option maxHeartbeats 4000000 in
theorem T4(h:Hp)(k0:Nat)(o:K)(xs:List AV):xC (FF h k0 o xs):=by
 cases o<;>simp only[FF]<;>first|exact sQ|skip
 all_goals (first|unfold PF|unfold VA|unfold fW|unfold xU|unfold xS|unfold FR|unfold vK|unfold xR|unfold FQ|unfold JP|unfold PQ|unfold PM|unfold wT|unfold ZF|unfold PO|unfold PN|unfold PC|unfold PR|unfold fU|unfold fV|unfold uG|unfold PK|unfold PL|unfold oZ|unfold wR|unfold PB|unfold PG|unfold oC|unfold FT|unfold PP|unfold o7|unfold VC|unfold DF|unfold aCw|unfold ZH|unfold ZG|unfold JO|unfold PI|unfold aCt|unfold aCs|unfold aCp|unfold PJ|unfold PH|unfold wS|unfold PE|unfold FS|unfold aCv|unfold aCu|unfold aKC|unfold PD|unfold VB|unfold aCr|unfold aCq|unfold JN|skip)
 all_goals repeat' (first|exact sQ|exact zW _ _ _|exact C0 _|exact C1 _ _ _ _|exact zX _|split)
 all_goals (try unfold lG);all_goals (try unfold kQ);all_goals (try unfold nM);all_goals (try unfold zN)
 all_goals repeat' (first|exact sQ|exact zW _ _ _|exact C0 _|exact C1 _ _ _ _|exact zX _|(refine JB _ _ ?_;intro _)|split|dsimp only)
def OD(call:aW):Prop:=(∀f vs kb h r h',call f vs kb h=some (r,h')->cM h=true->cM h'=true)/\(∀k e args h r h',call.yl k e args h=some (r,h')->cM h=true->cM h'=true)
def X5(f:St->Option (Ex×St)):Prop:=∀st ex st',f st=some (ex,st')->cM st.hp=true->cM st'.hp=true
section
variable{call:aW}{kb:Nat}
theorem rM(hc:OD call){s:Nat}{h:Hp}{f:Nat}{th im:Bool}{vs:List AV}{v:AV}{eff:Eff}(e:jT call kb s h f th im vs=some (v,eff))(ha:cM h=true):cM (eff.app h)=true:=by unfold jT at e;split at e;split at e;split at e;cases e;exact iG ha;cases e;cases e;split at e;rename_i r h' hr;cases e;exact hc.1 _ _ _ _ _ _ hr ha;cases e
theorem BF{s:Nat}{h:Hp}{f:Nat}{vs:List AV}{v:AV}{eff:Eff}(e:jK call kb s h f vs=some (v,eff))(ha:cM h=true):cM (eff.app h)=true:=by unfold jK at e;split at e;simp only at e;split at e;cases e;exact iG ha;cases e;cases e
theorem YX(hc:OD call){r:R}{h:Hp}{vs:List AV}{v:AV}{eff:Eff}(e:opR call kb r h vs=some (v,eff))(ha:cM h=true):cM (eff.app h)=true:=by unfold opR at e;split at e;exact rM hc e ha;unfold kG at e;split at e;split at e;cases e;exact iG ha;cases e;cases e;exact BF e ha;split at e;exact BF e ha;cases e;split at e;exact rM hc e ha;split at e;rename_i v' h' hr;cases e;exact hc.2 _ _ _ _ _ _ hr ha;cases e;exact rM hc e ha;cases e;split at e;split at e;exact rM hc e ha;cases e;cases e;obtain⟨rd,pa,rfl⟩:=T4 _ _ _ _ _ _ e;exact iG ha
theorem B6(hc:OD call){gl:Nat->Option AV}{r:R}{st st':St}{eff:Eff}(e:iB gl call kb r st=some (st',eff))(ha:cM st.hp=true):cM st'.hp=true:=by unfold iB at e;split at e;cases e;cases e;exact ha;split at e;rename_i h1;cases e;exact YX hc h1 ha;cases e
theorem IH(hc:OD call){gl:Nat->Option AV}:∀{rs:List R}{st st':St},mT gl call kb rs st=some st'->cM st.hp=true->cM st'.hp=true
 |[],st,st',e,ha=>by cases e;exact ha
 |r::rs,st,st',e,ha=>by rw[mT]at e;split at e;rename_i h1;exact IH hc e (B6 hc h1 ha);cases e
theorem CD(hc:OD call){gl:Nat->Option AV}:∀{rs:List R}{st st':St}{es:List Eff},gZ gl call kb rs st=some (st',es)->cM st.hp=true->cM st'.hp=true
 |[],st,st',es,e,ha=>by cases e;exact ha
 |r::rs,st,st',es,e,ha=>by
  rw[gZ]at e;split at e;rename_i st1 e1 h1;cases h2:gZ gl call kb rs st1 with
  |none=>rw[h2]at e;cases e
  |some q=>rw[h2]at e;cases e;exact CD hc (es:=q.2) h2 (B6 hc h1 ha)
  cases e
end
theorem CU{f:St->Option (Ex×St)}(hf:X5 f){clr:List Bool}:∀n,X5 (i7 f clr n)
 |0=>λ_ _ _ e=>by cases e
 |n+1=>λst ex st' e ha=>by rw[i7]at e;split at e;rename_i st1 h1;exact CU hf n _ _ _ e (hf _ _ _ h1 ha);exact hf _ _ _ e ha
theorem CZ{h h':Hp}{k e:Nat}(hk:killI h k e=some h')(ha:cM h=true):cM h'=true:=by unfold killI at hk;split at hk;split at hk;cases hk;exact bO ha;cases hk;cases hk
theorem OA{α : Type}{eq : α -> α -> Bool}{f:Nat->Option α}:∀{l:List Nat}{r : α},iH eq f l=some r->∃b,f b=some r
 |[],r,h=>by cases h
 |[b],r,h=>⟨b,h⟩
 |b::c::l,r,h=>by rw[iH]at h;split at h;rename_i r1 s1 h1 h2;split at h;cases h;exact⟨b,h1⟩;cases h;cases h;intro h;cases h
theorem FI{f:St->Option (Ex×St)}{fin:Ex×St->Option (Ex×St)}(hf:X5 f)(hfin:∀o r,fin o=some r->cM o.2.hp=true->cM r.2.hp=true){it nx more out:Nat}{clr:List Bool}:∀n,X5 (mrN f fin it nx more out clr n)
 |0=>λ_ _ _ e=>by cases e
 |n+1=>λst ex st' e ha=>by
  rw[mrN]at e;split at e;split at e;split at e;rename_i l o hn;split at e;generalize hk:killI st.hp _ _=kk at e;cases kk with
  |none=>cases e
  |some h2=>exact hfin _ _ e (CZ hk ha)
  obtain⟨b,hb⟩:=OA e;split at hb;rename_i st1 h1;exact FI hf hfin n _ _ _ hb (hf _ _ _ h1 (bO ha));rename_i x st1 _ h1;have h3:=hf _ _ _ h1 (bO ha);generalize hk:killI st1.hp _ _=kk at hb;cases kk with
  |none=>cases hb
  |some h2=>exact hfin _ _ hb (CZ hk h3)
  cases hb;cases e;cases e;cases e
theorem vN{kb:Nat}:∀{l:List Nat}{h:Hp},cM h=true->cM (AN kb l h)=true
 |[],h,ha=>ha
 |s::r,h,ha=>by rw[AN];refine vN ?_;split;exact bO ha;exact ha
theorem RX{env:List AV}{k e:Nat}{h:Hp}{ex:Ex}{st:St}(he:AM env k e h=some (ex,st))(ha:cM h=true):cM st.hp=true:=by unfold AM at he;split at he;split at he;split at he;cases he;exact bO ha;cases he;exact bO ha;cases he;exact bO ha;cases he;cases he;cases he
theorem eP{gl:Nat->Option AV}{call:aW}{kb n:Nat}(hc:OD call):∀c:C,X5 (bE gl call kb n c)
 |.skip=>λst ex st' e ha=>by rw[bE]at e;cases e;exact ha
 |.reg rs false=>λst ex st' e ha=>by
  rw[bE]at e;cases h1:mT gl call kb rs st with
  |none=>rw[h1]at e;cases e
  |some s=>rw[h1]at e;cases e;exact IH hc h1 ha
 |.reg rs true=>λst ex st' e ha=>by rw[bE]at e;split at e;rename_i s es h1;split at e;cases e;exact CD hc h1 ha;cases e;cases e
 |.seq a b=>λst ex st' e ha=>by rw[bE]at e;split at e;rename_i st1 h1;exact eP hc b _ _ _ e (eP hc a _ _ _ h1 ha);exact eP hc a _ _ _ e ha
 |.cond c a b=>λst ex st' e ha=>by rw[bE]at e;split at e;exact eP hc a _ _ _ e ha;exact eP hc b _ _ _ e ha;cases e
 |.block id b=>λst ex st' e ha=>by
  rw[bE]at e;split at e;rename_i h1;have h2:=eP hc b _ _ _ h1 ha;split at e<;>(cases e;exact h2)
  exact eP hc b _ _ _ e ha
 |.loop b clr=>λst ex st' e ha=>by rw[bE]at e;exact CU (eP hc b) n _ _ _ e ha
 |.exit id=>λst ex st' e ha=>by rw[bE]at e;cases e;exact ha
 |.ret=>λst ex st' e ha=>by rw[bE]at e;cases e;exact ha
 |.rf x s ps a b=>λst ex st' e ha=>by rw[bE]at e;split at e;split at e;rename_i h1;exact RX e (hc.1 _ _ _ _ _ _ h1 (bO ha));cases e;cases e
 |.mr it nx more out b clr=>λst ex st' e ha=>by rw[bE]at e;exact FI (eP hc b) (λo r h1 h2=>by cases h1;exact h2) n _ _ _ e ha
 |.mq p id it nx more out b clr rest msk drop=>λst ex st' e ha=>by
  rw[bE]at e;split at e;rename_i st1 h1;refine FI (eP hc b) ?_ n _ _ _ e (eP hc p _ _ _ h1 ha);intro o r h2 h3;split at h2;cases h4:bE gl call kb n rest o.2 with
  |none=>rw[h4]at h2;cases h2
  |some q=>rw[h4]at h2;cases h2;exact vN (eP hc rest _ _ _ h4 h3)
  cases h2;exact vN h3;exact eP hc p _ _ _ e ha
 |.bad=>λst ex st' e ha=>by rw[bE]at e;cases e
theorem D8{pg:Pg}(hx:∀f g,pg.ex f=some g->∀args kb h r h',g args kb h=some (r,h')->cM h=true->cM h'=true):∀n,OD (aX pg n)
 |0=>⟨λ_ _ _ _ _ _ e=>(by cases e),λ_ _ _ _ _ _ e=>(by cases e)⟩
 |n+1=>by
  have ih:=D8 hx n;refine⟨λf vs kb h r h' e ha=>?_,λk e args h r h' he ha=>?_⟩;simp only[aX]at e;split at e;split at e;rename_i h1;exact hx _ _ h1 _ _ _ _ _ e ha;cases e;split at e;cases e;rename_i ex st hne h1;have h2:=eP ih _ _ _ _ h1 ha;generalize h3:result st _=kk at e;cases kk with
  |none=>cases e
  |some v=>cases e;exact h2
  cases e;simp only[aX,pQ]at he;split at he;split at he;split at he;rename_i st1 h1;have h2:=eP ih _ _ _ _ h1 ha;split at he;split at he;split at he;rename_i h3;have h4:=eP ih _ _ _ _ h3 (bO h2);split at he;split at he;cases he;exact bO h4;cases he;cases he;cases he;cases he;cases he;cases he;cases he;cases he
theorem tE.asc{pg:Pg}(hx:∀f g,pg.ex f=some g->∀args kb h r h',g args kb h=some (r,h')->cM h=true->cM h'=true){f kb:Nat}{vs:List AV}{h h':Hp}{r:AV}(e:tE pg f vs kb h r h')(ha:cM h=true):cM h'=true:=by obtain⟨n,e⟩:=e;exact(D8 hx n).1 _ _ _ _ _ _ e ha
end
section
instance (env:List Val):Decidable (lR env):=inferInstanceAs (Decidable (List.Nodup _))
def AscX(pg:Pg):Prop:=∀f g,pg.ex f=some g->∀args kb h r h',g args kb h=some (r,h')->cM h=true->cM h'=true
section
variable{pg:Pg}{kb:Nat}
theorem OB(hx:AscX pg){f s:Nat}{th im:Bool}{h:Hp}{vs:List AV}{P:AV->Hp->Prop}{Q:AV->Eff->Prop}{t:Tok Q}(hm:im=true\/mapS (snap depth h) vs=none){B:Nat}(hB:gX kb s vs=B)(ha:cM h=true)(hr:fD pg f vs B h P)
  (hq:∀r h',P r h'->cM h'=true->Q r (.whole h')):XO pg kb (.call f th im) s h vs Q t:=by
 obtain⟨r,h',h1,h2⟩:=hr;exact LM hm hB h1 (hq r h' h2 (h1.asc hx ha))
theorem XL{f s:Nat}{h:Hp}{vs:List AV}{P:AV->Hp->Prop}{Q:AV->Eff->Prop}{t:Tok Q}{B:Nat}(hB:gX kb s vs=B)(hr:fD pg f vs B h (λr h'=>P r h'/\cM h'=true/\∀q,h.get q≠none->h'.get q≠none))
  (hq:∀r h' pa,P r h'->(∀q,(aM h pa).get q=h'.get q)->(∀q,h'.get q=h.get q->q ∉ pa.map (·.k))->Q r (.all pa)):XO pg kb (.callr f) s h vs Q t:=by
 obtain⟨r,h',⟨n,e⟩,hp,hn,hk⟩:=hr;subst hB;have hn':=BH hn;refine⟨n,r,.all (chg h h'),?_,hq r h' _ hp (PW hn' hk) (λq he=>ZM hn' he)⟩;simp only[opR,jK,e]
 have hall:((h++h').all λx=>qD ((aM h (chg h h')).get x.k) (h'.get x.k))=true:=by rw[eK];intro x _;rw[PW hn' hk];exact AL _
 unfold chg at hall ⊢;rw[if_pos hall]
end
section
variable{pg:Pg}
theorem El.names(l:List Val):∀x∈l.map (λv:Val=>AV.str v.v.bs),El 1 false x:=by intro x hx;simp only[List.mem_map]at hx;obtain⟨y,_,rfl⟩:=hx;exact El.str _
end
end
section
section
variable{pg:Pg}
theorem z7{d:List Val}{x:Val}{r:List Val}(h:cJ (d.map (·.v)) x.v.bs=true):¬lR (d++x::r):=by intro hde;simp only[cJ,List.any_eq_true,List.mem_map,cK]at h;obtain⟨s,⟨y,hy,rfl⟩,hs⟩:=h;simp only[lR,List.map_append,List.map_cons,List.nodup_append,List.mem_cons,List.mem_map]at hde;exact hde.2.2 _ ⟨y,hy,rfl⟩ _ (.inl rfl) hs.symm
theorem z6{d:List Val}{x:Val}(hd:lR d)(h:cJ (d.map (·.v)) x.v.bs=false):lR (d++[x]):=by
 simp only[lR,List.map_append,List.map_cons,List.map_nil,List.nodup_append,List.nodup_cons,List.mem_map];refine⟨hd,by simp,?_⟩;rintro a ⟨y,hy,rfl⟩ b hb e;simp only[List.mem_singleton]at hb;have h2:cJ (d.map (·.v)) x.v.bs=true:=by simp only[cJ,List.any_eq_true,List.mem_map,cK];exact⟨y.v,⟨y,hy,rfl⟩,(e.trans hb).symm⟩
 rw[h]at h2;cases h2
end
end
section
section
variable{pg:Pg}
end
end
section
section
variable{pg:Pg}
end
end
section
section
variable{pg:Pg}
theorem c568(hf:pg.fs 568=some KG)(nl cl:Bool)(ls:List Lin)(hb:ls.length<=big):bV pg 568 [.sl nl (ls.map Lin.av) cl] IsB:=by
 refine bV.ofX hf ?_;unfold KG;refine Wk ?_;refine aQ ls (λd r env hp=>env=rJ (.sl nl (ls.map Lin.av) cl) (.int .i64 d.length)) ?_ ?_ ?_;rfl;rintro env hp rfl;simp only[rH,rJ,bK,go_sem,seval];rintro d x r env hp hes rfl;obtain⟨hget,e1,e2,ew⟩:=eD hes hb;have hlb:=x.ts.ok;cases b1:decide (6<(x.ts.es.length:Int))
 case true=>simp only[rH,rJ,e1,e2,hget,b1,go_sem,seval]
 cases b2:decide (x.c < -100)
 case true=>simp only[rH,rJ,e1,e2,hget,b1,b2,go_sem,seval]
 cases b3:decide (100<x.c)
 case true=>simp only[rH,rJ,e1,e2,hget,b1,b2,b3,go_sem,seval]
 simp only[rH,rJ,e1,e2,hget,b1,b2,b3,go_sem,seval];refine aQ x.ts.es (λd2 r2 env hp=>env=rK (.sl nl (ls.map Lin.av) cl) (.int .i64 d.length) (.int .i64 d2.length)) ?_ ?_ ?_;rfl;rintro env hp rfl;simp only[rI,rK,bK,hget,e1,e2,ew,go_sem,seval];rfl;rintro d2 y r2 env hp he2 rfl;obtain⟨hget2,f1,f2,fw⟩:=eD he2 hlb;cases b4:decide (y.c < -100)
 case true=>simp only[rI,rK,e1,e2,hget,hget2,f1,f2,b4,go_sem,seval]
 cases b5:decide (100<y.c)
 case true=>simp only[rI,rK,e1,e2,hget,hget2,f1,f2,b4,b5,go_sem,seval]
 cases b6:decide (35<(y.v.bs.length:Int))
 case true=>simp only[rI,rK,e1,e2,hget,hget2,f1,f2,b4,b5,b6,go_sem,seval]
 simp only[rI,rK,e1,e2,hget,hget2,f1,f2,b4,b5,b6,fw,go_sem,seval];rfl
theorem c569(hf:pg.fs 569=some KF)(h568:∀(nl cl:Bool) (ls:List Lin),ls.length<=big->bV pg 568 [.sl nl (ls.map Lin.av) cl] IsB)(h25:∀p:aA,p.ok->Ret pg 25 [p.av] (.bool (PA p))) :
  ∀p:aA,p.ok->bV pg 569 [p.av] IsB:=by
 refine aA.ind' λp ih hp=>?_;obtain⟨hb,hk⟩:=(aA.ok_iff p).1 hp;obtain⟨r1,a1,b1,rfl⟩:=h568 p.at_.nl p.at_.cl p.at_.es p.at_.ok;have a2:=h25 p hp;rw[aA.avc]at a2;refine bV.ofX hf ?_;unfold KF;refine Wk ?_;refine aQ p.kids (λd r env hp=>env=GS (.pt 1 0 0) (.int .i64 d.length)/\hp.get 1=some (0,.blk (pU p p.kids) 9 true true false)) ?_ ?_ ?_;exact⟨rfl,rfl⟩;rintro env hp ⟨rfl,h1⟩;simp only[pU]at h1;simp only[GR,GS,bK,h1,go_sem,seval];refine aC a1 ?_;cases b1;simp only[go_sem,seval];simp only[h1,go_sem,seval];refine aC a2 ?_;simp only[go_sem,seval];rintro d x r env hp hes ⟨rfl,h1⟩;have h0:=h1;simp only[pU]at h1;obtain⟨r3,a3,b3,rfl⟩:=ih x (by rw[hes];simp) (hk x (by rw[hes];simp));obtain⟨hget,e1,e2,ew⟩:=eD hes hb;simp only[GR,GS,e1,e2,hget,h1,go_sem,seval];refine aC (a3) ?_;cases b3;simp only[go_sem,seval];simp only[ew,go_sem,seval];exact⟨rfl,h0⟩
theorem c556(hf:pg.fs 556=some KM)(h568:∀(nl cl:Bool) (ls:List Lin),ls.length<=big->bV pg 568 [.sl nl (ls.map Lin.av) cl] IsB)(h569:∀p:aA,p.ok->bV pg 569 [p.av] IsB)
  (n:aZ) (hbo:n.body.ok) (hio:n.index.ok):bV pg 556 [n.av] IsB:=by
 obtain⟨r1,a1,b1,rfl⟩:=h568 n.at_.nl n.at_.cl n.at_.es n.at_.ok;obtain⟨r2,a2,b2,rfl⟩:=h569 n.index hio;obtain⟨r3,a3,b3,rfl⟩:=h569 n.body hbo;rw[aA.avc]at a2 a3;have lb:=n.loops.ok;refine bV.ofX hf ?_;unfold KM;refine Wk ?_;refine aQ n.loops.es (λd r env hp=>env=uM (.pt 1 0 0) (.int .i64 d.length)/\hp.get 1=some (0,.blk n.cells 23 true true false)) ?_ ?_ ?_;exact⟨rfl,rfl⟩;rintro env hp ⟨rfl,h1⟩;simp only[aZ.cells,aA.cells,Sl.av,aA.kav,List.cons_append,List.nil_append]at h1;cases b4:decide ((n.loops.es.length:Int)<=5)
 case false=>simp only[uL,uM,bK,h1,b4,go_sem,seval]
 simp only[uL,uM,bK,h1,b4,go_sem,seval];refine aC a1 ?_;cases b1;simp only[go_sem,seval];simp only[h1,go_sem,seval];refine aC a2 ?_;cases b2;simp only[go_sem,seval];simp only[h1,go_sem,seval];refine aC a3 ?_;simp only[go_sem,seval];rintro d x r env hp hes ⟨rfl,h1⟩;have h0:=h1;simp only[aZ.cells,aA.cells,Sl.av,aA.kav,List.cons_append,List.nil_append]at h1;obtain⟨r4,a4,b4,rfl⟩:=h568 x.hi.nl x.hi.cl x.hi.es x.hi.ok;obtain⟨r5,a5,b5,rfl⟩:=h568 false true [x.lo] (by simp[big]);simp only[List.map_cons,List.map_nil,Lin.avc]at a5;obtain⟨hget,e1,e2,ew⟩:=eD hes lb;cases b6:decide (35<(x.v.bs.length:Int))
 case true=>simp only[uL,uM,e1,e2,hget,h1,b6,go_sem,seval]
 simp only[uL,uM,e1,e2,hget,h1,b6,go_sem,seval];refine aC (a4) ?_;cases b4;simp only[go_sem,seval];simp only[h1,e2,hget,go_sem,seval];refine aC (a5) ?_;cases b5;simp only[go_sem,seval];simp only[ew,go_sem,seval];exact⟨rfl,h0⟩
end
end
section
section
variable{pg:Pg}
end
end
section
section
variable{pg:Pg}
end
end
section
section
variable{pg:Pg}
end
end
section
section
variable{pg:Pg}
theorem c53(hf:pg.fs 53=some NG)(c:aR)(v:Val):Ret pg 53 [v.av,.fp c.av] (.bool (decide (v.v.bs=c.v.bs))):=by refine Ret.ofX hf ?_;unfold NG;simp only[go_sem,seval]
end
end
end Go.Tev
