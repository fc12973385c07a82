import Derived.Test.YtilkdbbkkcnocaaGreatDoorSBD
import Derived.Test.YtilkdbbkkcnocaaGreatDoorSBL
import Derived.Test.YtilkdbbkkcnocaaGreatDoorSBG
import Derived.Test.YtilkdbbkkcnocaaGreatDoorSAI
import Derived.Test.YtilkdbbkkcnocaaGreatDoorSAM
import Derived.Test.YtilkdbbkkcnocaaGreatDoorSBJ
set_option linter.all false
namespace Go.Tev
section
section
variable{pg:Pg}{kb:Nat}
def aKB(pg:Pg)(kb id:Nat)(rest:C)(msk:List Bool)(drop:List Nat)(n:Nat)(o:Ex×St):Option (Ex×St):=
 (match kY id o.1 with|.nor=>bE pg.gl (aX pg n) kb n rest o.2|x=>some (x,o.2)).map (wL kb msk drop)
def SV(pg:Pg)(kb id:Nat)(rest:C)(msk:List Bool)(drop:List Nat)(R:Ex×St)(k e:Nat)(x:Ex)(st:St):Prop:=
 ∃h',killI st.hp k e=some h' /\
  match kY id x with
  |.nor=>WX pg kb rest ⟨st.env,h'⟩ (λy s=>wL kb msk drop (y,s)=R)
  |y=>wL kb msk drop (y,⟨st.env,h'⟩)=R
theorem SV.fin{id:Nat}{rest:C}{msk:List Bool}{drop:List Nat}{R:Ex×St}{k e:Nat}{x:Ex}{st:St}(h:SV pg kb id rest msk drop R k e x st) :
  ∃n,(killI st.hp k e).bind (λh=>aKB pg kb id rest msk drop n (x,⟨st.env,h⟩))=some R:=by
 obtain⟨h',h1,h2⟩:=h;rw[h1];simp only[Option.bind_some,aKB];generalize kY id x=b at h2;cases b with
 |nor=>obtain⟨n,y,s,h3,h4⟩:=h2;exact⟨n,by simp only[h3,Option.map_some,h4]⟩
 |ext i=>exact⟨0,by simp only[Option.map_some];exact congrArg some h2⟩
 |ret=>exact⟨0,by simp only[Option.map_some];exact congrArg some h2⟩
theorem SV.nor{id:Nat}{rest:C}{msk:List Bool}{drop:List Nat}{R:Ex×St}{k e:Nat}{st:St}{h':Hp}(h1:killI st.hp k e=some h')(h2:XX pg kb rest ⟨st.env,h'⟩ (λy s=>wL kb msk drop (y,s)=R) ⟨⟩) :
  SV pg kb id rest msk drop R k e (.ext id) st:=by
 refine⟨h',h1,?_⟩;have:kY id (.ext id) = .nor:=by simp[kY]
 rw[this];exact h2
theorem SV.ret{id:Nat}{rest:C}{msk:List Bool}{drop:List Nat}{R:Ex×St}{k e:Nat}{st:St}{h':Hp}(h1:killI st.hp k e=some h')(h2:wL kb msk drop (.ret,⟨st.env,h'⟩)=R) :
  SV pg kb id rest msk drop R k e .ret st:=⟨h',h1,h2⟩
theorem XM{f s:Nat}{h:Hp}{vs:List AV}{Q:AV->Eff->Prop}{t:Tok Q}{r:AV}{h0:Hp}(ht:treeL vs=true)(hr:tE pg f vs ((kb+s+1)*65536) [] r h0)(hn:gL h0=true)(hd:∀x∈h0,h.get x.k=none)
  (hq:Q r (.pat (h0.map (·.k)) h0)):XO pg kb (.calle f) s h vs Q t:=by
 obtain⟨n,e⟩:=hr;refine⟨n,r,_,?_,hq⟩
 have hall:(h0.all λx=>(h.get x.k).isNone)=true:=by rw[eK];intro x hx;rw[hd x hx];rfl
 simp only[opR,kG,if_pos ht,mS,e,hn,hall,Bool.and_self,if_true]
theorem aHF(s:Nat)(h:Hp)(vs:List AV)(Q:AV->Eff->Prop)(t:Tok Q):XO pg kb .rng s h vs Q t=XV (PD h (kb+s) vs) Q ⟨⟩:=cG rfl s h vs Q
theorem aHW(s:Nat)(h:Hp)(vs:List AV)(Q:AV->Eff->Prop)(t:Tok Q):XO pg kb .ent s h vs Q t=XV (VB h vs) Q ⟨⟩:=cG rfl s h vs Q
end
attribute [go_sem] aHF aHW PD
end
section
theorem aQI(k:Nat):(k=k+4)=False:=eq_false (by omega)
theorem aKg(k:Nat):(k+4=k)=False:=eq_false (by omega)
theorem aQH(k:Nat):(k=k+8)=False:=eq_false (by omega)
theorem aKc(k:Nat):(k+8=k)=False:=eq_false (by omega)
theorem aKn(k:Nat):(k=k+12)=False:=eq_false (by omega)
theorem aGD(k:Nat):(k+12=k)=False:=eq_false (by omega)
theorem aKm(k:Nat):(k=k+16)=False:=eq_false (by omega)
theorem aGC(k:Nat):(k+16=k)=False:=eq_false (by omega)
theorem aKl(k:Nat):(k=k+20)=False:=eq_false (by omega)
theorem aGB(k:Nat):(k+20=k)=False:=eq_false (by omega)
theorem aKk(k:Nat):(k=k+24)=False:=eq_false (by omega)
theorem aGA(k:Nat):(k+24=k)=False:=eq_false (by omega)
theorem aKj(k:Nat):(k=k+28)=False:=eq_false (by omega)
theorem aGz(k:Nat):(k+28=k)=False:=eq_false (by omega)
theorem aKi(k:Nat):(k=k+32)=False:=eq_false (by omega)
theorem aGy(k:Nat):(k+32=k)=False:=eq_false (by omega)
theorem aKh(k:Nat):(k=k+36)=False:=eq_false (by omega)
theorem aGx(k:Nat):(k+36=k)=False:=eq_false (by omega)
theorem aKf(k:Nat):(k=k+40)=False:=eq_false (by omega)
theorem aGw(k:Nat):(k+40=k)=False:=eq_false (by omega)
theorem aKe(k:Nat):(k=k+44)=False:=eq_false (by omega)
theorem aGv(k:Nat):(k+44=k)=False:=eq_false (by omega)
theorem aKd(k:Nat):(k=k+48)=False:=eq_false (by omega)
theorem aGu(k:Nat):(k+48=k)=False:=eq_false (by omega)
attribute [go_sem] aQI aKg aQH aKc aKn aGD aKm aGC aKl aGB aKk aGA aKj aGz aKi aGy aKh aGx aKf aGw aKe aGv aKd aGu
def aKG(wk:Int):Ob:=.blk [.mp 1179649 0,.int .i64 wk,.int .i64 0] 3 true true false
def LY(l:List qL):List (AV×AV):=l.map λr=>(.str r.op,.bool true)
private theorem eq1s(a b:List UInt8):eq1 (.str a) (.str b)=some (decide (a=b)):=rfl
theorem FO(s:List UInt8):∀l:List qL,fX (LY l) (.str s)=some ((l.find? λr=>decide (r.op=s)).map λ_=>AV.bool true)
 |[]=>rfl
 |x::r=>by have ih:=FO s r;simp only[LY,List.map_cons,fX,eq1s]at ih ⊢;by_cases h:x.op=s;subst h;simp;have h':¬s=x.op:=λe=>h e.symm;simp only[List.find?_cons,h,h',decide_false];rw[<-ih]
def Ct(wk:Int)(h:Hp):Prop:=∃bs ck,h.get 1179653=some (0,aKG wk)/\h.get 1179649=some (0,.mpo (LY fJ) bs ck)
theorem Ct.nosnap{wk:Int}{h:Hp}(o:Ct wk h)(r:List AV):mapS (Tev.snap depth h) (.pt 1179653 0 0::r)=none:=by
 obtain⟨bs,ck,a1,a2⟩:=o;have h1:Tev.snap 63 h (.mp 1179649 0)=none:=by show Tev.snap (62+1) h _=_;unfold Tev.snap;simp[AV.tree]
 have:Tev.snap depth h (.pt 1179653 0 0)=none:=by show Tev.snap (63+1) h _=_;unfold Tev.snap;simp[AV.tree,a1,aKG,bG,h1]
 rw[bG,this]
def cH(h h':Hp)(kb:Nat):Prop:=(∀q,q<kb->q≠1179653->h'.get q=h.get q)/\∀q,h.get q≠none->h'.get q≠none
theorem cH.refl(h:Hp)(kb:Nat):cH h h kb:=⟨λ_ _ _=>rfl,λ_ h=>h⟩
theorem cH.trans{h h' h'':Hp}{kb kb':Nat}(a:cH h h' kb)(b:cH h' h'' kb')(hk:kb<=kb'):cH h h'' kb:=
 ⟨λq h1 h2=>(b.1 q (by omega) h2).trans (a.1 q h1 h2),λq hq=>b.2 q (a.2 q hq)⟩
theorem tZ{h hp:Hp}(k e:Nat)(o:Ob)(hk:∀q,h.get q≠none->hp.get q≠none):∀q,h.get q≠none->(hp.put k e o).get q≠none:=λq hq=>by rw[aB];split;exact Option.some_ne_none _;exact hk q hq
theorem cH.put{h h':Hp}{kb k e:Nat}{o:Ob}(a:cH h h' kb)(hk:kb<=k\/k=1179653):cH h (h'.put k e o) kb:=
 ⟨λq h1 h2=>by rw[aB,if_neg (by omega)];exact a.1 q h1 h2,tZ k e o a.2⟩
theorem Ct.mono{wk:Int}{h h':Hp}(o:Ct wk h)(h1:h'.get 1179653=h.get 1179653)(h2:h'.get 1179649=h.get 1179649):Ct wk h':=by obtain⟨bs,ck,a1,a2⟩:=o;exact⟨bs,ck,h1.trans a1,h2.trans a2⟩
section
variable{pg:Pg}
theorem nG{kb:Nat}(hx:AscX pg){f s:Nat}{h:Hp}{vs:List AV}{P:AV->Hp->Prop}{Q:AV->Eff->Prop}{t:Tok Q}{B:Nat}(hB:gX kb s vs=B)(ha:cM h=true)(hr:fD pg f vs B h P)(hk:∀r h',P r h'->∀q,h.get q≠none->h'.get q≠none)
  (hq:∀r h' pa,P r h'->cM (aM h pa)=true->(∀q,(aM h pa).get q=h'.get q)->(∀q,h'.get q=h.get q->∀x∈pa,¬x.k=q)->Q r (.all pa)):XO pg kb (.callr f) s h vs Q t:=by
 obtain⟨r,h',h1,h2⟩:=hr;refine XL (P:=P) hB ⟨r,h',h1,h2,h1.asc hx ha,hk r h' h2⟩ ?_;intro r h' pa hp hg hn;refine hq r h' pa hp (iG ha) hg (λq hq=>?_);intro x hx e;exact hn q hq (e ▸ List.mem_map_of_mem hx)
end
end
section
theorem BG(kb s a b c:Nat)(q:aA)(nl cl:Bool)(es:List AV):gX kb s [.pt a b c,q.av,.sl nl es cl]=(kb+s+1)*65536:=by rw[aA.avc];rfl
theorem aFa(kb s a b c:Nat)(q:Lin)(nl cl:Bool)(es:List AV):gX kb s [.pt a b c,q.av,.sl nl es cl]=(kb+s+1)*65536:=by rw[Lin.avc];rfl
theorem cH.of_get{h h' H:Hp}{kb:Nat}(q:cH h h' kb)(hg:∀q,H.get q=h'.get q):cH h H kb:=⟨λx a b=>(hg x).trans (q.1 _ a b),λa hq=>by rw[hg];exact q.2 a hq⟩
theorem Ct.of_get{wk:Int}{h' H:Hp}(q:Ct wk h')(hg:∀q,H.get q=h'.get q):Ct wk H:=q.mono (hg _) (hg _)
theorem O5:∀(l:List Ent)(h:Hp)(q:Nat),h.get q≠none->(aM h l).get q≠none
 |[],_,_,hq=>hq
 |x::r,h,q,hq=>O5 r _ q (tZ x.k x.e x.o (λ_ h=>h) q hq)
theorem OG(env:List Val):((env.map Val.av).all λv=>v.cells.length==2)=true:=by simp only[List.all_map,eK];intro x _;rfl
section
variable{pg:Pg}{kb:Nat}
theorem aIw(h:Hp)(env:List Val)(nl cl:Bool):oZ h 2 false true true [.sl nl (env.map Val.av) cl,.int .i64 env.length,.int .i64 env.length]=some (.sl nl (env.map Val.av) true,.pat [] []):=by
 have hv:=OG env;have hl:(env.map Val.av).length=env.length:=by simp
 simp only[oZ,jG,if_true,Bool.false_eq_true,if_false,kQ,Option.getD_none,Option.getD_some,Option.isSome_some,hl];rw[if_pos ⟨by omega,by omega,by omega,by omega,hv⟩];simp only[val,Int.toNat_zero,List.drop_zero,Int.toNat_natCast,Nat.sub_zero,beq_self_eq_true];rw[List.take_of_length_le (by simp)]
theorem QE{s:Nat}{h:Hp}{env:List Val}{v:Val}{nl b c:Bool}{Q:AV->Eff->Prop}{t:Tok Q}(hb:env.length+1<=1073741824)
  (q:∀cs,aP 2 true ((env++[v]).map Val.av)=some cs->Q (.rf (kb+s) (h.next (kb+s)) 0 (env.length+1) (env.length+1)) (.pat [kb+s] [⟨kb+s,h.next (kb+s),.blk cs 2 true false false⟩])) :
  XO pg kb (.app 2 true 24) s h [.sl nl (env.map Val.av) true,.sl b [v.av] c] Q t:=by
 rw[qK];obtain⟨ds,d1,d2,d3,d4⟩:=bU (El.vals env);obtain⟨es,e1,e2,e3,e4⟩:=bU (El.vals [v]);have hl:(env.map Val.av).length=env.length:=by simp
 have e1':aP 2 true [v.av]=some es:=e1;have h24:decide (24<=65536)=true:=rfl;have q':=q (ds++es) (by rw[List.map_append];exact eV d1 e1);simp only[o7,bM,e1',Option.map_some,List.length_cons,List.length_nil,lG,hl,Bool.or_true,hb,decide_true,h24,Bool.and_self,if_true,d1];exact q'
end
section
variable{pg:Pg}
end
end
section
structure WkH(lp:AV)(ey ec et ew:Nat)(c t:Int)(h:Hp):Prop where
 y:h.get 2228225=some (ey,.blk [.yl 33 0] 1 false true false)
 c:h.get 2228229=some (ec,.blk [.int .i64 c] 1 false true false)
 t:h.get 2228233=some (et,.blk [.int .i64 t] 1 false true false)
 w:h.get 2228237=some (ew,.blk [.fn 603 [lp,.pt 2228229 ec 0,.pt 2228225 ey 0,.pt 2228233 et 0,.pt 2228237 ew 0]] 1 false true false)
theorem WkH.mono{lp:AV}{ey ec et ew:Nat}{c t:Int}{h h':Hp}(o:WkH lp ey ec et ew c t h)(hk:∀q,2228224<=q->q<2228240->h'.get q=h.get q):WkH lp ey ec et ew c t h':=
 ⟨(hk _ (by decide) (by decide)).trans o.y,(hk _ (by decide) (by decide)).trans o.c,(hk _ (by decide) (by decide)).trans o.t,(hk _ (by decide) (by decide)).trans o.w⟩
def kJ(h:Hp)(v:AV)(env:List Val)(kb:Nat):Prop:=
 (∃nl cl,v = .sl nl (env.map Val.av) cl)\/(∃k e cs fz,v = .rf k e 0 env.length env.length/\2228240<=k/\k<kb/\h.get k=some (e,.blk cs 2 true false fz)/\aP 2 true (env.map Val.av)=some cs)
def UR:AV->Nat
 |.rf k _ _ _ _=>k
 |_=>0
theorem kJ.snap{h:Hp}{v:AV}{env:List Val}{kb:Nat}(o:kJ h v env kb):∃nl cl keys,Tev.snap depth h v=some (.sl nl (env.map Val.av) cl,keys)/\(∀q∈keys,q=UR v/\2228240<=q/\q<kb):=by
 rcases o with ⟨nl,cl,rfl⟩|⟨k,e,cs,fz,rfl,h1,h2,hg,hu⟩
 refine⟨nl,cl,[],?_,by simp⟩;show Tev.snap (63+1) h _=_;rw[fR,if_pos (by simp only[AV.tree];exact Val.treeL_av env)];obtain⟨cs',h3,h4,h5,h6⟩:=bU (El.vals env);rw[hu]at h3;cases h3;have h7:=h6 [];rw[List.append_nil,cP]at h7;refine⟨false,false,[k],?_,by intro q hq;simp at hq;subst hq;exact⟨rfl,h1,h2⟩⟩;show Tev.snap (62+2) h _=_;have h8:mapS (Tev.snap 63 h) (env.map Val.av)=some (env.map Val.av,[]):=dA 62 h (Val.treeL_av env);rw[fR];simp[hg,h7,h8,AV.tree]
theorem kJ.mono{h h':Hp}{v:AV}{env:List Val}{kb:Nat}(o:kJ h v env kb)(hk:∀q,2228240<=q->q<kb->h'.get q=h.get q):kJ h' v env kb:=by
 rcases o with o|⟨k,e,cs,fz,rfl,h1,h2,hg,hu⟩
 exact .inl o;exact .inr ⟨k,e,cs,fz,rfl,h1,h2,(hk k h1 h2).trans hg,hu⟩
theorem kJ.frz{h:Hp}{v:AV}{env:List Val}{kb:Nat}(o:kJ h v env kb)(keys:List Nat):kJ (Eff.app h (.pat keys (aI h keys))) v env kb:=by
 rcases o with o|⟨k,e,cs,fz,rfl,h1,h2,hg,hu⟩
 exact .inl o
 suffices hh:∃fz',(aM h (aI h keys)).get k=some (e,.blk cs 2 true false fz') by obtain⟨fz',hh⟩:=hh;exact .inr ⟨k,e,cs,fz',rfl,h1,h2,hh,hu⟩
 clear hu h1 h2
 induction keys generalizing h fz with
 |nil=>exact⟨fz,hg⟩
 |cons a r ih=>simp only[aI];split;rename_i e' cs' esz' ag' ti' ha;simp only[aM];by_cases hka:a=k;subst hka;rw[hg]at ha;cases ha;exact ih (fz:=true) (by rw[aB,if_pos rfl]);exact ih (fz:=fz) (by rw[aB,if_neg hka];exact hg);exact ih (fz:=fz) hg
theorem kJ.len{h:Hp}{v:AV}{env:List Val}{kb:Nat}(o:kJ h v env kb)(hh:Hp):oC hh 1 [v]=some (.int .i64 env.length,.pat [] []):=by
 rcases o with ⟨nl,cl,rfl⟩|⟨k,e,cs,fz,rfl,h1,h2,hg,hu⟩
 simp[oC,val];simp[oC,val]
theorem jQ(l:List Nat):nQ [] l=true:=rfl
theorem jR(l:List Nat):nQ l []=true:=by induction l<;>simp[nQ]
theorem VQ{h:Hp}{keys:List Nat}{a:Nat}(hk:∀q∈keys,q≠a):nQ ((aI h keys).map (·.k)) [a]=true:=by simp only[nQ,List.all_map,eK];intro x hx;have:=hk _ (kB keys h x hx);simp[this]
theorem R1{h:Hp}{keys:List Nat}{a:Nat}(hk:∀q∈keys,q≠a):nQ [a] ((aI h keys).map (·.k))=true:=by simp only[nQ,List.all_cons,List.all_nil,Bool.and_true,fY,List.contains_eq_mem,nH,List.mem_map,not_exists,not_and];intro x hx he;exact hk _ (kB keys h x hx) he
def EI(h h':Hp)(kb:Nat)(v:AV):Prop:=∀q,2228240<=q->q<kb->q≠UR v->h'.get q=h.get q
theorem aLH(kb:Nat)(n:Int)(k e a b:Nat)(x y z u w:AV)(hx:∀k e a b c,x ≠ .rf k e a b c)(hy:∀k e a b c,y ≠ .rf k e a b c)(hz:∀k e a b c,z ≠ .rf k e a b c)(hu:∀k e a b c,u ≠ .rf k e a b c)(hw:∀k e a b c,w ≠ .rf k e a b c)
  (hk:k<(kb+25+1)*65536):gX kb 25 [.int .i64 n,.rf k e 0 a b,x,y,z,u,w]=(kb+25+1)*65536:=by
 unfold gX;refine if_neg ?_
 have nf:∀v:AV,(∀k e a b c,v ≠ .rf k e a b c)->(match v with|.rf k _ _ _ _=>decide ((kb+25+1)*65536<=k)&&decide (k<(kb+25+1)*65536+32768)|_=>false)=false:=by intro v hv;cases v<;>first|rfl|exact absurd rfl (hv _ _ _ _ _)
 simp only[List.any_cons,List.any_nil,nf x hx,nf y hy,nf z hz,nf u hu,nf w hw,Bool.or_false,Bool.false_or];simp;omega
section
variable{pg:Pg}
structure XD(pg:Pg)(ol:Nat)(J:List (List Val)->Hp->Prop)(K:Int->Hp->Prop):Prop where
 some':∀ps env h nl cl,ps.length<=20000->ol<=env.length->env.length<=big->J ps h->RY pg 33 0 [.sl nl (env.map Val.av) cl,.int .i64 0] h (λv h'=>v = .bool true/\J (ps++[env]) h'/\∀q,2228224<=q->h'.get q=h.get q)
 none':∀ps e h,e≠0->J ps h->RY pg 33 0 [.sl true [] true,.int .i64 e] h (λv h'=>v = .bool false/\K e h'/\∀q,2228224<=q->h'.get q=h.get q)
 j:∀ps h h',(∀q,q<2228224->h'.get q=h.get q)->J ps h->J ps h'
 k:∀e h h',(∀q,q<2228224->h'.get q=h.get q)->K e h->K e h'
def aSj(lp:AV)(ey ec et ew:Nat)(J:List (List Val)->Hp->Prop)(K:Int->Hp->Prop)(s:Ws)(h:Hp)(kb:Nat)(v1 r:AV)(h':Hp):Prop:=
 EI h h' kb v1/\(if s.e=0 then r = .bool true/\J s.ps h'/\WkH lp ey ec et ew s.c s.t h' else r = .bool false/\K s.e h')
set_option maxRecDepth 100000 in
set_option maxHeartbeats 2000000 in
theorem c603(hf:pg.fs 603=some uK)(h604:∀(l:Loop) (nl cl:Bool) (env:List Val),env.length<=big->Ret pg 604 [l.av,.sl nl (env.map Val.av) cl] (rZ l env))
  (lnl lcl:Bool) (L:List Loop) (hL:L.length<=big) (ey ec et ew:Nat) (J:List (List Val)->Hp->Prop) (K:Int->Hp->Prop) (ol:Nat) (Y:XD pg ol J K) :
  ∀(r d:List Loop),L=d++r->∀(env:List Val)(v1:AV)(kb:Nat)(h:Hp)(s:Ws),env.length+r.length<=big->ol<=env.length->65536*2228242<=kb->kb % 65536=0->kJ h v1 env kb->s.e=0->0<=s.t->s.t<=240000->(s.ps.length:Int)<=s.c->s.c<=20000->J s.ps h->WkH (.fp (.sl lnl (L.map Loop.av) lcl)) ey ec et ew s.c s.t h ->
   fD pg 603 [.int .i64 d.length,v1,.fp (.sl lnl (L.map Loop.av) lcl),.pt 2228229 ec 0,.pt 2228225 ey 0,.pt 2228233 et 0,.pt 2228237 ew 0] kb h (aSj (.fp (.sl lnl (L.map Loop.av) lcl)) ey ec et ew J K (gG r env s) h kb v1)
 |[],d,hLd,env,v1,kb,h,s,hsz,hol,hkb,hkb2,hE,hs,ht0,ht1,hp0,hp1,hJ,hW=>by
  have hdl:d.length=L.length:=by rw[hLd];simp
  obtain⟨S,hS⟩:∃S,S=gG [] env s:=⟨_,rfl⟩
  rw[<-hS];rw[gG]at hS;obtain⟨C,hC⟩:∃C,C=wr .i64 (s.c+1):=⟨_,rfl⟩
  rw[<-hC]at hS;obtain⟨wy,wc,wt,ww⟩:=hW;refine fD.ofX hf ?_;unfold uK;have e0:decide ((d.length:Int)=(L.length:Int))=true:=by simp[hdl]
  obtain⟨H,hH⟩:∃H:Hp,H=h.put 2228229 ec (.blk [.int .i64 C] 1 false true false):=⟨_,rfl⟩
  have gy:H.get 2228225=some (ey,.blk [.yl 33 0] 1 false true false):=by rw[hH,aB,if_neg (by decide)];exact wy
  have gc:H.get 2228229=some (ec,.blk [.int .i64 C] 1 false true false):=by rw[hH,aB,if_pos rfl]
  have hJ2:J s.ps H:=Y.j _ _ _ (λq hq=>by rw[hH,aB,if_neg (by omega)]) hJ;have hK2:∀q,2228240<=q->H.get q=h.get q:=λq hq=>by rw[hH,aB,if_neg (by omega)]
  have hE2:kJ H v1 env kb:=hE.mono (λq a b=>hK2 q a);have hW2:WkH (.fp (.sl lnl (L.map Loop.av) lcl)) ey ec et ew C s.t H:=⟨gy,gc,by rw[hH,aB,if_neg (by decide)];exact wt,by rw[hH,aB,if_neg (by decide)];exact ww⟩
  cases b:decide (20000<C);rw[if_neg (aN b),hs]at hS;obtain⟨nl,cl,keys,hsn,hky⟩:=hE2.snap;simp only[e0,wc,<-hC,b,wy,go_sem,seval];rw[<-hH];refine BL hsn ?_;have hJf:J s.ps (Eff.app H (.pat keys (aI H keys))):=Y.j _ _ _ (λq hq=>fB (λhm=>by have:=(hky q hm).2.1;omega)) hJ2;have hKf:∀q,2228224<=q->q<kb->q≠UR v1->(Eff.app H (.pat keys (aI H keys))).get q=H.get q:=λq _ _ hc=>fB (λhm=>hc (hky q hm).1);have hWf:WkH (.fp (.sl lnl (L.map Loop.av) lcl)) ey ec et ew C s.t (Eff.app H (.pat keys (aI H keys))):=hW2.mono (λq a b=>fB (λhm=>by have:=(hky q hm).2.1;omega));generalize Eff.app H (.pat keys (aI H keys))=Hf at hJf hKf hWf ⊢;simp only[go_sem,seval];refine QC ?_;obtain⟨n,v,h',q1,rfl,q2,q3⟩:=Y.some' s.ps env Hf nl cl (by omega) hol (by simpa using hsz) hJf;refine⟨n,_,h',q1,?_⟩;simp only[go_sem,seval];rw[hS];refine⟨λq a b c=>(q3 q (by omega)).trans ((hKf q (by omega) b c).trans (hK2 q a)),?_⟩;rw[if_pos rfl];exact⟨rfl,q2,hWf.mono (λq a b=>q3 q a)⟩;rw[if_pos (aG b)]at hS;simp only[e0,wc,<-hC,b,wy,go_sem,seval];rw[<-hH];refine QC ?_;obtain⟨n,v,h',q1,rfl,q2,q3⟩:=Y.none' s.ps 3 H (by decide) hJ2;refine⟨n,_,h',q1,?_⟩;simp only[go_sem,seval];rw[hS];refine⟨λq a b c=>(q3 q (by omega)).trans (hK2 q a),?_⟩;exact(if_neg (show ¬(3:Int)=0 by decide)).mpr ⟨rfl,q2⟩
 |l::r,d,hLd,env,v1,kb,h,s,hsz,hol,hkb,hkb2,hE,hs,ht0,ht1,hp0,hp1,hJ,hW=>by
  have hdl:d.length<L.length:=by rw[hLd];simp
  have hget:L[d.length]?=some l:=by rw[hLd];simp
  have hLd2:L=(d++[l])++r:=by rw[hLd];simp
  have heb:env.length+1<=big:=by simp only[List.length_cons]at hsz;omega
  obtain⟨S,hS⟩:∃S,S=gG (l::r) env s:=⟨_,rfl⟩
  rw[<-hS];rw[gG]at hS;obtain⟨nl,cl,keys,hsn,hky⟩:=hE.snap;have a604:=h604 l nl cl env (by omega);obtain⟨⟨lo,hi,eb⟩,hB⟩:∃B,iU l env=B:=⟨_,rfl⟩
  rw[nF hB,Loop.avc]at a604;rw[hB]at hS;dsimp only at hS;have hW':=hW;obtain⟨wy,wc,wt,ww⟩:=hW;refine fD.ofX hf ?_;unfold uK;have e0:decide ((d.length:Int)=(L.length:Int))=false:=by simp;omega
  have e1:((d.length:Int)<(L.length:Int))=True:=eq_true (by omega);have hJf:J s.ps (Eff.app h (.pat keys (aI h keys))):=Y.j _ _ _ (λq hq=>fB (λhm=>by have:=(hky q hm).2.1;omega)) hJ;have hKf:EI h (Eff.app h (.pat keys (aI h keys))) kb v1:=λq _ _ hc=>fB (λhm=>hc (hky q hm).1);have hWf:WkH (.fp (.sl lnl (L.map Loop.av) lcl)) ey ec et ew s.c s.t (Eff.app h (.pat keys (aI h keys))):=hW'.mono (λq a b=>fB (λhm=>by have:=(hky q hm).2.1;omega));have hEf:kJ (Eff.app h (.pat keys (aI h keys))) v1 env kb:=hE.frz keys;simp only[e0,e1,hget,go_sem,seval];refine BL hsn ?_;generalize Eff.app h (.pat keys (aI h keys))=Hf at hJf hKf hWf hEf ⊢;simp only[go_sem,seval];refine aC a604 ?_;have wyf:=hWf.y;cases be:decide (eb=0);have hne:=aN be;rw[if_neg hne]at hS;simp only[be,wyf,go_sem,seval];refine QC ?_;obtain⟨n,v,h',q1,rfl,q2,q3⟩:=Y.none' s.ps eb Hf hne hJf;refine⟨n,_,h',q1,?_⟩;simp only[go_sem,seval];rw[hS];refine⟨λq a b c=>(q3 q (by omega)).trans (hKf q a b c),?_⟩;rw[if_neg hne];exact⟨rfl,q2⟩;have hb0:=aG be;rw[if_pos hb0]at hS;obtain⟨F,hF⟩:∃F:Int->Ws->Ws,F=λi s=>gG r (env++[⟨l.v,i⟩]) s:=⟨_,rfl⟩
  rw[<-hF]at hS;have hFt:∀i,QJ (F i):=λi=>by rw[hF];exact TT r _
  have hFc:∀i,aCb (F i):=λi=>by rw[hF];exact L6 r _
  simp only[be,go_sem,seval]
  refine kV (λa:Nat=>a) (λk e hp=>∃(i:Int)(s1:Ws),e=yB (.int .i64 d.length) v1 (.fp (.sl lnl (L.map Loop.av) lcl)) (.pt 2228225 ey 0) (.pt 2228233 et 0) (.pt 2228237 ew 0) (.int .i64 hi) (.int .i64 i) /\
   EI h hp kb v1/\kJ hp v1 env kb/\s1.e=0/\0<=s1.t/\s1.t<=240000/\(s1.ps.length:Int)<=s1.c/\s1.c<=20000/\240001<=(k:Int)+s1.t/\J s1.ps hp/\WkH (.fp (.sl lnl (L.map Loop.av) lcl)) ey ec et ew s1.c s1.t hp/\S=jY F hi l.step k i s1) 240001 ?_ ?_
  exact⟨lo,s,rfl,hKf,hEf,hs,ht0,ht1,hp0,hp1,by omega,hJf,hWf,hS⟩
  ·rintro k e hp ⟨i,s1,rfl,hK,hE1,hs1,t0,t1,p0,p1,hk,hJ1,hW1,hT⟩;cases bi:decide (i<hi);have hni:=aN bi;have hSe:S=s1:=by
    rw[hT];cases k with
    |zero=>rfl
    |succ k=>rw[jY,if_neg hni]
   simp only[yA,yB,bi,go_sem,seval];rw[hSe];refine⟨hK,?_⟩;rw[if_pos hs1];exact⟨rfl,hJ1,hW1⟩;have hii:=aG bi;obtain⟨k',rfl⟩:∃k',k=k'+1:=⟨k-1,by omega⟩
   have w:wr .i64 (s1.t+1)=s1.t+1:=lA (by omega) (by omega);rw[jY,if_pos hii,w]at hT;have hW1':=hW1;obtain⟨wy1,wc1,wt1,ww1⟩:=hW1;obtain⟨H1,hH1⟩:∃H1:Hp,H1=hp.put 2228233 et (.blk [.int .i64 (s1.t+1)] 1 false true false):=⟨_,rfl⟩
   have o1:∀q,q≠2228233->H1.get q=hp.get q:=λq hq=>by rw[hH1,aB,if_neg (Ne.symm hq)]
   have hJ2:J s1.ps H1:=Y.j _ _ _ (λq hq=>o1 q (by omega)) hJ1;have hW2:WkH (.fp (.sl lnl (L.map Loop.av) lcl)) ey ec et ew s1.c (s1.t+1) H1:=⟨(o1 _ (by decide)).trans wy1,(o1 _ (by decide)).trans wc1,by rw[hH1,aB,if_pos rfl],(o1 _ (by decide)).trans ww1⟩
   have hE2:kJ H1 v1 env kb:=hE1.mono (λq a b=>o1 q (by omega));have hK2:EI h H1 kb v1:=λq a b c=>(o1 q (by omega)).trans (hK q a b c);cases bt:decide (240000<s1.t+1)
   case true=>rw[if_pos (aG bt)]at hT;simp only[yA,yB,bi,wt1,w,bt,wy1,go_sem,seval];rw[<-hH1];refine QC ?_;obtain⟨n,v,h',q1,rfl,q2,q3⟩:=Y.none' s1.ps 3 H1 (by decide) hJ2;refine⟨n,_,h',q1,?_⟩;simp only[go_sem,seval];rw[hT];refine⟨λq a b c=>(q3 q (by omega)).trans (hK2 q a b c),?_⟩;exact(if_neg (show ¬(3:Int)=0 by decide)).mpr ⟨rfl,q2⟩
   rw[if_neg (aN bt)]at hT;obtain⟨nl1,cl1,keys1,hsn1,hky1⟩:=hE2.snap;simp only[yA,yB,bi,wt1,w,bt,ww1,go_sem,seval];rw[<-hH1];refine BL hsn1 ?_;have hJ3:J s1.ps (Eff.app H1 (.pat keys1 (aI H1 keys1))):=Y.j _ _ _ (λq hq=>fB (λhm=>by have:=(hky1 q hm).2.1;omega)) hJ2;have hK3:EI h (Eff.app H1 (.pat keys1 (aI H1 keys1))) kb v1:=λq a b hc=>(fB (λhm=>hc (hky1 q hm).1)).trans (hK2 q a b hc);have hW3:=hW2.mono (h':=Eff.app H1 (.pat keys1 (aI H1 keys1))) (λq a b=>fB (λhm=>by have:=(hky1 q hm).2.1;omega));have hE3:kJ (Eff.app H1 (.pat keys1 (aI H1 keys1))) v1 env kb:=hE2.frz keys1;have hdj:nQ ((aI H1 keys1).map (·.k)) [2228237]=true:=VQ (λq hq=>by have:=(hky1 q hq).2.1;omega);have hdj2:nQ [2228237] ((aI H1 keys1).map (·.k))=true:=R1 (λq hq=>by have:=(hky1 q hq).2.1;omega);generalize Eff.app H1 (.pat keys1 (aI H1 keys1))=H2 at hJ3 hK3 hW3 hE3 ⊢;generalize aI H1 keys1=fz1 at hdj hdj2 ⊢;have ewd:wr .i64 ((d.length:Int)+1)=((d++[l]).length:Int):=by rw[lA (by omega) (by simp only[big]at hL;omega)];simp
   have hln:=hE1.len;simp only[↓hln,↓aIw,hget,e1,go_sem,seval];refine QE (v:=⟨l.v,i⟩) (by simp only[big]at heb;omega) ?_;intro cs hcs;obtain⟨H3,hH3⟩:∃H3:Hp,H3=H2.put (kb+21) (H2.next (kb+21)) (.blk cs 2 true false false):=⟨_,rfl⟩
   have o3:∀q,q≠kb+21->H3.get q=H2.get q:=λq hq=>by rw[hH3,aB,if_neg (Ne.symm hq)]
   have hJ4:J s1.ps H3:=Y.j _ _ _ (λq hq=>o3 q (by omega)) hJ3;have hW4:=hW3.mono (h':=H3) (λq a b=>o3 q (by omega));have hE4:kJ H3 (.rf (kb+21) (H2.next (kb+21)) 0 (env.length+1) (env.length+1)) (env++[(⟨l.v,i⟩:Val)]) ((kb+25+1)*65536):=.inr ⟨kb+21,H2.next (kb+21),cs,false,by simp,by omega,by omega,by rw[hH3,aB,if_pos rfl],hcs⟩;have hE5:kJ H3 v1 env kb:=hE3.mono (λq a b=>o3 q (by omega));have ww3:=hW3.w;simp only[ewd,go_sem,seval];rw[<-hH3];refine jU (B:=(kb+25+1)*65536) (.inr ?_) ?_ (c603 hf h604 lnl lcl L hL ey ec et ew J K ol Y r (d++[l]) hLd2 (env++[⟨l.v,i⟩]) _ _ H3 ⟨s1.c,s1.t+1,s1.e,s1.ps⟩ ?_ ?_ ?_ ?_ hE4 hs1 ?_ ?_ p0 p1 hJ4 hW4) ?_;refine qT (x:=.pt 2228237 ew 0) (by simp) (sH (f:=603) (ti:=true) (fz:=false) hW4.w (by simp) _);exact aLH kb _ (kb+21) _ _ _ _ _ _ _ _ (λ_ _ _ _ _ h=>by cases h) (λ_ _ _ _ _ h=>by cases h) (λ_ _ _ _ _ h=>by cases h) (λ_ _ _ _ _ h=>by cases h) (λ_ _ _ _ _ h=>by cases h) (by omega);simp only[cO,List.length_cons,List.length_nil]at hsz ⊢;omega;simp only[cO,List.length_cons,List.length_nil];omega;omega;omega;show 0<=s1.t+1;omega;show s1.t+1<=240000;have:=aN bt;omega;rintro r' h' ⟨k3,q⟩;obtain⟨s2,hs2⟩:∃s2,s2=gG r (env++[⟨l.v,i⟩]) ⟨s1.c,s1.t+1,s1.e,s1.ps⟩:=⟨_,rfl⟩
   have hFe:F i ⟨s1.c,s1.t+1,s1.e,s1.ps⟩=s2:=by rw[hF,hs2]
   rw[<-hs2]at q;rw[hFe]at hT;obtain⟨m1,m2⟩:=hFt i ⟨s1.c,s1.t+1,s1.e,s1.ps⟩ (by show 0<=s1.t+1;omega) (by show s1.t+1<=240000;have:=aN bt;omega);have m3:=hFc i ⟨s1.c,s1.t+1,s1.e,s1.ps⟩ p0 p1;rw[hFe]at m1 m2 m3;dsimp only at m1 m2;have k4:∀q,2228240<=q->q<kb->h'.get q=H2.get q:=λq a b=>(k3 q a (by omega) (by show q≠kb+21;omega)).trans (o3 q (by omega));have K5:EI h h' kb v1:=λq a b c=>(k4 q a b).trans (hK3 q a b c);have E5:kJ h' v1 env kb:=hE3.mono k4;have hd21:nQ [kb+21] [2228237]=true:=by simp[nQ];omega
   cases b2:decide (s2.e=0)
   ·have hn2:=aN b2;rw[if_neg hn2]at q hT;obtain⟨rfl,qk⟩:=q;simp only[go_sem,seval];refine And.intro (by simp[cW,dC,R.apart,R.uses,X.tmp,Eff.apart,Nat.testBit,hdj,hdj2,jR,jQ,hd21]) ?_
    try simp only[go_sem,seval]
    rw[hT];exact⟨K5,(if_neg hn2).mpr ⟨rfl,qk⟩⟩
   ·have he2:=aG b2;rw[if_pos he2]at q hT;obtain⟨rfl,qj,qw⟩:=q;simp only[hget,e1,go_sem,seval];refine And.intro (by simp[cW,dC,R.apart,R.uses,X.tmp,Eff.apart,Nat.testBit,hdj,hdj2,jR,jQ,hd21]) ?_
    try simp only[hget,e1,go_sem,seval]
    exact⟨k',by omega,_,s2,rfl,K5,E5,he2,by omega,m2 he2,(m3 he2).1,(m3 he2).2,by omega,qj,qw,hT⟩
end
end
section
def slE(es:List AV):AV:=if es=[] then .sl true [] true else .sl false es false
theorem SY(k e:Nat):(AV.yl k e).cells=[.yl k e]:=rfl
theorem SX(k e:Nat):(AV.yl k e).isAgg=false:=rfl
theorem X7(k e:Nat):(AV.yl k e).fits 1 false=true:=rfl
theorem IA{h:Hp}{k e:Nat}{A:AV}(hg:h.get k=some (e,.blk [A] 1 false true false))(hA:A.tree=true)(hA2:A.isAgg=false)(d:Nat):Tev.snap (d+2) h (.pt k e 0)=some (.fp A,[k]):=by have h1:mapS (Tev.snap (d+1) h) [A]=some ([A],[]):=dA d h (by simp[treeL,hA]);rw[fR];simp[AV.tree,hg,h1,hA2]
theorem aLX(h:Hp)(ev:List Val)(nl cl:Bool)(n:Nat)(hn:n<=ev.length):oZ h 2 true false false [.sl nl (ev.map Val.av) cl,.int .i64 n]=some (.sl nl ((ev.drop n).map Val.av) (nl||cl),.pat [] []):=by
 have hv:=OG ev;have hl:(ev.map Val.av).length=ev.length:=by simp
 simp only[oZ,jG,if_true,Bool.false_eq_true,if_false,kQ,Option.getD_none,Option.getD_some,Option.isSome_none,hl];rw[if_pos ⟨by omega,by omega,by omega,by omega,hv⟩];simp only[val,Int.toNat_natCast,beq_self_eq_true,Bool.and_true];rw[List.map_drop,List.take_of_length_le (by simp)]
theorem Own.snapD{h:Hp}{k0 esz:Nat}{ag:Bool}{v:AV}{es:List AV}(o:Own h k0 esz ag v es)(he:∀x∈es,El esz ag x)(hv:es=[]->v = .sl true [] true)(d:Nat):∃keys,Tev.snap (d+2) h v=some (slE es,keys)/\(∀q∈keys,q=k0):=by
 rcases o with ⟨rfl,nl,cl,rfl,hc⟩|⟨e,cs,rfl,hg,hu⟩
 have:=hv rfl;cases this;exact⟨[],by rw[fR];rfl,by simp⟩;have hne:es≠[]:=λh=>by have:=hv h;cases this
 obtain⟨cs',h1,h2,h3,h4⟩:=bU he;rw[hu]at h1;cases h1;have h5:=h4 [];rw[List.append_nil]at h5;have ht:treeL es=true:=by
  clear h2 h4 h5 hu hg hv hne
  induction es with
  |nil=>rfl
  |cons x r ih=>simp only[treeL,aD];exact⟨(he x (by simp)).tree,ih (λy hy=>he y (bT _ hy))⟩
 have h6:mapS (Tev.snap (d+1) h) es=some (es,[]):=dA d h ht;exact⟨[k0],by rw[fR];simp[hg,h5,h6,AV.tree,slE,hne],by simp⟩
section
variable{pg:Pg}
theorem c585(hf:pg.fs 585=some DW)(lnl lcl:Bool)(L:List Loop)(enl ecl:Bool)(env:List Val):Ret pg 585 [.sl lnl (L.map Loop.av) lcl,.sl enl (env.map Val.av) ecl] (.fn 602 [.fp (.sl lnl (L.map Loop.av) lcl),.fp (.sl enl (env.map Val.av) ecl)]):=by
 refine Ret.ofX hf ?_;unfold DW;simp only[go_sem,seval];have hA:(AV.sl lnl (L.map Loop.av) lcl).tree=true:=by simp only[go_sem,seval]
 have hB:(AV.sl enl (env.map Val.av) ecl).tree=true:=by simp only[go_sem,seval]
 have hA2:(AV.sl lnl (L.map Loop.av) lcl).isAgg=false:=rfl;have hB2:(AV.sl enl (env.map Val.av) ecl).isAgg=false:=rfl;generalize AV.sl lnl (L.map Loop.av) lcl=A at hA hA2 ⊢;generalize AV.sl enl (env.map Val.av) ecl=B at hB hB2 ⊢;obtain⟨H,hH⟩:∃H:Hp,H=(Hp.put [] 1 0 (Ob.blk [A] 1 false true false)).put 5 0 (Ob.blk [B] 1 false true false):=⟨_,rfl⟩
 rw[<-hH];have g1:=IA (h:=H) (k:=1) (e:=0) (by rw[hH];rfl) hA hA2 61;have g5:=IA (h:=H) (k:=5) (e:=0) (by rw[hH];rfl) hB hB2 61;show (Tev.snap (63+1) H (.fn 602 [.pt 1 0 0,.pt 5 0 0])).map (·.1)=_;rw[fR];simp[AV.tree,treeL,bG,g1,g5,eN]
def aIk(J:List (List Val)->Hp->Prop)(K:Int->Hp->Prop)(s:Ws)(h':Hp):Prop:=if s.e=0 then J s.ps h' else K s.e h'
set_option maxRecDepth 100000 in
theorem c602(hf:pg.fs 602=some A1)(h603:pg.fs 603=some uK)(h604:∀(l:Loop) (nl cl:Bool) (env:List Val),env.length<=big->Ret pg 604 [l.av,.sl nl (env.map Val.av) cl] (rZ l env))
  (lnl lcl:Bool) (L:List Loop) (hL:L.length<=big) (J:List (List Val)->Hp->Prop) (K:Int->Hp->Prop) (ol:Nat) (Y:XD pg ol J K) (enl ecl:Bool) (env:List Val) (hsz:env.length+L.length<=big) (hol:ol<=env.length) (h:Hp) (hJ:J [] h) :
  fD pg 602 [.yl 33 0,.fp (.sl lnl (L.map Loop.av) lcl),.fp (.sl enl (env.map Val.av) ecl)] 2228224 h (λ_ h'=>aIk J K (gG L env ⟨0,0,0,[]⟩) h'):=by
 refine fD.ofX hf ?_;unfold A1;simp only[SY,SX,X7,go_sem,seval];have wW:=λH hJ' hW'=>c603 (kb:=(2228224+17+1)*65536) (h:=H) h603 h604 lnl lcl L hL (h.next 2228225) (h.next 2228229) (h.next 2228233) (h.next 2228237) J K ol Y L [] rfl env (.sl enl (env.map Val.av) ecl) ⟨0,0,0,[]⟩ hsz hol (by omega) (by omega) (.inl ⟨enl,ecl,rfl⟩) rfl (Int.le_refl _) (by decide) (Int.le_refl _) (by decide) hJ' hW';simp only[List.length_nil,Int.natCast_zero]at wW;refine jU (B:=(2228224+17+1)*65536) (.inr ?_) rfl (wW _ ?_ ?_) ?_;refine qT (x:=.pt 2228237 (h.next 2228237) 0) (by simp) (sH (f:=603) (cs:=[.fp (.sl lnl (L.map Loop.av) lcl),.pt 2228229 (h.next 2228229) 0,.pt 2228225 (h.next 2228225) 0,.pt 2228233 (h.next 2228233) 0,.pt 2228237 (h.next 2228237) 0]) (ti:=true) (fz:=false) (by simp only[go_sem,seval]) (by simp) _)
 ·refine Y.j _ h _ (λq hq=>?_) hJ;simp only[aB]
  repeat rw[if_neg (by omega)]
 exact⟨by simp only[go_sem,seval],by simp only[go_sem,seval],by simp only[go_sem,seval],by simp only[go_sem,seval]⟩;rintro r h' ⟨k3,q⟩;simp only[go_sem,seval];unfold aIk;split at q;rename_i h0;rw[if_pos h0];exact q.2.1;rename_i h0;rw[if_neg h0];exact q.2
def ptV(ol:Nat)(env:List Val):List Int:=(env.drop ol).map (·.n)
def ptA(ol:Nat)(env:List Val):AV:=slE ((ptV ol env).map aV)
def IW(ol:Nat)(W:Ws):AV:=if W.e=0 then .tup [slE (W.ps.map (ptA ol)),.int .i64 0] else .tup [.sl true [] true,.int .i64 W.e]
theorem El.ptP(ol:Nat)(env:List Val):El 1 false (ptA ol env):=by unfold ptA slE;split;exact⟨rfl,rfl,rfl⟩;exact⟨rfl,rfl,by simp only[AV.tree];exact bQ (f:=aV) (λ_=>rfl) _⟩
theorem El.ptAs(ol:Nat)(l:List (List Val)):∀x∈l.map (ptA ol),El 1 false x:=by intro x hx;simp only[List.mem_map]at hx;obtain⟨y,_,rfl⟩:=hx;exact El.ptP ol y
def vU:C:=.seq (.reg [⟨some 9,.mov,[.t 31],none,0,0⟩] false) (.reg [⟨some 10,.mov,[.t 32],none,0,0⟩] false)
def vT:C:=.block 1 (.seq (.seq (.reg [⟨some 33,.mov,[.t 10],none,0,0⟩,⟨some 34,.bin .neq,[.t 33,.c (.int .i64 0)],none,0,0⟩] false) (.cond (.t 34) (.seq (.reg [⟨some 35,.mov,[.t 10],none,0,0⟩,⟨none,.store 1 false,[.t 4,.c (.sl true [] true)],none,0,0⟩,⟨none,.store 1 false,[.t 5,.t 35],none,0,0⟩] false) .ret) .skip)) (.seq (.reg [⟨some 11,.mov,[.c (.sl true [] true)],none,0,0⟩] false) (.seq (.seq (.reg [⟨some 36,.mov,[.t 9],none,0,0⟩,⟨some 37,.load 1 false,[.t 3],none,0,0⟩,⟨some 38,.len 1,[.t 37],none,0,0⟩,⟨some 39,.slc 2 true false false,[.t 36,.t 38],none,0,0⟩,⟨some 40,.len 1,[.t 39],none,0,0⟩,⟨some 41,.mov,[.c (.int .i64 0)],none,0,0⟩] false) (.block 2 (.loop yE PX))) (.reg [⟨some 51,.load 1 false,[.t 8],none,0,0⟩,⟨some 52,.frz,[.t 11],none,0,0⟩,⟨some 53,.mkSl 1 false false,[.t 52],none,0,0⟩,⟨some 54,.app 1 false 24,[.t 51,.t 53],none,0,45⟩,⟨none,.store 1 false,[.t 8,.t 54],none,0,0⟩] false))))
structure Jr(ev:AV)(ol:Nat)(ps:List (List Val))(h:Hp):Prop where
 g5:h.get 5=some (0,.blk [ev] 1 false true false)
 g9:h.get 9=some (0,.blk [.sl true [] true] 1 false true false)
 g13:h.get 13=some (0,.blk [.int .i64 0] 1 false true false)
 out:∃v,h.get 25=some (0,.blk [v] 1 false true false)/\Own h 45 1 false v (ps.map (ptA ol))/\(ps=[]->v = .sl true [] true)
structure Kr(e:Int)(h:Hp):Prop where
 g9:h.get 9=some (0,.blk [.sl true [] true] 1 false true false)
 g13:h.get 13=some (0,.blk [.int .i64 e] 1 false true false)
theorem Jr.mono{ev:AV}{ol:Nat}{ps:List (List Val)}{h h':Hp}(o:Jr ev ol ps h)(hk:∀q,q<2228224->q≠33->h'.get q=h.get q):Jr ev ol ps h':=by obtain⟨a,b,c,v,d,e,f⟩:=o;exact⟨(hk _ (by decide) (by decide)).trans a,(hk _ (by decide) (by decide)).trans b,(hk _ (by decide) (by decide)).trans c,v,(hk _ (by decide) (by decide)).trans d,e.mono (hk _ (by decide) (by decide)),f⟩
theorem Kr.mono{e:Int}{h h':Hp}(o:Kr e h)(hk:∀q,q<2228224->q≠33->h'.get q=h.get q):Kr e h':=⟨(hk _ (by decide) (by decide)).trans o.g9,(hk _ (by decide) (by decide)).trans o.g13⟩
set_option maxRecDepth 100000 in
set_option maxHeartbeats 1000000 in
theorem aIy(h602:pg.fs 602=some A1)(h603:pg.fs 603=some uK)(h604:∀(l:Loop) (nl cl:Bool) (env:List Val),env.length<=big->Ret pg 604 [l.av,.sl nl (env.map Val.av) cl] (rZ l env))
  (lnl lcl:Bool) (L:List Loop) (hL:L.length<=big) (enl ecl:Bool) (env:List Val) (hsz:env.length+L.length<=big) (x0 x1 x2 x6 x7 x9 x10 x11 x12 x13 x14 x15 x16 x17 x18 x19 x20 x21 x22 x23 x24 x25 x26 x27 x28 x29 x30 x31 x32 x33 x34 x35 x36 x37 x38 x39 x40 x41 x42 x43 x44 x45 x46 x47 x48 x49 x50 x51 x52 x53 x54 x55:AV) (HP:Hp) (hn:HP.next 33=0) (hx:x30 = .fn 602 [.fp (.sl lnl (L.map Loop.av) lcl),.fp (.sl enl (env.map Val.av) ecl)])
  (hJ:Jr (.sl enl (env.map Val.av) ecl) env.length [] HP) (Q:Ex->St->Prop) (t:Tok Q)
  (q0:(gG L env ⟨0,0,0,[]⟩).e=0->∀h,Jr (.sl enl (env.map Val.av) ecl) env.length (gG L env ⟨0,0,0,[]⟩).ps h->Q .nor ⟨[x0,x1,x2,.pt 5 0 0,.pt 9 0 0,.pt 13 0 0,x6,x7,.pt 25 0 0,x9,x10,x11,x12,x13,x14,x15,x16,x17,x18,x19,x20,x21,x22,x23,x24,x25,x26,x27,x28,x29,x30,x31,x32,x33,x34,x35,x36,x37,x38,x39,x40,x41,x42,x43,x44,x45,x46,x47,x48,x49,x50,x51,x52,x53,x54,x55],h⟩)
  (q1:(gG L env ⟨0,0,0,[]⟩).e≠0->∀h,Kr (gG L env ⟨0,0,0,[]⟩).e h->Q .ret ⟨[x0,x1,x2,.pt 5 0 0,.pt 9 0 0,.pt 13 0 0,x6,x7,.pt 25 0 0,x9,x10,x11,x12,x13,x14,x15,x16,x17,x18,x19,x20,x21,x22,x23,x24,x25,x26,x27,x28,x29,x30,x31,x32,x33,x34,x35,x36,x37,x38,x39,x40,x41,x42,x43,x44,x45,x46,x47,x48,x49,x50,x51,x52,x53,x54,x55],h⟩) :
  XX pg 0 (.rf (.t 30) 33 [31,32] vU vT) ⟨[x0,x1,x2,.pt 5 0 0,.pt 9 0 0,.pt 13 0 0,x6,x7,.pt 25 0 0,x9,x10,x11,x12,x13,x14,x15,x16,x17,x18,x19,x20,x21,x22,x23,x24,x25,x26,x27,x28,x29,x30,x31,x32,x33,x34,x35,x36,x37,x38,x39,x40,x41,x42,x43,x44,x45,x46,x47,x48,x49,x50,x51,x52,x53,x54,x55],HP⟩ Q t:=by
 refine aLL (f:=602) (cs:=[.fp (.sl lnl (L.map Loop.av) lcl),.fp (.sl enl (env.map Val.av) ecl)]) hx ?_;simp only[Nat.zero_add,hn]
 refine fD.mono (c602 h602 h603 h604 lnl lcl L hL (λps h=>h.get 33=some (0,.lp 0 0 [x0,x1,x2,.pt 5 0 0,.pt 9 0 0,.pt 13 0 0,x6,x7,.pt 25 0 0,x9,x10,x11,x12,x13,x14,x15,x16,x17,x18,x19,x20,x21,x22,x23,x24,x25,x26,x27,x28,x29,x30,x31,x32,x33,x34,x35,x36,x37,x38,x39,x40,x41,x42,x43,x44,x45,x46,x47,x48,x49,x50,x51,x52,x53,x54,x55] [31,32] vU vT)/\Jr (.sl enl (env.map Val.av) ecl) env.length ps h)
  (λe h=>h.get 33=some (0,.lp 3 0 [x0,x1,x2,.pt 5 0 0,.pt 9 0 0,.pt 13 0 0,x6,x7,.pt 25 0 0,x9,x10,x11,x12,x13,x14,x15,x16,x17,x18,x19,x20,x21,x22,x23,x24,x25,x26,x27,x28,x29,x30,x31,x32,x33,x34,x35,x36,x37,x38,x39,x40,x41,x42,x43,x44,x45,x46,x47,x48,x49,x50,x51,x52,x53,x54,x55] [31,32] vU vT)/\Kr e h) env.length ⟨?_,?_,?_,?_⟩ enl ecl env hsz (Nat.le_refl _) _ ⟨by rw[aB,if_pos rfl],hJ.mono (λq _ hq=>by rw[aB,if_neg (Ne.symm hq)])⟩) ?_
 rotate_left 2
 rintro ps h h' hk ⟨a,b⟩;exact⟨(hk _ (by decide)).trans a,b.mono (λq hq _=>hk q hq)⟩;rintro e h h' hk ⟨a,b⟩;exact⟨(hk _ (by decide)).trans a,b.mono (λq hq _=>hk q hq)⟩;rintro r h' q;unfold aIk at q;split at q;rename_i h0;exact⟨.nor,_,_,_,_,_,q.1,q0 h0 _ (q.2.mono (λq _ hq=>by rw[aB,if_neg (Ne.symm hq)]))⟩;rename_i h0;exact⟨.ret,_,_,_,_,_,q.1,q1 h0 _ (q.2.mono (λq _ hq=>by rw[aB,if_neg (Ne.symm hq)]))⟩
 ·rintro ps ev h nl cl hpsl hol hevb ⟨g33,hj⟩;refine RY.of g33 rfl ?_;rw[show tL [x0,x1,x2,.pt 5 0 0,.pt 9 0 0,.pt 13 0 0,x6,x7,.pt 25 0 0,x9,x10,x11,x12,x13,x14,x15,x16,x17,x18,x19,x20,x21,x22,x23,x24,x25,x26,x27,x28,x29,x30,x31,x32,x33,x34,x35,x36,x37,x38,x39,x40,x41,x42,x43,x44,x45,x46,x47,x48,x49,x50,x51,x52,x53,x54,x55] [31,32] [.sl nl (ev.map Val.av) cl,.int .i64 0]=[x0,x1,x2,.pt 5 0 0,.pt 9 0 0,.pt 13 0 0,x6,x7,.pt 25 0 0,x9,x10,x11,x12,x13,x14,x15,x16,x17,x18,x19,x20,x21,x22,x23,x24,x25,x26,x27,x28,x29,x30,.sl nl (ev.map Val.av) cl,.int .i64 0,x33,x34,x35,x36,x37,x38,x39,x40,x41,x42,x43,x44,x45,x46,x47,x48,x49,x50,x51,x52,x53,x54,x55] from rfl];simp only[vU,go_sem,seval];refine⟨g33,?_⟩;obtain⟨j5,j9,j13,v,j25,ho,hv⟩:=hj;have d0:decide ((0:Int)=0)=true:=rfl;have hsd:=aLX (ev:=ev) (nl:=nl) (cl:=cl) (n:=env.length) (hn:=hol);obtain⟨R,hR⟩:∃R,R=ev.drop env.length:=⟨_,rfl⟩
  rw[<-hR]at hsd;have hRb:R.length<=big:=by rw[hR];simp;omega
  have hE:∀l:List Val,∀x∈l.map (λv=>AV.int .i64 v.n),El 1 false x:=by intro l x hx;simp only[List.mem_map]at hx;obtain⟨y,_,rfl⟩:=hx;exact El.int _
  simp only[vT,d0,j5,↓hsd,go_sem,seval]
  refine aQ R (λd r e hp=>∃v11,e=GT (.pt 25 0 0) v11 (.sl nl (R.map Val.av) (nl||cl)) (.int .i64 R.length) (.int .i64 d.length)/\Own hp 41 1 false v11 (d.map λv => .int .i64 v.n)/\(d=[]->v11 = .sl true [] true) /\
   hp.get 33=some (0,.lp 1 0 [x0,x1,x2,.pt 5 0 0,.pt 9 0 0,.pt 13 0 0,x6,x7,.pt 25 0 0,x9,x10,x11,x12,x13,x14,x15,x16,x17,x18,x19,x20,x21,x22,x23,x24,x25,x26,x27,x28,x29,x30,x31,x32,x33,x34,x35,x36,x37,x38,x39,x40,x41,x42,x43,x44,x45,x46,x47,x48,x49,x50,x51,x52,x53,x54,x55] [31,32] vU vT)/\∀q,q≠33->q≠37->q≠41->hp.get q=h.get q) ?_ ?_ ?_
  exact⟨_,rfl,Own.nil _ _ _ _ _ _ rfl,λ_=>rfl,by rw[aB,if_pos rfl];rfl,λq a _ _=>by rw[aB,if_neg (Ne.symm a)]⟩
  ·rintro e hp ⟨v11,rfl,o11,hv11,g33',hk⟩;obtain⟨keys,hsn,hky⟩:=o11.snapD (hE R) (λhn=>hv11 (by simpa using hn)) 62;have g25:=(hk 25 (by decide) (by decide) (by decide)).trans j25;have f:∀q,q≠41->(Eff.app hp (.pat keys (aI hp keys))).get q=hp.get q:=λq hq=>fB (λhm=>hq (hky q hm));simp only[yE,GT,bK,g25,go_sem,seval];refine BL hsn ?_;generalize Eff.app hp (.pat keys (aI hp keys))=H2 at f ⊢;have hpt:slE (R.map λv=>AV.int .i64 v.n)=ptA env.length ev:=by unfold ptA ptV;rw[<-hR,List.map_map];rfl
   have hfit:=(El.ptP env.length ev).fits;rw[hpt];simp only[hfit,go_sem,seval];refine kW (kb:=0) (s:=45) (bytes:=24) (es:=ps.map (ptA env.length)) (xs:=[ptA env.length ev]) (ho.mono ((f 45 (by decide)).trans (hk 45 (by decide) (by decide) (by decide)))) (El.ptAs _ ps) (by intro y hy;simp at hy;subst hy;exact El.ptP _ _) ?_ (by decide) ?_;simp only[cP,List.length_cons,List.length_nil];omega;intro v' rd pa ho2 hk2 hpa;have k25:=(hk2 25 (by decide)).trans ((f 25 (by decide)).trans g25);have k33:=(hk2 33 (by decide)).trans ((f 33 (by decide)).trans g33');have kk:∀q,q≠33->q≠37->q≠41->q≠45->(Eff.app H2 (.pat rd pa)).get q=h.get q:=λq a b c d=>(hk2 q d).trans ((f q c).trans (hk q a b c));generalize Eff.app H2 (.pat rd pa)=H3 at ho2 k25 k33 kk ⊢
   have ho2':∀o1 o2,Own ((H3.put 25 0 o1).put 33 0 o2) 45 1 false v' ((ps++[ev]).map (ptA env.length)):=λo1 o2=>by rw[List.map_append];exact ho2.mono (by rw[aB,if_neg (by decide),aB,if_neg (by decide)])
   obtain⟨fv1,fv2,fv3⟩:=ho2.one;have fv4:bC [v']=true:=by simp[bC,fv2]
   simp only[k25,fv1,fv2,fv3,fv4,go_sem,seval];refine⟨k33,⟨rfl,?_⟩,λq hq=>?_⟩;refine⟨?_,?_,?_,v',?_,ho2' _ _,λh=>by simp at h⟩;rw[aB,if_neg (by decide),aB,if_neg (by decide),kk _ (by decide) (by decide) (by decide) (by decide)];exact j5;rw[aB,if_neg (by decide),aB,if_neg (by decide),kk _ (by decide) (by decide) (by decide) (by decide)];exact j9;rw[aB,if_neg (by decide),aB,if_neg (by decide),kk _ (by decide) (by decide) (by decide) (by decide)];exact j13;rw[aB,if_neg (by decide),aB,if_pos rfl]
   ·repeat rw[if_neg (by omega)]
    exact kk q (by omega) (by omega) (by omega) (by omega)
  rintro d x r e hp hes ⟨v11,rfl,o11,hv11,g33',hk⟩;obtain⟨hget,e1,e2,ew⟩:=eD hes hRb;simp only[yE,GT,e1,e2,hget,go_sem,seval];have f:∀o1 o2 q,q≠37->((hp.put 37 (hp.next 37) o1).put 37 (hp.next 37) o2).get q=hp.get q:=λo1 o2 q hq=>by rw[aB,if_neg (Ne.symm hq),aB,if_neg (Ne.symm hq)]
  refine kW (kb:=0) (s:=41) (bytes:=8) (es:=d.map λv=>AV.int .i64 v.n) (xs:=[.int .i64 x.n]) (o11.mono (f _ _ _ (by decide))) (hE d) (by intro y hy;simp at hy;subst hy;exact El.int _) ?_ (by decide) ?_;have hl:=congrArg List.length hes;simp only[cO,List.length_cons,List.length_nil,cP,big]at *;omega;intro v' rd pa ho2 hk2 hpa;simp only[ew,go_sem,seval];refine⟨v',rfl,by rw[List.map_append];exact ho2,λh=>by simp at h,?_,λq a b c=>?_⟩;exact(hk2 33 (by decide)).trans ((f _ _ 33 (by decide)).trans g33');exact(hk2 q c).trans ((f _ _ q b).trans (hk q a b c))
 ·rintro ps e h he ⟨g33,hj⟩;refine RY.of g33 rfl ?_;have be:decide (e=0)=false:=decide_eq_false he;obtain⟨j5,j9,j13,v,j25,ho,hv⟩:=hj;rw[show tL [x0,x1,x2,.pt 5 0 0,.pt 9 0 0,.pt 13 0 0,x6,x7,.pt 25 0 0,x9,x10,x11,x12,x13,x14,x15,x16,x17,x18,x19,x20,x21,x22,x23,x24,x25,x26,x27,x28,x29,x30,x31,x32,x33,x34,x35,x36,x37,x38,x39,x40,x41,x42,x43,x44,x45,x46,x47,x48,x49,x50,x51,x52,x53,x54,x55] [31,32] [.sl true [] true,.int .i64 e]=[x0,x1,x2,.pt 5 0 0,.pt 9 0 0,.pt 13 0 0,x6,x7,.pt 25 0 0,x9,x10,x11,x12,x13,x14,x15,x16,x17,x18,x19,x20,x21,x22,x23,x24,x25,x26,x27,x28,x29,x30,.sl true [] true,.int .i64 e,x33,x34,x35,x36,x37,x38,x39,x40,x41,x42,x43,x44,x45,x46,x47,x48,x49,x50,x51,x52,x53,x54,x55] from rfl];simp only[vU,go_sem,seval];refine⟨g33,?_⟩;simp only[vT,be,j9,j13,go_sem,seval];refine⟨rfl,⟨rfl,?_,?_⟩,λq hq=>?_⟩;rw[aB,if_neg (by decide),aB,if_neg (by decide),aB,if_pos rfl];rw[aB,if_neg (by decide),aB,if_pos rfl]
  ·repeat rw[if_neg (by omega)]
set_option maxRecDepth 100000 in
set_option maxHeartbeats 1000000 in
theorem c563(hf:pg.fs 563=some KH)(h585:pg.fs 585=some DW)(h602:pg.fs 602=some A1)(h603:pg.fs 603=some uK)(h604:∀(l:Loop) (nl cl:Bool) (env:List Val),env.length<=big->Ret pg 604 [l.av,.sl nl (env.map Val.av) cl] (rZ l env))
  (h584:∀(enl ecl:Bool)(env:List Val),env.length<=big->bV pg 584 [.sl enl (env.map Val.av) ecl] (kI env))
  (h557:∀(n:aZ)(nl cl:Bool)(vars:List Str),(nl=true->vars=[])->nT n vars->∀values:Int,Ret pg 557 [n.av,.sl nl (vars.map Str.av) cl,.int .i64 values] (.bool (eM n vars values)))
  (n:aZ) (enl ecl:Bool) (env:List Val) (hsz:nT n (env.map (·.v))) (hsz2:env.length+n.loops.es.length<=big) :
  bV pg 563 [n.av,.sl enl (env.map Val.av) ecl] (λr=>r=if lR env/\eM n (env.map (·.v)) 1000=true then IW env.length (gG n.loops.es env ⟨0,0,0,[]⟩) else .tup [.sl true [] true,.int .i64 1]):=by
 obtain⟨r,a584,hN⟩:=h584 enl ecl env (by omega);refine bV.ofX hf ?_;unfold KH;have w0:wr .i64 0=0:=rfl;unfold kI at hN;split at hN
 rotate_left 1
 rename_i hd;subst hN;rw[if_neg (λh=>hd h.1)];simp only[go_sem,seval];refine aC a584 ?_;simp only[go_sem,seval];rename_i hd;obtain⟨nl,cl,rfl,hnl⟩:=hN;have a557:=h557 n nl cl (env.map (·.v)) (λh=>by simp[hnl h]) hsz 1000;rw[aZ.avc]at a557;simp only[go_sem,seval];refine aC a584 ?_;simp only[go_sem,seval];refine aC a557 ?_;cases hv:eM n (env.map (·.v)) 1000;rw[if_neg (λh=>by cases h.2)];simp only[go_sem,seval];rw[if_pos ⟨hd,rfl⟩];simp only[go_sem,seval];have a585:=c585 h585 n.loops.nl n.loops.cl n.loops.es enl ecl env;refine aC a585 ?_;simp only[go_sem,seval];have hJ0:∀o,Jr (.sl enl (env.map Val.av) ecl) env.length [] (((((Hp.put [] 1 0 o).put 5 0 (.blk [.sl enl (env.map Val.av) ecl] 1 false true false)).put 9 0 (.blk [.sl true [] true] 1 false true false)).put 13 0 (.blk [.int .i64 0] 1 false true false)).put 25 0 (.blk [.sl true [] true] 1 false true false)):=λo=>⟨rfl,rfl,rfl,.sl true [] true,rfl,Own.nil _ _ _ _ _ _ rfl,λ_=>rfl⟩
 refine aIy h602 h603 h604 n.loops.nl n.loops.cl n.loops.es n.loops.ok enl ecl env hsz2 _ _ _ _ _ _ _ _ _ _ _ _ _ _ _ _ _ _ _ _ _ _ _ _ _ _ _ _ _ _ _ _ _ _ _ _ _ _ _ _ _ _ _ _ _ _ _ _ _ _ _ _ _ rfl rfl (hJ0 _) _ _ ?_ ?_;intro h0 h hj;unfold IW;rw[if_pos h0];generalize gG n.loops.es env ⟨0,0,0,[]⟩=W at h0 hj ⊢;obtain⟨j5,j9,j13,v,j25,ho,hv⟩:=hj;obtain⟨fv1,fv2,fv3⟩:=ho.one;have fv4:bC [v]=true:=by simp[bC,fv2]
 simp only[j25,j9,j13,fv1,fv2,fv3,fv4,go_sem,seval];obtain⟨keys,hsn,_⟩:=(ho.mono (h':=(h.put 9 0 (.blk [v] 1 false true false)).put 13 0 (.blk [.int .i64 0] 1 false true false)) (by rw[aB,if_neg (by decide),aB,if_neg (by decide)])).snapD (El.ptAs _ _) (λhn=>hv (by simpa using hn)) 61;exact⟨_,rD hsn rfl,rfl⟩;intro h0 h hk;unfold IW;rw[if_neg h0];generalize gG n.loops.es env ⟨0,0,0,[]⟩=W at h0 hk ⊢;obtain⟨k9,k13⟩:=hk;simp only[k9,k13,go_sem,seval]
end
end
end Go.Tev
