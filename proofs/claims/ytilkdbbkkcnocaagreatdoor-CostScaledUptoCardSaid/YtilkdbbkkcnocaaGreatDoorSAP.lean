import Derived.Test.YtilkdbbkkcnocaaGreatDoorSAO
import Derived.KernelRfl
import Derived.Test.YtilkdbbkkcnocaaGreatDoorSAH
set_option linter.all false
namespace Go.Tev
section
structure Tok.{u}{α : Sort u}(a : α):Type where
def XX(pg:Pg)(kb:Nat)(c:C)(st:St)(Q:Ex->St->Prop)(_:Tok Q):Prop:=WX pg kb c st Q
def XR(pg:Pg)(kb:Nat)(rs:List R)(st:St)(Q:St->Prop)(_:Tok Q):Prop:=WR pg kb rs st Q
def XT(pg:Pg)(kb:Nat)(rs:List R)(st:St)(Q:St->List Eff->Prop)(_:Tok Q):Prop:=WT pg kb rs st Q
def XO(pg:Pg)(kb:Nat)(k:K)(s:Nat)(h:Hp)(vs:List AV)(Q:AV->Eff->Prop)(_:Tok Q):Prop:=WO pg kb k s h vs Q
def XG(v:AV)(b:Bool)(A B:Unit->Prop)(_:Tok (A,B)):Prop:=gdQ v b (A ()) (B ())
def XC(v:AV)(A B:Unit->Prop)(_:Tok (A,B)):Prop:=VT v (A ()) (B ())
def XV(o:Option (AV×Eff))(Q:AV->Eff->Prop)(_:Tok Q):Prop:=IY o Q
variable{pg:Pg}{kb:Nat}
theorem aBD(st:St)(Q:Ex->St->Prop)(t:Tok Q):XX pg kb .skip st Q t=Q .nor st:=aBS st Q
theorem aBF(id:Nat)(st:St)(Q:Ex->St->Prop)(t:Tok Q):XX pg kb (.exit id) st Q t=Q (.ext id) st:=aBU id st Q
theorem aHx(st:St)(Q:Ex->St->Prop)(t:Tok Q):XX pg kb .ret st Q t=Q .ret st:=aIg st Q
theorem aHy(rs:List R)(st:St)(Q:Ex->St->Prop)(t:Tok Q):XX pg kb (.reg rs false) st Q t=XR pg kb rs st (λst'=>Q .nor st') ⟨⟩:=aIh rs st Q
theorem aBE(rs:List R)(st:St)(Q:Ex->St->Prop)(t:Tok Q):XX pg kb (.reg rs true) st Q t=XT pg kb rs st (λst' es=>cW 0 rs es=true/\Q .nor st') ⟨⟩:=aBT rs st Q
theorem aBG(c:X)(a b:C)(st:St)(Q:Ex->St->Prop)(t:Tok Q):XX pg kb (.cond c a b) st Q t=XC (c.ev pg.gl st.env) (λ_=>XX pg kb a st Q t) (λ_=>XX pg kb b st Q t) ⟨⟩:=aBV c a b st Q
theorem aHw(a b:C)(st:St)(Q:Ex->St->Prop)(t:Tok Q):XX pg kb (.seq a b) st Q t=XX pg kb a st (lB (λst'=>XX pg kb b st' Q t) Q) ⟨⟩:=aIf a b st Q
theorem XE(id:Nat)(b:C)(st:St)(Q:Ex->St->Prop)(t:Tok Q):XX pg kb (.block id b) st Q t=XX pg kb b st (nS id Q) ⟨⟩:=XQ id b st Q
theorem rN(b:C)(clr:List Bool)(st:St)(Q:Ex->St->Prop)(t:Tok Q):XX pg kb (.loop b clr) st Q t=XX pg kb b ⟨clear clr st.env,st.hp⟩ (lB (λst'=>XX pg kb (.loop b clr) st' Q t) Q) ⟨⟩:=QG b clr st Q
theorem kV{α : Type}(μ : α -> Nat)(E : α -> List AV->Hp->Prop){b:C}{clr:List Bool}{st:St}{Q:Ex->St->Prop}{t:Tok Q}(a : α)(h0:E a (clear clr st.env) st.hp)
  (step:∀a env hp,E a env hp->XX pg kb b ⟨env,hp⟩ (lB (λst'=>∃a',μ a' < μ a/\E a' (clear clr st'.env) st'.hp) Q) ⟨⟩) :
  XX pg kb (.loop b clr) st Q t:=ST μ E a h0 step
theorem aHA(st:St)(A:St->Prop)(t:Tok A):XR pg kb [] st A t=A st:=aIj st A
theorem aBI(d:Option Nat)(k:K)(xs:List X)(bef s:Nat)(rs:List R)(st:St)(A:St->Prop)(t:Tok A) :
  XR pg kb (⟨d,k,xs,none,bef,s⟩::rs) st A t=XO pg kb k s st.hp (xs.map (X.ev pg.gl st.env)) (λv eff=>XR pg kb rs ⟨eH st.env d v,eff.app st.hp⟩ A t) ⟨⟩:=QI d k xs bef s rs st A
theorem XH(d:Option Nat)(k:K)(xs:List X)(g:Nat)(b:Bool)(bef s:Nat)(rs:List R)(st:St)(A:St->Prop)(t:Tok A) :
  XR pg kb (⟨d,k,xs,some (g,b),bef,s⟩::rs) st A t =
   XG (gB st.env g) b (λ_=>XO pg kb k s st.hp (xs.map (X.ev pg.gl st.env)) (λv eff=>XR pg kb rs ⟨eH st.env d v,eff.app st.hp⟩ A t) ⟨⟩) (λ_=>XR pg kb rs ⟨eH st.env d (.tup []),st.hp⟩ A t) ⟨⟩:=
 XW d k xs g b bef s rs st A
theorem aHz(st:St)(A:St->List Eff->Prop)(t:Tok A):XT pg kb [] st A t=A st []:=aIi st A
theorem aBH(d:Option Nat)(k:K)(xs:List X)(bef s:Nat)(rs:List R)(st:St)(A:St->List Eff->Prop)(t:Tok A) :
  XT pg kb (⟨d,k,xs,none,bef,s⟩::rs) st A t=XO pg kb k s st.hp (xs.map (X.ev pg.gl st.env)) (λv eff=>XT pg kb rs ⟨eH st.env d v,eff.app st.hp⟩ (λst' es=>A st' (eff::es)) ⟨⟩) ⟨⟩:=QH d k xs bef s rs st A
theorem XF(d:Option Nat)(k:K)(xs:List X)(g:Nat)(b:Bool)(bef s:Nat)(rs:List R)(st:St)(A:St->List Eff->Prop)(t:Tok A) :
  XT pg kb (⟨d,k,xs,some (g,b),bef,s⟩::rs) st A t =
   XG (gB st.env g) b (λ_=>XO pg kb k s st.hp (xs.map (X.ev pg.gl st.env)) (λv eff=>XT pg kb rs ⟨eH st.env d v,eff.app st.hp⟩ (λst' es=>A st' (eff::es)) ⟨⟩) ⟨⟩)
    (λ_=>XT pg kb rs ⟨eH st.env d (.tup []),st.hp⟩ (λst' es=>A st' (.pat [] []::es)) ⟨⟩) ⟨⟩:=
 XS d k xs g b bef s rs st A
theorem QF(A B:Unit->Prop)(t:Tok (A,B)):XC (.bool true) A B t=A ():=rfl
theorem LN(A B:Unit->Prop)(t:Tok (A,B)):XC (.bool false) A B t=B ():=rfl
theorem bZ{c:Bool}{A B:Unit->Prop}{t:Tok (A,B)}(h1:c=true->A ())(h2:c=false->B ()):XC (.bool c) A B t:=by cases c;exact h2 rfl;exact h1 rfl
theorem aFb(A B:Unit->Prop)(t:Tok (A,B)):XG (.bool true) true A B t=A ():=rfl
theorem aFf(A B:Unit->Prop)(t:Tok (A,B)):XG (.bool false) false A B t=A ():=rfl
theorem aFc(A B:Unit->Prop)(t:Tok (A,B)):XG (.bool true) false A B t=B ():=rfl
theorem aFe(A B:Unit->Prop)(t:Tok (A,B)):XG (.bool false) true A B t=B ():=rfl
theorem aFd(b:Bool)(A B:Unit->Prop)(t:Tok (A,B)):XG (.tup []) b A B t=B ():=rfl
theorem bW{c b:Bool}{A B:Unit->Prop}{t:Tok (A,B)}(h1:c=true->XG (.bool true) b A B t)(h2:c=false->XG (.bool false) b A B t):XG (.bool c) b A B t:=by cases c;exact h2 rfl;exact h1 rfl
theorem QB(v:AV)(e:Eff)(Q:AV->Eff->Prop)(t:Tok Q):XV (some (v,e)) Q t=Q v e:=rfl
theorem cX{f s:Nat}{th:Bool}{h:Hp}{vs ts:List AV}{keys:List Nat}{r v:AV}{pa:List Ent}{Q:AV->Eff->Prop}{t:Tok Q}(hr:Ret pg f ts r)
  (hm:mapS (snap depth h) vs=some (ts,keys)) (hv:hU h (kb+s) th r=some (v,pa)) (q:Q v (.pat ((kb+s)::keys) ((if r.flat then [] else aI h keys)++pa))) :
  XO pg kb (.call f th false) s h vs Q t:=(aBW hr hm hv).mpr q
theorem dA(d:Nat)(h:Hp):∀{vs:List AV},treeL vs=true->mapS (snap (d+1) h) vs=some (vs,[])
 |[],_=>rfl
 |x::r,q=>by
  simp only[treeL,aD]at q;have e:snap (d+1) h x=some (x,[]):=by unfold snap;rw[if_pos q.1]
  rw[mapS,e,dA d h q.2];rfl
def AV.notOs:AV->Bool
 |.os .. => false
 |_=>true
theorem gO{f s:Nat}{th:Bool}{h:Hp}{vs:List AV}{r:AV}{Q:AV->Eff->Prop}{t:Tok Q}(hr:Ret pg f vs r)
  (hm:treeL vs=true) (hv:r.notOs=true) (q:Q r (.pat [kb+s] [])) :
  XO pg kb (.call f th false) s h vs Q t:=by
 refine cX hr (dA 63 h hm) (v:=r) (pa:=[]) ?_ ?_;cases r<;>first|rfl|simp[AV.notOs]at hv
 have:(if r.flat then ([]:List Ent) else aI h [])++[]=[]:=by split<;>rfl
 rw[this];exact q
theorem aC{f s:Nat}{th:Bool}{h:Hp}{vs:List AV}{r:AV}{Q:AV->Eff->Prop}{t:Tok Q}(hr:Ret pg f vs r)(q:Q r (.pat [kb+s] []))(hm:treeL vs=true:=by simp only[go_sem,seval])(hv:r.notOs=true:=by rfl):XO pg kb (.call f th false) s h vs Q t:=gO hr hm hv q
theorem Wk{P Q:Prop}(h:Q)(e:P=Q:=by simp only[go_sem,seval];rfl):P:=e.mpr h
theorem cN{a b:Prop}(h:b)(k:a:=by kernel_rfl):a/\b:=⟨k,h⟩
theorem LM{f s:Nat}{th im:Bool}{h h':Hp}{vs:List AV}{r:AV}{Q:AV->Eff->Prop}{t:Tok Q}(hm:im=true\/mapS (snap depth h) vs=none){B:Nat}(hB:gX kb s vs=B)(hr:tE pg f vs B h r h')
   (hq:Q r (.whole h')):XO pg kb (.call f th im) s h vs Q t:=XY hm hB hr hq
theorem XK{f s:Nat}{th im:Bool}{h:Hp}{cs args:List AV}{Q:AV->Eff->Prop}{t:Tok Q} :
  XO pg kb (.callv th im) s h (.fn f cs::args) Q t=XO pg kb (.call f th im) s h (args++cs) Q t:=rfl
theorem Ret.ofX{f:Nat}{cf:CF}{vs:List AV}{r:AV}(hf:pg.fs f=some cf)(hw:XX pg 0 cf.body ⟨enter cf vs,[]⟩ (JR cf.res r) ⟨⟩):Ret pg f vs r:=Ret.of hf hw
def VP(res:List (Sum Nat (Nat×Nat×Bool)))(r:AV)(h:Hp)(ex:Ex)(st:St):Prop:=(match ex with|.ext _=>False|_=>True)/\result st res=some r/\st.hp=h
theorem tE.ofX{f:Nat}{cf:CF}{vs:List AV}{h:Hp}{r:AV}{h':Hp}(hf:pg.fs f=some cf)(hw:XX pg kb cf.body ⟨enter cf vs,h⟩ (VP cf.res r h') ⟨⟩):tE pg f vs kb h r h':=tE.of hf hw
theorem VN(res:List (Sum Nat (Nat×Nat×Bool)))(r:AV)(h:Hp)(st:St):VP res r h .nor st=(result st res=some r/\st.hp=h):=by simp[VP]
theorem VM(res:List (Sum Nat (Nat×Nat×Bool)))(r:AV)(h:Hp)(st:St):VP res r h .ret st=(result st res=some r/\st.hp=h):=by simp[VP]
theorem aBJ(s:Nat)(h:Hp)(c a b:Bool)(Q:AV->Eff->Prop)(t:Tok Q):XO pg kb .pick s h [.bool c,.bool a,.bool b] Q t=Q (.bool (bif c then a else b)) (.pat [] []):=by show WO pg kb .pick s h _ Q=_;rw[cG rfl];cases c<;>rfl
theorem SR(s:Nat)(h:Hp)(a b:AV)(Q:AV->Eff->Prop)(t:Tok Q):XO pg kb .pick s h [.bool true,a,b] Q t=Q a (.pat [] []):=by show WO pg kb .pick s h _ Q=_;rw[cG rfl];rfl
theorem SS(s:Nat)(h:Hp)(a b:AV)(Q:AV->Eff->Prop)(t:Tok Q):XO pg kb .pick s h [.bool false,a,b] Q t=Q b (.pat [] []):=by show WO pg kb .pick s h _ Q=_;rw[cG rfl];rfl
theorem aHH(s:Nat)(h:Hp)(vs:List AV)(Q:AV->Eff->Prop)(t:Tok Q):XO pg kb (.mov) s h vs Q t=XV (PF vs) Q ⟨⟩:=cG rfl s h vs Q
theorem aIb(s:Nat)(h:Hp)(vs:List AV)(Q:AV->Eff->Prop)(t:Tok Q):XO pg kb (.box) s h vs Q t=XV (fW h (kb+s) vs) Q ⟨⟩:=cG rfl s h vs Q
theorem XP(z:List AV)(ag:Bool)(s:Nat)(h:Hp)(vs:List AV)(Q:AV->Eff->Prop)(t:Tok Q):XO pg kb (.alloc z ag) s h vs Q t=XV (xU h (kb+s) z ag vs) Q ⟨⟩:=cG rfl s h vs Q
theorem XN(z:List AV)(ps:List (Nat×Nat))(s:Nat)(h:Hp)(vs:List AV)(Q:AV->Eff->Prop)(t:Tok Q):XO pg kb (.build z ps) s h vs Q t=XV (xS z ps vs) Q ⟨⟩:=cG rfl s h vs Q
theorem aBL(e:Nat)(ag own:Bool)(s:Nat)(h:Hp)(vs:List AV)(Q:AV->Eff->Prop)(t:Tok Q):XO pg kb (.mkSl e ag own) s h vs Q t=XV (FR h (kb+s) e ag own vs) Q ⟨⟩:=cG rfl s h vs Q
theorem aBN(sz:Nat)(ag:Bool)(s:Nat)(h:Hp)(vs:List AV)(Q:AV->Eff->Prop)(t:Tok Q):XO pg kb (.load sz ag) s h vs Q t=XV (vK h sz ag vs) Q ⟨⟩:=cG rfl s h vs Q
theorem XI(sz:Nat)(ag:Bool)(s:Nat)(h:Hp)(vs:List AV)(Q:AV->Eff->Prop)(t:Tok Q):XO pg kb (.store sz ag) s h vs Q t=XV (xR h sz ag vs) Q ⟨⟩:=cG rfl s h vs Q
theorem aBK(s:Nat)(h:Hp)(vs:List AV)(Q:AV->Eff->Prop)(t:Tok Q):XO pg kb (.nilc) s h vs Q t=XV (FQ vs) Q ⟨⟩:=cG rfl s h vs Q
theorem aIc(op:BinOp)(s:Nat)(h:Hp)(vs:List AV)(Q:AV->Eff->Prop)(t:Tok Q):XO pg kb (.bin op) s h vs Q t=XV (JP op vs) Q ⟨⟩:=cG rfl s h vs Q
theorem aId(ng:Bool)(s:Nat)(h:Hp)(vs:List AV)(Q:AV->Eff->Prop)(t:Tok Q):XO pg kb (.beq ng) s h vs Q t=XV (PQ ng vs) Q ⟨⟩:=cG rfl s h vs Q
theorem aHV(q:Nat)(ng:Bool)(s:Nat)(h:Hp)(vs:List AV)(Q:AV->Eff->Prop)(t:Tok Q):XO pg kb (.eqn q ng) s h vs Q t=XV (PM q ng vs) Q ⟨⟩:=cG rfl s h vs Q
theorem aHU(ng:Bool)(qs:List Nat)(s:Nat)(h:Hp)(vs:List AV)(Q:AV->Eff->Prop)(t:Tok Q):XO pg kb (.eqs ng qs) s h vs Q t=XV (wT ng qs vs) Q ⟨⟩:=cG rfl s h vs Q
theorem aLM(op:UnOp)(s:Nat)(h:Hp)(vs:List AV)(Q:AV->Eff->Prop)(t:Tok Q):XO pg kb (.un op) s h vs Q t=XV (ZF op vs) Q ⟨⟩:=cG rfl s h vs Q
theorem aHY(i:IntKind)(s:Nat)(h:Hp)(vs:List AV)(Q:AV->Eff->Prop)(t:Tok Q):XO pg kb (.cvi i) s h vs Q t=XV (PO i vs) Q ⟨⟩:=cG rfl s h vs Q
theorem aHX(s:Nat)(h:Hp)(vs:List AV)(Q:AV->Eff->Prop)(t:Tok Q):XO pg kb (.cvs) s h vs Q t=XV (PN vs) Q ⟨⟩:=cG rfl s h vs Q
theorem aHE(s:Nat)(h:Hp)(vs:List AV)(Q:AV->Eff->Prop)(t:Tok Q):XO pg kb (.s2b) s h vs Q t=XV (PC vs) Q ⟨⟩:=cG rfl s h vs Q
theorem aIe(s:Nat)(h:Hp)(vs:List AV)(Q:AV->Eff->Prop)(t:Tok Q):XO pg kb (.b2s) s h vs Q t=XV (PR h vs) Q ⟨⟩:=cG rfl s h vs Q
theorem aHR(off sz:Nat)(ag:Bool)(s:Nat)(h:Hp)(vs:List AV)(Q:AV->Eff->Prop)(t:Tok Q):XO pg kb (.fld off sz ag) s h vs Q t=XV (fU off sz ag vs) Q ⟨⟩:=cG rfl s h vs Q
theorem aHS(off sz:Nat)(ag:Bool)(s:Nat)(h:Hp)(vs:List AV)(Q:AV->Eff->Prop)(t:Tok Q):XO pg kb (.fad off sz ag) s h vs Q t=XV (fV off sz ag vs) Q ⟨⟩:=cG rfl s h vs Q
theorem aHQ(e:Nat)(ag:Bool)(arr:Option Nat)(s:Nat)(h:Hp)(vs:List AV)(Q:AV->Eff->Prop)(t:Tok Q):XO pg kb (.iad e ag arr) s h vs Q t=XV (uG e ag arr vs) Q ⟨⟩:=cG rfl s h vs Q
theorem aHO(s:Nat)(h:Hp)(vs:List AV)(Q:AV->Eff->Prop)(t:Tok Q):XO pg kb (.ixs) s h vs Q t=XV (PK vs) Q ⟨⟩:=cG rfl s h vs Q
theorem aHP(len e:Nat)(ag:Bool)(s:Nat)(h:Hp)(vs:List AV)(Q:AV->Eff->Prop)(t:Tok Q):XO pg kb (.ixa len e ag) s h vs Q t=XV (PL len e ag vs) Q ⟨⟩:=cG rfl s h vs Q
theorem aHC(e:Nat)(lo hi mx:Bool)(s:Nat)(h:Hp)(vs:List AV)(Q:AV->Eff->Prop)(t:Tok Q):XO pg kb (.slc e lo hi mx) s h vs Q t=XV (oZ h e lo hi mx vs) Q ⟨⟩:=cG rfl s h vs Q
theorem aHB(lo hi:Bool)(s:Nat)(h:Hp)(vs:List AV)(Q:AV->Eff->Prop)(t:Tok Q):XO pg kb (.sls lo hi) s h vs Q t=XV (wR lo hi vs) Q ⟨⟩:=cG rfl s h vs Q
theorem aHD(len e:Nat)(lo hi:Bool)(s:Nat)(h:Hp)(vs:List AV)(Q:AV->Eff->Prop)(t:Tok Q):XO pg kb (.sla len e lo hi) s h vs Q t=XV (PB h len e lo hi vs) Q ⟨⟩:=cG rfl s h vs Q
theorem aHJ(e:Nat)(ag:Bool)(bytes:Nat)(z:List AV)(s:Nat)(h:Hp)(vs:List AV)(Q:AV->Eff->Prop)(t:Tok Q):XO pg kb (.mks e ag bytes z) s h vs Q t=XV (PG h (kb+s) e ag bytes z vs) Q ⟨⟩:=cG rfl s h vs Q
theorem aHN(q:Nat)(s:Nat)(h:Hp)(vs:List AV)(Q:AV->Eff->Prop)(t:Tok Q):XO pg kb (.len q) s h vs Q t=XV (oC h q vs) Q ⟨⟩:=cG rfl s h vs Q
theorem aBO(n:Nat)(s:Nat)(h:Hp)(vs:List AV)(Q:AV->Eff->Prop)(t:Tok Q):XO pg kb (.lenc n) s h vs Q t=XV (FT n vs) Q ⟨⟩:=cG rfl s h vs Q
theorem aIa(s:Nat)(h:Hp)(vs:List AV)(Q:AV->Eff->Prop)(t:Tok Q):XO pg kb (.cap) s h vs Q t=XV (PP h vs) Q ⟨⟩:=cG rfl s h vs Q
theorem qK(e:Nat)(ag:Bool)(bytes:Nat)(s:Nat)(h:Hp)(vs:List AV)(Q:AV->Eff->Prop)(t:Tok Q):XO pg kb (.app e ag bytes) s h vs Q t=XV (o7 h (kb+s) e ag bytes vs) Q ⟨⟩:=cG rfl s h vs Q
theorem aHZ(e:Nat)(ag:Bool)(s:Nat)(h:Hp)(vs:List AV)(Q:AV->Eff->Prop)(t:Tok Q):XO pg kb (.cpy e ag) s h vs Q t=XV (DF h e ag vs) Q ⟨⟩:=cG rfl s h vs Q
theorem aLO(s:Nat)(h:Hp)(vs:List AV)(Q:AV->Eff->Prop)(t:Tok Q):XO pg kb (.mn) s h vs Q t=XV (ZH vs) Q ⟨⟩:=cG rfl s h vs Q
theorem aLN(s:Nat)(h:Hp)(vs:List AV)(Q:AV->Eff->Prop)(t:Tok Q):XO pg kb (.mx) s h vs Q t=XV (ZG vs) Q ⟨⟩:=cG rfl s h vs Q
theorem aHT(i:Nat)(s:Nat)(h:Hp)(vs:List AV)(Q:AV->Eff->Prop)(t:Tok Q):XO pg kb (.ext i) s h vs Q t=XV (JO i vs) Q ⟨⟩:=cG rfl s h vs Q
theorem aHL(s:Nat)(h:Hp)(vs:List AV)(Q:AV->Eff->Prop)(t:Tok Q):XO pg kb (.mki) s h vs Q t=XV (PI vs) Q ⟨⟩:=cG rfl s h vs Q
theorem aHM(f:Nat)(s:Nat)(h:Hp)(vs:List AV)(Q:AV->Eff->Prop)(t:Tok Q):XO pg kb (.mkf f) s h vs Q t=XV (PJ f vs) Q ⟨⟩:=cG rfl s h vs Q
theorem RM(a:AV)(l:List AV):gB (a::l) 0=a:=rfl
theorem RN(a:AV)(l:List AV)(n:Nat):gB (a::l) (n+1)=gB l n:=by simp[gB]
theorem QY(l:List AV)(v:AV):eH l none v=l:=rfl
theorem QW(a:AV)(l:List AV)(v:AV):eH (a::l) (some 0) v=v::l:=rfl
theorem QX(a:AV)(l:List AV)(v:AV)(n:Nat):eH (a::l) (some (n+1)) v=a::eH l (some n) v:=rfl
theorem aBB(h:Hp)(rd:List Nat):Eff.app h (.pat rd [])=h:=rfl
theorem lV(h:Hp)(rd:List Nat)(k e:Nat)(o:Ob):Eff.app h (.pat rd [⟨k,e,o⟩])=h.put k e o:=rfl
theorem HJ(h:Hp)(rd:List Nat)(k e k' e':Nat)(o o':Ob):Eff.app h (.pat rd [⟨k,e,o⟩,⟨k',e',o'⟩])=(h.put k e o).put k' e' o':=rfl
theorem SQ(h h':Hp):Eff.app h (.whole h')=h':=rfl
theorem SK(v:AV):val v=some (v,.pat [] []):=rfl
theorem Y2(h:Hp)(k:Nat)(o:Ob)(v:Nat->AV):nM h k o v=some (v (h.next k),.pat [k] [⟨k,h.next k,o⟩]):=rfl
theorem UE(k:Nat):Hp.next [] k=0:=rfl
theorem UD(h:Hp)(k e:Nat)(o:Ob)(q:Nat):(h.put k e o).next q=if k=q then e+1 else h.next q:=by simp only[Hp.next,aB];by_cases c:k=q<;>simp[c]
theorem O7(k:Nat):Hp.get [] k=none:=rfl
theorem RK(cs:List AV):AV.isAgg (.agg cs)=true:=rfl
theorem SD(cs:List AV):AV.cells (.agg cs)=cs:=rfl
theorem CN(cs:List AV)(off sz:Nat):eY cs off sz true=if off+sz<=cs.length then some (.agg ((cs.drop off).take sz)) else none:=rfl
theorem Q8(cs:List AV)(off sz:Nat):eY cs off sz false=cs[off]?:=rfl
theorem N9{α β : Type}(x : α)(f : α -> Option β):(some x).bind f=f x:=rfl
theorem RD{α β : Type}(x : α)(f : α -> β):(some x).map f=some (f x):=rfl
theorem aIl(e:List AV)(h:Hp):(St.mk e h).env=e:=rfl
theorem aLP(e:List AV)(h:Hp):(St.mk e h).hp=h:=rfl
theorem aCc(a b:Nat)(c:List (Sum Nat (Nat×Nat×Bool)))(d:C):(CF.mk a b c d).body=d:=rfl
theorem aIq(a b:Nat)(c:List (Sum Nat (Nat×Nat×Bool)))(d:C):(CF.mk a b c d).res=c:=rfl
theorem aLT(a b:Nat)(c:List (Sum Nat (Nat×Nat×Bool)))(d:C):(CF.mk a b c d).nt=b:=rfl
theorem fits_bool(b:Bool)(sz:Nat)(ag:Bool):AV.fits (.bool b) sz ag=(!ag&&sz==1):=rfl
theorem QQ(b:Bool):AV.tree (.bool b)=true:=by simp[AV.tree]
theorem fits_int(k:IntKind)(n:Int)(sz:Nat)(ag:Bool):AV.fits (.int k n) sz ag=(!ag&&sz==1):=rfl
theorem S3(k:IntKind)(n:Int):AV.tree (.int k n)=true:=by simp[AV.tree]
theorem fits_str(b:List UInt8)(sz:Nat)(ag:Bool):AV.fits (.str b) sz ag=(!ag&&sz==1):=rfl
theorem S2(b:List UInt8):AV.tree (.str b)=true:=by simp[AV.tree]
theorem fits_sl(nl:Bool)(es:List AV)(cl:Bool)(sz:Nat)(ag:Bool):AV.fits (.sl nl es cl) sz ag=(!ag&&sz==1):=rfl
theorem tH(nl:Bool)(es:List AV)(cl:Bool):AV.tree (.sl nl es cl)=treeL es:=by simp[AV.tree]
theorem fits_fp(v:AV)(sz:Nat)(ag:Bool):AV.fits (.fp v) sz ag=(!ag&&sz==1):=rfl
theorem YD(v:AV):AV.tree (.fp v)=v.tree:=by simp[AV.tree]
theorem fits_nilp  (sz:Nat) (ag:Bool):AV.fits (.nilp ) sz ag=(!ag&&sz==1):=rfl
theorem QN  : AV.tree (.nilp )=true:=by simp[AV.tree]
theorem fits_nilf  (sz:Nat) (ag:Bool):AV.fits (.nilf ) sz ag=(!ag&&sz==1):=rfl
theorem QP  : AV.tree (.nilf )=true:=by simp[AV.tree]
theorem fits_nili  (sz:Nat) (ag:Bool):AV.fits (.nili ) sz ag=(!ag&&sz==1):=rfl
theorem QO  : AV.tree (.nili )=true:=by simp[AV.tree]
theorem fits_fn(f:Nat)(cs:List AV)(sz:Nat)(ag:Bool):AV.fits (.fn f cs) sz ag=(!ag&&sz==1):=rfl
theorem xL(f:Nat)(cs:List AV):AV.tree (.fn f cs)=treeL cs:=by simp[AV.tree]
theorem fits_rf(k e o l c:Nat)(sz:Nat)(ag:Bool):AV.fits (.rf k e o l c) sz ag=(!ag&&sz==1):=rfl
theorem YB(k e o l c:Nat):AV.tree (.rf k e o l c)=false:=by simp[AV.tree]
theorem fits_pt(k e o:Nat)(sz:Nat)(ag:Bool):AV.fits (.pt k e o) sz ag=(!ag&&sz==1):=rfl
theorem YC(k e o:Nat):AV.tree (.pt k e o)=false:=by simp[AV.tree]
theorem fits_ifc(v:AV)(sz:Nat)(ag:Bool):AV.fits (.ifc v) sz ag=(!ag&&sz==1):=rfl
theorem S4(v:AV):AV.tree (.ifc v)=v.tree:=by simp[AV.tree]
theorem fits_agg(cs:List AV)(sz:Nat)(ag:Bool):AV.fits (.agg cs) sz ag=(ag&&cs.length==sz):=rfl
theorem S5(cs:List AV):AV.tree (.agg cs)=treeL cs:=by simp[AV.tree]
theorem S1(cs:List AV):AV.tree (.tup cs)=treeL cs:=by simp[AV.tree]
theorem UA(b:Bool):AV.one (.bool b)=true:=rfl
theorem YZ(k:IntKind)(n:Int):AV.one (.int k n)=true:=rfl
theorem YY(b:List UInt8):AV.one (.str b)=true:=rfl
theorem aGh(nl:Bool)(es:List AV)(cl:Bool):AV.one (.sl nl es cl)=true:=rfl
theorem aGk(v:AV):AV.one (.fp v)=true:=rfl
theorem T7  : AV.one (.nilp )=true:=rfl
theorem T9  : AV.one (.nilf )=true:=rfl
theorem T8  : AV.one (.nili )=true:=rfl
theorem aGl(f:Nat)(cs:List AV):AV.one (.fn f cs)=true:=rfl
theorem aGi(k e o l c:Nat):AV.one (.rf k e o l c)=true:=rfl
theorem aGj(k e o:Nat):AV.one (.pt k e o)=true:=rfl
theorem Y0(v:AV):AV.one (.ifc v)=true:=rfl
theorem RQ(b:Bool):AV.flat (.bool b)=true:=by simp[AV.flat]
theorem U9(k:IntKind)(n:Int):AV.flat (.int k n)=true:=by simp[AV.flat]
theorem U8(b:List UInt8):AV.flat (.str b)=true:=by simp[AV.flat]
attribute [go_sem] UA YZ YY aGh aGk T7 T9 T8 aGl aGi aGj Y0 RQ U9 U8 List.append_nil
theorem US(nl:Bool)(es:List AV)(cl:Bool):AV.isNil 1 (.sl nl es cl)=some nl:=rfl
theorem UT(k e o l c:Nat):AV.isNil 1 (.rf k e o l c)=some false:=rfl
theorem ML:AV.isNil 4 .nili=some true:=rfl
theorem RG(v:AV):AV.isNil 4 (.ifc v)=some false:=rfl
theorem MK:AV.isNil 0 .nilp=some true:=rfl
theorem UV(v:AV):AV.isNil 0 (.fp v)=some false:=rfl
theorem UU(k e o:Nat):AV.isNil 0 (.pt k e o)=some false:=rfl
theorem MM:AV.isNil 3 .nilf=some true:=rfl
theorem UW(f:Nat)(cs:List AV):AV.isNil 3 (.fn f cs)=some false:=rfl
attribute [go_sem ↓] aBD aBF aHx aHy aBE aBG aHw XE aHA aBI XH aHz aBH XF QF LN aFb aFf aFc aFe aFd QB
 QS QT QR N7 N8 N6 VG VF VN VM
attribute [go_sem] QF LN aFb aFf aFc aFe aFd QB XK aBJ SR SS
 aHH aIb XP XN aBL aBN XI aBK aIc aId aHV aHU aLM aHY aHX aHE aIe aHR aHS aHQ aHO aHP aHC aHB aHD aHJ aHN aBO aIa aHZ aLO aLN aHT aHL aHM
theorem N4(b:Bool):AV.cells (.bool b)=[.bool b]:=rfl
theorem MQ(b:Bool):AV.isAgg (.bool b)=false:=rfl
theorem SA(k:IntKind)(n:Int):AV.cells (.int k n)=[.int k n]:=rfl
theorem RI(k:IntKind)(n:Int):AV.isAgg (.int k n)=false:=rfl
theorem R9(b:List UInt8):AV.cells (.str b)=[.str b]:=rfl
theorem RH(b:List UInt8):AV.isAgg (.str b)=false:=rfl
theorem WP(nl:Bool)(es:List AV)(cl:Bool):AV.cells (.sl nl es cl)=[.sl nl es cl]:=rfl
theorem UY(nl:Bool)(es:List AV)(cl:Bool):AV.isAgg (.sl nl es cl)=false:=rfl
theorem WV(v:AV):AV.cells (.fp v)=[.fp v]:=rfl
theorem U2(v:AV):AV.isAgg (.fp v)=false:=rfl
theorem N1  : AV.cells (.nilp )=[.nilp ]:=rfl
theorem MN  : AV.isAgg (.nilp )=false:=rfl
theorem N3  : AV.cells (.nilf )=[.nilf ]:=rfl
theorem MP  : AV.isAgg (.nilf )=false:=rfl
theorem N2  : AV.cells (.nili )=[.nili ]:=rfl
theorem MO  : AV.isAgg (.nili )=false:=rfl
theorem WW(f:Nat)(cs:List AV):AV.cells (.fn f cs)=[.fn f cs]:=rfl
theorem U3(f:Nat)(cs:List AV):AV.isAgg (.fn f cs)=false:=rfl
theorem WQ(k e o l c:Nat):AV.cells (.rf k e o l c)=[.rf k e o l c]:=rfl
theorem UZ(k e o l c:Nat):AV.isAgg (.rf k e o l c)=false:=rfl
theorem WS(k e o:Nat):AV.cells (.pt k e o)=[.pt k e o]:=rfl
theorem U0(k e o:Nat):AV.isAgg (.pt k e o)=false:=rfl
theorem SC(v:AV):AV.cells (.ifc v)=[.ifc v]:=rfl
theorem RJ(v:AV):AV.isAgg (.ifc v)=false:=rfl
attribute [go_sem] N4 MQ SA RI R9 RH WP UY WV U2 N1 MN N3 MP N2 MO WW U3 WQ UZ WS U0 SC RJ List.all_cons List.all_nil
attribute [go_sem] RM RN QY QW QX aB aBB lV HJ SQ SK Y2 O7 UE UD
 RK SD CN Q8 aGK exists_eq_left' N9 RD X.ev aIl aLP aCc aIq aLT
 PF fW xU xS FR vK xR FQ JP PQ PM wT ZF PO PN PC PR fU fV uG PK PL oZ wR PB PG oC FT PP o7 DF ZH ZG JO PI PJ
 W5 bin aHp W4 oB eF US UT ML RG MK UV UU MM UW fits_agg fits_bool fits_int fits_str fits_sl fits_fp fits_nilp fits_fn fits_rf fits_pt fits_nilf fits_nili fits_ifc  bC QQ S3 S2 S5 S1 tH YD QN QO QP xL S4 YB YC eqC enter result oJ wE
 List.map_cons List.map_nil List.length_cons List.length_nil List.replicate_succ List.replicate_zero List.cons_append List.nil_append List.getElem?_cons_zero List.getElem?_cons_succ List.drop_zero List.drop_succ_cons List.take_succ_cons List.take_zero
 Option.getD_some
end
section
attribute [go_sem] Nat.succ_eq_add_one Bool.and_true Bool.true_and Bool.and_false Bool.false_and Bool.or_true Bool.true_or Bool.or_false Bool.false_or Bool.not_true Bool.not_false Bool.false_eq_true cond_true cond_false Int.natCast_nonneg Int.toNat_natCast List.length_map List.getElem?_map and_self and_true true_and decide_true decide_false ite_true ite_false if_true if_false not_false_eq_true not_true_eq_false Int.lt_irrefl Bool.and_self Bool.or_self Bool.not_eq_true Bool.not_eq_false eq_self Int.toNat_zero Int.le_refl Int.natCast_zero Nat.zero_le Option.isSome_none Option.isSome_some beq_self_eq_true Option.getD_none Option.isNone_none Option.isNone_some ne_eq
def big:Nat:=16777216
structure Str where
 bs:List UInt8
 ok:bs.length<=big
def Str.av(s:Str):AV:=.str s.bs
structure Sl(α : Type) where
 nl:Bool
 es:List α
 cl:Bool
 ok:es.length<=big
def Sl.av{α : Type}(f : α -> AV)(s:Sl α):AV:=.sl s.nl (s.es.map f) s.cl
def aV(n:Int):AV:=.int .i64 n
structure aR where
 v:Str
 c:Int
def aR.av(x:aR):AV:=.agg [.str x.v.bs,.int .i64 x.c]
structure Lin where
 c:Int
 ts:Sl aR
def Lin.av(x:Lin):AV:=.agg [.int .i64 x.c,x.ts.av aR.av]
structure cB where
 row:Str
 dims:Sl Lin
def cB.av(x:cB):AV:=.agg [.str x.row.bs,x.dims.av Lin.av]
structure Typ where
 elem:Str
 shape:cB
def Typ.av(x:Typ):AV:=.agg [.str x.elem.bs,.str x.shape.row.bs,x.shape.dims.av Lin.av]
structure aE where
 op:Str
 num:Int
 args:Sl Int
def aE.av(x:aE):AV:=.agg [.str x.op.bs,.int .i64 x.num,x.args.av aV]
structure Val where
 v:Str
 n:Int
def Val.av(x:Val):AV:=.agg [.str x.v.bs,.int .i64 x.n]
inductive aA where
 |mk (op:Str) (num value:Int) (name:Str) (at_:Sl Lin) (dyn:Bool) (check:Int) (fn:Sl aE) (knl:Bool) (kids:List aA) (kcl:Bool)
namespace aA
def op:aA->Str|mk a _ _ _ _ _ _ _ _ _ _=>a
def num:aA->Int|mk _ a _ _ _ _ _ _ _ _ _=>a
def value:aA->Int|mk _ _ a _ _ _ _ _ _ _ _=>a
def name:aA->Str|mk _ _ _ a _ _ _ _ _ _ _=>a
def at_:aA->Sl Lin|mk _ _ _ _ a _ _ _ _ _ _=>a
def dyn:aA->Bool|mk _ _ _ _ _ a _ _ _ _ _=>a
def check:aA->Int|mk _ _ _ _ _ _ a _ _ _ _=>a
def fn:aA->Sl aE|mk _ _ _ _ _ _ _ a _ _ _=>a
def knl:aA->Bool|mk _ _ _ _ _ _ _ _ a _ _=>a
def kids:aA->List aA|mk _ _ _ _ _ _ _ _ _ a _=>a
def kcl:aA->Bool|mk _ _ _ _ _ _ _ _ _ _ a=>a
end aA
mutual
def aA.av:aA->AV
 |.mk op num value name at_ dyn check fn knl kids kcl=>
  .agg [.str op.bs,.int .i64 num,.int .i64 value,.str name.bs,at_.av Lin.av,.bool dyn,.int .i64 check,fn.av aE.av,.sl knl (aA.avs kids) kcl]
def aA.avs:List aA->List AV
 |[]=>[]
 |p::r=>p.av::aA.avs r
end
theorem aA.avs_eq:∀l:List aA,aA.avs l=l.map aA.av
 |[]=>by simp[aA.avs]
 |p::r=>by simp[aA.avs,aA.avs_eq r]
def aA.kav(p:aA):AV:=.sl p.knl (p.kids.map aA.av) p.kcl
def aA.cells(p:aA):List AV:=
 [.str p.op.bs,.int .i64 p.num,.int .i64 p.value,.str p.name.bs,p.at_.av Lin.av,.bool p.dyn,.int .i64 p.check,p.fn.av aE.av,p.kav]
theorem aA.av_eq(p:aA):p.av = .agg p.cells:=by cases p;simp[aA.av,aA.cells,aA.kav,aA.avs_eq,op,num,value,name,at_,dyn,check,fn,knl,kids,kcl]
mutual
def aA.ok:aA->Prop
 |.mk _ _ _ _ _ _ _ _ _ kids _=>kids.length<=big/\aA.oks kids
def aA.oks:List aA->Prop
 |[]=>True
 |p::r=>p.ok/\aA.oks r
end
theorem aA.oks_iff:∀l:List aA,aA.oks l↔∀p∈l,p.ok
 |[]=>by simp[aA.oks]
 |p::r=>by simp[aA.oks,aA.oks_iff r]
theorem aA.ok_iff(p:aA):p.ok↔p.kids.length<=big/\∀q∈p.kids,q.ok:=by cases p;simp[aA.ok,aA.oks_iff,kids]
structure aK where
 kind:Int
 value:Int
 space:Sl Lin
 body:aA
 fn:Sl aE
 source:Int
 index:aA
 check:Int
def aK.cells(x:aK):List AV:=
 [.int .i64 x.kind,.int .i64 x.value,x.space.av Lin.av]++x.body.cells++[x.fn.av aE.av,.int .i64 x.source]++x.index.cells++[.int .i64 x.check]
def aK.av(x:aK):AV:=.agg x.cells
structure aF where
 vars:Sl Str
 wher:Sl Lin
 inputs:Int
 values:Sl Typ
 list:Sl aK
 results:Sl Int
def aF.cells(k:aF):List AV:=
 [k.vars.av Str.av,k.wher.av Lin.av,.int .i64 k.inputs,k.values.av Typ.av,k.list.av aK.av,k.results.av aV]
def aF.av(k:aF):AV:=.agg k.cells
theorem bQ{α : Type}{f : α -> AV}(h:∀x,(f x).tree=true):∀l:List α,treeL (l.map f)=true
 |[]=>rfl
 |x::r=>by simp[treeL,h x,bQ h r]
theorem C3(n:Int):(aV n).tree=true:=rfl
theorem Str.tree(s:Str):(Str.av s).tree=true:=rfl
theorem sS(l:List Int):treeL (l.map aV)=true:=bQ C3 l
theorem Str.treeL(l:List Str):Tev.treeL (l.map Str.av)=true:=bQ Str.tree l
theorem Y8(n:Int):aV n = .int .i64 n:=rfl
theorem Str.av_eq(s:Str):Str.av s = .str s.bs:=rfl
attribute [go_sem] C3 Str.tree sS Str.treeL Y8 Str.av_eq Tev.treeL Sl.av
theorem aR.avc(x:aR):aR.av x = .agg [.str x.v.bs,.int .i64 x.c]:=rfl
theorem aR.cells_av(x:aR):(aR.av x).cells=[.str x.v.bs,.int .i64 x.c]:=by rw[aR.avc];rfl
theorem aR.isAgg_av(x:aR):(aR.av x).isAgg=true:=by rw[aR.avc];rfl
theorem aR.fits_av(x:aR):(aR.av x).fits 2 true=true:=by rw[aR.avc];rfl
theorem aR.tree_av(x:aR):(aR.av x).tree=true:=by rw[aR.avc];simp[go_sem]
theorem aR.treeL_av(l:List aR):Tev.treeL (l.map aR.av)=true:=bQ aR.tree_av l
theorem aR.fld_av(off sz:Nat)(ag:Bool)(x:aR):fU off sz ag [aR.av x]=fU off sz ag [.agg [.str x.v.bs,.int .i64 x.c]]:=by rw[aR.avc]
theorem aR.fad_av(off sz:Nat)(ag:Bool)(x:aR):fV off sz ag [.fp (aR.av x)]=fV off sz ag [.fp (.agg [.str x.v.bs,.int .i64 x.c])]:=by rw[aR.avc]
theorem aR.box_av(h:Hp)(k:Nat)(x:aR):fW h k [aR.av x]=fW h k [.agg [.str x.v.bs,.int .i64 x.c]]:=by rw[aR.avc]
theorem aR.eqs_av(ng:Bool)(qs:List Nat)(x y:aR):wT ng qs [aR.av x,aR.av y]=wT ng qs [.agg [.str x.v.bs,.int .i64 x.c],.agg [.str y.v.bs,.int .i64 y.c]]:=by rw[aR.avc,aR.avc]
attribute [go_sem ↓ high] aR.eqs_av
attribute [go_sem high] aR.cells_av aR.isAgg_av aR.fits_av aR.tree_av aR.treeL_av
attribute [go_sem ↓ high] aR.fld_av aR.fad_av aR.box_av
theorem Lin.avc(x:Lin):Lin.av x = .agg [.int .i64 x.c,.sl x.ts.nl (x.ts.es.map aR.av) x.ts.cl]:=rfl
theorem Lin.cells_av(x:Lin):(Lin.av x).cells=[.int .i64 x.c,.sl x.ts.nl (x.ts.es.map aR.av) x.ts.cl]:=by rw[Lin.avc];rfl
theorem Lin.isAgg_av(x:Lin):(Lin.av x).isAgg=true:=by rw[Lin.avc];rfl
theorem Lin.fits_av(x:Lin):(Lin.av x).fits 2 true=true:=by rw[Lin.avc];rfl
theorem Lin.tree_av(x:Lin):(Lin.av x).tree=true:=by rw[Lin.avc];simp[go_sem]
theorem Lin.treeL_av(l:List Lin):Tev.treeL (l.map Lin.av)=true:=bQ Lin.tree_av l
theorem Lin.fld_av(off sz:Nat)(ag:Bool)(x:Lin):fU off sz ag [Lin.av x]=fU off sz ag [.agg [.int .i64 x.c,.sl x.ts.nl (x.ts.es.map aR.av) x.ts.cl]]:=by rw[Lin.avc]
theorem Lin.fad_av(off sz:Nat)(ag:Bool)(x:Lin):fV off sz ag [.fp (Lin.av x)]=fV off sz ag [.fp (.agg [.int .i64 x.c,.sl x.ts.nl (x.ts.es.map aR.av) x.ts.cl])]:=by rw[Lin.avc]
theorem Lin.box_av(h:Hp)(k:Nat)(x:Lin):fW h k [Lin.av x]=fW h k [.agg [.int .i64 x.c,.sl x.ts.nl (x.ts.es.map aR.av) x.ts.cl]]:=by rw[Lin.avc]
attribute [go_sem high] Lin.cells_av Lin.isAgg_av Lin.fits_av Lin.tree_av Lin.treeL_av
attribute [go_sem ↓ high] Lin.fld_av Lin.fad_av Lin.box_av
theorem cB.avc(x:cB):cB.av x = .agg [.str x.row.bs,.sl x.dims.nl (x.dims.es.map Lin.av) x.dims.cl]:=rfl
theorem cB.cells_av(x:cB):(cB.av x).cells=[.str x.row.bs,.sl x.dims.nl (x.dims.es.map Lin.av) x.dims.cl]:=by rw[cB.avc];rfl
theorem cB.isAgg_av(x:cB):(cB.av x).isAgg=true:=by rw[cB.avc];rfl
theorem cB.fits_av(x:cB):(cB.av x).fits 2 true=true:=by rw[cB.avc];rfl
theorem cB.tree_av(x:cB):(cB.av x).tree=true:=by rw[cB.avc];simp[go_sem]
theorem cB.treeL_av(l:List cB):Tev.treeL (l.map cB.av)=true:=bQ cB.tree_av l
theorem cB.fld_av(off sz:Nat)(ag:Bool)(x:cB):fU off sz ag [cB.av x]=fU off sz ag [.agg [.str x.row.bs,.sl x.dims.nl (x.dims.es.map Lin.av) x.dims.cl]]:=by rw[cB.avc]
theorem cB.fad_av(off sz:Nat)(ag:Bool)(x:cB):fV off sz ag [.fp (cB.av x)]=fV off sz ag [.fp (.agg [.str x.row.bs,.sl x.dims.nl (x.dims.es.map Lin.av) x.dims.cl])]:=by rw[cB.avc]
theorem cB.box_av(h:Hp)(k:Nat)(x:cB):fW h k [cB.av x]=fW h k [.agg [.str x.row.bs,.sl x.dims.nl (x.dims.es.map Lin.av) x.dims.cl]]:=by rw[cB.avc]
attribute [go_sem high] cB.cells_av cB.isAgg_av cB.fits_av cB.tree_av cB.treeL_av
attribute [go_sem ↓ high] cB.fld_av cB.fad_av cB.box_av
theorem Typ.avc(x:Typ):Typ.av x = .agg [.str x.elem.bs,.str x.shape.row.bs,.sl x.shape.dims.nl (x.shape.dims.es.map Lin.av) x.shape.dims.cl]:=rfl
theorem Typ.cells_av(x:Typ):(Typ.av x).cells=[.str x.elem.bs,.str x.shape.row.bs,.sl x.shape.dims.nl (x.shape.dims.es.map Lin.av) x.shape.dims.cl]:=by rw[Typ.avc];rfl
theorem Typ.isAgg_av(x:Typ):(Typ.av x).isAgg=true:=by rw[Typ.avc];rfl
theorem Typ.fits_av(x:Typ):(Typ.av x).fits 3 true=true:=by rw[Typ.avc];rfl
theorem Typ.tree_av(x:Typ):(Typ.av x).tree=true:=by rw[Typ.avc];simp[go_sem]
theorem Typ.treeL_av(l:List Typ):Tev.treeL (l.map Typ.av)=true:=bQ Typ.tree_av l
theorem Typ.fld_av(off sz:Nat)(ag:Bool)(x:Typ):fU off sz ag [Typ.av x]=fU off sz ag [.agg [.str x.elem.bs,.str x.shape.row.bs,.sl x.shape.dims.nl (x.shape.dims.es.map Lin.av) x.shape.dims.cl]]:=by rw[Typ.avc]
theorem Typ.fad_av(off sz:Nat)(ag:Bool)(x:Typ):fV off sz ag [.fp (Typ.av x)]=fV off sz ag [.fp (.agg [.str x.elem.bs,.str x.shape.row.bs,.sl x.shape.dims.nl (x.shape.dims.es.map Lin.av) x.shape.dims.cl])]:=by rw[Typ.avc]
theorem Typ.box_av(h:Hp)(k:Nat)(x:Typ):fW h k [Typ.av x]=fW h k [.agg [.str x.elem.bs,.str x.shape.row.bs,.sl x.shape.dims.nl (x.shape.dims.es.map Lin.av) x.shape.dims.cl]]:=by rw[Typ.avc]
attribute [go_sem high] Typ.cells_av Typ.isAgg_av Typ.fits_av Typ.tree_av Typ.treeL_av
attribute [go_sem ↓ high] Typ.fld_av Typ.fad_av Typ.box_av
theorem aE.avc(x:aE):aE.av x = .agg [.str x.op.bs,.int .i64 x.num,.sl x.args.nl (x.args.es.map aV) x.args.cl]:=rfl
theorem aE.cells_av(x:aE):(aE.av x).cells=[.str x.op.bs,.int .i64 x.num,.sl x.args.nl (x.args.es.map aV) x.args.cl]:=by rw[aE.avc];rfl
theorem aE.isAgg_av(x:aE):(aE.av x).isAgg=true:=by rw[aE.avc];rfl
theorem aE.fits_av(x:aE):(aE.av x).fits 3 true=true:=by rw[aE.avc];rfl
theorem aE.tree_av(x:aE):(aE.av x).tree=true:=by rw[aE.avc];simp[go_sem]
theorem aE.treeL_av(l:List aE):Tev.treeL (l.map aE.av)=true:=bQ aE.tree_av l
theorem aE.fld_av(off sz:Nat)(ag:Bool)(x:aE):fU off sz ag [aE.av x]=fU off sz ag [.agg [.str x.op.bs,.int .i64 x.num,.sl x.args.nl (x.args.es.map aV) x.args.cl]]:=by rw[aE.avc]
theorem aE.fad_av(off sz:Nat)(ag:Bool)(x:aE):fV off sz ag [.fp (aE.av x)]=fV off sz ag [.fp (.agg [.str x.op.bs,.int .i64 x.num,.sl x.args.nl (x.args.es.map aV) x.args.cl])]:=by rw[aE.avc]
theorem aE.box_av(h:Hp)(k:Nat)(x:aE):fW h k [aE.av x]=fW h k [.agg [.str x.op.bs,.int .i64 x.num,.sl x.args.nl (x.args.es.map aV) x.args.cl]]:=by rw[aE.avc]
attribute [go_sem high] aE.cells_av aE.isAgg_av aE.fits_av aE.tree_av aE.treeL_av
attribute [go_sem ↓ high] aE.fld_av aE.fad_av aE.box_av
theorem Val.avc(x:Val):Val.av x = .agg [.str x.v.bs,.int .i64 x.n]:=rfl
theorem Val.cells_av(x:Val):(Val.av x).cells=[.str x.v.bs,.int .i64 x.n]:=by rw[Val.avc];rfl
theorem Val.isAgg_av(x:Val):(Val.av x).isAgg=true:=by rw[Val.avc];rfl
theorem Val.fits_av(x:Val):(Val.av x).fits 2 true=true:=by rw[Val.avc];rfl
theorem Val.tree_av(x:Val):(Val.av x).tree=true:=by rw[Val.avc];simp[go_sem]
theorem Val.treeL_av(l:List Val):Tev.treeL (l.map Val.av)=true:=bQ Val.tree_av l
theorem Val.fld_av(off sz:Nat)(ag:Bool)(x:Val):fU off sz ag [Val.av x]=fU off sz ag [.agg [.str x.v.bs,.int .i64 x.n]]:=by rw[Val.avc]
theorem Val.fad_av(off sz:Nat)(ag:Bool)(x:Val):fV off sz ag [.fp (Val.av x)]=fV off sz ag [.fp (.agg [.str x.v.bs,.int .i64 x.n])]:=by rw[Val.avc]
theorem Val.box_av(h:Hp)(k:Nat)(x:Val):fW h k [Val.av x]=fW h k [.agg [.str x.v.bs,.int .i64 x.n]]:=by rw[Val.avc]
theorem Val.eqs_av(ng:Bool)(qs:List Nat)(x y:Val):wT ng qs [Val.av x,Val.av y]=wT ng qs [.agg [.str x.v.bs,.int .i64 x.n],.agg [.str y.v.bs,.int .i64 y.n]]:=by rw[Val.avc,Val.avc]
attribute [go_sem ↓ high] Val.eqs_av
attribute [go_sem high] Val.cells_av Val.isAgg_av Val.fits_av Val.tree_av Val.treeL_av
attribute [go_sem ↓ high] Val.fld_av Val.fad_av Val.box_av
theorem aA.avc(x:aA):aA.av x = .agg [.str x.op.bs,.int .i64 x.num,.int .i64 x.value,.str x.name.bs,.sl x.at_.nl (x.at_.es.map Lin.av) x.at_.cl,.bool x.dyn,.int .i64 x.check,.sl x.fn.nl (x.fn.es.map aE.av) x.fn.cl,.sl x.knl (x.kids.map aA.av) x.kcl]:=aA.av_eq x
theorem aA.cells_av(x:aA):(aA.av x).cells=[.str x.op.bs,.int .i64 x.num,.int .i64 x.value,.str x.name.bs,.sl x.at_.nl (x.at_.es.map Lin.av) x.at_.cl,.bool x.dyn,.int .i64 x.check,.sl x.fn.nl (x.fn.es.map aE.av) x.fn.cl,.sl x.knl (x.kids.map aA.av) x.kcl]:=by rw[aA.avc];rfl
theorem aA.isAgg_av(x:aA):(aA.av x).isAgg=true:=by rw[aA.avc];rfl
theorem aA.fits_av(x:aA):(aA.av x).fits 9 true=true:=by rw[aA.avc];rfl
mutual
theorem aA.tree_av:∀x:aA,(aA.av x).tree=true
 |.mk op num value name at_ dyn check fn knl kids kcl=>by have:=aA.tree_avs kids;simp[aA.av,go_sem,bQ Lin.tree_av,bQ aE.tree_av,this]
theorem aA.tree_avs:∀l:List aA,Tev.treeL (aA.avs l)=true
 |[]=>by simp[aA.avs,Tev.treeL]
 |p::r=>by simp[aA.avs,Tev.treeL,aA.tree_av p,aA.tree_avs r]
end
theorem aA.treeL_av(l:List aA):Tev.treeL (l.map aA.av)=true:=bQ aA.tree_av l
theorem aA.fld_av(off sz:Nat)(ag:Bool)(x:aA):fU off sz ag [aA.av x]=fU off sz ag [.agg [.str x.op.bs,.int .i64 x.num,.int .i64 x.value,.str x.name.bs,.sl x.at_.nl (x.at_.es.map Lin.av) x.at_.cl,.bool x.dyn,.int .i64 x.check,.sl x.fn.nl (x.fn.es.map aE.av) x.fn.cl,.sl x.knl (x.kids.map aA.av) x.kcl]]:=by rw[aA.avc]
theorem aA.fad_av(off sz:Nat)(ag:Bool)(x:aA):fV off sz ag [.fp (aA.av x)]=fV off sz ag [.fp (.agg [.str x.op.bs,.int .i64 x.num,.int .i64 x.value,.str x.name.bs,.sl x.at_.nl (x.at_.es.map Lin.av) x.at_.cl,.bool x.dyn,.int .i64 x.check,.sl x.fn.nl (x.fn.es.map aE.av) x.fn.cl,.sl x.knl (x.kids.map aA.av) x.kcl])]:=by rw[aA.avc]
theorem aA.box_av(h:Hp)(k:Nat)(x:aA):fW h k [aA.av x]=fW h k [.agg [.str x.op.bs,.int .i64 x.num,.int .i64 x.value,.str x.name.bs,.sl x.at_.nl (x.at_.es.map Lin.av) x.at_.cl,.bool x.dyn,.int .i64 x.check,.sl x.fn.nl (x.fn.es.map aE.av) x.fn.cl,.sl x.knl (x.kids.map aA.av) x.kcl]]:=by rw[aA.avc]
attribute [go_sem high] aA.cells_av aA.isAgg_av aA.fits_av aA.tree_av aA.treeL_av
attribute [go_sem ↓ high] aA.fld_av aA.fad_av aA.box_av
theorem aK.avc(x:aK):aK.av x = .agg [.int .i64 x.kind,.int .i64 x.value,.sl x.space.nl (x.space.es.map Lin.av) x.space.cl,.str x.body.op.bs,.int .i64 x.body.num,.int .i64 x.body.value,.str x.body.name.bs,.sl x.body.at_.nl (x.body.at_.es.map Lin.av) x.body.at_.cl,.bool x.body.dyn,.int .i64 x.body.check,.sl x.body.fn.nl (x.body.fn.es.map aE.av) x.body.fn.cl,.sl x.body.knl (x.body.kids.map aA.av) x.body.kcl,.sl x.fn.nl (x.fn.es.map aE.av) x.fn.cl,.int .i64 x.source,.str x.index.op.bs,.int .i64 x.index.num,.int .i64 x.index.value,.str x.index.name.bs,.sl x.index.at_.nl (x.index.at_.es.map Lin.av) x.index.at_.cl,.bool x.index.dyn,.int .i64 x.index.check,.sl x.index.fn.nl (x.index.fn.es.map aE.av) x.index.fn.cl,.sl x.index.knl (x.index.kids.map aA.av) x.index.kcl,.int .i64 x.check]:=rfl
theorem aK.cells_av(x:aK):(aK.av x).cells=[.int .i64 x.kind,.int .i64 x.value,.sl x.space.nl (x.space.es.map Lin.av) x.space.cl,.str x.body.op.bs,.int .i64 x.body.num,.int .i64 x.body.value,.str x.body.name.bs,.sl x.body.at_.nl (x.body.at_.es.map Lin.av) x.body.at_.cl,.bool x.body.dyn,.int .i64 x.body.check,.sl x.body.fn.nl (x.body.fn.es.map aE.av) x.body.fn.cl,.sl x.body.knl (x.body.kids.map aA.av) x.body.kcl,.sl x.fn.nl (x.fn.es.map aE.av) x.fn.cl,.int .i64 x.source,.str x.index.op.bs,.int .i64 x.index.num,.int .i64 x.index.value,.str x.index.name.bs,.sl x.index.at_.nl (x.index.at_.es.map Lin.av) x.index.at_.cl,.bool x.index.dyn,.int .i64 x.index.check,.sl x.index.fn.nl (x.index.fn.es.map aE.av) x.index.fn.cl,.sl x.index.knl (x.index.kids.map aA.av) x.index.kcl,.int .i64 x.check]:=by rw[aK.avc];rfl
theorem aK.isAgg_av(x:aK):(aK.av x).isAgg=true:=by rw[aK.avc];rfl
theorem aK.fits_av(x:aK):(aK.av x).fits 24 true=true:=by rw[aK.avc];rfl
theorem aK.tree_av(x:aK):(aK.av x).tree=true:=by rw[aK.avc];simp[go_sem]
theorem aK.treeL_av(l:List aK):Tev.treeL (l.map aK.av)=true:=bQ aK.tree_av l
theorem aK.fld_av(off sz:Nat)(ag:Bool)(x:aK):fU off sz ag [aK.av x]=fU off sz ag [.agg [.int .i64 x.kind,.int .i64 x.value,.sl x.space.nl (x.space.es.map Lin.av) x.space.cl,.str x.body.op.bs,.int .i64 x.body.num,.int .i64 x.body.value,.str x.body.name.bs,.sl x.body.at_.nl (x.body.at_.es.map Lin.av) x.body.at_.cl,.bool x.body.dyn,.int .i64 x.body.check,.sl x.body.fn.nl (x.body.fn.es.map aE.av) x.body.fn.cl,.sl x.body.knl (x.body.kids.map aA.av) x.body.kcl,.sl x.fn.nl (x.fn.es.map aE.av) x.fn.cl,.int .i64 x.source,.str x.index.op.bs,.int .i64 x.index.num,.int .i64 x.index.value,.str x.index.name.bs,.sl x.index.at_.nl (x.index.at_.es.map Lin.av) x.index.at_.cl,.bool x.index.dyn,.int .i64 x.index.check,.sl x.index.fn.nl (x.index.fn.es.map aE.av) x.index.fn.cl,.sl x.index.knl (x.index.kids.map aA.av) x.index.kcl,.int .i64 x.check]]:=by rw[aK.avc]
theorem aK.fad_av(off sz:Nat)(ag:Bool)(x:aK):fV off sz ag [.fp (aK.av x)]=fV off sz ag [.fp (.agg [.int .i64 x.kind,.int .i64 x.value,.sl x.space.nl (x.space.es.map Lin.av) x.space.cl,.str x.body.op.bs,.int .i64 x.body.num,.int .i64 x.body.value,.str x.body.name.bs,.sl x.body.at_.nl (x.body.at_.es.map Lin.av) x.body.at_.cl,.bool x.body.dyn,.int .i64 x.body.check,.sl x.body.fn.nl (x.body.fn.es.map aE.av) x.body.fn.cl,.sl x.body.knl (x.body.kids.map aA.av) x.body.kcl,.sl x.fn.nl (x.fn.es.map aE.av) x.fn.cl,.int .i64 x.source,.str x.index.op.bs,.int .i64 x.index.num,.int .i64 x.index.value,.str x.index.name.bs,.sl x.index.at_.nl (x.index.at_.es.map Lin.av) x.index.at_.cl,.bool x.index.dyn,.int .i64 x.index.check,.sl x.index.fn.nl (x.index.fn.es.map aE.av) x.index.fn.cl,.sl x.index.knl (x.index.kids.map aA.av) x.index.kcl,.int .i64 x.check])]:=by rw[aK.avc]
theorem aK.box_av(h:Hp)(k:Nat)(x:aK):fW h k [aK.av x]=fW h k [.agg [.int .i64 x.kind,.int .i64 x.value,.sl x.space.nl (x.space.es.map Lin.av) x.space.cl,.str x.body.op.bs,.int .i64 x.body.num,.int .i64 x.body.value,.str x.body.name.bs,.sl x.body.at_.nl (x.body.at_.es.map Lin.av) x.body.at_.cl,.bool x.body.dyn,.int .i64 x.body.check,.sl x.body.fn.nl (x.body.fn.es.map aE.av) x.body.fn.cl,.sl x.body.knl (x.body.kids.map aA.av) x.body.kcl,.sl x.fn.nl (x.fn.es.map aE.av) x.fn.cl,.int .i64 x.source,.str x.index.op.bs,.int .i64 x.index.num,.int .i64 x.index.value,.str x.index.name.bs,.sl x.index.at_.nl (x.index.at_.es.map Lin.av) x.index.at_.cl,.bool x.index.dyn,.int .i64 x.index.check,.sl x.index.fn.nl (x.index.fn.es.map aE.av) x.index.fn.cl,.sl x.index.knl (x.index.kids.map aA.av) x.index.kcl,.int .i64 x.check]]:=by rw[aK.avc]
attribute [go_sem high] aK.cells_av aK.isAgg_av aK.fits_av aK.tree_av aK.treeL_av
attribute [go_sem ↓ high] aK.fld_av aK.fad_av aK.box_av
theorem aF.avc(x:aF):aF.av x = .agg [.sl x.vars.nl (x.vars.es.map Str.av) x.vars.cl,.sl x.wher.nl (x.wher.es.map Lin.av) x.wher.cl,.int .i64 x.inputs,.sl x.values.nl (x.values.es.map Typ.av) x.values.cl,.sl x.list.nl (x.list.es.map aK.av) x.list.cl,.sl x.results.nl (x.results.es.map aV) x.results.cl]:=rfl
theorem aF.cells_av(x:aF):(aF.av x).cells=[.sl x.vars.nl (x.vars.es.map Str.av) x.vars.cl,.sl x.wher.nl (x.wher.es.map Lin.av) x.wher.cl,.int .i64 x.inputs,.sl x.values.nl (x.values.es.map Typ.av) x.values.cl,.sl x.list.nl (x.list.es.map aK.av) x.list.cl,.sl x.results.nl (x.results.es.map aV) x.results.cl]:=by rw[aF.avc];rfl
theorem aF.isAgg_av(x:aF):(aF.av x).isAgg=true:=by rw[aF.avc];rfl
theorem aF.fits_av(x:aF):(aF.av x).fits 6 true=true:=by rw[aF.avc];rfl
theorem aF.tree_av(x:aF):(aF.av x).tree=true:=by rw[aF.avc];simp[go_sem]
theorem aF.treeL_av(l:List aF):Tev.treeL (l.map aF.av)=true:=bQ aF.tree_av l
theorem aF.fld_av(off sz:Nat)(ag:Bool)(x:aF):fU off sz ag [aF.av x]=fU off sz ag [.agg [.sl x.vars.nl (x.vars.es.map Str.av) x.vars.cl,.sl x.wher.nl (x.wher.es.map Lin.av) x.wher.cl,.int .i64 x.inputs,.sl x.values.nl (x.values.es.map Typ.av) x.values.cl,.sl x.list.nl (x.list.es.map aK.av) x.list.cl,.sl x.results.nl (x.results.es.map aV) x.results.cl]]:=by rw[aF.avc]
theorem aF.fad_av(off sz:Nat)(ag:Bool)(x:aF):fV off sz ag [.fp (aF.av x)]=fV off sz ag [.fp (.agg [.sl x.vars.nl (x.vars.es.map Str.av) x.vars.cl,.sl x.wher.nl (x.wher.es.map Lin.av) x.wher.cl,.int .i64 x.inputs,.sl x.values.nl (x.values.es.map Typ.av) x.values.cl,.sl x.list.nl (x.list.es.map aK.av) x.list.cl,.sl x.results.nl (x.results.es.map aV) x.results.cl])]:=by rw[aF.avc]
theorem aF.box_av(h:Hp)(k:Nat)(x:aF):fW h k [aF.av x]=fW h k [.agg [.sl x.vars.nl (x.vars.es.map Str.av) x.vars.cl,.sl x.wher.nl (x.wher.es.map Lin.av) x.wher.cl,.int .i64 x.inputs,.sl x.values.nl (x.values.es.map Typ.av) x.values.cl,.sl x.list.nl (x.list.es.map aK.av) x.list.cl,.sl x.results.nl (x.results.es.map aV) x.results.cl]]:=by rw[aF.avc]
attribute [go_sem high] aF.cells_av aF.isAgg_av aF.fits_av aF.tree_av aF.treeL_av
attribute [go_sem ↓ high] aF.fld_av aF.fad_av aF.box_av
theorem aGJ{α : Type}(d:List α)(x : α)(r:List α):(d++x::r)[d.length]?=some x:=by simp
theorem aCj{α : Type}(d:List α)(x : α)(r:List α):decide ((d.length:Int)<((d++x::r).length:Int))=true:=by simp only[List.length_append,List.length_cons,decide_eq_true_eq];omega
theorem aJT{α : Type}(d:List α):decide ((d.length:Int)<((d++[]).length:Int))=false:=by simp
theorem fZ{n:Int}(h1 : -1000000000000000000<=n)(h2:n<=1000000000000000000):wr .i64 n=n:=by simp only[wr];rw[if_pos (by omega)]
theorem aFh{n:Nat}(h:n<=1000000000000000000):wr .i64 (n:Int)=n:=fZ (by omega) (by omega)
theorem cQ{α : Type}{d:List α}{x : α}{r:List α}(h:(d++x::r).length<=big):wr .i64 ((d.length:Int)+1)=((d++[x]).length:Int):=by simp only[List.length_append,List.length_cons,List.length_nil,big]at *;rw[fZ (by omega) (by omega)];omega
theorem aQ{pg:Pg}{kb:Nat}{α : Type}(es:List α)(E:List α -> List α -> List AV->Hp->Prop){b:C}{clr:List Bool}{st:St}{Q:Ex->St->Prop}{t:Tok Q}(h0:E [] es (clear clr st.env) st.hp)
  (hend:∀env hp,E es [] env hp->XX pg kb b ⟨env,hp⟩ (lB (λ_=>False) Q) ⟨⟩)
  (hstep:∀d x r env hp,es=d++x::r->E d (x::r) env hp->XX pg kb b ⟨env,hp⟩ (lB (λst'=>E (d++[x]) r (clear clr st'.env) st'.hp) Q) ⟨⟩) :
  XX pg kb (.loop b clr) st Q t:=by
 refine kV (α:={p:List α×List α // es=p.1++p.2}) (λp=>p.1.2.length) (λp=>E p.1.1 p.1.2) ⟨([],es),rfl⟩ h0 ?_;rintro⟨⟨d,r⟩,hes⟩ env hp hE;dsimp only at hes hE ⊢;cases r with
 |nil=>
  rw[List.append_nil]at hes;subst hes;obtain⟨n,ex,st',h1,h2⟩:=hend env hp hE;refine⟨n,ex,st',h1,?_⟩;cases ex with
  |nor=>exact h2.elim
  |ext i=>exact h2
  |ret=>exact h2
 |cons x r=>
  obtain⟨n,ex,st',h1,h2⟩:=hstep d x r env hp hes hE;refine⟨n,ex,st',h1,?_⟩;cases ex with
  |nor=>exact⟨⟨(d++[x],r),by simp[hes]⟩,by simp,h2⟩
  |ext i=>exact h2
  |ret=>exact h2
theorem vO{h:Hp}{v:AV}(hv:v.tree=true):conv h v=some v:=by
 have:snap depth h v=some (v,[]):=by unfold depth snap;rw[if_pos hv]
 cases v<;>first|(simp only[conv,this];rfl)|simp[AV.tree]at hv
theorem YF{α : Type}(x y : α):(some x=some y)=(x=y):=by simp
theorem aBy(x y:Bool):(AV.bool x=AV.bool y)=(x=y):=by simp
theorem aGI(k:IntKind)(x y:Int):(AV.int k x=AV.int k y)=(x=y):=by simp
theorem aFm(x y:List UInt8):(AV.str x=AV.str y)=(x=y):=by simp
theorem aGs{α : Type}(l:List α):(0<=(l.length:Int))=True:=by simp
def bV(pg:Pg)(f:Nat)(ts:List AV)(P:AV->Prop):Prop:=∃r,Ret pg f ts r/\P r
def VK(res:List (Sum Nat (Nat×Nat×Bool)))(P:AV->Prop)(ex:Ex)(st:St):Prop:=
 match ex with
 |.ext _=>False
 |_=>∃v,result st res=some v/\∃r,conv st.hp v=some r/\P r
theorem VJ(res:List (Sum Nat (Nat×Nat×Bool)))(P:AV->Prop)(st:St):VK res P .nor st=∃v,result st res=some v/\∃r,conv st.hp v=some r/\P r:=rfl
theorem VI(res:List (Sum Nat (Nat×Nat×Bool)))(P:AV->Prop)(st:St):VK res P .ret st=∃v,result st res=some v/\∃r,conv st.hp v=some r/\P r:=rfl
theorem bV.ofX{pg:Pg}{f:Nat}{cf:CF}{vs:List AV}{P:AV->Prop}(hf:pg.fs f=some cf)(hw:XX pg 0 cf.body ⟨enter cf vs,[]⟩ (VK cf.res P) ⟨⟩):bV pg f vs P:=by
 obtain⟨n,ex,st,h1,h2⟩:=hw;cases ex with
 |ext i=>exact h2.elim
 |nor=>obtain⟨v,h3,r,h4,h5⟩:=h2;exact⟨r,Ret.of hf ⟨n,.nor,st,h1,v,h3,h4⟩,h5⟩
 |ret=>obtain⟨v,h3,r,h4,h5⟩:=h2;exact⟨r,Ret.of hf ⟨n,.ret,st,h1,v,h3,h4⟩,h5⟩
def IsB(v:AV):Prop:=∃b:Bool,v = .bool b
theorem UX(b:Bool):IsB (.bool b)=True:=by simp only[IsB,eq_iff_iff,iff_true];exact⟨b,rfl⟩
theorem bV.mono{pg:Pg}{f:Nat}{ts:List AV}{P P':AV->Prop}(h:bV pg f ts P)(hP:∀r,P r->P' r):bV pg f ts P':=by obtain⟨r,h1,h2⟩:=h;exact⟨r,h1,hP r h2⟩
theorem Ret.P{pg:Pg}{f:Nat}{ts:List AV}{r:AV}{P:AV->Prop}(h:Ret pg f ts r)(hP:P r):bV pg f ts P:=⟨r,h,hP⟩
theorem eJ{pg:Pg}{kb:Nat}{α : Type}(es:List α)(U:List α -> List AV->List AV)(I:List α -> List α -> Hp->Prop){b:C}{clr:List Bool}{st:St}{Q:Ex->St->Prop}{t:Tok Q}
  (h0:clear clr st.env=U [] (clear clr st.env)) (i0:I [] es st.hp)
  (hend:∀hp,I es [] hp->XX pg kb b ⟨U es (clear clr st.env),hp⟩ (lB (λ_=>False) Q) ⟨⟩)
  (hstep:∀d x r hp,es=d++x::r->I d (x::r) hp->XX pg kb b ⟨U d (clear clr st.env),hp⟩ (lB (λst'=>clear clr st'.env=U (d++[x]) (clear clr st.env)/\I (d++[x]) r st'.hp) Q) ⟨⟩) :
  XX pg kb (.loop b clr) st Q t:=by
 refine aQ es (λd r env hp=>env=U d (clear clr st.env)/\I d r hp) ⟨h0,i0⟩ ?_ ?_;rintro env hp ⟨rfl,h⟩;exact hend hp h;rintro d x r env hp hes ⟨rfl,h⟩;exact hstep d x r hp hes h
attribute [go_sem ↓] VJ VI
attribute [go_sem] UX
theorem eN(f:AV->Option (AV×List Nat)):mapS f []=some ([],[]):=rfl
theorem bG(f:AV->Option (AV×List Nat))(x:AV)(r:List AV):mapS f (x::r)=match f x with
  |none=>none
  |some (y,s)=>match mapS f r with
   |none=>none
   |some (l,s')=>some (y::l,s++s'):=rfl
theorem fR(d:Nat)(h:Hp)(v:AV):snap (d+1) h v=(if v.tree then some (v,[]) else
  match v with
  |.agg cs=>(mapS (snap d h) cs).map fun(l,s)=>(.agg l,s)
  |.tup cs=>(mapS (snap d h) cs).map fun(l,s)=>(.tup l,s)
  |.sl nl es cl=>(mapS (snap d h) es).map fun(l,s)=>(.sl nl l cl,s)
  |.ifc v=>(snap d h v).map fun(x,s)=>(.ifc x,s)
  |.ift t v=>(snap d h v).map fun(x,s)=>(.ift t x,s)
  |.fnm t v=>(snap d h v).map fun(x,s)=>(.fnm t x,s)
  |.fn f cs=>(mapS (snap d h) cs).map fun(l,s)=>(.fn f l,s)
  |.rf k e off len cap=>
   match h.get k with
   |some (e',.blk cs esz ag ti _)=>
    if e'=e then
     match jS esz ag len (cs.drop off) with
     |some es=>(mapS (snap d h) es).map fun(l,s)=>(.sl false l (ti&&len==cap),k::s)
     |none=>none
    else none
   |_=>none
  |.pt k e off=>
   match h.get k with
   |some (e',.blk cs esz ag _ _)=>
    if e'=e/\off=0/\esz=cs.length then
     match mapS (snap d h) cs with
     |some (l,s)=>if ag then some (.fp (.agg l),k::s) else match l with|[v]=>if v.isAgg then none else some (.fp v,k::s)|_=>none
     |none=>none
    else none
   |_=>none
  |_=>none):=by
 rfl
theorem aLW(c:UInt8)(t:List UInt8):wR true false [.str (c::t),.int .i64 1]=val (.str t):=by
 have h1:(1:Int)<=((t.length:Int)+1):=by omega
 simp[wR,jG,h1]
attribute [go_sem ↓] aLW
theorem rL{pg pg':Pg}(h:∀f cf,pg.fs f=some cf->pg'.fs f=some cf)(hg:pg.gl=pg'.gl)(hx:∀f,pg.ex f=none):∀n,kK (aX pg n) (aX pg' n)
 |0=>⟨by intro f a kb hp r hq;simp[aX]at hq,by intro k e a hp r hq;simp[aX]at hq⟩
 |n+1=>by
  refine⟨?_,λk e a hp r hq=>by
   simp only[aX]at hq ⊢;exact pP (λc b st r hr=>by rw[<-hg];exact oD (rL h hg hx n) (Nat.le_refl _) hr) hq⟩
  intro f a kb hp r hq;simp only[aX]at hq ⊢;cases hf:pg.fs f with
  |none=>simp[hf,hx]at hq
  |some cf=>
   rw[hf]at hq;rw[h f cf hf];simp only at hq ⊢;cases he:bE pg.gl (aX pg n) kb n cf.body ⟨enter cf a,hp⟩ with
   |none=>simp[he]at hq
   |some p=>rw[he]at hq;rw[<-hg,oD (rL h hg hx n) (Nat.le_refl _) he];exact hq
theorem Ret.closed{pg:Pg}(t:BT CF)(ht:∀f cf,t.find f=some cf->pg.fs f=some cf)(n:Nat){f:Nat}{ts:List AV}{r:AV}(h:bJ (aX ⟨λf=>t.find f,pg.gl,λ_=>none⟩ n) f ts=some r):Ret pg f ts r:=
 ⟨n,fQ (rL (pg:=⟨λf=>t.find f,pg.gl,λ_=>none⟩) ht rfl (λ_=>rfl) n) h⟩
theorem aQY:(((1:Nat):Int))=1:=rfl
theorem aQX:(((2:Nat):Int))=2:=rfl
theorem aQW:(((3:Nat):Int))=3:=rfl
theorem aQV:(((4:Nat):Int))=4:=rfl
theorem aQU:(((5:Nat):Int))=5:=rfl
theorem aQT:(((6:Nat):Int))=6:=rfl
theorem aQS:(((7:Nat):Int))=7:=rfl
theorem aQR:(((8:Nat):Int))=8:=rfl
theorem aQQ:(((9:Nat):Int))=9:=rfl
theorem aKJ:(((10:Nat):Int))=10:=rfl
theorem aKI:(((11:Nat):Int))=11:=rfl
theorem aKH:(((12:Nat):Int))=12:=rfl
attribute [go_sem] aQY aQX aQW aQV aQU aQT aQS aQR aQQ aKJ aKI aKH
attribute [go_sem] Z Y N i0 i1 bN bY sN
attribute [go_sem] aGJ aCj aJT vO YF aBy aGI aFm clear aGs AH
end
section
def JF:List Bool:=[true,true,false,false,false,false,false,true,true,false,false,false,false,false,false,false,false,false,false]
def JG(esz:Nat)(ag:Bool):C:=
 (.seq (.reg [⟨(some 9),(.bin .lss),[.t 8,.t 7],none,0,0⟩] false)
 (.seq (.cond (.t 9) .skip
  (.exit 0))
 (.seq (.block 1 (.seq (.reg [⟨(some 10),.mov,[.t 8],none,0,0⟩,
  ⟨(some 5),.mov,[.t 10],none,0,0⟩] false)
 (.seq (.reg [⟨(some 11),.mov,[.t 1],none,0,0⟩,
  ⟨(some 12),.mov,[.t 0],none,0,0⟩,
  ⟨(some 13),.mov,[.t 5],none,0,0⟩,
  ⟨(some 14),(.iad esz ag none),[.t 12,.t 13],none,0,0⟩,
  ⟨(some 15),(.load esz ag),[.t 14],none,0,0⟩,
  ⟨(some 16),(.callv false false),[.t 11,.t 15],none,0,1⟩] false)
 (.cond (.t 16) (.seq (.reg [⟨(some 17),.mov,[.t 5],none,0,0⟩,
   ⟨(some 4),.mov,[.t 17],none,0,0⟩] false)
  .ret)
  .skip))))
 (.reg [⟨(some 18),(.bin .add),[.t 8,.c (.int .i64 1)],none,0,0⟩,
  ⟨(some 8),.mov,[.t 18],none,0,0⟩] false))))
def ZC(esz:Nat)(ag:Bool):CF:=⟨2,19,[.inl 4],
 (.seq (.reg [⟨(some 4),.mov,[.c (.int .i64 0)],none,0,0⟩] false)
 (.seq (.seq (.reg [⟨(some 6),.mov,[.t 0],none,0,0⟩,
  ⟨(some 7),(.len 1),[.t 6],none,0,0⟩,
  ⟨(some 8),.mov,[.c (.int .i64 0)],none,0,0⟩] false)
 (.block 0 (.loop (JG esz ag) JF)))
 (.seq (.reg [⟨(some 4),.mov,[.c (.int .i64 (-1))],none,0,0⟩] false)
 .ret)))⟩
def aKK(n:Nat):CF:=⟨2,9,[.inl 4],
 (.seq (.reg [⟨(some 4),.mov,[.c (.bool false)],none,0,0⟩] false)
 (.seq (.reg [⟨(some 5),.mov,[.t 0],none,0,0⟩,
  ⟨(some 6),.mov,[.t 1],none,0,0⟩,
  ⟨(some 7),(.call n false false),[.t 5,.t 6],none,0,1⟩,
  ⟨(some 8),(.bin .geq),[.t 7,.c (.int .i64 0)],none,0,0⟩,
  ⟨(some 4),.mov,[.t 8],none,0,0⟩] false)
 .ret))⟩
def U4:List Bool:=[true,true,false,false,false,false,false,true,true,false,false,false,false,false,false,false,false,false,false]
def U5(esz:Nat)(ag:Bool)(k:K):C:=
 (.seq (.reg [⟨(some 9),(.bin .lss),[.t 8,.t 7],none,0,0⟩] false)
 (.seq (.cond (.t 9) .skip
  (.exit 0))
 (.seq (.block 1 (.seq (.reg [⟨(some 10),.mov,[.t 8],none,0,0⟩,
  ⟨(some 5),.mov,[.t 10],none,0,0⟩] false)
 (.seq (.reg [⟨(some 11),.mov,[.t 1],none,0,0⟩,
  ⟨(some 12),.mov,[.t 0],none,0,0⟩,
  ⟨(some 13),.mov,[.t 5],none,0,0⟩,
  ⟨(some 14),(.iad esz ag none),[.t 12,.t 13],none,0,0⟩,
  ⟨(some 15),(.load esz ag),[.t 14],none,0,0⟩,
  ⟨(some 16),k,[.t 11,.t 15],none,0,0⟩] false)
 (.cond (.t 16) (.seq (.reg [⟨(some 17),.mov,[.t 5],none,0,0⟩,
   ⟨(some 4),.mov,[.t 17],none,0,0⟩] false)
  .ret)
  .skip))))
 (.reg [⟨(some 18),(.bin .add),[.t 8,.c (.int .i64 1)],none,0,0⟩,
  ⟨(some 8),.mov,[.t 18],none,0,0⟩] false))))
def aKx(esz:Nat)(ag:Bool)(k:K):CF:=⟨2,19,[.inl 4],
 (.seq (.reg [⟨(some 4),.mov,[.c (.int .i64 0)],none,0,0⟩] false)
 (.seq (.seq (.reg [⟨(some 6),.mov,[.t 0],none,0,0⟩,
  ⟨(some 7),(.len 1),[.t 6],none,0,0⟩,
  ⟨(some 8),.mov,[.c (.int .i64 0)],none,0,0⟩] false)
 (.block 0 (.loop (U5 esz ag k) U4)))
 (.seq (.reg [⟨(some 4),.mov,[.c (.int .i64 (-1))],none,0,0⟩] false)
 .ret)))⟩
def aGP:List Bool:=[false,true,true,false,false,false,false,false,false,false,false,false,false,false,false,true,true,true,false,false,false,false,false,false,false,false,false,false,false,false,false,false]
def aGQ(esz:Nat)(ag:Bool)(z:List AV):C:=
 (.seq (.reg [⟨(some 18),(.bin .lss),[.t 17,.t 16],none,0,0⟩] false)
 (.seq (.cond (.t 18) .skip
  (.exit 0))
 (.seq (.block 1 (.seq (.reg [⟨(some 19),.mov,[.t 17],none,0,0⟩,
  ⟨(some 20),(.iad esz ag none),[.t 15,.t 17],none,0,0⟩,
  ⟨(some 21),(.load esz ag),[.t 20],none,0,0⟩,
  ⟨(some 8),(.alloc z ag),[],none,0,1⟩,
  ⟨(some 7),.mov,[.t 19],none,0,0⟩,
  ⟨none,(.store esz ag),[.t 8,.t 21],none,0,0⟩] false)
 (.seq (.reg [⟨(some 22),.mov,[.t 1],none,0,0⟩,
  ⟨(some 23),.mov,[.t 7],none,0,0⟩,
  ⟨(some 24),(.iad esz ag none),[.t 22,.t 23],none,0,0⟩,
  ⟨(some 25),(.load esz ag),[.t 24],none,0,0⟩,
  ⟨(some 9),(.alloc z ag),[],none,0,5⟩,
  ⟨none,(.store esz ag),[.t 9,.t 25],none,0,0⟩] false)
 (.seq (.reg [⟨(some 26),.mov,[.t 2],none,0,0⟩,
  ⟨(some 27),(.load esz ag),[.t 8],none,0,0⟩,
  ⟨(some 28),(.load esz ag),[.t 9],none,0,0⟩,
  ⟨(some 29),(.callv false false),[.t 26,.t 27,.t 28],none,0,9⟩,
  ⟨(some 30),(.un .not),[.t 29],none,0,0⟩] false)
 (.cond (.t 30) (.seq (.reg [⟨(some 6),.mov,[.c (.bool false)],none,0,0⟩] false)
  .ret)
  .skip)))))
 (.reg [⟨(some 31),(.bin .add),[.t 17,.c (.int .i64 1)],none,0,0⟩,
  ⟨(some 17),.mov,[.t 31],none,0,0⟩] false))))
def eqF(esz:Nat)(ag:Bool)(z:List AV):CF:=⟨3,32,[.inl 6],
 (.seq (.reg [⟨(some 6),.mov,[.c (.bool false)],none,0,0⟩] false)
 (.seq (.seq (.reg [⟨(some 10),.mov,[.t 0],none,0,0⟩,
  ⟨(some 11),(.len 1),[.t 10],none,0,0⟩,
  ⟨(some 12),.mov,[.t 1],none,0,0⟩,
  ⟨(some 13),(.len 1),[.t 12],none,0,0⟩,
  ⟨(some 14),(.bin .neq),[.t 11,.t 13],none,0,0⟩] false)
 (.cond (.t 14) (.seq (.reg [⟨(some 6),.mov,[.c (.bool false)],none,0,0⟩] false)
  .ret)
  .skip))
 (.seq (.seq (.reg [⟨(some 15),.mov,[.t 0],none,0,0⟩,
  ⟨(some 16),(.len 1),[.t 15],none,0,0⟩,
  ⟨(some 17),.mov,[.c (.int .i64 0)],none,0,0⟩] false)
 (.block 0 (.loop (aGQ esz ag z) aGP)))
 (.seq (.reg [⟨(some 6),.mov,[.c (.bool true)],none,0,0⟩] false)
 .ret))))⟩
def aGM:List Bool:=[true,true,false,false,false,false,false,false,false,false,false,false,true,true,false,false,false,false,false,false,false,false,false,false,false,false]
def aGN(esz:Nat)(ag:Bool)(k:K):C:=
 (.seq (.reg [⟨(some 14),(.bin .lss),[.t 13,.t 12],none,0,0⟩] false)
 (.seq (.cond (.t 14) .skip
  (.exit 0))
 (.seq (.block 1 (.seq (.reg [⟨(some 15),.mov,[.t 13],none,0,0⟩,
  ⟨(some 5),.mov,[.t 15],none,0,0⟩] false)
 (.seq (.reg [⟨(some 16),.mov,[.t 0],none,0,0⟩,
  ⟨(some 17),.mov,[.t 5],none,0,0⟩,
  ⟨(some 18),(.iad esz ag none),[.t 16,.t 17],none,3,0⟩,
  ⟨(some 19),(.load esz ag),[.t 18],none,7,0⟩,
  ⟨(some 20),.mov,[.t 1],none,0,0⟩,
  ⟨(some 21),.mov,[.t 5],none,0,0⟩,
  ⟨(some 22),(.iad esz ag none),[.t 20,.t 21],none,48,0⟩,
  ⟨(some 23),(.load esz ag),[.t 22],none,112,0⟩,
  ⟨(some 24),k,[.t 19,.t 23],none,255,0⟩] true)
 (.cond (.t 24) (.seq (.reg [⟨(some 4),.mov,[.c (.bool false)],none,0,0⟩] false)
  .ret)
  .skip))))
 (.reg [⟨(some 25),(.bin .add),[.t 13,.c (.int .i64 1)],none,0,0⟩,
  ⟨(some 13),.mov,[.t 25],none,0,0⟩] false))))
def eqV(esz:Nat)(ag:Bool)(k:K):CF:=⟨2,26,[.inl 4],
 (.seq (.reg [⟨(some 4),.mov,[.c (.bool false)],none,0,0⟩] false)
 (.seq (.seq (.reg [⟨(some 6),.mov,[.t 0],none,0,0⟩,
  ⟨(some 7),(.len 1),[.t 6],none,0,0⟩,
  ⟨(some 8),.mov,[.t 1],none,0,0⟩,
  ⟨(some 9),(.len 1),[.t 8],none,0,0⟩,
  ⟨(some 10),(.bin .neq),[.t 7,.t 9],none,0,0⟩] false)
 (.cond (.t 10) (.seq (.reg [⟨(some 4),.mov,[.c (.bool false)],none,0,0⟩] false)
  .ret)
  .skip))
 (.seq (.seq (.reg [⟨(some 11),.mov,[.t 0],none,0,0⟩,
  ⟨(some 12),(.len 1),[.t 11],none,0,0⟩,
  ⟨(some 13),.mov,[.c (.int .i64 0)],none,0,0⟩] false)
 (.block 0 (.loop (aGN esz ag k) aGM)))
 (.seq (.reg [⟨(some 4),.mov,[.c (.bool true)],none,0,0⟩] false)
 .ret))))⟩
def L9:List Bool:=[false,false,false,true,false,false,false,true,true,true,false,false,false,false,false,false,false,false,false,false,false,false,false]
def MA(g:Nat):C:=
 (.seq (.reg [⟨(some 10),(.bin .lss),[.t 9,.t 8],none,0,0⟩] false)
 (.seq (.cond (.t 10) .skip
  (.exit 0))
 (.seq (.block 1 (.seq (.reg [⟨(some 11),(.iad 2 true none),[.t 7,.t 9],none,0,0⟩,
  ⟨(some 12),(.load 2 true),[.t 11],none,0,0⟩,
  ⟨(some 6),(.alloc [(.int .i64 0),(.sl true [] true)] true),[],none,0,5⟩,
  ⟨none,(.store 2 true),[.t 6,.t 12],none,0,0⟩] false)
 (.seq (.reg [⟨(some 13),(.load 2 true),[.t 6],none,0,0⟩,
  ⟨(some 14),(.call 51 false false),[.t 13],none,0,9⟩,
  ⟨(some 15),(.un .not),[.t 14],none,0,0⟩,
  ⟨(some 16),.mov,[.t 15],none,0,0⟩,
  ⟨(some 17),(.load 2 true),[.t 6],(some (16,false)),0,0⟩,
  ⟨(some 18),(.call 96 false false),[.t 17],(some (16,false)),0,13⟩,
  ⟨(some 19),(.mkf g),[.t 3],(some (16,false)),0,0⟩,
  ⟨(some 20),(.call 95 false false),[.t 18,.t 19],(some (16,false)),0,17⟩,
  ⟨(some 21),.pick,[.t 16,.c (.bool true),.t 20],none,0,0⟩] false)
 (.cond (.t 21) (.seq (.reg [⟨(some 4),.mov,[.c (.bool false)],none,0,0⟩] false)
  .ret)
  .skip))))
 (.reg [⟨(some 22),(.bin .add),[.t 9,.c (.int .i64 1)],none,0,0⟩,
  ⟨(some 9),.mov,[.t 22],none,0,0⟩] false))))
def aCh(g:Nat):CF:=⟨2,23,[.inl 4],
 (.seq (.reg [⟨(some 3),.box,[.t 1],none,0,1⟩,
  ⟨(some 4),.mov,[.c (.bool false)],none,0,0⟩] false)
 (.seq (.seq (.reg [⟨(some 7),.mov,[.t 0],none,0,0⟩,
  ⟨(some 8),(.len 1),[.t 7],none,0,0⟩,
  ⟨(some 9),.mov,[.c (.int .i64 0)],none,0,0⟩] false)
 (.block 0 (.loop (MA g) L9)))
 (.seq (.reg [⟨(some 4),.mov,[.c (.bool true)],none,0,0⟩] false)
 .ret)))⟩
section
variable{pg:Pg}
theorem FM{f:Nat}{esz:Nat}{ag:Bool}(hf:pg.fs f=some (ZC esz ag)){α : Type}(enc : α -> AV)(hfit:∀x,(enc x).fits esz ag=true)(htree:∀x,(enc x).tree=true)
  (nl cl:Bool) (es:List α) (hb:es.length<=big) (g:Nat) (cs:List AV) (hcs:treeL cs=true) (p : α -> Bool) (hp:∀x∈es,Ret pg g (enc x::cs) (.bool (p x))) :
  bV pg f [.sl nl (es.map enc) cl,.fn g cs] (λr=>∃i:Int,r = .int .i64 i/\decide (0<=i)=es.any p):=by
 refine bV.ofX hf ?_;unfold ZC;simp only[go_sem,seval];refine eJ es (λd e=>eH e (some 8) (.int .i64 d.length)) (λd r hp=>es.any p=r.any p) rfl ?_ ?_ ?_;rfl;intro hp' hI;simp only[JG,JF,go_sem,seval];simp[hI];intro d x r hp' hes hI;subst hes;simp only[JG,JF,hfit,go_sem,seval];refine gO (hp x (by simp)) (by simp only[treeL,htree,hcs,List.cons_append,List.nil_append,Bool.and_true]) rfl ?_;simp only[go_sem,seval];cases hx:p x;simp only[cQ hb,go_sem,seval];simpa[hx] using hI;simp only[go_sem,seval];simp[hx]
theorem xW{f n:Nat}(hf:pg.fs f=some (aKK n)){a b:AV}{q:Bool}(ha:treeL [a,b]=true)(h:bV pg n [a,b] (λr=>∃i:Int,r = .int .i64 i/\decide (0<=i)=q)) :
  Ret pg f [a,b] (.bool q):=by
 obtain⟨_,h,i,rfl,hi⟩:=h;refine Ret.ofX hf ?_;unfold aKK;simp only[go_sem,seval];refine gO h ha rfl ?_;simp only[go_sem,seval];exact hi
theorem ZA{f:Nat}{esz:Nat}{ag:Bool}{k:K}(hf:pg.fs f=some (aKx esz ag k)){α : Type}(enc : α -> AV)(hfit:∀x,(enc x).fits esz ag=true)
  (nl cl:Bool) (es:List α) (hb:es.length<=big) (v:AV) (p : α -> Bool) (hk:∀(kb s:Nat)(h:Hp)(x : α)(Q:AV->Eff->Prop)(t:Tok Q),XO pg kb k s h [v,enc x] Q t=Q (.bool (p x)) (.pat [] [])) :
  bV pg f [.sl nl (es.map enc) cl,v] (λr=>∃i:Int,r = .int .i64 i/\decide (0<=i)=es.any p):=by
 refine bV.ofX hf ?_;unfold aKx;simp only[go_sem,seval];refine eJ es (λd e=>eH e (some 8) (.int .i64 d.length)) (λd r hp=>es.any p=r.any p) rfl ?_ ?_ ?_;rfl;intro hp' hI;simp only[U5,U4,go_sem,seval];simp[hI];intro d x r hp' hes hI;subst hes;simp only[U5,U4,hfit,hk,go_sem,seval];cases hx:p x;simp only[cQ hb,go_sem,seval];simpa[hx] using hI;simp only[go_sem,seval];simp[hx]
def eqL{α β : Type}(q : α -> β -> Bool):List α -> List β -> Bool
 |[],[]=>true
 |x::r,y::s=>q x y&&eqL q r s
 |_,_=>false
theorem xV{α β : Type}{q : α -> β -> Bool}:∀{a:List α}{b:List β},eqL q a b=true->a.length=b.length
 |[],[],_=>rfl
 |x::r,y::s,h=>by simp only[eqL,aD]at h;simp[xV h.2]
 |[],_::_,h=>by simp[eqL]at h
 |_::_,[],h=>by simp[eqL]at h
theorem MX{f:Nat}{esz:Nat}{ag:Bool}{z:List AV}(hz:z.length=esz)(hf:pg.fs f=some (eqF esz ag z)){α : Type}(enc : α -> AV)(cells : α -> List AV)(henc:∀x,enc x = .agg (cells x))(hcl:∀x,(cells x).length=esz)(hone:∀x,bC (cells x)=true)(hag:ag=true)(htree:∀x,(enc x).tree=true)
  (nl cl nl' cl':Bool) (es es':List α) (hb:es.length<=big) (g:Nat) (q : α -> α -> Bool) (hq:∀x∈es,∀y∈es',Ret pg g [enc x,enc y] (.bool (q x y))) :
  Ret pg f [.sl nl (es.map enc) cl,.sl nl' (es'.map enc) cl',.fn g []] (.bool (eqL q es es')):=by
 have hfit:∀x,(enc x).fits esz ag=true:=by intro x;rw[henc,hag];simp[AV.fits,hcl]
 have hcells:∀x,(enc x).cells=cells x:=by intro x;rw[henc];rfl
 have hdr:List.drop esz z=[]:=by rw[<-hz];simp
 have hpart:∀x,eY (cells x) 0 esz ag=some (enc x):=by intro x;rw[hag];have:=hcl x;simp[eY,henc,<-this]
 refine Ret.ofX hf ?_;unfold eqF;simp only[go_sem,seval];cases hl:decide ((es.length:Int)=es'.length)
 case false=>simp only[hl,go_sem,seval];cases he:eqL q es es';rfl;exact absurd (congrArg Int.ofNat (xV he)) (by simpa using hl)
 simp only[hl,go_sem,seval];have hl':es.length=es'.length:=by simp at hl;omega
 refine eJ es (λd e=>eH e (some 17) (.int .i64 d.length)) (λd r hp=>∃d2 r2,es'=d2++r2/\d2.length=d.length/\eqL q es es'=eqL q r r2) rfl ?_ ?_ ?_;exact⟨[],es',rfl,rfl,rfl⟩;rintro hp ⟨d2,r2,h1,h2,h3⟩;simp only[aGQ,aGP,go_sem,seval];rw[h3];have:r2=[]:=by have:=congrArg List.length h1;simp at this;exact gU (by omega)
 subst this;rfl;rintro d x r hp hes ⟨d2,r2,h1,h2,h3⟩;have hlen:r2.length=(x::r).length:=by have e1:=congrArg List.length h1;have e2:=congrArg List.length hes;simp at e1 e2 ⊢;omega
 obtain⟨y,r2,rfl⟩:∃y s,r2=y::s:=by
  cases r2 with
  |nil=>simp at hlen
  |cons y s=>exact⟨y,s,rfl⟩
 have hy:es'[d.length]?=some y:=by rw[h1,<-h2];simp
 subst hes;simp only[aGQ,aGP,hfit,hcells,hz,hcl,hone,hpart,hy,hdr,Nat.zero_add,Nat.le_refl,List.append_nil,go_sem,seval];refine gO (hq x (by simp) y (by rw[h1];simp)) (by simp only[treeL,htree,Bool.and_true,List.append_nil]) rfl ?_;simp only[go_sem,seval];cases hx:q x y;simp only[go_sem,seval];rw[h3];simp[eqL,hx];simp only[cQ hb,go_sem,seval];exact⟨d2++[y],r2,by simp[h1],by simp[h2],by simpa[eqL,hx] using h3⟩
theorem VD{f:Nat}{esz:Nat}{ag:Bool}{k:K}(hf:pg.fs f=some (eqV esz ag k)){α : Type}(enc : α -> AV)(hfit:∀x,(enc x).fits esz ag=true)
  (nl cl nl' cl':Bool) (es es':List α) (hb:es.length<=big) (q : α -> α -> Bool)
  (hk:∀(kb s:Nat)(h:Hp)(x y : α)(Q:AV->Eff->Prop)(t:Tok Q),XO pg kb k s h [enc x,enc y] Q t=Q (.bool (!q x y)) (.pat [] [])) (hnc:k.isCall=false) :
  Ret pg f [.sl nl (es.map enc) cl,.sl nl' (es'.map enc) cl'] (.bool (eqL q es es')):=by
 refine Ret.ofX hf ?_;unfold eqV;simp only[go_sem,seval];cases hl:decide ((es.length:Int)=es'.length)
 case false=>simp only[hl,go_sem,seval];cases he:eqL q es es';rfl;exact absurd (congrArg Int.ofNat (xV he)) (by simpa using hl)
 simp only[hl,go_sem,seval];have hl':es.length=es'.length:=by simp at hl;omega
 refine eJ es (λd e=>eH e (some 13) (.int .i64 d.length)) (λd r hp=>∃d2 r2,es'=d2++r2/\d2.length=d.length/\eqL q es es'=eqL q r r2) rfl ?_ ?_ ?_;exact⟨[],es',rfl,rfl,rfl⟩;rintro hp ⟨d2,r2,h1,h2,h3⟩;simp only[aGN,aGM,go_sem,seval];rw[h3];have:r2=[]:=by have:=congrArg List.length h1;simp at this;exact gU (by omega)
 subst this;rfl;rintro d x r hp hes ⟨d2,r2,h1,h2,h3⟩;have hlen:r2.length=(x::r).length:=by have e1:=congrArg List.length h1;have e2:=congrArg List.length hes;simp at e1 e2 ⊢;omega
 obtain⟨y,r2,rfl⟩:∃y s,r2=y::s:=by
  cases r2 with
  |nil=>simp at hlen
  |cons y s=>exact⟨y,s,rfl⟩
 have hy:es'[d.length]?=some y:=by rw[h1,<-h2];simp
 subst hes;simp only[aGN,aGM,hfit,hy,hk,go_sem,seval];refine cN ?_;cases hx:q x y;simp only[go_sem,seval];rw[h3];simp[eqL,hx];simp only[cQ hb,go_sem,seval];exact⟨d2++[y],r2,by simp[h1],by simp[h2],by simpa[eqL,hx] using h3⟩
end
end
end Go.Tev
