import Derived.Test.YtlalckpnpidccaaGreatDoorDAO
import Derived.KernelRfl
import Derived.Test.YtlalckpnpidccaaGreatDoorDAH
set_option linter.all false
namespace Go.Tev
section
structure Tok.{u}{α : Sort u}(a : α):Type where
def XX(pg:Pg)(kb:Nat)(c:C)(st:St)(Q:Ex->St->Prop)(_:Tok Q):Prop:=WX pg kb c st Q
def XR(pg:Pg)(kb:Nat)(rs:List R)(st:St)(Q:St->Prop)(_:Tok Q):Prop:=WR pg kb rs st Q
def XT(pg:Pg)(kb:Nat)(rs:List R)(st:St)(Q:St->List Eff->Prop)(_:Tok Q):Prop:=WT pg kb rs st Q
def XO(pg:Pg)(kb:Nat)(k:K)(s:Nat)(h:Hp)(vs:List AV)(Q:AV->Eff->Prop)(_:Tok Q):Prop:=WO pg kb k s h vs Q
def XG(v:AV)(b:Bool)(A B:Unit->Prop)(_:Tok (A,B)):Prop:=gdQ v b (A ()) (B ())
def XC(v:AV)(A B:Unit->Prop)(_:Tok (A,B)):Prop:=II v (A ()) (B ())
def XV(o:Option (AV×Eff))(Q:AV->Eff->Prop)(_:Tok Q):Prop:=D9 o Q
variable{pg:Pg}{kb:Nat}
theorem N0(st:St)(Q:Ex->St->Prop)(t:Tok Q):XX pg kb .skip st Q t=Q .nor st:=OD st Q
theorem N2(id:Nat)(st:St)(Q:Ex->St->Prop)(t:Tok Q):XX pg kb (.exit id) st Q t=Q (.ext id) st:=OG id st Q
theorem WB(st:St)(Q:Ex->St->Prop)(t:Tok Q):XX pg kb .ret st Q t=Q .ret st:=XH st Q
theorem WC(rs:List R)(st:St)(Q:Ex->St->Prop)(t:Tok Q):XX pg kb (.reg rs false) st Q t=XR pg kb rs st (λst'=>Q .nor st') ⟨⟩:=XI rs st Q
theorem N1(rs:List R)(st:St)(Q:Ex->St->Prop)(t:Tok Q):XX pg kb (.reg rs true) st Q t=XT pg kb rs st (λst' es=>eL 0 rs es=true/\Q .nor st') ⟨⟩:=OE rs st Q
theorem N3(c:X)(a b:C)(st:St)(Q:Ex->St->Prop)(t:Tok Q):XX pg kb (.cond c a b) st Q t=XC (c.ev pg.gl st.env) (λ_=>XX pg kb a st Q t) (λ_=>XX pg kb b st Q t) ⟨⟩:=OH c a b st Q
theorem WA(a b:C)(st:St)(Q:Ex->St->Prop)(t:Tok Q):XX pg kb (.seq a b) st Q t=XX pg kb a st (jX (λst'=>XX pg kb b st' Q t) Q) ⟨⟩:=XF a b st Q
theorem JF(id:Nat)(b:C)(st:St)(Q:Ex->St->Prop)(t:Tok Q):XX pg kb (.block id b) st Q t=XX pg kb b st (mF id Q) ⟨⟩:=JP id b st Q
theorem oE{α : Type}(μ : α -> Nat)(E : α -> List AV->Hp->Prop){b:C}{clr:List Bool}{st:St}{Q:Ex->St->Prop}{t:Tok Q}(a : α)(h0:E a (clear clr st.env) st.hp)
  (step:∀a env hp,E a env hp->XX pg kb b ⟨env,hp⟩ (jX (λst'=>∃a',μ a' < μ a/\E a' (clear clr st'.env) st'.hp) Q) ⟨⟩) :
  XX pg kb (.loop b clr) st Q t:=FH μ E a h0 step
theorem WE(st:St)(A:St->Prop)(t:Tok A):XR pg kb [] st A t=A st:=XK st A
theorem N5(d:Option Nat)(k:K)(xs:List X)(bef s:Nat)(rs:List R)(st:St)(A:St->Prop)(t:Tok A) :
  XR pg kb (⟨d,k,xs,none,bef,s⟩::rs) st A t=XO pg kb k s st.hp (xs.map (X.ev pg.gl st.env)) (λv eff=>XR pg kb rs ⟨d6 st.env d v,eff.app st.hp⟩ A t) ⟨⟩:=DQ d k xs bef s rs st A
theorem JH(d:Option Nat)(k:K)(xs:List X)(g:Nat)(b:Bool)(bef s:Nat)(rs:List R)(st:St)(A:St->Prop)(t:Tok A) :
  XR pg kb (⟨d,k,xs,some (g,b),bef,s⟩::rs) st A t =
   XG (cO st.env g) b (λ_=>XO pg kb k s st.hp (xs.map (X.ev pg.gl st.env)) (λv eff=>XR pg kb rs ⟨d6 st.env d v,eff.app st.hp⟩ A t) ⟨⟩) (λ_=>XR pg kb rs ⟨d6 st.env d (.tup []),st.hp⟩ A t) ⟨⟩:=
 JR d k xs g b bef s rs st A
theorem WD(st:St)(A:St->List Eff->Prop)(t:Tok A):XT pg kb [] st A t=A st []:=XJ st A
theorem N4(d:Option Nat)(k:K)(xs:List X)(bef s:Nat)(rs:List R)(st:St)(A:St->List Eff->Prop)(t:Tok A) :
  XT pg kb (⟨d,k,xs,none,bef,s⟩::rs) st A t=XO pg kb k s st.hp (xs.map (X.ev pg.gl st.env)) (λv eff=>XT pg kb rs ⟨d6 st.env d v,eff.app st.hp⟩ (λst' es=>A st' (eff::es)) ⟨⟩) ⟨⟩:=DP d k xs bef s rs st A
theorem JG(d:Option Nat)(k:K)(xs:List X)(g:Nat)(b:Bool)(bef s:Nat)(rs:List R)(st:St)(A:St->List Eff->Prop)(t:Tok A) :
  XT pg kb (⟨d,k,xs,some (g,b),bef,s⟩::rs) st A t =
   XG (cO st.env g) b (λ_=>XO pg kb k s st.hp (xs.map (X.ev pg.gl st.env)) (λv eff=>XT pg kb rs ⟨d6 st.env d v,eff.app st.hp⟩ (λst' es=>A st' (eff::es)) ⟨⟩) ⟨⟩)
    (λ_=>XT pg kb rs ⟨d6 st.env d (.tup []),st.hp⟩ (λst' es=>A st' (.pat [] []::es)) ⟨⟩) ⟨⟩:=
 JQ d k xs g b bef s rs st A
theorem DN(A B:Unit->Prop)(t:Tok (A,B)):XC (.bool true) A B t=A ():=rfl
theorem AM(A B:Unit->Prop)(t:Tok (A,B)):XC (.bool false) A B t=B ():=rfl
theorem AL{c:Bool}{A B:Unit->Prop}{t:Tok (A,B)}(h1:c=true->A ())(h2:c=false->B ()):XC (.bool c) A B t:=by cases c;exact h2 rfl;exact h1 rfl
theorem SS(A B:Unit->Prop)(t:Tok (A,B)):XG (.bool true) true A B t=A ():=rfl
theorem SW(A B:Unit->Prop)(t:Tok (A,B)):XG (.bool false) false A B t=A ():=rfl
theorem ST(A B:Unit->Prop)(t:Tok (A,B)):XG (.bool true) false A B t=B ():=rfl
theorem SV(A B:Unit->Prop)(t:Tok (A,B)):XG (.bool false) true A B t=B ():=rfl
theorem SU(b:Bool)(A B:Unit->Prop)(t:Tok (A,B)):XG (.tup []) b A B t=B ():=rfl
theorem AK{c b:Bool}{A B:Unit->Prop}{t:Tok (A,B)}(h1:c=true->XG (.bool true) b A B t)(h2:c=false->XG (.bool false) b A B t):XG (.bool c) b A B t:=by cases c;exact h2 rfl;exact h1 rfl
theorem DM(v:AV)(e:Eff)(Q:AV->Eff->Prop)(t:Tok Q):XV (some (v,e)) Q t=Q v e:=rfl
theorem iX{f s:Nat}{th:Bool}{h:Hp}{vs ts:List AV}{keys:List Nat}{r v:AV}{pa:List Ent}{Q:AV->Eff->Prop}{t:Tok Q}(hr:Ret pg f ts r)
  (hm:b7 (snap depth h) vs=some (ts,keys)) (hv:e9 h (kb+s) th r=some (v,pa)) (q:Q v (.pat ((kb+s)::keys) ((if r.flat then [] else bE h keys)++pa))) :
  XO pg kb (.call f th false) s h vs Q t:=(OI hr hm hv).mpr q
theorem fH(d:Nat)(h:Hp):∀{vs:List AV},treeL vs=true->b7 (snap (d+1) h) vs=some (vs,[])
 |[],_=>rfl
 |x::r,q=>by
  simp only[treeL,aA]at q;have e:snap (d+1) h x=some (x,[]):=by unfold snap;rw[if_pos q.1]
  rw[b7,e,fH d h q.2];rfl
def AV.notOs:AV->Bool
 |.os .. => false
 |_=>true
theorem bQ{f s:Nat}{th:Bool}{h:Hp}{vs:List AV}{r:AV}{Q:AV->Eff->Prop}{t:Tok Q}(hr:Ret pg f vs r)
  (hm:treeL vs=true) (hv:r.notOs=true) (q:Q r (.pat [kb+s] [])) :
  XO pg kb (.call f th false) s h vs Q t:=by
 refine iX hr (fH 63 h hm) (v:=r) (pa:=[]) ?_ ?_;cases r<;>first|rfl|simp[AV.notOs]at hv
 have:(if r.flat then ([]:List Ent) else bE h [])++[]=[]:=by split<;>rfl
 rw[this];exact q
theorem aP{f s:Nat}{th:Bool}{h:Hp}{vs:List AV}{r:AV}{Q:AV->Eff->Prop}{t:Tok Q}(hr:Ret pg f vs r)(q:Q r (.pat [kb+s] []))(hm:treeL vs=true:=by simp only[go_sem,seval])(hv:r.notOs=true:=by rfl):XO pg kb (.call f th false) s h vs Q t:=bQ hr hm hv q
theorem Wk{P Q:Prop}(h:Q)(e:P=Q:=by simp only[go_sem,seval];rfl):P:=e.mpr h
theorem dJ{a b:Prop}(h:b)(k:a:=by kernel_rfl):a/\b:=⟨k,h⟩
theorem JL{f s:Nat}{th im:Bool}{h:Hp}{cs args:List AV}{Q:AV->Eff->Prop}{t:Tok Q} :
  XO pg kb (.callv th im) s h (.fn f cs::args) Q t=XO pg kb (.call f th im) s h (args++cs) Q t:=rfl
theorem Ret.ofX{f:Nat}{cf:CF}{vs:List AV}{r:AV}(hf:pg.fs f=some cf)(hw:XX pg 0 cf.body ⟨enter cf vs,[]⟩ (KR cf.res r) ⟨⟩):Ret pg f vs r:=Ret.of hf hw
def IE(res:List (Sum Nat (Nat×Nat×Bool)))(r:AV)(h:Hp)(ex:Ex)(st:St):Prop:=(match ex with|.ext _=>False|_=>True)/\result st res=some r/\st.hp=h
theorem x5.ofX{f:Nat}{cf:CF}{vs:List AV}{h:Hp}{r:AV}{h':Hp}(hf:pg.fs f=some cf)(hw:XX pg kb cf.body ⟨enter cf vs,h⟩ (IE cf.res r h') ⟨⟩):x5 pg f vs kb h r h':=x5.of hf hw
theorem IC(res:List (Sum Nat (Nat×Nat×Bool)))(r:AV)(h:Hp)(st:St):IE res r h .nor st=(result st res=some r/\st.hp=h):=by simp[IE]
theorem IB(res:List (Sum Nat (Nat×Nat×Bool)))(r:AV)(h:Hp)(st:St):IE res r h .ret st=(result st res=some r/\st.hp=h):=by simp[IE]
theorem N7(s:Nat)(h:Hp)(c a b:Bool)(Q:AV->Eff->Prop)(t:Tok Q):XO pg kb .pick s h [.bool c,.bool a,.bool b] Q t=Q (.bool (bif c then a else b)) (.pat [] []):=by show WO pg kb .pick s h _ Q=_;rw[bM rfl];cases c<;>rfl
theorem FF(s:Nat)(h:Hp)(a b:AV)(Q:AV->Eff->Prop)(t:Tok Q):XO pg kb .pick s h [.bool true,a,b] Q t=Q a (.pat [] []):=by show WO pg kb .pick s h _ Q=_;rw[bM rfl];rfl
theorem FG(s:Nat)(h:Hp)(a b:AV)(Q:AV->Eff->Prop)(t:Tok Q):XO pg kb .pick s h [.bool false,a,b] Q t=Q b (.pat [] []):=by show WO pg kb .pick s h _ Q=_;rw[bM rfl];rfl
theorem WM(s:Nat)(h:Hp)(vs:List AV)(Q:AV->Eff->Prop)(t:Tok Q):XO pg kb (.mov) s h vs Q t=XV (HJ vs) Q ⟨⟩:=bM rfl s h vs Q
theorem XA(s:Nat)(h:Hp)(vs:List AV)(Q:AV->Eff->Prop)(t:Tok Q):XO pg kb (.box) s h vs Q t=XV (e7 h (kb+s) vs) Q ⟨⟩:=bM rfl s h vs Q
theorem JO(z:List AV)(ag:Bool)(s:Nat)(h:Hp)(vs:List AV)(Q:AV->Eff->Prop)(t:Tok Q):XO pg kb (.alloc z ag) s h vs Q t=XV (wB h (kb+s) z ag vs) Q ⟨⟩:=bM rfl s h vs Q
theorem JM(z:List AV)(ps:List (Nat×Nat))(s:Nat)(h:Hp)(vs:List AV)(Q:AV->Eff->Prop)(t:Tok Q):XO pg kb (.build z ps) s h vs Q t=XV (wA z ps vs) Q ⟨⟩:=bM rfl s h vs Q
theorem N9(e:Nat)(ag own:Bool)(s:Nat)(h:Hp)(vs:List AV)(Q:AV->Eff->Prop)(t:Tok Q):XO pg kb (.mkSl e ag own) s h vs Q t=XV (BM h (kb+s) e ag own vs) Q ⟨⟩:=bM rfl s h vs Q
theorem OB(sz:Nat)(ag:Bool)(s:Nat)(h:Hp)(vs:List AV)(Q:AV->Eff->Prop)(t:Tok Q):XO pg kb (.load sz ag) s h vs Q t=XV (BO h sz ag vs) Q ⟨⟩:=bM rfl s h vs Q
theorem JI(sz:Nat)(ag:Bool)(s:Nat)(h:Hp)(vs:List AV)(Q:AV->Eff->Prop)(t:Tok Q):XO pg kb (.store sz ag) s h vs Q t=XV (v8 h sz ag vs) Q ⟨⟩:=bM rfl s h vs Q
theorem N8(s:Nat)(h:Hp)(vs:List AV)(Q:AV->Eff->Prop)(t:Tok Q):XO pg kb (.nilc) s h vs Q t=XV (BL vs) Q ⟨⟩:=bM rfl s h vs Q
theorem XB(op:BinOp)(s:Nat)(h:Hp)(vs:List AV)(Q:AV->Eff->Prop)(t:Tok Q):XO pg kb (.bin op) s h vs Q t=XV (HX op vs) Q ⟨⟩:=bM rfl s h vs Q
theorem XD(ng:Bool)(s:Nat)(h:Hp)(vs:List AV)(Q:AV->Eff->Prop)(t:Tok Q):XO pg kb (.beq ng) s h vs Q t=XV (HY ng vs) Q ⟨⟩:=bM rfl s h vs Q
theorem W4(q:Nat)(ng:Bool)(s:Nat)(h:Hp)(vs:List AV)(Q:AV->Eff->Prop)(t:Tok Q):XO pg kb (.eqn q ng) s h vs Q t=XV (HS q ng vs) Q ⟨⟩:=bM rfl s h vs Q
theorem W3(ng:Bool)(qs:List Nat)(s:Nat)(h:Hp)(vs:List AV)(Q:AV->Eff->Prop)(t:Tok Q):XO pg kb (.eqs ng qs) s h vs Q t=XV (rD ng qs vs) Q ⟨⟩:=bM rfl s h vs Q
theorem aAT(op:UnOp)(s:Nat)(h:Hp)(vs:List AV)(Q:AV->Eff->Prop)(t:Tok Q):XO pg kb (.un op) s h vs Q t=XV (UZ op vs) Q ⟨⟩:=bM rfl s h vs Q
theorem W7(i:IntKind)(s:Nat)(h:Hp)(vs:List AV)(Q:AV->Eff->Prop)(t:Tok Q):XO pg kb (.cvi i) s h vs Q t=XV (HU i vs) Q ⟨⟩:=bM rfl s h vs Q
theorem W6(s:Nat)(h:Hp)(vs:List AV)(Q:AV->Eff->Prop)(t:Tok Q):XO pg kb (.cvs) s h vs Q t=XV (HT vs) Q ⟨⟩:=bM rfl s h vs Q
theorem WJ(s:Nat)(h:Hp)(vs:List AV)(Q:AV->Eff->Prop)(t:Tok Q):XO pg kb (.s2b) s h vs Q t=XV (HG vs) Q ⟨⟩:=bM rfl s h vs Q
theorem XE(s:Nat)(h:Hp)(vs:List AV)(Q:AV->Eff->Prop)(t:Tok Q):XO pg kb (.b2s) s h vs Q t=XV (HZ h vs) Q ⟨⟩:=bM rfl s h vs Q
theorem W0(off sz:Nat)(ag:Bool)(s:Nat)(h:Hp)(vs:List AV)(Q:AV->Eff->Prop)(t:Tok Q):XO pg kb (.fld off sz ag) s h vs Q t=XV (eZ off sz ag vs) Q ⟨⟩:=bM rfl s h vs Q
theorem W1(off sz:Nat)(ag:Bool)(s:Nat)(h:Hp)(vs:List AV)(Q:AV->Eff->Prop)(t:Tok Q):XO pg kb (.fad off sz ag) s h vs Q t=XV (e6 off sz ag vs) Q ⟨⟩:=bM rfl s h vs Q
theorem WZ(e:Nat)(ag:Bool)(arr:Option Nat)(s:Nat)(h:Hp)(vs:List AV)(Q:AV->Eff->Prop)(t:Tok Q):XO pg kb (.iad e ag arr) s h vs Q t=XV (HR e ag arr vs) Q ⟨⟩:=bM rfl s h vs Q
theorem WW(s:Nat)(h:Hp)(vs:List AV)(Q:AV->Eff->Prop)(t:Tok Q):XO pg kb (.ixs) s h vs Q t=XV (HP vs) Q ⟨⟩:=bM rfl s h vs Q
theorem WY(len e:Nat)(ag:Bool)(s:Nat)(h:Hp)(vs:List AV)(Q:AV->Eff->Prop)(t:Tok Q):XO pg kb (.ixa len e ag) s h vs Q t=XV (HQ len e ag vs) Q ⟨⟩:=bM rfl s h vs Q
theorem WG(e:Nat)(lo hi mx:Bool)(s:Nat)(h:Hp)(vs:List AV)(Q:AV->Eff->Prop)(t:Tok Q):XO pg kb (.slc e lo hi mx) s h vs Q t=XV (jY h e lo hi mx vs) Q ⟨⟩:=bM rfl s h vs Q
theorem WF(lo hi:Bool)(s:Nat)(h:Hp)(vs:List AV)(Q:AV->Eff->Prop)(t:Tok Q):XO pg kb (.sls lo hi) s h vs Q t=XV (rC lo hi vs) Q ⟨⟩:=bM rfl s h vs Q
theorem WH(len e:Nat)(lo hi:Bool)(s:Nat)(h:Hp)(vs:List AV)(Q:AV->Eff->Prop)(t:Tok Q):XO pg kb (.sla len e lo hi) s h vs Q t=XV (HF h len e lo hi vs) Q ⟨⟩:=bM rfl s h vs Q
theorem WP(e:Nat)(ag:Bool)(bytes:Nat)(z:List AV)(s:Nat)(h:Hp)(vs:List AV)(Q:AV->Eff->Prop)(t:Tok Q):XO pg kb (.mks e ag bytes z) s h vs Q t=XV (HL h (kb+s) e ag bytes z vs) Q ⟨⟩:=bM rfl s h vs Q
theorem WV(q:Nat)(s:Nat)(h:Hp)(vs:List AV)(Q:AV->Eff->Prop)(t:Tok Q):XO pg kb (.len q) s h vs Q t=XV (oX h q vs) Q ⟨⟩:=bM rfl s h vs Q
theorem OC(n:Nat)(s:Nat)(h:Hp)(vs:List AV)(Q:AV->Eff->Prop)(t:Tok Q):XO pg kb (.lenc n) s h vs Q t=XV (BP n vs) Q ⟨⟩:=bM rfl s h vs Q
theorem W9(s:Nat)(h:Hp)(vs:List AV)(Q:AV->Eff->Prop)(t:Tok Q):XO pg kb (.cap) s h vs Q t=XV (HW h vs) Q ⟨⟩:=bM rfl s h vs Q
theorem JN(e:Nat)(ag:Bool)(bytes:Nat)(s:Nat)(h:Hp)(vs:List AV)(Q:AV->Eff->Prop)(t:Tok Q):XO pg kb (.app e ag bytes) s h vs Q t=XV (zL h (kb+s) e ag bytes vs) Q ⟨⟩:=bM rfl s h vs Q
theorem W8(e:Nat)(ag:Bool)(s:Nat)(h:Hp)(vs:List AV)(Q:AV->Eff->Prop)(t:Tok Q):XO pg kb (.cpy e ag) s h vs Q t=XV (HV h e ag vs) Q ⟨⟩:=bM rfl s h vs Q
theorem aAV(s:Nat)(h:Hp)(vs:List AV)(Q:AV->Eff->Prop)(t:Tok Q):XO pg kb (.mn) s h vs Q t=XV (U3 vs) Q ⟨⟩:=bM rfl s h vs Q
theorem aAU(s:Nat)(h:Hp)(vs:List AV)(Q:AV->Eff->Prop)(t:Tok Q):XO pg kb (.mx) s h vs Q t=XV (U2 vs) Q ⟨⟩:=bM rfl s h vs Q
theorem W2(i:Nat)(s:Nat)(h:Hp)(vs:List AV)(Q:AV->Eff->Prop)(t:Tok Q):XO pg kb (.ext i) s h vs Q t=XV (C2 i vs) Q ⟨⟩:=bM rfl s h vs Q
theorem WS(s:Nat)(h:Hp)(vs:List AV)(Q:AV->Eff->Prop)(t:Tok Q):XO pg kb (.mki) s h vs Q t=XV (HN vs) Q ⟨⟩:=bM rfl s h vs Q
theorem WU(f:Nat)(s:Nat)(h:Hp)(vs:List AV)(Q:AV->Eff->Prop)(t:Tok Q):XO pg kb (.mkf f) s h vs Q t=XV (HO f vs) Q ⟨⟩:=bM rfl s h vs Q
theorem EQ(a:AV)(l:List AV):cO (a::l) 0=a:=rfl
theorem ES(a:AV)(l:List AV)(n:Nat):cO (a::l) (n+1)=cO l n:=by simp[cO]
theorem D2(l:List AV)(v:AV):d6 l none v=l:=rfl
theorem D0(a:AV)(l:List AV)(v:AV):d6 (a::l) (some 0) v=v::l:=rfl
theorem D1(a:AV)(l:List AV)(v:AV)(n:Nat):d6 (a::l) (some (n+1)) v=a::d6 l (some n) v:=rfl
theorem NZ(h:Hp)(rd:List Nat):Eff.app h (.pat rd [])=h:=rfl
theorem fS(h:Hp)(rd:List Nat)(k e:Nat)(o:Ob):Eff.app h (.pat rd [⟨k,e,o⟩])=h.put k e o:=rfl
theorem nF(h:Hp)(rd:List Nat)(k e k' e':Nat)(o o':Ob):Eff.app h (.pat rd [⟨k,e,o⟩,⟨k',e',o'⟩])=(h.put k e o).put k' e' o':=rfl
theorem FE(h h':Hp):Eff.app h (.whole h')=h':=rfl
theorem FD(v:AV):val v=some (v,.pat [] []):=rfl
theorem KH(h:Hp)(k:Nat)(o:Ob)(v:Nat->AV):jF h k o v=some (v (h.next k),.pat [k] [⟨k,h.next k,o⟩]):=rfl
theorem GG(k:Nat):Hp.next [] k=0:=rfl
theorem GF(h:Hp)(k e:Nat)(o:Ob)(q:Nat):(h.put k e o).next q=if k=q then e+1 else h.next q:=by simp only[Hp.next,aG];by_cases c:k=q<;>simp[c]
theorem KQ(k:Nat):Hp.get [] k=none:=rfl
theorem EP(cs:List AV):AV.isAgg (.agg cs)=true:=rfl
theorem E9(cs:List AV):AV.cells (.agg cs)=cs:=rfl
theorem D8(cs:List AV)(off sz:Nat):dK cs off sz true=if off+sz<=cs.length then some (.agg ((cs.drop off).take sz)) else none:=rfl
theorem D7(cs:List AV)(off sz:Nat):dK cs off sz false=cs[off]?:=rfl
theorem CD{α β : Type}(x : α)(f : α -> Option β):(some x).bind f=f x:=rfl
theorem EI{α β : Type}(x : α)(f : α -> β):(some x).map f=some (f x):=rfl
theorem XL(e:List AV)(h:Hp):(St.mk e h).env=e:=rfl
theorem aAX(e:List AV)(h:Hp):(St.mk e h).hp=h:=rfl
theorem OK(a b:Nat)(c:List (Sum Nat (Nat×Nat×Bool)))(d:C):(CF.mk a b c d).body=d:=rfl
theorem XS(a b:Nat)(c:List (Sum Nat (Nat×Nat×Bool)))(d:C):(CF.mk a b c d).res=c:=rfl
theorem aAZ(a b:Nat)(c:List (Sum Nat (Nat×Nat×Bool)))(d:C):(CF.mk a b c d).nt=b:=rfl
theorem fits_bool(b:Bool)(sz:Nat)(ag:Bool):AV.fits (.bool b) sz ag=(!ag&&sz==1):=rfl
theorem DW(b:Bool):AV.tree (.bool b)=true:=by simp[AV.tree]
theorem fits_int(k:IntKind)(n:Int)(sz:Nat)(ag:Bool):AV.fits (.int k n) sz ag=(!ag&&sz==1):=rfl
theorem p8(k:IntKind)(n:Int):AV.tree (.int k n)=true:=by simp[AV.tree]
theorem fits_str(b:List UInt8)(sz:Nat)(ag:Bool):AV.fits (.str b) sz ag=(!ag&&sz==1):=rfl
theorem FK(b:List UInt8):AV.tree (.str b)=true:=by simp[AV.tree]
theorem fits_sl(nl:Bool)(es:List AV)(cl:Bool)(sz:Nat)(ag:Bool):AV.fits (.sl nl es cl) sz ag=(!ag&&sz==1):=rfl
theorem u7(nl:Bool)(es:List AV)(cl:Bool):AV.tree (.sl nl es cl)=treeL es:=by simp[AV.tree]
theorem fits_fp(v:AV)(sz:Nat)(ag:Bool):AV.fits (.fp v) sz ag=(!ag&&sz==1):=rfl
theorem JZ(v:AV):AV.tree (.fp v)=v.tree:=by simp[AV.tree]
theorem fits_nilp  (sz:Nat) (ag:Bool):AV.fits (.nilp ) sz ag=(!ag&&sz==1):=rfl
theorem DT  : AV.tree (.nilp )=true:=by simp[AV.tree]
theorem fits_nilf  (sz:Nat) (ag:Bool):AV.fits (.nilf ) sz ag=(!ag&&sz==1):=rfl
theorem DV  : AV.tree (.nilf )=true:=by simp[AV.tree]
theorem fits_nili  (sz:Nat) (ag:Bool):AV.fits (.nili ) sz ag=(!ag&&sz==1):=rfl
theorem DU  : AV.tree (.nili )=true:=by simp[AV.tree]
theorem fits_fn(f:Nat)(cs:List AV)(sz:Nat)(ag:Bool):AV.fits (.fn f cs) sz ag=(!ag&&sz==1):=rfl
theorem u9(f:Nat)(cs:List AV):AV.tree (.fn f cs)=treeL cs:=by simp[AV.tree]
theorem fits_rf(k e o l c:Nat)(sz:Nat)(ag:Bool):AV.fits (.rf k e o l c) sz ag=(!ag&&sz==1):=rfl
theorem JX(k e o l c:Nat):AV.tree (.rf k e o l c)=false:=by simp[AV.tree]
theorem fits_pt(k e o:Nat)(sz:Nat)(ag:Bool):AV.fits (.pt k e o) sz ag=(!ag&&sz==1):=rfl
theorem JY(k e o:Nat):AV.tree (.pt k e o)=false:=by simp[AV.tree]
theorem fits_ifc(v:AV)(sz:Nat)(ag:Bool):AV.fits (.ifc v) sz ag=(!ag&&sz==1):=rfl
theorem FL(v:AV):AV.tree (.ifc v)=v.tree:=by simp[AV.tree]
theorem fits_agg(cs:List AV)(sz:Nat)(ag:Bool):AV.fits (.agg cs) sz ag=(ag&&cs.length==sz):=rfl
theorem FM(cs:List AV):AV.tree (.agg cs)=treeL cs:=by simp[AV.tree]
theorem FJ(cs:List AV):AV.tree (.tup cs)=treeL cs:=by simp[AV.tree]
theorem GA(b:Bool):AV.one (.bool b)=true:=rfl
theorem KF(k:IntKind)(n:Int):AV.one (.int k n)=true:=rfl
theorem KE(b:List UInt8):AV.one (.str b)=true:=rfl
theorem UG(nl:Bool)(es:List AV)(cl:Bool):AV.one (.sl nl es cl)=true:=rfl
theorem UJ(v:AV):AV.one (.fp v)=true:=rfl
theorem F7  : AV.one (.nilp )=true:=rfl
theorem F9  : AV.one (.nilf )=true:=rfl
theorem F8  : AV.one (.nili )=true:=rfl
theorem UK(f:Nat)(cs:List AV):AV.one (.fn f cs)=true:=rfl
theorem UH(k e o l c:Nat):AV.one (.rf k e o l c)=true:=rfl
theorem UI(k e o:Nat):AV.one (.pt k e o)=true:=rfl
theorem KG(v:AV):AV.one (.ifc v)=true:=rfl
theorem EW(b:Bool):AV.flat (.bool b)=true:=by simp[AV.flat]
theorem HD(k:IntKind)(n:Int):AV.flat (.int k n)=true:=by simp[AV.flat]
theorem HC(b:List UInt8):AV.flat (.str b)=true:=by simp[AV.flat]
attribute [go_sem] GA KF KE UG UJ F7 F9 F8 UK UH UI KG EW HD HC List.append_nil
theorem GU(nl:Bool)(es:List AV)(cl:Bool):AV.isNil 1 (.sl nl es cl)=some nl:=rfl
theorem GV(k e o l c:Nat):AV.isNil 1 (.rf k e o l c)=some false:=rfl
theorem BC:AV.isNil 4 .nili=some true:=rfl
theorem EL(v:AV):AV.isNil 4 (.ifc v)=some false:=rfl
theorem BB:AV.isNil 0 .nilp=some true:=rfl
theorem GX(v:AV):AV.isNil 0 (.fp v)=some false:=rfl
theorem GW(k e o:Nat):AV.isNil 0 (.pt k e o)=some false:=rfl
theorem BD:AV.isNil 3 .nilf=some true:=rfl
theorem GY(f:Nat)(cs:List AV):AV.isNil 3 (.fn f cs)=some false:=rfl
attribute [go_sem ↓] N0 N2 WB WC N1 N3 WA JF WE N5 JH WD N4 JG DN AM SS SW ST SV SU DM
 DY DZ DX CB CC CA H7 H6 IC IB
attribute [go_sem] DN AM SS SW ST SV SU DM JL N7 FF FG
 WM XA JO JM N9 OB JI N8 XB XD W4 W3 aAT W7 W6 WJ XE W0 W1 WZ WW WY WG WF WH WP WV OC W9 W8 aAV aAU W2 WS WU
theorem B9(b:Bool):AV.cells (.bool b)=[.bool b]:=rfl
theorem BH(b:Bool):AV.isAgg (.bool b)=false:=rfl
theorem E7(k:IntKind)(n:Int):AV.cells (.int k n)=[.int k n]:=rfl
theorem EN(k:IntKind)(n:Int):AV.isAgg (.int k n)=false:=rfl
theorem E6(b:List UInt8):AV.cells (.str b)=[.str b]:=rfl
theorem EM(b:List UInt8):AV.isAgg (.str b)=false:=rfl
theorem IZ(nl:Bool)(es:List AV)(cl:Bool):AV.cells (.sl nl es cl)=[.sl nl es cl]:=rfl
theorem G0(nl:Bool)(es:List AV)(cl:Bool):AV.isAgg (.sl nl es cl)=false:=rfl
theorem I3(v:AV):AV.cells (.fp v)=[.fp v]:=rfl
theorem G4(v:AV):AV.isAgg (.fp v)=false:=rfl
theorem B6  : AV.cells (.nilp )=[.nilp ]:=rfl
theorem BE  : AV.isAgg (.nilp )=false:=rfl
theorem B8  : AV.cells (.nilf )=[.nilf ]:=rfl
theorem BG  : AV.isAgg (.nilf )=false:=rfl
theorem B7  : AV.cells (.nili )=[.nili ]:=rfl
theorem BF  : AV.isAgg (.nili )=false:=rfl
theorem I4(f:Nat)(cs:List AV):AV.cells (.fn f cs)=[.fn f cs]:=rfl
theorem G5(f:Nat)(cs:List AV):AV.isAgg (.fn f cs)=false:=rfl
theorem I0(k e o l c:Nat):AV.cells (.rf k e o l c)=[.rf k e o l c]:=rfl
theorem G1(k e o l c:Nat):AV.isAgg (.rf k e o l c)=false:=rfl
theorem I1(k e o:Nat):AV.cells (.pt k e o)=[.pt k e o]:=rfl
theorem G2(k e o:Nat):AV.isAgg (.pt k e o)=false:=rfl
theorem E8(v:AV):AV.cells (.ifc v)=[.ifc v]:=rfl
theorem EO(v:AV):AV.isAgg (.ifc v)=false:=rfl
attribute [go_sem] B9 BH E7 EN E6 EM IZ G0 I3 G4 B6 BE B8 BG B7 BF I4 G5 I0 G1 I1 G2 E8 EO List.all_cons List.all_nil
attribute [go_sem] EQ ES D2 D0 D1 aG NZ fS nF FE FD KH KQ GG GF
 EP E9 D8 D7 U4 exists_eq_left' CD EI X.ev XL aAX OK XS aAZ
 HJ e7 wB wA BM BO v8 BL HX HY HS rD UZ HU HT HG HZ eZ e6 HR HP HQ jY rC HF HL oX BP HW zL HV U3 U2 C2 HN HO
 JC bin V4 JB jI cD GU GV BC EL BB GX GW BD GY fits_agg fits_bool fits_int fits_str fits_sl fits_fp fits_nilp fits_fn fits_rf fits_pt fits_nilf fits_nili fits_ifc  bC DW p8 FK FM FJ u7 JZ DT DU DV u9 FL JX JY eqC enter result jO oL
 List.map_cons List.map_nil List.length_cons List.length_nil List.replicate_succ List.replicate_zero List.cons_append List.nil_append List.getElem?_cons_zero List.getElem?_cons_succ List.drop_zero List.drop_succ_cons List.take_succ_cons List.take_zero
 Option.getD_some
end
section
attribute [go_sem] Nat.succ_eq_add_one Bool.and_true Bool.true_and Bool.and_false Bool.false_and Bool.or_true Bool.true_or Bool.or_false Bool.false_or Bool.not_true Bool.not_false Bool.false_eq_true cond_true cond_false Int.natCast_nonneg Int.toNat_natCast List.length_map List.getElem?_map and_self and_true true_and decide_true decide_false ite_true ite_false if_true if_false not_false_eq_true not_true_eq_false Int.lt_irrefl Bool.and_self Bool.or_self Bool.not_eq_true Bool.not_eq_false eq_self Int.toNat_zero Int.le_refl Int.natCast_zero Nat.zero_le Option.isSome_none Option.isSome_some beq_self_eq_true Option.getD_none Option.isNone_none Option.isNone_some ne_eq
def big:Nat:=16777216
structure Str where
 bs:List UInt8
 ok:bs.length<=big
def Str.av(s:Str):AV:=.str s.bs
structure Sl(α : Type) where
 nl:Bool
 es:List α
 cl:Bool
 ok:es.length<=big
def Sl.av{α : Type}(f : α -> AV)(s:Sl α):AV:=.sl s.nl (s.es.map f) s.cl
def aZ(n:Int):AV:=.int .i64 n
structure bP where
 v:Str
 c:Int
def bP.av(x:bP):AV:=.agg [.str x.v.bs,.int .i64 x.c]
structure Lin where
 c:Int
 ts:Sl bP
def Lin.av(x:Lin):AV:=.agg [.int .i64 x.c,x.ts.av bP.av]
structure bL where
 row:Str
 dims:Sl Lin
def bL.av(x:bL):AV:=.agg [.str x.row.bs,x.dims.av Lin.av]
structure Typ where
 elem:Str
 shape:bL
def Typ.av(x:Typ):AV:=.agg [.str x.elem.bs,.str x.shape.row.bs,x.shape.dims.av Lin.av]
structure bF where
 op:Str
 num:Int
 args:Sl Int
def bF.av(x:bF):AV:=.agg [.str x.op.bs,.int .i64 x.num,x.args.av aZ]
structure Val where
 v:Str
 n:Int
def Val.av(x:Val):AV:=.agg [.str x.v.bs,.int .i64 x.n]
inductive aF where
 |mk (op:Str) (num value:Int) (name:Str) (at_:Sl Lin) (dyn:Bool) (check:Int) (fn:Sl bF) (knl:Bool) (kids:List aF) (kcl:Bool)
namespace aF
def op:aF->Str|mk a _ _ _ _ _ _ _ _ _ _=>a
def num:aF->Int|mk _ a _ _ _ _ _ _ _ _ _=>a
def value:aF->Int|mk _ _ a _ _ _ _ _ _ _ _=>a
def name:aF->Str|mk _ _ _ a _ _ _ _ _ _ _=>a
def at_:aF->Sl Lin|mk _ _ _ _ a _ _ _ _ _ _=>a
def dyn:aF->Bool|mk _ _ _ _ _ a _ _ _ _ _=>a
def check:aF->Int|mk _ _ _ _ _ _ a _ _ _ _=>a
def fn:aF->Sl bF|mk _ _ _ _ _ _ _ a _ _ _=>a
def knl:aF->Bool|mk _ _ _ _ _ _ _ _ a _ _=>a
def kids:aF->List aF|mk _ _ _ _ _ _ _ _ _ a _=>a
def kcl:aF->Bool|mk _ _ _ _ _ _ _ _ _ _ a=>a
end aF
mutual
def aF.av:aF->AV
 |.mk op num value name at_ dyn check fn knl kids kcl=>
  .agg [.str op.bs,.int .i64 num,.int .i64 value,.str name.bs,at_.av Lin.av,.bool dyn,.int .i64 check,fn.av bF.av,.sl knl (aF.avs kids) kcl]
def aF.avs:List aF->List AV
 |[]=>[]
 |p::r=>p.av::aF.avs r
end
theorem aF.avs_eq:∀l:List aF,aF.avs l=l.map aF.av
 |[]=>by simp[aF.avs]
 |p::r=>by simp[aF.avs,aF.avs_eq r]
def aF.kav(p:aF):AV:=.sl p.knl (p.kids.map aF.av) p.kcl
def aF.cells(p:aF):List AV:=
 [.str p.op.bs,.int .i64 p.num,.int .i64 p.value,.str p.name.bs,p.at_.av Lin.av,.bool p.dyn,.int .i64 p.check,p.fn.av bF.av,p.kav]
theorem aF.av_eq(p:aF):p.av = .agg p.cells:=by cases p;simp[aF.av,aF.cells,aF.kav,aF.avs_eq,op,num,value,name,at_,dyn,check,fn,knl,kids,kcl]
mutual
def aF.ok:aF->Prop
 |.mk _ _ _ _ _ _ _ _ _ kids _=>kids.length<=big/\aF.oks kids
def aF.oks:List aF->Prop
 |[]=>True
 |p::r=>p.ok/\aF.oks r
end
structure aI where
 kind:Int
 value:Int
 space:Sl Lin
 body:aF
 fn:Sl bF
 source:Int
 index:aF
 check:Int
def aI.cells(x:aI):List AV:=
 [.int .i64 x.kind,.int .i64 x.value,x.space.av Lin.av]++x.body.cells++[x.fn.av bF.av,.int .i64 x.source]++x.index.cells++[.int .i64 x.check]
def aI.av(x:aI):AV:=.agg x.cells
structure aB where
 vars:Sl Str
 wher:Sl Lin
 inputs:Int
 values:Sl Typ
 list:Sl aI
 results:Sl Int
def aB.cells(k:aB):List AV:=
 [k.vars.av Str.av,k.wher.av Lin.av,.int .i64 k.inputs,k.values.av Typ.av,k.list.av aI.av,k.results.av aZ]
def aB.av(k:aB):AV:=.agg k.cells
theorem aQ{α : Type}{f : α -> AV}(h:∀x,(f x).tree=true):∀l:List α,treeL (l.map f)=true
 |[]=>rfl
 |x::r=>by simp[treeL,h x,aQ h r]
theorem tR(n:Int):(aZ n).tree=true:=rfl
theorem Str.tree(s:Str):(Str.av s).tree=true:=rfl
theorem BI(l:List Int):treeL (l.map aZ)=true:=aQ tR l
theorem Str.treeL(l:List Str):Tev.treeL (l.map Str.av)=true:=aQ Str.tree l
theorem KO(n:Int):aZ n = .int .i64 n:=rfl
theorem Str.av_eq(s:Str):Str.av s = .str s.bs:=rfl
attribute [go_sem] tR Str.tree BI Str.treeL KO Str.av_eq Tev.treeL Sl.av
theorem bP.avc(x:bP):bP.av x = .agg [.str x.v.bs,.int .i64 x.c]:=rfl
theorem bP.cells_av(x:bP):(bP.av x).cells=[.str x.v.bs,.int .i64 x.c]:=by rw[bP.avc];rfl
theorem bP.isAgg_av(x:bP):(bP.av x).isAgg=true:=by rw[bP.avc];rfl
theorem bP.fits_av(x:bP):(bP.av x).fits 2 true=true:=by rw[bP.avc];rfl
theorem bP.tree_av(x:bP):(bP.av x).tree=true:=by rw[bP.avc];simp[go_sem]
theorem bP.treeL_av(l:List bP):Tev.treeL (l.map bP.av)=true:=aQ bP.tree_av l
theorem bP.fld_av(off sz:Nat)(ag:Bool)(x:bP):eZ off sz ag [bP.av x]=eZ off sz ag [.agg [.str x.v.bs,.int .i64 x.c]]:=by rw[bP.avc]
theorem bP.fad_av(off sz:Nat)(ag:Bool)(x:bP):e6 off sz ag [.fp (bP.av x)]=e6 off sz ag [.fp (.agg [.str x.v.bs,.int .i64 x.c])]:=by rw[bP.avc]
theorem bP.box_av(h:Hp)(k:Nat)(x:bP):e7 h k [bP.av x]=e7 h k [.agg [.str x.v.bs,.int .i64 x.c]]:=by rw[bP.avc]
theorem bP.eqs_av(ng:Bool)(qs:List Nat)(x y:bP):rD ng qs [bP.av x,bP.av y]=rD ng qs [.agg [.str x.v.bs,.int .i64 x.c],.agg [.str y.v.bs,.int .i64 y.c]]:=by rw[bP.avc,bP.avc]
attribute [go_sem ↓ high] bP.eqs_av
attribute [go_sem high] bP.cells_av bP.isAgg_av bP.fits_av bP.tree_av bP.treeL_av
attribute [go_sem ↓ high] bP.fld_av bP.fad_av bP.box_av
theorem Lin.avc(x:Lin):Lin.av x = .agg [.int .i64 x.c,.sl x.ts.nl (x.ts.es.map bP.av) x.ts.cl]:=rfl
theorem Lin.cells_av(x:Lin):(Lin.av x).cells=[.int .i64 x.c,.sl x.ts.nl (x.ts.es.map bP.av) x.ts.cl]:=by rw[Lin.avc];rfl
theorem Lin.isAgg_av(x:Lin):(Lin.av x).isAgg=true:=by rw[Lin.avc];rfl
theorem Lin.fits_av(x:Lin):(Lin.av x).fits 2 true=true:=by rw[Lin.avc];rfl
theorem Lin.tree_av(x:Lin):(Lin.av x).tree=true:=by rw[Lin.avc];simp[go_sem]
theorem Lin.treeL_av(l:List Lin):Tev.treeL (l.map Lin.av)=true:=aQ Lin.tree_av l
theorem Lin.fld_av(off sz:Nat)(ag:Bool)(x:Lin):eZ off sz ag [Lin.av x]=eZ off sz ag [.agg [.int .i64 x.c,.sl x.ts.nl (x.ts.es.map bP.av) x.ts.cl]]:=by rw[Lin.avc]
theorem Lin.fad_av(off sz:Nat)(ag:Bool)(x:Lin):e6 off sz ag [.fp (Lin.av x)]=e6 off sz ag [.fp (.agg [.int .i64 x.c,.sl x.ts.nl (x.ts.es.map bP.av) x.ts.cl])]:=by rw[Lin.avc]
theorem Lin.box_av(h:Hp)(k:Nat)(x:Lin):e7 h k [Lin.av x]=e7 h k [.agg [.int .i64 x.c,.sl x.ts.nl (x.ts.es.map bP.av) x.ts.cl]]:=by rw[Lin.avc]
attribute [go_sem high] Lin.cells_av Lin.isAgg_av Lin.fits_av Lin.tree_av Lin.treeL_av
attribute [go_sem ↓ high] Lin.fld_av Lin.fad_av Lin.box_av
theorem bL.avc(x:bL):bL.av x = .agg [.str x.row.bs,.sl x.dims.nl (x.dims.es.map Lin.av) x.dims.cl]:=rfl
theorem bL.cells_av(x:bL):(bL.av x).cells=[.str x.row.bs,.sl x.dims.nl (x.dims.es.map Lin.av) x.dims.cl]:=by rw[bL.avc];rfl
theorem bL.isAgg_av(x:bL):(bL.av x).isAgg=true:=by rw[bL.avc];rfl
theorem bL.fits_av(x:bL):(bL.av x).fits 2 true=true:=by rw[bL.avc];rfl
theorem bL.tree_av(x:bL):(bL.av x).tree=true:=by rw[bL.avc];simp[go_sem]
theorem bL.treeL_av(l:List bL):Tev.treeL (l.map bL.av)=true:=aQ bL.tree_av l
theorem bL.fld_av(off sz:Nat)(ag:Bool)(x:bL):eZ off sz ag [bL.av x]=eZ off sz ag [.agg [.str x.row.bs,.sl x.dims.nl (x.dims.es.map Lin.av) x.dims.cl]]:=by rw[bL.avc]
theorem bL.fad_av(off sz:Nat)(ag:Bool)(x:bL):e6 off sz ag [.fp (bL.av x)]=e6 off sz ag [.fp (.agg [.str x.row.bs,.sl x.dims.nl (x.dims.es.map Lin.av) x.dims.cl])]:=by rw[bL.avc]
theorem bL.box_av(h:Hp)(k:Nat)(x:bL):e7 h k [bL.av x]=e7 h k [.agg [.str x.row.bs,.sl x.dims.nl (x.dims.es.map Lin.av) x.dims.cl]]:=by rw[bL.avc]
attribute [go_sem high] bL.cells_av bL.isAgg_av bL.fits_av bL.tree_av bL.treeL_av
attribute [go_sem ↓ high] bL.fld_av bL.fad_av bL.box_av
theorem Typ.avc(x:Typ):Typ.av x = .agg [.str x.elem.bs,.str x.shape.row.bs,.sl x.shape.dims.nl (x.shape.dims.es.map Lin.av) x.shape.dims.cl]:=rfl
theorem Typ.cells_av(x:Typ):(Typ.av x).cells=[.str x.elem.bs,.str x.shape.row.bs,.sl x.shape.dims.nl (x.shape.dims.es.map Lin.av) x.shape.dims.cl]:=by rw[Typ.avc];rfl
theorem Typ.isAgg_av(x:Typ):(Typ.av x).isAgg=true:=by rw[Typ.avc];rfl
theorem Typ.fits_av(x:Typ):(Typ.av x).fits 3 true=true:=by rw[Typ.avc];rfl
theorem Typ.tree_av(x:Typ):(Typ.av x).tree=true:=by rw[Typ.avc];simp[go_sem]
theorem Typ.treeL_av(l:List Typ):Tev.treeL (l.map Typ.av)=true:=aQ Typ.tree_av l
theorem Typ.fld_av(off sz:Nat)(ag:Bool)(x:Typ):eZ off sz ag [Typ.av x]=eZ off sz ag [.agg [.str x.elem.bs,.str x.shape.row.bs,.sl x.shape.dims.nl (x.shape.dims.es.map Lin.av) x.shape.dims.cl]]:=by rw[Typ.avc]
theorem Typ.fad_av(off sz:Nat)(ag:Bool)(x:Typ):e6 off sz ag [.fp (Typ.av x)]=e6 off sz ag [.fp (.agg [.str x.elem.bs,.str x.shape.row.bs,.sl x.shape.dims.nl (x.shape.dims.es.map Lin.av) x.shape.dims.cl])]:=by rw[Typ.avc]
theorem Typ.box_av(h:Hp)(k:Nat)(x:Typ):e7 h k [Typ.av x]=e7 h k [.agg [.str x.elem.bs,.str x.shape.row.bs,.sl x.shape.dims.nl (x.shape.dims.es.map Lin.av) x.shape.dims.cl]]:=by rw[Typ.avc]
attribute [go_sem high] Typ.cells_av Typ.isAgg_av Typ.fits_av Typ.tree_av Typ.treeL_av
attribute [go_sem ↓ high] Typ.fld_av Typ.fad_av Typ.box_av
theorem bF.avc(x:bF):bF.av x = .agg [.str x.op.bs,.int .i64 x.num,.sl x.args.nl (x.args.es.map aZ) x.args.cl]:=rfl
theorem bF.cells_av(x:bF):(bF.av x).cells=[.str x.op.bs,.int .i64 x.num,.sl x.args.nl (x.args.es.map aZ) x.args.cl]:=by rw[bF.avc];rfl
theorem bF.isAgg_av(x:bF):(bF.av x).isAgg=true:=by rw[bF.avc];rfl
theorem bF.fits_av(x:bF):(bF.av x).fits 3 true=true:=by rw[bF.avc];rfl
theorem bF.tree_av(x:bF):(bF.av x).tree=true:=by rw[bF.avc];simp[go_sem]
theorem bF.treeL_av(l:List bF):Tev.treeL (l.map bF.av)=true:=aQ bF.tree_av l
theorem bF.fld_av(off sz:Nat)(ag:Bool)(x:bF):eZ off sz ag [bF.av x]=eZ off sz ag [.agg [.str x.op.bs,.int .i64 x.num,.sl x.args.nl (x.args.es.map aZ) x.args.cl]]:=by rw[bF.avc]
theorem bF.fad_av(off sz:Nat)(ag:Bool)(x:bF):e6 off sz ag [.fp (bF.av x)]=e6 off sz ag [.fp (.agg [.str x.op.bs,.int .i64 x.num,.sl x.args.nl (x.args.es.map aZ) x.args.cl])]:=by rw[bF.avc]
theorem bF.box_av(h:Hp)(k:Nat)(x:bF):e7 h k [bF.av x]=e7 h k [.agg [.str x.op.bs,.int .i64 x.num,.sl x.args.nl (x.args.es.map aZ) x.args.cl]]:=by rw[bF.avc]
attribute [go_sem high] bF.cells_av bF.isAgg_av bF.fits_av bF.tree_av bF.treeL_av
attribute [go_sem ↓ high] bF.fld_av bF.fad_av bF.box_av
theorem Val.avc(x:Val):Val.av x = .agg [.str x.v.bs,.int .i64 x.n]:=rfl
theorem Val.cells_av(x:Val):(Val.av x).cells=[.str x.v.bs,.int .i64 x.n]:=by rw[Val.avc];rfl
theorem Val.isAgg_av(x:Val):(Val.av x).isAgg=true:=by rw[Val.avc];rfl
theorem Val.fits_av(x:Val):(Val.av x).fits 2 true=true:=by rw[Val.avc];rfl
theorem Val.tree_av(x:Val):(Val.av x).tree=true:=by rw[Val.avc];simp[go_sem]
theorem Val.treeL_av(l:List Val):Tev.treeL (l.map Val.av)=true:=aQ Val.tree_av l
theorem Val.fld_av(off sz:Nat)(ag:Bool)(x:Val):eZ off sz ag [Val.av x]=eZ off sz ag [.agg [.str x.v.bs,.int .i64 x.n]]:=by rw[Val.avc]
theorem Val.fad_av(off sz:Nat)(ag:Bool)(x:Val):e6 off sz ag [.fp (Val.av x)]=e6 off sz ag [.fp (.agg [.str x.v.bs,.int .i64 x.n])]:=by rw[Val.avc]
theorem Val.box_av(h:Hp)(k:Nat)(x:Val):e7 h k [Val.av x]=e7 h k [.agg [.str x.v.bs,.int .i64 x.n]]:=by rw[Val.avc]
theorem Val.eqs_av(ng:Bool)(qs:List Nat)(x y:Val):rD ng qs [Val.av x,Val.av y]=rD ng qs [.agg [.str x.v.bs,.int .i64 x.n],.agg [.str y.v.bs,.int .i64 y.n]]:=by rw[Val.avc,Val.avc]
attribute [go_sem ↓ high] Val.eqs_av
attribute [go_sem high] Val.cells_av Val.isAgg_av Val.fits_av Val.tree_av Val.treeL_av
attribute [go_sem ↓ high] Val.fld_av Val.fad_av Val.box_av
theorem aF.avc(x:aF):aF.av x = .agg [.str x.op.bs,.int .i64 x.num,.int .i64 x.value,.str x.name.bs,.sl x.at_.nl (x.at_.es.map Lin.av) x.at_.cl,.bool x.dyn,.int .i64 x.check,.sl x.fn.nl (x.fn.es.map bF.av) x.fn.cl,.sl x.knl (x.kids.map aF.av) x.kcl]:=aF.av_eq x
theorem aF.cells_av(x:aF):(aF.av x).cells=[.str x.op.bs,.int .i64 x.num,.int .i64 x.value,.str x.name.bs,.sl x.at_.nl (x.at_.es.map Lin.av) x.at_.cl,.bool x.dyn,.int .i64 x.check,.sl x.fn.nl (x.fn.es.map bF.av) x.fn.cl,.sl x.knl (x.kids.map aF.av) x.kcl]:=by rw[aF.avc];rfl
theorem aF.isAgg_av(x:aF):(aF.av x).isAgg=true:=by rw[aF.avc];rfl
theorem aF.fits_av(x:aF):(aF.av x).fits 9 true=true:=by rw[aF.avc];rfl
mutual
theorem aF.tree_av:∀x:aF,(aF.av x).tree=true
 |.mk op num value name at_ dyn check fn knl kids kcl=>by have:=aF.tree_avs kids;simp[aF.av,go_sem,aQ Lin.tree_av,aQ bF.tree_av,this]
theorem aF.tree_avs:∀l:List aF,Tev.treeL (aF.avs l)=true
 |[]=>by simp[aF.avs,Tev.treeL]
 |p::r=>by simp[aF.avs,Tev.treeL,aF.tree_av p,aF.tree_avs r]
end
theorem aF.treeL_av(l:List aF):Tev.treeL (l.map aF.av)=true:=aQ aF.tree_av l
theorem aF.fld_av(off sz:Nat)(ag:Bool)(x:aF):eZ off sz ag [aF.av x]=eZ off sz ag [.agg [.str x.op.bs,.int .i64 x.num,.int .i64 x.value,.str x.name.bs,.sl x.at_.nl (x.at_.es.map Lin.av) x.at_.cl,.bool x.dyn,.int .i64 x.check,.sl x.fn.nl (x.fn.es.map bF.av) x.fn.cl,.sl x.knl (x.kids.map aF.av) x.kcl]]:=by rw[aF.avc]
theorem aF.fad_av(off sz:Nat)(ag:Bool)(x:aF):e6 off sz ag [.fp (aF.av x)]=e6 off sz ag [.fp (.agg [.str x.op.bs,.int .i64 x.num,.int .i64 x.value,.str x.name.bs,.sl x.at_.nl (x.at_.es.map Lin.av) x.at_.cl,.bool x.dyn,.int .i64 x.check,.sl x.fn.nl (x.fn.es.map bF.av) x.fn.cl,.sl x.knl (x.kids.map aF.av) x.kcl])]:=by rw[aF.avc]
theorem aF.box_av(h:Hp)(k:Nat)(x:aF):e7 h k [aF.av x]=e7 h k [.agg [.str x.op.bs,.int .i64 x.num,.int .i64 x.value,.str x.name.bs,.sl x.at_.nl (x.at_.es.map Lin.av) x.at_.cl,.bool x.dyn,.int .i64 x.check,.sl x.fn.nl (x.fn.es.map bF.av) x.fn.cl,.sl x.knl (x.kids.map aF.av) x.kcl]]:=by rw[aF.avc]
attribute [go_sem high] aF.cells_av aF.isAgg_av aF.fits_av aF.tree_av aF.treeL_av
attribute [go_sem ↓ high] aF.fld_av aF.fad_av aF.box_av
theorem aI.avc(x:aI):aI.av x = .agg [.int .i64 x.kind,.int .i64 x.value,.sl x.space.nl (x.space.es.map Lin.av) x.space.cl,.str x.body.op.bs,.int .i64 x.body.num,.int .i64 x.body.value,.str x.body.name.bs,.sl x.body.at_.nl (x.body.at_.es.map Lin.av) x.body.at_.cl,.bool x.body.dyn,.int .i64 x.body.check,.sl x.body.fn.nl (x.body.fn.es.map bF.av) x.body.fn.cl,.sl x.body.knl (x.body.kids.map aF.av) x.body.kcl,.sl x.fn.nl (x.fn.es.map bF.av) x.fn.cl,.int .i64 x.source,.str x.index.op.bs,.int .i64 x.index.num,.int .i64 x.index.value,.str x.index.name.bs,.sl x.index.at_.nl (x.index.at_.es.map Lin.av) x.index.at_.cl,.bool x.index.dyn,.int .i64 x.index.check,.sl x.index.fn.nl (x.index.fn.es.map bF.av) x.index.fn.cl,.sl x.index.knl (x.index.kids.map aF.av) x.index.kcl,.int .i64 x.check]:=rfl
theorem aI.cells_av(x:aI):(aI.av x).cells=[.int .i64 x.kind,.int .i64 x.value,.sl x.space.nl (x.space.es.map Lin.av) x.space.cl,.str x.body.op.bs,.int .i64 x.body.num,.int .i64 x.body.value,.str x.body.name.bs,.sl x.body.at_.nl (x.body.at_.es.map Lin.av) x.body.at_.cl,.bool x.body.dyn,.int .i64 x.body.check,.sl x.body.fn.nl (x.body.fn.es.map bF.av) x.body.fn.cl,.sl x.body.knl (x.body.kids.map aF.av) x.body.kcl,.sl x.fn.nl (x.fn.es.map bF.av) x.fn.cl,.int .i64 x.source,.str x.index.op.bs,.int .i64 x.index.num,.int .i64 x.index.value,.str x.index.name.bs,.sl x.index.at_.nl (x.index.at_.es.map Lin.av) x.index.at_.cl,.bool x.index.dyn,.int .i64 x.index.check,.sl x.index.fn.nl (x.index.fn.es.map bF.av) x.index.fn.cl,.sl x.index.knl (x.index.kids.map aF.av) x.index.kcl,.int .i64 x.check]:=by rw[aI.avc];rfl
theorem aI.isAgg_av(x:aI):(aI.av x).isAgg=true:=by rw[aI.avc];rfl
theorem aI.fits_av(x:aI):(aI.av x).fits 24 true=true:=by rw[aI.avc];rfl
theorem aI.tree_av(x:aI):(aI.av x).tree=true:=by rw[aI.avc];simp[go_sem]
theorem aI.treeL_av(l:List aI):Tev.treeL (l.map aI.av)=true:=aQ aI.tree_av l
theorem aI.fld_av(off sz:Nat)(ag:Bool)(x:aI):eZ off sz ag [aI.av x]=eZ off sz ag [.agg [.int .i64 x.kind,.int .i64 x.value,.sl x.space.nl (x.space.es.map Lin.av) x.space.cl,.str x.body.op.bs,.int .i64 x.body.num,.int .i64 x.body.value,.str x.body.name.bs,.sl x.body.at_.nl (x.body.at_.es.map Lin.av) x.body.at_.cl,.bool x.body.dyn,.int .i64 x.body.check,.sl x.body.fn.nl (x.body.fn.es.map bF.av) x.body.fn.cl,.sl x.body.knl (x.body.kids.map aF.av) x.body.kcl,.sl x.fn.nl (x.fn.es.map bF.av) x.fn.cl,.int .i64 x.source,.str x.index.op.bs,.int .i64 x.index.num,.int .i64 x.index.value,.str x.index.name.bs,.sl x.index.at_.nl (x.index.at_.es.map Lin.av) x.index.at_.cl,.bool x.index.dyn,.int .i64 x.index.check,.sl x.index.fn.nl (x.index.fn.es.map bF.av) x.index.fn.cl,.sl x.index.knl (x.index.kids.map aF.av) x.index.kcl,.int .i64 x.check]]:=by rw[aI.avc]
theorem aI.fad_av(off sz:Nat)(ag:Bool)(x:aI):e6 off sz ag [.fp (aI.av x)]=e6 off sz ag [.fp (.agg [.int .i64 x.kind,.int .i64 x.value,.sl x.space.nl (x.space.es.map Lin.av) x.space.cl,.str x.body.op.bs,.int .i64 x.body.num,.int .i64 x.body.value,.str x.body.name.bs,.sl x.body.at_.nl (x.body.at_.es.map Lin.av) x.body.at_.cl,.bool x.body.dyn,.int .i64 x.body.check,.sl x.body.fn.nl (x.body.fn.es.map bF.av) x.body.fn.cl,.sl x.body.knl (x.body.kids.map aF.av) x.body.kcl,.sl x.fn.nl (x.fn.es.map bF.av) x.fn.cl,.int .i64 x.source,.str x.index.op.bs,.int .i64 x.index.num,.int .i64 x.index.value,.str x.index.name.bs,.sl x.index.at_.nl (x.index.at_.es.map Lin.av) x.index.at_.cl,.bool x.index.dyn,.int .i64 x.index.check,.sl x.index.fn.nl (x.index.fn.es.map bF.av) x.index.fn.cl,.sl x.index.knl (x.index.kids.map aF.av) x.index.kcl,.int .i64 x.check])]:=by rw[aI.avc]
theorem aI.box_av(h:Hp)(k:Nat)(x:aI):e7 h k [aI.av x]=e7 h k [.agg [.int .i64 x.kind,.int .i64 x.value,.sl x.space.nl (x.space.es.map Lin.av) x.space.cl,.str x.body.op.bs,.int .i64 x.body.num,.int .i64 x.body.value,.str x.body.name.bs,.sl x.body.at_.nl (x.body.at_.es.map Lin.av) x.body.at_.cl,.bool x.body.dyn,.int .i64 x.body.check,.sl x.body.fn.nl (x.body.fn.es.map bF.av) x.body.fn.cl,.sl x.body.knl (x.body.kids.map aF.av) x.body.kcl,.sl x.fn.nl (x.fn.es.map bF.av) x.fn.cl,.int .i64 x.source,.str x.index.op.bs,.int .i64 x.index.num,.int .i64 x.index.value,.str x.index.name.bs,.sl x.index.at_.nl (x.index.at_.es.map Lin.av) x.index.at_.cl,.bool x.index.dyn,.int .i64 x.index.check,.sl x.index.fn.nl (x.index.fn.es.map bF.av) x.index.fn.cl,.sl x.index.knl (x.index.kids.map aF.av) x.index.kcl,.int .i64 x.check]]:=by rw[aI.avc]
attribute [go_sem high] aI.cells_av aI.isAgg_av aI.fits_av aI.tree_av aI.treeL_av
attribute [go_sem ↓ high] aI.fld_av aI.fad_av aI.box_av
theorem aB.avc(x:aB):aB.av x = .agg [.sl x.vars.nl (x.vars.es.map Str.av) x.vars.cl,.sl x.wher.nl (x.wher.es.map Lin.av) x.wher.cl,.int .i64 x.inputs,.sl x.values.nl (x.values.es.map Typ.av) x.values.cl,.sl x.list.nl (x.list.es.map aI.av) x.list.cl,.sl x.results.nl (x.results.es.map aZ) x.results.cl]:=rfl
theorem aB.cells_av(x:aB):(aB.av x).cells=[.sl x.vars.nl (x.vars.es.map Str.av) x.vars.cl,.sl x.wher.nl (x.wher.es.map Lin.av) x.wher.cl,.int .i64 x.inputs,.sl x.values.nl (x.values.es.map Typ.av) x.values.cl,.sl x.list.nl (x.list.es.map aI.av) x.list.cl,.sl x.results.nl (x.results.es.map aZ) x.results.cl]:=by rw[aB.avc];rfl
theorem aB.isAgg_av(x:aB):(aB.av x).isAgg=true:=by rw[aB.avc];rfl
theorem aB.fits_av(x:aB):(aB.av x).fits 6 true=true:=by rw[aB.avc];rfl
theorem aB.tree_av(x:aB):(aB.av x).tree=true:=by rw[aB.avc];simp[go_sem]
theorem aB.treeL_av(l:List aB):Tev.treeL (l.map aB.av)=true:=aQ aB.tree_av l
theorem aB.fld_av(off sz:Nat)(ag:Bool)(x:aB):eZ off sz ag [aB.av x]=eZ off sz ag [.agg [.sl x.vars.nl (x.vars.es.map Str.av) x.vars.cl,.sl x.wher.nl (x.wher.es.map Lin.av) x.wher.cl,.int .i64 x.inputs,.sl x.values.nl (x.values.es.map Typ.av) x.values.cl,.sl x.list.nl (x.list.es.map aI.av) x.list.cl,.sl x.results.nl (x.results.es.map aZ) x.results.cl]]:=by rw[aB.avc]
theorem aB.fad_av(off sz:Nat)(ag:Bool)(x:aB):e6 off sz ag [.fp (aB.av x)]=e6 off sz ag [.fp (.agg [.sl x.vars.nl (x.vars.es.map Str.av) x.vars.cl,.sl x.wher.nl (x.wher.es.map Lin.av) x.wher.cl,.int .i64 x.inputs,.sl x.values.nl (x.values.es.map Typ.av) x.values.cl,.sl x.list.nl (x.list.es.map aI.av) x.list.cl,.sl x.results.nl (x.results.es.map aZ) x.results.cl])]:=by rw[aB.avc]
theorem aB.box_av(h:Hp)(k:Nat)(x:aB):e7 h k [aB.av x]=e7 h k [.agg [.sl x.vars.nl (x.vars.es.map Str.av) x.vars.cl,.sl x.wher.nl (x.wher.es.map Lin.av) x.wher.cl,.int .i64 x.inputs,.sl x.values.nl (x.values.es.map Typ.av) x.values.cl,.sl x.list.nl (x.list.es.map aI.av) x.list.cl,.sl x.results.nl (x.results.es.map aZ) x.results.cl]]:=by rw[aB.avc]
attribute [go_sem high] aB.cells_av aB.isAgg_av aB.fits_av aB.tree_av aB.treeL_av
attribute [go_sem ↓ high] aB.fld_av aB.fad_av aB.box_av
theorem UY{α : Type}(d:List α)(x : α)(r:List α):(d++x::r)[d.length]?=some x:=by simp
theorem Y4{α : Type}(d:List α)(x : α)(r:List α):decide ((d.length:Int)<((d++x::r).length:Int))=true:=by simp only[List.length_append,List.length_cons,decide_eq_true_eq];omega
theorem Y5{α : Type}(d:List α):decide ((d.length:Int)<((d++[]).length:Int))=false:=by simp
theorem dZ{n:Int}(h1 : -1000000000000000000<=n)(h2:n<=1000000000000000000):wr .i64 n=n:=by simp only[wr];rw[if_pos (by omega)]
theorem bI{α : Type}{d:List α}{x : α}{r:List α}(h:(d++x::r).length<=big):wr .i64 ((d.length:Int)+1)=((d++[x]).length:Int):=by simp only[List.length_append,List.length_cons,List.length_nil,big]at *;rw[dZ (by omega) (by omega)];omega
theorem bD{pg:Pg}{kb:Nat}{α : Type}(es:List α)(E:List α -> List α -> List AV->Hp->Prop){b:C}{clr:List Bool}{st:St}{Q:Ex->St->Prop}{t:Tok Q}(h0:E [] es (clear clr st.env) st.hp)
  (hend:∀env hp,E es [] env hp->XX pg kb b ⟨env,hp⟩ (jX (λ_=>False) Q) ⟨⟩)
  (hstep:∀d x r env hp,es=d++x::r->E d (x::r) env hp->XX pg kb b ⟨env,hp⟩ (jX (λst'=>E (d++[x]) r (clear clr st'.env) st'.hp) Q) ⟨⟩) :
  XX pg kb (.loop b clr) st Q t:=by
 refine oE (α:={p:List α×List α // es=p.1++p.2}) (λp=>p.1.2.length) (λp=>E p.1.1 p.1.2) ⟨([],es),rfl⟩ h0 ?_;rintro⟨⟨d,r⟩,hes⟩ env hp hE;dsimp only at hes hE ⊢;cases r with
 |nil=>
  rw[List.append_nil]at hes;subst hes;obtain⟨n,ex,st',h1,h2⟩:=hend env hp hE;refine⟨n,ex,st',h1,?_⟩;cases ex with
  |nor=>exact h2.elim
  |ext i=>exact h2
  |ret=>exact h2
 |cons x r=>
  obtain⟨n,ex,st',h1,h2⟩:=hstep d x r env hp hes hE;refine⟨n,ex,st',h1,?_⟩;cases ex with
  |nor=>exact⟨⟨(d++[x],r),by simp[hes]⟩,by simp,h2⟩
  |ext i=>exact h2
  |ret=>exact h2
theorem n8{h:Hp}{v:AV}(hv:v.tree=true):conv h v=some v:=by
 have:snap depth h v=some (v,[]):=by unfold depth snap;rw[if_pos hv]
 cases v<;>first|(simp only[conv,this];rfl)|simp[AV.tree]at hv
theorem J1{α : Type}(x y : α):(some x=some y)=(x=y):=by simp
theorem NW(x y:Bool):(AV.bool x=AV.bool y)=(x=y):=by simp
theorem UX(k:IntKind)(x y:Int):(AV.int k x=AV.int k y)=(x=y):=by simp
theorem SZ(x y:List UInt8):(AV.str x=AV.str y)=(x=y):=by simp
theorem UR{α : Type}(l:List α):(0<=(l.length:Int))=True:=by simp
def fT(pg:Pg)(f:Nat)(ts:List AV)(P:AV->Prop):Prop:=∃r,Ret pg f ts r/\P r
def U9(res:List (Sum Nat (Nat×Nat×Bool)))(P:AV->Prop)(ex:Ex)(st:St):Prop:=
 match ex with
 |.ext _=>False
 |_=>∃v,result st res=some v/\∃r,conv st.hp v=some r/\P r
theorem H9(res:List (Sum Nat (Nat×Nat×Bool)))(P:AV->Prop)(st:St):U9 res P .nor st=∃v,result st res=some v/\∃r,conv st.hp v=some r/\P r:=rfl
theorem H8(res:List (Sum Nat (Nat×Nat×Bool)))(P:AV->Prop)(st:St):U9 res P .ret st=∃v,result st res=some v/\∃r,conv st.hp v=some r/\P r:=rfl
theorem fT.ofX{pg:Pg}{f:Nat}{cf:CF}{vs:List AV}{P:AV->Prop}(hf:pg.fs f=some cf)(hw:XX pg 0 cf.body ⟨enter cf vs,[]⟩ (U9 cf.res P) ⟨⟩):fT pg f vs P:=by
 obtain⟨n,ex,st,h1,h2⟩:=hw;cases ex with
 |ext i=>exact h2.elim
 |nor=>obtain⟨v,h3,r,h4,h5⟩:=h2;exact⟨r,Ret.of hf ⟨n,.nor,st,h1,v,h3,h4⟩,h5⟩
 |ret=>obtain⟨v,h3,r,h4,h5⟩:=h2;exact⟨r,Ret.of hf ⟨n,.ret,st,h1,v,h3,h4⟩,h5⟩
def IsB(v:AV):Prop:=∃b:Bool,v = .bool b
theorem GZ(b:Bool):IsB (.bool b)=True:=by simp only[IsB,eq_iff_iff,iff_true];exact⟨b,rfl⟩
theorem fT.mono{pg:Pg}{f:Nat}{ts:List AV}{P P':AV->Prop}(h:fT pg f ts P)(hP:∀r,P r->P' r):fT pg f ts P':=by obtain⟨r,h1,h2⟩:=h;exact⟨r,h1,hP r h2⟩
theorem Ret.P{pg:Pg}{f:Nat}{ts:List AV}{r:AV}{P:AV->Prop}(h:Ret pg f ts r)(hP:P r):fT pg f ts P:=⟨r,h,hP⟩
theorem rY{pg:Pg}{kb:Nat}{α : Type}(es:List α)(U:List α -> List AV->List AV)(I:List α -> List α -> Hp->Prop){b:C}{clr:List Bool}{st:St}{Q:Ex->St->Prop}{t:Tok Q}
  (h0:clear clr st.env=U [] (clear clr st.env)) (i0:I [] es st.hp)
  (hend:∀hp,I es [] hp->XX pg kb b ⟨U es (clear clr st.env),hp⟩ (jX (λ_=>False) Q) ⟨⟩)
  (hstep:∀d x r hp,es=d++x::r->I d (x::r) hp->XX pg kb b ⟨U d (clear clr st.env),hp⟩ (jX (λst'=>clear clr st'.env=U (d++[x]) (clear clr st.env)/\I (d++[x]) r st'.hp) Q) ⟨⟩) :
  XX pg kb (.loop b clr) st Q t:=by
 refine bD es (λd r env hp=>env=U d (clear clr st.env)/\I d r hp) ⟨h0,i0⟩ ?_ ?_;rintro env hp ⟨rfl,h⟩;exact hend hp h;rintro d x r env hp hes ⟨rfl,h⟩;exact hstep d x r hp hes h
attribute [go_sem ↓] H9 H8
attribute [go_sem] GZ
theorem kH(f:AV->Option (AV×List Nat)):b7 f []=some ([],[]):=rfl
theorem jG(f:AV->Option (AV×List Nat))(x:AV)(r:List AV):b7 f (x::r)=match f x with
  |none=>none
  |some (y,s)=>match b7 f r with
   |none=>none
   |some (l,s')=>some (y::l,s++s'):=rfl
theorem sU(d:Nat)(h:Hp)(v:AV):snap (d+1) h v=(if v.tree then some (v,[]) else
  match v with
  |.agg cs=>(b7 (snap d h) cs).map fun(l,s)=>(.agg l,s)
  |.tup cs=>(b7 (snap d h) cs).map fun(l,s)=>(.tup l,s)
  |.sl nl es cl=>(b7 (snap d h) es).map fun(l,s)=>(.sl nl l cl,s)
  |.ifc v=>(snap d h v).map fun(x,s)=>(.ifc x,s)
  |.ift t v=>(snap d h v).map fun(x,s)=>(.ift t x,s)
  |.fnm t v=>(snap d h v).map fun(x,s)=>(.fnm t x,s)
  |.fn f cs=>(b7 (snap d h) cs).map fun(l,s)=>(.fn f l,s)
  |.rf k e off len cap=>
   match h.get k with
   |some (e',.blk cs esz ag ti _)=>
    if e'=e then
     match iR esz ag len (cs.drop off) with
     |some es=>(b7 (snap d h) es).map fun(l,s)=>(.sl false l (ti&&len==cap),k::s)
     |none=>none
    else none
   |_=>none
  |.pt k e off=>
   match h.get k with
   |some (e',.blk cs esz ag _ _)=>
    if e'=e/\off=0/\esz=cs.length then
     match b7 (snap d h) cs with
     |some (l,s)=>if ag then some (.fp (.agg l),k::s) else match l with|[v]=>if v.isAgg then none else some (.fp v,k::s)|_=>none
     |none=>none
    else none
   |_=>none
  |_=>none):=by
 rfl
theorem aBa(c:UInt8)(t:List UInt8):rC true false [.str (c::t),.int .i64 1]=val (.str t):=by
 have h1:(1:Int)<=((t.length:Int)+1):=by omega
 simp[rC,fZ,h1]
attribute [go_sem ↓] aBa
theorem aEW:(((1:Nat):Int))=1:=rfl
theorem aEV:(((2:Nat):Int))=2:=rfl
theorem aEU:(((3:Nat):Int))=3:=rfl
theorem aET:(((4:Nat):Int))=4:=rfl
theorem aES:(((5:Nat):Int))=5:=rfl
theorem aER:(((6:Nat):Int))=6:=rfl
theorem aEQ:(((7:Nat):Int))=7:=rfl
theorem aEP:(((8:Nat):Int))=8:=rfl
theorem aEO:(((9:Nat):Int))=9:=rfl
theorem ZZ:(((10:Nat):Int))=10:=rfl
theorem ZY:(((11:Nat):Int))=11:=rfl
theorem ZX:(((12:Nat):Int))=12:=rfl
attribute [go_sem] aEW aEV aEU aET aES aER aEQ aEP aEO ZZ ZY ZX
attribute [go_sem] Z Y N i0 i1 bN bY sN
attribute [go_sem] UY Y4 Y5 n8 J1 NW UX SZ clear UR rH
end
section
def G7:List Bool:=[true,true,false,false,false,false,false,true,true,false,false,false,false,false,false,false,false,false,false]
def G8(esz:Nat)(ag:Bool):C:=
 (.seq (.reg [⟨(some 9),(.bin .lss),[.t 8,.t 7],none,0,0⟩] false)
 (.seq (.cond (.t 9) .skip
  (.exit 0))
 (.seq (.block 1 (.seq (.reg [⟨(some 10),.mov,[.t 8],none,0,0⟩,
  ⟨(some 5),.mov,[.t 10],none,0,0⟩] false)
 (.seq (.reg [⟨(some 11),.mov,[.t 1],none,0,0⟩,
  ⟨(some 12),.mov,[.t 0],none,0,0⟩,
  ⟨(some 13),.mov,[.t 5],none,0,0⟩,
  ⟨(some 14),(.iad esz ag none),[.t 12,.t 13],none,0,0⟩,
  ⟨(some 15),(.load esz ag),[.t 14],none,0,0⟩,
  ⟨(some 16),(.callv false false),[.t 11,.t 15],none,0,1⟩] false)
 (.cond (.t 16) (.seq (.reg [⟨(some 17),.mov,[.t 5],none,0,0⟩,
   ⟨(some 4),.mov,[.t 17],none,0,0⟩] false)
  .ret)
  .skip))))
 (.reg [⟨(some 18),(.bin .add),[.t 8,.c (.int .i64 1)],none,0,0⟩,
  ⟨(some 8),.mov,[.t 18],none,0,0⟩] false))))
def ZE(esz:Nat)(ag:Bool):CF:=⟨2,19,[.inl 4],
 (.seq (.reg [⟨(some 4),.mov,[.c (.int .i64 0)],none,0,0⟩] false)
 (.seq (.seq (.reg [⟨(some 6),.mov,[.t 0],none,0,0⟩,
  ⟨(some 7),(.len 1),[.t 6],none,0,0⟩,
  ⟨(some 8),.mov,[.c (.int .i64 0)],none,0,0⟩] false)
 (.block 0 (.loop (G8 esz ag) G7)))
 (.seq (.reg [⟨(some 4),.mov,[.c (.int .i64 (-1))],none,0,0⟩] false)
 .ret)))⟩
def Z0(n:Nat):CF:=⟨2,9,[.inl 4],
 (.seq (.reg [⟨(some 4),.mov,[.c (.bool false)],none,0,0⟩] false)
 (.seq (.reg [⟨(some 5),.mov,[.t 0],none,0,0⟩,
  ⟨(some 6),.mov,[.t 1],none,0,0⟩,
  ⟨(some 7),(.call n false false),[.t 5,.t 6],none,0,1⟩,
  ⟨(some 8),(.bin .geq),[.t 7,.c (.int .i64 0)],none,0,0⟩,
  ⟨(some 4),.mov,[.t 8],none,0,0⟩] false)
 .ret))⟩
def U6:List Bool:=[true,true,false,false,false,false,false,false,false,false,false,false,true,true,false,false,false,false,false,false,false,false,false,false,false,false]
def U7(esz:Nat)(ag:Bool)(k:K):C:=
 (.seq (.reg [⟨(some 14),(.bin .lss),[.t 13,.t 12],none,0,0⟩] false)
 (.seq (.cond (.t 14) .skip
  (.exit 0))
 (.seq (.block 1 (.seq (.reg [⟨(some 15),.mov,[.t 13],none,0,0⟩,
  ⟨(some 5),.mov,[.t 15],none,0,0⟩] false)
 (.seq (.reg [⟨(some 16),.mov,[.t 0],none,0,0⟩,
  ⟨(some 17),.mov,[.t 5],none,0,0⟩,
  ⟨(some 18),(.iad esz ag none),[.t 16,.t 17],none,3,0⟩,
  ⟨(some 19),(.load esz ag),[.t 18],none,7,0⟩,
  ⟨(some 20),.mov,[.t 1],none,0,0⟩,
  ⟨(some 21),.mov,[.t 5],none,0,0⟩,
  ⟨(some 22),(.iad esz ag none),[.t 20,.t 21],none,48,0⟩,
  ⟨(some 23),(.load esz ag),[.t 22],none,112,0⟩,
  ⟨(some 24),k,[.t 19,.t 23],none,255,0⟩] true)
 (.cond (.t 24) (.seq (.reg [⟨(some 4),.mov,[.c (.bool false)],none,0,0⟩] false)
  .ret)
  .skip))))
 (.reg [⟨(some 25),(.bin .add),[.t 13,.c (.int .i64 1)],none,0,0⟩,
  ⟨(some 13),.mov,[.t 25],none,0,0⟩] false))))
def eqV(esz:Nat)(ag:Bool)(k:K):CF:=⟨2,26,[.inl 4],
 (.seq (.reg [⟨(some 4),.mov,[.c (.bool false)],none,0,0⟩] false)
 (.seq (.seq (.reg [⟨(some 6),.mov,[.t 0],none,0,0⟩,
  ⟨(some 7),(.len 1),[.t 6],none,0,0⟩,
  ⟨(some 8),.mov,[.t 1],none,0,0⟩,
  ⟨(some 9),(.len 1),[.t 8],none,0,0⟩,
  ⟨(some 10),(.bin .neq),[.t 7,.t 9],none,0,0⟩] false)
 (.cond (.t 10) (.seq (.reg [⟨(some 4),.mov,[.c (.bool false)],none,0,0⟩] false)
  .ret)
  .skip))
 (.seq (.seq (.reg [⟨(some 11),.mov,[.t 0],none,0,0⟩,
  ⟨(some 12),(.len 1),[.t 11],none,0,0⟩,
  ⟨(some 13),.mov,[.c (.int .i64 0)],none,0,0⟩] false)
 (.block 0 (.loop (U7 esz ag k) U6)))
 (.seq (.reg [⟨(some 4),.mov,[.c (.bool true)],none,0,0⟩] false)
 .ret))))⟩
section
variable{pg:Pg}
theorem CY{f:Nat}{esz:Nat}{ag:Bool}(hf:pg.fs f=some (ZE esz ag)){α : Type}(enc : α -> AV)(hfit:∀x,(enc x).fits esz ag=true)(htree:∀x,(enc x).tree=true)
  (nl cl:Bool) (es:List α) (hb:es.length<=big) (g:Nat) (cs:List AV) (hcs:treeL cs=true) (p : α -> Bool) (hp:∀x∈es,Ret pg g (enc x::cs) (.bool (p x))) :
  fT pg f [.sl nl (es.map enc) cl,.fn g cs] (λr=>∃i:Int,r = .int .i64 i/\decide (0<=i)=es.any p):=by
 refine fT.ofX hf ?_;unfold ZE;simp only[go_sem,seval];refine rY es (λd e=>d6 e (some 8) (.int .i64 d.length)) (λd r hp=>es.any p=r.any p) rfl ?_ ?_ ?_;rfl;intro hp' hI;simp only[G8,G7,go_sem,seval];simp[hI];intro d x r hp' hes hI;subst hes;simp only[G8,G7,hfit,go_sem,seval];refine bQ (hp x (by simp)) (by simp only[treeL,htree,hcs,List.cons_append,List.nil_append,Bool.and_true]) rfl ?_;simp only[go_sem,seval];cases hx:p x;simp only[bI hb,go_sem,seval];simpa[hx] using hI;simp only[go_sem,seval];simp[hx]
theorem DA{f n:Nat}(hf:pg.fs f=some (Z0 n)){a b:AV}{q:Bool}(ha:treeL [a,b]=true)(h:fT pg n [a,b] (λr=>∃i:Int,r = .int .i64 i/\decide (0<=i)=q)) :
  Ret pg f [a,b] (.bool q):=by
 obtain⟨_,h,i,rfl,hi⟩:=h;refine Ret.ofX hf ?_;unfold Z0;simp only[go_sem,seval];refine bQ h ha rfl ?_;simp only[go_sem,seval];exact hi
def eqL{α β : Type}(q : α -> β -> Bool):List α -> List β -> Bool
 |[],[]=>true
 |x::r,y::s=>q x y&&eqL q r s
 |_,_=>false
theorem C4{α β : Type}{q : α -> β -> Bool}:∀{a:List α}{b:List β},eqL q a b=true->a.length=b.length
 |[],[],_=>rfl
 |x::r,y::s,h=>by simp only[eqL,aA]at h;simp[C4 h.2]
 |[],_::_,h=>by simp[eqL]at h
 |_::_,[],h=>by simp[eqL]at h
theorem U5{f:Nat}{esz:Nat}{ag:Bool}{k:K}(hf:pg.fs f=some (eqV esz ag k)){α : Type}(enc : α -> AV)(hfit:∀x,(enc x).fits esz ag=true)
  (nl cl nl' cl':Bool) (es es':List α) (hb:es.length<=big) (q : α -> α -> Bool)
  (hk:∀(kb s:Nat)(h:Hp)(x y : α)(Q:AV->Eff->Prop)(t:Tok Q),XO pg kb k s h [enc x,enc y] Q t=Q (.bool (!q x y)) (.pat [] [])) (hnc:k.isCall=false) :
  Ret pg f [.sl nl (es.map enc) cl,.sl nl' (es'.map enc) cl'] (.bool (eqL q es es')):=by
 refine Ret.ofX hf ?_;unfold eqV;simp only[go_sem,seval];cases hl:decide ((es.length:Int)=es'.length)
 case false=>simp only[hl,go_sem,seval];cases he:eqL q es es';rfl;exact absurd (congrArg Int.ofNat (C4 he)) (by simpa using hl)
 simp only[hl,go_sem,seval];have hl':es.length=es'.length:=by simp at hl;omega
 refine rY es (λd e=>d6 e (some 13) (.int .i64 d.length)) (λd r hp=>∃d2 r2,es'=d2++r2/\d2.length=d.length/\eqL q es es'=eqL q r r2) rfl ?_ ?_ ?_;exact⟨[],es',rfl,rfl,rfl⟩;rintro hp ⟨d2,r2,h1,h2,h3⟩;simp only[U7,U6,go_sem,seval];rw[h3];have:r2=[]:=by have:=congrArg List.length h1;simp at this;exact eD (by omega)
 subst this;rfl;rintro d x r hp hes ⟨d2,r2,h1,h2,h3⟩;have hlen:r2.length=(x::r).length:=by have e1:=congrArg List.length h1;have e2:=congrArg List.length hes;simp at e1 e2 ⊢;omega
 obtain⟨y,r2,rfl⟩:∃y s,r2=y::s:=by
  cases r2 with
  |nil=>simp at hlen
  |cons y s=>exact⟨y,s,rfl⟩
 have hy:es'[d.length]?=some y:=by rw[h1,<-h2];simp
 subst hes;simp only[U7,U6,hfit,hy,hk,go_sem,seval];refine dJ ?_;cases hx:q x y;simp only[go_sem,seval];rw[h3];simp[eqL,hx];simp only[bI hb,go_sem,seval];exact⟨d2++[y],r2,by simp[h1],by simp[h2],by simpa[eqL,hx] using h3⟩
end
end
end Go.Tev
