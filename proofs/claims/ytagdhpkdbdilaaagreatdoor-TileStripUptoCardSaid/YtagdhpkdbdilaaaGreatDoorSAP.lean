import Derived.Test.YtagdhpkdbdilaaaGreatDoorSAO
import Derived.KernelRfl
import Derived.Test.YtagdhpkdbdilaaaGreatDoorSAH
set_option linter.all false
namespace Go.Tev
section
structure Tok.{u}{α : Sort u}(a : α):Type where
def XX(pg:Pg)(kb:Nat)(c:C)(st:St)(Q:Ex->St->Prop)(_:Tok Q):Prop:=WX pg kb c st Q
def XR(pg:Pg)(kb:Nat)(rs:List R)(st:St)(Q:St->Prop)(_:Tok Q):Prop:=WR pg kb rs st Q
def XT(pg:Pg)(kb:Nat)(rs:List R)(st:St)(Q:St->List Eff->Prop)(_:Tok Q):Prop:=WT pg kb rs st Q
def XO(pg:Pg)(kb:Nat)(k:K)(s:Nat)(h:Hp)(vs:List AV)(Q:AV->Eff->Prop)(_:Tok Q):Prop:=WO pg kb k s h vs Q
def XG(v:AV)(b:Bool)(A B:Unit->Prop)(_:Tok (A,B)):Prop:=gdQ v b (A ()) (B ())
def XC(v:AV)(A B:Unit->Prop)(_:Tok (A,B)):Prop:=MY v (A ()) (B ())
def XV(o:Option (AV×Eff))(Q:AV->Eff->Prop)(_:Tok Q):Prop:=KM o Q
variable{pg:Pg}{kb:Nat}
theorem TJ(st:St)(Q:Ex->St->Prop)(t:Tok Q):XX pg kb .skip st Q t=Q .nor st:=T6 st Q
theorem TM(id:Nat)(st:St)(Q:Ex->St->Prop)(t:Tok Q):XX pg kb (.exit id) st Q t=Q (.ext id) st:=T9 id st Q
theorem aJe(st:St)(Q:Ex->St->Prop)(t:Tok Q):XX pg kb .ret st Q t=Q .ret st:=aJK st Q
theorem aJf(rs:List R)(st:St)(Q:Ex->St->Prop)(t:Tok Q):XX pg kb (.reg rs false) st Q t=XR pg kb rs st (λst'=>Q .nor st') ⟨⟩:=aJL rs st Q
theorem TK(rs:List R)(st:St)(Q:Ex->St->Prop)(t:Tok Q):XX pg kb (.reg rs true) st Q t=XT pg kb rs st (λst' es=>i7 0 rs es=true/\Q .nor st') ⟨⟩:=T7 rs st Q
theorem TN(c:X)(a b:C)(st:St)(Q:Ex->St->Prop)(t:Tok Q):XX pg kb (.cond c a b) st Q t=XC (c.ev pg.gl st.env) (λ_=>XX pg kb a st Q t) (λ_=>XX pg kb b st Q t) ⟨⟩:=UA c a b st Q
theorem aJd(a b:C)(st:St)(Q:Ex->St->Prop)(t:Tok Q):XX pg kb (.seq a b) st Q t=XX pg kb a st (jQ (λst'=>XX pg kb b st' Q t) Q) ⟨⟩:=aJJ a b st Q
theorem OI(id:Nat)(b:C)(st:St)(Q:Ex->St->Prop)(t:Tok Q):XX pg kb (.block id b) st Q t=XX pg kb b st (l3 id Q) ⟨⟩:=OQ id b st Q
theorem JX{α : Type}(μ : α -> Nat)(E : α -> List AV->Hp->Prop){b:C}{clr:List Bool}{st:St}{Q:Ex->St->Prop}{t:Tok Q}(a : α)(h0:E a (clear clr st.env) st.hp)
  (step:∀a env hp,E a env hp->XX pg kb b ⟨env,hp⟩ (jQ (λst'=>∃a',μ a' < μ a/\E a' (clear clr st'.env) st'.hp) Q) ⟨⟩) :
  XX pg kb (.loop b clr) st Q t:=J1 μ E a h0 step
theorem aJh(st:St)(A:St->Prop)(t:Tok A):XR pg kb [] st A t=A st:=aJN st A
theorem TQ(d:Option Nat)(k:K)(xs:List X)(bef s:Nat)(rs:List R)(st:St)(A:St->Prop)(t:Tok A) :
  XR pg kb (⟨d,k,xs,none,bef,s⟩::rs) st A t=XO pg kb k s st.hp (xs.map (X.ev pg.gl st.env)) (λv eff=>XR pg kb rs ⟨dC st.env d v,eff.app st.hp⟩ A t) ⟨⟩:=HO d k xs bef s rs st A
theorem OK(d:Option Nat)(k:K)(xs:List X)(g:Nat)(b:Bool)(bef s:Nat)(rs:List R)(st:St)(A:St->Prop)(t:Tok A) :
  XR pg kb (⟨d,k,xs,some (g,b),bef,s⟩::rs) st A t =
   XG (eC st.env g) b (λ_=>XO pg kb k s st.hp (xs.map (X.ev pg.gl st.env)) (λv eff=>XR pg kb rs ⟨dC st.env d v,eff.app st.hp⟩ A t) ⟨⟩) (λ_=>XR pg kb rs ⟨dC st.env d (.tup []),st.hp⟩ A t) ⟨⟩:=
 OT d k xs g b bef s rs st A
theorem aJg(st:St)(A:St->List Eff->Prop)(t:Tok A):XT pg kb [] st A t=A st []:=aJM st A
theorem TP(d:Option Nat)(k:K)(xs:List X)(bef s:Nat)(rs:List R)(st:St)(A:St->List Eff->Prop)(t:Tok A) :
  XT pg kb (⟨d,k,xs,none,bef,s⟩::rs) st A t=XO pg kb k s st.hp (xs.map (X.ev pg.gl st.env)) (λv eff=>XT pg kb rs ⟨dC st.env d v,eff.app st.hp⟩ (λst' es=>A st' (eff::es)) ⟨⟩) ⟨⟩:=HN d k xs bef s rs st A
theorem OJ(d:Option Nat)(k:K)(xs:List X)(g:Nat)(b:Bool)(bef s:Nat)(rs:List R)(st:St)(A:St->List Eff->Prop)(t:Tok A) :
  XT pg kb (⟨d,k,xs,some (g,b),bef,s⟩::rs) st A t =
   XG (eC st.env g) b (λ_=>XO pg kb k s st.hp (xs.map (X.ev pg.gl st.env)) (λv eff=>XT pg kb rs ⟨dC st.env d v,eff.app st.hp⟩ (λst' es=>A st' (eff::es)) ⟨⟩) ⟨⟩)
    (λ_=>XT pg kb rs ⟨dC st.env d (.tup []),st.hp⟩ (λst' es=>A st' (.pat [] []::es)) ⟨⟩) ⟨⟩:=
 OS d k xs g b bef s rs st A
theorem HM(A B:Unit->Prop)(t:Tok (A,B)):XC (.bool true) A B t=A ():=rfl
theorem EI(A B:Unit->Prop)(t:Tok (A,B)):XC (.bool false) A B t=B ():=rfl
theorem kB{c:Bool}{A B:Unit->Prop}{t:Tok (A,B)}(h1:c=true->A ())(h2:c=false->B ()):XC (.bool c) A B t:=by cases c;exact h2 rfl;exact h1 rfl
theorem aGZ(A B:Unit->Prop)(t:Tok (A,B)):XG (.bool true) true A B t=A ():=rfl
theorem aHd(A B:Unit->Prop)(t:Tok (A,B)):XG (.bool false) false A B t=A ():=rfl
theorem aHa(A B:Unit->Prop)(t:Tok (A,B)):XG (.bool true) false A B t=B ():=rfl
theorem aHc(A B:Unit->Prop)(t:Tok (A,B)):XG (.bool false) true A B t=B ():=rfl
theorem aHb(b:Bool)(A B:Unit->Prop)(t:Tok (A,B)):XG (.tup []) b A B t=B ():=rfl
theorem kA{c b:Bool}{A B:Unit->Prop}{t:Tok (A,B)}(h1:c=true->XG (.bool true) b A B t)(h2:c=false->XG (.bool false) b A B t):XG (.bool c) b A B t:=by cases c;exact h2 rfl;exact h1 rfl
theorem HI(v:AV)(e:Eff)(Q:AV->Eff->Prop)(t:Tok Q):XV (some (v,e)) Q t=Q v e:=rfl
theorem cL{f s:Nat}{th:Bool}{h:Hp}{vs ts:List AV}{keys:List Nat}{r v:AV}{pa:List Ent}{Q:AV->Eff->Prop}{t:Tok Q}(hr:Ret pg f ts r)
  (hm:mapS (snap depth h) vs=some (ts,keys)) (hv:fN h (kb+s) th r=some (v,pa)) (q:Q v (.pat ((kb+s)::keys) ((if r.flat then [] else bF h keys)++pa))) :
  XO pg kb (.call f th false) s h vs Q t:=(UB hr hm hv).mpr q
theorem cX(d:Nat)(h:Hp):∀{vs:List AV},treeL vs=true->mapS (snap (d+1) h) vs=some (vs,[])
 |[],_=>rfl
 |x::r,q=>by
  simp only[treeL,aF]at q;have e:snap (d+1) h x=some (x,[]):=by unfold snap;rw[if_pos q.1]
  rw[mapS,e,cX d h q.2];rfl
def AV.notOs:AV->Bool
 |.os .. => false
 |_=>true
theorem cS{f s:Nat}{th:Bool}{h:Hp}{vs:List AV}{r:AV}{Q:AV->Eff->Prop}{t:Tok Q}(hr:Ret pg f vs r)
  (hm:treeL vs=true) (hv:r.notOs=true) (q:Q r (.pat [kb+s] [])) :
  XO pg kb (.call f th false) s h vs Q t:=by
 refine cL hr (cX 63 h hm) (v:=r) (pa:=[]) ?_ ?_;cases r<;>first|rfl|simp[AV.notOs]at hv
 have:(if r.flat then ([]:List Ent) else bF h [])++[]=[]:=by split<;>rfl
 rw[this];exact q
theorem aG{f s:Nat}{th:Bool}{h:Hp}{vs:List AV}{r:AV}{Q:AV->Eff->Prop}{t:Tok Q}(hr:Ret pg f vs r)(q:Q r (.pat [kb+s] []))(hm:treeL vs=true:=by simp only[go_sem,seval])(hv:r.notOs=true:=by rfl):XO pg kb (.call f th false) s h vs Q t:=cS hr hm hv q
theorem Wk{P Q:Prop}(h:Q)(e:P=Q:=by simp only[go_sem,seval];rfl):P:=e.mpr h
theorem cC{a b:Prop}(h:b)(k:a:=by kernel_rfl):a/\b:=⟨k,h⟩
theorem ON{f s:Nat}{th im:Bool}{h h':Hp}{vs:List AV}{r:AV}{Q:AV->Eff->Prop}{t:Tok Q}(hm:im=true\/mapS (snap depth h) vs=none){B:Nat}(hB:j7 kb s vs=B)(hr:wI pg f vs B h r h')
   (hq:Q r (.whole h')):XO pg kb (.call f th im) s h vs Q t:=OU hm hB hr hq
theorem OM{f s:Nat}{th im:Bool}{h:Hp}{cs args:List AV}{Q:AV->Eff->Prop}{t:Tok Q} :
  XO pg kb (.callv th im) s h (.fn f cs::args) Q t=XO pg kb (.call f th im) s h (args++cs) Q t:=rfl
theorem Ret.ofX{f:Nat}{cf:CF}{vs:List AV}{r:AV}(hf:pg.fs f=some cf)(hw:XX pg 0 cf.body ⟨enter cf vs,[]⟩ (C8 cf.res r) ⟨⟩):Ret pg f vs r:=Ret.of hf hw
def MS(res:List (Sum Nat (Nat×Nat×Bool)))(r:AV)(h:Hp)(ex:Ex)(st:St):Prop:=(match ex with|.ext _=>False|_=>True)/\result st res=some r/\st.hp=h
theorem wI.ofX{f:Nat}{cf:CF}{vs:List AV}{h:Hp}{r:AV}{h':Hp}(hf:pg.fs f=some cf)(hw:XX pg kb cf.body ⟨enter cf vs,h⟩ (MS cf.res r h') ⟨⟩):wI pg f vs kb h r h':=wI.of hf hw
theorem MQ(res:List (Sum Nat (Nat×Nat×Bool)))(r:AV)(h:Hp)(st:St):MS res r h .nor st=(result st res=some r/\st.hp=h):=by simp[MS]
theorem MP(res:List (Sum Nat (Nat×Nat×Bool)))(r:AV)(h:Hp)(st:St):MS res r h .ret st=(result st res=some r/\st.hp=h):=by simp[MS]
theorem TR(s:Nat)(h:Hp)(c a b:Bool)(Q:AV->Eff->Prop)(t:Tok Q):XO pg kb .pick s h [.bool c,.bool a,.bool b] Q t=Q (.bool (bif c then a else b)) (.pat [] []):=by show WO pg kb .pick s h _ Q=_;rw[cE rfl];cases c<;>rfl
theorem JY(s:Nat)(h:Hp)(a b:AV)(Q:AV->Eff->Prop)(t:Tok Q):XO pg kb .pick s h [.bool true,a,b] Q t=Q a (.pat [] []):=by show WO pg kb .pick s h _ Q=_;rw[cE rfl];rfl
theorem JZ(s:Nat)(h:Hp)(a b:AV)(Q:AV->Eff->Prop)(t:Tok Q):XO pg kb .pick s h [.bool false,a,b] Q t=Q b (.pat [] []):=by show WO pg kb .pick s h _ Q=_;rw[cE rfl];rfl
theorem aJn(s:Nat)(h:Hp)(vs:List AV)(Q:AV->Eff->Prop)(t:Tok Q):XO pg kb (.mov) s h vs Q t=XV (L5 vs) Q ⟨⟩:=cE rfl s h vs Q
theorem aJE(s:Nat)(h:Hp)(vs:List AV)(Q:AV->Eff->Prop)(t:Tok Q):XO pg kb (.box) s h vs Q t=XV (eW h (kb+s) vs) Q ⟨⟩:=cE rfl s h vs Q
theorem OP(z:List AV)(ag:Bool)(s:Nat)(h:Hp)(vs:List AV)(Q:AV->Eff->Prop)(t:Tok Q):XO pg kb (.alloc z ag) s h vs Q t=XV (z7 h (kb+s) z ag vs) Q ⟨⟩:=cE rfl s h vs Q
theorem OO(z:List AV)(ps:List (Nat×Nat))(s:Nat)(h:Hp)(vs:List AV)(Q:AV->Eff->Prop)(t:Tok Q):XO pg kb (.build z ps) s h vs Q t=XV (z6 z ps vs) Q ⟨⟩:=cE rfl s h vs Q
theorem TW(e:Nat)(ag own:Bool)(s:Nat)(h:Hp)(vs:List AV)(Q:AV->Eff->Prop)(t:Tok Q):XO pg kb (.mkSl e ag own) s h vs Q t=XV (FM h (kb+s) e ag own vs) Q ⟨⟩:=cE rfl s h vs Q
theorem TX(sz:Nat)(ag:Bool)(s:Nat)(h:Hp)(vs:List AV)(Q:AV->Eff->Prop)(t:Tok Q):XO pg kb (.load sz ag) s h vs Q t=XV (FN h sz ag vs) Q ⟨⟩:=cE rfl s h vs Q
theorem OL(sz:Nat)(ag:Bool)(s:Nat)(h:Hp)(vs:List AV)(Q:AV->Eff->Prop)(t:Tok Q):XO pg kb (.store sz ag) s h vs Q t=XV (zZ h sz ag vs) Q ⟨⟩:=cE rfl s h vs Q
theorem TV(s:Nat)(h:Hp)(vs:List AV)(Q:AV->Eff->Prop)(t:Tok Q):XO pg kb (.nilc) s h vs Q t=XV (FL vs) Q ⟨⟩:=cE rfl s h vs Q
theorem aJF(op:BinOp)(s:Nat)(h:Hp)(vs:List AV)(Q:AV->Eff->Prop)(t:Tok Q):XO pg kb (.bin op) s h vs Q t=XV (MH op vs) Q ⟨⟩:=cE rfl s h vs Q
theorem aJG(ng:Bool)(s:Nat)(h:Hp)(vs:List AV)(Q:AV->Eff->Prop)(t:Tok Q):XO pg kb (.beq ng) s h vs Q t=XV (MI ng vs) Q ⟨⟩:=cE rfl s h vs Q
theorem aJz(q:Nat)(ng:Bool)(s:Nat)(h:Hp)(vs:List AV)(Q:AV->Eff->Prop)(t:Tok Q):XO pg kb (.eqn q ng) s h vs Q t=XV (MC q ng vs) Q ⟨⟩:=cE rfl s h vs Q
theorem aJy(ng:Bool)(qs:List Nat)(s:Nat)(h:Hp)(vs:List AV)(Q:AV->Eff->Prop)(t:Tok Q):XO pg kb (.eqs ng qs) s h vs Q t=XV (u2 ng qs vs) Q ⟨⟩:=cE rfl s h vs Q
theorem aTc(op:UnOp)(s:Nat)(h:Hp)(vs:List AV)(Q:AV->Eff->Prop)(t:Tok Q):XO pg kb (.un op) s h vs Q t=XV (aIy op vs) Q ⟨⟩:=cE rfl s h vs Q
theorem aJB(i:IntKind)(s:Nat)(h:Hp)(vs:List AV)(Q:AV->Eff->Prop)(t:Tok Q):XO pg kb (.cvi i) s h vs Q t=XV (ME i vs) Q ⟨⟩:=cE rfl s h vs Q
theorem aJA(s:Nat)(h:Hp)(vs:List AV)(Q:AV->Eff->Prop)(t:Tok Q):XO pg kb (.cvs) s h vs Q t=XV (MD vs) Q ⟨⟩:=cE rfl s h vs Q
theorem aJm(s:Nat)(h:Hp)(vs:List AV)(Q:AV->Eff->Prop)(t:Tok Q):XO pg kb (.s2b) s h vs Q t=XV (L4 vs) Q ⟨⟩:=cE rfl s h vs Q
theorem aJH(s:Nat)(h:Hp)(vs:List AV)(Q:AV->Eff->Prop)(t:Tok Q):XO pg kb (.b2s) s h vs Q t=XV (MJ h vs) Q ⟨⟩:=cE rfl s h vs Q
theorem aJv(off sz:Nat)(ag:Bool)(s:Nat)(h:Hp)(vs:List AV)(Q:AV->Eff->Prop)(t:Tok Q):XO pg kb (.fld off sz ag) s h vs Q t=XV (eU off sz ag vs) Q ⟨⟩:=cE rfl s h vs Q
theorem aJw(off sz:Nat)(ag:Bool)(s:Nat)(h:Hp)(vs:List AV)(Q:AV->Eff->Prop)(t:Tok Q):XO pg kb (.fad off sz ag) s h vs Q t=XV (eV off sz ag vs) Q ⟨⟩:=cE rfl s h vs Q
theorem aJu(e:Nat)(ag:Bool)(arr:Option Nat)(s:Nat)(h:Hp)(vs:List AV)(Q:AV->Eff->Prop)(t:Tok Q):XO pg kb (.iad e ag arr) s h vs Q t=XV (MB e ag arr vs) Q ⟨⟩:=cE rfl s h vs Q
theorem aJs(s:Nat)(h:Hp)(vs:List AV)(Q:AV->Eff->Prop)(t:Tok Q):XO pg kb (.ixs) s h vs Q t=XV (L9 vs) Q ⟨⟩:=cE rfl s h vs Q
theorem aJt(len e:Nat)(ag:Bool)(s:Nat)(h:Hp)(vs:List AV)(Q:AV->Eff->Prop)(t:Tok Q):XO pg kb (.ixa len e ag) s h vs Q t=XV (MA len e ag vs) Q ⟨⟩:=cE rfl s h vs Q
theorem aJj(e:Nat)(lo hi mx:Bool)(s:Nat)(h:Hp)(vs:List AV)(Q:AV->Eff->Prop)(t:Tok Q):XO pg kb (.slc e lo hi mx) s h vs Q t=XV (jF h e lo hi mx vs) Q ⟨⟩:=cE rfl s h vs Q
theorem aJi(lo hi:Bool)(s:Nat)(h:Hp)(vs:List AV)(Q:AV->Eff->Prop)(t:Tok Q):XO pg kb (.sls lo hi) s h vs Q t=XV (rT lo hi vs) Q ⟨⟩:=cE rfl s h vs Q
theorem aJk(len e:Nat)(lo hi:Bool)(s:Nat)(h:Hp)(vs:List AV)(Q:AV->Eff->Prop)(t:Tok Q):XO pg kb (.sla len e lo hi) s h vs Q t=XV (L3 h len e lo hi vs) Q ⟨⟩:=cE rfl s h vs Q
theorem aJo(e:Nat)(ag:Bool)(bytes:Nat)(z:List AV)(s:Nat)(h:Hp)(vs:List AV)(Q:AV->Eff->Prop)(t:Tok Q):XO pg kb (.mks e ag bytes z) s h vs Q t=XV (L6 h (kb+s) e ag bytes z vs) Q ⟨⟩:=cE rfl s h vs Q
theorem aJr(q:Nat)(s:Nat)(h:Hp)(vs:List AV)(Q:AV->Eff->Prop)(t:Tok Q):XO pg kb (.len q) s h vs Q t=XV (u1 h q vs) Q ⟨⟩:=cE rfl s h vs Q
theorem TY(n:Nat)(s:Nat)(h:Hp)(vs:List AV)(Q:AV->Eff->Prop)(t:Tok Q):XO pg kb (.lenc n) s h vs Q t=XV (FO n vs) Q ⟨⟩:=cE rfl s h vs Q
theorem aJD(s:Nat)(h:Hp)(vs:List AV)(Q:AV->Eff->Prop)(t:Tok Q):XO pg kb (.cap) s h vs Q t=XV (MG h vs) Q ⟨⟩:=cE rfl s h vs Q
theorem kY(e:Nat)(ag:Bool)(bytes:Nat)(s:Nat)(h:Hp)(vs:List AV)(Q:AV->Eff->Prop)(t:Tok Q):XO pg kb (.app e ag bytes) s h vs Q t=XV (lH h (kb+s) e ag bytes vs) Q ⟨⟩:=cE rfl s h vs Q
theorem aJC(e:Nat)(ag:Bool)(s:Nat)(h:Hp)(vs:List AV)(Q:AV->Eff->Prop)(t:Tok Q):XO pg kb (.cpy e ag) s h vs Q t=XV (MF h e ag vs) Q ⟨⟩:=cE rfl s h vs Q
theorem aTf(s:Nat)(h:Hp)(vs:List AV)(Q:AV->Eff->Prop)(t:Tok Q):XO pg kb (.mn) s h vs Q t=XV (aIB vs) Q ⟨⟩:=cE rfl s h vs Q
theorem aTe(s:Nat)(h:Hp)(vs:List AV)(Q:AV->Eff->Prop)(t:Tok Q):XO pg kb (.mx) s h vs Q t=XV (aIA vs) Q ⟨⟩:=cE rfl s h vs Q
theorem aJx(i:Nat)(s:Nat)(h:Hp)(vs:List AV)(Q:AV->Eff->Prop)(t:Tok Q):XO pg kb (.ext i) s h vs Q t=XV (G8 i vs) Q ⟨⟩:=cE rfl s h vs Q
theorem aJp(s:Nat)(h:Hp)(vs:List AV)(Q:AV->Eff->Prop)(t:Tok Q):XO pg kb (.mki) s h vs Q t=XV (L7 vs) Q ⟨⟩:=cE rfl s h vs Q
theorem aJq(f:Nat)(s:Nat)(h:Hp)(vs:List AV)(Q:AV->Eff->Prop)(t:Tok Q):XO pg kb (.mkf f) s h vs Q t=XV (L8 f vs) Q ⟨⟩:=cE rfl s h vs Q
theorem I9(a:AV)(l:List AV):eC (a::l) 0=a:=rfl
theorem JA(a:AV)(l:List AV)(n:Nat):eC (a::l) (n+1)=eC l n:=by simp[eC]
theorem H9(l:List AV)(v:AV):dC l none v=l:=rfl
theorem H7(a:AV)(l:List AV)(v:AV):dC (a::l) (some 0) v=v::l:=rfl
theorem H8(a:AV)(l:List AV)(v:AV)(n:Nat):dC (a::l) (some (n+1)) v=a::dC l (some n) v:=rfl
theorem TH(h:Hp)(rd:List Nat):Eff.app h (.pat rd [])=h:=rfl
theorem eS(h:Hp)(rd:List Nat)(k e:Nat)(o:Ob):Eff.app h (.pat rd [⟨k,e,o⟩])=h.put k e o:=rfl
theorem l6(h:Hp)(rd:List Nat)(k e k' e':Nat)(o o':Ob):Eff.app h (.pat rd [⟨k,e,o⟩,⟨k',e',o'⟩])=(h.put k e o).put k' e' o':=rfl
theorem JW(h h':Hp):Eff.app h (.whole h')=h':=rfl
theorem JV(v:AV):val v=some (v,.pat [] []):=rfl
theorem PN(h:Hp)(k:Nat)(o:Ob)(v:Nat->AV):lA h k o v=some (v (h.next k),.pat [k] [⟨k,h.next k,o⟩]):=rfl
theorem KX(k:Nat):Hp.next [] k=0:=rfl
theorem KW(h:Hp)(k e:Nat)(o:Ob)(q:Nat):(h.put k e o).next q=if k=q then e+1 else h.next q:=by simp only[Hp.next,aI];by_cases c:k=q<;>simp[c]
theorem P4(k:Nat):Hp.get [] k=none:=rfl
theorem I8(cs:List AV):AV.isAgg (.agg cs)=true:=rfl
theorem JR(cs:List AV):AV.cells (.agg cs)=cs:=rfl
theorem IJ(cs:List AV)(off sz:Nat):eH cs off sz true=if off+sz<=cs.length then some (.agg ((cs.drop off).take sz)) else none:=rfl
theorem II(cs:List AV)(off sz:Nat):eH cs off sz false=cs[off]?:=rfl
theorem GP{α β : Type}(x : α)(f : α -> Option β):(some x).bind f=f x:=rfl
theorem IV{α β : Type}(x : α)(f : α -> β):(some x).map f=some (f x):=rfl
theorem aJO(e:List AV)(h:Hp):(St.mk e h).env=e:=rfl
theorem aTg(e:List AV)(h:Hp):(St.mk e h).hp=h:=rfl
theorem UD(a b:Nat)(c:List (Sum Nat (Nat×Nat×Bool)))(d:C):(CF.mk a b c d).body=d:=rfl
theorem aJR(a b:Nat)(c:List (Sum Nat (Nat×Nat×Bool)))(d:C):(CF.mk a b c d).res=c:=rfl
theorem aTi(a b:Nat)(c:List (Sum Nat (Nat×Nat×Bool)))(d:C):(CF.mk a b c d).nt=b:=rfl
theorem fits_bool(b:Bool)(sz:Nat)(ag:Bool):AV.fits (.bool b) sz ag=(!ag&&sz==1):=rfl
theorem HT(b:Bool):AV.tree (.bool b)=true:=by simp[AV.tree]
theorem fits_int(k:IntKind)(n:Int)(sz:Nat)(ag:Bool):AV.fits (.int k n) sz ag=(!ag&&sz==1):=rfl
theorem J4(k:IntKind)(n:Int):AV.tree (.int k n)=true:=by simp[AV.tree]
theorem fits_str(b:List UInt8)(sz:Nat)(ag:Bool):AV.fits (.str b) sz ag=(!ag&&sz==1):=rfl
theorem J3(b:List UInt8):AV.tree (.str b)=true:=by simp[AV.tree]
theorem fits_sl(nl:Bool)(es:List AV)(cl:Bool)(sz:Nat)(ag:Bool):AV.fits (.sl nl es cl) sz ag=(!ag&&sz==1):=rfl
theorem sG(nl:Bool)(es:List AV)(cl:Bool):AV.tree (.sl nl es cl)=treeL es:=by simp[AV.tree]
theorem fits_fp(v:AV)(sz:Nat)(ag:Bool):AV.fits (.fp v) sz ag=(!ag&&sz==1):=rfl
theorem O7(v:AV):AV.tree (.fp v)=v.tree:=by simp[AV.tree]
theorem fits_nilp  (sz:Nat) (ag:Bool):AV.fits (.nilp ) sz ag=(!ag&&sz==1):=rfl
theorem HQ  : AV.tree (.nilp )=true:=by simp[AV.tree]
theorem fits_nilf  (sz:Nat) (ag:Bool):AV.fits (.nilf ) sz ag=(!ag&&sz==1):=rfl
theorem HS  : AV.tree (.nilf )=true:=by simp[AV.tree]
theorem fits_nili  (sz:Nat) (ag:Bool):AV.fits (.nili ) sz ag=(!ag&&sz==1):=rfl
theorem HR  : AV.tree (.nili )=true:=by simp[AV.tree]
theorem fits_fn(f:Nat)(cs:List AV)(sz:Nat)(ag:Bool):AV.fits (.fn f cs) sz ag=(!ag&&sz==1):=rfl
theorem sH(f:Nat)(cs:List AV):AV.tree (.fn f cs)=treeL cs:=by simp[AV.tree]
theorem fits_rf(k e o l c:Nat)(sz:Nat)(ag:Bool):AV.fits (.rf k e o l c) sz ag=(!ag&&sz==1):=rfl
theorem O5(k e o l c:Nat):AV.tree (.rf k e o l c)=false:=by simp[AV.tree]
theorem fits_pt(k e o:Nat)(sz:Nat)(ag:Bool):AV.fits (.pt k e o) sz ag=(!ag&&sz==1):=rfl
theorem O6(k e o:Nat):AV.tree (.pt k e o)=false:=by simp[AV.tree]
theorem fits_ifc(v:AV)(sz:Nat)(ag:Bool):AV.fits (.ifc v) sz ag=(!ag&&sz==1):=rfl
theorem J5(v:AV):AV.tree (.ifc v)=v.tree:=by simp[AV.tree]
theorem fits_agg(cs:List AV)(sz:Nat)(ag:Bool):AV.fits (.agg cs) sz ag=(ag&&cs.length==sz):=rfl
theorem J6(cs:List AV):AV.tree (.agg cs)=treeL cs:=by simp[AV.tree]
theorem J2(cs:List AV):AV.tree (.tup cs)=treeL cs:=by simp[AV.tree]
theorem KU(b:Bool):AV.one (.bool b)=true:=rfl
theorem PL(k:IntKind)(n:Int):AV.one (.int k n)=true:=rfl
theorem PK(b:List UInt8):AV.one (.str b)=true:=rfl
theorem aIa(nl:Bool)(es:List AV)(cl:Bool):AV.one (.sl nl es cl)=true:=rfl
theorem aId(v:AV):AV.one (.fp v)=true:=rfl
theorem KR  : AV.one (.nilp )=true:=rfl
theorem KT  : AV.one (.nilf )=true:=rfl
theorem KS  : AV.one (.nili )=true:=rfl
theorem aIe(f:Nat)(cs:List AV):AV.one (.fn f cs)=true:=rfl
theorem aIb(k e o l c:Nat):AV.one (.rf k e o l c)=true:=rfl
theorem aIc(k e o:Nat):AV.one (.pt k e o)=true:=rfl
theorem PM(v:AV):AV.one (.ifc v)=true:=rfl
theorem JC(b:Bool):AV.flat (.bool b)=true:=by simp[AV.flat]
theorem LZ(k:IntKind)(n:Int):AV.flat (.int k n)=true:=by simp[AV.flat]
theorem LY(b:List UInt8):AV.flat (.str b)=true:=by simp[AV.flat]
attribute [go_sem] KU PL PK aIa aId KR KT KS aIe aIb aIc PM JC LZ LY List.append_nil
theorem LF(nl:Bool)(es:List AV)(cl:Bool):AV.isNil 1 (.sl nl es cl)=some nl:=rfl
theorem LG(k e o l c:Nat):AV.isNil 1 (.rf k e o l c)=some false:=rfl
theorem FA:AV.isNil 4 .nili=some true:=rfl
theorem I4(v:AV):AV.isNil 4 (.ifc v)=some false:=rfl
theorem E9:AV.isNil 0 .nilp=some true:=rfl
theorem LI(v:AV):AV.isNil 0 (.fp v)=some false:=rfl
theorem LH(k e o:Nat):AV.isNil 0 (.pt k e o)=some false:=rfl
theorem FB:AV.isNil 3 .nilf=some true:=rfl
theorem LJ(f:Nat)(cs:List AV):AV.isNil 3 (.fn f cs)=some false:=rfl
attribute [go_sem ↓] TJ TM aJe aJf TK TN aJd OI aJh TQ OK aJg TP OJ HM EI aGZ aHd aHa aHc aHb HI
 HW HX HV GN GO GM ML MK MQ MP
attribute [go_sem] HM EI aGZ aHd aHa aHc aHb HI OM TR JY JZ
 aJn aJE OP OO TW TX OL TV aJF aJG aJz aJy aTc aJB aJA aJm aJH aJv aJw aJu aJs aJt aJj aJi aJk aJo aJr TY aJD aJC aTf aTe aJx aJp aJq
theorem GL(b:Bool):AV.cells (.bool b)=[.bool b]:=rfl
theorem FF(b:Bool):AV.isAgg (.bool b)=false:=rfl
theorem JP(k:IntKind)(n:Int):AV.cells (.int k n)=[.int k n]:=rfl
theorem I6(k:IntKind)(n:Int):AV.isAgg (.int k n)=false:=rfl
theorem JO(b:List UInt8):AV.cells (.str b)=[.str b]:=rfl
theorem I5(b:List UInt8):AV.isAgg (.str b)=false:=rfl
theorem N5(nl:Bool)(es:List AV)(cl:Bool):AV.cells (.sl nl es cl)=[.sl nl es cl]:=rfl
theorem LL(nl:Bool)(es:List AV)(cl:Bool):AV.isAgg (.sl nl es cl)=false:=rfl
theorem N8(v:AV):AV.cells (.fp v)=[.fp v]:=rfl
theorem LO(v:AV):AV.isAgg (.fp v)=false:=rfl
theorem GI  : AV.cells (.nilp )=[.nilp ]:=rfl
theorem FC  : AV.isAgg (.nilp )=false:=rfl
theorem GK  : AV.cells (.nilf )=[.nilf ]:=rfl
theorem FE  : AV.isAgg (.nilf )=false:=rfl
theorem GJ  : AV.cells (.nili )=[.nili ]:=rfl
theorem FD  : AV.isAgg (.nili )=false:=rfl
theorem N9(f:Nat)(cs:List AV):AV.cells (.fn f cs)=[.fn f cs]:=rfl
theorem LP(f:Nat)(cs:List AV):AV.isAgg (.fn f cs)=false:=rfl
theorem N6(k e o l c:Nat):AV.cells (.rf k e o l c)=[.rf k e o l c]:=rfl
theorem LM(k e o l c:Nat):AV.isAgg (.rf k e o l c)=false:=rfl
theorem N7(k e o:Nat):AV.cells (.pt k e o)=[.pt k e o]:=rfl
theorem LN(k e o:Nat):AV.isAgg (.pt k e o)=false:=rfl
theorem JQ(v:AV):AV.cells (.ifc v)=[.ifc v]:=rfl
theorem I7(v:AV):AV.isAgg (.ifc v)=false:=rfl
attribute [go_sem] GL FF JP I6 JO I5 N5 LL N8 LO GI FC GK FE GJ FD N9 LP N6 LM N7 LN JQ I7 List.all_cons List.all_nil
attribute [go_sem] I9 JA H9 H7 H8 aI TH eS l6 JW JV PN P4 KX KW
 I8 JR IJ II aIE exists_eq_left' GP IV X.ev aJO aTg UD aJR aTi
 L5 eW z7 z6 FM FN zZ FL MH MI MC u2 aIy ME MD L4 MJ eU eV MB L9 MA jF rT L3 L6 u1 FO MG lH MF aIB aIA G8 L7 L8
 OF bin aIV OE lG dA LF LG FA I4 E9 LI LH FB LJ fits_agg fits_bool fits_int fits_str fits_sl fits_fp fits_nilp fits_fn fits_rf fits_pt fits_nilf fits_nili fits_ifc  bM HT J4 J3 J6 J2 sG O7 HQ HR HS sH J5 O5 O6 eqC enter result lP rK
 List.map_cons List.map_nil List.length_cons List.length_nil List.replicate_succ List.replicate_zero List.cons_append List.nil_append List.getElem?_cons_zero List.getElem?_cons_succ List.drop_zero List.drop_succ_cons List.take_succ_cons List.take_zero
 Option.getD_some
end
section
attribute [go_sem] Nat.succ_eq_add_one Bool.and_true Bool.true_and Bool.and_false Bool.false_and Bool.or_true Bool.true_or Bool.or_false Bool.false_or Bool.not_true Bool.not_false Bool.false_eq_true cond_true cond_false Int.natCast_nonneg Int.toNat_natCast List.length_map List.getElem?_map and_self and_true true_and decide_true decide_false ite_true ite_false if_true if_false not_false_eq_true not_true_eq_false Int.lt_irrefl Bool.and_self Bool.or_self Bool.not_eq_true Bool.not_eq_false eq_self Int.toNat_zero Int.le_refl Int.natCast_zero Nat.zero_le Option.isSome_none Option.isSome_some beq_self_eq_true Option.getD_none Option.isNone_none Option.isNone_some ne_eq
def big:Nat:=16777216
structure Str where
 bs:List UInt8
 ok:bs.length<=big
def Str.av(s:Str):AV:=.str s.bs
structure Sl(α : Type) where
 nl:Bool
 es:List α
 cl:Bool
 ok:es.length<=big
def Sl.av{α : Type}(f : α -> AV)(s:Sl α):AV:=.sl s.nl (s.es.map f) s.cl
def bL(n:Int):AV:=.int .i64 n
structure aN where
 v:Str
 c:Int
def aN.av(x:aN):AV:=.agg [.str x.v.bs,.int .i64 x.c]
structure Lin where
 c:Int
 ts:Sl aN
def Lin.av(x:Lin):AV:=.agg [.int .i64 x.c,x.ts.av aN.av]
structure bO where
 row:Str
 dims:Sl Lin
def bO.av(x:bO):AV:=.agg [.str x.row.bs,x.dims.av Lin.av]
structure Typ where
 elem:Str
 shape:bO
def Typ.av(x:Typ):AV:=.agg [.str x.elem.bs,.str x.shape.row.bs,x.shape.dims.av Lin.av]
structure aJ where
 op:Str
 num:Int
 args:Sl Int
def aJ.av(x:aJ):AV:=.agg [.str x.op.bs,.int .i64 x.num,x.args.av bL]
structure Val where
 v:Str
 n:Int
def Val.av(x:Val):AV:=.agg [.str x.v.bs,.int .i64 x.n]
inductive aE where
 |mk (op:Str) (num value:Int) (name:Str) (at_:Sl Lin) (dyn:Bool) (check:Int) (fn:Sl aJ) (knl:Bool) (kids:List aE) (kcl:Bool)
namespace aE
def op:aE->Str|mk a _ _ _ _ _ _ _ _ _ _=>a
def num:aE->Int|mk _ a _ _ _ _ _ _ _ _ _=>a
def value:aE->Int|mk _ _ a _ _ _ _ _ _ _ _=>a
def name:aE->Str|mk _ _ _ a _ _ _ _ _ _ _=>a
def at_:aE->Sl Lin|mk _ _ _ _ a _ _ _ _ _ _=>a
def dyn:aE->Bool|mk _ _ _ _ _ a _ _ _ _ _=>a
def check:aE->Int|mk _ _ _ _ _ _ a _ _ _ _=>a
def fn:aE->Sl aJ|mk _ _ _ _ _ _ _ a _ _ _=>a
def knl:aE->Bool|mk _ _ _ _ _ _ _ _ a _ _=>a
def kids:aE->List aE|mk _ _ _ _ _ _ _ _ _ a _=>a
def kcl:aE->Bool|mk _ _ _ _ _ _ _ _ _ _ a=>a
end aE
mutual
def aE.av:aE->AV
 |.mk op num value name at_ dyn check fn knl kids kcl=>
  .agg [.str op.bs,.int .i64 num,.int .i64 value,.str name.bs,at_.av Lin.av,.bool dyn,.int .i64 check,fn.av aJ.av,.sl knl (aE.avs kids) kcl]
def aE.avs:List aE->List AV
 |[]=>[]
 |p::r=>p.av::aE.avs r
end
theorem aE.avs_eq:∀l:List aE,aE.avs l=l.map aE.av
 |[]=>by simp[aE.avs]
 |p::r=>by simp[aE.avs,aE.avs_eq r]
def aE.kav(p:aE):AV:=.sl p.knl (p.kids.map aE.av) p.kcl
def aE.cells(p:aE):List AV:=
 [.str p.op.bs,.int .i64 p.num,.int .i64 p.value,.str p.name.bs,p.at_.av Lin.av,.bool p.dyn,.int .i64 p.check,p.fn.av aJ.av,p.kav]
theorem aE.av_eq(p:aE):p.av = .agg p.cells:=by cases p;simp[aE.av,aE.cells,aE.kav,aE.avs_eq,op,num,value,name,at_,dyn,check,fn,knl,kids,kcl]
mutual
def aE.ok:aE->Prop
 |.mk _ _ _ _ _ _ _ _ _ kids _=>kids.length<=big/\aE.oks kids
def aE.oks:List aE->Prop
 |[]=>True
 |p::r=>p.ok/\aE.oks r
end
theorem aE.oks_iff:∀l:List aE,aE.oks l↔∀p∈l,p.ok
 |[]=>by simp[aE.oks]
 |p::r=>by simp[aE.oks,aE.oks_iff r]
theorem aE.ok_iff(p:aE):p.ok↔p.kids.length<=big/\∀q∈p.kids,q.ok:=by cases p;simp[aE.ok,aE.oks_iff,kids]
structure aX where
 kind:Int
 value:Int
 space:Sl Lin
 body:aE
 fn:Sl aJ
 source:Int
 index:aE
 check:Int
def aX.cells(x:aX):List AV:=
 [.int .i64 x.kind,.int .i64 x.value,x.space.av Lin.av]++x.body.cells++[x.fn.av aJ.av,.int .i64 x.source]++x.index.cells++[.int .i64 x.check]
def aX.av(x:aX):AV:=.agg x.cells
structure aQ where
 vars:Sl Str
 wher:Sl Lin
 inputs:Int
 values:Sl Typ
 list:Sl aX
 results:Sl Int
def aQ.cells(k:aQ):List AV:=
 [k.vars.av Str.av,k.wher.av Lin.av,.int .i64 k.inputs,k.values.av Typ.av,k.list.av aX.av,k.results.av bL]
def aQ.av(k:aQ):AV:=.agg k.cells
theorem bV{α : Type}{f : α -> AV}(h:∀x,(f x).tree=true):∀l:List α,treeL (l.map f)=true
 |[]=>rfl
 |x::r=>by simp[treeL,h x,bV h r]
theorem xI(n:Int):(bL n).tree=true:=rfl
theorem Str.tree(s:Str):(Str.av s).tree=true:=rfl
theorem FH(l:List Int):treeL (l.map bL)=true:=bV xI l
theorem Str.treeL(l:List Str):Tev.treeL (l.map Str.av)=true:=bV Str.tree l
theorem PZ(n:Int):bL n = .int .i64 n:=rfl
theorem Str.av_eq(s:Str):Str.av s = .str s.bs:=rfl
attribute [go_sem] xI Str.tree FH Str.treeL PZ Str.av_eq Tev.treeL Sl.av
theorem aN.avc(x:aN):aN.av x = .agg [.str x.v.bs,.int .i64 x.c]:=rfl
theorem aN.cells_av(x:aN):(aN.av x).cells=[.str x.v.bs,.int .i64 x.c]:=by rw[aN.avc];rfl
theorem aN.isAgg_av(x:aN):(aN.av x).isAgg=true:=by rw[aN.avc];rfl
theorem aN.fits_av(x:aN):(aN.av x).fits 2 true=true:=by rw[aN.avc];rfl
theorem aN.tree_av(x:aN):(aN.av x).tree=true:=by rw[aN.avc];simp[go_sem]
theorem aN.treeL_av(l:List aN):Tev.treeL (l.map aN.av)=true:=bV aN.tree_av l
theorem aN.fld_av(off sz:Nat)(ag:Bool)(x:aN):eU off sz ag [aN.av x]=eU off sz ag [.agg [.str x.v.bs,.int .i64 x.c]]:=by rw[aN.avc]
theorem aN.fad_av(off sz:Nat)(ag:Bool)(x:aN):eV off sz ag [.fp (aN.av x)]=eV off sz ag [.fp (.agg [.str x.v.bs,.int .i64 x.c])]:=by rw[aN.avc]
theorem aN.box_av(h:Hp)(k:Nat)(x:aN):eW h k [aN.av x]=eW h k [.agg [.str x.v.bs,.int .i64 x.c]]:=by rw[aN.avc]
theorem aN.eqs_av(ng:Bool)(qs:List Nat)(x y:aN):u2 ng qs [aN.av x,aN.av y]=u2 ng qs [.agg [.str x.v.bs,.int .i64 x.c],.agg [.str y.v.bs,.int .i64 y.c]]:=by rw[aN.avc,aN.avc]
attribute [go_sem ↓ high] aN.eqs_av
attribute [go_sem high] aN.cells_av aN.isAgg_av aN.fits_av aN.tree_av aN.treeL_av
attribute [go_sem ↓ high] aN.fld_av aN.fad_av aN.box_av
theorem Lin.avc(x:Lin):Lin.av x = .agg [.int .i64 x.c,.sl x.ts.nl (x.ts.es.map aN.av) x.ts.cl]:=rfl
theorem Lin.cells_av(x:Lin):(Lin.av x).cells=[.int .i64 x.c,.sl x.ts.nl (x.ts.es.map aN.av) x.ts.cl]:=by rw[Lin.avc];rfl
theorem Lin.isAgg_av(x:Lin):(Lin.av x).isAgg=true:=by rw[Lin.avc];rfl
theorem Lin.fits_av(x:Lin):(Lin.av x).fits 2 true=true:=by rw[Lin.avc];rfl
theorem Lin.tree_av(x:Lin):(Lin.av x).tree=true:=by rw[Lin.avc];simp[go_sem]
theorem Lin.treeL_av(l:List Lin):Tev.treeL (l.map Lin.av)=true:=bV Lin.tree_av l
theorem Lin.fld_av(off sz:Nat)(ag:Bool)(x:Lin):eU off sz ag [Lin.av x]=eU off sz ag [.agg [.int .i64 x.c,.sl x.ts.nl (x.ts.es.map aN.av) x.ts.cl]]:=by rw[Lin.avc]
theorem Lin.fad_av(off sz:Nat)(ag:Bool)(x:Lin):eV off sz ag [.fp (Lin.av x)]=eV off sz ag [.fp (.agg [.int .i64 x.c,.sl x.ts.nl (x.ts.es.map aN.av) x.ts.cl])]:=by rw[Lin.avc]
theorem Lin.box_av(h:Hp)(k:Nat)(x:Lin):eW h k [Lin.av x]=eW h k [.agg [.int .i64 x.c,.sl x.ts.nl (x.ts.es.map aN.av) x.ts.cl]]:=by rw[Lin.avc]
attribute [go_sem high] Lin.cells_av Lin.isAgg_av Lin.fits_av Lin.tree_av Lin.treeL_av
attribute [go_sem ↓ high] Lin.fld_av Lin.fad_av Lin.box_av
theorem bO.avc(x:bO):bO.av x = .agg [.str x.row.bs,.sl x.dims.nl (x.dims.es.map Lin.av) x.dims.cl]:=rfl
theorem bO.cells_av(x:bO):(bO.av x).cells=[.str x.row.bs,.sl x.dims.nl (x.dims.es.map Lin.av) x.dims.cl]:=by rw[bO.avc];rfl
theorem bO.isAgg_av(x:bO):(bO.av x).isAgg=true:=by rw[bO.avc];rfl
theorem bO.fits_av(x:bO):(bO.av x).fits 2 true=true:=by rw[bO.avc];rfl
theorem bO.tree_av(x:bO):(bO.av x).tree=true:=by rw[bO.avc];simp[go_sem]
theorem bO.treeL_av(l:List bO):Tev.treeL (l.map bO.av)=true:=bV bO.tree_av l
theorem bO.fld_av(off sz:Nat)(ag:Bool)(x:bO):eU off sz ag [bO.av x]=eU off sz ag [.agg [.str x.row.bs,.sl x.dims.nl (x.dims.es.map Lin.av) x.dims.cl]]:=by rw[bO.avc]
theorem bO.fad_av(off sz:Nat)(ag:Bool)(x:bO):eV off sz ag [.fp (bO.av x)]=eV off sz ag [.fp (.agg [.str x.row.bs,.sl x.dims.nl (x.dims.es.map Lin.av) x.dims.cl])]:=by rw[bO.avc]
theorem bO.box_av(h:Hp)(k:Nat)(x:bO):eW h k [bO.av x]=eW h k [.agg [.str x.row.bs,.sl x.dims.nl (x.dims.es.map Lin.av) x.dims.cl]]:=by rw[bO.avc]
attribute [go_sem high] bO.cells_av bO.isAgg_av bO.fits_av bO.tree_av bO.treeL_av
attribute [go_sem ↓ high] bO.fld_av bO.fad_av bO.box_av
theorem Typ.avc(x:Typ):Typ.av x = .agg [.str x.elem.bs,.str x.shape.row.bs,.sl x.shape.dims.nl (x.shape.dims.es.map Lin.av) x.shape.dims.cl]:=rfl
theorem Typ.cells_av(x:Typ):(Typ.av x).cells=[.str x.elem.bs,.str x.shape.row.bs,.sl x.shape.dims.nl (x.shape.dims.es.map Lin.av) x.shape.dims.cl]:=by rw[Typ.avc];rfl
theorem Typ.isAgg_av(x:Typ):(Typ.av x).isAgg=true:=by rw[Typ.avc];rfl
theorem Typ.fits_av(x:Typ):(Typ.av x).fits 3 true=true:=by rw[Typ.avc];rfl
theorem Typ.tree_av(x:Typ):(Typ.av x).tree=true:=by rw[Typ.avc];simp[go_sem]
theorem Typ.treeL_av(l:List Typ):Tev.treeL (l.map Typ.av)=true:=bV Typ.tree_av l
theorem Typ.fld_av(off sz:Nat)(ag:Bool)(x:Typ):eU off sz ag [Typ.av x]=eU off sz ag [.agg [.str x.elem.bs,.str x.shape.row.bs,.sl x.shape.dims.nl (x.shape.dims.es.map Lin.av) x.shape.dims.cl]]:=by rw[Typ.avc]
theorem Typ.fad_av(off sz:Nat)(ag:Bool)(x:Typ):eV off sz ag [.fp (Typ.av x)]=eV off sz ag [.fp (.agg [.str x.elem.bs,.str x.shape.row.bs,.sl x.shape.dims.nl (x.shape.dims.es.map Lin.av) x.shape.dims.cl])]:=by rw[Typ.avc]
theorem Typ.box_av(h:Hp)(k:Nat)(x:Typ):eW h k [Typ.av x]=eW h k [.agg [.str x.elem.bs,.str x.shape.row.bs,.sl x.shape.dims.nl (x.shape.dims.es.map Lin.av) x.shape.dims.cl]]:=by rw[Typ.avc]
attribute [go_sem high] Typ.cells_av Typ.isAgg_av Typ.fits_av Typ.tree_av Typ.treeL_av
attribute [go_sem ↓ high] Typ.fld_av Typ.fad_av Typ.box_av
theorem aJ.avc(x:aJ):aJ.av x = .agg [.str x.op.bs,.int .i64 x.num,.sl x.args.nl (x.args.es.map bL) x.args.cl]:=rfl
theorem aJ.cells_av(x:aJ):(aJ.av x).cells=[.str x.op.bs,.int .i64 x.num,.sl x.args.nl (x.args.es.map bL) x.args.cl]:=by rw[aJ.avc];rfl
theorem aJ.isAgg_av(x:aJ):(aJ.av x).isAgg=true:=by rw[aJ.avc];rfl
theorem aJ.fits_av(x:aJ):(aJ.av x).fits 3 true=true:=by rw[aJ.avc];rfl
theorem aJ.tree_av(x:aJ):(aJ.av x).tree=true:=by rw[aJ.avc];simp[go_sem]
theorem aJ.treeL_av(l:List aJ):Tev.treeL (l.map aJ.av)=true:=bV aJ.tree_av l
theorem aJ.fld_av(off sz:Nat)(ag:Bool)(x:aJ):eU off sz ag [aJ.av x]=eU off sz ag [.agg [.str x.op.bs,.int .i64 x.num,.sl x.args.nl (x.args.es.map bL) x.args.cl]]:=by rw[aJ.avc]
theorem aJ.fad_av(off sz:Nat)(ag:Bool)(x:aJ):eV off sz ag [.fp (aJ.av x)]=eV off sz ag [.fp (.agg [.str x.op.bs,.int .i64 x.num,.sl x.args.nl (x.args.es.map bL) x.args.cl])]:=by rw[aJ.avc]
theorem aJ.box_av(h:Hp)(k:Nat)(x:aJ):eW h k [aJ.av x]=eW h k [.agg [.str x.op.bs,.int .i64 x.num,.sl x.args.nl (x.args.es.map bL) x.args.cl]]:=by rw[aJ.avc]
attribute [go_sem high] aJ.cells_av aJ.isAgg_av aJ.fits_av aJ.tree_av aJ.treeL_av
attribute [go_sem ↓ high] aJ.fld_av aJ.fad_av aJ.box_av
theorem Val.avc(x:Val):Val.av x = .agg [.str x.v.bs,.int .i64 x.n]:=rfl
theorem Val.cells_av(x:Val):(Val.av x).cells=[.str x.v.bs,.int .i64 x.n]:=by rw[Val.avc];rfl
theorem Val.isAgg_av(x:Val):(Val.av x).isAgg=true:=by rw[Val.avc];rfl
theorem Val.fits_av(x:Val):(Val.av x).fits 2 true=true:=by rw[Val.avc];rfl
theorem Val.tree_av(x:Val):(Val.av x).tree=true:=by rw[Val.avc];simp[go_sem]
theorem Val.treeL_av(l:List Val):Tev.treeL (l.map Val.av)=true:=bV Val.tree_av l
theorem Val.fld_av(off sz:Nat)(ag:Bool)(x:Val):eU off sz ag [Val.av x]=eU off sz ag [.agg [.str x.v.bs,.int .i64 x.n]]:=by rw[Val.avc]
theorem Val.fad_av(off sz:Nat)(ag:Bool)(x:Val):eV off sz ag [.fp (Val.av x)]=eV off sz ag [.fp (.agg [.str x.v.bs,.int .i64 x.n])]:=by rw[Val.avc]
theorem Val.box_av(h:Hp)(k:Nat)(x:Val):eW h k [Val.av x]=eW h k [.agg [.str x.v.bs,.int .i64 x.n]]:=by rw[Val.avc]
theorem Val.eqs_av(ng:Bool)(qs:List Nat)(x y:Val):u2 ng qs [Val.av x,Val.av y]=u2 ng qs [.agg [.str x.v.bs,.int .i64 x.n],.agg [.str y.v.bs,.int .i64 y.n]]:=by rw[Val.avc,Val.avc]
attribute [go_sem ↓ high] Val.eqs_av
attribute [go_sem high] Val.cells_av Val.isAgg_av Val.fits_av Val.tree_av Val.treeL_av
attribute [go_sem ↓ high] Val.fld_av Val.fad_av Val.box_av
theorem aE.avc(x:aE):aE.av x = .agg [.str x.op.bs,.int .i64 x.num,.int .i64 x.value,.str x.name.bs,.sl x.at_.nl (x.at_.es.map Lin.av) x.at_.cl,.bool x.dyn,.int .i64 x.check,.sl x.fn.nl (x.fn.es.map aJ.av) x.fn.cl,.sl x.knl (x.kids.map aE.av) x.kcl]:=aE.av_eq x
theorem aE.cells_av(x:aE):(aE.av x).cells=[.str x.op.bs,.int .i64 x.num,.int .i64 x.value,.str x.name.bs,.sl x.at_.nl (x.at_.es.map Lin.av) x.at_.cl,.bool x.dyn,.int .i64 x.check,.sl x.fn.nl (x.fn.es.map aJ.av) x.fn.cl,.sl x.knl (x.kids.map aE.av) x.kcl]:=by rw[aE.avc];rfl
theorem aE.isAgg_av(x:aE):(aE.av x).isAgg=true:=by rw[aE.avc];rfl
theorem aE.fits_av(x:aE):(aE.av x).fits 9 true=true:=by rw[aE.avc];rfl
mutual
theorem aE.tree_av:∀x:aE,(aE.av x).tree=true
 |.mk op num value name at_ dyn check fn knl kids kcl=>by have:=aE.tree_avs kids;simp[aE.av,go_sem,bV Lin.tree_av,bV aJ.tree_av,this]
theorem aE.tree_avs:∀l:List aE,Tev.treeL (aE.avs l)=true
 |[]=>by simp[aE.avs,Tev.treeL]
 |p::r=>by simp[aE.avs,Tev.treeL,aE.tree_av p,aE.tree_avs r]
end
theorem aE.treeL_av(l:List aE):Tev.treeL (l.map aE.av)=true:=bV aE.tree_av l
theorem aE.fld_av(off sz:Nat)(ag:Bool)(x:aE):eU off sz ag [aE.av x]=eU off sz ag [.agg [.str x.op.bs,.int .i64 x.num,.int .i64 x.value,.str x.name.bs,.sl x.at_.nl (x.at_.es.map Lin.av) x.at_.cl,.bool x.dyn,.int .i64 x.check,.sl x.fn.nl (x.fn.es.map aJ.av) x.fn.cl,.sl x.knl (x.kids.map aE.av) x.kcl]]:=by rw[aE.avc]
theorem aE.fad_av(off sz:Nat)(ag:Bool)(x:aE):eV off sz ag [.fp (aE.av x)]=eV off sz ag [.fp (.agg [.str x.op.bs,.int .i64 x.num,.int .i64 x.value,.str x.name.bs,.sl x.at_.nl (x.at_.es.map Lin.av) x.at_.cl,.bool x.dyn,.int .i64 x.check,.sl x.fn.nl (x.fn.es.map aJ.av) x.fn.cl,.sl x.knl (x.kids.map aE.av) x.kcl])]:=by rw[aE.avc]
theorem aE.box_av(h:Hp)(k:Nat)(x:aE):eW h k [aE.av x]=eW h k [.agg [.str x.op.bs,.int .i64 x.num,.int .i64 x.value,.str x.name.bs,.sl x.at_.nl (x.at_.es.map Lin.av) x.at_.cl,.bool x.dyn,.int .i64 x.check,.sl x.fn.nl (x.fn.es.map aJ.av) x.fn.cl,.sl x.knl (x.kids.map aE.av) x.kcl]]:=by rw[aE.avc]
attribute [go_sem high] aE.cells_av aE.isAgg_av aE.fits_av aE.tree_av aE.treeL_av
attribute [go_sem ↓ high] aE.fld_av aE.fad_av aE.box_av
theorem aX.avc(x:aX):aX.av x = .agg [.int .i64 x.kind,.int .i64 x.value,.sl x.space.nl (x.space.es.map Lin.av) x.space.cl,.str x.body.op.bs,.int .i64 x.body.num,.int .i64 x.body.value,.str x.body.name.bs,.sl x.body.at_.nl (x.body.at_.es.map Lin.av) x.body.at_.cl,.bool x.body.dyn,.int .i64 x.body.check,.sl x.body.fn.nl (x.body.fn.es.map aJ.av) x.body.fn.cl,.sl x.body.knl (x.body.kids.map aE.av) x.body.kcl,.sl x.fn.nl (x.fn.es.map aJ.av) x.fn.cl,.int .i64 x.source,.str x.index.op.bs,.int .i64 x.index.num,.int .i64 x.index.value,.str x.index.name.bs,.sl x.index.at_.nl (x.index.at_.es.map Lin.av) x.index.at_.cl,.bool x.index.dyn,.int .i64 x.index.check,.sl x.index.fn.nl (x.index.fn.es.map aJ.av) x.index.fn.cl,.sl x.index.knl (x.index.kids.map aE.av) x.index.kcl,.int .i64 x.check]:=rfl
theorem aX.cells_av(x:aX):(aX.av x).cells=[.int .i64 x.kind,.int .i64 x.value,.sl x.space.nl (x.space.es.map Lin.av) x.space.cl,.str x.body.op.bs,.int .i64 x.body.num,.int .i64 x.body.value,.str x.body.name.bs,.sl x.body.at_.nl (x.body.at_.es.map Lin.av) x.body.at_.cl,.bool x.body.dyn,.int .i64 x.body.check,.sl x.body.fn.nl (x.body.fn.es.map aJ.av) x.body.fn.cl,.sl x.body.knl (x.body.kids.map aE.av) x.body.kcl,.sl x.fn.nl (x.fn.es.map aJ.av) x.fn.cl,.int .i64 x.source,.str x.index.op.bs,.int .i64 x.index.num,.int .i64 x.index.value,.str x.index.name.bs,.sl x.index.at_.nl (x.index.at_.es.map Lin.av) x.index.at_.cl,.bool x.index.dyn,.int .i64 x.index.check,.sl x.index.fn.nl (x.index.fn.es.map aJ.av) x.index.fn.cl,.sl x.index.knl (x.index.kids.map aE.av) x.index.kcl,.int .i64 x.check]:=by rw[aX.avc];rfl
theorem aX.isAgg_av(x:aX):(aX.av x).isAgg=true:=by rw[aX.avc];rfl
theorem aX.fits_av(x:aX):(aX.av x).fits 24 true=true:=by rw[aX.avc];rfl
theorem aX.tree_av(x:aX):(aX.av x).tree=true:=by rw[aX.avc];simp[go_sem]
theorem aX.treeL_av(l:List aX):Tev.treeL (l.map aX.av)=true:=bV aX.tree_av l
theorem aX.fld_av(off sz:Nat)(ag:Bool)(x:aX):eU off sz ag [aX.av x]=eU off sz ag [.agg [.int .i64 x.kind,.int .i64 x.value,.sl x.space.nl (x.space.es.map Lin.av) x.space.cl,.str x.body.op.bs,.int .i64 x.body.num,.int .i64 x.body.value,.str x.body.name.bs,.sl x.body.at_.nl (x.body.at_.es.map Lin.av) x.body.at_.cl,.bool x.body.dyn,.int .i64 x.body.check,.sl x.body.fn.nl (x.body.fn.es.map aJ.av) x.body.fn.cl,.sl x.body.knl (x.body.kids.map aE.av) x.body.kcl,.sl x.fn.nl (x.fn.es.map aJ.av) x.fn.cl,.int .i64 x.source,.str x.index.op.bs,.int .i64 x.index.num,.int .i64 x.index.value,.str x.index.name.bs,.sl x.index.at_.nl (x.index.at_.es.map Lin.av) x.index.at_.cl,.bool x.index.dyn,.int .i64 x.index.check,.sl x.index.fn.nl (x.index.fn.es.map aJ.av) x.index.fn.cl,.sl x.index.knl (x.index.kids.map aE.av) x.index.kcl,.int .i64 x.check]]:=by rw[aX.avc]
theorem aX.fad_av(off sz:Nat)(ag:Bool)(x:aX):eV off sz ag [.fp (aX.av x)]=eV off sz ag [.fp (.agg [.int .i64 x.kind,.int .i64 x.value,.sl x.space.nl (x.space.es.map Lin.av) x.space.cl,.str x.body.op.bs,.int .i64 x.body.num,.int .i64 x.body.value,.str x.body.name.bs,.sl x.body.at_.nl (x.body.at_.es.map Lin.av) x.body.at_.cl,.bool x.body.dyn,.int .i64 x.body.check,.sl x.body.fn.nl (x.body.fn.es.map aJ.av) x.body.fn.cl,.sl x.body.knl (x.body.kids.map aE.av) x.body.kcl,.sl x.fn.nl (x.fn.es.map aJ.av) x.fn.cl,.int .i64 x.source,.str x.index.op.bs,.int .i64 x.index.num,.int .i64 x.index.value,.str x.index.name.bs,.sl x.index.at_.nl (x.index.at_.es.map Lin.av) x.index.at_.cl,.bool x.index.dyn,.int .i64 x.index.check,.sl x.index.fn.nl (x.index.fn.es.map aJ.av) x.index.fn.cl,.sl x.index.knl (x.index.kids.map aE.av) x.index.kcl,.int .i64 x.check])]:=by rw[aX.avc]
theorem aX.box_av(h:Hp)(k:Nat)(x:aX):eW h k [aX.av x]=eW h k [.agg [.int .i64 x.kind,.int .i64 x.value,.sl x.space.nl (x.space.es.map Lin.av) x.space.cl,.str x.body.op.bs,.int .i64 x.body.num,.int .i64 x.body.value,.str x.body.name.bs,.sl x.body.at_.nl (x.body.at_.es.map Lin.av) x.body.at_.cl,.bool x.body.dyn,.int .i64 x.body.check,.sl x.body.fn.nl (x.body.fn.es.map aJ.av) x.body.fn.cl,.sl x.body.knl (x.body.kids.map aE.av) x.body.kcl,.sl x.fn.nl (x.fn.es.map aJ.av) x.fn.cl,.int .i64 x.source,.str x.index.op.bs,.int .i64 x.index.num,.int .i64 x.index.value,.str x.index.name.bs,.sl x.index.at_.nl (x.index.at_.es.map Lin.av) x.index.at_.cl,.bool x.index.dyn,.int .i64 x.index.check,.sl x.index.fn.nl (x.index.fn.es.map aJ.av) x.index.fn.cl,.sl x.index.knl (x.index.kids.map aE.av) x.index.kcl,.int .i64 x.check]]:=by rw[aX.avc]
attribute [go_sem high] aX.cells_av aX.isAgg_av aX.fits_av aX.tree_av aX.treeL_av
attribute [go_sem ↓ high] aX.fld_av aX.fad_av aX.box_av
theorem aQ.avc(x:aQ):aQ.av x = .agg [.sl x.vars.nl (x.vars.es.map Str.av) x.vars.cl,.sl x.wher.nl (x.wher.es.map Lin.av) x.wher.cl,.int .i64 x.inputs,.sl x.values.nl (x.values.es.map Typ.av) x.values.cl,.sl x.list.nl (x.list.es.map aX.av) x.list.cl,.sl x.results.nl (x.results.es.map bL) x.results.cl]:=rfl
theorem aQ.cells_av(x:aQ):(aQ.av x).cells=[.sl x.vars.nl (x.vars.es.map Str.av) x.vars.cl,.sl x.wher.nl (x.wher.es.map Lin.av) x.wher.cl,.int .i64 x.inputs,.sl x.values.nl (x.values.es.map Typ.av) x.values.cl,.sl x.list.nl (x.list.es.map aX.av) x.list.cl,.sl x.results.nl (x.results.es.map bL) x.results.cl]:=by rw[aQ.avc];rfl
theorem aQ.isAgg_av(x:aQ):(aQ.av x).isAgg=true:=by rw[aQ.avc];rfl
theorem aQ.fits_av(x:aQ):(aQ.av x).fits 6 true=true:=by rw[aQ.avc];rfl
theorem aQ.tree_av(x:aQ):(aQ.av x).tree=true:=by rw[aQ.avc];simp[go_sem]
theorem aQ.treeL_av(l:List aQ):Tev.treeL (l.map aQ.av)=true:=bV aQ.tree_av l
theorem aQ.fld_av(off sz:Nat)(ag:Bool)(x:aQ):eU off sz ag [aQ.av x]=eU off sz ag [.agg [.sl x.vars.nl (x.vars.es.map Str.av) x.vars.cl,.sl x.wher.nl (x.wher.es.map Lin.av) x.wher.cl,.int .i64 x.inputs,.sl x.values.nl (x.values.es.map Typ.av) x.values.cl,.sl x.list.nl (x.list.es.map aX.av) x.list.cl,.sl x.results.nl (x.results.es.map bL) x.results.cl]]:=by rw[aQ.avc]
theorem aQ.fad_av(off sz:Nat)(ag:Bool)(x:aQ):eV off sz ag [.fp (aQ.av x)]=eV off sz ag [.fp (.agg [.sl x.vars.nl (x.vars.es.map Str.av) x.vars.cl,.sl x.wher.nl (x.wher.es.map Lin.av) x.wher.cl,.int .i64 x.inputs,.sl x.values.nl (x.values.es.map Typ.av) x.values.cl,.sl x.list.nl (x.list.es.map aX.av) x.list.cl,.sl x.results.nl (x.results.es.map bL) x.results.cl])]:=by rw[aQ.avc]
theorem aQ.box_av(h:Hp)(k:Nat)(x:aQ):eW h k [aQ.av x]=eW h k [.agg [.sl x.vars.nl (x.vars.es.map Str.av) x.vars.cl,.sl x.wher.nl (x.wher.es.map Lin.av) x.wher.cl,.int .i64 x.inputs,.sl x.values.nl (x.values.es.map Typ.av) x.values.cl,.sl x.list.nl (x.list.es.map aX.av) x.list.cl,.sl x.results.nl (x.results.es.map bL) x.results.cl]]:=by rw[aQ.avc]
attribute [go_sem high] aQ.cells_av aQ.isAgg_av aQ.fits_av aQ.tree_av aQ.treeL_av
attribute [go_sem ↓ high] aQ.fld_av aQ.fad_av aQ.box_av
theorem aIx{α : Type}(d:List α)(x : α)(r:List α):(d++x::r)[d.length]?=some x:=by simp
theorem aSb{α : Type}(d:List α)(x : α)(r:List α):decide ((d.length:Int)<((d++x::r).length:Int))=true:=by simp only[List.length_append,List.length_cons,decide_eq_true_eq];omega
theorem aSc{α : Type}(d:List α):decide ((d.length:Int)<((d++[]).length:Int))=false:=by simp
theorem eB{n:Int}(h1 : -1000000000000000000<=n)(h2:n<=1000000000000000000):wr .i64 n=n:=by simp only[wr];rw[if_pos (by omega)]
theorem aHg{n:Nat}(h:n<=1000000000000000000):wr .i64 (n:Int)=n:=eB (by omega) (by omega)
theorem gJ{α : Type}{d:List α}{x : α}{r:List α}(h:(d++x::r).length<=big):wr .i64 ((d.length:Int)+1)=((d++[x]).length:Int):=by simp only[List.length_append,List.length_cons,List.length_nil,big]at *;rw[eB (by omega) (by omega)];omega
theorem aY{pg:Pg}{kb:Nat}{α : Type}(es:List α)(E:List α -> List α -> List AV->Hp->Prop){b:C}{clr:List Bool}{st:St}{Q:Ex->St->Prop}{t:Tok Q}(h0:E [] es (clear clr st.env) st.hp)
  (hend:∀env hp,E es [] env hp->XX pg kb b ⟨env,hp⟩ (jQ (λ_=>False) Q) ⟨⟩)
  (hstep:∀d x r env hp,es=d++x::r->E d (x::r) env hp->XX pg kb b ⟨env,hp⟩ (jQ (λst'=>E (d++[x]) r (clear clr st'.env) st'.hp) Q) ⟨⟩) :
  XX pg kb (.loop b clr) st Q t:=by
 refine JX (α:={p:List α×List α // es=p.1++p.2}) (λp=>p.1.2.length) (λp=>E p.1.1 p.1.2) ⟨([],es),rfl⟩ h0 ?_;rintro⟨⟨d,r⟩,hes⟩ env hp hE;dsimp only at hes hE ⊢;cases r with
 |nil=>
  rw[List.append_nil]at hes;subst hes;obtain⟨n,ex,st',h1,h2⟩:=hend env hp hE;refine⟨n,ex,st',h1,?_⟩;cases ex with
  |nor=>exact h2.elim
  |ext i=>exact h2
  |ret=>exact h2
 |cons x r=>
  obtain⟨n,ex,st',h1,h2⟩:=hstep d x r env hp hes hE;refine⟨n,ex,st',h1,?_⟩;cases ex with
  |nor=>exact⟨⟨(d++[x],r),by simp[hes]⟩,by simp,h2⟩
  |ext i=>exact h2
  |ret=>exact h2
theorem rB{h:Hp}{v:AV}(hv:v.tree=true):conv h v=some v:=by
 have:snap depth h v=some (v,[]):=by unfold depth snap;rw[if_pos hv]
 cases v<;>first|(simp only[conv,this];rfl)|simp[AV.tree]at hv
theorem O8{α : Type}(x y : α):(some x=some y)=(x=y):=by simp
theorem TE(x y:Bool):(AV.bool x=AV.bool y)=(x=y):=by simp
theorem aIw(k:IntKind)(x y:Int):(AV.int k x=AV.int k y)=(x=y):=by simp
theorem aHl(x y:List UInt8):(AV.str x=AV.str y)=(x=y):=by simp
theorem aIs{α : Type}(l:List α):(0<=(l.length:Int))=True:=by simp
def bZ(pg:Pg)(f:Nat)(ts:List AV)(P:AV->Prop):Prop:=∃r,Ret pg f ts r/\P r
def aIK(res:List (Sum Nat (Nat×Nat×Bool)))(P:AV->Prop)(ex:Ex)(st:St):Prop:=
 match ex with
 |.ext _=>False
 |_=>∃v,result st res=some v/\∃r,conv st.hp v=some r/\P r
theorem MN(res:List (Sum Nat (Nat×Nat×Bool)))(P:AV->Prop)(st:St):aIK res P .nor st=∃v,result st res=some v/\∃r,conv st.hp v=some r/\P r:=rfl
theorem MM(res:List (Sum Nat (Nat×Nat×Bool)))(P:AV->Prop)(st:St):aIK res P .ret st=∃v,result st res=some v/\∃r,conv st.hp v=some r/\P r:=rfl
theorem bZ.ofX{pg:Pg}{f:Nat}{cf:CF}{vs:List AV}{P:AV->Prop}(hf:pg.fs f=some cf)(hw:XX pg 0 cf.body ⟨enter cf vs,[]⟩ (aIK cf.res P) ⟨⟩):bZ pg f vs P:=by
 obtain⟨n,ex,st,h1,h2⟩:=hw;cases ex with
 |ext i=>exact h2.elim
 |nor=>obtain⟨v,h3,r,h4,h5⟩:=h2;exact⟨r,Ret.of hf ⟨n,.nor,st,h1,v,h3,h4⟩,h5⟩
 |ret=>obtain⟨v,h3,r,h4,h5⟩:=h2;exact⟨r,Ret.of hf ⟨n,.ret,st,h1,v,h3,h4⟩,h5⟩
def IsB(v:AV):Prop:=∃b:Bool,v = .bool b
theorem LK(b:Bool):IsB (.bool b)=True:=by simp only[IsB,eq_iff_iff,iff_true];exact⟨b,rfl⟩
theorem bZ.mono{pg:Pg}{f:Nat}{ts:List AV}{P P':AV->Prop}(h:bZ pg f ts P)(hP:∀r,P r->P' r):bZ pg f ts P':=by obtain⟨r,h1,h2⟩:=h;exact⟨r,h1,hP r h2⟩
theorem Ret.P{pg:Pg}{f:Nat}{ts:List AV}{r:AV}{P:AV->Prop}(h:Ret pg f ts r)(hP:P r):bZ pg f ts P:=⟨r,h,hP⟩
theorem iB{pg:Pg}{kb:Nat}{α : Type}(es:List α)(U:List α -> List AV->List AV)(I:List α -> List α -> Hp->Prop){b:C}{clr:List Bool}{st:St}{Q:Ex->St->Prop}{t:Tok Q}
  (h0:clear clr st.env=U [] (clear clr st.env)) (i0:I [] es st.hp)
  (hend:∀hp,I es [] hp->XX pg kb b ⟨U es (clear clr st.env),hp⟩ (jQ (λ_=>False) Q) ⟨⟩)
  (hstep:∀d x r hp,es=d++x::r->I d (x::r) hp->XX pg kb b ⟨U d (clear clr st.env),hp⟩ (jQ (λst'=>clear clr st'.env=U (d++[x]) (clear clr st.env)/\I (d++[x]) r st'.hp) Q) ⟨⟩) :
  XX pg kb (.loop b clr) st Q t:=by
 refine aY es (λd r env hp=>env=U d (clear clr st.env)/\I d r hp) ⟨h0,i0⟩ ?_ ?_;rintro env hp ⟨rfl,h⟩;exact hend hp h;rintro d x r env hp hes ⟨rfl,h⟩;exact hstep d x r hp hes h
attribute [go_sem ↓] MN MM
attribute [go_sem] LK
theorem lE(f:AV->Option (AV×List Nat)):mapS f []=some ([],[]):=rfl
theorem fR(f:AV->Option (AV×List Nat))(x:AV)(r:List AV):mapS f (x::r)=match f x with
  |none=>none
  |some (y,s)=>match mapS f r with
   |none=>none
   |some (l,s')=>some (y::l,s++s'):=rfl
theorem l7(d:Nat)(h:Hp)(v:AV):snap (d+1) h v=(if v.tree then some (v,[]) else
  match v with
  |.agg cs=>(mapS (snap d h) cs).map fun(l,s)=>(.agg l,s)
  |.tup cs=>(mapS (snap d h) cs).map fun(l,s)=>(.tup l,s)
  |.sl nl es cl=>(mapS (snap d h) es).map fun(l,s)=>(.sl nl l cl,s)
  |.ifc v=>(snap d h v).map fun(x,s)=>(.ifc x,s)
  |.ift t v=>(snap d h v).map fun(x,s)=>(.ift t x,s)
  |.fnm t v=>(snap d h v).map fun(x,s)=>(.fnm t x,s)
  |.fn f cs=>(mapS (snap d h) cs).map fun(l,s)=>(.fn f l,s)
  |.rf k e off len cap=>
   match h.get k with
   |some (e',.blk cs esz ag ti _)=>
    if e'=e then
     match j6 esz ag len (cs.drop off) with
     |some es=>(mapS (snap d h) es).map fun(l,s)=>(.sl false l (ti&&len==cap),k::s)
     |none=>none
    else none
   |_=>none
  |.pt k e off=>
   match h.get k with
   |some (e',.blk cs esz ag _ _)=>
    if e'=e/\off=0/\esz=cs.length then
     match mapS (snap d h) cs with
     |some (l,s)=>if ag then some (.fp (.agg l),k::s) else match l with|[v]=>if v.isAgg then none else some (.fp v,k::s)|_=>none
     |none=>none
    else none
   |_=>none
  |_=>none):=by
 rfl
theorem aTj(c:UInt8)(t:List UInt8):rT true false [.str (c::t),.int .i64 1]=val (.str t):=by
 have h1:(1:Int)<=((t.length:Int)+1):=by omega
 simp[rT,gT,h1]
attribute [go_sem ↓] aTj
theorem aZH:(((1:Nat):Int))=1:=rfl
theorem aZG:(((2:Nat):Int))=2:=rfl
theorem aZF:(((3:Nat):Int))=3:=rfl
theorem aZE:(((4:Nat):Int))=4:=rfl
theorem aZD:(((5:Nat):Int))=5:=rfl
theorem aZC:(((6:Nat):Int))=6:=rfl
theorem aZB:(((7:Nat):Int))=7:=rfl
theorem aZA:(((8:Nat):Int))=8:=rfl
theorem aZz:(((9:Nat):Int))=9:=rfl
theorem aSE:(((10:Nat):Int))=10:=rfl
theorem aSD:(((11:Nat):Int))=11:=rfl
theorem aSC:(((12:Nat):Int))=12:=rfl
attribute [go_sem] aZH aZG aZF aZE aZD aZC aZB aZA aZz aSE aSD aSC
attribute [go_sem] Z Y N i0 i1 bN bY sN
attribute [go_sem] aIx aSb aSc rB O8 TE aIw aHl clear aIs u4
end
section
def LV:List Bool:=[true,true,false,false,false,false,false,true,true,false,false,false,false,false,false,false,false,false,false]
def LW(esz:Nat)(ag:Bool):C:=
 (.seq (.reg [⟨(some 9),(.bin .lss),[.t 8,.t 7],none,0,0⟩] false)
 (.seq (.cond (.t 9) .skip
  (.exit 0))
 (.seq (.block 1 (.seq (.reg [⟨(some 10),.mov,[.t 8],none,0,0⟩,
  ⟨(some 5),.mov,[.t 10],none,0,0⟩] false)
 (.seq (.reg [⟨(some 11),.mov,[.t 1],none,0,0⟩,
  ⟨(some 12),.mov,[.t 0],none,0,0⟩,
  ⟨(some 13),.mov,[.t 5],none,0,0⟩,
  ⟨(some 14),(.iad esz ag none),[.t 12,.t 13],none,0,0⟩,
  ⟨(some 15),(.load esz ag),[.t 14],none,0,0⟩,
  ⟨(some 16),(.callv false false),[.t 11,.t 15],none,0,1⟩] false)
 (.cond (.t 16) (.seq (.reg [⟨(some 17),.mov,[.t 5],none,0,0⟩,
   ⟨(some 4),.mov,[.t 17],none,0,0⟩] false)
  .ret)
  .skip))))
 (.reg [⟨(some 18),(.bin .add),[.t 8,.c (.int .i64 1)],none,0,0⟩,
  ⟨(some 8),.mov,[.t 18],none,0,0⟩] false))))
def aSn(esz:Nat)(ag:Bool):CF:=⟨2,19,[.inl 4],
 (.seq (.reg [⟨(some 4),.mov,[.c (.int .i64 0)],none,0,0⟩] false)
 (.seq (.seq (.reg [⟨(some 6),.mov,[.t 0],none,0,0⟩,
  ⟨(some 7),(.len 1),[.t 6],none,0,0⟩,
  ⟨(some 8),.mov,[.c (.int .i64 0)],none,0,0⟩] false)
 (.block 0 (.loop (LW esz ag) LV)))
 (.seq (.reg [⟨(some 4),.mov,[.c (.int .i64 (-1))],none,0,0⟩] false)
 .ret)))⟩
def aSF(n:Nat):CF:=⟨2,9,[.inl 4],
 (.seq (.reg [⟨(some 4),.mov,[.c (.bool false)],none,0,0⟩] false)
 (.seq (.reg [⟨(some 5),.mov,[.t 0],none,0,0⟩,
  ⟨(some 6),.mov,[.t 1],none,0,0⟩,
  ⟨(some 7),(.call n false false),[.t 5,.t 6],none,0,1⟩,
  ⟨(some 8),(.bin .geq),[.t 7,.c (.int .i64 0)],none,0,0⟩,
  ⟨(some 4),.mov,[.t 8],none,0,0⟩] false)
 .ret))⟩
def LT:List Bool:=[true,true,false,false,false,false,false,true,true,false,false,false,false,false,false,false,false,false,false]
def LU(esz:Nat)(ag:Bool)(k:K):C:=
 (.seq (.reg [⟨(some 9),(.bin .lss),[.t 8,.t 7],none,0,0⟩] false)
 (.seq (.cond (.t 9) .skip
  (.exit 0))
 (.seq (.block 1 (.seq (.reg [⟨(some 10),.mov,[.t 8],none,0,0⟩,
  ⟨(some 5),.mov,[.t 10],none,0,0⟩] false)
 (.seq (.reg [⟨(some 11),.mov,[.t 1],none,0,0⟩,
  ⟨(some 12),.mov,[.t 0],none,0,0⟩,
  ⟨(some 13),.mov,[.t 5],none,0,0⟩,
  ⟨(some 14),(.iad esz ag none),[.t 12,.t 13],none,0,0⟩,
  ⟨(some 15),(.load esz ag),[.t 14],none,0,0⟩,
  ⟨(some 16),k,[.t 11,.t 15],none,0,0⟩] false)
 (.cond (.t 16) (.seq (.reg [⟨(some 17),.mov,[.t 5],none,0,0⟩,
   ⟨(some 4),.mov,[.t 17],none,0,0⟩] false)
  .ret)
  .skip))))
 (.reg [⟨(some 18),(.bin .add),[.t 8,.c (.int .i64 1)],none,0,0⟩,
  ⟨(some 8),.mov,[.t 18],none,0,0⟩] false))))
def aSm(esz:Nat)(ag:Bool)(k:K):CF:=⟨2,19,[.inl 4],
 (.seq (.reg [⟨(some 4),.mov,[.c (.int .i64 0)],none,0,0⟩] false)
 (.seq (.seq (.reg [⟨(some 6),.mov,[.t 0],none,0,0⟩,
  ⟨(some 7),(.len 1),[.t 6],none,0,0⟩,
  ⟨(some 8),.mov,[.c (.int .i64 0)],none,0,0⟩] false)
 (.block 0 (.loop (LU esz ag k) LT)))
 (.seq (.reg [⟨(some 4),.mov,[.c (.int .i64 (-1))],none,0,0⟩] false)
 .ret)))⟩
def aIH:List Bool:=[true,true,false,false,false,false,false,false,false,false,false,false,true,true,false,false,false,false,false,false,false,false,false,false,false,false]
def aII(esz:Nat)(ag:Bool)(k:K):C:=
 (.seq (.reg [⟨(some 14),(.bin .lss),[.t 13,.t 12],none,0,0⟩] false)
 (.seq (.cond (.t 14) .skip
  (.exit 0))
 (.seq (.block 1 (.seq (.reg [⟨(some 15),.mov,[.t 13],none,0,0⟩,
  ⟨(some 5),.mov,[.t 15],none,0,0⟩] false)
 (.seq (.reg [⟨(some 16),.mov,[.t 0],none,0,0⟩,
  ⟨(some 17),.mov,[.t 5],none,0,0⟩,
  ⟨(some 18),(.iad esz ag none),[.t 16,.t 17],none,3,0⟩,
  ⟨(some 19),(.load esz ag),[.t 18],none,7,0⟩,
  ⟨(some 20),.mov,[.t 1],none,0,0⟩,
  ⟨(some 21),.mov,[.t 5],none,0,0⟩,
  ⟨(some 22),(.iad esz ag none),[.t 20,.t 21],none,48,0⟩,
  ⟨(some 23),(.load esz ag),[.t 22],none,112,0⟩,
  ⟨(some 24),k,[.t 19,.t 23],none,255,0⟩] true)
 (.cond (.t 24) (.seq (.reg [⟨(some 4),.mov,[.c (.bool false)],none,0,0⟩] false)
  .ret)
  .skip))))
 (.reg [⟨(some 25),(.bin .add),[.t 13,.c (.int .i64 1)],none,0,0⟩,
  ⟨(some 13),.mov,[.t 25],none,0,0⟩] false))))
def eqV(esz:Nat)(ag:Bool)(k:K):CF:=⟨2,26,[.inl 4],
 (.seq (.reg [⟨(some 4),.mov,[.c (.bool false)],none,0,0⟩] false)
 (.seq (.seq (.reg [⟨(some 6),.mov,[.t 0],none,0,0⟩,
  ⟨(some 7),(.len 1),[.t 6],none,0,0⟩,
  ⟨(some 8),.mov,[.t 1],none,0,0⟩,
  ⟨(some 9),(.len 1),[.t 8],none,0,0⟩,
  ⟨(some 10),(.bin .neq),[.t 7,.t 9],none,0,0⟩] false)
 (.cond (.t 10) (.seq (.reg [⟨(some 4),.mov,[.c (.bool false)],none,0,0⟩] false)
  .ret)
  .skip))
 (.seq (.seq (.reg [⟨(some 11),.mov,[.t 0],none,0,0⟩,
  ⟨(some 12),(.len 1),[.t 11],none,0,0⟩,
  ⟨(some 13),.mov,[.c (.int .i64 0)],none,0,0⟩] false)
 (.block 0 (.loop (aII esz ag k) aIH)))
 (.seq (.reg [⟨(some 4),.mov,[.c (.bool true)],none,0,0⟩] false)
 .ret))))⟩
section
variable{pg:Pg}
theorem zV{f:Nat}{esz:Nat}{ag:Bool}(hf:pg.fs f=some (aSn esz ag)){α : Type}(enc : α -> AV)(hfit:∀x,(enc x).fits esz ag=true)(htree:∀x,(enc x).tree=true)
  (nl cl:Bool) (es:List α) (hb:es.length<=big) (g:Nat) (cs:List AV) (hcs:treeL cs=true) (p : α -> Bool) (hp:∀x∈es,Ret pg g (enc x::cs) (.bool (p x))) :
  bZ pg f [.sl nl (es.map enc) cl,.fn g cs] (λr=>∃i:Int,r = .int .i64 i/\decide (0<=i)=es.any p):=by
 refine bZ.ofX hf ?_;unfold aSn;simp only[go_sem,seval];refine iB es (λd e=>dC e (some 8) (.int .i64 d.length)) (λd r hp=>es.any p=r.any p) rfl ?_ ?_ ?_;rfl;intro hp' hI;simp only[LW,LV,go_sem,seval];simp[hI];intro d x r hp' hes hI;subst hes;simp only[LW,LV,hfit,go_sem,seval];refine cS (hp x (by simp)) (by simp only[treeL,htree,hcs,List.cons_append,List.nil_append,Bool.and_true]) rfl ?_;simp only[go_sem,seval];cases hx:p x;simp only[gJ hb,go_sem,seval];simpa[hx] using hI;simp only[go_sem,seval];simp[hx]
theorem sO{f n:Nat}(hf:pg.fs f=some (aSF n)){a b:AV}{q:Bool}(ha:treeL [a,b]=true)(h:bZ pg n [a,b] (λr=>∃i:Int,r = .int .i64 i/\decide (0<=i)=q)) :
  Ret pg f [a,b] (.bool q):=by
 obtain⟨_,h,i,rfl,hi⟩:=h;refine Ret.ofX hf ?_;unfold aSF;simp only[go_sem,seval];refine cS h ha rfl ?_;simp only[go_sem,seval];exact hi
theorem P3{f:Nat}{esz:Nat}{ag:Bool}{k:K}(hf:pg.fs f=some (aSm esz ag k)){α : Type}(enc : α -> AV)(hfit:∀x,(enc x).fits esz ag=true)
  (nl cl:Bool) (es:List α) (hb:es.length<=big) (v:AV) (p : α -> Bool) (hk:∀(kb s:Nat)(h:Hp)(x : α)(Q:AV->Eff->Prop)(t:Tok Q),XO pg kb k s h [v,enc x] Q t=Q (.bool (p x)) (.pat [] [])) :
  bZ pg f [.sl nl (es.map enc) cl,v] (λr=>∃i:Int,r = .int .i64 i/\decide (0<=i)=es.any p):=by
 refine bZ.ofX hf ?_;unfold aSm;simp only[go_sem,seval];refine iB es (λd e=>dC e (some 8) (.int .i64 d.length)) (λd r hp=>es.any p=r.any p) rfl ?_ ?_ ?_;rfl;intro hp' hI;simp only[LU,LT,go_sem,seval];simp[hI];intro d x r hp' hes hI;subst hes;simp only[LU,LT,hfit,hk,go_sem,seval];cases hx:p x;simp only[gJ hb,go_sem,seval];simpa[hx] using hI;simp only[go_sem,seval];simp[hx]
def eqL{α β : Type}(q : α -> β -> Bool):List α -> List β -> Bool
 |[],[]=>true
 |x::r,y::s=>q x y&&eqL q r s
 |_,_=>false
theorem z8{α β : Type}{q : α -> β -> Bool}:∀{a:List α}{b:List β},eqL q a b=true->a.length=b.length
 |[],[],_=>rfl
 |x::r,y::s,h=>by simp only[eqL,aF]at h;simp[z8 h.2]
 |[],_::_,h=>by simp[eqL]at h
 |_::_,[],h=>by simp[eqL]at h
theorem aIG{f:Nat}{esz:Nat}{ag:Bool}{k:K}(hf:pg.fs f=some (eqV esz ag k)){α : Type}(enc : α -> AV)(hfit:∀x,(enc x).fits esz ag=true)
  (nl cl nl' cl':Bool) (es es':List α) (hb:es.length<=big) (q : α -> α -> Bool)
  (hk:∀(kb s:Nat)(h:Hp)(x y : α)(Q:AV->Eff->Prop)(t:Tok Q),XO pg kb k s h [enc x,enc y] Q t=Q (.bool (!q x y)) (.pat [] [])) (hnc:k.isCall=false) :
  Ret pg f [.sl nl (es.map enc) cl,.sl nl' (es'.map enc) cl'] (.bool (eqL q es es')):=by
 refine Ret.ofX hf ?_;unfold eqV;simp only[go_sem,seval];cases hl:decide ((es.length:Int)=es'.length)
 case false=>simp only[hl,go_sem,seval];cases he:eqL q es es';rfl;exact absurd (congrArg Int.ofNat (z8 he)) (by simpa using hl)
 simp only[hl,go_sem,seval];have hl':es.length=es'.length:=by simp at hl;omega
 refine iB es (λd e=>dC e (some 13) (.int .i64 d.length)) (λd r hp=>∃d2 r2,es'=d2++r2/\d2.length=d.length/\eqL q es es'=eqL q r r2) rfl ?_ ?_ ?_;exact⟨[],es',rfl,rfl,rfl⟩;rintro hp ⟨d2,r2,h1,h2,h3⟩;simp only[aII,aIH,go_sem,seval];rw[h3];have:r2=[]:=by have:=congrArg List.length h1;simp at this;exact eY (by omega)
 subst this;rfl;rintro d x r hp hes ⟨d2,r2,h1,h2,h3⟩;have hlen:r2.length=(x::r).length:=by have e1:=congrArg List.length h1;have e2:=congrArg List.length hes;simp at e1 e2 ⊢;omega
 obtain⟨y,r2,rfl⟩:∃y s,r2=y::s:=by
  cases r2 with
  |nil=>simp at hlen
  |cons y s=>exact⟨y,s,rfl⟩
 have hy:es'[d.length]?=some y:=by rw[h1,<-h2];simp
 subst hes;simp only[aII,aIH,hfit,hy,hk,go_sem,seval];refine cC ?_;cases hx:q x y;simp only[go_sem,seval];rw[h3];simp[eqL,hx];simp only[gJ hb,go_sem,seval];exact⟨d2++[y],r2,by simp[h1],by simp[h2],by simpa[eqL,hx] using h3⟩
end
end
end Go.Tev
