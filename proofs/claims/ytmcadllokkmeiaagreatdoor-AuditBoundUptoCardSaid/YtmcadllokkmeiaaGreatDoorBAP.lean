import Derived.Test.YtmcadllokkmeiaaGreatDoorBAO
import Derived.KernelRfl
import Derived.Test.YtmcadllokkmeiaaGreatDoorBAG
set_option linter.all false
namespace Go.Tev
section
structure Tok.{u}{α : Sort u}(a : α):Type where
def XX(pg:Pg)(kb:Nat)(c:C)(st:St)(Q:Ex->St->Prop)(_:Tok Q):Prop:=WX pg kb c st Q
def XR(pg:Pg)(kb:Nat)(rs:List R)(st:St)(Q:St->Prop)(_:Tok Q):Prop:=WR pg kb rs st Q
def XT(pg:Pg)(kb:Nat)(rs:List R)(st:St)(Q:St->List Eff->Prop)(_:Tok Q):Prop:=WT pg kb rs st Q
def XO(pg:Pg)(kb:Nat)(k:K)(s:Nat)(h:Hp)(vs:List AV)(Q:AV->Eff->Prop)(_:Tok Q):Prop:=WO pg kb k s h vs Q
def XG(v:AV)(b:Bool)(A B:Unit->Prop)(_:Tok (A,B)):Prop:=gdQ v b (A ()) (B ())
def XC(v:AV)(A B:Unit->Prop)(_:Tok (A,B)):Prop:=aDb v (A ()) (B ())
def XV(o:Option (AV×Eff))(Q:AV->Eff->Prop)(_:Tok Q):Prop:=TS o Q
variable{pg:Pg}{kb:Nat}
theorem aGW(st:St)(Q:Ex->St->Prop)(t:Tok Q):XX pg kb .skip st Q t=Q .nor st:=aHg st Q
theorem aGY(id:Nat)(st:St)(Q:Ex->St->Prop)(t:Tok Q):XX pg kb (.exit id) st Q t=Q (.ext id) st:=aHi id st Q
theorem aKi(st:St)(Q:Ex->St->Prop)(t:Tok Q):XX pg kb .ret st Q t=Q .ret st:=aKI st Q
theorem aKj(rs:List R)(st:St)(Q:Ex->St->Prop)(t:Tok Q):XX pg kb (.reg rs false) st Q t=XR pg kb rs st (λst'=>Q .nor st') ⟨⟩:=aKJ rs st Q
theorem aGX(rs:List R)(st:St)(Q:Ex->St->Prop)(t:Tok Q):XX pg kb (.reg rs true) st Q t=XT pg kb rs st (λst' es=>i7 0 rs es=true/\Q .nor st') ⟨⟩:=aHh rs st Q
theorem aGZ(c:X)(a b:C)(st:St)(Q:Ex->St->Prop)(t:Tok Q):XX pg kb (.cond c a b) st Q t=XC (c.ev pg.gl st.env) (λ_=>XX pg kb a st Q t) (λ_=>XX pg kb b st Q t) ⟨⟩:=aHj c a b st Q
theorem aKh(a b:C)(st:St)(Q:Ex->St->Prop)(t:Tok Q):XX pg kb (.seq a b) st Q t=XX pg kb a st (oT (λst'=>XX pg kb b st' Q t) Q) ⟨⟩:=aKH a b st Q
theorem aEF(id:Nat)(b:C)(st:St)(Q:Ex->St->Prop)(t:Tok Q):XX pg kb (.block id b) st Q t=XX pg kb b st (qU id Q) ⟨⟩:=aEM id b st Q
theorem pW(b:C)(clr:List Bool)(st:St)(Q:Ex->St->Prop)(t:Tok Q):XX pg kb (.loop b clr) st Q t=XX pg kb b ⟨clear clr st.env,st.hp⟩ (oT (λst'=>XX pg kb (.loop b clr) st' Q t) Q) ⟨⟩:=ZJ b clr st Q
theorem tH{α : Type}(μ : α -> Nat)(E : α -> List AV->Hp->Prop){b:C}{clr:List Bool}{st:St}{Q:Ex->St->Prop}{t:Tok Q}(a : α)(h0:E a (clear clr st.env) st.hp)
  (step:∀a env hp,E a env hp->XX pg kb b ⟨env,hp⟩ (oT (λst'=>∃a',μ a' < μ a/\E a' (clear clr st'.env) st'.hp) Q) ⟨⟩) :
  XX pg kb (.loop b clr) st Q t:=aBg μ E a h0 step
theorem aKl(st:St)(A:St->Prop)(t:Tok A):XR pg kb [] st A t=A st:=aKL st A
theorem aHb(d:Option Nat)(k:K)(xs:List X)(bef s:Nat)(rs:List R)(st:St)(A:St->Prop)(t:Tok A) :
  XR pg kb (⟨d,k,xs,none,bef,s⟩::rs) st A t=XO pg kb k s st.hp (xs.map (X.ev pg.gl st.env)) (λv eff=>XR pg kb rs ⟨fP st.env d v,eff.app st.hp⟩ A t) ⟨⟩:=ZL d k xs bef s rs st A
theorem aEH(d:Option Nat)(k:K)(xs:List X)(g:Nat)(b:Bool)(bef s:Nat)(rs:List R)(st:St)(A:St->Prop)(t:Tok A) :
  XR pg kb (⟨d,k,xs,some (g,b),bef,s⟩::rs) st A t =
   XG (jT st.env g) b (λ_=>XO pg kb k s st.hp (xs.map (X.ev pg.gl st.env)) (λv eff=>XR pg kb rs ⟨fP st.env d v,eff.app st.hp⟩ A t) ⟨⟩) (λ_=>XR pg kb rs ⟨fP st.env d (.tup []),st.hp⟩ A t) ⟨⟩:=
 aEO d k xs g b bef s rs st A
theorem aKk(st:St)(A:St->List Eff->Prop)(t:Tok A):XT pg kb [] st A t=A st []:=aKK st A
theorem aHa(d:Option Nat)(k:K)(xs:List X)(bef s:Nat)(rs:List R)(st:St)(A:St->List Eff->Prop)(t:Tok A) :
  XT pg kb (⟨d,k,xs,none,bef,s⟩::rs) st A t=XO pg kb k s st.hp (xs.map (X.ev pg.gl st.env)) (λv eff=>XT pg kb rs ⟨fP st.env d v,eff.app st.hp⟩ (λst' es=>A st' (eff::es)) ⟨⟩) ⟨⟩:=ZK d k xs bef s rs st A
theorem aEG(d:Option Nat)(k:K)(xs:List X)(g:Nat)(b:Bool)(bef s:Nat)(rs:List R)(st:St)(A:St->List Eff->Prop)(t:Tok A) :
  XT pg kb (⟨d,k,xs,some (g,b),bef,s⟩::rs) st A t =
   XG (jT st.env g) b (λ_=>XO pg kb k s st.hp (xs.map (X.ev pg.gl st.env)) (λv eff=>XT pg kb rs ⟨fP st.env d v,eff.app st.hp⟩ (λst' es=>A st' (eff::es)) ⟨⟩) ⟨⟩)
    (λ_=>XT pg kb rs ⟨fP st.env d (.tup []),st.hp⟩ (λst' es=>A st' (.pat [] []::es)) ⟨⟩) ⟨⟩:=
 aEN d k xs g b bef s rs st A
theorem ZI(A B:Unit->Prop)(t:Tok (A,B)):XC (.bool true) A B t=A ():=rfl
theorem SY(A B:Unit->Prop)(t:Tok (A,B)):XC (.bool false) A B t=B ():=rfl
theorem bD{c:Bool}{A B:Unit->Prop}{t:Tok (A,B)}(h1:c=true->A ())(h2:c=false->B ()):XC (.bool c) A B t:=by cases c;exact h2 rfl;exact h1 rfl
theorem aIw(A B:Unit->Prop)(t:Tok (A,B)):XG (.bool true) true A B t=A ():=rfl
theorem aIA(A B:Unit->Prop)(t:Tok (A,B)):XG (.bool false) false A B t=A ():=rfl
theorem aIx(A B:Unit->Prop)(t:Tok (A,B)):XG (.bool true) false A B t=B ():=rfl
theorem aIz(A B:Unit->Prop)(t:Tok (A,B)):XG (.bool false) true A B t=B ():=rfl
theorem aIy(b:Bool)(A B:Unit->Prop)(t:Tok (A,B)):XG (.tup []) b A B t=B ():=rfl
theorem bB{c b:Bool}{A B:Unit->Prop}{t:Tok (A,B)}(h1:c=true->XG (.bool true) b A B t)(h2:c=false->XG (.bool false) b A B t):XG (.bool c) b A B t:=by cases c;exact h2 rfl;exact h1 rfl
theorem ZG(v:AV)(e:Eff)(Q:AV->Eff->Prop)(t:Tok Q):XV (some (v,e)) Q t=Q v e:=rfl
theorem cR{f s:Nat}{th:Bool}{h:Hp}{vs ts:List AV}{keys:List Nat}{r v:AV}{pa:List Ent}{Q:AV->Eff->Prop}{t:Tok Q}(hr:Ret pg f ts r)
  (hm:eN (snap depth h) vs=some (ts,keys)) (hv:iO h (kb+s) th r=some (v,pa)) (q:Q v (.pat ((kb+s)::keys) ((if r.flat then [] else gJ h keys)++pa))) :
  XO pg kb (.call f th false) s h vs Q t:=(aHk hr hm hv).mpr q
theorem fI(d:Nat)(h:Hp):∀{vs:List AV},treeL vs=true->eN (snap (d+1) h) vs=some (vs,[])
 |[],_=>rfl
 |x::r,q=>by
  simp only[treeL,aF]at q;have e:snap (d+1) h x=some (x,[]):=by unfold snap;rw[if_pos q.1]
  rw[eN,e,fI d h q.2];rfl
def AV.notOs:AV->Bool
 |.os .. => false
 |_=>true
theorem bZ{f s:Nat}{th:Bool}{h:Hp}{vs:List AV}{r:AV}{Q:AV->Eff->Prop}{t:Tok Q}(hr:Ret pg f vs r)
  (hm:treeL vs=true) (hv:r.notOs=true) (q:Q r (.pat [kb+s] [])) :
  XO pg kb (.call f th false) s h vs Q t:=by
 refine cR hr (fI 63 h hm) (v:=r) (pa:=[]) ?_ ?_;cases r<;>first|rfl|simp[AV.notOs]at hv
 have:(if r.flat then ([]:List Ent) else gJ h [])++[]=[]:=by split<;>rfl
 rw[this];exact q
theorem aB{f s:Nat}{th:Bool}{h:Hp}{vs:List AV}{r:AV}{Q:AV->Eff->Prop}{t:Tok Q}(hr:Ret pg f vs r)(q:Q r (.pat [kb+s] []))(hm:treeL vs=true:=by simp only[go_sem,seval])(hv:r.notOs=true:=by rfl):XO pg kb (.call f th false) s h vs Q t:=bZ hr hm hv q
theorem Wk{P Q:Prop}(h:Q)(e:P=Q:=by simp only[go_sem,seval];rfl):P:=e.mpr h
theorem aY{a b:Prop}(h:b)(k:a:=by kernel_rfl):a/\b:=⟨k,h⟩
theorem qV{f s:Nat}{th im:Bool}{h h':Hp}{vs:List AV}{r:AV}{Q:AV->Eff->Prop}{t:Tok Q}(hm:im=true\/eN (snap depth h) vs=none){B:Nat}(hB:jU kb s vs=B)(hr:wX pg f vs B h r h')
   (hq:Q r (.whole h')):XO pg kb (.call f th im) s h vs Q t:=aEP hm hB hr hq
theorem aEJ{f s:Nat}{th im:Bool}{h:Hp}{cs args:List AV}{Q:AV->Eff->Prop}{t:Tok Q} :
  XO pg kb (.callv th im) s h (.fn f cs::args) Q t=XO pg kb (.call f th im) s h (args++cs) Q t:=rfl
theorem Ret.ofX{f:Nat}{cf:CF}{vs:List AV}{r:AV}(hf:pg.fs f=some cf)(hw:XX pg 0 cf.body ⟨enter cf vs,[]⟩ (QS cf.res r) ⟨⟩):Ret pg f vs r:=Ret.of hf hw
def aQc(res:List (Sum Nat (Nat×Nat×Bool)))(r:AV)(h:Hp)(ex:Ex)(st:St):Prop:=(match ex with|.ext _=>False|_=>True)/\result st res=some r/\st.hp=h
theorem wX.ofX{f:Nat}{cf:CF}{vs:List AV}{h:Hp}{r:AV}{h':Hp}(hf:pg.fs f=some cf)(hw:XX pg kb cf.body ⟨enter cf vs,h⟩ (aQc cf.res r h') ⟨⟩):wX pg f vs kb h r h':=wX.of hf hw
theorem aHc(s:Nat)(h:Hp)(c a b:Bool)(Q:AV->Eff->Prop)(t:Tok Q):XO pg kb .pick s h [.bool c,.bool a,.bool b] Q t=Q (.bool (bif c then a else b)) (.pat [] []):=by show WO pg kb .pick s h _ Q=_;rw[gS rfl];cases c<;>rfl
theorem aBd(s:Nat)(h:Hp)(a b:AV)(Q:AV->Eff->Prop)(t:Tok Q):XO pg kb .pick s h [.bool true,a,b] Q t=Q a (.pat [] []):=by show WO pg kb .pick s h _ Q=_;rw[gS rfl];rfl
theorem aBe(s:Nat)(h:Hp)(a b:AV)(Q:AV->Eff->Prop)(t:Tok Q):XO pg kb .pick s h [.bool false,a,b] Q t=Q b (.pat [] []):=by show WO pg kb .pick s h _ Q=_;rw[gS rfl];rfl
theorem aKp(s:Nat)(h:Hp)(vs:List AV)(Q:AV->Eff->Prop)(t:Tok Q):XO pg kb (.mov) s h vs Q t=XV (aCH vs) Q ⟨⟩:=gS rfl s h vs Q
theorem aKD(s:Nat)(h:Hp)(vs:List AV)(Q:AV->Eff->Prop)(t:Tok Q):XO pg kb (.box) s h vs Q t=XV (lS h (kb+s) vs) Q ⟨⟩:=gS rfl s h vs Q
theorem aEL(z:List AV)(ag:Bool)(s:Nat)(h:Hp)(vs:List AV)(Q:AV->Eff->Prop)(t:Tok Q):XO pg kb (.alloc z ag) s h vs Q t=XV (LT h (kb+s) z ag vs) Q ⟨⟩:=gS rfl s h vs Q
theorem aEK(z:List AV)(ps:List (Nat×Nat))(s:Nat)(h:Hp)(vs:List AV)(Q:AV->Eff->Prop)(t:Tok Q):XO pg kb (.build z ps) s h vs Q t=XV (LS z ps vs) Q ⟨⟩:=gS rfl s h vs Q
theorem aHe(e:Nat)(ag own:Bool)(s:Nat)(h:Hp)(vs:List AV)(Q:AV->Eff->Prop)(t:Tok Q):XO pg kb (.mkSl e ag own) s h vs Q t=XV (UQ h (kb+s) e ag own vs) Q ⟨⟩:=gS rfl s h vs Q
theorem aHf(sz:Nat)(ag:Bool)(s:Nat)(h:Hp)(vs:List AV)(Q:AV->Eff->Prop)(t:Tok Q):XO pg kb (.load sz ag) s h vs Q t=XV (UR h sz ag vs) Q ⟨⟩:=gS rfl s h vs Q
theorem aEI(sz:Nat)(ag:Bool)(s:Nat)(h:Hp)(vs:List AV)(Q:AV->Eff->Prop)(t:Tok Q):XO pg kb (.store sz ag) s h vs Q t=XV (LR h sz ag vs) Q ⟨⟩:=gS rfl s h vs Q
theorem aHd(s:Nat)(h:Hp)(vs:List AV)(Q:AV->Eff->Prop)(t:Tok Q):XO pg kb (.nilc) s h vs Q t=XV (UP vs) Q ⟨⟩:=gS rfl s h vs Q
theorem aKE(op:BinOp)(s:Nat)(h:Hp)(vs:List AV)(Q:AV->Eff->Prop)(t:Tok Q):XO pg kb (.bin op) s h vs Q t=XV (Y1 op vs) Q ⟨⟩:=gS rfl s h vs Q
theorem aKF(ng:Bool)(s:Nat)(h:Hp)(vs:List AV)(Q:AV->Eff->Prop)(t:Tok Q):XO pg kb (.beq ng) s h vs Q t=XV (aCQ ng vs) Q ⟨⟩:=gS rfl s h vs Q
theorem aKz(q:Nat)(ng:Bool)(s:Nat)(h:Hp)(vs:List AV)(Q:AV->Eff->Prop)(t:Tok Q):XO pg kb (.eqn q ng) s h vs Q t=XV (aCN q ng vs) Q ⟨⟩:=gS rfl s h vs Q
theorem aKy(ng:Bool)(qs:List Nat)(s:Nat)(h:Hp)(vs:List AV)(Q:AV->Eff->Prop)(t:Tok Q):XO pg kb (.eqs ng qs) s h vs Q t=XV (GI ng qs vs) Q ⟨⟩:=gS rfl s h vs Q
theorem aMA(op:UnOp)(s:Nat)(h:Hp)(vs:List AV)(Q:AV->Eff->Prop)(t:Tok Q):XO pg kb (.un op) s h vs Q t=XV (aJH op vs) Q ⟨⟩:=gS rfl s h vs Q
theorem aKA(i:IntKind)(s:Nat)(h:Hp)(vs:List AV)(Q:AV->Eff->Prop)(t:Tok Q):XO pg kb (.cvi i) s h vs Q t=XV (aCO i vs) Q ⟨⟩:=gS rfl s h vs Q
theorem aKo(s:Nat)(h:Hp)(vs:List AV)(Q:AV->Eff->Prop)(t:Tok Q):XO pg kb (.s2b) s h vs Q t=XV (aCG vs) Q ⟨⟩:=gS rfl s h vs Q
theorem aKG(s:Nat)(h:Hp)(vs:List AV)(Q:AV->Eff->Prop)(t:Tok Q):XO pg kb (.b2s) s h vs Q t=XV (QO h vs) Q ⟨⟩:=gS rfl s h vs Q
theorem aKw(off sz:Nat)(ag:Bool)(s:Nat)(h:Hp)(vs:List AV)(Q:AV->Eff->Prop)(t:Tok Q):XO pg kb (.fad off sz ag) s h vs Q t=XV (lR off sz ag vs) Q ⟨⟩:=gS rfl s h vs Q
theorem aKv(e:Nat)(ag:Bool)(arr:Option Nat)(s:Nat)(h:Hp)(vs:List AV)(Q:AV->Eff->Prop)(t:Tok Q):XO pg kb (.iad e ag arr) s h vs Q t=XV (aCM e ag arr vs) Q ⟨⟩:=gS rfl s h vs Q
theorem aKt(s:Nat)(h:Hp)(vs:List AV)(Q:AV->Eff->Prop)(t:Tok Q):XO pg kb (.ixs) s h vs Q t=XV (aCK vs) Q ⟨⟩:=gS rfl s h vs Q
theorem aKu(len e:Nat)(ag:Bool)(s:Nat)(h:Hp)(vs:List AV)(Q:AV->Eff->Prop)(t:Tok Q):XO pg kb (.ixa len e ag) s h vs Q t=XV (aCL len e ag vs) Q ⟨⟩:=gS rfl s h vs Q
theorem aKn(e:Nat)(lo hi mx:Bool)(s:Nat)(h:Hp)(vs:List AV)(Q:AV->Eff->Prop)(t:Tok Q):XO pg kb (.slc e lo hi mx) s h vs Q t=XV (iZ h e lo hi mx vs) Q ⟨⟩:=gS rfl s h vs Q
theorem aKm(lo hi:Bool)(s:Nat)(h:Hp)(vs:List AV)(Q:AV->Eff->Prop)(t:Tok Q):XO pg kb (.sls lo hi) s h vs Q t=XV (wJ lo hi vs) Q ⟨⟩:=gS rfl s h vs Q
theorem aKq(e:Nat)(ag:Bool)(bytes:Nat)(z:List AV)(s:Nat)(h:Hp)(vs:List AV)(Q:AV->Eff->Prop)(t:Tok Q):XO pg kb (.mks e ag bytes z) s h vs Q t=XV (aCI h (kb+s) e ag bytes z vs) Q ⟨⟩:=gS rfl s h vs Q
theorem aKs(q:Nat)(s:Nat)(h:Hp)(vs:List AV)(Q:AV->Eff->Prop)(t:Tok Q):XO pg kb (.len q) s h vs Q t=XV (QM h q vs) Q ⟨⟩:=gS rfl s h vs Q
theorem aKC(s:Nat)(h:Hp)(vs:List AV)(Q:AV->Eff->Prop)(t:Tok Q):XO pg kb (.cap) s h vs Q t=XV (aCP h vs) Q ⟨⟩:=gS rfl s h vs Q
theorem jW(e:Nat)(ag:Bool)(bytes:Nat)(s:Nat)(h:Hp)(vs:List AV)(Q:AV->Eff->Prop)(t:Tok Q):XO pg kb (.app e ag bytes) s h vs Q t=XV (pJ h (kb+s) e ag bytes vs) Q ⟨⟩:=gS rfl s h vs Q
theorem aKB(e:Nat)(ag:Bool)(s:Nat)(h:Hp)(vs:List AV)(Q:AV->Eff->Prop)(t:Tok Q):XO pg kb (.cpy e ag) s h vs Q t=XV (QN h e ag vs) Q ⟨⟩:=gS rfl s h vs Q
theorem aMC(s:Nat)(h:Hp)(vs:List AV)(Q:AV->Eff->Prop)(t:Tok Q):XO pg kb (.mn) s h vs Q t=XV (aJK vs) Q ⟨⟩:=gS rfl s h vs Q
theorem aMB(s:Nat)(h:Hp)(vs:List AV)(Q:AV->Eff->Prop)(t:Tok Q):XO pg kb (.mx) s h vs Q t=XV (aJJ vs) Q ⟨⟩:=gS rfl s h vs Q
theorem aKx(i:Nat)(s:Nat)(h:Hp)(vs:List AV)(Q:AV->Eff->Prop)(t:Tok Q):XO pg kb (.ext i) s h vs Q t=XV (Y0 i vs) Q ⟨⟩:=gS rfl s h vs Q
theorem aKr(f:Nat)(s:Nat)(h:Hp)(vs:List AV)(Q:AV->Eff->Prop)(t:Tok Q):XO pg kb (.mkf f) s h vs Q t=XV (aCJ f vs) Q ⟨⟩:=gS rfl s h vs Q
theorem aAm(a:AV)(l:List AV):jT (a::l) 0=a:=rfl
theorem aAn(a:AV)(l:List AV)(n:Nat):jT (a::l) (n+1)=jT l n:=by simp[jT]
theorem ZW(l:List AV)(v:AV):fP l none v=l:=rfl
theorem ZU(a:AV)(l:List AV)(v:AV):fP (a::l) (some 0) v=v::l:=rfl
theorem ZV(a:AV)(l:List AV)(v:AV)(n:Nat):fP (a::l) (some (n+1)) v=a::fP l (some n) v:=rfl
theorem Hp.get_cons(k e:Nat)(o:Ob)(r:Hp)(q:Nat):Hp.get (⟨k,e,o⟩::r) q=if k=q then some (e,o) else Hp.get r q:=rfl
theorem aGV(h:Hp)(rd:List Nat):Eff.app h (.pat rd [])=h:=rfl
theorem nI(h:Hp)(rd:List Nat)(k e:Nat)(o:Ob):Eff.app h (.pat rd [⟨k,e,o⟩])=h.put k e o:=rfl
theorem A7(h:Hp)(rd:List Nat)(k e k' e':Nat)(o o':Ob):Eff.app h (.pat rd [⟨k,e,o⟩,⟨k',e',o'⟩])=(h.put k e o).put k' e' o':=rfl
theorem aBc(h h':Hp):Eff.app h (.whole h')=h':=rfl
theorem aBa(v:AV):val v=some (v,.pat [] []):=rfl
theorem aFB(h:Hp)(k:Nat)(o:Ob)(v:Nat->AV):sS h k o v=some (v (h.next k),.pat [k] [⟨k,h.next k,o⟩]):=rfl
theorem aBW(k:Nat):Hp.next [] k=0:=rfl
theorem aBV(h:Hp)(k e:Nat)(o:Ob)(q:Nat):(h.put k e o).next q=if k=q then e+1 else h.next q:=by simp only[Hp.next,aI];by_cases c:k=q<;>simp[c]
theorem YT(k:Nat):Hp.get [] k=none:=rfl
theorem aAj(cs:List AV):AV.isAgg (.agg cs)=true:=rfl
theorem aAT(cs:List AV):AV.cells (.agg cs)=cs:=rfl
theorem IV(cs:List AV)(off sz:Nat):jR cs off sz true=if off+sz<=cs.length then some (.agg ((cs.drop off).take sz)) else none:=rfl
theorem Z4(cs:List AV)(off sz:Nat):jR cs off sz false=cs[off]?:=rfl
theorem XZ{α β : Type}(x : α)(f : α -> Option β):(some x).bind f=f x:=rfl
theorem aAc{α β : Type}(x : α)(f : α -> β):(some x).map f=some (f x):=rfl
theorem aKN(e:List AV)(h:Hp):(St.mk e h).env=e:=rfl
theorem aMD(e:List AV)(h:Hp):(St.mk e h).hp=h:=rfl
theorem aHl(a b:Nat)(c:List (Sum Nat (Nat×Nat×Bool)))(d:C):(CF.mk a b c d).body=d:=rfl
theorem aKS(a b:Nat)(c:List (Sum Nat (Nat×Nat×Bool)))(d:C):(CF.mk a b c d).res=c:=rfl
theorem aMI(a b:Nat)(c:List (Sum Nat (Nat×Nat×Bool)))(d:C):(CF.mk a b c d).nt=b:=rfl
theorem fits_bool(b:Bool)(sz:Nat)(ag:Bool):AV.fits (.bool b) sz ag=(!ag&&sz==1):=rfl
theorem IB(b:Bool):AV.tree (.bool b)=true:=by simp[AV.tree]
theorem fits_int(k:IntKind)(n:Int)(sz:Nat)(ag:Bool):AV.fits (.int k n) sz ag=(!ag&&sz==1):=rfl
theorem OL(k:IntKind)(n:Int):AV.tree (.int k n)=true:=by simp[AV.tree]
theorem fits_str(b:List UInt8)(sz:Nat)(ag:Bool):AV.fits (.str b) sz ag=(!ag&&sz==1):=rfl
theorem aBk(b:List UInt8):AV.tree (.str b)=true:=by simp[AV.tree]
theorem fits_sl(nl:Bool)(es:List AV)(cl:Bool)(sz:Nat)(ag:Bool):AV.fits (.sl nl es cl) sz ag=(!ag&&sz==1):=rfl
theorem qY(nl:Bool)(es:List AV)(cl:Bool):AV.tree (.sl nl es cl)=treeL es:=by simp[AV.tree]
theorem fits_fp(v:AV)(sz:Nat)(ag:Bool):AV.fits (.fp v) sz ag=(!ag&&sz==1):=rfl
theorem KX(v:AV):AV.tree (.fp v)=v.tree:=by simp[AV.tree]
theorem fits_nilp  (sz:Nat) (ag:Bool):AV.fits (.nilp ) sz ag=(!ag&&sz==1):=rfl
theorem fits_nilf  (sz:Nat) (ag:Bool):AV.fits (.nilf ) sz ag=(!ag&&sz==1):=rfl
theorem fits_nili  (sz:Nat) (ag:Bool):AV.fits (.nili ) sz ag=(!ag&&sz==1):=rfl
theorem fits_fn(f:Nat)(cs:List AV)(sz:Nat)(ag:Bool):AV.fits (.fn f cs) sz ag=(!ag&&sz==1):=rfl
theorem wZ(f:Nat)(cs:List AV):AV.tree (.fn f cs)=treeL cs:=by simp[AV.tree]
theorem fits_rf(k e o l c:Nat)(sz:Nat)(ag:Bool):AV.fits (.rf k e o l c) sz ag=(!ag&&sz==1):=rfl
theorem aEW(k e o l c:Nat):AV.tree (.rf k e o l c)=false:=by simp[AV.tree]
theorem fits_pt(k e o:Nat)(sz:Nat)(ag:Bool):AV.fits (.pt k e o) sz ag=(!ag&&sz==1):=rfl
theorem aEX(k e o:Nat):AV.tree (.pt k e o)=false:=by simp[AV.tree]
theorem fits_ifc(v:AV)(sz:Nat)(ag:Bool):AV.fits (.ifc v) sz ag=(!ag&&sz==1):=rfl
theorem fits_agg(cs:List AV)(sz:Nat)(ag:Bool):AV.fits (.agg cs) sz ag=(ag&&cs.length==sz):=rfl
theorem E3(cs:List AV):AV.tree (.agg cs)=treeL cs:=by simp[AV.tree]
theorem aBj(cs:List AV):AV.tree (.tup cs)=treeL cs:=by simp[AV.tree]
theorem aBT(b:Bool):AV.one (.bool b)=true:=rfl
theorem aFz(k:IntKind)(n:Int):AV.one (.int k n)=true:=rfl
theorem aFy(b:List UInt8):AV.one (.str b)=true:=rfl
theorem aJt(nl:Bool)(es:List AV)(cl:Bool):AV.one (.sl nl es cl)=true:=rfl
theorem aJw(v:AV):AV.one (.fp v)=true:=rfl
theorem aBQ  : AV.one (.nilp )=true:=rfl
theorem aBS  : AV.one (.nilf )=true:=rfl
theorem aBR  : AV.one (.nili )=true:=rfl
theorem aJx(f:Nat)(cs:List AV):AV.one (.fn f cs)=true:=rfl
theorem aJu(k e o l c:Nat):AV.one (.rf k e o l c)=true:=rfl
theorem aJv(k e o:Nat):AV.one (.pt k e o)=true:=rfl
theorem aFA(v:AV):AV.one (.ifc v)=true:=rfl
theorem aAs(b:Bool):AV.flat (.bool b)=true:=by simp[AV.flat]
theorem aCE(k:IntKind)(n:Int):AV.flat (.int k n)=true:=by simp[AV.flat]
theorem aCD(b:List UInt8):AV.flat (.str b)=true:=by simp[AV.flat]
attribute [go_sem] aBT aFz aFy aJt aJw aBQ aBS aBR aJx aJu aJv aFA aAs aCE aCD List.append_nil
theorem aCn(nl:Bool)(es:List AV)(cl:Bool):AV.isNil 1 (.sl nl es cl)=some nl:=rfl
theorem aCo(k e o l c:Nat):AV.isNil 1 (.rf k e o l c)=some false:=rfl
theorem UC:AV.isNil 4 .nili=some true:=rfl
theorem aAf(v:AV):AV.isNil 4 (.ifc v)=some false:=rfl
theorem UB:AV.isNil 0 .nilp=some true:=rfl
theorem aCq(v:AV):AV.isNil 0 (.fp v)=some false:=rfl
theorem aCp(k e o:Nat):AV.isNil 0 (.pt k e o)=some false:=rfl
theorem UD:AV.isNil 3 .nilf=some true:=rfl
theorem aCr(f:Nat)(cs:List AV):AV.isNil 3 (.fn f cs)=some false:=rfl
attribute [go_sem ↓] aGW aGY aKi aKj aGX aGZ aKh aEF aKl aHb aEH aKk aHa aEG ZI SY aIw aIA aIx aIz aIy ZG ZO ZP ZN XW XY XU aCU aCT
attribute [go_sem] ZI SY aIw aIA aIx aIz aIy ZG aEJ aHc aBd aBe aKp aKD aEL aEK aHe aHf aEI aHd aKE aKF aKz aKy aMA aKA aKo aKG aKw aKv aKt aKu aKn aKm aKq aKs aKC aKB aMC aMB aKx aKr
theorem XN(b:Bool):AV.cells (.bool b)=[.bool b]:=rfl
theorem UH(b:Bool):AV.isAgg (.bool b)=false:=rfl
theorem aAR(k:IntKind)(n:Int):AV.cells (.int k n)=[.int k n]:=rfl
theorem aAh(k:IntKind)(n:Int):AV.isAgg (.int k n)=false:=rfl
theorem aAQ(b:List UInt8):AV.cells (.str b)=[.str b]:=rfl
theorem aAg(b:List UInt8):AV.isAgg (.str b)=false:=rfl
theorem aEm(nl:Bool)(es:List AV)(cl:Bool):AV.cells (.sl nl es cl)=[.sl nl es cl]:=rfl
theorem aCs(nl:Bool)(es:List AV)(cl:Bool):AV.isAgg (.sl nl es cl)=false:=rfl
theorem aEp(v:AV):AV.cells (.fp v)=[.fp v]:=rfl
theorem aCv(v:AV):AV.isAgg (.fp v)=false:=rfl
theorem XK  : AV.cells (.nilp )=[.nilp ]:=rfl
theorem UE  : AV.isAgg (.nilp )=false:=rfl
theorem XM  : AV.cells (.nilf )=[.nilf ]:=rfl
theorem UG  : AV.isAgg (.nilf )=false:=rfl
theorem XL  : AV.cells (.nili )=[.nili ]:=rfl
theorem UF  : AV.isAgg (.nili )=false:=rfl
theorem aEq(f:Nat)(cs:List AV):AV.cells (.fn f cs)=[.fn f cs]:=rfl
theorem aCw(f:Nat)(cs:List AV):AV.isAgg (.fn f cs)=false:=rfl
theorem aEn(k e o l c:Nat):AV.cells (.rf k e o l c)=[.rf k e o l c]:=rfl
theorem aCt(k e o l c:Nat):AV.isAgg (.rf k e o l c)=false:=rfl
theorem aEo(k e o:Nat):AV.cells (.pt k e o)=[.pt k e o]:=rfl
theorem aCu(k e o:Nat):AV.isAgg (.pt k e o)=false:=rfl
theorem aAS(v:AV):AV.cells (.ifc v)=[.ifc v]:=rfl
theorem aAi(v:AV):AV.isAgg (.ifc v)=false:=rfl
attribute [go_sem] XN UH aAR aAh aAQ aAg aEm aCs aEp aCv XK UE XM UG XL UF aEq aCw aEn aCt aEo aCu aAS aAi List.all_cons List.all_nil
attribute [go_sem] aAm aAn ZW ZU ZV aI aGV nI A7 aBc aBa aFB YT aBW aBV aAj aAT IV Z4 exists_eq_left' XZ aAc X.ev aKN aMD aHl aKS aMI aCH lS LT LS UQ UR LR UP Y1 aCQ aCN GI aJH aCO aCG QO lR aCM aCK aCL iZ wJ aCI QM aCP pJ QN aJK aJJ Y0 aHr aCJ aEA bin aKc aEz sZ fN aCn aCo UC aAf UB aCq aCp UD aCr fits_agg fits_bool fits_int fits_str fits_sl fits_fp fits_nilp fits_fn fits_rf fits_pt fits_nilf fits_nili fits_ifc cX IB OL aBk E3 aBj qY KX wZ aEW aEX eqC enter result tP CV List.map_cons List.map_nil List.length_cons List.length_nil List.replicate_succ List.replicate_zero List.cons_append List.nil_append List.getElem?_cons_zero List.getElem?_cons_succ List.drop_zero List.drop_succ_cons List.take_succ_cons List.take_zero Option.getD_some
end
section
attribute [go_sem] Nat.succ_eq_add_one Bool.and_true Bool.true_and Bool.and_false Bool.false_and Bool.or_true Bool.true_or Bool.or_false Bool.false_or Bool.not_true Bool.not_false Bool.false_eq_true cond_true cond_false Int.natCast_nonneg Int.toNat_natCast List.length_map List.getElem?_map and_self and_true true_and decide_true decide_false ite_true ite_false if_true if_false not_false_eq_true not_true_eq_false Int.lt_irrefl Bool.and_self Bool.or_self Bool.not_eq_true Bool.not_eq_false eq_self Int.toNat_zero Int.le_refl Int.natCast_zero Nat.zero_le Option.isSome_none Option.isSome_some beq_self_eq_true Option.getD_none Option.isNone_none Option.isNone_some ne_eq
def big:Nat:=16777216
structure Str where
 bs:List UInt8
 ok:bs.length<=big
def Str.av(s:Str):AV:=.str s.bs
structure Sl(α : Type) where
 nl:Bool
 es:List α
 cl:Bool
 ok:es.length<=big
def Sl.av{α : Type}(f : α -> AV)(s:Sl α):AV:=.sl s.nl (s.es.map f) s.cl
def aH(n:Int):AV:=.int .i64 n
structure dQ where
 v:Str
 c:Int
def dQ.av(x:dQ):AV:=.agg [.str x.v.bs,.int .i64 x.c]
structure Lin where
 c:Int
 ts:Sl dQ
def Lin.av(x:Lin):AV:=.agg [.int .i64 x.c,x.ts.av dQ.av]
structure cZ where
 row:Str
 aSi:Sl Lin
def cZ.av(x:cZ):AV:=.agg [.str x.row.bs,x.aSi.av Lin.av]
structure Typ where
 aSl:Str
 aSh:cZ
def Typ.av(x:Typ):AV:=.agg [.str x.aSl.bs,.str x.aSh.row.bs,x.aSh.aSi.av Lin.av]
structure aP where
 op:Str
 num:Int
 args:Sl Int
def aP.av(x:aP):AV:=.agg [.str x.op.bs,.int .i64 x.num,x.args.av aH]
structure Val where
 v:Str
 n:Int
def Val.av(x:Val):AV:=.agg [.str x.v.bs,.int .i64 x.n]
inductive aC where
 |mk (op:Str) (num value:Int) (name:Str) (at_:Sl Lin) (dyn:Bool) (check:Int) (fn:Sl aP) (knl:Bool) (aSj:List aC) (kcl:Bool)
namespace aC
def op:aC->Str|mk a _ _ _ _ _ _ _ _ _ _=>a
def num:aC->Int|mk _ a _ _ _ _ _ _ _ _ _=>a
def value:aC->Int|mk _ _ a _ _ _ _ _ _ _ _=>a
def name:aC->Str|mk _ _ _ a _ _ _ _ _ _ _=>a
def at_:aC->Sl Lin|mk _ _ _ _ a _ _ _ _ _ _=>a
def dyn:aC->Bool|mk _ _ _ _ _ a _ _ _ _ _=>a
def check:aC->Int|mk _ _ _ _ _ _ a _ _ _ _=>a
def fn:aC->Sl aP|mk _ _ _ _ _ _ _ a _ _ _=>a
def knl:aC->Bool|mk _ _ _ _ _ _ _ _ a _ _=>a
def aSj:aC->List aC|mk _ _ _ _ _ _ _ _ _ a _=>a
def kcl:aC->Bool|mk _ _ _ _ _ _ _ _ _ _ a=>a
end aC
mutual
def aC.av:aC->AV
 |.mk op num value name at_ dyn check fn knl aSj kcl=>
  .agg [.str op.bs,.int .i64 num,.int .i64 value,.str name.bs,at_.av Lin.av,.bool dyn,.int .i64 check,fn.av aP.av,.sl knl (aC.avs aSj) kcl]
def aC.avs:List aC->List AV
 |[]=>[]
 |p::r=>p.av::aC.avs r
end
theorem aC.avs_eq:∀l:List aC,aC.avs l=l.map aC.av
 |[]=>by simp[aC.avs]
 |p::r=>by simp[aC.avs,aC.avs_eq r]
def aC.kav(p:aC):AV:=.sl p.knl (p.aSj.map aC.av) p.kcl
def aC.cells(p:aC):List AV:=
 [.str p.op.bs,.int .i64 p.num,.int .i64 p.value,.str p.name.bs,p.at_.av Lin.av,.bool p.dyn,.int .i64 p.check,p.fn.av aP.av,p.kav]
theorem aC.av_eq(p:aC):p.av = .agg p.cells:=by cases p;simp[aC.av,aC.cells,aC.kav,aC.avs_eq,op,num,value,name,at_,dyn,check,fn,knl,aSj,kcl]
mutual
def aC.ok:aC->Prop
 |.mk _ _ _ _ _ _ _ _ _ aSj _=>aSj.length<=big/\aC.oks aSj
def aC.oks:List aC->Prop
 |[]=>True
 |p::r=>p.ok/\aC.oks r
end
theorem aC.oks_iff:∀l:List aC,aC.oks l↔∀p∈l,p.ok
 |[]=>by simp[aC.oks]
 |p::r=>by simp[aC.oks,aC.oks_iff r]
theorem aC.ok_iff(p:aC):p.ok↔p.aSj.length<=big/\∀q∈p.aSj,q.ok:=by cases p;simp[aC.ok,aC.oks_iff,aSj]
structure aG where
 kind:Int
 value:Int
 space:Sl Lin
 body:aC
 fn:Sl aP
 source:Int
 index:aC
 check:Int
def aG.cells(x:aG):List AV:=
 [.int .i64 x.kind,.int .i64 x.value,x.space.av Lin.av]++x.body.cells++[x.fn.av aP.av,.int .i64 x.source]++x.index.cells++[.int .i64 x.check]
def aG.av(x:aG):AV:=.agg x.cells
structure aA where
 vars:Sl Str
 aSk:Sl Lin
 aSg:Int
 aSe:Sl Typ
 aSf:Sl aG
 results:Sl Int
def aA.cells(k:aA):List AV:=
 [k.vars.av Str.av,k.aSk.av Lin.av,.int .i64 k.aSg,k.aSe.av Typ.av,k.aSf.av aG.av,k.results.av aH]
def aA.av(k:aA):AV:=.agg k.cells
theorem cH{α : Type}{f : α -> AV}(h:∀x,(f x).tree=true):∀l:List α,treeL (l.map f)=true
 |[]=>rfl
 |x::r=>by simp[treeL,h x,cH h r]
theorem JD(n:Int):(aH n).tree=true:=rfl
theorem Str.tree(s:Str):(Str.av s).tree=true:=rfl
theorem mC(l:List Int):treeL (l.map aH)=true:=cH JD l
theorem Str.treeL(l:List Str):Tev.treeL (l.map Str.av)=true:=cH Str.tree l
theorem uE(n:Int):aH n = .int .i64 n:=rfl
theorem Str.av_eq(s:Str):Str.av s = .str s.bs:=rfl
attribute [go_sem] JD Str.tree mC Str.treeL uE Str.av_eq Tev.treeL Sl.av
theorem dQ.avc(x:dQ):dQ.av x = .agg [.str x.v.bs,.int .i64 x.c]:=rfl
theorem dQ.cells_av(x:dQ):(dQ.av x).cells=[.str x.v.bs,.int .i64 x.c]:=by rw[dQ.avc];rfl
theorem dQ.fits_av(x:dQ):(dQ.av x).fits 2 true=true:=by rw[dQ.avc];rfl
theorem dQ.tree_av(x:dQ):(dQ.av x).tree=true:=by rw[dQ.avc];simp[go_sem]
theorem dQ.treeL_av(l:List dQ):Tev.treeL (l.map dQ.av)=true:=cH dQ.tree_av l
theorem dQ.fad_av(off sz:Nat)(ag:Bool)(x:dQ):lR off sz ag [.fp (dQ.av x)]=lR off sz ag [.fp (.agg [.str x.v.bs,.int .i64 x.c])]:=by rw[dQ.avc]
theorem dQ.box_av(h:Hp)(k:Nat)(x:dQ):lS h k [dQ.av x]=lS h k [.agg [.str x.v.bs,.int .i64 x.c]]:=by rw[dQ.avc]
theorem dQ.eqs_av(ng:Bool)(qs:List Nat)(x y:dQ):GI ng qs [dQ.av x,dQ.av y]=GI ng qs [.agg [.str x.v.bs,.int .i64 x.c],.agg [.str y.v.bs,.int .i64 y.c]]:=by rw[dQ.avc,dQ.avc]
attribute [go_sem ↓ high] dQ.eqs_av
attribute [go_sem high] dQ.cells_av dQ.fits_av dQ.tree_av dQ.treeL_av
attribute [go_sem ↓ high] dQ.fad_av dQ.box_av
theorem Lin.avc(x:Lin):Lin.av x = .agg [.int .i64 x.c,.sl x.ts.nl (x.ts.es.map dQ.av) x.ts.cl]:=rfl
theorem Lin.cells_av(x:Lin):(Lin.av x).cells=[.int .i64 x.c,.sl x.ts.nl (x.ts.es.map dQ.av) x.ts.cl]:=by rw[Lin.avc];rfl
theorem Lin.fits_av(x:Lin):(Lin.av x).fits 2 true=true:=by rw[Lin.avc];rfl
theorem Lin.tree_av(x:Lin):(Lin.av x).tree=true:=by rw[Lin.avc];simp[go_sem]
theorem Lin.treeL_av(l:List Lin):Tev.treeL (l.map Lin.av)=true:=cH Lin.tree_av l
theorem Lin.fad_av(off sz:Nat)(ag:Bool)(x:Lin):lR off sz ag [.fp (Lin.av x)]=lR off sz ag [.fp (.agg [.int .i64 x.c,.sl x.ts.nl (x.ts.es.map dQ.av) x.ts.cl])]:=by rw[Lin.avc]
theorem Lin.box_av(h:Hp)(k:Nat)(x:Lin):lS h k [Lin.av x]=lS h k [.agg [.int .i64 x.c,.sl x.ts.nl (x.ts.es.map dQ.av) x.ts.cl]]:=by rw[Lin.avc]
attribute [go_sem high] Lin.cells_av Lin.fits_av Lin.tree_av Lin.treeL_av
attribute [go_sem ↓ high] Lin.fad_av Lin.box_av
theorem cZ.avc(x:cZ):cZ.av x = .agg [.str x.row.bs,.sl x.aSi.nl (x.aSi.es.map Lin.av) x.aSi.cl]:=rfl
theorem cZ.cells_av(x:cZ):(cZ.av x).cells=[.str x.row.bs,.sl x.aSi.nl (x.aSi.es.map Lin.av) x.aSi.cl]:=by rw[cZ.avc];rfl
theorem cZ.fits_av(x:cZ):(cZ.av x).fits 2 true=true:=by rw[cZ.avc];rfl
theorem cZ.tree_av(x:cZ):(cZ.av x).tree=true:=by rw[cZ.avc];simp[go_sem]
theorem cZ.treeL_av(l:List cZ):Tev.treeL (l.map cZ.av)=true:=cH cZ.tree_av l
theorem cZ.fad_av(off sz:Nat)(ag:Bool)(x:cZ):lR off sz ag [.fp (cZ.av x)]=lR off sz ag [.fp (.agg [.str x.row.bs,.sl x.aSi.nl (x.aSi.es.map Lin.av) x.aSi.cl])]:=by rw[cZ.avc]
theorem cZ.box_av(h:Hp)(k:Nat)(x:cZ):lS h k [cZ.av x]=lS h k [.agg [.str x.row.bs,.sl x.aSi.nl (x.aSi.es.map Lin.av) x.aSi.cl]]:=by rw[cZ.avc]
attribute [go_sem high] cZ.cells_av cZ.fits_av cZ.tree_av cZ.treeL_av
attribute [go_sem ↓ high] cZ.fad_av cZ.box_av
theorem Typ.avc(x:Typ):Typ.av x = .agg [.str x.aSl.bs,.str x.aSh.row.bs,.sl x.aSh.aSi.nl (x.aSh.aSi.es.map Lin.av) x.aSh.aSi.cl]:=rfl
theorem Typ.cells_av(x:Typ):(Typ.av x).cells=[.str x.aSl.bs,.str x.aSh.row.bs,.sl x.aSh.aSi.nl (x.aSh.aSi.es.map Lin.av) x.aSh.aSi.cl]:=by rw[Typ.avc];rfl
theorem Typ.fits_av(x:Typ):(Typ.av x).fits 3 true=true:=by rw[Typ.avc];rfl
theorem Typ.tree_av(x:Typ):(Typ.av x).tree=true:=by rw[Typ.avc];simp[go_sem]
theorem Typ.treeL_av(l:List Typ):Tev.treeL (l.map Typ.av)=true:=cH Typ.tree_av l
theorem Typ.fad_av(off sz:Nat)(ag:Bool)(x:Typ):lR off sz ag [.fp (Typ.av x)]=lR off sz ag [.fp (.agg [.str x.aSl.bs,.str x.aSh.row.bs,.sl x.aSh.aSi.nl (x.aSh.aSi.es.map Lin.av) x.aSh.aSi.cl])]:=by rw[Typ.avc]
theorem Typ.box_av(h:Hp)(k:Nat)(x:Typ):lS h k [Typ.av x]=lS h k [.agg [.str x.aSl.bs,.str x.aSh.row.bs,.sl x.aSh.aSi.nl (x.aSh.aSi.es.map Lin.av) x.aSh.aSi.cl]]:=by rw[Typ.avc]
attribute [go_sem high] Typ.cells_av Typ.fits_av Typ.tree_av Typ.treeL_av
attribute [go_sem ↓ high] Typ.fad_av Typ.box_av
theorem aP.avc(x:aP):aP.av x = .agg [.str x.op.bs,.int .i64 x.num,.sl x.args.nl (x.args.es.map aH) x.args.cl]:=rfl
theorem aP.cells_av(x:aP):(aP.av x).cells=[.str x.op.bs,.int .i64 x.num,.sl x.args.nl (x.args.es.map aH) x.args.cl]:=by rw[aP.avc];rfl
theorem aP.fits_av(x:aP):(aP.av x).fits 3 true=true:=by rw[aP.avc];rfl
theorem aP.tree_av(x:aP):(aP.av x).tree=true:=by rw[aP.avc];simp[go_sem]
theorem aP.treeL_av(l:List aP):Tev.treeL (l.map aP.av)=true:=cH aP.tree_av l
theorem aP.fad_av(off sz:Nat)(ag:Bool)(x:aP):lR off sz ag [.fp (aP.av x)]=lR off sz ag [.fp (.agg [.str x.op.bs,.int .i64 x.num,.sl x.args.nl (x.args.es.map aH) x.args.cl])]:=by rw[aP.avc]
theorem aP.box_av(h:Hp)(k:Nat)(x:aP):lS h k [aP.av x]=lS h k [.agg [.str x.op.bs,.int .i64 x.num,.sl x.args.nl (x.args.es.map aH) x.args.cl]]:=by rw[aP.avc]
attribute [go_sem high] aP.cells_av aP.fits_av aP.tree_av aP.treeL_av
attribute [go_sem ↓ high] aP.fad_av aP.box_av
theorem Val.avc(x:Val):Val.av x = .agg [.str x.v.bs,.int .i64 x.n]:=rfl
theorem Val.cells_av(x:Val):(Val.av x).cells=[.str x.v.bs,.int .i64 x.n]:=by rw[Val.avc];rfl
theorem Val.fits_av(x:Val):(Val.av x).fits 2 true=true:=by rw[Val.avc];rfl
theorem Val.tree_av(x:Val):(Val.av x).tree=true:=by rw[Val.avc];simp[go_sem]
theorem Val.treeL_av(l:List Val):Tev.treeL (l.map Val.av)=true:=cH Val.tree_av l
theorem Val.fad_av(off sz:Nat)(ag:Bool)(x:Val):lR off sz ag [.fp (Val.av x)]=lR off sz ag [.fp (.agg [.str x.v.bs,.int .i64 x.n])]:=by rw[Val.avc]
theorem Val.box_av(h:Hp)(k:Nat)(x:Val):lS h k [Val.av x]=lS h k [.agg [.str x.v.bs,.int .i64 x.n]]:=by rw[Val.avc]
theorem Val.eqs_av(ng:Bool)(qs:List Nat)(x y:Val):GI ng qs [Val.av x,Val.av y]=GI ng qs [.agg [.str x.v.bs,.int .i64 x.n],.agg [.str y.v.bs,.int .i64 y.n]]:=by rw[Val.avc,Val.avc]
attribute [go_sem ↓ high] Val.eqs_av
attribute [go_sem high] Val.cells_av Val.fits_av Val.tree_av Val.treeL_av
attribute [go_sem ↓ high] Val.fad_av Val.box_av
theorem aC.avc(x:aC):aC.av x = .agg [.str x.op.bs,.int .i64 x.num,.int .i64 x.value,.str x.name.bs,.sl x.at_.nl (x.at_.es.map Lin.av) x.at_.cl,.bool x.dyn,.int .i64 x.check,.sl x.fn.nl (x.fn.es.map aP.av) x.fn.cl,.sl x.knl (x.aSj.map aC.av) x.kcl]:=aC.av_eq x
theorem aC.cells_av(x:aC):(aC.av x).cells=[.str x.op.bs,.int .i64 x.num,.int .i64 x.value,.str x.name.bs,.sl x.at_.nl (x.at_.es.map Lin.av) x.at_.cl,.bool x.dyn,.int .i64 x.check,.sl x.fn.nl (x.fn.es.map aP.av) x.fn.cl,.sl x.knl (x.aSj.map aC.av) x.kcl]:=by rw[aC.avc];rfl
theorem aC.fits_av(x:aC):(aC.av x).fits 9 true=true:=by rw[aC.avc];rfl
mutual
theorem aC.tree_av:∀x:aC,(aC.av x).tree=true
 |.mk op num value name at_ dyn check fn knl aSj kcl=>by have:=aC.tree_avs aSj;simp[aC.av,go_sem,cH Lin.tree_av,cH aP.tree_av,this]
theorem aC.tree_avs:∀l:List aC,Tev.treeL (aC.avs l)=true
 |[]=>by simp[aC.avs,Tev.treeL]
 |p::r=>by simp[aC.avs,Tev.treeL,aC.tree_av p,aC.tree_avs r]
end
theorem aC.treeL_av(l:List aC):Tev.treeL (l.map aC.av)=true:=cH aC.tree_av l
theorem aC.fad_av(off sz:Nat)(ag:Bool)(x:aC):lR off sz ag [.fp (aC.av x)]=lR off sz ag [.fp (.agg [.str x.op.bs,.int .i64 x.num,.int .i64 x.value,.str x.name.bs,.sl x.at_.nl (x.at_.es.map Lin.av) x.at_.cl,.bool x.dyn,.int .i64 x.check,.sl x.fn.nl (x.fn.es.map aP.av) x.fn.cl,.sl x.knl (x.aSj.map aC.av) x.kcl])]:=by rw[aC.avc]
theorem aC.box_av(h:Hp)(k:Nat)(x:aC):lS h k [aC.av x]=lS h k [.agg [.str x.op.bs,.int .i64 x.num,.int .i64 x.value,.str x.name.bs,.sl x.at_.nl (x.at_.es.map Lin.av) x.at_.cl,.bool x.dyn,.int .i64 x.check,.sl x.fn.nl (x.fn.es.map aP.av) x.fn.cl,.sl x.knl (x.aSj.map aC.av) x.kcl]]:=by rw[aC.avc]
attribute [go_sem high] aC.cells_av aC.fits_av aC.tree_av aC.treeL_av
attribute [go_sem ↓ high] aC.fad_av aC.box_av
theorem aG.avc(x:aG):aG.av x = .agg [.int .i64 x.kind,.int .i64 x.value,.sl x.space.nl (x.space.es.map Lin.av) x.space.cl,.str x.body.op.bs,.int .i64 x.body.num,.int .i64 x.body.value,.str x.body.name.bs,.sl x.body.at_.nl (x.body.at_.es.map Lin.av) x.body.at_.cl,.bool x.body.dyn,.int .i64 x.body.check,.sl x.body.fn.nl (x.body.fn.es.map aP.av) x.body.fn.cl,.sl x.body.knl (x.body.aSj.map aC.av) x.body.kcl,.sl x.fn.nl (x.fn.es.map aP.av) x.fn.cl,.int .i64 x.source,.str x.index.op.bs,.int .i64 x.index.num,.int .i64 x.index.value,.str x.index.name.bs,.sl x.index.at_.nl (x.index.at_.es.map Lin.av) x.index.at_.cl,.bool x.index.dyn,.int .i64 x.index.check,.sl x.index.fn.nl (x.index.fn.es.map aP.av) x.index.fn.cl,.sl x.index.knl (x.index.aSj.map aC.av) x.index.kcl,.int .i64 x.check]:=rfl
theorem aG.cells_av(x:aG):(aG.av x).cells=[.int .i64 x.kind,.int .i64 x.value,.sl x.space.nl (x.space.es.map Lin.av) x.space.cl,.str x.body.op.bs,.int .i64 x.body.num,.int .i64 x.body.value,.str x.body.name.bs,.sl x.body.at_.nl (x.body.at_.es.map Lin.av) x.body.at_.cl,.bool x.body.dyn,.int .i64 x.body.check,.sl x.body.fn.nl (x.body.fn.es.map aP.av) x.body.fn.cl,.sl x.body.knl (x.body.aSj.map aC.av) x.body.kcl,.sl x.fn.nl (x.fn.es.map aP.av) x.fn.cl,.int .i64 x.source,.str x.index.op.bs,.int .i64 x.index.num,.int .i64 x.index.value,.str x.index.name.bs,.sl x.index.at_.nl (x.index.at_.es.map Lin.av) x.index.at_.cl,.bool x.index.dyn,.int .i64 x.index.check,.sl x.index.fn.nl (x.index.fn.es.map aP.av) x.index.fn.cl,.sl x.index.knl (x.index.aSj.map aC.av) x.index.kcl,.int .i64 x.check]:=by rw[aG.avc];rfl
theorem aG.fits_av(x:aG):(aG.av x).fits 24 true=true:=by rw[aG.avc];rfl
theorem aG.tree_av(x:aG):(aG.av x).tree=true:=by rw[aG.avc];simp[go_sem]
theorem aG.treeL_av(l:List aG):Tev.treeL (l.map aG.av)=true:=cH aG.tree_av l
theorem aG.fad_av(off sz:Nat)(ag:Bool)(x:aG):lR off sz ag [.fp (aG.av x)]=lR off sz ag [.fp (.agg [.int .i64 x.kind,.int .i64 x.value,.sl x.space.nl (x.space.es.map Lin.av) x.space.cl,.str x.body.op.bs,.int .i64 x.body.num,.int .i64 x.body.value,.str x.body.name.bs,.sl x.body.at_.nl (x.body.at_.es.map Lin.av) x.body.at_.cl,.bool x.body.dyn,.int .i64 x.body.check,.sl x.body.fn.nl (x.body.fn.es.map aP.av) x.body.fn.cl,.sl x.body.knl (x.body.aSj.map aC.av) x.body.kcl,.sl x.fn.nl (x.fn.es.map aP.av) x.fn.cl,.int .i64 x.source,.str x.index.op.bs,.int .i64 x.index.num,.int .i64 x.index.value,.str x.index.name.bs,.sl x.index.at_.nl (x.index.at_.es.map Lin.av) x.index.at_.cl,.bool x.index.dyn,.int .i64 x.index.check,.sl x.index.fn.nl (x.index.fn.es.map aP.av) x.index.fn.cl,.sl x.index.knl (x.index.aSj.map aC.av) x.index.kcl,.int .i64 x.check])]:=by rw[aG.avc]
theorem aG.box_av(h:Hp)(k:Nat)(x:aG):lS h k [aG.av x]=lS h k [.agg [.int .i64 x.kind,.int .i64 x.value,.sl x.space.nl (x.space.es.map Lin.av) x.space.cl,.str x.body.op.bs,.int .i64 x.body.num,.int .i64 x.body.value,.str x.body.name.bs,.sl x.body.at_.nl (x.body.at_.es.map Lin.av) x.body.at_.cl,.bool x.body.dyn,.int .i64 x.body.check,.sl x.body.fn.nl (x.body.fn.es.map aP.av) x.body.fn.cl,.sl x.body.knl (x.body.aSj.map aC.av) x.body.kcl,.sl x.fn.nl (x.fn.es.map aP.av) x.fn.cl,.int .i64 x.source,.str x.index.op.bs,.int .i64 x.index.num,.int .i64 x.index.value,.str x.index.name.bs,.sl x.index.at_.nl (x.index.at_.es.map Lin.av) x.index.at_.cl,.bool x.index.dyn,.int .i64 x.index.check,.sl x.index.fn.nl (x.index.fn.es.map aP.av) x.index.fn.cl,.sl x.index.knl (x.index.aSj.map aC.av) x.index.kcl,.int .i64 x.check]]:=by rw[aG.avc]
attribute [go_sem high] aG.cells_av aG.fits_av aG.tree_av aG.treeL_av
attribute [go_sem ↓ high] aG.fad_av aG.box_av
theorem aA.avc(x:aA):aA.av x = .agg [.sl x.vars.nl (x.vars.es.map Str.av) x.vars.cl,.sl x.aSk.nl (x.aSk.es.map Lin.av) x.aSk.cl,.int .i64 x.aSg,.sl x.aSe.nl (x.aSe.es.map Typ.av) x.aSe.cl,.sl x.aSf.nl (x.aSf.es.map aG.av) x.aSf.cl,.sl x.results.nl (x.results.es.map aH) x.results.cl]:=rfl
theorem aA.cells_av(x:aA):(aA.av x).cells=[.sl x.vars.nl (x.vars.es.map Str.av) x.vars.cl,.sl x.aSk.nl (x.aSk.es.map Lin.av) x.aSk.cl,.int .i64 x.aSg,.sl x.aSe.nl (x.aSe.es.map Typ.av) x.aSe.cl,.sl x.aSf.nl (x.aSf.es.map aG.av) x.aSf.cl,.sl x.results.nl (x.results.es.map aH) x.results.cl]:=by rw[aA.avc];rfl
theorem aA.fits_av(x:aA):(aA.av x).fits 6 true=true:=by rw[aA.avc];rfl
theorem aA.tree_av(x:aA):(aA.av x).tree=true:=by rw[aA.avc];simp[go_sem]
theorem aA.treeL_av(l:List aA):Tev.treeL (l.map aA.av)=true:=cH aA.tree_av l
theorem aA.fad_av(off sz:Nat)(ag:Bool)(x:aA):lR off sz ag [.fp (aA.av x)]=lR off sz ag [.fp (.agg [.sl x.vars.nl (x.vars.es.map Str.av) x.vars.cl,.sl x.aSk.nl (x.aSk.es.map Lin.av) x.aSk.cl,.int .i64 x.aSg,.sl x.aSe.nl (x.aSe.es.map Typ.av) x.aSe.cl,.sl x.aSf.nl (x.aSf.es.map aG.av) x.aSf.cl,.sl x.results.nl (x.results.es.map aH) x.results.cl])]:=by rw[aA.avc]
theorem aA.box_av(h:Hp)(k:Nat)(x:aA):lS h k [aA.av x]=lS h k [.agg [.sl x.vars.nl (x.vars.es.map Str.av) x.vars.cl,.sl x.aSk.nl (x.aSk.es.map Lin.av) x.aSk.cl,.int .i64 x.aSg,.sl x.aSe.nl (x.aSe.es.map Typ.av) x.aSe.cl,.sl x.aSf.nl (x.aSf.es.map aG.av) x.aSf.cl,.sl x.results.nl (x.results.es.map aH) x.results.cl]]:=by rw[aA.avc]
attribute [go_sem high] aA.cells_av aA.fits_av aA.tree_av aA.treeL_av
attribute [go_sem ↓ high] aA.fad_av aA.box_av
theorem aJE{α : Type}(d:List α)(x : α)(r:List α):(d++x::r)[d.length]?=some x:=by simp
theorem aHq{α : Type}(d:List α)(x : α)(r:List α):decide ((d.length:Int)<((d++x::r).length:Int))=true:=by simp only[List.length_append,List.length_cons,decide_eq_true_eq];omega
theorem aU{n:Int}(h1 : -1000000000000000000<=n)(h2:n<=1000000000000000000):wr .i64 n=n:=by simp only[wr];rw[if_pos (by omega)]
theorem aID{n:Nat}(h:n<=1000000000000000000):wr .i64 (n:Int)=n:=aU (by omega) (by omega)
theorem aZ{α : Type}{d:List α}{x : α}{r:List α}(h:(d++x::r).length<=big):wr .i64 ((d.length:Int)+1)=((d++[x]).length:Int):=by simp only[List.length_append,List.length_cons,List.length_nil,big]at *;rw[aU (by omega) (by omega)];omega
theorem aJ{pg:Pg}{kb:Nat}{α : Type}(es:List α)(E:List α -> List α -> List AV->Hp->Prop){b:C}{clr:List Bool}{st:St}{Q:Ex->St->Prop}{t:Tok Q}(h0:E [] es (clear clr st.env) st.hp)
  (hend:∀env hp,E es [] env hp->XX pg kb b ⟨env,hp⟩ (oT (λ_=>False) Q) ⟨⟩)
  (hstep:∀d x r env hp,es=d++x::r->E d (x::r) env hp->XX pg kb b ⟨env,hp⟩ (oT (λst'=>E (d++[x]) r (clear clr st'.env) st'.hp) Q) ⟨⟩) :
  XX pg kb (.loop b clr) st Q t:=by
 refine tH (α:={p:List α×List α // es=p.1++p.2}) (λp=>p.1.2.length) (λp=>E p.1.1 p.1.2) ⟨([],es),rfl⟩ h0 ?_;rintro⟨⟨d,r⟩,hes⟩ env hp hE;dsimp only at hes hE ⊢;cases r with
 |nil=>
  rw[List.append_nil]at hes;subst hes;obtain⟨n,ex,st',h1,h2⟩:=hend env hp hE;refine⟨n,ex,st',h1,?_⟩;cases ex with
  |nor=>exact h2.elim
  |ext i=>exact h2
  |ret=>exact h2
 |cons x r=>
  obtain⟨n,ex,st',h1,h2⟩:=hstep d x r env hp hes hE;refine⟨n,ex,st',h1,?_⟩;cases ex with
  |nor=>exact⟨⟨(d++[x],r),by simp[hes]⟩,by simp,h2⟩
  |ext i=>exact h2
  |ret=>exact h2
theorem B8{h:Hp}{v:AV}(hv:v.tree=true):conv h v=some v:=by
 have:snap depth h v=some (v,[]):=by unfold depth snap;rw[if_pos hv]
 cases v<;>first|(simp only[conv,this];rfl)|simp[AV.tree]at hv
theorem aFa{α : Type}(x y : α):(some x=some y)=(x=y):=by simp
theorem aGS(x y:Bool):(AV.bool x=AV.bool y)=(x=y):=by simp
theorem aJD(k:IntKind)(x y:Int):(AV.int k x=AV.int k y)=(x=y):=by simp
theorem aIF(x y:List UInt8):(AV.str x=AV.str y)=(x=y):=by simp
def bQ(pg:Pg)(f:Nat)(ts:List AV)(P:AV->Prop):Prop:=∃r,Ret pg f ts r/\P r
def aCX(res:List (Sum Nat (Nat×Nat×Bool)))(P:AV->Prop)(ex:Ex)(st:St):Prop:=
 match ex with
 |.ext _=>False
 |_=>∃v,result st res=some v/\∃r,conv st.hp v=some r/\P r
theorem aCW(res:List (Sum Nat (Nat×Nat×Bool)))(P:AV->Prop)(st:St):aCX res P .nor st=∃v,result st res=some v/\∃r,conv st.hp v=some r/\P r:=rfl
theorem aCV(res:List (Sum Nat (Nat×Nat×Bool)))(P:AV->Prop)(st:St):aCX res P .ret st=∃v,result st res=some v/\∃r,conv st.hp v=some r/\P r:=rfl
theorem bQ.ofX{pg:Pg}{f:Nat}{cf:CF}{vs:List AV}{P:AV->Prop}(hf:pg.fs f=some cf)(hw:XX pg 0 cf.body ⟨enter cf vs,[]⟩ (aCX cf.res P) ⟨⟩):bQ pg f vs P:=by
 obtain⟨n,ex,st,h1,h2⟩:=hw;cases ex with
 |ext i=>exact h2.elim
 |nor=>obtain⟨v,h3,r,h4,h5⟩:=h2;exact⟨r,Ret.of hf ⟨n,.nor,st,h1,v,h3,h4⟩,h5⟩
 |ret=>obtain⟨v,h3,r,h4,h5⟩:=h2;exact⟨r,Ret.of hf ⟨n,.ret,st,h1,v,h3,h4⟩,h5⟩
theorem bQ.mono{pg:Pg}{f:Nat}{ts:List AV}{P P':AV->Prop}(h:bQ pg f ts P)(hP:∀r,P r->P' r):bQ pg f ts P':=by obtain⟨r,h1,h2⟩:=h;exact⟨r,h1,hP r h2⟩
theorem Ret.P{pg:Pg}{f:Nat}{ts:List AV}{r:AV}{P:AV->Prop}(h:Ret pg f ts r)(hP:P r):bQ pg f ts P:=⟨r,h,hP⟩
theorem fJ{pg:Pg}{kb:Nat}{α : Type}(es:List α)(U:List α -> List AV->List AV)(I:List α -> List α -> Hp->Prop){b:C}{clr:List Bool}{st:St}{Q:Ex->St->Prop}{t:Tok Q}
  (h0:clear clr st.env=U [] (clear clr st.env)) (i0:I [] es st.hp)
  (hend:∀hp,I es [] hp->XX pg kb b ⟨U es (clear clr st.env),hp⟩ (oT (λ_=>False) Q) ⟨⟩)
  (hstep:∀d x r hp,es=d++x::r->I d (x::r) hp->XX pg kb b ⟨U d (clear clr st.env),hp⟩ (oT (λst'=>clear clr st'.env=U (d++[x]) (clear clr st.env)/\I (d++[x]) r st'.hp) Q) ⟨⟩) :
  XX pg kb (.loop b clr) st Q t:=by
 refine aJ es (λd r env hp=>env=U d (clear clr st.env)/\I d r hp) ⟨h0,i0⟩ ?_ ?_;rintro env hp ⟨rfl,h⟩;exact hend hp h;rintro d x r env hp hes ⟨rfl,h⟩;exact hstep d x r hp hes h
attribute [go_sem ↓] aCW aCV
theorem cW(f:AV->Option (AV×List Nat)):eN f []=some ([],[]):=rfl
theorem bM(f:AV->Option (AV×List Nat))(x:AV)(r:List AV):eN f (x::r)=match f x with
  |none=>none
  |some (y,s)=>match eN f r with
   |none=>none
   |some (l,s')=>some (y::l,s++s'):=rfl
theorem fE(d:Nat)(h:Hp)(v:AV):snap (d+1) h v=(if v.tree then some (v,[]) else
  match v with
  |.agg cs=>(eN (snap d h) cs).map fun(l,s)=>(.agg l,s)
  |.tup cs=>(eN (snap d h) cs).map fun(l,s)=>(.tup l,s)
  |.sl nl es cl=>(eN (snap d h) es).map fun(l,s)=>(.sl nl l cl,s)
  |.ifc v=>(snap d h v).map fun(x,s)=>(.ifc x,s)
  |.fn f cs=>(eN (snap d h) cs).map fun(l,s)=>(.fn f l,s)
  |.rf k e off len cap=>
   match h.get k with
   |some (e',.blk cs esz ag ti _)=>
    if e'=e then
     match pK esz ag len (cs.drop off) with
     |some es=>(eN (snap d h) es).map fun(l,s)=>(.sl false l (ti&&len==cap),k::s)
     |none=>none
    else none
   |_=>none
  |.pt k e off=>
   match h.get k with
   |some (e',.blk cs esz ag _ _)=>
    if e'=e/\off=0/\esz=cs.length then
     match eN (snap d h) cs with
     |some (l,s)=>if ag then some (.fp (.agg l),k::s) else match l with|[v]=>if v.isAgg then none else some (.fp v,k::s)|_=>none
     |none=>none
    else none
   |_=>none
  |_=>none):=by
 rfl
theorem aMK(c:UInt8)(t:List UInt8):wJ true false [.str (c::t),.int .i64 1]=val (.str t):=by
 have h1:(1:Int)<=((t.length:Int)+1):=by omega
 simp[wJ,kX,h1]
attribute [go_sem ↓] aMK
theorem CH{pg pg':Pg}(h:∀f cf,pg.fs f=some cf->pg'.fs f=some cf)(hg:pg.gl=pg'.gl)(hx:∀f,pg.ex f=none):∀n,nL (cM pg n) (cM pg' n)
 |0=>⟨by intro f a kb hp r hq;simp[cM]at hq,by intro k e a hp r hq;simp[cM]at hq⟩
 |n+1=>by
  refine⟨?_,λk e a hp r hq=>by
   simp only[cM]at hq ⊢;exact vO (λc b st r hr=>by rw[<-hg];exact tA (CH h hg hx n) (Nat.le_refl _) hr) hq⟩
  intro f a kb hp r hq;simp only[cM]at hq ⊢;cases hf:pg.fs f with
  |none=>simp[hf,hx]at hq
  |some cf=>
   rw[hf]at hq;rw[h f cf hf];simp only at hq ⊢;cases he:d6 pg.gl (cM pg n) kb n cf.body ⟨enter cf a,hp⟩ with
   |none=>simp[he]at hq
   |some p=>rw[he]at hq;rw[<-hg,tA (CH h hg hx n) (Nat.le_refl _) he];exact hq
theorem Ret.closed{pg:Pg}(t:BT CF)(ht:∀f cf,t.find f=some cf->pg.fs f=some cf)(n:Nat){f:Nat}{ts:List AV}{r:AV}(h:dS (cM ⟨λf=>t.find f,pg.gl,λ_=>none⟩ n) f ts=some r):Ret pg f ts r:=
 ⟨n,jG (CH (pg:=⟨λf=>t.find f,pg.gl,λ_=>none⟩) ht rfl (λ_=>rfl) n) h⟩
theorem aQl:(((1:Nat):Int))=1:=rfl
theorem aQk:(((2:Nat):Int))=2:=rfl
theorem aQj:(((3:Nat):Int))=3:=rfl
theorem aQi:(((4:Nat):Int))=4:=rfl
theorem aQh:(((5:Nat):Int))=5:=rfl
theorem aQg:(((6:Nat):Int))=6:=rfl
theorem aQf:(((7:Nat):Int))=7:=rfl
theorem aQe:(((8:Nat):Int))=8:=rfl
theorem aQd:(((9:Nat):Int))=9:=rfl
theorem aLW:(((10:Nat):Int))=10:=rfl
theorem aLV:(((11:Nat):Int))=11:=rfl
theorem aLU:(((12:Nat):Int))=12:=rfl
attribute [go_sem] aQl aQk aQj aQi aQh aQg aQf aQe aQd aLW aLV aLU
attribute [go_sem] Z Y N i0 i1 bN bY sN
attribute [go_sem] aJE aHq B8 aFa aGS aJD aIF clear GN
end
section
def QC:List Bool:=[true,true,false,false,false,false,false,true,true,false,false,false,false,false,false,false,false,false,false]
def QD(esz:Nat)(ag:Bool):C:=
 (.seq (.reg [⟨(some 9),(.bin .lss),[.t 8,.t 7],none,0,0⟩] false)
 (.seq (.cond (.t 9) .skip
  (.exit 0))
 (.seq (.block 1 (.seq (.reg [⟨(some 10),.mov,[.t 8],none,0,0⟩,
  ⟨(some 5),.mov,[.t 10],none,0,0⟩] false)
 (.seq (.reg [⟨(some 11),.mov,[.t 1],none,0,0⟩,
  ⟨(some 12),.mov,[.t 0],none,0,0⟩,
  ⟨(some 13),.mov,[.t 5],none,0,0⟩,
  ⟨(some 14),(.iad esz ag none),[.t 12,.t 13],none,0,0⟩,
  ⟨(some 15),(.load esz ag),[.t 14],none,0,0⟩,
  ⟨(some 16),(.callv false false),[.t 11,.t 15],none,0,1⟩] false)
 (.cond (.t 16) (.seq (.reg [⟨(some 17),.mov,[.t 5],none,0,0⟩,
   ⟨(some 4),.mov,[.t 17],none,0,0⟩] false)
  .ret)
  .skip))))
 (.reg [⟨(some 18),(.bin .add),[.t 8,.c (.int .i64 1)],none,0,0⟩,
  ⟨(some 8),.mov,[.t 18],none,0,0⟩] false))))
def aFH(esz:Nat)(ag:Bool):CF:=⟨2,19,[.inl 4],
 (.seq (.reg [⟨(some 4),.mov,[.c (.int .i64 0)],none,0,0⟩] false)
 (.seq (.seq (.reg [⟨(some 6),.mov,[.t 0],none,0,0⟩,
  ⟨(some 7),(.len 1),[.t 6],none,0,0⟩,
  ⟨(some 8),.mov,[.c (.int .i64 0)],none,0,0⟩] false)
 (.block 0 (.loop (QD esz ag) QC)))
 (.seq (.reg [⟨(some 4),.mov,[.c (.int .i64 (-1))],none,0,0⟩] false)
 .ret)))⟩
def aLX(n:Nat):CF:=⟨2,9,[.inl 4],
 (.seq (.reg [⟨(some 4),.mov,[.c (.bool false)],none,0,0⟩] false)
 (.seq (.reg [⟨(some 5),.mov,[.t 0],none,0,0⟩,
  ⟨(some 6),.mov,[.t 1],none,0,0⟩,
  ⟨(some 7),(.call n false false),[.t 5,.t 6],none,0,1⟩,
  ⟨(some 8),(.bin .geq),[.t 7,.c (.int .i64 0)],none,0,0⟩,
  ⟨(some 4),.mov,[.t 8],none,0,0⟩] false)
 .ret))⟩
def aCx:List Bool:=[true,true,false,false,false,false,false,true,true,false,false,false,false,false,false,false,false,false,false]
def aCy(esz:Nat)(ag:Bool)(k:K):C:=
 (.seq (.reg [⟨(some 9),(.bin .lss),[.t 8,.t 7],none,0,0⟩] false)
 (.seq (.cond (.t 9) .skip
  (.exit 0))
 (.seq (.block 1 (.seq (.reg [⟨(some 10),.mov,[.t 8],none,0,0⟩,
  ⟨(some 5),.mov,[.t 10],none,0,0⟩] false)
 (.seq (.reg [⟨(some 11),.mov,[.t 1],none,0,0⟩,
  ⟨(some 12),.mov,[.t 0],none,0,0⟩,
  ⟨(some 13),.mov,[.t 5],none,0,0⟩,
  ⟨(some 14),(.iad esz ag none),[.t 12,.t 13],none,0,0⟩,
  ⟨(some 15),(.load esz ag),[.t 14],none,0,0⟩,
  ⟨(some 16),k,[.t 11,.t 15],none,0,0⟩] false)
 (.cond (.t 16) (.seq (.reg [⟨(some 17),.mov,[.t 5],none,0,0⟩,
   ⟨(some 4),.mov,[.t 17],none,0,0⟩] false)
  .ret)
  .skip))))
 (.reg [⟨(some 18),(.bin .add),[.t 8,.c (.int .i64 1)],none,0,0⟩,
  ⟨(some 8),.mov,[.t 18],none,0,0⟩] false))))
def aLJ(esz:Nat)(ag:Bool)(k:K):CF:=⟨2,19,[.inl 4],
 (.seq (.reg [⟨(some 4),.mov,[.c (.int .i64 0)],none,0,0⟩] false)
 (.seq (.seq (.reg [⟨(some 6),.mov,[.t 0],none,0,0⟩,
  ⟨(some 7),(.len 1),[.t 6],none,0,0⟩,
  ⟨(some 8),.mov,[.c (.int .i64 0)],none,0,0⟩] false)
 (.block 0 (.loop (aCy esz ag k) aCx)))
 (.seq (.reg [⟨(some 4),.mov,[.c (.int .i64 (-1))],none,0,0⟩] false)
 .ret)))⟩
def aJO:List Bool:=[false,true,true,false,false,false,false,false,false,false,false,false,false,false,false,true,true,true,false,false,false,false,false,false,false,false,false,false,false,false,false,false]
def aJP(esz:Nat)(ag:Bool)(z:List AV):C:=
 (.seq (.reg [⟨(some 18),(.bin .lss),[.t 17,.t 16],none,0,0⟩] false)
 (.seq (.cond (.t 18) .skip
  (.exit 0))
 (.seq (.block 1 (.seq (.reg [⟨(some 19),.mov,[.t 17],none,0,0⟩,
  ⟨(some 20),(.iad esz ag none),[.t 15,.t 17],none,0,0⟩,
  ⟨(some 21),(.load esz ag),[.t 20],none,0,0⟩,
  ⟨(some 8),(.alloc z ag),[],none,0,1⟩,
  ⟨(some 7),.mov,[.t 19],none,0,0⟩,
  ⟨none,(.store esz ag),[.t 8,.t 21],none,0,0⟩] false)
 (.seq (.reg [⟨(some 22),.mov,[.t 1],none,0,0⟩,
  ⟨(some 23),.mov,[.t 7],none,0,0⟩,
  ⟨(some 24),(.iad esz ag none),[.t 22,.t 23],none,0,0⟩,
  ⟨(some 25),(.load esz ag),[.t 24],none,0,0⟩,
  ⟨(some 9),(.alloc z ag),[],none,0,5⟩,
  ⟨none,(.store esz ag),[.t 9,.t 25],none,0,0⟩] false)
 (.seq (.reg [⟨(some 26),.mov,[.t 2],none,0,0⟩,
  ⟨(some 27),(.load esz ag),[.t 8],none,0,0⟩,
  ⟨(some 28),(.load esz ag),[.t 9],none,0,0⟩,
  ⟨(some 29),(.callv false false),[.t 26,.t 27,.t 28],none,0,9⟩,
  ⟨(some 30),(.un .not),[.t 29],none,0,0⟩] false)
 (.cond (.t 30) (.seq (.reg [⟨(some 6),.mov,[.c (.bool false)],none,0,0⟩] false)
  .ret)
  .skip)))))
 (.reg [⟨(some 31),(.bin .add),[.t 17,.c (.int .i64 1)],none,0,0⟩,
  ⟨(some 17),.mov,[.t 31],none,0,0⟩] false))))
def eqF(esz:Nat)(ag:Bool)(z:List AV):CF:=⟨3,32,[.inl 6],
 (.seq (.reg [⟨(some 6),.mov,[.c (.bool false)],none,0,0⟩] false)
 (.seq (.seq (.reg [⟨(some 10),.mov,[.t 0],none,0,0⟩,
  ⟨(some 11),(.len 1),[.t 10],none,0,0⟩,
  ⟨(some 12),.mov,[.t 1],none,0,0⟩,
  ⟨(some 13),(.len 1),[.t 12],none,0,0⟩,
  ⟨(some 14),(.bin .neq),[.t 11,.t 13],none,0,0⟩] false)
 (.cond (.t 14) (.seq (.reg [⟨(some 6),.mov,[.c (.bool false)],none,0,0⟩] false)
  .ret)
  .skip))
 (.seq (.seq (.reg [⟨(some 15),.mov,[.t 0],none,0,0⟩,
  ⟨(some 16),(.len 1),[.t 15],none,0,0⟩,
  ⟨(some 17),.mov,[.c (.int .i64 0)],none,0,0⟩] false)
 (.block 0 (.loop (aJP esz ag z) aJO)))
 (.seq (.reg [⟨(some 6),.mov,[.c (.bool true)],none,0,0⟩] false)
 .ret))))⟩
def aJL:List Bool:=[true,true,false,false,false,false,false,false,false,false,false,false,true,true,false,false,false,false,false,false,false,false,false,false,false,false]
def aJM(esz:Nat)(ag:Bool)(k:K):C:=
 (.seq (.reg [⟨(some 14),(.bin .lss),[.t 13,.t 12],none,0,0⟩] false)
 (.seq (.cond (.t 14) .skip
  (.exit 0))
 (.seq (.block 1 (.seq (.reg [⟨(some 15),.mov,[.t 13],none,0,0⟩,
  ⟨(some 5),.mov,[.t 15],none,0,0⟩] false)
 (.seq (.reg [⟨(some 16),.mov,[.t 0],none,0,0⟩,
  ⟨(some 17),.mov,[.t 5],none,0,0⟩,
  ⟨(some 18),(.iad esz ag none),[.t 16,.t 17],none,3,0⟩,
  ⟨(some 19),(.load esz ag),[.t 18],none,7,0⟩,
  ⟨(some 20),.mov,[.t 1],none,0,0⟩,
  ⟨(some 21),.mov,[.t 5],none,0,0⟩,
  ⟨(some 22),(.iad esz ag none),[.t 20,.t 21],none,48,0⟩,
  ⟨(some 23),(.load esz ag),[.t 22],none,112,0⟩,
  ⟨(some 24),k,[.t 19,.t 23],none,255,0⟩] true)
 (.cond (.t 24) (.seq (.reg [⟨(some 4),.mov,[.c (.bool false)],none,0,0⟩] false)
  .ret)
  .skip))))
 (.reg [⟨(some 25),(.bin .add),[.t 13,.c (.int .i64 1)],none,0,0⟩,
  ⟨(some 13),.mov,[.t 25],none,0,0⟩] false))))
def eqV(esz:Nat)(ag:Bool)(k:K):CF:=⟨2,26,[.inl 4],
 (.seq (.reg [⟨(some 4),.mov,[.c (.bool false)],none,0,0⟩] false)
 (.seq (.seq (.reg [⟨(some 6),.mov,[.t 0],none,0,0⟩,
  ⟨(some 7),(.len 1),[.t 6],none,0,0⟩,
  ⟨(some 8),.mov,[.t 1],none,0,0⟩,
  ⟨(some 9),(.len 1),[.t 8],none,0,0⟩,
  ⟨(some 10),(.bin .neq),[.t 7,.t 9],none,0,0⟩] false)
 (.cond (.t 10) (.seq (.reg [⟨(some 4),.mov,[.c (.bool false)],none,0,0⟩] false)
  .ret)
  .skip))
 (.seq (.seq (.reg [⟨(some 11),.mov,[.t 0],none,0,0⟩,
  ⟨(some 12),(.len 1),[.t 11],none,0,0⟩,
  ⟨(some 13),.mov,[.c (.int .i64 0)],none,0,0⟩] false)
 (.block 0 (.loop (aJM esz ag k) aJL)))
 (.seq (.reg [⟨(some 4),.mov,[.c (.bool true)],none,0,0⟩] false)
 .ret))))⟩
def TQ:List Bool:=[false,false,false,true,false,false,false,true,true,true,false,false,false,false,false,false,false,false,false,false,false,false,false]
def TR(g:Nat):C:=
 (.seq (.reg [⟨(some 10),(.bin .lss),[.t 9,.t 8],none,0,0⟩] false)
 (.seq (.cond (.t 10) .skip
  (.exit 0))
 (.seq (.block 1 (.seq (.reg [⟨(some 11),(.iad 2 true none),[.t 7,.t 9],none,0,0⟩,
  ⟨(some 12),(.load 2 true),[.t 11],none,0,0⟩,
  ⟨(some 6),(.alloc [(.int .i64 0),(.sl true [] true)] true),[],none,0,5⟩,
  ⟨none,(.store 2 true),[.t 6,.t 12],none,0,0⟩] false)
 (.seq (.reg [⟨(some 13),(.load 2 true),[.t 6],none,0,0⟩,
  ⟨(some 14),(.call 51 false false),[.t 13],none,0,9⟩,
  ⟨(some 15),(.un .not),[.t 14],none,0,0⟩,
  ⟨(some 16),.mov,[.t 15],none,0,0⟩,
  ⟨(some 17),(.load 2 true),[.t 6],(some (16,false)),0,0⟩,
  ⟨(some 18),(.call 96 false false),[.t 17],(some (16,false)),0,13⟩,
  ⟨(some 19),(.mkf g),[.t 3],(some (16,false)),0,0⟩,
  ⟨(some 20),(.call 95 false false),[.t 18,.t 19],(some (16,false)),0,17⟩,
  ⟨(some 21),.pick,[.t 16,.c (.bool true),.t 20],none,0,0⟩] false)
 (.cond (.t 21) (.seq (.reg [⟨(some 4),.mov,[.c (.bool false)],none,0,0⟩] false)
  .ret)
  .skip))))
 (.reg [⟨(some 22),(.bin .add),[.t 9,.c (.int .i64 1)],none,0,0⟩,
  ⟨(some 9),.mov,[.t 22],none,0,0⟩] false))))
def aHn(g:Nat):CF:=⟨2,23,[.inl 4],
 (.seq (.reg [⟨(some 3),.box,[.t 1],none,0,1⟩,
  ⟨(some 4),.mov,[.c (.bool false)],none,0,0⟩] false)
 (.seq (.seq (.reg [⟨(some 7),.mov,[.t 0],none,0,0⟩,
  ⟨(some 8),(.len 1),[.t 7],none,0,0⟩,
  ⟨(some 9),.mov,[.c (.int .i64 0)],none,0,0⟩] false)
 (.block 0 (.loop (TR g) TQ)))
 (.seq (.reg [⟨(some 4),.mov,[.c (.bool true)],none,0,0⟩] false)
 .ret)))⟩
section
variable{pg:Pg}
theorem AB{f:Nat}{esz:Nat}{ag:Bool}(hf:pg.fs f=some (aFH esz ag)){α : Type}(enc : α -> AV)(hfit:∀x,(enc x).fits esz ag=true)(htree:∀x,(enc x).tree=true)
  (nl cl:Bool) (es:List α) (hb:es.length<=big) (g:Nat) (cs:List AV) (hcs:treeL cs=true) (p : α -> Bool) (hp:∀x∈es,Ret pg g (enc x::cs) (.bool (p x))) :
  bQ pg f [.sl nl (es.map enc) cl,.fn g cs] (λr=>∃i:Int,r = .int .i64 i/\decide (0<=i)=es.any p):=by
 refine bQ.ofX hf ?_;unfold aFH;simp only[go_sem,seval];refine fJ es (λd e=>fP e (some 8) (.int .i64 d.length)) (λd r hp=>es.any p=r.any p) rfl ?_ ?_ ?_;rfl;intro hp' hI;simp only[QD,QC,go_sem,seval];simp[hI];intro d x r hp' hes hI;subst hes;simp only[QD,QC,hfit,go_sem,seval];refine bZ (hp x (by simp)) (by simp only[treeL,htree,hcs,List.cons_append,fW,fF]) rfl ?_;simp only[go_sem,seval];cases hx:p x;simp only[aZ hb,go_sem,seval];simpa[hx] using hI;simp only[go_sem,seval];simp[hx]
theorem rO{f n:Nat}(hf:pg.fs f=some (aLX n)){a b:AV}{q:Bool}(ha:treeL [a,b]=true)(h:bQ pg n [a,b] (λr=>∃i:Int,r = .int .i64 i/\decide (0<=i)=q)) :
  Ret pg f [a,b] (.bool q):=by
 obtain⟨_,h,i,rfl,hi⟩:=h;refine Ret.ofX hf ?_;unfold aLX;simp only[go_sem,seval];refine bZ h ha rfl ?_;simp only[go_sem,seval];exact hi
theorem LM{f:Nat}{esz:Nat}{ag:Bool}{k:K}(hf:pg.fs f=some (aLJ esz ag k)){α : Type}(enc : α -> AV)(hfit:∀x,(enc x).fits esz ag=true)
  (nl cl:Bool) (es:List α) (hb:es.length<=big) (v:AV) (p : α -> Bool) (hk:∀(kb s:Nat)(h:Hp)(x : α)(Q:AV->Eff->Prop)(t:Tok Q),XO pg kb k s h [v,enc x] Q t=Q (.bool (p x)) (.pat [] [])) :
  bQ pg f [.sl nl (es.map enc) cl,v] (λr=>∃i:Int,r = .int .i64 i/\decide (0<=i)=es.any p):=by
 refine bQ.ofX hf ?_;unfold aLJ;simp only[go_sem,seval];refine fJ es (λd e=>fP e (some 8) (.int .i64 d.length)) (λd r hp=>es.any p=r.any p) rfl ?_ ?_ ?_;rfl;intro hp' hI;simp only[aCy,aCx,go_sem,seval];simp[hI];intro d x r hp' hes hI;subst hes;simp only[aCy,aCx,hfit,hk,go_sem,seval];cases hx:p x;simp only[aZ hb,go_sem,seval];simpa[hx] using hI;simp only[go_sem,seval];simp[hx]
def eqL{α β : Type}(q : α -> β -> Bool):List α -> List β -> Bool
 |[],[]=>true
 |x::r,y::s=>q x y&&eqL q r s
 |_,_=>false
theorem AG{α β : Type}{q : α -> β -> Bool}:∀{a:List α}{b:List β},eqL q a b=true->a.length=b.length
 |[],[],_=>rfl
 |x::r,y::s,h=>by simp only[eqL,aF]at h;simp[AG h.2]
 |[],_::_,h=>by simp[eqL]at h
 |_::_,[],h=>by simp[eqL]at h
theorem UW{f:Nat}{esz:Nat}{ag:Bool}{z:List AV}(hz:z.length=esz)(hf:pg.fs f=some (eqF esz ag z)){α : Type}(enc : α -> AV)(cells : α -> List AV)(henc:∀x,enc x = .agg (cells x))(hcl:∀x,(cells x).length=esz)(hone:∀x,cX (cells x)=true)(hag:ag=true)(htree:∀x,(enc x).tree=true)
  (nl cl nl' cl':Bool) (es es':List α) (hb:es.length<=big) (g:Nat) (q : α -> α -> Bool) (hq:∀x∈es,∀y∈es',Ret pg g [enc x,enc y] (.bool (q x y))) :
  Ret pg f [.sl nl (es.map enc) cl,.sl nl' (es'.map enc) cl',.fn g []] (.bool (eqL q es es')):=by
 have hfit:∀x,(enc x).fits esz ag=true:=by intro x;rw[henc,hag];simp[AV.fits,hcl]
 have hcells:∀x,(enc x).cells=cells x:=by intro x;rw[henc];rfl
 have hdr:List.drop esz z=[]:=by rw[<-hz];simp
 have hpart:∀x,jR (cells x) 0 esz ag=some (enc x):=by intro x;rw[hag];have:=hcl x;simp[jR,henc,<-this]
 refine Ret.ofX hf ?_;unfold eqF;simp only[go_sem,seval];cases hl:decide ((es.length:Int)=es'.length)
 case false=>simp only[hl,go_sem,seval];cases he:eqL q es es';rfl;exact absurd (congrArg Int.ofNat (AG he)) (by simpa using hl)
 simp only[hl,go_sem,seval];have hl':es.length=es'.length:=by simp at hl;omega
 refine fJ es (λd e=>fP e (some 17) (.int .i64 d.length)) (λd r hp=>∃d2 r2,es'=d2++r2/\d2.length=d.length/\eqL q es es'=eqL q r r2) rfl ?_ ?_ ?_;exact⟨[],es',rfl,rfl,rfl⟩;rintro hp ⟨d2,r2,h1,h2,h3⟩;simp only[aJP,aJO,go_sem,seval];rw[h3];have:r2=[]:=by have:=congrArg List.length h1;simp at this;exact iR (by omega)
 subst this;rfl;rintro d x r hp hes ⟨d2,r2,h1,h2,h3⟩;have hlen:r2.length=(x::r).length:=by have e1:=congrArg List.length h1;have e2:=congrArg List.length hes;simp at e1 e2 ⊢;omega
 obtain⟨y,r2,rfl⟩:∃y s,r2=y::s:=by
  cases r2 with
  |nil=>simp at hlen
  |cons y s=>exact⟨y,s,rfl⟩
 have hy:es'[d.length]?=some y:=by rw[h1,<-h2];simp
 subst hes;simp only[aJP,aJO,hfit,hcells,hz,hcl,hone,hpart,hy,hdr,bF,aX,List.append_nil,go_sem,seval];refine bZ (hq x (by simp) y (by rw[h1];simp)) (by simp only[treeL,htree,fF,List.append_nil]) rfl ?_;simp only[go_sem,seval];cases hx:q x y;simp only[go_sem,seval];rw[h3];simp[eqL,hx];simp only[aZ hb,go_sem,seval];exact⟨d2++[y],r2,by simp[h1],by simp[h2],by simpa[eqL,hx] using h3⟩
theorem aCR{f:Nat}{esz:Nat}{ag:Bool}{k:K}(hf:pg.fs f=some (eqV esz ag k)){α : Type}(enc : α -> AV)(hfit:∀x,(enc x).fits esz ag=true)
  (nl cl nl' cl':Bool) (es es':List α) (hb:es.length<=big) (q : α -> α -> Bool)
  (hk:∀(kb s:Nat)(h:Hp)(x y : α)(Q:AV->Eff->Prop)(t:Tok Q),XO pg kb k s h [enc x,enc y] Q t=Q (.bool (!q x y)) (.pat [] [])) (hnc:k.isCall=false) :
  Ret pg f [.sl nl (es.map enc) cl,.sl nl' (es'.map enc) cl'] (.bool (eqL q es es')):=by
 refine Ret.ofX hf ?_;unfold eqV;simp only[go_sem,seval];cases hl:decide ((es.length:Int)=es'.length)
 case false=>simp only[hl,go_sem,seval];cases he:eqL q es es';rfl;exact absurd (congrArg Int.ofNat (AG he)) (by simpa using hl)
 simp only[hl,go_sem,seval];have hl':es.length=es'.length:=by simp at hl;omega
 refine fJ es (λd e=>fP e (some 13) (.int .i64 d.length)) (λd r hp=>∃d2 r2,es'=d2++r2/\d2.length=d.length/\eqL q es es'=eqL q r r2) rfl ?_ ?_ ?_;exact⟨[],es',rfl,rfl,rfl⟩;rintro hp ⟨d2,r2,h1,h2,h3⟩;simp only[aJM,aJL,go_sem,seval];rw[h3];have:r2=[]:=by have:=congrArg List.length h1;simp at this;exact iR (by omega)
 subst this;rfl;rintro d x r hp hes ⟨d2,r2,h1,h2,h3⟩;have hlen:r2.length=(x::r).length:=by have e1:=congrArg List.length h1;have e2:=congrArg List.length hes;simp at e1 e2 ⊢;omega
 obtain⟨y,r2,rfl⟩:∃y s,r2=y::s:=by
  cases r2 with
  |nil=>simp at hlen
  |cons y s=>exact⟨y,s,rfl⟩
 have hy:es'[d.length]?=some y:=by rw[h1,<-h2];simp
 subst hes;simp only[aJM,aJL,hfit,hy,hk,go_sem,seval];refine aY ?_;cases hx:q x y;simp only[go_sem,seval];rw[h3];simp[eqL,hx];simp only[aZ hb,go_sem,seval];exact⟨d2++[y],r2,by simp[h1],by simp[h2],by simpa[eqL,hx] using h3⟩
end
end
end Go.Tev
