import Derived.Test.YtdideofckfhnfaaGreatDoorPAO
import Derived.KernelRfl
import Derived.Test.YtdideofckfhnfaaGreatDoorPAH
set_option linter.all false
namespace Go.Tev
section
structure Tok.{u}{α : Sort u}(a : α):Type where
def XX(pg:Pg)(kb:Nat)(c:C)(st:St)(Q:Ex->St->Prop)(_:Tok Q):Prop:=WX pg kb c st Q
def XR(pg:Pg)(kb:Nat)(rs:List R)(st:St)(Q:St->Prop)(_:Tok Q):Prop:=WR pg kb rs st Q
def XT(pg:Pg)(kb:Nat)(rs:List R)(st:St)(Q:St->List Eff->Prop)(_:Tok Q):Prop:=WT pg kb rs st Q
def XO(pg:Pg)(kb:Nat)(k:K)(s:Nat)(h:Hp)(vs:List AV)(Q:AV->Eff->Prop)(_:Tok Q):Prop:=WO pg kb k s h vs Q
def XG(v:AV)(b:Bool)(A B:Unit->Prop)(_:Tok (A,B)):Prop:=gdQ v b (A ()) (B ())
def XC(v:AV)(A B:Unit->Prop)(_:Tok (A,B)):Prop:=IW v (A ()) (B ())
def XV(o:Option (AV×Eff))(Q:AV->Eff->Prop)(_:Tok Q):Prop:=AZ o Q
variable{pg:Pg}{kb:Nat}
theorem OK(st:St)(Q:Ex->St->Prop)(t:Tok Q):XX pg kb .skip st Q t=Q .nor st:=OY st Q
theorem OM(id:Nat)(st:St)(Q:Ex->St->Prop)(t:Tok Q):XX pg kb (.exit id) st Q t=Q (.ext id) st:=O4 id st Q
theorem YY(st:St)(Q:Ex->St->Prop)(t:Tok Q):XX pg kb .ret st Q t=Q .ret st:=ZS st Q
theorem YZ(rs:List R)(st:St)(Q:Ex->St->Prop)(t:Tok Q):XX pg kb (.reg rs false) st Q t=XR pg kb rs st (λst'=>Q .nor st') ⟨⟩:=ZT rs st Q
theorem OL(rs:List R)(st:St)(Q:Ex->St->Prop)(t:Tok Q):XX pg kb (.reg rs true) st Q t=XT pg kb rs st (λst' es=>eC 0 rs es=true/\Q .nor st') ⟨⟩:=OZ rs st Q
theorem ON(c:X)(a b:C)(st:St)(Q:Ex->St->Prop)(t:Tok Q):XX pg kb (.cond c a b) st Q t=XC (c.ev pg.gl st.env) (λ_=>XX pg kb a st Q t) (λ_=>XX pg kb b st Q t) ⟨⟩:=O5 c a b st Q
theorem YX(a b:C)(st:St)(Q:Ex->St->Prop)(t:Tok Q):XX pg kb (.seq a b) st Q t=XX pg kb a st (iL (λst'=>XX pg kb b st' Q t) Q) ⟨⟩:=ZR a b st Q
theorem JP(id:Nat)(b:C)(st:St)(Q:Ex->St->Prop)(t:Tok Q):XX pg kb (.block id b) st Q t=XX pg kb b st (jS id Q) ⟨⟩:=JX id b st Q
theorem j1(b:C)(clr:List Bool)(st:St)(Q:Ex->St->Prop)(t:Tok Q):XX pg kb (.loop b clr) st Q t=XX pg kb b ⟨clear clr st.env,st.hp⟩ (iL (λst'=>XX pg kb (.loop b clr) st' Q t) Q) ⟨⟩:=EB b clr st Q
theorem F4{α : Type}(μ : α -> Nat)(E : α -> List AV->Hp->Prop){b:C}{clr:List Bool}{st:St}{Q:Ex->St->Prop}{t:Tok Q}(a : α)(h0:E a (clear clr st.env) st.hp)
  (step:∀a env hp,E a env hp->XX pg kb b ⟨env,hp⟩ (iL (λst'=>∃a',μ a' < μ a/\E a' (clear clr st'.env) st'.hp) Q) ⟨⟩) :
  XX pg kb (.loop b clr) st Q t:=F7 μ E a h0 step
theorem Y1(st:St)(A:St->Prop)(t:Tok A):XR pg kb [] st A t=A st:=ZV st A
theorem OP(d:Option Nat)(k:K)(xs:List X)(bef s:Nat)(rs:List R)(st:St)(A:St->Prop)(t:Tok A) :
  XR pg kb (⟨d,k,xs,none,bef,s⟩::rs) st A t=XO pg kb k s st.hp (xs.map (X.ev pg.gl st.env)) (λv eff=>XR pg kb rs ⟨cG st.env d v,eff.app st.hp⟩ A t) ⟨⟩:=ED d k xs bef s rs st A
theorem JR(d:Option Nat)(k:K)(xs:List X)(g:Nat)(b:Bool)(bef s:Nat)(rs:List R)(st:St)(A:St->Prop)(t:Tok A) :
  XR pg kb (⟨d,k,xs,some (g,b),bef,s⟩::rs) st A t =
   XG (d9 st.env g) b (λ_=>XO pg kb k s st.hp (xs.map (X.ev pg.gl st.env)) (λv eff=>XR pg kb rs ⟨cG st.env d v,eff.app st.hp⟩ A t) ⟨⟩) (λ_=>XR pg kb rs ⟨cG st.env d (.tup []),st.hp⟩ A t) ⟨⟩:=
 JZ d k xs g b bef s rs st A
theorem Y0(st:St)(A:St->List Eff->Prop)(t:Tok A):XT pg kb [] st A t=A st []:=ZU st A
theorem OO(d:Option Nat)(k:K)(xs:List X)(bef s:Nat)(rs:List R)(st:St)(A:St->List Eff->Prop)(t:Tok A) :
  XT pg kb (⟨d,k,xs,none,bef,s⟩::rs) st A t=XO pg kb k s st.hp (xs.map (X.ev pg.gl st.env)) (λv eff=>XT pg kb rs ⟨cG st.env d v,eff.app st.hp⟩ (λst' es=>A st' (eff::es)) ⟨⟩) ⟨⟩:=EC d k xs bef s rs st A
theorem JQ(d:Option Nat)(k:K)(xs:List X)(g:Nat)(b:Bool)(bef s:Nat)(rs:List R)(st:St)(A:St->List Eff->Prop)(t:Tok A) :
  XT pg kb (⟨d,k,xs,some (g,b),bef,s⟩::rs) st A t =
   XG (d9 st.env g) b (λ_=>XO pg kb k s st.hp (xs.map (X.ev pg.gl st.env)) (λv eff=>XT pg kb rs ⟨cG st.env d v,eff.app st.hp⟩ (λst' es=>A st' (eff::es)) ⟨⟩) ⟨⟩)
    (λ_=>XT pg kb rs ⟨cG st.env d (.tup []),st.hp⟩ (λst' es=>A st' (.pat [] []::es)) ⟨⟩) ⟨⟩:=
 JY d k xs g b bef s rs st A
theorem D9(A B:Unit->Prop)(t:Tok (A,B)):XC (.bool true) A B t=A ():=rfl
theorem AL(A B:Unit->Prop)(t:Tok (A,B)):XC (.bool false) A B t=B ():=rfl
theorem bD{c:Bool}{A B:Unit->Prop}{t:Tok (A,B)}(h1:c=true->A ())(h2:c=false->B ()):XC (.bool c) A B t:=by cases c;exact h2 rfl;exact h1 rfl
theorem V6(A B:Unit->Prop)(t:Tok (A,B)):XG (.bool true) true A B t=A ():=rfl
theorem WA(A B:Unit->Prop)(t:Tok (A,B)):XG (.bool false) false A B t=A ():=rfl
theorem V7(A B:Unit->Prop)(t:Tok (A,B)):XG (.bool true) false A B t=B ():=rfl
theorem V9(A B:Unit->Prop)(t:Tok (A,B)):XG (.bool false) true A B t=B ():=rfl
theorem V8(b:Bool)(A B:Unit->Prop)(t:Tok (A,B)):XG (.tup []) b A B t=B ():=rfl
theorem bC{c b:Bool}{A B:Unit->Prop}{t:Tok (A,B)}(h1:c=true->XG (.bool true) b A B t)(h2:c=false->XG (.bool false) b A B t):XG (.bool c) b A B t:=by cases c;exact h2 rfl;exact h1 rfl
theorem D8(v:AV)(e:Eff)(Q:AV->Eff->Prop)(t:Tok Q):XV (some (v,e)) Q t=Q v e:=rfl
theorem kX{f s:Nat}{th:Bool}{h:Hp}{vs ts:List AV}{keys:List Nat}{r v:AV}{pa:List Ent}{Q:AV->Eff->Prop}{t:Tok Q}(hr:Ret pg f ts r)
  (hm:bO (snap depth h) vs=some (ts,keys)) (hv:fE h (kb+s) th r=some (v,pa)) (q:Q v (.pat ((kb+s)::keys) ((if r.flat then [] else bE h keys)++pa))) :
  XO pg kb (.call f th false) s h vs Q t:=(O6 hr hm hv).mpr q
theorem fJ(d:Nat)(h:Hp):∀{vs:List AV},treeL vs=true->bO (snap (d+1) h) vs=some (vs,[])
 |[],_=>rfl
 |x::r,q=>by
  simp only[treeL,aD]at q;have e:snap (d+1) h x=some (x,[]):=by unfold snap;rw[if_pos q.1]
  rw[bO,e,fJ d h q.2];rfl
def AV.notOs:AV->Bool
 |.os .. => false
 |_=>true
theorem bI{f s:Nat}{th:Bool}{h:Hp}{vs:List AV}{r:AV}{Q:AV->Eff->Prop}{t:Tok Q}(hr:Ret pg f vs r)
  (hm:treeL vs=true) (hv:r.notOs=true) (q:Q r (.pat [kb+s] [])) :
  XO pg kb (.call f th false) s h vs Q t:=by
 refine kX hr (fJ 63 h hm) (v:=r) (pa:=[]) ?_ ?_;cases r<;>first|rfl|simp[AV.notOs]at hv
 have:(if r.flat then ([]:List Ent) else bE h [])++[]=[]:=by split<;>rfl
 rw[this];exact q
theorem aC{f s:Nat}{th:Bool}{h:Hp}{vs:List AV}{r:AV}{Q:AV->Eff->Prop}{t:Tok Q}(hr:Ret pg f vs r)(q:Q r (.pat [kb+s] []))(hm:treeL vs=true:=by simp only[go_sem,seval])(hv:r.notOs=true:=by rfl):XO pg kb (.call f th false) s h vs Q t:=bI hr hm hv q
theorem Wk{P Q:Prop}(h:Q)(e:P=Q:=by simp only[go_sem,seval];rfl):P:=e.mpr h
theorem bP{a b:Prop}(h:b)(k:a:=by kernel_rfl):a/\b:=⟨k,h⟩
theorem lY{f s:Nat}{th im:Bool}{h h':Hp}{vs:List AV}{r:AV}{Q:AV->Eff->Prop}{t:Tok Q}(hm:im=true\/bO (snap depth h) vs=none){B:Nat}(hB:gJ kb s vs=B)(hr:nE pg f vs B h r h')
   (hq:Q r (.whole h')):XO pg kb (.call f th im) s h vs Q t:=J0 hm hB hr hq
theorem JU{f s:Nat}{th im:Bool}{h:Hp}{cs args:List AV}{Q:AV->Eff->Prop}{t:Tok Q} :
  XO pg kb (.callv th im) s h (.fn f cs::args) Q t=XO pg kb (.call f th im) s h (args++cs) Q t:=rfl
theorem Ret.ofX{f:Nat}{cf:CF}{vs:List AV}{r:AV}(hf:pg.fs f=some cf)(hw:XX pg 0 cf.body ⟨enter cf vs,[]⟩ (zA cf.res r) ⟨⟩):Ret pg f vs r:=Ret.of hf hw
def IU(res:List (Sum Nat (Nat×Nat×Bool)))(r:AV)(h:Hp)(ex:Ex)(st:St):Prop:=(match ex with|.ext _=>False|_=>True)/\result st res=some r/\st.hp=h
theorem nE.ofX{f:Nat}{cf:CF}{vs:List AV}{h:Hp}{r:AV}{h':Hp}(hf:pg.fs f=some cf)(hw:XX pg kb cf.body ⟨enter cf vs,h⟩ (IU cf.res r h') ⟨⟩):nE pg f vs kb h r h':=nE.of hf hw
theorem IT(res:List (Sum Nat (Nat×Nat×Bool)))(r:AV)(h:Hp)(st:St):IU res r h .nor st=(result st res=some r/\st.hp=h):=by simp[IU]
theorem IR(res:List (Sum Nat (Nat×Nat×Bool)))(r:AV)(h:Hp)(st:St):IU res r h .ret st=(result st res=some r/\st.hp=h):=by simp[IU]
theorem OS(s:Nat)(h:Hp)(c a b:Bool)(Q:AV->Eff->Prop)(t:Tok Q):XO pg kb .pick s h [.bool c,.bool a,.bool b] Q t=Q (.bool (bif c then a else b)) (.pat [] []):=by show WO pg kb .pick s h _ Q=_;rw[bS rfl];cases c<;>rfl
theorem F5(s:Nat)(h:Hp)(a b:AV)(Q:AV->Eff->Prop)(t:Tok Q):XO pg kb .pick s h [.bool true,a,b] Q t=Q a (.pat [] []):=by show WO pg kb .pick s h _ Q=_;rw[bS rfl];rfl
theorem F6(s:Nat)(h:Hp)(a b:AV)(Q:AV->Eff->Prop)(t:Tok Q):XO pg kb .pick s h [.bool false,a,b] Q t=Q b (.pat [] []):=by show WO pg kb .pick s h _ Q=_;rw[bS rfl];rfl
theorem Y6(s:Nat)(h:Hp)(vs:List AV)(Q:AV->Eff->Prop)(t:Tok Q):XO pg kb (.mov) s h vs Q t=XV (HY vs) Q ⟨⟩:=bS rfl s h vs Q
theorem ZN(s:Nat)(h:Hp)(vs:List AV)(Q:AV->Eff->Prop)(t:Tok Q):XO pg kb (.box) s h vs Q t=XV (eP h (kb+s) vs) Q ⟨⟩:=bS rfl s h vs Q
theorem JW(z:List AV)(ag:Bool)(s:Nat)(h:Hp)(vs:List AV)(Q:AV->Eff->Prop)(t:Tok Q):XO pg kb (.alloc z ag) s h vs Q t=XV (wS h (kb+s) z ag vs) Q ⟨⟩:=bS rfl s h vs Q
theorem JV(z:List AV)(ps:List (Nat×Nat))(s:Nat)(h:Hp)(vs:List AV)(Q:AV->Eff->Prop)(t:Tok Q):XO pg kb (.build z ps) s h vs Q t=XV (wR z ps vs) Q ⟨⟩:=bS rfl s h vs Q
theorem OV(e:Nat)(ag own:Bool)(s:Nat)(h:Hp)(vs:List AV)(Q:AV->Eff->Prop)(t:Tok Q):XO pg kb (.mkSl e ag own) s h vs Q t=XV (BK h (kb+s) e ag own vs) Q ⟨⟩:=bS rfl s h vs Q
theorem OW(sz:Nat)(ag:Bool)(s:Nat)(h:Hp)(vs:List AV)(Q:AV->Eff->Prop)(t:Tok Q):XO pg kb (.load sz ag) s h vs Q t=XV (BL h sz ag vs) Q ⟨⟩:=bS rfl s h vs Q
theorem JS(sz:Nat)(ag:Bool)(s:Nat)(h:Hp)(vs:List AV)(Q:AV->Eff->Prop)(t:Tok Q):XO pg kb (.store sz ag) s h vs Q t=XV (wQ h sz ag vs) Q ⟨⟩:=bS rfl s h vs Q
theorem OU(s:Nat)(h:Hp)(vs:List AV)(Q:AV->Eff->Prop)(t:Tok Q):XO pg kb (.nilc) s h vs Q t=XV (BJ vs) Q ⟨⟩:=bS rfl s h vs Q
theorem ZO(op:BinOp)(s:Nat)(h:Hp)(vs:List AV)(Q:AV->Eff->Prop)(t:Tok Q):XO pg kb (.bin op) s h vs Q t=XV (IG op vs) Q ⟨⟩:=bS rfl s h vs Q
theorem ZP(ng:Bool)(s:Nat)(h:Hp)(vs:List AV)(Q:AV->Eff->Prop)(t:Tok Q):XO pg kb (.beq ng) s h vs Q t=XV (IH ng vs) Q ⟨⟩:=bS rfl s h vs Q
theorem ZI(q:Nat)(ng:Bool)(s:Nat)(h:Hp)(vs:List AV)(Q:AV->Eff->Prop)(t:Tok Q):XO pg kb (.eqn q ng) s h vs Q t=XV (IA q ng vs) Q ⟨⟩:=bS rfl s h vs Q
theorem ZH(ng:Bool)(qs:List Nat)(s:Nat)(h:Hp)(vs:List AV)(Q:AV->Eff->Prop)(t:Tok Q):XO pg kb (.eqs ng qs) s h vs Q t=XV (sH ng qs vs) Q ⟨⟩:=bS rfl s h vs Q
theorem aBA(op:UnOp)(s:Nat)(h:Hp)(vs:List AV)(Q:AV->Eff->Prop)(t:Tok Q):XO pg kb (.un op) s h vs Q t=XV (YD op vs) Q ⟨⟩:=bS rfl s h vs Q
theorem ZK(i:IntKind)(s:Nat)(h:Hp)(vs:List AV)(Q:AV->Eff->Prop)(t:Tok Q):XO pg kb (.cvi i) s h vs Q t=XV (IC i vs) Q ⟨⟩:=bS rfl s h vs Q
theorem ZJ(s:Nat)(h:Hp)(vs:List AV)(Q:AV->Eff->Prop)(t:Tok Q):XO pg kb (.cvs) s h vs Q t=XV (IB vs) Q ⟨⟩:=bS rfl s h vs Q
theorem Y5(s:Nat)(h:Hp)(vs:List AV)(Q:AV->Eff->Prop)(t:Tok Q):XO pg kb (.s2b) s h vs Q t=XV (HX vs) Q ⟨⟩:=bS rfl s h vs Q
theorem ZQ(s:Nat)(h:Hp)(vs:List AV)(Q:AV->Eff->Prop)(t:Tok Q):XO pg kb (.b2s) s h vs Q t=XV (yZ h vs) Q ⟨⟩:=bS rfl s h vs Q
theorem ZE(off sz:Nat)(ag:Bool)(s:Nat)(h:Hp)(vs:List AV)(Q:AV->Eff->Prop)(t:Tok Q):XO pg kb (.fld off sz ag) s h vs Q t=XV (eN off sz ag vs) Q ⟨⟩:=bS rfl s h vs Q
theorem ZF(off sz:Nat)(ag:Bool)(s:Nat)(h:Hp)(vs:List AV)(Q:AV->Eff->Prop)(t:Tok Q):XO pg kb (.fad off sz ag) s h vs Q t=XV (eO off sz ag vs) Q ⟨⟩:=bS rfl s h vs Q
theorem ZD(e:Nat)(ag:Bool)(arr:Option Nat)(s:Nat)(h:Hp)(vs:List AV)(Q:AV->Eff->Prop)(t:Tok Q):XO pg kb (.iad e ag arr) s h vs Q t=XV (H9 e ag arr vs) Q ⟨⟩:=bS rfl s h vs Q
theorem ZB(s:Nat)(h:Hp)(vs:List AV)(Q:AV->Eff->Prop)(t:Tok Q):XO pg kb (.ixs) s h vs Q t=XV (H7 vs) Q ⟨⟩:=bS rfl s h vs Q
theorem ZC(len e:Nat)(ag:Bool)(s:Nat)(h:Hp)(vs:List AV)(Q:AV->Eff->Prop)(t:Tok Q):XO pg kb (.ixa len e ag) s h vs Q t=XV (H8 len e ag vs) Q ⟨⟩:=bS rfl s h vs Q
theorem Y3(e:Nat)(lo hi mx:Bool)(s:Nat)(h:Hp)(vs:List AV)(Q:AV->Eff->Prop)(t:Tok Q):XO pg kb (.slc e lo hi mx) s h vs Q t=XV (fZ h e lo hi mx vs) Q ⟨⟩:=bS rfl s h vs Q
theorem Y2(lo hi:Bool)(s:Nat)(h:Hp)(vs:List AV)(Q:AV->Eff->Prop)(t:Tok Q):XO pg kb (.sls lo hi) s h vs Q t=XV (sG lo hi vs) Q ⟨⟩:=bS rfl s h vs Q
theorem Y4(len e:Nat)(lo hi:Bool)(s:Nat)(h:Hp)(vs:List AV)(Q:AV->Eff->Prop)(t:Tok Q):XO pg kb (.sla len e lo hi) s h vs Q t=XV (HW h len e lo hi vs) Q ⟨⟩:=bS rfl s h vs Q
theorem Y7(e:Nat)(ag:Bool)(bytes:Nat)(z:List AV)(s:Nat)(h:Hp)(vs:List AV)(Q:AV->Eff->Prop)(t:Tok Q):XO pg kb (.mks e ag bytes z) s h vs Q t=XV (HZ h (kb+s) e ag bytes z vs) Q ⟨⟩:=bS rfl s h vs Q
theorem ZA(q:Nat)(s:Nat)(h:Hp)(vs:List AV)(Q:AV->Eff->Prop)(t:Tok Q):XO pg kb (.len q) s h vs Q t=XV (yY h q vs) Q ⟨⟩:=bS rfl s h vs Q
theorem OX(n:Nat)(s:Nat)(h:Hp)(vs:List AV)(Q:AV->Eff->Prop)(t:Tok Q):XO pg kb (.lenc n) s h vs Q t=XV (BM n vs) Q ⟨⟩:=bS rfl s h vs Q
theorem ZM(s:Nat)(h:Hp)(vs:List AV)(Q:AV->Eff->Prop)(t:Tok Q):XO pg kb (.cap) s h vs Q t=XV (IE h vs) Q ⟨⟩:=bS rfl s h vs Q
theorem eL(e:Nat)(ag:Bool)(bytes:Nat)(s:Nat)(h:Hp)(vs:List AV)(Q:AV->Eff->Prop)(t:Tok Q):XO pg kb (.app e ag bytes) s h vs Q t=XV (jQ h (kb+s) e ag bytes vs) Q ⟨⟩:=bS rfl s h vs Q
theorem ZL(e:Nat)(ag:Bool)(s:Nat)(h:Hp)(vs:List AV)(Q:AV->Eff->Prop)(t:Tok Q):XO pg kb (.cpy e ag) s h vs Q t=XV (ID h e ag vs) Q ⟨⟩:=bS rfl s h vs Q
theorem aBC(s:Nat)(h:Hp)(vs:List AV)(Q:AV->Eff->Prop)(t:Tok Q):XO pg kb (.mn) s h vs Q t=XV (YG vs) Q ⟨⟩:=bS rfl s h vs Q
theorem aBB(s:Nat)(h:Hp)(vs:List AV)(Q:AV->Eff->Prop)(t:Tok Q):XO pg kb (.mx) s h vs Q t=XV (YF vs) Q ⟨⟩:=bS rfl s h vs Q
theorem ZG(i:Nat)(s:Nat)(h:Hp)(vs:List AV)(Q:AV->Eff->Prop)(t:Tok Q):XO pg kb (.ext i) s h vs Q t=XV (DR i vs) Q ⟨⟩:=bS rfl s h vs Q
theorem Y8(s:Nat)(h:Hp)(vs:List AV)(Q:AV->Eff->Prop)(t:Tok Q):XO pg kb (.mki) s h vs Q t=XV (H5 vs) Q ⟨⟩:=bS rfl s h vs Q
theorem Y9(f:Nat)(s:Nat)(h:Hp)(vs:List AV)(Q:AV->Eff->Prop)(t:Tok Q):XO pg kb (.mkf f) s h vs Q t=XV (H6 f vs) Q ⟨⟩:=bS rfl s h vs Q
theorem E7(a:AV)(l:List AV):d9 (a::l) 0=a:=rfl
theorem E8(a:AV)(l:List AV)(n:Nat):d9 (a::l) (n+1)=d9 l n:=by simp[d9]
theorem EO(l:List AV)(v:AV):cG l none v=l:=rfl
theorem EM(a:AV)(l:List AV)(v:AV):cG (a::l) (some 0) v=v::l:=rfl
theorem EN(a:AV)(l:List AV)(v:AV)(n:Nat):cG (a::l) (some (n+1)) v=a::cG l (some n) v:=rfl
theorem OJ(h:Hp)(rd:List Nat):Eff.app h (.pat rd [])=h:=rfl
theorem jA(h:Hp)(rd:List Nat)(k e:Nat)(o:Ob):Eff.app h (.pat rd [⟨k,e,o⟩])=h.put k e o:=rfl
theorem xW(h:Hp)(rd:List Nat)(k e k' e':Nat)(o o':Ob):Eff.app h (.pat rd [⟨k,e,o⟩,⟨k',e',o'⟩])=(h.put k e o).put k' e' o':=rfl
theorem F3(h h':Hp):Eff.app h (.whole h')=h':=rfl
theorem F0(v:AV):val v=some (v,.pat [] []):=rfl
theorem KR(h:Hp)(k:Nat)(o:Ob)(v:Nat->AV):kA h k o v=some (v (h.next k),.pat [k] [⟨k,h.next k,o⟩]):=rfl
theorem G5(k:Nat):Hp.next [] k=0:=rfl
theorem G4(h:Hp)(k e:Nat)(o:Ob)(q:Nat):(h.put k e o).next q=if k=q then e+1 else h.next q:=by simp only[Hp.next,aF];by_cases c:k=q<;>simp[c]
theorem DM(k:Nat):Hp.get [] k=none:=rfl
theorem E6(cs:List AV):AV.isAgg (.agg cs)=true:=rfl
theorem FS(cs:List AV):AV.cells (.agg cs)=cs:=rfl
theorem uJ(cs:List AV)(off sz:Nat):cX cs off sz true=if off+sz<=cs.length then some (.agg ((cs.drop off).take sz)) else none:=rfl
theorem EU(cs:List AV)(off sz:Nat):cX cs off sz false=cs[off]?:=rfl
theorem CZ{α β : Type}(x : α)(f : α -> Option β):(some x).bind f=f x:=rfl
theorem E0{α β : Type}(x : α)(f : α -> β):(some x).map f=some (f x):=rfl
theorem ZW(e:List AV)(h:Hp):(St.mk e h).env=e:=rfl
theorem aBD(e:List AV)(h:Hp):(St.mk e h).hp=h:=rfl
theorem O7(a b:Nat)(c:List (Sum Nat (Nat×Nat×Bool)))(d:C):(CF.mk a b c d).body=d:=rfl
theorem ZZ(a b:Nat)(c:List (Sum Nat (Nat×Nat×Bool)))(d:C):(CF.mk a b c d).res=c:=rfl
theorem aBG(a b:Nat)(c:List (Sum Nat (Nat×Nat×Bool)))(d:C):(CF.mk a b c d).nt=b:=rfl
theorem fits_bool(b:Bool)(sz:Nat)(ag:Bool):AV.fits (.bool b) sz ag=(!ag&&sz==1):=rfl
theorem EI(b:Bool):AV.tree (.bool b)=true:=by simp[AV.tree]
theorem fits_int(k:IntKind)(n:Int)(sz:Nat)(ag:Bool):AV.fits (.int k n) sz ag=(!ag&&sz==1):=rfl
theorem GA(k:IntKind)(n:Int):AV.tree (.int k n)=true:=by simp[AV.tree]
theorem fits_str(b:List UInt8)(sz:Nat)(ag:Bool):AV.fits (.str b) sz ag=(!ag&&sz==1):=rfl
theorem F9(b:List UInt8):AV.tree (.str b)=true:=by simp[AV.tree]
theorem fits_sl(nl:Bool)(es:List AV)(cl:Bool)(sz:Nat)(ag:Bool):AV.fits (.sl nl es cl) sz ag=(!ag&&sz==1):=rfl
theorem qH(nl:Bool)(es:List AV)(cl:Bool):AV.tree (.sl nl es cl)=treeL es:=by simp[AV.tree]
theorem fits_fp(v:AV)(sz:Nat)(ag:Bool):AV.fits (.fp v) sz ag=(!ag&&sz==1):=rfl
theorem J8(v:AV):AV.tree (.fp v)=v.tree:=by simp[AV.tree]
theorem fits_nilp  (sz:Nat) (ag:Bool):AV.fits (.nilp ) sz ag=(!ag&&sz==1):=rfl
theorem EE  : AV.tree (.nilp )=true:=by simp[AV.tree]
theorem fits_nilf  (sz:Nat) (ag:Bool):AV.fits (.nilf ) sz ag=(!ag&&sz==1):=rfl
theorem EH  : AV.tree (.nilf )=true:=by simp[AV.tree]
theorem fits_nili  (sz:Nat) (ag:Bool):AV.fits (.nili ) sz ag=(!ag&&sz==1):=rfl
theorem EG  : AV.tree (.nili )=true:=by simp[AV.tree]
theorem fits_fn(f:Nat)(cs:List AV)(sz:Nat)(ag:Bool):AV.fits (.fn f cs) sz ag=(!ag&&sz==1):=rfl
theorem vX(f:Nat)(cs:List AV):AV.tree (.fn f cs)=treeL cs:=by simp[AV.tree]
theorem fits_rf(k e o l c:Nat)(sz:Nat)(ag:Bool):AV.fits (.rf k e o l c) sz ag=(!ag&&sz==1):=rfl
theorem J6(k e o l c:Nat):AV.tree (.rf k e o l c)=false:=by simp[AV.tree]
theorem fits_pt(k e o:Nat)(sz:Nat)(ag:Bool):AV.fits (.pt k e o) sz ag=(!ag&&sz==1):=rfl
theorem J7(k e o:Nat):AV.tree (.pt k e o)=false:=by simp[AV.tree]
theorem fits_ifc(v:AV)(sz:Nat)(ag:Bool):AV.fits (.ifc v) sz ag=(!ag&&sz==1):=rfl
theorem GB(v:AV):AV.tree (.ifc v)=v.tree:=by simp[AV.tree]
theorem fits_agg(cs:List AV)(sz:Nat)(ag:Bool):AV.fits (.agg cs) sz ag=(ag&&cs.length==sz):=rfl
theorem GC(cs:List AV):AV.tree (.agg cs)=treeL cs:=by simp[AV.tree]
theorem F8(cs:List AV):AV.tree (.tup cs)=treeL cs:=by simp[AV.tree]
theorem G2(b:Bool):AV.one (.bool b)=true:=rfl
theorem KP(k:IntKind)(n:Int):AV.one (.int k n)=true:=rfl
theorem KO(b:List UInt8):AV.one (.str b)=true:=rfl
theorem XY(nl:Bool)(es:List AV)(cl:Bool):AV.one (.sl nl es cl)=true:=rfl
theorem X1(v:AV):AV.one (.fp v)=true:=rfl
theorem GZ  : AV.one (.nilp )=true:=rfl
theorem G1  : AV.one (.nilf )=true:=rfl
theorem G0  : AV.one (.nili )=true:=rfl
theorem X2(f:Nat)(cs:List AV):AV.one (.fn f cs)=true:=rfl
theorem XZ(k e o l c:Nat):AV.one (.rf k e o l c)=true:=rfl
theorem X0(k e o:Nat):AV.one (.pt k e o)=true:=rfl
theorem KQ(v:AV):AV.one (.ifc v)=true:=rfl
theorem E9(b:Bool):AV.flat (.bool b)=true:=by simp[AV.flat]
theorem HU(k:IntKind)(n:Int):AV.flat (.int k n)=true:=by simp[AV.flat]
theorem HT(b:List UInt8):AV.flat (.str b)=true:=by simp[AV.flat]
attribute [go_sem] G2 KP KO XY X1 GZ G1 G0 X2 XZ X0 KQ E9 HU HT List.append_nil
theorem HD(nl:Bool)(es:List AV)(cl:Bool):AV.isNil 1 (.sl nl es cl)=some nl:=rfl
theorem HE(k e o l c:Nat):AV.isNil 1 (.rf k e o l c)=some false:=rfl
theorem A8:AV.isNil 4 .nili=some true:=rfl
theorem E2(v:AV):AV.isNil 4 (.ifc v)=some false:=rfl
theorem A7:AV.isNil 0 .nilp=some true:=rfl
theorem HG(v:AV):AV.isNil 0 (.fp v)=some false:=rfl
theorem HF(k e o:Nat):AV.isNil 0 (.pt k e o)=some false:=rfl
theorem A9:AV.isNil 3 .nilf=some true:=rfl
theorem HH(f:Nat)(cs:List AV):AV.isNil 3 (.fn f cs)=some false:=rfl
attribute [go_sem ↓] OK OM YY YZ OL ON YX JP Y1 OP JR Y0 OO JQ D9 AL V6 WA V7 V9 V8 D8
 EK EL EJ CX CY CW IK IJ IT IR
attribute [go_sem] D9 AL V6 WA V7 V9 V8 D8 JU OS F5 F6
 Y6 ZN JW JV OV OW JS OU ZO ZP ZI ZH aBA ZK ZJ Y5 ZQ ZE ZF ZD ZB ZC Y3 Y2 Y4 Y7 ZA OX ZM ZL aBC aBB ZG Y8 Y9
theorem CU(b:Bool):AV.cells (.bool b)=[.bool b]:=rfl
theorem BD(b:Bool):AV.isAgg (.bool b)=false:=rfl
theorem FQ(k:IntKind)(n:Int):AV.cells (.int k n)=[.int k n]:=rfl
theorem E4(k:IntKind)(n:Int):AV.isAgg (.int k n)=false:=rfl
theorem FP(b:List UInt8):AV.cells (.str b)=[.str b]:=rfl
theorem E3(b:List UInt8):AV.isAgg (.str b)=false:=rfl
theorem I9(nl:Bool)(es:List AV)(cl:Bool):AV.cells (.sl nl es cl)=[.sl nl es cl]:=rfl
theorem HJ(nl:Bool)(es:List AV)(cl:Bool):AV.isAgg (.sl nl es cl)=false:=rfl
theorem JC(v:AV):AV.cells (.fp v)=[.fp v]:=rfl
theorem HM(v:AV):AV.isAgg (.fp v)=false:=rfl
theorem CR  : AV.cells (.nilp )=[.nilp ]:=rfl
theorem BA  : AV.isAgg (.nilp )=false:=rfl
theorem CT  : AV.cells (.nilf )=[.nilf ]:=rfl
theorem BC  : AV.isAgg (.nilf )=false:=rfl
theorem CS  : AV.cells (.nili )=[.nili ]:=rfl
theorem BB  : AV.isAgg (.nili )=false:=rfl
theorem JD(f:Nat)(cs:List AV):AV.cells (.fn f cs)=[.fn f cs]:=rfl
theorem HN(f:Nat)(cs:List AV):AV.isAgg (.fn f cs)=false:=rfl
theorem JA(k e o l c:Nat):AV.cells (.rf k e o l c)=[.rf k e o l c]:=rfl
theorem HK(k e o l c:Nat):AV.isAgg (.rf k e o l c)=false:=rfl
theorem JB(k e o:Nat):AV.cells (.pt k e o)=[.pt k e o]:=rfl
theorem HL(k e o:Nat):AV.isAgg (.pt k e o)=false:=rfl
theorem FR(v:AV):AV.cells (.ifc v)=[.ifc v]:=rfl
theorem E5(v:AV):AV.isAgg (.ifc v)=false:=rfl
attribute [go_sem] CU BD FQ E4 FP E3 I9 HJ JC HM CR BA CT BC CS BB JD HN JA HK JB HL FR E5 List.all_cons List.all_nil
attribute [go_sem] E7 E8 EO EM EN aF OJ jA xW F3 F0 KR DM G5 G4
 E6 FS uJ EU YI exists_eq_left' CZ E0 X.ev ZW aBD O7 ZZ aBG
 HY eP wS wR BK BL wQ BJ IG IH IA sH YD IC IB HX yZ eN eO H9 H7 H8 fZ sG HW HZ yY BM IE jQ ID YG YF DR H5 H6
 JL bin YS JK kD cE HD HE A8 E2 A7 HG HF A9 HH fits_agg fits_bool fits_int fits_str fits_sl fits_fp fits_nilp fits_fn fits_rf fits_pt fits_nilf fits_nili fits_ifc  aV EI GA F9 GC F8 qH J8 EE EG EH vX GB J6 J7 eqC enter result kJ pM
 List.map_cons List.map_nil List.length_cons List.length_nil List.replicate_succ List.replicate_zero List.cons_append List.nil_append List.getElem?_cons_zero List.getElem?_cons_succ List.drop_zero List.drop_succ_cons List.take_succ_cons List.take_zero
 Option.getD_some
end
section
attribute [go_sem] Nat.succ_eq_add_one Bool.and_true Bool.true_and Bool.and_false Bool.false_and Bool.or_true Bool.true_or Bool.or_false Bool.false_or Bool.not_true Bool.not_false Bool.false_eq_true cond_true cond_false Int.natCast_nonneg Int.toNat_natCast List.length_map List.getElem?_map and_self and_true true_and decide_true decide_false ite_true ite_false if_true if_false not_false_eq_true not_true_eq_false Int.lt_irrefl Bool.and_self Bool.or_self Bool.not_eq_true Bool.not_eq_false eq_self Int.toNat_zero Int.le_refl Int.natCast_zero Nat.zero_le Option.isSome_none Option.isSome_some beq_self_eq_true Option.getD_none Option.isNone_none Option.isNone_some ne_eq
def big:Nat:=16777216
structure Str where
 bs:List UInt8
 ok:bs.length<=big
def Str.av(s:Str):AV:=.str s.bs
structure Sl(α : Type) where
 nl:Bool
 es:List α
 cl:Bool
 ok:es.length<=big
def Sl.av{α : Type}(f : α -> AV)(s:Sl α):AV:=.sl s.nl (s.es.map f) s.cl
def aI(n:Int):AV:=.int .i64 n
structure aZ where
 v:Str
 c:Int
def aZ.av(x:aZ):AV:=.agg [.str x.v.bs,.int .i64 x.c]
structure Lin where
 c:Int
 ts:Sl aZ
def Lin.av(x:Lin):AV:=.agg [.int .i64 x.c,x.ts.av aZ.av]
structure bF where
 row:Str
 dims:Sl Lin
def bF.av(x:bF):AV:=.agg [.str x.row.bs,x.dims.av Lin.av]
structure Typ where
 elem:Str
 shape:bF
def Typ.av(x:Typ):AV:=.agg [.str x.elem.bs,.str x.shape.row.bs,x.shape.dims.av Lin.av]
structure aE where
 op:Str
 num:Int
 args:Sl Int
def aE.av(x:aE):AV:=.agg [.str x.op.bs,.int .i64 x.num,x.args.av aI]
structure Val where
 v:Str
 n:Int
def Val.av(x:Val):AV:=.agg [.str x.v.bs,.int .i64 x.n]
inductive aA where
 |mk (op:Str) (num value:Int) (name:Str) (at_:Sl Lin) (dyn:Bool) (check:Int) (fn:Sl aE) (knl:Bool) (kids:List aA) (kcl:Bool)
namespace aA
def op:aA->Str|mk a _ _ _ _ _ _ _ _ _ _=>a
def num:aA->Int|mk _ a _ _ _ _ _ _ _ _ _=>a
def value:aA->Int|mk _ _ a _ _ _ _ _ _ _ _=>a
def name:aA->Str|mk _ _ _ a _ _ _ _ _ _ _=>a
def at_:aA->Sl Lin|mk _ _ _ _ a _ _ _ _ _ _=>a
def dyn:aA->Bool|mk _ _ _ _ _ a _ _ _ _ _=>a
def check:aA->Int|mk _ _ _ _ _ _ a _ _ _ _=>a
def fn:aA->Sl aE|mk _ _ _ _ _ _ _ a _ _ _=>a
def knl:aA->Bool|mk _ _ _ _ _ _ _ _ a _ _=>a
def kids:aA->List aA|mk _ _ _ _ _ _ _ _ _ a _=>a
def kcl:aA->Bool|mk _ _ _ _ _ _ _ _ _ _ a=>a
end aA
mutual
def aA.av:aA->AV
 |.mk op num value name at_ dyn check fn knl kids kcl=>
  .agg [.str op.bs,.int .i64 num,.int .i64 value,.str name.bs,at_.av Lin.av,.bool dyn,.int .i64 check,fn.av aE.av,.sl knl (aA.avs kids) kcl]
def aA.avs:List aA->List AV
 |[]=>[]
 |p::r=>p.av::aA.avs r
end
theorem aA.avs_eq:∀l:List aA,aA.avs l=l.map aA.av
 |[]=>by simp[aA.avs]
 |p::r=>by simp[aA.avs,aA.avs_eq r]
def aA.kav(p:aA):AV:=.sl p.knl (p.kids.map aA.av) p.kcl
def aA.cells(p:aA):List AV:=
 [.str p.op.bs,.int .i64 p.num,.int .i64 p.value,.str p.name.bs,p.at_.av Lin.av,.bool p.dyn,.int .i64 p.check,p.fn.av aE.av,p.kav]
theorem aA.av_eq(p:aA):p.av = .agg p.cells:=by cases p;simp[aA.av,aA.cells,aA.kav,aA.avs_eq,op,num,value,name,at_,dyn,check,fn,knl,kids,kcl]
mutual
def aA.ok:aA->Prop
 |.mk _ _ _ _ _ _ _ _ _ kids _=>kids.length<=big/\aA.oks kids
def aA.oks:List aA->Prop
 |[]=>True
 |p::r=>p.ok/\aA.oks r
end
theorem aA.oks_iff:∀l:List aA,aA.oks l↔∀p∈l,p.ok
 |[]=>by simp[aA.oks]
 |p::r=>by simp[aA.oks,aA.oks_iff r]
theorem aA.ok_iff(p:aA):p.ok↔p.kids.length<=big/\∀q∈p.kids,q.ok:=by cases p;simp[aA.ok,aA.oks_iff,kids]
structure aO where
 kind:Int
 value:Int
 space:Sl Lin
 body:aA
 fn:Sl aE
 source:Int
 index:aA
 check:Int
def aO.cells(x:aO):List AV:=
 [.int .i64 x.kind,.int .i64 x.value,x.space.av Lin.av]++x.body.cells++[x.fn.av aE.av,.int .i64 x.source]++x.index.cells++[.int .i64 x.check]
def aO.av(x:aO):AV:=.agg x.cells
structure aL where
 vars:Sl Str
 wher:Sl Lin
 inputs:Int
 values:Sl Typ
 list:Sl aO
 results:Sl Int
def aL.cells(k:aL):List AV:=
 [k.vars.av Str.av,k.wher.av Lin.av,.int .i64 k.inputs,k.values.av Typ.av,k.list.av aO.av,k.results.av aI]
def aL.av(k:aL):AV:=.agg k.cells
theorem bA{α : Type}{f : α -> AV}(h:∀x,(f x).tree=true):∀l:List α,treeL (l.map f)=true
 |[]=>rfl
 |x::r=>by simp[treeL,h x,bA h r]
theorem uV(n:Int):(aI n).tree=true:=rfl
theorem Str.tree(s:Str):(Str.av s).tree=true:=rfl
theorem sB(l:List Int):treeL (l.map aI)=true:=bA uV l
theorem Str.treeL(l:List Str):Tev.treeL (l.map Str.av)=true:=bA Str.tree l
theorem KU(n:Int):aI n = .int .i64 n:=rfl
theorem Str.av_eq(s:Str):Str.av s = .str s.bs:=rfl
attribute [go_sem] uV Str.tree sB Str.treeL KU Str.av_eq Tev.treeL Sl.av
theorem aZ.avc(x:aZ):aZ.av x = .agg [.str x.v.bs,.int .i64 x.c]:=rfl
theorem aZ.cells_av(x:aZ):(aZ.av x).cells=[.str x.v.bs,.int .i64 x.c]:=by rw[aZ.avc];rfl
theorem aZ.isAgg_av(x:aZ):(aZ.av x).isAgg=true:=by rw[aZ.avc];rfl
theorem aZ.fits_av(x:aZ):(aZ.av x).fits 2 true=true:=by rw[aZ.avc];rfl
theorem aZ.tree_av(x:aZ):(aZ.av x).tree=true:=by rw[aZ.avc];simp[go_sem]
theorem aZ.treeL_av(l:List aZ):Tev.treeL (l.map aZ.av)=true:=bA aZ.tree_av l
theorem aZ.fld_av(off sz:Nat)(ag:Bool)(x:aZ):eN off sz ag [aZ.av x]=eN off sz ag [.agg [.str x.v.bs,.int .i64 x.c]]:=by rw[aZ.avc]
theorem aZ.fad_av(off sz:Nat)(ag:Bool)(x:aZ):eO off sz ag [.fp (aZ.av x)]=eO off sz ag [.fp (.agg [.str x.v.bs,.int .i64 x.c])]:=by rw[aZ.avc]
theorem aZ.box_av(h:Hp)(k:Nat)(x:aZ):eP h k [aZ.av x]=eP h k [.agg [.str x.v.bs,.int .i64 x.c]]:=by rw[aZ.avc]
theorem aZ.eqs_av(ng:Bool)(qs:List Nat)(x y:aZ):sH ng qs [aZ.av x,aZ.av y]=sH ng qs [.agg [.str x.v.bs,.int .i64 x.c],.agg [.str y.v.bs,.int .i64 y.c]]:=by rw[aZ.avc,aZ.avc]
attribute [go_sem ↓ high] aZ.eqs_av
attribute [go_sem high] aZ.cells_av aZ.isAgg_av aZ.fits_av aZ.tree_av aZ.treeL_av
attribute [go_sem ↓ high] aZ.fld_av aZ.fad_av aZ.box_av
theorem Lin.avc(x:Lin):Lin.av x = .agg [.int .i64 x.c,.sl x.ts.nl (x.ts.es.map aZ.av) x.ts.cl]:=rfl
theorem Lin.cells_av(x:Lin):(Lin.av x).cells=[.int .i64 x.c,.sl x.ts.nl (x.ts.es.map aZ.av) x.ts.cl]:=by rw[Lin.avc];rfl
theorem Lin.isAgg_av(x:Lin):(Lin.av x).isAgg=true:=by rw[Lin.avc];rfl
theorem Lin.fits_av(x:Lin):(Lin.av x).fits 2 true=true:=by rw[Lin.avc];rfl
theorem Lin.tree_av(x:Lin):(Lin.av x).tree=true:=by rw[Lin.avc];simp[go_sem]
theorem Lin.treeL_av(l:List Lin):Tev.treeL (l.map Lin.av)=true:=bA Lin.tree_av l
theorem Lin.fld_av(off sz:Nat)(ag:Bool)(x:Lin):eN off sz ag [Lin.av x]=eN off sz ag [.agg [.int .i64 x.c,.sl x.ts.nl (x.ts.es.map aZ.av) x.ts.cl]]:=by rw[Lin.avc]
theorem Lin.fad_av(off sz:Nat)(ag:Bool)(x:Lin):eO off sz ag [.fp (Lin.av x)]=eO off sz ag [.fp (.agg [.int .i64 x.c,.sl x.ts.nl (x.ts.es.map aZ.av) x.ts.cl])]:=by rw[Lin.avc]
theorem Lin.box_av(h:Hp)(k:Nat)(x:Lin):eP h k [Lin.av x]=eP h k [.agg [.int .i64 x.c,.sl x.ts.nl (x.ts.es.map aZ.av) x.ts.cl]]:=by rw[Lin.avc]
attribute [go_sem high] Lin.cells_av Lin.isAgg_av Lin.fits_av Lin.tree_av Lin.treeL_av
attribute [go_sem ↓ high] Lin.fld_av Lin.fad_av Lin.box_av
theorem bF.avc(x:bF):bF.av x = .agg [.str x.row.bs,.sl x.dims.nl (x.dims.es.map Lin.av) x.dims.cl]:=rfl
theorem bF.cells_av(x:bF):(bF.av x).cells=[.str x.row.bs,.sl x.dims.nl (x.dims.es.map Lin.av) x.dims.cl]:=by rw[bF.avc];rfl
theorem bF.isAgg_av(x:bF):(bF.av x).isAgg=true:=by rw[bF.avc];rfl
theorem bF.fits_av(x:bF):(bF.av x).fits 2 true=true:=by rw[bF.avc];rfl
theorem bF.tree_av(x:bF):(bF.av x).tree=true:=by rw[bF.avc];simp[go_sem]
theorem bF.treeL_av(l:List bF):Tev.treeL (l.map bF.av)=true:=bA bF.tree_av l
theorem bF.fld_av(off sz:Nat)(ag:Bool)(x:bF):eN off sz ag [bF.av x]=eN off sz ag [.agg [.str x.row.bs,.sl x.dims.nl (x.dims.es.map Lin.av) x.dims.cl]]:=by rw[bF.avc]
theorem bF.fad_av(off sz:Nat)(ag:Bool)(x:bF):eO off sz ag [.fp (bF.av x)]=eO off sz ag [.fp (.agg [.str x.row.bs,.sl x.dims.nl (x.dims.es.map Lin.av) x.dims.cl])]:=by rw[bF.avc]
theorem bF.box_av(h:Hp)(k:Nat)(x:bF):eP h k [bF.av x]=eP h k [.agg [.str x.row.bs,.sl x.dims.nl (x.dims.es.map Lin.av) x.dims.cl]]:=by rw[bF.avc]
attribute [go_sem high] bF.cells_av bF.isAgg_av bF.fits_av bF.tree_av bF.treeL_av
attribute [go_sem ↓ high] bF.fld_av bF.fad_av bF.box_av
theorem Typ.avc(x:Typ):Typ.av x = .agg [.str x.elem.bs,.str x.shape.row.bs,.sl x.shape.dims.nl (x.shape.dims.es.map Lin.av) x.shape.dims.cl]:=rfl
theorem Typ.cells_av(x:Typ):(Typ.av x).cells=[.str x.elem.bs,.str x.shape.row.bs,.sl x.shape.dims.nl (x.shape.dims.es.map Lin.av) x.shape.dims.cl]:=by rw[Typ.avc];rfl
theorem Typ.isAgg_av(x:Typ):(Typ.av x).isAgg=true:=by rw[Typ.avc];rfl
theorem Typ.fits_av(x:Typ):(Typ.av x).fits 3 true=true:=by rw[Typ.avc];rfl
theorem Typ.tree_av(x:Typ):(Typ.av x).tree=true:=by rw[Typ.avc];simp[go_sem]
theorem Typ.treeL_av(l:List Typ):Tev.treeL (l.map Typ.av)=true:=bA Typ.tree_av l
theorem Typ.fld_av(off sz:Nat)(ag:Bool)(x:Typ):eN off sz ag [Typ.av x]=eN off sz ag [.agg [.str x.elem.bs,.str x.shape.row.bs,.sl x.shape.dims.nl (x.shape.dims.es.map Lin.av) x.shape.dims.cl]]:=by rw[Typ.avc]
theorem Typ.fad_av(off sz:Nat)(ag:Bool)(x:Typ):eO off sz ag [.fp (Typ.av x)]=eO off sz ag [.fp (.agg [.str x.elem.bs,.str x.shape.row.bs,.sl x.shape.dims.nl (x.shape.dims.es.map Lin.av) x.shape.dims.cl])]:=by rw[Typ.avc]
theorem Typ.box_av(h:Hp)(k:Nat)(x:Typ):eP h k [Typ.av x]=eP h k [.agg [.str x.elem.bs,.str x.shape.row.bs,.sl x.shape.dims.nl (x.shape.dims.es.map Lin.av) x.shape.dims.cl]]:=by rw[Typ.avc]
attribute [go_sem high] Typ.cells_av Typ.isAgg_av Typ.fits_av Typ.tree_av Typ.treeL_av
attribute [go_sem ↓ high] Typ.fld_av Typ.fad_av Typ.box_av
theorem aE.avc(x:aE):aE.av x = .agg [.str x.op.bs,.int .i64 x.num,.sl x.args.nl (x.args.es.map aI) x.args.cl]:=rfl
theorem aE.cells_av(x:aE):(aE.av x).cells=[.str x.op.bs,.int .i64 x.num,.sl x.args.nl (x.args.es.map aI) x.args.cl]:=by rw[aE.avc];rfl
theorem aE.isAgg_av(x:aE):(aE.av x).isAgg=true:=by rw[aE.avc];rfl
theorem aE.fits_av(x:aE):(aE.av x).fits 3 true=true:=by rw[aE.avc];rfl
theorem aE.tree_av(x:aE):(aE.av x).tree=true:=by rw[aE.avc];simp[go_sem]
theorem aE.treeL_av(l:List aE):Tev.treeL (l.map aE.av)=true:=bA aE.tree_av l
theorem aE.fld_av(off sz:Nat)(ag:Bool)(x:aE):eN off sz ag [aE.av x]=eN off sz ag [.agg [.str x.op.bs,.int .i64 x.num,.sl x.args.nl (x.args.es.map aI) x.args.cl]]:=by rw[aE.avc]
theorem aE.fad_av(off sz:Nat)(ag:Bool)(x:aE):eO off sz ag [.fp (aE.av x)]=eO off sz ag [.fp (.agg [.str x.op.bs,.int .i64 x.num,.sl x.args.nl (x.args.es.map aI) x.args.cl])]:=by rw[aE.avc]
theorem aE.box_av(h:Hp)(k:Nat)(x:aE):eP h k [aE.av x]=eP h k [.agg [.str x.op.bs,.int .i64 x.num,.sl x.args.nl (x.args.es.map aI) x.args.cl]]:=by rw[aE.avc]
attribute [go_sem high] aE.cells_av aE.isAgg_av aE.fits_av aE.tree_av aE.treeL_av
attribute [go_sem ↓ high] aE.fld_av aE.fad_av aE.box_av
theorem Val.avc(x:Val):Val.av x = .agg [.str x.v.bs,.int .i64 x.n]:=rfl
theorem Val.cells_av(x:Val):(Val.av x).cells=[.str x.v.bs,.int .i64 x.n]:=by rw[Val.avc];rfl
theorem Val.isAgg_av(x:Val):(Val.av x).isAgg=true:=by rw[Val.avc];rfl
theorem Val.fits_av(x:Val):(Val.av x).fits 2 true=true:=by rw[Val.avc];rfl
theorem Val.tree_av(x:Val):(Val.av x).tree=true:=by rw[Val.avc];simp[go_sem]
theorem Val.treeL_av(l:List Val):Tev.treeL (l.map Val.av)=true:=bA Val.tree_av l
theorem Val.fld_av(off sz:Nat)(ag:Bool)(x:Val):eN off sz ag [Val.av x]=eN off sz ag [.agg [.str x.v.bs,.int .i64 x.n]]:=by rw[Val.avc]
theorem Val.fad_av(off sz:Nat)(ag:Bool)(x:Val):eO off sz ag [.fp (Val.av x)]=eO off sz ag [.fp (.agg [.str x.v.bs,.int .i64 x.n])]:=by rw[Val.avc]
theorem Val.box_av(h:Hp)(k:Nat)(x:Val):eP h k [Val.av x]=eP h k [.agg [.str x.v.bs,.int .i64 x.n]]:=by rw[Val.avc]
theorem Val.eqs_av(ng:Bool)(qs:List Nat)(x y:Val):sH ng qs [Val.av x,Val.av y]=sH ng qs [.agg [.str x.v.bs,.int .i64 x.n],.agg [.str y.v.bs,.int .i64 y.n]]:=by rw[Val.avc,Val.avc]
attribute [go_sem ↓ high] Val.eqs_av
attribute [go_sem high] Val.cells_av Val.isAgg_av Val.fits_av Val.tree_av Val.treeL_av
attribute [go_sem ↓ high] Val.fld_av Val.fad_av Val.box_av
theorem aA.avc(x:aA):aA.av x = .agg [.str x.op.bs,.int .i64 x.num,.int .i64 x.value,.str x.name.bs,.sl x.at_.nl (x.at_.es.map Lin.av) x.at_.cl,.bool x.dyn,.int .i64 x.check,.sl x.fn.nl (x.fn.es.map aE.av) x.fn.cl,.sl x.knl (x.kids.map aA.av) x.kcl]:=aA.av_eq x
theorem aA.cells_av(x:aA):(aA.av x).cells=[.str x.op.bs,.int .i64 x.num,.int .i64 x.value,.str x.name.bs,.sl x.at_.nl (x.at_.es.map Lin.av) x.at_.cl,.bool x.dyn,.int .i64 x.check,.sl x.fn.nl (x.fn.es.map aE.av) x.fn.cl,.sl x.knl (x.kids.map aA.av) x.kcl]:=by rw[aA.avc];rfl
theorem aA.isAgg_av(x:aA):(aA.av x).isAgg=true:=by rw[aA.avc];rfl
theorem aA.fits_av(x:aA):(aA.av x).fits 9 true=true:=by rw[aA.avc];rfl
mutual
theorem aA.tree_av:∀x:aA,(aA.av x).tree=true
 |.mk op num value name at_ dyn check fn knl kids kcl=>by have:=aA.tree_avs kids;simp[aA.av,go_sem,bA Lin.tree_av,bA aE.tree_av,this]
theorem aA.tree_avs:∀l:List aA,Tev.treeL (aA.avs l)=true
 |[]=>by simp[aA.avs,Tev.treeL]
 |p::r=>by simp[aA.avs,Tev.treeL,aA.tree_av p,aA.tree_avs r]
end
theorem aA.treeL_av(l:List aA):Tev.treeL (l.map aA.av)=true:=bA aA.tree_av l
theorem aA.fld_av(off sz:Nat)(ag:Bool)(x:aA):eN off sz ag [aA.av x]=eN off sz ag [.agg [.str x.op.bs,.int .i64 x.num,.int .i64 x.value,.str x.name.bs,.sl x.at_.nl (x.at_.es.map Lin.av) x.at_.cl,.bool x.dyn,.int .i64 x.check,.sl x.fn.nl (x.fn.es.map aE.av) x.fn.cl,.sl x.knl (x.kids.map aA.av) x.kcl]]:=by rw[aA.avc]
theorem aA.fad_av(off sz:Nat)(ag:Bool)(x:aA):eO off sz ag [.fp (aA.av x)]=eO off sz ag [.fp (.agg [.str x.op.bs,.int .i64 x.num,.int .i64 x.value,.str x.name.bs,.sl x.at_.nl (x.at_.es.map Lin.av) x.at_.cl,.bool x.dyn,.int .i64 x.check,.sl x.fn.nl (x.fn.es.map aE.av) x.fn.cl,.sl x.knl (x.kids.map aA.av) x.kcl])]:=by rw[aA.avc]
theorem aA.box_av(h:Hp)(k:Nat)(x:aA):eP h k [aA.av x]=eP h k [.agg [.str x.op.bs,.int .i64 x.num,.int .i64 x.value,.str x.name.bs,.sl x.at_.nl (x.at_.es.map Lin.av) x.at_.cl,.bool x.dyn,.int .i64 x.check,.sl x.fn.nl (x.fn.es.map aE.av) x.fn.cl,.sl x.knl (x.kids.map aA.av) x.kcl]]:=by rw[aA.avc]
attribute [go_sem high] aA.cells_av aA.isAgg_av aA.fits_av aA.tree_av aA.treeL_av
attribute [go_sem ↓ high] aA.fld_av aA.fad_av aA.box_av
theorem aO.avc(x:aO):aO.av x = .agg [.int .i64 x.kind,.int .i64 x.value,.sl x.space.nl (x.space.es.map Lin.av) x.space.cl,.str x.body.op.bs,.int .i64 x.body.num,.int .i64 x.body.value,.str x.body.name.bs,.sl x.body.at_.nl (x.body.at_.es.map Lin.av) x.body.at_.cl,.bool x.body.dyn,.int .i64 x.body.check,.sl x.body.fn.nl (x.body.fn.es.map aE.av) x.body.fn.cl,.sl x.body.knl (x.body.kids.map aA.av) x.body.kcl,.sl x.fn.nl (x.fn.es.map aE.av) x.fn.cl,.int .i64 x.source,.str x.index.op.bs,.int .i64 x.index.num,.int .i64 x.index.value,.str x.index.name.bs,.sl x.index.at_.nl (x.index.at_.es.map Lin.av) x.index.at_.cl,.bool x.index.dyn,.int .i64 x.index.check,.sl x.index.fn.nl (x.index.fn.es.map aE.av) x.index.fn.cl,.sl x.index.knl (x.index.kids.map aA.av) x.index.kcl,.int .i64 x.check]:=rfl
theorem aO.cells_av(x:aO):(aO.av x).cells=[.int .i64 x.kind,.int .i64 x.value,.sl x.space.nl (x.space.es.map Lin.av) x.space.cl,.str x.body.op.bs,.int .i64 x.body.num,.int .i64 x.body.value,.str x.body.name.bs,.sl x.body.at_.nl (x.body.at_.es.map Lin.av) x.body.at_.cl,.bool x.body.dyn,.int .i64 x.body.check,.sl x.body.fn.nl (x.body.fn.es.map aE.av) x.body.fn.cl,.sl x.body.knl (x.body.kids.map aA.av) x.body.kcl,.sl x.fn.nl (x.fn.es.map aE.av) x.fn.cl,.int .i64 x.source,.str x.index.op.bs,.int .i64 x.index.num,.int .i64 x.index.value,.str x.index.name.bs,.sl x.index.at_.nl (x.index.at_.es.map Lin.av) x.index.at_.cl,.bool x.index.dyn,.int .i64 x.index.check,.sl x.index.fn.nl (x.index.fn.es.map aE.av) x.index.fn.cl,.sl x.index.knl (x.index.kids.map aA.av) x.index.kcl,.int .i64 x.check]:=by rw[aO.avc];rfl
theorem aO.isAgg_av(x:aO):(aO.av x).isAgg=true:=by rw[aO.avc];rfl
theorem aO.fits_av(x:aO):(aO.av x).fits 24 true=true:=by rw[aO.avc];rfl
theorem aO.tree_av(x:aO):(aO.av x).tree=true:=by rw[aO.avc];simp[go_sem]
theorem aO.treeL_av(l:List aO):Tev.treeL (l.map aO.av)=true:=bA aO.tree_av l
theorem aO.fld_av(off sz:Nat)(ag:Bool)(x:aO):eN off sz ag [aO.av x]=eN off sz ag [.agg [.int .i64 x.kind,.int .i64 x.value,.sl x.space.nl (x.space.es.map Lin.av) x.space.cl,.str x.body.op.bs,.int .i64 x.body.num,.int .i64 x.body.value,.str x.body.name.bs,.sl x.body.at_.nl (x.body.at_.es.map Lin.av) x.body.at_.cl,.bool x.body.dyn,.int .i64 x.body.check,.sl x.body.fn.nl (x.body.fn.es.map aE.av) x.body.fn.cl,.sl x.body.knl (x.body.kids.map aA.av) x.body.kcl,.sl x.fn.nl (x.fn.es.map aE.av) x.fn.cl,.int .i64 x.source,.str x.index.op.bs,.int .i64 x.index.num,.int .i64 x.index.value,.str x.index.name.bs,.sl x.index.at_.nl (x.index.at_.es.map Lin.av) x.index.at_.cl,.bool x.index.dyn,.int .i64 x.index.check,.sl x.index.fn.nl (x.index.fn.es.map aE.av) x.index.fn.cl,.sl x.index.knl (x.index.kids.map aA.av) x.index.kcl,.int .i64 x.check]]:=by rw[aO.avc]
theorem aO.fad_av(off sz:Nat)(ag:Bool)(x:aO):eO off sz ag [.fp (aO.av x)]=eO off sz ag [.fp (.agg [.int .i64 x.kind,.int .i64 x.value,.sl x.space.nl (x.space.es.map Lin.av) x.space.cl,.str x.body.op.bs,.int .i64 x.body.num,.int .i64 x.body.value,.str x.body.name.bs,.sl x.body.at_.nl (x.body.at_.es.map Lin.av) x.body.at_.cl,.bool x.body.dyn,.int .i64 x.body.check,.sl x.body.fn.nl (x.body.fn.es.map aE.av) x.body.fn.cl,.sl x.body.knl (x.body.kids.map aA.av) x.body.kcl,.sl x.fn.nl (x.fn.es.map aE.av) x.fn.cl,.int .i64 x.source,.str x.index.op.bs,.int .i64 x.index.num,.int .i64 x.index.value,.str x.index.name.bs,.sl x.index.at_.nl (x.index.at_.es.map Lin.av) x.index.at_.cl,.bool x.index.dyn,.int .i64 x.index.check,.sl x.index.fn.nl (x.index.fn.es.map aE.av) x.index.fn.cl,.sl x.index.knl (x.index.kids.map aA.av) x.index.kcl,.int .i64 x.check])]:=by rw[aO.avc]
theorem aO.box_av(h:Hp)(k:Nat)(x:aO):eP h k [aO.av x]=eP h k [.agg [.int .i64 x.kind,.int .i64 x.value,.sl x.space.nl (x.space.es.map Lin.av) x.space.cl,.str x.body.op.bs,.int .i64 x.body.num,.int .i64 x.body.value,.str x.body.name.bs,.sl x.body.at_.nl (x.body.at_.es.map Lin.av) x.body.at_.cl,.bool x.body.dyn,.int .i64 x.body.check,.sl x.body.fn.nl (x.body.fn.es.map aE.av) x.body.fn.cl,.sl x.body.knl (x.body.kids.map aA.av) x.body.kcl,.sl x.fn.nl (x.fn.es.map aE.av) x.fn.cl,.int .i64 x.source,.str x.index.op.bs,.int .i64 x.index.num,.int .i64 x.index.value,.str x.index.name.bs,.sl x.index.at_.nl (x.index.at_.es.map Lin.av) x.index.at_.cl,.bool x.index.dyn,.int .i64 x.index.check,.sl x.index.fn.nl (x.index.fn.es.map aE.av) x.index.fn.cl,.sl x.index.knl (x.index.kids.map aA.av) x.index.kcl,.int .i64 x.check]]:=by rw[aO.avc]
attribute [go_sem high] aO.cells_av aO.isAgg_av aO.fits_av aO.tree_av aO.treeL_av
attribute [go_sem ↓ high] aO.fld_av aO.fad_av aO.box_av
theorem aL.avc(x:aL):aL.av x = .agg [.sl x.vars.nl (x.vars.es.map Str.av) x.vars.cl,.sl x.wher.nl (x.wher.es.map Lin.av) x.wher.cl,.int .i64 x.inputs,.sl x.values.nl (x.values.es.map Typ.av) x.values.cl,.sl x.list.nl (x.list.es.map aO.av) x.list.cl,.sl x.results.nl (x.results.es.map aI) x.results.cl]:=rfl
theorem aL.cells_av(x:aL):(aL.av x).cells=[.sl x.vars.nl (x.vars.es.map Str.av) x.vars.cl,.sl x.wher.nl (x.wher.es.map Lin.av) x.wher.cl,.int .i64 x.inputs,.sl x.values.nl (x.values.es.map Typ.av) x.values.cl,.sl x.list.nl (x.list.es.map aO.av) x.list.cl,.sl x.results.nl (x.results.es.map aI) x.results.cl]:=by rw[aL.avc];rfl
theorem aL.isAgg_av(x:aL):(aL.av x).isAgg=true:=by rw[aL.avc];rfl
theorem aL.fits_av(x:aL):(aL.av x).fits 6 true=true:=by rw[aL.avc];rfl
theorem aL.tree_av(x:aL):(aL.av x).tree=true:=by rw[aL.avc];simp[go_sem]
theorem aL.treeL_av(l:List aL):Tev.treeL (l.map aL.av)=true:=bA aL.tree_av l
theorem aL.fld_av(off sz:Nat)(ag:Bool)(x:aL):eN off sz ag [aL.av x]=eN off sz ag [.agg [.sl x.vars.nl (x.vars.es.map Str.av) x.vars.cl,.sl x.wher.nl (x.wher.es.map Lin.av) x.wher.cl,.int .i64 x.inputs,.sl x.values.nl (x.values.es.map Typ.av) x.values.cl,.sl x.list.nl (x.list.es.map aO.av) x.list.cl,.sl x.results.nl (x.results.es.map aI) x.results.cl]]:=by rw[aL.avc]
theorem aL.fad_av(off sz:Nat)(ag:Bool)(x:aL):eO off sz ag [.fp (aL.av x)]=eO off sz ag [.fp (.agg [.sl x.vars.nl (x.vars.es.map Str.av) x.vars.cl,.sl x.wher.nl (x.wher.es.map Lin.av) x.wher.cl,.int .i64 x.inputs,.sl x.values.nl (x.values.es.map Typ.av) x.values.cl,.sl x.list.nl (x.list.es.map aO.av) x.list.cl,.sl x.results.nl (x.results.es.map aI) x.results.cl])]:=by rw[aL.avc]
theorem aL.box_av(h:Hp)(k:Nat)(x:aL):eP h k [aL.av x]=eP h k [.agg [.sl x.vars.nl (x.vars.es.map Str.av) x.vars.cl,.sl x.wher.nl (x.wher.es.map Lin.av) x.wher.cl,.int .i64 x.inputs,.sl x.values.nl (x.values.es.map Typ.av) x.values.cl,.sl x.list.nl (x.list.es.map aO.av) x.list.cl,.sl x.results.nl (x.results.es.map aI) x.results.cl]]:=by rw[aL.avc]
attribute [go_sem high] aL.cells_av aL.isAgg_av aL.fits_av aL.tree_av aL.treeL_av
attribute [go_sem ↓ high] aL.fld_av aL.fad_av aL.box_av
theorem YC{α : Type}(d:List α)(x : α)(r:List α):(d++x::r)[d.length]?=some x:=by simp
theorem PB{α : Type}(d:List α)(x : α)(r:List α):decide ((d.length:Int)<((d++x::r).length:Int))=true:=by simp only[List.length_append,List.length_cons,decide_eq_true_eq];omega
theorem aAz{α : Type}(d:List α):decide ((d.length:Int)<((d++[]).length:Int))=false:=by simp
theorem c7{n:Int}(h1 : -1000000000000000000<=n)(h2:n<=1000000000000000000):wr .i64 n=n:=by simp only[wr];rw[if_pos (by omega)]
theorem bL{α : Type}{d:List α}{x : α}{r:List α}(h:(d++x::r).length<=big):wr .i64 ((d.length:Int)+1)=((d++[x]).length:Int):=by simp only[List.length_append,List.length_cons,List.length_nil,big]at *;rw[c7 (by omega) (by omega)];omega
theorem bJ{pg:Pg}{kb:Nat}{α : Type}(es:List α)(E:List α -> List α -> List AV->Hp->Prop){b:C}{clr:List Bool}{st:St}{Q:Ex->St->Prop}{t:Tok Q}(h0:E [] es (clear clr st.env) st.hp)
  (hend:∀env hp,E es [] env hp->XX pg kb b ⟨env,hp⟩ (iL (λ_=>False) Q) ⟨⟩)
  (hstep:∀d x r env hp,es=d++x::r->E d (x::r) env hp->XX pg kb b ⟨env,hp⟩ (iL (λst'=>E (d++[x]) r (clear clr st'.env) st'.hp) Q) ⟨⟩) :
  XX pg kb (.loop b clr) st Q t:=by
 refine F4 (α:={p:List α×List α // es=p.1++p.2}) (λp=>p.1.2.length) (λp=>E p.1.1 p.1.2) ⟨([],es),rfl⟩ h0 ?_;rintro⟨⟨d,r⟩,hes⟩ env hp hE;dsimp only at hes hE ⊢;cases r with
 |nil=>
  rw[List.append_nil]at hes;subst hes;obtain⟨n,ex,st',h1,h2⟩:=hend env hp hE;refine⟨n,ex,st',h1,?_⟩;cases ex with
  |nor=>exact h2.elim
  |ext i=>exact h2
  |ret=>exact h2
 |cons x r=>
  obtain⟨n,ex,st',h1,h2⟩:=hstep d x r env hp hes hE;refine⟨n,ex,st',h1,?_⟩;cases ex with
  |nor=>exact⟨⟨(d++[x],r),by simp[hes]⟩,by simp,h2⟩
  |ext i=>exact h2
  |ret=>exact h2
theorem o7{h:Hp}{v:AV}(hv:v.tree=true):conv h v=some v:=by
 have:snap depth h v=some (v,[]):=by unfold depth snap;rw[if_pos hv]
 cases v<;>first|(simp only[conv,this];rfl)|simp[AV.tree]at hv
theorem KB{α : Type}(x y : α):(some x=some y)=(x=y):=by simp
theorem OG(x y:Bool):(AV.bool x=AV.bool y)=(x=y):=by simp
theorem YB(k:IntKind)(x y:Int):(AV.int k x=AV.int k y)=(x=y):=by simp
theorem WE(x y:List UInt8):(AV.str x=AV.str y)=(x=y):=by simp
theorem X7{α : Type}(l:List α):(0<=(l.length:Int))=True:=by simp
def dY(pg:Pg)(f:Nat)(ts:List AV)(P:AV->Prop):Prop:=∃r,Ret pg f ts r/\P r
def IP(res:List (Sum Nat (Nat×Nat×Bool)))(P:AV->Prop)(ex:Ex)(st:St):Prop:=
 match ex with
 |.ext _=>False
 |_=>∃v,result st res=some v/\∃r,conv st.hp v=some r/\P r
theorem IM(res:List (Sum Nat (Nat×Nat×Bool)))(P:AV->Prop)(st:St):IP res P .nor st=∃v,result st res=some v/\∃r,conv st.hp v=some r/\P r:=rfl
theorem IL(res:List (Sum Nat (Nat×Nat×Bool)))(P:AV->Prop)(st:St):IP res P .ret st=∃v,result st res=some v/\∃r,conv st.hp v=some r/\P r:=rfl
theorem dY.ofX{pg:Pg}{f:Nat}{cf:CF}{vs:List AV}{P:AV->Prop}(hf:pg.fs f=some cf)(hw:XX pg 0 cf.body ⟨enter cf vs,[]⟩ (IP cf.res P) ⟨⟩):dY pg f vs P:=by
 obtain⟨n,ex,st,h1,h2⟩:=hw;cases ex with
 |ext i=>exact h2.elim
 |nor=>obtain⟨v,h3,r,h4,h5⟩:=h2;exact⟨r,Ret.of hf ⟨n,.nor,st,h1,v,h3,h4⟩,h5⟩
 |ret=>obtain⟨v,h3,r,h4,h5⟩:=h2;exact⟨r,Ret.of hf ⟨n,.ret,st,h1,v,h3,h4⟩,h5⟩
def IsB(v:AV):Prop:=∃b:Bool,v = .bool b
theorem HI(b:Bool):IsB (.bool b)=True:=by simp only[IsB,eq_iff_iff,iff_true];exact⟨b,rfl⟩
theorem dY.mono{pg:Pg}{f:Nat}{ts:List AV}{P P':AV->Prop}(h:dY pg f ts P)(hP:∀r,P r->P' r):dY pg f ts P':=by obtain⟨r,h1,h2⟩:=h;exact⟨r,h1,hP r h2⟩
theorem Ret.P{pg:Pg}{f:Nat}{ts:List AV}{r:AV}{P:AV->Prop}(h:Ret pg f ts r)(hP:P r):dY pg f ts P:=⟨r,h,hP⟩
theorem cN{pg:Pg}{kb:Nat}{α : Type}(es:List α)(U:List α -> List AV->List AV)(I:List α -> List α -> Hp->Prop){b:C}{clr:List Bool}{st:St}{Q:Ex->St->Prop}{t:Tok Q}
  (h0:clear clr st.env=U [] (clear clr st.env)) (i0:I [] es st.hp)
  (hend:∀hp,I es [] hp->XX pg kb b ⟨U es (clear clr st.env),hp⟩ (iL (λ_=>False) Q) ⟨⟩)
  (hstep:∀d x r hp,es=d++x::r->I d (x::r) hp->XX pg kb b ⟨U d (clear clr st.env),hp⟩ (iL (λst'=>clear clr st'.env=U (d++[x]) (clear clr st.env)/\I (d++[x]) r st'.hp) Q) ⟨⟩) :
  XX pg kb (.loop b clr) st Q t:=by
 refine bJ es (λd r env hp=>env=U d (clear clr st.env)/\I d r hp) ⟨h0,i0⟩ ?_ ?_;rintro env hp ⟨rfl,h⟩;exact hend hp h;rintro d x r env hp hes ⟨rfl,h⟩;exact hstep d x r hp hes h
attribute [go_sem ↓] IM IL
attribute [go_sem] HI
theorem nM(f:AV->Option (AV×List Nat)):bO f []=some ([],[]):=rfl
theorem gP(f:AV->Option (AV×List Nat))(x:AV)(r:List AV):bO f (x::r)=match f x with
  |none=>none
  |some (y,s)=>match bO f r with
   |none=>none
   |some (l,s')=>some (y::l,s++s'):=rfl
theorem nH(d:Nat)(h:Hp)(v:AV):snap (d+1) h v=(if v.tree then some (v,[]) else
  match v with
  |.agg cs=>(bO (snap d h) cs).map fun(l,s)=>(.agg l,s)
  |.tup cs=>(bO (snap d h) cs).map fun(l,s)=>(.tup l,s)
  |.sl nl es cl=>(bO (snap d h) es).map fun(l,s)=>(.sl nl l cl,s)
  |.ifc v=>(snap d h v).map fun(x,s)=>(.ifc x,s)
  |.ift t v=>(snap d h v).map fun(x,s)=>(.ift t x,s)
  |.fnm t v=>(snap d h v).map fun(x,s)=>(.fnm t x,s)
  |.fn f cs=>(bO (snap d h) cs).map fun(l,s)=>(.fn f l,s)
  |.rf k e off len cap=>
   match h.get k with
   |some (e',.blk cs esz ag ti _)=>
    if e'=e then
     match iZ esz ag len (cs.drop off) with
     |some es=>(bO (snap d h) es).map fun(l,s)=>(.sl false l (ti&&len==cap),k::s)
     |none=>none
    else none
   |_=>none
  |.pt k e off=>
   match h.get k with
   |some (e',.blk cs esz ag _ _)=>
    if e'=e/\off=0/\esz=cs.length then
     match bO (snap d h) cs with
     |some (l,s)=>if ag then some (.fp (.agg l),k::s) else match l with|[v]=>if v.isAgg then none else some (.fp v,k::s)|_=>none
     |none=>none
    else none
   |_=>none
  |_=>none):=by
 rfl
theorem aBH(c:UInt8)(t:List UInt8):sG true false [.str (c::t),.int .i64 1]=val (.str t):=by
 have h1:(1:Int)<=((t.length:Int)+1):=by omega
 simp[sG,fF,h1]
attribute [go_sem ↓] aBH
theorem pE{pg pg':Pg}(h:∀f cf,pg.fs f=some cf->pg'.fs f=some cf)(hg:pg.gl=pg'.gl)(hx:∀f,pg.ex f=none):∀n,iA (aP pg n) (aP pg' n)
 |0=>⟨by intro f a kb hp r hq;simp[aP]at hq,by intro k e a hp r hq;simp[aP]at hq⟩
 |n+1=>by
  refine⟨?_,λk e a hp r hq=>by
   simp only[aP]at hq ⊢;exact lK (λc b st r hr=>by rw[<-hg];exact kE (pE h hg hx n) (Nat.le_refl _) hr) hq⟩
  intro f a kb hp r hq;simp only[aP]at hq ⊢;cases hf:pg.fs f with
  |none=>simp[hf,hx]at hq
  |some cf=>
   rw[hf]at hq;rw[h f cf hf];simp only at hq ⊢;cases he:aY pg.gl (aP pg n) kb n cf.body ⟨enter cf a,hp⟩ with
   |none=>simp[he]at hq
   |some p=>rw[he]at hq;rw[<-hg,kE (pE h hg hx n) (Nat.le_refl _) he];exact hq
theorem Ret.closed{pg:Pg}(t:BT CF)(ht:∀f cf,t.find f=some cf->pg.fs f=some cf)(n:Nat){f:Nat}{ts:List AV}{r:AV}(h:bB (aP ⟨λf=>t.find f,pg.gl,λ_=>none⟩ n) f ts=some r):Ret pg f ts r:=
 ⟨n,dU (pE (pg:=⟨λf=>t.find f,pg.gl,λ_=>none⟩) ht rfl (λ_=>rfl) n) h⟩
theorem aHI:(((1:Nat):Int))=1:=rfl
theorem aHH:(((2:Nat):Int))=2:=rfl
theorem aHG:(((3:Nat):Int))=3:=rfl
theorem aHF:(((4:Nat):Int))=4:=rfl
theorem aHE:(((5:Nat):Int))=5:=rfl
theorem aHD:(((6:Nat):Int))=6:=rfl
theorem aHC:(((7:Nat):Int))=7:=rfl
theorem aHB:(((8:Nat):Int))=8:=rfl
theorem aHA:(((9:Nat):Int))=9:=rfl
theorem aBd:(((10:Nat):Int))=10:=rfl
theorem aBc:(((11:Nat):Int))=11:=rfl
theorem aBb:(((12:Nat):Int))=12:=rfl
attribute [go_sem] aHI aHH aHG aHF aHE aHD aHC aHB aHA aBd aBc aBb
attribute [go_sem] Z Y N i0 i1 bN bY sN
attribute [go_sem] YC PB aAz o7 KB OG YB WE clear X7 oY
end
section
def HQ:List Bool:=[true,true,false,false,false,false,false,true,true,false,false,false,false,false,false,false,false,false,false]
def HR(esz:Nat)(ag:Bool):C:=
 (.seq (.reg [⟨(some 9),(.bin .lss),[.t 8,.t 7],none,0,0⟩] false)
 (.seq (.cond (.t 9) .skip
  (.exit 0))
 (.seq (.block 1 (.seq (.reg [⟨(some 10),.mov,[.t 8],none,0,0⟩,
  ⟨(some 5),.mov,[.t 10],none,0,0⟩] false)
 (.seq (.reg [⟨(some 11),.mov,[.t 1],none,0,0⟩,
  ⟨(some 12),.mov,[.t 0],none,0,0⟩,
  ⟨(some 13),.mov,[.t 5],none,0,0⟩,
  ⟨(some 14),(.iad esz ag none),[.t 12,.t 13],none,0,0⟩,
  ⟨(some 15),(.load esz ag),[.t 14],none,0,0⟩,
  ⟨(some 16),(.callv false false),[.t 11,.t 15],none,0,1⟩] false)
 (.cond (.t 16) (.seq (.reg [⟨(some 17),.mov,[.t 5],none,0,0⟩,
   ⟨(some 4),.mov,[.t 17],none,0,0⟩] false)
  .ret)
  .skip))))
 (.reg [⟨(some 18),(.bin .add),[.t 8,.c (.int .i64 1)],none,0,0⟩,
  ⟨(some 8),.mov,[.t 18],none,0,0⟩] false))))
def aAI(esz:Nat)(ag:Bool):CF:=⟨2,19,[.inl 4],
 (.seq (.reg [⟨(some 4),.mov,[.c (.int .i64 0)],none,0,0⟩] false)
 (.seq (.seq (.reg [⟨(some 6),.mov,[.t 0],none,0,0⟩,
  ⟨(some 7),(.len 1),[.t 6],none,0,0⟩,
  ⟨(some 8),.mov,[.c (.int .i64 0)],none,0,0⟩] false)
 (.block 0 (.loop (HR esz ag) HQ)))
 (.seq (.reg [⟨(some 4),.mov,[.c (.int .i64 (-1))],none,0,0⟩] false)
 .ret)))⟩
def aBe(n:Nat):CF:=⟨2,9,[.inl 4],
 (.seq (.reg [⟨(some 4),.mov,[.c (.bool false)],none,0,0⟩] false)
 (.seq (.reg [⟨(some 5),.mov,[.t 0],none,0,0⟩,
  ⟨(some 6),.mov,[.t 1],none,0,0⟩,
  ⟨(some 7),(.call n false false),[.t 5,.t 6],none,0,1⟩,
  ⟨(some 8),(.bin .geq),[.t 7,.c (.int .i64 0)],none,0,0⟩,
  ⟨(some 4),.mov,[.t 8],none,0,0⟩] false)
 .ret))⟩
def HO:List Bool:=[true,true,false,false,false,false,false,true,true,false,false,false,false,false,false,false,false,false,false]
def HP(esz:Nat)(ag:Bool)(k:K):C:=
 (.seq (.reg [⟨(some 9),(.bin .lss),[.t 8,.t 7],none,0,0⟩] false)
 (.seq (.cond (.t 9) .skip
  (.exit 0))
 (.seq (.block 1 (.seq (.reg [⟨(some 10),.mov,[.t 8],none,0,0⟩,
  ⟨(some 5),.mov,[.t 10],none,0,0⟩] false)
 (.seq (.reg [⟨(some 11),.mov,[.t 1],none,0,0⟩,
  ⟨(some 12),.mov,[.t 0],none,0,0⟩,
  ⟨(some 13),.mov,[.t 5],none,0,0⟩,
  ⟨(some 14),(.iad esz ag none),[.t 12,.t 13],none,0,0⟩,
  ⟨(some 15),(.load esz ag),[.t 14],none,0,0⟩,
  ⟨(some 16),k,[.t 11,.t 15],none,0,0⟩] false)
 (.cond (.t 16) (.seq (.reg [⟨(some 17),.mov,[.t 5],none,0,0⟩,
   ⟨(some 4),.mov,[.t 17],none,0,0⟩] false)
  .ret)
  .skip))))
 (.reg [⟨(some 18),(.bin .add),[.t 8,.c (.int .i64 1)],none,0,0⟩,
  ⟨(some 8),.mov,[.t 18],none,0,0⟩] false))))
def aAH(esz:Nat)(ag:Bool)(k:K):CF:=⟨2,19,[.inl 4],
 (.seq (.reg [⟨(some 4),.mov,[.c (.int .i64 0)],none,0,0⟩] false)
 (.seq (.seq (.reg [⟨(some 6),.mov,[.t 0],none,0,0⟩,
  ⟨(some 7),(.len 1),[.t 6],none,0,0⟩,
  ⟨(some 8),.mov,[.c (.int .i64 0)],none,0,0⟩] false)
 (.block 0 (.loop (HP esz ag k) HO)))
 (.seq (.reg [⟨(some 4),.mov,[.c (.int .i64 (-1))],none,0,0⟩] false)
 .ret)))⟩
def YM:List Bool:=[false,true,true,false,false,false,false,false,false,false,false,false,false,false,false,true,true,true,false,false,false,false,false,false,false,false,false,false,false,false,false,false]
def YN(esz:Nat)(ag:Bool)(z:List AV):C:=
 (.seq (.reg [⟨(some 18),(.bin .lss),[.t 17,.t 16],none,0,0⟩] false)
 (.seq (.cond (.t 18) .skip
  (.exit 0))
 (.seq (.block 1 (.seq (.reg [⟨(some 19),.mov,[.t 17],none,0,0⟩,
  ⟨(some 20),(.iad esz ag none),[.t 15,.t 17],none,0,0⟩,
  ⟨(some 21),(.load esz ag),[.t 20],none,0,0⟩,
  ⟨(some 8),(.alloc z ag),[],none,0,1⟩,
  ⟨(some 7),.mov,[.t 19],none,0,0⟩,
  ⟨none,(.store esz ag),[.t 8,.t 21],none,0,0⟩] false)
 (.seq (.reg [⟨(some 22),.mov,[.t 1],none,0,0⟩,
  ⟨(some 23),.mov,[.t 7],none,0,0⟩,
  ⟨(some 24),(.iad esz ag none),[.t 22,.t 23],none,0,0⟩,
  ⟨(some 25),(.load esz ag),[.t 24],none,0,0⟩,
  ⟨(some 9),(.alloc z ag),[],none,0,5⟩,
  ⟨none,(.store esz ag),[.t 9,.t 25],none,0,0⟩] false)
 (.seq (.reg [⟨(some 26),.mov,[.t 2],none,0,0⟩,
  ⟨(some 27),(.load esz ag),[.t 8],none,0,0⟩,
  ⟨(some 28),(.load esz ag),[.t 9],none,0,0⟩,
  ⟨(some 29),(.callv false false),[.t 26,.t 27,.t 28],none,0,9⟩,
  ⟨(some 30),(.un .not),[.t 29],none,0,0⟩] false)
 (.cond (.t 30) (.seq (.reg [⟨(some 6),.mov,[.c (.bool false)],none,0,0⟩] false)
  .ret)
  .skip)))))
 (.reg [⟨(some 31),(.bin .add),[.t 17,.c (.int .i64 1)],none,0,0⟩,
  ⟨(some 17),.mov,[.t 31],none,0,0⟩] false))))
def eqF(esz:Nat)(ag:Bool)(z:List AV):CF:=⟨3,32,[.inl 6],
 (.seq (.reg [⟨(some 6),.mov,[.c (.bool false)],none,0,0⟩] false)
 (.seq (.seq (.reg [⟨(some 10),.mov,[.t 0],none,0,0⟩,
  ⟨(some 11),(.len 1),[.t 10],none,0,0⟩,
  ⟨(some 12),.mov,[.t 1],none,0,0⟩,
  ⟨(some 13),(.len 1),[.t 12],none,0,0⟩,
  ⟨(some 14),(.bin .neq),[.t 11,.t 13],none,0,0⟩] false)
 (.cond (.t 14) (.seq (.reg [⟨(some 6),.mov,[.c (.bool false)],none,0,0⟩] false)
  .ret)
  .skip))
 (.seq (.seq (.reg [⟨(some 15),.mov,[.t 0],none,0,0⟩,
  ⟨(some 16),(.len 1),[.t 15],none,0,0⟩,
  ⟨(some 17),.mov,[.c (.int .i64 0)],none,0,0⟩] false)
 (.block 0 (.loop (YN esz ag z) YM)))
 (.seq (.reg [⟨(some 6),.mov,[.c (.bool true)],none,0,0⟩] false)
 .ret))))⟩
def YJ:List Bool:=[true,true,false,false,false,false,false,false,false,false,false,false,true,true,false,false,false,false,false,false,false,false,false,false,false,false]
def YK(esz:Nat)(ag:Bool)(k:K):C:=
 (.seq (.reg [⟨(some 14),(.bin .lss),[.t 13,.t 12],none,0,0⟩] false)
 (.seq (.cond (.t 14) .skip
  (.exit 0))
 (.seq (.block 1 (.seq (.reg [⟨(some 15),.mov,[.t 13],none,0,0⟩,
  ⟨(some 5),.mov,[.t 15],none,0,0⟩] false)
 (.seq (.reg [⟨(some 16),.mov,[.t 0],none,0,0⟩,
  ⟨(some 17),.mov,[.t 5],none,0,0⟩,
  ⟨(some 18),(.iad esz ag none),[.t 16,.t 17],none,3,0⟩,
  ⟨(some 19),(.load esz ag),[.t 18],none,7,0⟩,
  ⟨(some 20),.mov,[.t 1],none,0,0⟩,
  ⟨(some 21),.mov,[.t 5],none,0,0⟩,
  ⟨(some 22),(.iad esz ag none),[.t 20,.t 21],none,48,0⟩,
  ⟨(some 23),(.load esz ag),[.t 22],none,112,0⟩,
  ⟨(some 24),k,[.t 19,.t 23],none,255,0⟩] true)
 (.cond (.t 24) (.seq (.reg [⟨(some 4),.mov,[.c (.bool false)],none,0,0⟩] false)
  .ret)
  .skip))))
 (.reg [⟨(some 25),(.bin .add),[.t 13,.c (.int .i64 1)],none,0,0⟩,
  ⟨(some 13),.mov,[.t 25],none,0,0⟩] false))))
def eqV(esz:Nat)(ag:Bool)(k:K):CF:=⟨2,26,[.inl 4],
 (.seq (.reg [⟨(some 4),.mov,[.c (.bool false)],none,0,0⟩] false)
 (.seq (.seq (.reg [⟨(some 6),.mov,[.t 0],none,0,0⟩,
  ⟨(some 7),(.len 1),[.t 6],none,0,0⟩,
  ⟨(some 8),.mov,[.t 1],none,0,0⟩,
  ⟨(some 9),(.len 1),[.t 8],none,0,0⟩,
  ⟨(some 10),(.bin .neq),[.t 7,.t 9],none,0,0⟩] false)
 (.cond (.t 10) (.seq (.reg [⟨(some 4),.mov,[.c (.bool false)],none,0,0⟩] false)
  .ret)
  .skip))
 (.seq (.seq (.reg [⟨(some 11),.mov,[.t 0],none,0,0⟩,
  ⟨(some 12),(.len 1),[.t 11],none,0,0⟩,
  ⟨(some 13),.mov,[.c (.int .i64 0)],none,0,0⟩] false)
 (.block 0 (.loop (YK esz ag k) YJ)))
 (.seq (.reg [⟨(some 4),.mov,[.c (.bool true)],none,0,0⟩] false)
 .ret))))⟩
def AX:List Bool:=[false,false,false,true,false,false,false,true,true,true,false,false,false,false,false,false,false,false,false,false,false,false,false]
def AY(g:Nat):C:=
 (.seq (.reg [⟨(some 10),(.bin .lss),[.t 9,.t 8],none,0,0⟩] false)
 (.seq (.cond (.t 10) .skip
  (.exit 0))
 (.seq (.block 1 (.seq (.reg [⟨(some 11),(.iad 2 true none),[.t 7,.t 9],none,0,0⟩,
  ⟨(some 12),(.load 2 true),[.t 11],none,0,0⟩,
  ⟨(some 6),(.alloc [(.int .i64 0),(.sl true [] true)] true),[],none,0,5⟩,
  ⟨none,(.store 2 true),[.t 6,.t 12],none,0,0⟩] false)
 (.seq (.reg [⟨(some 13),(.load 2 true),[.t 6],none,0,0⟩,
  ⟨(some 14),(.call 51 false false),[.t 13],none,0,9⟩,
  ⟨(some 15),(.un .not),[.t 14],none,0,0⟩,
  ⟨(some 16),.mov,[.t 15],none,0,0⟩,
  ⟨(some 17),(.load 2 true),[.t 6],(some (16,false)),0,0⟩,
  ⟨(some 18),(.call 96 false false),[.t 17],(some (16,false)),0,13⟩,
  ⟨(some 19),(.mkf g),[.t 3],(some (16,false)),0,0⟩,
  ⟨(some 20),(.call 95 false false),[.t 18,.t 19],(some (16,false)),0,17⟩,
  ⟨(some 21),.pick,[.t 16,.c (.bool true),.t 20],none,0,0⟩] false)
 (.cond (.t 21) (.seq (.reg [⟨(some 4),.mov,[.c (.bool false)],none,0,0⟩] false)
  .ret)
  .skip))))
 (.reg [⟨(some 22),(.bin .add),[.t 9,.c (.int .i64 1)],none,0,0⟩,
  ⟨(some 9),.mov,[.t 22],none,0,0⟩] false))))
def O9(g:Nat):CF:=⟨2,23,[.inl 4],
 (.seq (.reg [⟨(some 3),.box,[.t 1],none,0,1⟩,
  ⟨(some 4),.mov,[.c (.bool false)],none,0,0⟩] false)
 (.seq (.seq (.reg [⟨(some 7),.mov,[.t 0],none,0,0⟩,
  ⟨(some 8),(.len 1),[.t 7],none,0,0⟩,
  ⟨(some 9),.mov,[.c (.int .i64 0)],none,0,0⟩] false)
 (.block 0 (.loop (AY g) AX)))
 (.seq (.reg [⟨(some 4),.mov,[.c (.bool true)],none,0,0⟩] false)
 .ret)))⟩
section
variable{pg:Pg}
theorem DL{f:Nat}{esz:Nat}{ag:Bool}(hf:pg.fs f=some (aAI esz ag)){α : Type}(enc : α -> AV)(hfit:∀x,(enc x).fits esz ag=true)(htree:∀x,(enc x).tree=true)
  (nl cl:Bool) (es:List α) (hb:es.length<=big) (g:Nat) (cs:List AV) (hcs:treeL cs=true) (p : α -> Bool) (hp:∀x∈es,Ret pg g (enc x::cs) (.bool (p x))) :
  dY pg f [.sl nl (es.map enc) cl,.fn g cs] (λr=>∃i:Int,r = .int .i64 i/\decide (0<=i)=es.any p):=by
 refine dY.ofX hf ?_;unfold aAI;simp only[go_sem,seval];refine cN es (λd e=>cG e (some 8) (.int .i64 d.length)) (λd r hp=>es.any p=r.any p) rfl ?_ ?_ ?_;rfl;intro hp' hI;simp only[HR,HQ,go_sem,seval];simp[hI];intro d x r hp' hes hI;subst hes;simp only[HR,HQ,hfit,go_sem,seval];refine bI (hp x (by simp)) (by simp only[treeL,htree,hcs,List.cons_append,List.nil_append,Bool.and_true]) rfl ?_;simp only[go_sem,seval];cases hx:p x;simp only[bL hb,go_sem,seval];simpa[hx] using hI;simp only[go_sem,seval];simp[hx]
theorem wW{f n:Nat}(hf:pg.fs f=some (aBe n)){a b:AV}{q:Bool}(ha:treeL [a,b]=true)(h:dY pg n [a,b] (λr=>∃i:Int,r = .int .i64 i/\decide (0<=i)=q)) :
  Ret pg f [a,b] (.bool q):=by
 obtain⟨_,h,i,rfl,hi⟩:=h;refine Ret.ofX hf ?_;unfold aBe;simp only[go_sem,seval];refine bI h ha rfl ?_;simp only[go_sem,seval];exact hi
theorem KV{f:Nat}{esz:Nat}{ag:Bool}{k:K}(hf:pg.fs f=some (aAH esz ag k)){α : Type}(enc : α -> AV)(hfit:∀x,(enc x).fits esz ag=true)
  (nl cl:Bool) (es:List α) (hb:es.length<=big) (v:AV) (p : α -> Bool) (hk:∀(kb s:Nat)(h:Hp)(x : α)(Q:AV->Eff->Prop)(t:Tok Q),XO pg kb k s h [v,enc x] Q t=Q (.bool (p x)) (.pat [] [])) :
  dY pg f [.sl nl (es.map enc) cl,v] (λr=>∃i:Int,r = .int .i64 i/\decide (0<=i)=es.any p):=by
 refine dY.ofX hf ?_;unfold aAH;simp only[go_sem,seval];refine cN es (λd e=>cG e (some 8) (.int .i64 d.length)) (λd r hp=>es.any p=r.any p) rfl ?_ ?_ ?_;rfl;intro hp' hI;simp only[HP,HO,go_sem,seval];simp[hI];intro d x r hp' hes hI;subst hes;simp only[HP,HO,hfit,hk,go_sem,seval];cases hx:p x;simp only[bL hb,go_sem,seval];simpa[hx] using hI;simp only[go_sem,seval];simp[hx]
def eqL{α β : Type}(q : α -> β -> Bool):List α -> List β -> Bool
 |[],[]=>true
 |x::r,y::s=>q x y&&eqL q r s
 |_,_=>false
theorem qL{α β : Type}{q : α -> β -> Bool}:∀{a:List α}{b:List β},eqL q a b=true->a.length=b.length
 |[],[],_=>rfl
 |x::r,y::s,h=>by simp only[eqL,aD]at h;simp[qL h.2]
 |[],_::_,h=>by simp[eqL]at h
 |_::_,[],h=>by simp[eqL]at h
theorem BP{f:Nat}{esz:Nat}{ag:Bool}{z:List AV}(hz:z.length=esz)(hf:pg.fs f=some (eqF esz ag z)){α : Type}(enc : α -> AV)(cells : α -> List AV)(henc:∀x,enc x = .agg (cells x))(hcl:∀x,(cells x).length=esz)(hone:∀x,aV (cells x)=true)(hag:ag=true)(htree:∀x,(enc x).tree=true)
  (nl cl nl' cl':Bool) (es es':List α) (hb:es.length<=big) (g:Nat) (q : α -> α -> Bool) (hq:∀x∈es,∀y∈es',Ret pg g [enc x,enc y] (.bool (q x y))) :
  Ret pg f [.sl nl (es.map enc) cl,.sl nl' (es'.map enc) cl',.fn g []] (.bool (eqL q es es')):=by
 have hfit:∀x,(enc x).fits esz ag=true:=by intro x;rw[henc,hag];simp[AV.fits,hcl]
 have hcells:∀x,(enc x).cells=cells x:=by intro x;rw[henc];rfl
 have hdr:List.drop esz z=[]:=by rw[<-hz];simp
 have hpart:∀x,cX (cells x) 0 esz ag=some (enc x):=by intro x;rw[hag];have:=hcl x;simp[cX,henc,<-this]
 refine Ret.ofX hf ?_;unfold eqF;simp only[go_sem,seval];cases hl:decide ((es.length:Int)=es'.length)
 case false=>simp only[hl,go_sem,seval];cases he:eqL q es es';rfl;exact absurd (congrArg Int.ofNat (qL he)) (by simpa using hl)
 simp only[hl,go_sem,seval];have hl':es.length=es'.length:=by simp at hl;omega
 refine cN es (λd e=>cG e (some 17) (.int .i64 d.length)) (λd r hp=>∃d2 r2,es'=d2++r2/\d2.length=d.length/\eqL q es es'=eqL q r r2) rfl ?_ ?_ ?_;exact⟨[],es',rfl,rfl,rfl⟩;rintro hp ⟨d2,r2,h1,h2,h3⟩;simp only[YN,YM,go_sem,seval];rw[h3];have:r2=[]:=by have:=congrArg List.length h1;simp at this;exact eG (by omega)
 subst this;rfl;rintro d x r hp hes ⟨d2,r2,h1,h2,h3⟩;have hlen:r2.length=(x::r).length:=by have e1:=congrArg List.length h1;have e2:=congrArg List.length hes;simp at e1 e2 ⊢;omega
 obtain⟨y,r2,rfl⟩:∃y s,r2=y::s:=by
  cases r2 with
  |nil=>simp at hlen
  |cons y s=>exact⟨y,s,rfl⟩
 have hy:es'[d.length]?=some y:=by rw[h1,<-h2];simp
 subst hes;simp only[YN,YM,hfit,hcells,hz,hcl,hone,hpart,hy,hdr,Nat.zero_add,Nat.le_refl,List.append_nil,go_sem,seval];refine bI (hq x (by simp) y (by rw[h1];simp)) (by simp only[treeL,htree,Bool.and_true,List.append_nil]) rfl ?_;simp only[go_sem,seval];cases hx:q x y;simp only[go_sem,seval];rw[h3];simp[eqL,hx];simp only[bL hb,go_sem,seval];exact⟨d2++[y],r2,by simp[h1],by simp[h2],by simpa[eqL,hx] using h3⟩
theorem II{f:Nat}{esz:Nat}{ag:Bool}{k:K}(hf:pg.fs f=some (eqV esz ag k)){α : Type}(enc : α -> AV)(hfit:∀x,(enc x).fits esz ag=true)
  (nl cl nl' cl':Bool) (es es':List α) (hb:es.length<=big) (q : α -> α -> Bool)
  (hk:∀(kb s:Nat)(h:Hp)(x y : α)(Q:AV->Eff->Prop)(t:Tok Q),XO pg kb k s h [enc x,enc y] Q t=Q (.bool (!q x y)) (.pat [] [])) (hnc:k.isCall=false) :
  Ret pg f [.sl nl (es.map enc) cl,.sl nl' (es'.map enc) cl'] (.bool (eqL q es es')):=by
 refine Ret.ofX hf ?_;unfold eqV;simp only[go_sem,seval];cases hl:decide ((es.length:Int)=es'.length)
 case false=>simp only[hl,go_sem,seval];cases he:eqL q es es';rfl;exact absurd (congrArg Int.ofNat (qL he)) (by simpa using hl)
 simp only[hl,go_sem,seval];have hl':es.length=es'.length:=by simp at hl;omega
 refine cN es (λd e=>cG e (some 13) (.int .i64 d.length)) (λd r hp=>∃d2 r2,es'=d2++r2/\d2.length=d.length/\eqL q es es'=eqL q r r2) rfl ?_ ?_ ?_;exact⟨[],es',rfl,rfl,rfl⟩;rintro hp ⟨d2,r2,h1,h2,h3⟩;simp only[YK,YJ,go_sem,seval];rw[h3];have:r2=[]:=by have:=congrArg List.length h1;simp at this;exact eG (by omega)
 subst this;rfl;rintro d x r hp hes ⟨d2,r2,h1,h2,h3⟩;have hlen:r2.length=(x::r).length:=by have e1:=congrArg List.length h1;have e2:=congrArg List.length hes;simp at e1 e2 ⊢;omega
 obtain⟨y,r2,rfl⟩:∃y s,r2=y::s:=by
  cases r2 with
  |nil=>simp at hlen
  |cons y s=>exact⟨y,s,rfl⟩
 have hy:es'[d.length]?=some y:=by rw[h1,<-h2];simp
 subst hes;simp only[YK,YJ,hfit,hy,hk,go_sem,seval];refine bP ?_;cases hx:q x y;simp only[go_sem,seval];rw[h3];simp[eqL,hx];simp only[bL hb,go_sem,seval];exact⟨d2++[y],r2,by simp[h1],by simp[h2],by simpa[eqL,hx] using h3⟩
end
end
end Go.Tev
