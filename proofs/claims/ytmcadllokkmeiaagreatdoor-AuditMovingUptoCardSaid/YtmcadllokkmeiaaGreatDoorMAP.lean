import Derived.Test.YtmcadllokkmeiaaGreatDoorMAO
import Derived.KernelRfl
import Derived.Test.YtmcadllokkmeiaaGreatDoorMAG
set_option linter.all false
section
namespace Go.Tev
structure Tok.{u}{α : Sort u}(a : α):Type where
def XX(pg:Pg)(kb:Nat)(c:C)(st:St)(Q:Ex->St->Prop)(_:Tok Q):Prop:=WX pg kb c st Q
def XR(pg:Pg)(kb:Nat)(rs:List R)(st:St)(Q:St->Prop)(_:Tok Q):Prop:=WR pg kb rs st Q
def XT(pg:Pg)(kb:Nat)(rs:List R)(st:St)(Q:St->List Eff->Prop)(_:Tok Q):Prop:=WT pg kb rs st Q
def XO(pg:Pg)(kb:Nat)(k:K)(s:Nat)(h:Hp)(vs:List AV)(Q:AV->Eff->Prop)(_:Tok Q):Prop:=WO pg kb k s h vs Q
def XG(v:AV)(b:Bool)(A B:Unit->Prop)(_:Tok (A,B)):Prop:=gdQ v b (A ()) (B ())
def XC(v:AV)(A B:Unit->Prop)(_:Tok (A,B)):Prop:=I1 v (A ()) (B ())
def XV(o:Option (AV×Eff))(Q:AV->Eff->Prop)(_:Tok Q):Prop:=BS o Q
variable{pg:Pg}{kb:Nat}
theorem LC(st:St)(Q:Ex->St->Prop)(t:Tok Q):XX pg kb .skip st Q t=Q .nor st:=LN st Q
theorem LE(id:Nat)(st:St)(Q:Ex->St->Prop)(t:Tok Q):XX pg kb (.exit id) st Q t=Q (.ext id) st:=LP id st Q
theorem OO(st:St)(Q:Ex->St->Prop)(t:Tok Q):XX pg kb .ret st Q t=Q .ret st:=PN st Q
theorem OP(rs:List R)(st:St)(Q:Ex->St->Prop)(t:Tok Q):XX pg kb (.reg rs false) st Q t=XR pg kb rs st (fun st'=>Q .nor st') ⟨⟩:=PO rs st Q
theorem LD(rs:List R)(st:St)(Q:Ex->St->Prop)(t:Tok Q):XX pg kb (.reg rs true) st Q t=XT pg kb rs st (fun st' es=>iQ 0 rs es=true/\Q .nor st') ⟨⟩:=LO rs st Q
theorem LF(c:X)(a b:C)(st:St)(Q:Ex->St->Prop)(t:Tok Q):XX pg kb (.cond c a b) st Q t=XC (c.ev pg.gl st.env) (fun _=>XX pg kb a st Q t) (fun _=>XX pg kb b st Q t) ⟨⟩:=LQ c a b st Q
theorem ON(a b:C)(st:St)(Q:Ex->St->Prop)(t:Tok Q):XX pg kb (.seq a b) st Q t=XX pg kb a st (jZ (fun st'=>XX pg kb b st' Q t) Q) ⟨⟩:=PM a b st Q
theorem JM(id:Nat)(b:C)(st:St)(Q:Ex->St->Prop)(t:Tok Q):XX pg kb (.block id b) st Q t=XX pg kb b st (lL id Q) ⟨⟩:=JT id b st Q
theorem nG(b:C)(clr:List Bool)(st:St)(Q:Ex->St->Prop)(t:Tok Q):XX pg kb (.loop b clr) st Q t=XX pg kb b ⟨clear clr st.env,st.hp⟩ (jZ (fun st'=>XX pg kb (.loop b clr) st' Q t) Q) ⟨⟩:=D7 b clr st Q
theorem nF{α : Type}(μ : α -> Nat)(E : α -> List AV->Hp->Prop){b:C}{clr:List Bool}{st:St}{Q:Ex->St->Prop}{t:Tok Q}(a : α)(h0:E a (clear clr st.env) st.hp)
  (step:∀a env hp,E a env hp->XX pg kb b ⟨env,hp⟩ (jZ (fun st'=>∃a',μ a' < μ a/\E a' (clear clr st'.env) st'.hp) Q) ⟨⟩) :
  XX pg kb (.loop b clr) st Q t:=F4 μ E a h0 step
theorem OS(st:St)(A:St->Prop)(t:Tok A):XR pg kb [] st A t=A st:=PQ st A
theorem LH(d:Option Nat)(k:K)(xs:List X)(bef s:Nat)(rs:List R)(st:St)(A:St->Prop)(t:Tok A) :
  XR pg kb (⟨d,k,xs,none,bef,s⟩::rs) st A t=XO pg kb k s st.hp (xs.map (X.ev pg.gl st.env)) (fun v eff=>XR pg kb rs ⟨cD st.env d v,eff.app st.hp⟩ A t) ⟨⟩:=D9 d k xs bef s rs st A
theorem JO(d:Option Nat)(k:K)(xs:List X)(g:Nat)(b:Bool)(bef s:Nat)(rs:List R)(st:St)(A:St->Prop)(t:Tok A) :
  XR pg kb (⟨d,k,xs,some (g,b),bef,s⟩::rs) st A t =
   XG (eC st.env g) b (fun _=>XO pg kb k s st.hp (xs.map (X.ev pg.gl st.env)) (fun v eff=>XR pg kb rs ⟨cD st.env d v,eff.app st.hp⟩ A t) ⟨⟩) (fun _=>XR pg kb rs ⟨cD st.env d (.tup []),st.hp⟩ A t) ⟨⟩:=
 JV d k xs g b bef s rs st A
theorem OQ(st:St)(A:St->List Eff->Prop)(t:Tok A):XT pg kb [] st A t=A st []:=PP st A
theorem LG(d:Option Nat)(k:K)(xs:List X)(bef s:Nat)(rs:List R)(st:St)(A:St->List Eff->Prop)(t:Tok A) :
  XT pg kb (⟨d,k,xs,none,bef,s⟩::rs) st A t=XO pg kb k s st.hp (xs.map (X.ev pg.gl st.env)) (fun v eff=>XT pg kb rs ⟨cD st.env d v,eff.app st.hp⟩ (fun st' es=>A st' (eff::es)) ⟨⟩) ⟨⟩:=D8 d k xs bef s rs st A
theorem JN(d:Option Nat)(k:K)(xs:List X)(g:Nat)(b:Bool)(bef s:Nat)(rs:List R)(st:St)(A:St->List Eff->Prop)(t:Tok A) :
  XT pg kb (⟨d,k,xs,some (g,b),bef,s⟩::rs) st A t =
   XG (eC st.env g) b (fun _=>XO pg kb k s st.hp (xs.map (X.ev pg.gl st.env)) (fun v eff=>XT pg kb rs ⟨cD st.env d v,eff.app st.hp⟩ (fun st' es=>A st' (eff::es)) ⟨⟩) ⟨⟩)
    (fun _=>XT pg kb rs ⟨cD st.env d (.tup []),st.hp⟩ (fun st' es=>A st' (.pat [] []::es)) ⟨⟩) ⟨⟩:=
 JU d k xs g b bef s rs st A
theorem D6(A B:Unit->Prop)(t:Tok (A,B)):XC (.bool true) A B t=A ():=rfl
theorem A9(A B:Unit->Prop)(t:Tok (A,B)):XC (.bool false) A B t=B ():=rfl
theorem aK{c:Bool}{A B:Unit->Prop}{t:Tok (A,B)}(h1:c=true->A ())(h2:c=false->B ()):XC (.bool c) A B t:=by
 cases c
 ·exact h2 rfl
 ·exact h1 rfl
theorem L4(A B:Unit->Prop)(t:Tok (A,B)):XG (.bool true) true A B t=A ():=rfl
theorem L8(A B:Unit->Prop)(t:Tok (A,B)):XG (.bool false) false A B t=A ():=rfl
theorem L5(A B:Unit->Prop)(t:Tok (A,B)):XG (.bool true) false A B t=B ():=rfl
theorem L7(A B:Unit->Prop)(t:Tok (A,B)):XG (.bool false) true A B t=B ():=rfl
theorem L6(b:Bool)(A B:Unit->Prop)(t:Tok (A,B)):XG (.tup []) b A B t=B ():=rfl
theorem aJ{c b:Bool}{A B:Unit->Prop}{t:Tok (A,B)}(h1:c=true->XG (.bool true) b A B t)(h2:c=false->XG (.bool false) b A B t):XG (.bool c) b A B t:=by
 cases c
 ·exact h2 rfl
 ·exact h1 rfl
theorem D4(v:AV)(e:Eff)(Q:AV->Eff->Prop)(t:Tok Q):XV (some (v,e)) Q t=Q v e:=rfl
theorem cK{f s:Nat}{th:Bool}{h:Hp}{vs ts:List AV}{keys:List Nat}{r v:AV}{pa:List Ent}{Q:AV->Eff->Prop}{t:Tok Q}(hr:Ret pg f ts r)
  (hm:bJ (snap depth h) vs=some (ts,keys)) (hv:dH h (kb+s) th r=some (v,pa)) (q:Q v (.pat ((kb+s)::keys) ((if r.flat then [] else aW h keys)++pa))) :
  XO pg kb (.call f th false) s h vs Q t:=(LR hr hm hv).mpr q
theorem cG(d:Nat)(h:Hp):∀{vs:List AV},treeL vs=true->bJ (snap (d+1) h) vs=some (vs,[])
 |[],_=>rfl
 |x::r,q=>by
  simp only[treeL,Bool.and_eq_true]at q
  have e:snap (d+1) h x=some (x,[]):=by unfold snap;rw[if_pos q.1]
  rw[bJ,e,cG d h q.2]
  rfl
def AV.notOs:AV->Bool
 |.os .. => false
 |_=>true
theorem aB{f s:Nat}{th:Bool}{h:Hp}{vs:List AV}{r:AV}{Q:AV->Eff->Prop}{t:Tok Q}(hr:Ret pg f vs r)
  (hm:treeL vs=true) (hv:r.notOs=true) (q:Q r (.pat [kb+s] [])) :
  XO pg kb (.call f th false) s h vs Q t:=by
 refine cK hr (cG 63 h hm) (v:=r) (pa:=[]) ?_ ?_
 ·cases r<;>first|rfl|simp[AV.notOs]at hv
 ·have:(if r.flat then ([]:List Ent) else aW h [])++[]=[]:=by split<;>rfl
  rw[this]
  exact q
theorem mR{f s:Nat}{th im:Bool}{h h':Hp}{vs:List AV}{r:AV}{Q:AV->Eff->Prop}{t:Tok Q}(hm:im=true\/bJ (snap depth h) vs=none){B:Nat}(hB:iY kb s vs=B)(hr:oM pg f vs B h r h')
   (hq:Q r (.whole h')):XO pg kb (.call f th im) s h vs Q t:=JW hm hB hr hq
theorem JQ{f s:Nat}{th im:Bool}{h:Hp}{cs args:List AV}{Q:AV->Eff->Prop}{t:Tok Q} :
  XO pg kb (.callv th im) s h (.fn f cs::args) Q t=XO pg kb (.call f th im) s h (args++cs) Q t:=rfl
theorem Ret.ofX{f:Nat}{cf:CF}{vs:List AV}{r:AV}(hf:pg.fs f=some cf)(hw:XX pg 0 cf.body ⟨enter cf vs,[]⟩ (K3 cf.res r) ⟨⟩):Ret pg f vs r:=Ret.of hf hw
def IX(res:List (Sum Nat (Nat×Nat×Bool)))(r:AV)(h:Hp)(ex:Ex)(st:St):Prop:=(match ex with|.ext _=>False|_=>True)/\result st res=some r/\st.hp=h
theorem oM.ofX{f:Nat}{cf:CF}{vs:List AV}{h:Hp}{r:AV}{h':Hp}(hf:pg.fs f=some cf)(hw:XX pg kb cf.body ⟨enter cf vs,h⟩ (IX cf.res r h') ⟨⟩):oM pg f vs kb h r h':=oM.of hf hw
theorem IW(res:List (Sum Nat (Nat×Nat×Bool)))(r:AV)(h:Hp)(st:St):IX res r h .nor st=(result st res=some r/\st.hp=h):=by simp[IX]
theorem IV(res:List (Sum Nat (Nat×Nat×Bool)))(r:AV)(h:Hp)(st:St):IX res r h .ret st=(result st res=some r/\st.hp=h):=by simp[IX]
theorem LI(s:Nat)(h:Hp)(c a b:Bool)(Q:AV->Eff->Prop)(t:Tok Q):XO pg kb .pick s h [.bool c,.bool a,.bool b] Q t=Q (.bool (bif c then a else b)) (.pat [] []):=by
 show WO pg kb .pick s h _ Q=_
 rw[cA rfl];cases c<;>rfl
theorem F2(s:Nat)(h:Hp)(a b:AV)(Q:AV->Eff->Prop)(t:Tok Q):XO pg kb .pick s h [.bool true,a,b] Q t=Q a (.pat [] []):=by
 show WO pg kb .pick s h _ Q=_
 rw[cA rfl];rfl
theorem F3(s:Nat)(h:Hp)(a b:AV)(Q:AV->Eff->Prop)(t:Tok Q):XO pg kb .pick s h [.bool false,a,b] Q t=Q b (.pat [] []):=by
 show WO pg kb .pick s h _ Q=_
 rw[cA rfl];rfl
theorem OX(s:Nat)(h:Hp)(vs:List AV)(Q:AV->Eff->Prop)(t:Tok Q):XO pg kb (.mov) s h vs Q t=XV (H7 vs) Q ⟨⟩:=cA rfl s h vs Q
theorem PI(s:Nat)(h:Hp)(vs:List AV)(Q:AV->Eff->Prop)(t:Tok Q):XO pg kb (.box) s h vs Q t=XV (fZ h (kb+s) vs) Q ⟨⟩:=cA rfl s h vs Q
theorem JS(z:List AV)(ag:Bool)(s:Nat)(h:Hp)(vs:List AV)(Q:AV->Eff->Prop)(t:Tok Q):XO pg kb (.alloc z ag) s h vs Q t=XV (yE h (kb+s) z ag vs) Q ⟨⟩:=cA rfl s h vs Q
theorem JR(z:List AV)(ps:List (Nat×Nat))(s:Nat)(h:Hp)(vs:List AV)(Q:AV->Eff->Prop)(t:Tok Q):XO pg kb (.build z ps) s h vs Q t=XV (yD z ps vs) Q ⟨⟩:=cA rfl s h vs Q
theorem LK(e:Nat)(ag own:Bool)(s:Nat)(h:Hp)(vs:List AV)(Q:AV->Eff->Prop)(t:Tok Q):XO pg kb (.mkSl e ag own) s h vs Q t=XV (CJ h (kb+s) e ag own vs) Q ⟨⟩:=cA rfl s h vs Q
theorem LL(sz:Nat)(ag:Bool)(s:Nat)(h:Hp)(vs:List AV)(Q:AV->Eff->Prop)(t:Tok Q):XO pg kb (.load sz ag) s h vs Q t=XV (CK h sz ag vs) Q ⟨⟩:=cA rfl s h vs Q
theorem JP(sz:Nat)(ag:Bool)(s:Nat)(h:Hp)(vs:List AV)(Q:AV->Eff->Prop)(t:Tok Q):XO pg kb (.store sz ag) s h vs Q t=XV (yC h sz ag vs) Q ⟨⟩:=cA rfl s h vs Q
theorem LJ(s:Nat)(h:Hp)(vs:List AV)(Q:AV->Eff->Prop)(t:Tok Q):XO pg kb (.nilc) s h vs Q t=XV (CI vs) Q ⟨⟩:=cA rfl s h vs Q
theorem PJ(op:BinOp)(s:Nat)(h:Hp)(vs:List AV)(Q:AV->Eff->Prop)(t:Tok Q):XO pg kb (.bin op) s h vs Q t=XV (DW op vs) Q ⟨⟩:=cA rfl s h vs Q
theorem PK(ng:Bool)(s:Nat)(h:Hp)(vs:List AV)(Q:AV->Eff->Prop)(t:Tok Q):XO pg kb (.beq ng) s h vs Q t=XV (IJ ng vs) Q ⟨⟩:=cA rfl s h vs Q
theorem PD(q:Nat)(ng:Bool)(s:Nat)(h:Hp)(vs:List AV)(Q:AV->Eff->Prop)(t:Tok Q):XO pg kb (.eqn q ng) s h vs Q t=XV (IE q ng vs) Q ⟨⟩:=cA rfl s h vs Q
theorem PC(ng:Bool)(qs:List Nat)(s:Nat)(h:Hp)(vs:List AV)(Q:AV->Eff->Prop)(t:Tok Q):XO pg kb (.eqs ng qs) s h vs Q t=XV (uG ng qs vs) Q ⟨⟩:=cA rfl s h vs Q
theorem R5(op:UnOp)(s:Nat)(h:Hp)(vs:List AV)(Q:AV->Eff->Prop)(t:Tok Q):XO pg kb (.un op) s h vs Q t=XV (NW op vs) Q ⟨⟩:=cA rfl s h vs Q
theorem PF(i:IntKind)(s:Nat)(h:Hp)(vs:List AV)(Q:AV->Eff->Prop)(t:Tok Q):XO pg kb (.cvi i) s h vs Q t=XV (IH i vs) Q ⟨⟩:=cA rfl s h vs Q
theorem PE(s:Nat)(h:Hp)(vs:List AV)(Q:AV->Eff->Prop)(t:Tok Q):XO pg kb (.cvs) s h vs Q t=XV (IG vs) Q ⟨⟩:=cA rfl s h vs Q
theorem OW(s:Nat)(h:Hp)(vs:List AV)(Q:AV->Eff->Prop)(t:Tok Q):XO pg kb (.s2b) s h vs Q t=XV (H6 vs) Q ⟨⟩:=cA rfl s h vs Q
theorem PL(s:Nat)(h:Hp)(vs:List AV)(Q:AV->Eff->Prop)(t:Tok Q):XO pg kb (.b2s) s h vs Q t=XV (IK h vs) Q ⟨⟩:=cA rfl s h vs Q
theorem O9(off sz:Nat)(ag:Bool)(s:Nat)(h:Hp)(vs:List AV)(Q:AV->Eff->Prop)(t:Tok Q):XO pg kb (.fld off sz ag) s h vs Q t=XV (fX off sz ag vs) Q ⟨⟩:=cA rfl s h vs Q
theorem PA(off sz:Nat)(ag:Bool)(s:Nat)(h:Hp)(vs:List AV)(Q:AV->Eff->Prop)(t:Tok Q):XO pg kb (.fad off sz ag) s h vs Q t=XV (fY off sz ag vs) Q ⟨⟩:=cA rfl s h vs Q
theorem O8(e:Nat)(ag:Bool)(arr:Option Nat)(s:Nat)(h:Hp)(vs:List AV)(Q:AV->Eff->Prop)(t:Tok Q):XO pg kb (.iad e ag arr) s h vs Q t=XV (ID e ag arr vs) Q ⟨⟩:=cA rfl s h vs Q
theorem O6(s:Nat)(h:Hp)(vs:List AV)(Q:AV->Eff->Prop)(t:Tok Q):XO pg kb (.ixs) s h vs Q t=XV (IB vs) Q ⟨⟩:=cA rfl s h vs Q
theorem O7(len e:Nat)(ag:Bool)(s:Nat)(h:Hp)(vs:List AV)(Q:AV->Eff->Prop)(t:Tok Q):XO pg kb (.ixa len e ag) s h vs Q t=XV (IC len e ag vs) Q ⟨⟩:=cA rfl s h vs Q
theorem OU(e:Nat)(lo hi mx:Bool)(s:Nat)(h:Hp)(vs:List AV)(Q:AV->Eff->Prop)(t:Tok Q):XO pg kb (.slc e lo hi mx) s h vs Q t=XV (mN h e lo hi mx vs) Q ⟨⟩:=cA rfl s h vs Q
theorem OT(lo hi:Bool)(s:Nat)(h:Hp)(vs:List AV)(Q:AV->Eff->Prop)(t:Tok Q):XO pg kb (.sls lo hi) s h vs Q t=XV (mM lo hi vs) Q ⟨⟩:=cA rfl s h vs Q
theorem OV(len e:Nat)(lo hi:Bool)(s:Nat)(h:Hp)(vs:List AV)(Q:AV->Eff->Prop)(t:Tok Q):XO pg kb (.sla len e lo hi) s h vs Q t=XV (H5 h len e lo hi vs) Q ⟨⟩:=cA rfl s h vs Q
theorem OY(e:Nat)(ag:Bool)(bytes:Nat)(z:List AV)(s:Nat)(h:Hp)(vs:List AV)(Q:AV->Eff->Prop)(t:Tok Q):XO pg kb (.mks e ag bytes z) s h vs Q t=XV (H8 h (kb+s) e ag bytes z vs) Q ⟨⟩:=cA rfl s h vs Q
theorem O5(q:Nat)(s:Nat)(h:Hp)(vs:List AV)(Q:AV->Eff->Prop)(t:Tok Q):XO pg kb (.len q) s h vs Q t=XV (AI h q vs) Q ⟨⟩:=cA rfl s h vs Q
theorem LM(n:Nat)(s:Nat)(h:Hp)(vs:List AV)(Q:AV->Eff->Prop)(t:Tok Q):XO pg kb (.lenc n) s h vs Q t=XV (CL n vs) Q ⟨⟩:=cA rfl s h vs Q
theorem PH(s:Nat)(h:Hp)(vs:List AV)(Q:AV->Eff->Prop)(t:Tok Q):XO pg kb (.cap) s h vs Q t=XV (II h vs) Q ⟨⟩:=cA rfl s h vs Q
theorem DB(e:Nat)(ag:Bool)(bytes:Nat)(s:Nat)(h:Hp)(vs:List AV)(Q:AV->Eff->Prop)(t:Tok Q):XO pg kb (.app e ag bytes) s h vs Q t=XV (wX h (kb+s) e ag bytes vs) Q ⟨⟩:=cA rfl s h vs Q
theorem PG(e:Nat)(ag:Bool)(s:Nat)(h:Hp)(vs:List AV)(Q:AV->Eff->Prop)(t:Tok Q):XO pg kb (.cpy e ag) s h vs Q t=XV (AJ h e ag vs) Q ⟨⟩:=cA rfl s h vs Q
theorem R7(s:Nat)(h:Hp)(vs:List AV)(Q:AV->Eff->Prop)(t:Tok Q):XO pg kb (.mn) s h vs Q t=XV (NZ vs) Q ⟨⟩:=cA rfl s h vs Q
theorem R6(s:Nat)(h:Hp)(vs:List AV)(Q:AV->Eff->Prop)(t:Tok Q):XO pg kb (.mx) s h vs Q t=XV (NY vs) Q ⟨⟩:=cA rfl s h vs Q
theorem PB(i:Nat)(s:Nat)(h:Hp)(vs:List AV)(Q:AV->Eff->Prop)(t:Tok Q):XO pg kb (.ext i) s h vs Q t=XV (DV i vs) Q ⟨⟩:=cA rfl s h vs Q
theorem OZ(s:Nat)(h:Hp)(vs:List AV)(Q:AV->Eff->Prop)(t:Tok Q):XO pg kb (.mki) s h vs Q t=XV (H9 vs) Q ⟨⟩:=cA rfl s h vs Q
theorem O4(f:Nat)(s:Nat)(h:Hp)(vs:List AV)(Q:AV->Eff->Prop)(t:Tok Q):XO pg kb (.mkf f) s h vs Q t=XV (IA f vs) Q ⟨⟩:=cA rfl s h vs Q
theorem FA(a:AV)(l:List AV):eC (a::l) 0=a:=rfl
theorem FB(a:AV)(l:List AV)(n:Nat):eC (a::l) (n+1)=eC l n:=by simp[eC]
theorem EM(l:List AV)(v:AV):cD l none v=l:=rfl
theorem EK(a:AV)(l:List AV)(v:AV):cD (a::l) (some 0) v=v::l:=rfl
theorem EL(a:AV)(l:List AV)(v:AV)(n:Nat):cD (a::l) (some (n+1)) v=a::cD l (some n) v:=rfl
theorem Hp.get_cons(k e:Nat)(o:Ob)(r:Hp)(q:Nat):Hp.get (⟨k,e,o⟩::r) q=if k=q then some (e,o) else Hp.get r q:=rfl
theorem LB(h:Hp)(rd:List Nat):Eff.app h (.pat rd [])=h:=rfl
theorem gX(h:Hp)(rd:List Nat)(k e:Nat)(o:Ob):Eff.app h (.pat rd [⟨k,e,o⟩])=h.put k e o:=rfl
theorem pQ(h:Hp)(rd:List Nat)(k e k' e':Nat)(o o':Ob):Eff.app h (.pat rd [⟨k,e,o⟩,⟨k',e',o'⟩])=(h.put k e o).put k' e' o':=rfl
theorem F0(h h':Hp):Eff.app h (.whole h')=h':=rfl
theorem FZ(v:AV):val v=some (v,.pat [] []):=rfl
theorem KS(h:Hp)(k:Nat)(o:Ob)(v:Nat->AV):kN h k o v=some (v (h.next k),.pat [k] [⟨k,h.next k,o⟩]):=rfl
theorem G9(k:Nat):Hp.next [] k=0:=rfl
theorem G8(h:Hp)(k e:Nat)(o:Ob)(q:Nat):(h.put k e o).next q=if k=q then e+1 else h.next q:=by
 simp only[Hp.next,aD];by_cases c:k=q<;>simp[c]
theorem sJ(k:Nat):Hp.get [] k=none:=rfl
theorem E9(cs:List AV):AV.isAgg (.agg cs)=true:=rfl
theorem FT(cs:List AV):AV.cells (.agg cs)=cs:=rfl
theorem wB(cs:List AV)(off sz:Nat):dQ cs off sz true=if off+sz<=cs.length then some (.agg ((cs.drop off).take sz)) else none:=rfl
theorem ET(cs:List AV)(off sz:Nat):dQ cs off sz false=cs[off]?:=rfl
theorem DA{α β : Type}(x : α)(f : α -> Option β):(some x).bind f=f x:=rfl
theorem E1{α β : Type}(x : α)(f : α -> β):(some x).map f=some (f x):=rfl
theorem PT(e:List AV)(h:Hp):(St.mk e h).env=e:=rfl
theorem R8(e:List AV)(h:Hp):(St.mk e h).hp=h:=rfl
theorem LS(a b:Nat)(c:List (Sum Nat (Nat×Nat×Bool)))(d:C):(CF.mk a b c d).body=d:=rfl
theorem PX(a b:Nat)(c:List (Sum Nat (Nat×Nat×Bool)))(d:C):(CF.mk a b c d).res=c:=rfl
theorem SD(a b:Nat)(c:List (Sum Nat (Nat×Nat×Bool)))(d:C):(CF.mk a b c d).nt=b:=rfl
theorem fits_bool(b:Bool)(sz:Nat)(ag:Bool):AV.fits (.bool b) sz ag=(!ag&&sz==1):=rfl
theorem vK(b:Bool):AV.tree (.bool b)=true:=by simp[AV.tree]
theorem fits_int(k:IntKind)(n:Int)(sz:Nat)(ag:Bool):AV.fits (.int k n) sz ag=(!ag&&sz==1):=rfl
theorem yV(k:IntKind)(n:Int):AV.tree (.int k n)=true:=by simp[AV.tree]
theorem fits_str(b:List UInt8)(sz:Nat)(ag:Bool):AV.fits (.str b) sz ag=(!ag&&sz==1):=rfl
theorem F8(b:List UInt8):AV.tree (.str b)=true:=by simp[AV.tree]
theorem fits_sl(nl:Bool)(es:List AV)(cl:Bool)(sz:Nat)(ag:Bool):AV.fits (.sl nl es cl) sz ag=(!ag&&sz==1):=rfl
theorem jX(nl:Bool)(es:List AV)(cl:Bool):AV.tree (.sl nl es cl)=treeL es:=by simp[AV.tree]
theorem fits_fp(v:AV)(sz:Nat)(ag:Bool):AV.fits (.fp v) sz ag=(!ag&&sz==1):=rfl
theorem xH(v:AV):AV.tree (.fp v)=v.tree:=by simp[AV.tree]
theorem fits_nilp  (sz:Nat) (ag:Bool):AV.fits (.nilp ) sz ag=(!ag&&sz==1):=rfl
theorem EC  : AV.tree (.nilp )=true:=by simp[AV.tree]
theorem fits_nilf  (sz:Nat) (ag:Bool):AV.fits (.nilf ) sz ag=(!ag&&sz==1):=rfl
theorem EE  : AV.tree (.nilf )=true:=by simp[AV.tree]
theorem fits_nili  (sz:Nat) (ag:Bool):AV.fits (.nili ) sz ag=(!ag&&sz==1):=rfl
theorem ED  : AV.tree (.nili )=true:=by simp[AV.tree]
theorem fits_fn(f:Nat)(cs:List AV)(sz:Nat)(ag:Bool):AV.fits (.fn f cs) sz ag=(!ag&&sz==1):=rfl
theorem mV(f:Nat)(cs:List AV):AV.tree (.fn f cs)=treeL cs:=by simp[AV.tree]
theorem fits_rf(k e o l c:Nat)(sz:Nat)(ag:Bool):AV.fits (.rf k e o l c) sz ag=(!ag&&sz==1):=rfl
theorem J1(k e o l c:Nat):AV.tree (.rf k e o l c)=false:=by simp[AV.tree]
theorem fits_pt(k e o:Nat)(sz:Nat)(ag:Bool):AV.fits (.pt k e o) sz ag=(!ag&&sz==1):=rfl
theorem J2(k e o:Nat):AV.tree (.pt k e o)=false:=by simp[AV.tree]
theorem fits_ifc(v:AV)(sz:Nat)(ag:Bool):AV.fits (.ifc v) sz ag=(!ag&&sz==1):=rfl
theorem F9(v:AV):AV.tree (.ifc v)=v.tree:=by simp[AV.tree]
theorem fits_agg(cs:List AV)(sz:Nat)(ag:Bool):AV.fits (.agg cs) sz ag=(ag&&cs.length==sz):=rfl
theorem sX(cs:List AV):AV.tree (.agg cs)=treeL cs:=by simp[AV.tree]
theorem F7(cs:List AV):AV.tree (.tup cs)=treeL cs:=by simp[AV.tree]
theorem G6(b:Bool):AV.one (.bool b)=true:=rfl
theorem KQ(k:IntKind)(n:Int):AV.one (.int k n)=true:=rfl
theorem KP(b:List UInt8):AV.one (.str b)=true:=rfl
theorem NJ(nl:Bool)(es:List AV)(cl:Bool):AV.one (.sl nl es cl)=true:=rfl
theorem NM(v:AV):AV.one (.fp v)=true:=rfl
theorem G3  : AV.one (.nilp )=true:=rfl
theorem G5  : AV.one (.nilf )=true:=rfl
theorem G4  : AV.one (.nili )=true:=rfl
theorem NN(f:Nat)(cs:List AV):AV.one (.fn f cs)=true:=rfl
theorem NK(k e o l c:Nat):AV.one (.rf k e o l c)=true:=rfl
theorem NL(k e o:Nat):AV.one (.pt k e o)=true:=rfl
theorem KR(v:AV):AV.one (.ifc v)=true:=rfl
theorem FF(b:Bool):AV.flat (.bool b)=true:=by simp[AV.flat]
theorem HY(k:IntKind)(n:Int):AV.flat (.int k n)=true:=by simp[AV.flat]
theorem HX(b:List UInt8):AV.flat (.str b)=true:=by simp[AV.flat]
attribute [go_sem] G6 KQ KP NJ NM G3 G5 G4 NN NK NL KR FF HY HX List.append_nil
theorem HI(nl:Bool)(es:List AV)(cl:Bool):AV.isNil 1 (.sl nl es cl)=some nl:=rfl
theorem HJ(k e o l c:Nat):AV.isNil 1 (.rf k e o l c)=some false:=rfl
theorem B6:AV.isNil 4 .nili=some true:=rfl
theorem E5(v:AV):AV.isNil 4 (.ifc v)=some false:=rfl
theorem B5:AV.isNil 0 .nilp=some true:=rfl
theorem HL(v:AV):AV.isNil 0 (.fp v)=some false:=rfl
theorem HK(k e o:Nat):AV.isNil 0 (.pt k e o)=some false:=rfl
theorem B7:AV.isNil 3 .nilf=some true:=rfl
theorem HM(f:Nat)(cs:List AV):AV.isNil 3 (.fn f cs)=some false:=rfl
attribute [go_sem ↓] LC LE OO OP LD LF ON JM OS LH JO OQ LG JN D6 A9 L4 L8 L5 L7 L6 D4
 EH EI EG C8 C9 C7 IP Iq IW IV
attribute [go_sem] D6 A9 L4 L8 L5 L7 L6 D4 JQ LI F2 F3
 OX PI JS JR LK LL JP LJ PJ PK PD PC R5 PF PE OW PL O9 PA O8 O6 O7 OU OT OV OY O5 LM PH PG R7 R6 PB OZ O4
theorem C2(b:Bool):AV.cells (.bool b)=[.bool b]:=rfl
theorem CB(b:Bool):AV.isAgg (.bool b)=false:=rfl
theorem FR(k:IntKind)(n:Int):AV.cells (.int k n)=[.int k n]:=rfl
theorem E7(k:IntKind)(n:Int):AV.isAgg (.int k n)=false:=rfl
theorem FQ(b:List UInt8):AV.cells (.str b)=[.str b]:=rfl
theorem E6(b:List UInt8):AV.isAgg (.str b)=false:=rfl
theorem I5(nl:Bool)(es:List AV)(cl:Bool):AV.cells (.sl nl es cl)=[.sl nl es cl]:=rfl
theorem HO(nl:Bool)(es:List AV)(cl:Bool):AV.isAgg (.sl nl es cl)=false:=rfl
theorem I8(v:AV):AV.cells (.fp v)=[.fp v]:=rfl
theorem HR(v:AV):AV.isAgg (.fp v)=false:=rfl
theorem CZ  : AV.cells (.nilp )=[.nilp ]:=rfl
theorem B8  : AV.isAgg (.nilp )=false:=rfl
theorem C1  : AV.cells (.nilf )=[.nilf ]:=rfl
theorem CA  : AV.isAgg (.nilf )=false:=rfl
theorem C0  : AV.cells (.nili )=[.nili ]:=rfl
theorem B9  : AV.isAgg (.nili )=false:=rfl
theorem I9(f:Nat)(cs:List AV):AV.cells (.fn f cs)=[.fn f cs]:=rfl
theorem HS(f:Nat)(cs:List AV):AV.isAgg (.fn f cs)=false:=rfl
theorem I6(k e o l c:Nat):AV.cells (.rf k e o l c)=[.rf k e o l c]:=rfl
theorem HP(k e o l c:Nat):AV.isAgg (.rf k e o l c)=false:=rfl
theorem I7(k e o:Nat):AV.cells (.pt k e o)=[.pt k e o]:=rfl
theorem HQ(k e o:Nat):AV.isAgg (.pt k e o)=false:=rfl
theorem FS(v:AV):AV.cells (.ifc v)=[.ifc v]:=rfl
theorem E8(v:AV):AV.isAgg (.ifc v)=false:=rfl
attribute [go_sem] C2 CB FR E7 FQ E6 I5 HO I8 HR CZ B8 C1 CA C0 B9 I9 HS I6 HP I7 HQ FS E8 List.all_cons List.all_nil
attribute [go_sem] FA FB EM EK EL aD LB gX pQ F0 FZ KS sJ G9 G8
 E9 FT wB ET N1 exists_eq_left' DA E1 X.ev PT R8 LS PX SD
 H7 fZ yE yD CJ CK yC CI DW IJ IE uG NW IH IG H6 IK fX fY ID IB IC mN mM H5 H8 AI CL II wX AJ NZ NY DV H9 IA
 JJ bin OH JI kP cC HI HJ B6 E5 B5 HL HK B7 HM fits_agg fits_bool fits_int fits_str fits_sl fits_fp fits_nilp fits_fn fits_rf fits_pt fits_nilf fits_nili fits_ifc  bB vK yV F8 sX F7 jX xH EC ED EE mV F9 J1 J2 eqC enter result kZ rF
 List.map_cons List.map_nil List.length_cons List.length_nil List.replicate_succ List.replicate_zero List.cons_append List.nil_append List.getElem?_cons_zero List.getElem?_cons_succ List.drop_zero List.drop_succ_cons List.take_succ_cons List.take_zero
 Option.getD_some
end Go.Tev
end
section
namespace Go.Tev
attribute [go_sem] Nat.succ_eq_add_one Bool.and_true Bool.true_and Bool.and_false Bool.false_and Bool.or_true Bool.true_or Bool.or_false Bool.false_or Bool.not_true Bool.not_false Bool.false_eq_true cond_true cond_false Int.natCast_nonneg Int.toNat_natCast List.length_map List.getElem?_map and_self and_true true_and decide_true decide_false ite_true ite_false if_true if_false not_false_eq_true not_true_eq_false Int.lt_irrefl Bool.and_self Bool.or_self Bool.not_eq_true Bool.not_eq_false eq_self Int.toNat_zero Int.le_refl Int.natCast_zero Nat.zero_le Option.isSome_none Option.isSome_some beq_self_eq_true Option.getD_none Option.isNone_none Option.isNone_some ne_eq
def big:Nat:=16777216
structure Str where
 bs:List UInt8
 ok:bs.length<=big
def Str.av(s:Str):AV:=.str s.bs
structure Sl(α : Type) where
 nl:Bool
 es:List α
 cl:Bool
 ok:es.length<=big
def Sl.av{α : Type}(f : α -> AV)(s:Sl α):AV:=.sl s.nl (s.es.map f) s.cl
def aH(n:Int):AV:=.int .i64 n
structure aZ where
 v:Str
 c:Int
def aZ.av(x:aZ):AV:=.agg [.str x.v.bs,.int .i64 x.c]
structure Lin where
 c:Int
 ts:Sl aZ
def Lin.av(x:Lin):AV:=.agg [.int .i64 x.c,x.ts.av aZ.av]
structure bD where
 row:Str
 dims:Sl Lin
def bD.av(x:bD):AV:=.agg [.str x.row.bs,x.dims.av Lin.av]
structure Typ where
 elem:Str
 shape:bD
def Typ.av(x:Typ):AV:=.agg [.str x.elem.bs,.str x.shape.row.bs,x.shape.dims.av Lin.av]
structure aL where
 op:Str
 num:Int
 args:Sl Int
def aL.av(x:aL):AV:=.agg [.str x.op.bs,.int .i64 x.num,x.args.av aH]
structure Val where
 v:Str
 n:Int
def Val.av(x:Val):AV:=.agg [.str x.v.bs,.int .i64 x.n]
inductive aC where
 |mk (op:Str) (num value:Int) (name:Str) (at_:Sl Lin) (dyn:Bool) (check:Int) (fn:Sl aL) (knl:Bool) (kids:List aC) (kcl:Bool)
namespace aC
def op:aC->Str|mk a _ _ _ _ _ _ _ _ _ _=>a
def num:aC->Int|mk _ a _ _ _ _ _ _ _ _ _=>a
def value:aC->Int|mk _ _ a _ _ _ _ _ _ _ _=>a
def name:aC->Str|mk _ _ _ a _ _ _ _ _ _ _=>a
def at_:aC->Sl Lin|mk _ _ _ _ a _ _ _ _ _ _=>a
def dyn:aC->Bool|mk _ _ _ _ _ a _ _ _ _ _=>a
def check:aC->Int|mk _ _ _ _ _ _ a _ _ _ _=>a
def fn:aC->Sl aL|mk _ _ _ _ _ _ _ a _ _ _=>a
def knl:aC->Bool|mk _ _ _ _ _ _ _ _ a _ _=>a
def kids:aC->List aC|mk _ _ _ _ _ _ _ _ _ a _=>a
def kcl:aC->Bool|mk _ _ _ _ _ _ _ _ _ _ a=>a
end aC
mutual
def aC.av:aC->AV
 |.mk op num value name at_ dyn check fn knl kids kcl=>
  .agg [.str op.bs,.int .i64 num,.int .i64 value,.str name.bs,at_.av Lin.av,.bool dyn,.int .i64 check,fn.av aL.av,.sl knl (aC.avs kids) kcl]
def aC.avs:List aC->List AV
 |[]=>[]
 |p::r=>p.av::aC.avs r
end
theorem aC.avs_eq:∀l:List aC,aC.avs l=l.map aC.av
 |[]=>by simp[aC.avs]
 |p::r=>by simp[aC.avs,aC.avs_eq r]
def aC.kav(p:aC):AV:=.sl p.knl (p.kids.map aC.av) p.kcl
def aC.cells(p:aC):List AV:=
 [.str p.op.bs,.int .i64 p.num,.int .i64 p.value,.str p.name.bs,p.at_.av Lin.av,.bool p.dyn,.int .i64 p.check,p.fn.av aL.av,p.kav]
theorem aC.av_eq(p:aC):p.av = .agg p.cells:=by
 cases p;simp[aC.av,aC.cells,aC.kav,aC.avs_eq,op,num,value,name,at_,dyn,check,fn,knl,kids,kcl]
mutual
def aC.ok:aC->Prop
 |.mk _ _ _ _ _ _ _ _ _ kids _=>kids.length<=big/\aC.oks kids
def aC.oks:List aC->Prop
 |[]=>True
 |p::r=>p.ok/\aC.oks r
end
theorem aC.oks_iff:∀l:List aC,aC.oks l↔∀p∈l,p.ok
 |[]=>by simp[aC.oks]
 |p::r=>by simp[aC.oks,aC.oks_iff r]
theorem aC.ok_iff(p:aC):p.ok↔p.kids.length<=big/\∀q∈p.kids,q.ok:=by
 cases p;simp[aC.ok,aC.oks_iff,kids]
structure aE where
 kind:Int
 value:Int
 space:Sl Lin
 body:aC
 fn:Sl aL
 source:Int
 index:aC
 check:Int
def aE.cells(x:aE):List AV:=
 [.int .i64 x.kind,.int .i64 x.value,x.space.av Lin.av]++x.body.cells++[x.fn.av aL.av,.int .i64 x.source]++x.index.cells++[.int .i64 x.check]
def aE.av(x:aE):AV:=.agg x.cells
structure aA where
 vars:Sl Str
 wher:Sl Lin
 inputs:Int
 values:Sl Typ
 list:Sl aE
 results:Sl Int
def aA.cells(k:aA):List AV:=
 [k.vars.av Str.av,k.wher.av Lin.av,.int .i64 k.inputs,k.values.av Typ.av,k.list.av aE.av,k.results.av aH]
def aA.av(k:aA):AV:=.agg k.cells
theorem aU{α : Type}{f : α -> AV}(h:∀x,(f x).tree=true):∀l:List α,treeL (l.map f)=true
 |[]=>rfl
 |x::r=>by simp[treeL,h x,aU h r]
theorem wN(n:Int):(aH n).tree=true:=rfl
theorem Str.tree(s:Str):(Str.av s).tree=true:=rfl
theorem lH(l:List Int):treeL (l.map aH)=true:=aU wN l
theorem Str.treeL(l:List Str):Tev.treeL (l.map Str.av)=true:=aU Str.tree l
theorem sH(n:Int):aH n = .int .i64 n:=rfl
theorem Str.av_eq(s:Str):Str.av s = .str s.bs:=rfl
attribute [go_sem] wN Str.tree lH Str.treeL sH Str.av_eq Tev.treeL Sl.av
theorem aZ.avc(x:aZ):aZ.av x = .agg [.str x.v.bs,.int .i64 x.c]:=rfl
theorem aZ.cells_av(x:aZ):(aZ.av x).cells=[.str x.v.bs,.int .i64 x.c]:=by rw[aZ.avc];rfl
theorem aZ.isAgg_av(x:aZ):(aZ.av x).isAgg=true:=by rw[aZ.avc];rfl
theorem aZ.fits_av(x:aZ):(aZ.av x).fits 2 true=true:=by rw[aZ.avc];rfl
theorem aZ.tree_av(x:aZ):(aZ.av x).tree=true:=by rw[aZ.avc];simp[go_sem]
theorem aZ.treeL_av(l:List aZ):Tev.treeL (l.map aZ.av)=true:=aU aZ.tree_av l
theorem aZ.fld_av(off sz:Nat)(ag:Bool)(x:aZ):fX off sz ag [aZ.av x]=fX off sz ag [.agg [.str x.v.bs,.int .i64 x.c]]:=by rw[aZ.avc]
theorem aZ.fad_av(off sz:Nat)(ag:Bool)(x:aZ):fY off sz ag [.fp (aZ.av x)]=fY off sz ag [.fp (.agg [.str x.v.bs,.int .i64 x.c])]:=by rw[aZ.avc]
theorem aZ.box_av(h:Hp)(k:Nat)(x:aZ):fZ h k [aZ.av x]=fZ h k [.agg [.str x.v.bs,.int .i64 x.c]]:=by rw[aZ.avc]
theorem aZ.eqs_av(ng:Bool)(qs:List Nat)(x y:aZ):uG ng qs [aZ.av x,aZ.av y]=uG ng qs [.agg [.str x.v.bs,.int .i64 x.c],.agg [.str y.v.bs,.int .i64 y.c]]:=by rw[aZ.avc,aZ.avc]
attribute [go_sem ↓ high] aZ.eqs_av
attribute [go_sem high] aZ.cells_av aZ.isAgg_av aZ.fits_av aZ.tree_av aZ.treeL_av
attribute [go_sem ↓ high] aZ.fld_av aZ.fad_av aZ.box_av
theorem Lin.avc(x:Lin):Lin.av x = .agg [.int .i64 x.c,.sl x.ts.nl (x.ts.es.map aZ.av) x.ts.cl]:=rfl
theorem Lin.cells_av(x:Lin):(Lin.av x).cells=[.int .i64 x.c,.sl x.ts.nl (x.ts.es.map aZ.av) x.ts.cl]:=by rw[Lin.avc];rfl
theorem Lin.isAgg_av(x:Lin):(Lin.av x).isAgg=true:=by rw[Lin.avc];rfl
theorem Lin.fits_av(x:Lin):(Lin.av x).fits 2 true=true:=by rw[Lin.avc];rfl
theorem Lin.tree_av(x:Lin):(Lin.av x).tree=true:=by rw[Lin.avc];simp[go_sem]
theorem Lin.treeL_av(l:List Lin):Tev.treeL (l.map Lin.av)=true:=aU Lin.tree_av l
theorem Lin.fld_av(off sz:Nat)(ag:Bool)(x:Lin):fX off sz ag [Lin.av x]=fX off sz ag [.agg [.int .i64 x.c,.sl x.ts.nl (x.ts.es.map aZ.av) x.ts.cl]]:=by rw[Lin.avc]
theorem Lin.fad_av(off sz:Nat)(ag:Bool)(x:Lin):fY off sz ag [.fp (Lin.av x)]=fY off sz ag [.fp (.agg [.int .i64 x.c,.sl x.ts.nl (x.ts.es.map aZ.av) x.ts.cl])]:=by rw[Lin.avc]
theorem Lin.box_av(h:Hp)(k:Nat)(x:Lin):fZ h k [Lin.av x]=fZ h k [.agg [.int .i64 x.c,.sl x.ts.nl (x.ts.es.map aZ.av) x.ts.cl]]:=by rw[Lin.avc]
attribute [go_sem high] Lin.cells_av Lin.isAgg_av Lin.fits_av Lin.tree_av Lin.treeL_av
attribute [go_sem ↓ high] Lin.fld_av Lin.fad_av Lin.box_av
theorem bD.avc(x:bD):bD.av x = .agg [.str x.row.bs,.sl x.dims.nl (x.dims.es.map Lin.av) x.dims.cl]:=rfl
theorem bD.cells_av(x:bD):(bD.av x).cells=[.str x.row.bs,.sl x.dims.nl (x.dims.es.map Lin.av) x.dims.cl]:=by rw[bD.avc];rfl
theorem bD.isAgg_av(x:bD):(bD.av x).isAgg=true:=by rw[bD.avc];rfl
theorem bD.fits_av(x:bD):(bD.av x).fits 2 true=true:=by rw[bD.avc];rfl
theorem bD.tree_av(x:bD):(bD.av x).tree=true:=by rw[bD.avc];simp[go_sem]
theorem bD.treeL_av(l:List bD):Tev.treeL (l.map bD.av)=true:=aU bD.tree_av l
theorem bD.fld_av(off sz:Nat)(ag:Bool)(x:bD):fX off sz ag [bD.av x]=fX off sz ag [.agg [.str x.row.bs,.sl x.dims.nl (x.dims.es.map Lin.av) x.dims.cl]]:=by rw[bD.avc]
theorem bD.fad_av(off sz:Nat)(ag:Bool)(x:bD):fY off sz ag [.fp (bD.av x)]=fY off sz ag [.fp (.agg [.str x.row.bs,.sl x.dims.nl (x.dims.es.map Lin.av) x.dims.cl])]:=by rw[bD.avc]
theorem bD.box_av(h:Hp)(k:Nat)(x:bD):fZ h k [bD.av x]=fZ h k [.agg [.str x.row.bs,.sl x.dims.nl (x.dims.es.map Lin.av) x.dims.cl]]:=by rw[bD.avc]
attribute [go_sem high] bD.cells_av bD.isAgg_av bD.fits_av bD.tree_av bD.treeL_av
attribute [go_sem ↓ high] bD.fld_av bD.fad_av bD.box_av
theorem Typ.avc(x:Typ):Typ.av x = .agg [.str x.elem.bs,.str x.shape.row.bs,.sl x.shape.dims.nl (x.shape.dims.es.map Lin.av) x.shape.dims.cl]:=rfl
theorem Typ.cells_av(x:Typ):(Typ.av x).cells=[.str x.elem.bs,.str x.shape.row.bs,.sl x.shape.dims.nl (x.shape.dims.es.map Lin.av) x.shape.dims.cl]:=by rw[Typ.avc];rfl
theorem Typ.isAgg_av(x:Typ):(Typ.av x).isAgg=true:=by rw[Typ.avc];rfl
theorem Typ.fits_av(x:Typ):(Typ.av x).fits 3 true=true:=by rw[Typ.avc];rfl
theorem Typ.tree_av(x:Typ):(Typ.av x).tree=true:=by rw[Typ.avc];simp[go_sem]
theorem Typ.treeL_av(l:List Typ):Tev.treeL (l.map Typ.av)=true:=aU Typ.tree_av l
theorem Typ.fld_av(off sz:Nat)(ag:Bool)(x:Typ):fX off sz ag [Typ.av x]=fX off sz ag [.agg [.str x.elem.bs,.str x.shape.row.bs,.sl x.shape.dims.nl (x.shape.dims.es.map Lin.av) x.shape.dims.cl]]:=by rw[Typ.avc]
theorem Typ.fad_av(off sz:Nat)(ag:Bool)(x:Typ):fY off sz ag [.fp (Typ.av x)]=fY off sz ag [.fp (.agg [.str x.elem.bs,.str x.shape.row.bs,.sl x.shape.dims.nl (x.shape.dims.es.map Lin.av) x.shape.dims.cl])]:=by rw[Typ.avc]
theorem Typ.box_av(h:Hp)(k:Nat)(x:Typ):fZ h k [Typ.av x]=fZ h k [.agg [.str x.elem.bs,.str x.shape.row.bs,.sl x.shape.dims.nl (x.shape.dims.es.map Lin.av) x.shape.dims.cl]]:=by rw[Typ.avc]
attribute [go_sem high] Typ.cells_av Typ.isAgg_av Typ.fits_av Typ.tree_av Typ.treeL_av
attribute [go_sem ↓ high] Typ.fld_av Typ.fad_av Typ.box_av
theorem aL.avc(x:aL):aL.av x = .agg [.str x.op.bs,.int .i64 x.num,.sl x.args.nl (x.args.es.map aH) x.args.cl]:=rfl
theorem aL.cells_av(x:aL):(aL.av x).cells=[.str x.op.bs,.int .i64 x.num,.sl x.args.nl (x.args.es.map aH) x.args.cl]:=by rw[aL.avc];rfl
theorem aL.isAgg_av(x:aL):(aL.av x).isAgg=true:=by rw[aL.avc];rfl
theorem aL.fits_av(x:aL):(aL.av x).fits 3 true=true:=by rw[aL.avc];rfl
theorem aL.tree_av(x:aL):(aL.av x).tree=true:=by rw[aL.avc];simp[go_sem]
theorem aL.treeL_av(l:List aL):Tev.treeL (l.map aL.av)=true:=aU aL.tree_av l
theorem aL.fld_av(off sz:Nat)(ag:Bool)(x:aL):fX off sz ag [aL.av x]=fX off sz ag [.agg [.str x.op.bs,.int .i64 x.num,.sl x.args.nl (x.args.es.map aH) x.args.cl]]:=by rw[aL.avc]
theorem aL.fad_av(off sz:Nat)(ag:Bool)(x:aL):fY off sz ag [.fp (aL.av x)]=fY off sz ag [.fp (.agg [.str x.op.bs,.int .i64 x.num,.sl x.args.nl (x.args.es.map aH) x.args.cl])]:=by rw[aL.avc]
theorem aL.box_av(h:Hp)(k:Nat)(x:aL):fZ h k [aL.av x]=fZ h k [.agg [.str x.op.bs,.int .i64 x.num,.sl x.args.nl (x.args.es.map aH) x.args.cl]]:=by rw[aL.avc]
attribute [go_sem high] aL.cells_av aL.isAgg_av aL.fits_av aL.tree_av aL.treeL_av
attribute [go_sem ↓ high] aL.fld_av aL.fad_av aL.box_av
theorem Val.avc(x:Val):Val.av x = .agg [.str x.v.bs,.int .i64 x.n]:=rfl
theorem Val.cells_av(x:Val):(Val.av x).cells=[.str x.v.bs,.int .i64 x.n]:=by rw[Val.avc];rfl
theorem Val.isAgg_av(x:Val):(Val.av x).isAgg=true:=by rw[Val.avc];rfl
theorem Val.fits_av(x:Val):(Val.av x).fits 2 true=true:=by rw[Val.avc];rfl
theorem Val.tree_av(x:Val):(Val.av x).tree=true:=by rw[Val.avc];simp[go_sem]
theorem Val.treeL_av(l:List Val):Tev.treeL (l.map Val.av)=true:=aU Val.tree_av l
theorem Val.fld_av(off sz:Nat)(ag:Bool)(x:Val):fX off sz ag [Val.av x]=fX off sz ag [.agg [.str x.v.bs,.int .i64 x.n]]:=by rw[Val.avc]
theorem Val.fad_av(off sz:Nat)(ag:Bool)(x:Val):fY off sz ag [.fp (Val.av x)]=fY off sz ag [.fp (.agg [.str x.v.bs,.int .i64 x.n])]:=by rw[Val.avc]
theorem Val.box_av(h:Hp)(k:Nat)(x:Val):fZ h k [Val.av x]=fZ h k [.agg [.str x.v.bs,.int .i64 x.n]]:=by rw[Val.avc]
theorem Val.eqs_av(ng:Bool)(qs:List Nat)(x y:Val):uG ng qs [Val.av x,Val.av y]=uG ng qs [.agg [.str x.v.bs,.int .i64 x.n],.agg [.str y.v.bs,.int .i64 y.n]]:=by rw[Val.avc,Val.avc]
attribute [go_sem ↓ high] Val.eqs_av
attribute [go_sem high] Val.cells_av Val.isAgg_av Val.fits_av Val.tree_av Val.treeL_av
attribute [go_sem ↓ high] Val.fld_av Val.fad_av Val.box_av
theorem aC.avc(x:aC):aC.av x = .agg [.str x.op.bs,.int .i64 x.num,.int .i64 x.value,.str x.name.bs,.sl x.at_.nl (x.at_.es.map Lin.av) x.at_.cl,.bool x.dyn,.int .i64 x.check,.sl x.fn.nl (x.fn.es.map aL.av) x.fn.cl,.sl x.knl (x.kids.map aC.av) x.kcl]:=aC.av_eq x
theorem aC.cells_av(x:aC):(aC.av x).cells=[.str x.op.bs,.int .i64 x.num,.int .i64 x.value,.str x.name.bs,.sl x.at_.nl (x.at_.es.map Lin.av) x.at_.cl,.bool x.dyn,.int .i64 x.check,.sl x.fn.nl (x.fn.es.map aL.av) x.fn.cl,.sl x.knl (x.kids.map aC.av) x.kcl]:=by rw[aC.avc];rfl
theorem aC.isAgg_av(x:aC):(aC.av x).isAgg=true:=by rw[aC.avc];rfl
theorem aC.fits_av(x:aC):(aC.av x).fits 9 true=true:=by rw[aC.avc];rfl
mutual
theorem aC.tree_av:∀x:aC,(aC.av x).tree=true
 |.mk op num value name at_ dyn check fn knl kids kcl=>by
  have:=aC.tree_avs kids
  simp[aC.av,go_sem,aU Lin.tree_av,aU aL.tree_av,this]
theorem aC.tree_avs:∀l:List aC,Tev.treeL (aC.avs l)=true
 |[]=>by simp[aC.avs,Tev.treeL]
 |p::r=>by simp[aC.avs,Tev.treeL,aC.tree_av p,aC.tree_avs r]
end
theorem aC.treeL_av(l:List aC):Tev.treeL (l.map aC.av)=true:=aU aC.tree_av l
theorem aC.fld_av(off sz:Nat)(ag:Bool)(x:aC):fX off sz ag [aC.av x]=fX off sz ag [.agg [.str x.op.bs,.int .i64 x.num,.int .i64 x.value,.str x.name.bs,.sl x.at_.nl (x.at_.es.map Lin.av) x.at_.cl,.bool x.dyn,.int .i64 x.check,.sl x.fn.nl (x.fn.es.map aL.av) x.fn.cl,.sl x.knl (x.kids.map aC.av) x.kcl]]:=by rw[aC.avc]
theorem aC.fad_av(off sz:Nat)(ag:Bool)(x:aC):fY off sz ag [.fp (aC.av x)]=fY off sz ag [.fp (.agg [.str x.op.bs,.int .i64 x.num,.int .i64 x.value,.str x.name.bs,.sl x.at_.nl (x.at_.es.map Lin.av) x.at_.cl,.bool x.dyn,.int .i64 x.check,.sl x.fn.nl (x.fn.es.map aL.av) x.fn.cl,.sl x.knl (x.kids.map aC.av) x.kcl])]:=by rw[aC.avc]
theorem aC.box_av(h:Hp)(k:Nat)(x:aC):fZ h k [aC.av x]=fZ h k [.agg [.str x.op.bs,.int .i64 x.num,.int .i64 x.value,.str x.name.bs,.sl x.at_.nl (x.at_.es.map Lin.av) x.at_.cl,.bool x.dyn,.int .i64 x.check,.sl x.fn.nl (x.fn.es.map aL.av) x.fn.cl,.sl x.knl (x.kids.map aC.av) x.kcl]]:=by rw[aC.avc]
attribute [go_sem high] aC.cells_av aC.isAgg_av aC.fits_av aC.tree_av aC.treeL_av
attribute [go_sem ↓ high] aC.fld_av aC.fad_av aC.box_av
theorem aE.avc(x:aE):aE.av x = .agg [.int .i64 x.kind,.int .i64 x.value,.sl x.space.nl (x.space.es.map Lin.av) x.space.cl,.str x.body.op.bs,.int .i64 x.body.num,.int .i64 x.body.value,.str x.body.name.bs,.sl x.body.at_.nl (x.body.at_.es.map Lin.av) x.body.at_.cl,.bool x.body.dyn,.int .i64 x.body.check,.sl x.body.fn.nl (x.body.fn.es.map aL.av) x.body.fn.cl,.sl x.body.knl (x.body.kids.map aC.av) x.body.kcl,.sl x.fn.nl (x.fn.es.map aL.av) x.fn.cl,.int .i64 x.source,.str x.index.op.bs,.int .i64 x.index.num,.int .i64 x.index.value,.str x.index.name.bs,.sl x.index.at_.nl (x.index.at_.es.map Lin.av) x.index.at_.cl,.bool x.index.dyn,.int .i64 x.index.check,.sl x.index.fn.nl (x.index.fn.es.map aL.av) x.index.fn.cl,.sl x.index.knl (x.index.kids.map aC.av) x.index.kcl,.int .i64 x.check]:=rfl
theorem aE.cells_av(x:aE):(aE.av x).cells=[.int .i64 x.kind,.int .i64 x.value,.sl x.space.nl (x.space.es.map Lin.av) x.space.cl,.str x.body.op.bs,.int .i64 x.body.num,.int .i64 x.body.value,.str x.body.name.bs,.sl x.body.at_.nl (x.body.at_.es.map Lin.av) x.body.at_.cl,.bool x.body.dyn,.int .i64 x.body.check,.sl x.body.fn.nl (x.body.fn.es.map aL.av) x.body.fn.cl,.sl x.body.knl (x.body.kids.map aC.av) x.body.kcl,.sl x.fn.nl (x.fn.es.map aL.av) x.fn.cl,.int .i64 x.source,.str x.index.op.bs,.int .i64 x.index.num,.int .i64 x.index.value,.str x.index.name.bs,.sl x.index.at_.nl (x.index.at_.es.map Lin.av) x.index.at_.cl,.bool x.index.dyn,.int .i64 x.index.check,.sl x.index.fn.nl (x.index.fn.es.map aL.av) x.index.fn.cl,.sl x.index.knl (x.index.kids.map aC.av) x.index.kcl,.int .i64 x.check]:=by rw[aE.avc];rfl
theorem aE.isAgg_av(x:aE):(aE.av x).isAgg=true:=by rw[aE.avc];rfl
theorem aE.fits_av(x:aE):(aE.av x).fits 24 true=true:=by rw[aE.avc];rfl
theorem aE.tree_av(x:aE):(aE.av x).tree=true:=by rw[aE.avc];simp[go_sem]
theorem aE.treeL_av(l:List aE):Tev.treeL (l.map aE.av)=true:=aU aE.tree_av l
theorem aE.fld_av(off sz:Nat)(ag:Bool)(x:aE):fX off sz ag [aE.av x]=fX off sz ag [.agg [.int .i64 x.kind,.int .i64 x.value,.sl x.space.nl (x.space.es.map Lin.av) x.space.cl,.str x.body.op.bs,.int .i64 x.body.num,.int .i64 x.body.value,.str x.body.name.bs,.sl x.body.at_.nl (x.body.at_.es.map Lin.av) x.body.at_.cl,.bool x.body.dyn,.int .i64 x.body.check,.sl x.body.fn.nl (x.body.fn.es.map aL.av) x.body.fn.cl,.sl x.body.knl (x.body.kids.map aC.av) x.body.kcl,.sl x.fn.nl (x.fn.es.map aL.av) x.fn.cl,.int .i64 x.source,.str x.index.op.bs,.int .i64 x.index.num,.int .i64 x.index.value,.str x.index.name.bs,.sl x.index.at_.nl (x.index.at_.es.map Lin.av) x.index.at_.cl,.bool x.index.dyn,.int .i64 x.index.check,.sl x.index.fn.nl (x.index.fn.es.map aL.av) x.index.fn.cl,.sl x.index.knl (x.index.kids.map aC.av) x.index.kcl,.int .i64 x.check]]:=by rw[aE.avc]
theorem aE.fad_av(off sz:Nat)(ag:Bool)(x:aE):fY off sz ag [.fp (aE.av x)]=fY off sz ag [.fp (.agg [.int .i64 x.kind,.int .i64 x.value,.sl x.space.nl (x.space.es.map Lin.av) x.space.cl,.str x.body.op.bs,.int .i64 x.body.num,.int .i64 x.body.value,.str x.body.name.bs,.sl x.body.at_.nl (x.body.at_.es.map Lin.av) x.body.at_.cl,.bool x.body.dyn,.int .i64 x.body.check,.sl x.body.fn.nl (x.body.fn.es.map aL.av) x.body.fn.cl,.sl x.body.knl (x.body.kids.map aC.av) x.body.kcl,.sl x.fn.nl (x.fn.es.map aL.av) x.fn.cl,.int .i64 x.source,.str x.index.op.bs,.int .i64 x.index.num,.int .i64 x.index.value,.str x.index.name.bs,.sl x.index.at_.nl (x.index.at_.es.map Lin.av) x.index.at_.cl,.bool x.index.dyn,.int .i64 x.index.check,.sl x.index.fn.nl (x.index.fn.es.map aL.av) x.index.fn.cl,.sl x.index.knl (x.index.kids.map aC.av) x.index.kcl,.int .i64 x.check])]:=by rw[aE.avc]
theorem aE.box_av(h:Hp)(k:Nat)(x:aE):fZ h k [aE.av x]=fZ h k [.agg [.int .i64 x.kind,.int .i64 x.value,.sl x.space.nl (x.space.es.map Lin.av) x.space.cl,.str x.body.op.bs,.int .i64 x.body.num,.int .i64 x.body.value,.str x.body.name.bs,.sl x.body.at_.nl (x.body.at_.es.map Lin.av) x.body.at_.cl,.bool x.body.dyn,.int .i64 x.body.check,.sl x.body.fn.nl (x.body.fn.es.map aL.av) x.body.fn.cl,.sl x.body.knl (x.body.kids.map aC.av) x.body.kcl,.sl x.fn.nl (x.fn.es.map aL.av) x.fn.cl,.int .i64 x.source,.str x.index.op.bs,.int .i64 x.index.num,.int .i64 x.index.value,.str x.index.name.bs,.sl x.index.at_.nl (x.index.at_.es.map Lin.av) x.index.at_.cl,.bool x.index.dyn,.int .i64 x.index.check,.sl x.index.fn.nl (x.index.fn.es.map aL.av) x.index.fn.cl,.sl x.index.knl (x.index.kids.map aC.av) x.index.kcl,.int .i64 x.check]]:=by rw[aE.avc]
attribute [go_sem high] aE.cells_av aE.isAgg_av aE.fits_av aE.tree_av aE.treeL_av
attribute [go_sem ↓ high] aE.fld_av aE.fad_av aE.box_av
theorem aA.avc(x:aA):aA.av x = .agg [.sl x.vars.nl (x.vars.es.map Str.av) x.vars.cl,.sl x.wher.nl (x.wher.es.map Lin.av) x.wher.cl,.int .i64 x.inputs,.sl x.values.nl (x.values.es.map Typ.av) x.values.cl,.sl x.list.nl (x.list.es.map aE.av) x.list.cl,.sl x.results.nl (x.results.es.map aH) x.results.cl]:=rfl
theorem aA.cells_av(x:aA):(aA.av x).cells=[.sl x.vars.nl (x.vars.es.map Str.av) x.vars.cl,.sl x.wher.nl (x.wher.es.map Lin.av) x.wher.cl,.int .i64 x.inputs,.sl x.values.nl (x.values.es.map Typ.av) x.values.cl,.sl x.list.nl (x.list.es.map aE.av) x.list.cl,.sl x.results.nl (x.results.es.map aH) x.results.cl]:=by rw[aA.avc];rfl
theorem aA.isAgg_av(x:aA):(aA.av x).isAgg=true:=by rw[aA.avc];rfl
theorem aA.fits_av(x:aA):(aA.av x).fits 6 true=true:=by rw[aA.avc];rfl
theorem aA.tree_av(x:aA):(aA.av x).tree=true:=by rw[aA.avc];simp[go_sem]
theorem aA.treeL_av(l:List aA):Tev.treeL (l.map aA.av)=true:=aU aA.tree_av l
theorem aA.fld_av(off sz:Nat)(ag:Bool)(x:aA):fX off sz ag [aA.av x]=fX off sz ag [.agg [.sl x.vars.nl (x.vars.es.map Str.av) x.vars.cl,.sl x.wher.nl (x.wher.es.map Lin.av) x.wher.cl,.int .i64 x.inputs,.sl x.values.nl (x.values.es.map Typ.av) x.values.cl,.sl x.list.nl (x.list.es.map aE.av) x.list.cl,.sl x.results.nl (x.results.es.map aH) x.results.cl]]:=by rw[aA.avc]
theorem aA.fad_av(off sz:Nat)(ag:Bool)(x:aA):fY off sz ag [.fp (aA.av x)]=fY off sz ag [.fp (.agg [.sl x.vars.nl (x.vars.es.map Str.av) x.vars.cl,.sl x.wher.nl (x.wher.es.map Lin.av) x.wher.cl,.int .i64 x.inputs,.sl x.values.nl (x.values.es.map Typ.av) x.values.cl,.sl x.list.nl (x.list.es.map aE.av) x.list.cl,.sl x.results.nl (x.results.es.map aH) x.results.cl])]:=by rw[aA.avc]
theorem aA.box_av(h:Hp)(k:Nat)(x:aA):fZ h k [aA.av x]=fZ h k [.agg [.sl x.vars.nl (x.vars.es.map Str.av) x.vars.cl,.sl x.wher.nl (x.wher.es.map Lin.av) x.wher.cl,.int .i64 x.inputs,.sl x.values.nl (x.values.es.map Typ.av) x.values.cl,.sl x.list.nl (x.list.es.map aE.av) x.list.cl,.sl x.results.nl (x.results.es.map aH) x.results.cl]]:=by rw[aA.avc]
attribute [go_sem high] aA.cells_av aA.isAgg_av aA.fits_av aA.tree_av aA.treeL_av
attribute [go_sem ↓ high] aA.fld_av aA.fad_av aA.box_av
theorem NV{α : Type}(d:List α)(x : α)(r:List α):(d++x::r)[d.length]?=some x:=by simp
theorem LV{α : Type}(d:List α)(x : α)(r:List α):decide ((d.length:Int)<((d++x::r).length:Int))=true:=by
 simp only[List.length_append,List.length_cons,decide_eq_true_eq];omega
theorem Q5{α : Type}(d:List α):decide ((d.length:Int)<((d++[]).length:Int))=false:=by simp
theorem aX{n:Int}(h1 : -1000000000000000000<=n)(h2:n<=1000000000000000000):wr .i64 n=n:=by
 simp only[wr];rw[if_pos (by omega)]
theorem MA{n:Nat}(h:n<=1000000000000000000):wr .i64 (n:Int)=n:=aX (by omega) (by omega)
theorem aQ{α : Type}{d:List α}{x : α}{r:List α}(h:(d++x::r).length<=big):wr .i64 ((d.length:Int)+1)=((d++[x]).length:Int):=by
 simp only[List.length_append,List.length_cons,List.length_nil,big]at *
 rw[aX (by omega) (by omega)]
 omega
theorem bI{pg:Pg}{kb:Nat}{α : Type}(es:List α)(E:List α -> List α -> List AV->Hp->Prop){b:C}{clr:List Bool}{st:St}{Q:Ex->St->Prop}{t:Tok Q}(h0:E [] es (clear clr st.env) st.hp)
  (hend:∀env hp,E es [] env hp->XX pg kb b ⟨env,hp⟩ (jZ (fun _=>False) Q) ⟨⟩)
  (hstep:∀d x r env hp,es=d++x::r->E d (x::r) env hp->XX pg kb b ⟨env,hp⟩ (jZ (fun st'=>E (d++[x]) r (clear clr st'.env) st'.hp) Q) ⟨⟩) :
  XX pg kb (.loop b clr) st Q t:=by
 refine nF (α:={p:List α×List α // es=p.1++p.2}) (fun p=>p.1.2.length) (fun p=>E p.1.1 p.1.2) ⟨([],es),rfl⟩ h0 ?_
 rintro⟨⟨d,r⟩,hes⟩ env hp hE
 dsimp only at hes hE ⊢
 cases r with
 |nil=>
  rw[List.append_nil]at hes
  subst hes
  obtain⟨n,ex,st',h1,h2⟩:=hend env hp hE
  refine⟨n,ex,st',h1,?_⟩
  cases ex with
  |nor=>exact h2.elim
  |ext i=>exact h2
  |ret=>exact h2
 |cons x r=>
  obtain⟨n,ex,st',h1,h2⟩:=hstep d x r env hp hes hE
  refine⟨n,ex,st',h1,?_⟩
  cases ex with
  |nor=>exact⟨⟨(d++[x],r),by simp[hes]⟩,by simp,h2⟩
  |ext i=>exact h2
  |ret=>exact h2
theorem qP{h:Hp}{v:AV}(hv:v.tree=true):conv h v=some v:=by
 have:snap depth h v=some (v,[]):=by unfold depth snap;rw[if_pos hv]
 cases v<;>first|(simp only[conv,this];rfl)|simp[AV.tree]at hv
theorem J4{α : Type}(x y : α):(some x=some y)=(x=y):=by simp
theorem K8(x y:Bool):(AV.bool x=AV.bool y)=(x=y):=by simp
theorem NU(k:IntKind)(x y:Int):(AV.int k x=AV.int k y)=(x=y):=by simp
theorem MC(x y:List UInt8):(AV.str x=AV.str y)=(x=y):=by simp
theorem NS{α : Type}(l:List α):(0<=(l.length:Int))=True:=by simp
def bR(pg:Pg)(f:Nat)(ts:List AV)(P:AV->Prop):Prop:=∃r,Ret pg f ts r/\P r
def IT(res:List (Sum Nat (Nat×Nat×Bool)))(P:AV->Prop)(ex:Ex)(st:St):Prop:=
 match ex with
 |.ext _=>False
 |_=>∃v,result st res=some v/\∃r,conv st.hp v=some r/\P r
theorem IR(res:List (Sum Nat (Nat×Nat×Bool)))(P:AV->Prop)(st:St):IT res P .nor st=∃v,result st res=some v/\∃r,conv st.hp v=some r/\P r:=rfl
theorem IQ(res:List (Sum Nat (Nat×Nat×Bool)))(P:AV->Prop)(st:St):IT res P .ret st=∃v,result st res=some v/\∃r,conv st.hp v=some r/\P r:=rfl
theorem bR.ofX{pg:Pg}{f:Nat}{cf:CF}{vs:List AV}{P:AV->Prop}(hf:pg.fs f=some cf)(hw:XX pg 0 cf.body ⟨enter cf vs,[]⟩ (IT cf.res P) ⟨⟩):bR pg f vs P:=by
 obtain⟨n,ex,st,h1,h2⟩:=hw
 cases ex with
 |ext i=>exact h2.elim
 |nor=>obtain⟨v,h3,r,h4,h5⟩:=h2;exact⟨r,Ret.of hf ⟨n,.nor,st,h1,v,h3,h4⟩,h5⟩
 |ret=>obtain⟨v,h3,r,h4,h5⟩:=h2;exact⟨r,Ret.of hf ⟨n,.ret,st,h1,v,h3,h4⟩,h5⟩
def IsB(v:AV):Prop:=∃b:Bool,v = .bool b
theorem HN(b:Bool):IsB (.bool b)=True:=by simp only[IsB,eq_iff_iff,iff_true];exact⟨b,rfl⟩
theorem bR.mono{pg:Pg}{f:Nat}{ts:List AV}{P P':AV->Prop}(h:bR pg f ts P)(hP:∀r,P r->P' r):bR pg f ts P':=by
 obtain⟨r,h1,h2⟩:=h;exact⟨r,h1,hP r h2⟩
theorem Ret.P{pg:Pg}{f:Nat}{ts:List AV}{r:AV}{P:AV->Prop}(h:Ret pg f ts r)(hP:P r):bR pg f ts P:=⟨r,h,hP⟩
theorem bX{pg:Pg}{kb:Nat}{α : Type}(es:List α)(U:List α -> List AV->List AV)(I:List α -> List α -> Hp->Prop){b:C}{clr:List Bool}{st:St}{Q:Ex->St->Prop}{t:Tok Q}
  (h0:clear clr st.env=U [] (clear clr st.env)) (i0:I [] es st.hp)
  (hend:∀hp,I es [] hp->XX pg kb b ⟨U es (clear clr st.env),hp⟩ (jZ (fun _=>False) Q) ⟨⟩)
  (hstep:∀d x r hp,es=d++x::r->I d (x::r) hp->XX pg kb b ⟨U d (clear clr st.env),hp⟩ (jZ (fun st'=>clear clr st'.env=U (d++[x]) (clear clr st.env)/\I (d++[x]) r st'.hp) Q) ⟨⟩) :
  XX pg kb (.loop b clr) st Q t:=by
 refine bI es (fun d r env hp=>env=U d (clear clr st.env)/\I d r hp) ⟨h0,i0⟩ ?_ ?_
 ·rintro env hp ⟨rfl,h⟩
  exact hend hp h
 ·rintro d x r env hp hes ⟨rfl,h⟩
  exact hstep d x r hp hes h
attribute [go_sem ↓] IR IQ
attribute [go_sem] HN
theorem bS(f:AV->Option (AV×List Nat)):bJ f []=some ([],[]):=rfl
theorem aV(f:AV->Option (AV×List Nat))(x:AV)(r:List AV):bJ f (x::r)=match f x with
  |none=>none
  |some (y,s)=>match bJ f r with
   |none=>none
   |some (l,s')=>some (y::l,s++s'):=rfl
theorem dA(d:Nat)(h:Hp)(v:AV):snap (d+1) h v=(if v.tree then some (v,[]) else
  match v with
  |.agg cs=>(bJ (snap d h) cs).map fun(l,s)=>(.agg l,s)
  |.tup cs=>(bJ (snap d h) cs).map fun(l,s)=>(.tup l,s)
  |.sl nl es cl=>(bJ (snap d h) es).map fun(l,s)=>(.sl nl l cl,s)
  |.ifc v=>(snap d h v).map fun(x,s)=>(.ifc x,s)
  |.fn f cs=>(bJ (snap d h) cs).map fun(l,s)=>(.fn f l,s)
  |.rf k e off len cap=>
   match h.get k with
   |some (e',.blk cs esz ag ti _)=>
    if e'=e then
     match iZ esz ag len (cs.drop off) with
     |some es=>(bJ (snap d h) es).map fun(l,s)=>(.sl false l (ti&&len==cap),k::s)
     |none=>none
    else none
   |_=>none
  |.pt k e off=>
   match h.get k with
   |some (e',.blk cs esz ag _ _)=>
    if e'=e/\off=0/\esz=cs.length then
     match bJ (snap d h) cs with
     |some (l,s)=>if ag then some (.fp (.agg l),k::s) else match l with|[v]=>if v.isAgg then none else some (.fp v,k::s)|_=>none
     |none=>none
    else none
   |_=>none
  |_=>none):=by
 rfl
theorem SF(c:UInt8)(t:List UInt8):mM true false [.str (c::t),.int .i64 1]=val (.str t):=by
 have h1:(1:Int)<=((t.length:Int)+1):=by omega
 simp[mM,fN,h1]
attribute [go_sem ↓] SF
theorem qR{pg pg':Pg}(h:∀f cf,pg.fs f=some cf->pg'.fs f=some cf)(hg:pg.gl=pg'.gl)(hx:∀f,pg.ex f=none):∀n,gY (aO pg n) (aO pg' n)
 |0=>⟨by intro f a kb hp r hq;simp[aO]at hq,by intro k e a hp r hq;simp[aO]at hq⟩
 |n+1=>by
  refine⟨?_,fun k e a hp r hq=>by
   simp only[aO]at hq ⊢
   exact l8 (fun c b st r hr=>by rw[<-hg];exact kQ (qR h hg hx n) (Nat.le_refl _) hr) hq⟩
  intro f a kb hp r hq
  simp only[aO]at hq ⊢
  cases hf:pg.fs f with
  |none=>simp[hf,hx]at hq
  |some cf=>
   rw[hf]at hq
   rw[h f cf hf]
   simp only at hq ⊢
   cases he:bF pg.gl (aO pg n) kb n cf.body ⟨enter cf a,hp⟩ with
   |none=>simp[he]at hq
   |some p=>
    rw[he]at hq
    rw[<-hg,kQ (qR h hg hx n) (Nat.le_refl _) he]
    exact hq
theorem Ret.closed{pg:Pg}(t:BT CF)(ht:∀f cf,t.find f=some cf->pg.fs f=some cf)(n:Nat){f:Nat}{ts:List AV}{r:AV}(h:bA (aO ⟨fun f=>t.find f,pg.gl,fun _=>none⟩ n) f ts=some r):Ret pg f ts r:=
 ⟨n,d7 (qR (pg:=⟨fun f=>t.find f,pg.gl,fun _=>none⟩) ht rfl (fun _=>rfl) n) h⟩
theorem YE:(((1:Nat):Int))=1:=rfl
theorem YD:(((2:Nat):Int))=2:=rfl
theorem YC:(((3:Nat):Int))=3:=rfl
theorem YB:(((4:Nat):Int))=4:=rfl
theorem YA:(((5:Nat):Int))=5:=rfl
theorem X9:(((6:Nat):Int))=6:=rfl
theorem X8:(((7:Nat):Int))=7:=rfl
theorem X7:(((8:Nat):Int))=8:=rfl
theorem X6:(((9:Nat):Int))=9:=rfl
theorem RQ:(((10:Nat):Int))=10:=rfl
theorem RP:(((11:Nat):Int))=11:=rfl
theorem RO:(((12:Nat):Int))=12:=rfl
attribute [go_sem] YE YD YC YB YA X9 X8 X7 X6 RQ RP RO
attribute [go_sem] Z Y N i0 i1 bN bY sN
attribute [go_sem] NV LV Q5 qP J4 K8 NU MC clear NS yF
end Go.Tev
end
section
namespace Go.Tev
def AD:List Bool:=[true,true,false,false,false,false,false,true,true,false,false,false,false,false,false,false,false,false,false]
def AE(esz:Nat)(ag:Bool):C:=
 (.seq (.reg [⟨(some 9),(.bin .lss),[.t 8,.t 7],none,0,0⟩] false)
 (.seq (.cond (.t 9) .skip
  (.exit 0))
 (.seq (.block 1 (.seq (.reg [⟨(some 10),.mov,[.t 8],none,0,0⟩,
  ⟨(some 5),.mov,[.t 10],none,0,0⟩] false)
 (.seq (.reg [⟨(some 11),.mov,[.t 1],none,0,0⟩,
  ⟨(some 12),.mov,[.t 0],none,0,0⟩,
  ⟨(some 13),.mov,[.t 5],none,0,0⟩,
  ⟨(some 14),(.iad esz ag none),[.t 12,.t 13],none,0,0⟩,
  ⟨(some 15),(.load esz ag),[.t 14],none,0,0⟩,
  ⟨(some 16),(.callv false false),[.t 11,.t 15],none,0,1⟩] false)
 (.cond (.t 16) (.seq (.reg [⟨(some 17),.mov,[.t 5],none,0,0⟩,
   ⟨(some 4),.mov,[.t 17],none,0,0⟩] false)
  .ret)
  .skip))))
 (.reg [⟨(some 18),(.bin .add),[.t 8,.c (.int .i64 1)],none,0,0⟩,
  ⟨(some 8),.mov,[.t 18],none,0,0⟩] false))))
def KZ(esz:Nat)(ag:Bool):CF:=⟨2,19,[.inl 4],
 (.seq (.reg [⟨(some 4),.mov,[.c (.int .i64 0)],none,0,0⟩] false)
 (.seq (.seq (.reg [⟨(some 6),.mov,[.t 0],none,0,0⟩,
  ⟨(some 7),(.len 1),[.t 6],none,0,0⟩,
  ⟨(some 8),.mov,[.c (.int .i64 0)],none,0,0⟩] false)
 (.block 0 (.loop (AE esz ag) AD)))
 (.seq (.reg [⟨(some 4),.mov,[.c (.int .i64 (-1))],none,0,0⟩] false)
 .ret)))⟩
def RR(n:Nat):CF:=⟨2,9,[.inl 4],
 (.seq (.reg [⟨(some 4),.mov,[.c (.bool false)],none,0,0⟩] false)
 (.seq (.reg [⟨(some 5),.mov,[.t 0],none,0,0⟩,
  ⟨(some 6),.mov,[.t 1],none,0,0⟩,
  ⟨(some 7),(.call n false false),[.t 5,.t 6],none,0,1⟩,
  ⟨(some 8),(.bin .geq),[.t 7,.c (.int .i64 0)],none,0,0⟩,
  ⟨(some 4),.mov,[.t 8],none,0,0⟩] false)
 .ret))⟩
def HT:List Bool:=[true,true,false,false,false,false,false,true,true,false,false,false,false,false,false,false,false,false,false]
def HU(esz:Nat)(ag:Bool)(k:K):C:=
 (.seq (.reg [⟨(some 9),(.bin .lss),[.t 8,.t 7],none,0,0⟩] false)
 (.seq (.cond (.t 9) .skip
  (.exit 0))
 (.seq (.block 1 (.seq (.reg [⟨(some 10),.mov,[.t 8],none,0,0⟩,
  ⟨(some 5),.mov,[.t 10],none,0,0⟩] false)
 (.seq (.reg [⟨(some 11),.mov,[.t 1],none,0,0⟩,
  ⟨(some 12),.mov,[.t 0],none,0,0⟩,
  ⟨(some 13),.mov,[.t 5],none,0,0⟩,
  ⟨(some 14),(.iad esz ag none),[.t 12,.t 13],none,0,0⟩,
  ⟨(some 15),(.load esz ag),[.t 14],none,0,0⟩,
  ⟨(some 16),k,[.t 11,.t 15],none,0,0⟩] false)
 (.cond (.t 16) (.seq (.reg [⟨(some 17),.mov,[.t 5],none,0,0⟩,
   ⟨(some 4),.mov,[.t 17],none,0,0⟩] false)
  .ret)
  .skip))))
 (.reg [⟨(some 18),(.bin .add),[.t 8,.c (.int .i64 1)],none,0,0⟩,
  ⟨(some 8),.mov,[.t 18],none,0,0⟩] false))))
def RB(esz:Nat)(ag:Bool)(k:K):CF:=⟨2,19,[.inl 4],
 (.seq (.reg [⟨(some 4),.mov,[.c (.int .i64 0)],none,0,0⟩] false)
 (.seq (.seq (.reg [⟨(some 6),.mov,[.t 0],none,0,0⟩,
  ⟨(some 7),(.len 1),[.t 6],none,0,0⟩,
  ⟨(some 8),.mov,[.c (.int .i64 0)],none,0,0⟩] false)
 (.block 0 (.loop (HU esz ag k) HT)))
 (.seq (.reg [⟨(some 4),.mov,[.c (.int .i64 (-1))],none,0,0⟩] false)
 .ret)))⟩
def N6:List Bool:=[false,true,true,false,false,false,false,false,false,false,false,false,false,false,false,true,true,true,false,false,false,false,false,false,false,false,false,false,false,false,false,false]
def N7(esz:Nat)(ag:Bool)(z:List AV):C:=
 (.seq (.reg [⟨(some 18),(.bin .lss),[.t 17,.t 16],none,0,0⟩] false)
 (.seq (.cond (.t 18) .skip
  (.exit 0))
 (.seq (.block 1 (.seq (.reg [⟨(some 19),.mov,[.t 17],none,0,0⟩,
  ⟨(some 20),(.iad esz ag none),[.t 15,.t 17],none,0,0⟩,
  ⟨(some 21),(.load esz ag),[.t 20],none,0,0⟩,
  ⟨(some 8),(.alloc z ag),[],none,0,1⟩,
  ⟨(some 7),.mov,[.t 19],none,0,0⟩,
  ⟨none,(.store esz ag),[.t 8,.t 21],none,0,0⟩] false)
 (.seq (.reg [⟨(some 22),.mov,[.t 1],none,0,0⟩,
  ⟨(some 23),.mov,[.t 7],none,0,0⟩,
  ⟨(some 24),(.iad esz ag none),[.t 22,.t 23],none,0,0⟩,
  ⟨(some 25),(.load esz ag),[.t 24],none,0,0⟩,
  ⟨(some 9),(.alloc z ag),[],none,0,5⟩,
  ⟨none,(.store esz ag),[.t 9,.t 25],none,0,0⟩] false)
 (.seq (.reg [⟨(some 26),.mov,[.t 2],none,0,0⟩,
  ⟨(some 27),(.load esz ag),[.t 8],none,0,0⟩,
  ⟨(some 28),(.load esz ag),[.t 9],none,0,0⟩,
  ⟨(some 29),(.callv false false),[.t 26,.t 27,.t 28],none,0,9⟩,
  ⟨(some 30),(.un .not),[.t 29],none,0,0⟩] false)
 (.cond (.t 30) (.seq (.reg [⟨(some 6),.mov,[.c (.bool false)],none,0,0⟩] false)
  .ret)
  .skip)))))
 (.reg [⟨(some 31),(.bin .add),[.t 17,.c (.int .i64 1)],none,0,0⟩,
  ⟨(some 17),.mov,[.t 31],none,0,0⟩] false))))
def eqF(esz:Nat)(ag:Bool)(z:List AV):CF:=⟨3,32,[.inl 6],
 (.seq (.reg [⟨(some 6),.mov,[.c (.bool false)],none,0,0⟩] false)
 (.seq (.seq (.reg [⟨(some 10),.mov,[.t 0],none,0,0⟩,
  ⟨(some 11),(.len 1),[.t 10],none,0,0⟩,
  ⟨(some 12),.mov,[.t 1],none,0,0⟩,
  ⟨(some 13),(.len 1),[.t 12],none,0,0⟩,
  ⟨(some 14),(.bin .neq),[.t 11,.t 13],none,0,0⟩] false)
 (.cond (.t 14) (.seq (.reg [⟨(some 6),.mov,[.c (.bool false)],none,0,0⟩] false)
  .ret)
  .skip))
 (.seq (.seq (.reg [⟨(some 15),.mov,[.t 0],none,0,0⟩,
  ⟨(some 16),(.len 1),[.t 15],none,0,0⟩,
  ⟨(some 17),.mov,[.c (.int .i64 0)],none,0,0⟩] false)
 (.block 0 (.loop (N7 esz ag z) N6)))
 (.seq (.reg [⟨(some 6),.mov,[.c (.bool true)],none,0,0⟩] false)
 .ret))))⟩
def N2:List Bool:=[true,true,false,false,false,false,false,false,false,false,false,false,true,true,false,false,false,false,false,false,false,false,false,false,false,false]
def N3(esz:Nat)(ag:Bool)(k:K):C:=
 (.seq (.reg [⟨(some 14),(.bin .lss),[.t 13,.t 12],none,0,0⟩] false)
 (.seq (.cond (.t 14) .skip
  (.exit 0))
 (.seq (.block 1 (.seq (.reg [⟨(some 15),.mov,[.t 13],none,0,0⟩,
  ⟨(some 5),.mov,[.t 15],none,0,0⟩] false)
 (.seq (.reg [⟨(some 16),.mov,[.t 0],none,0,0⟩,
  ⟨(some 17),.mov,[.t 5],none,0,0⟩,
  ⟨(some 18),(.iad esz ag none),[.t 16,.t 17],none,3,0⟩,
  ⟨(some 19),(.load esz ag),[.t 18],none,7,0⟩,
  ⟨(some 20),.mov,[.t 1],none,0,0⟩,
  ⟨(some 21),.mov,[.t 5],none,0,0⟩,
  ⟨(some 22),(.iad esz ag none),[.t 20,.t 21],none,48,0⟩,
  ⟨(some 23),(.load esz ag),[.t 22],none,112,0⟩,
  ⟨(some 24),k,[.t 19,.t 23],none,255,0⟩] true)
 (.cond (.t 24) (.seq (.reg [⟨(some 4),.mov,[.c (.bool false)],none,0,0⟩] false)
  .ret)
  .skip))))
 (.reg [⟨(some 25),(.bin .add),[.t 13,.c (.int .i64 1)],none,0,0⟩,
  ⟨(some 13),.mov,[.t 25],none,0,0⟩] false))))
def eqV(esz:Nat)(ag:Bool)(k:K):CF:=⟨2,26,[.inl 4],
 (.seq (.reg [⟨(some 4),.mov,[.c (.bool false)],none,0,0⟩] false)
 (.seq (.seq (.reg [⟨(some 6),.mov,[.t 0],none,0,0⟩,
  ⟨(some 7),(.len 1),[.t 6],none,0,0⟩,
  ⟨(some 8),.mov,[.t 1],none,0,0⟩,
  ⟨(some 9),(.len 1),[.t 8],none,0,0⟩,
  ⟨(some 10),(.bin .neq),[.t 7,.t 9],none,0,0⟩] false)
 (.cond (.t 10) (.seq (.reg [⟨(some 4),.mov,[.c (.bool false)],none,0,0⟩] false)
  .ret)
  .skip))
 (.seq (.seq (.reg [⟨(some 11),.mov,[.t 0],none,0,0⟩,
  ⟨(some 12),(.len 1),[.t 11],none,0,0⟩,
  ⟨(some 13),.mov,[.c (.int .i64 0)],none,0,0⟩] false)
 (.block 0 (.loop (N3 esz ag k) N2)))
 (.seq (.reg [⟨(some 4),.mov,[.c (.bool true)],none,0,0⟩] false)
 .ret))))⟩
def BQ:List Bool:=[false,false,false,true,false,false,false,true,true,true,false,false,false,false,false,false,false,false,false,false,false,false,false]
def BR(g:Nat):C:=
 (.seq (.reg [⟨(some 10),(.bin .lss),[.t 9,.t 8],none,0,0⟩] false)
 (.seq (.cond (.t 10) .skip
  (.exit 0))
 (.seq (.block 1 (.seq (.reg [⟨(some 11),(.iad 2 true none),[.t 7,.t 9],none,0,0⟩,
  ⟨(some 12),(.load 2 true),[.t 11],none,0,0⟩,
  ⟨(some 6),(.alloc [(.int .i64 0),(.sl true [] true)] true),[],none,0,5⟩,
  ⟨none,(.store 2 true),[.t 6,.t 12],none,0,0⟩] false)
 (.seq (.reg [⟨(some 13),(.load 2 true),[.t 6],none,0,0⟩,
  ⟨(some 14),(.call 51 false false),[.t 13],none,0,9⟩,
  ⟨(some 15),(.un .not),[.t 14],none,0,0⟩,
  ⟨(some 16),.mov,[.t 15],none,0,0⟩,
  ⟨(some 17),(.load 2 true),[.t 6],(some (16,false)),0,0⟩,
  ⟨(some 18),(.call 96 false false),[.t 17],(some (16,false)),0,13⟩,
  ⟨(some 19),(.mkf g),[.t 3],(some (16,false)),0,0⟩,
  ⟨(some 20),(.call 95 false false),[.t 18,.t 19],(some (16,false)),0,17⟩,
  ⟨(some 21),.pick,[.t 16,.c (.bool true),.t 20],none,0,0⟩] false)
 (.cond (.t 21) (.seq (.reg [⟨(some 4),.mov,[.c (.bool false)],none,0,0⟩] false)
  .ret)
  .skip))))
 (.reg [⟨(some 22),(.bin .add),[.t 9,.c (.int .i64 1)],none,0,0⟩,
  ⟨(some 9),.mov,[.t 22],none,0,0⟩] false))))
def LT(g:Nat):CF:=⟨2,23,[.inl 4],
 (.seq (.reg [⟨(some 3),.box,[.t 1],none,0,1⟩,
  ⟨(some 4),.mov,[.c (.bool false)],none,0,0⟩] false)
 (.seq (.seq (.reg [⟨(some 7),.mov,[.t 0],none,0,0⟩,
  ⟨(some 8),(.len 1),[.t 7],none,0,0⟩,
  ⟨(some 9),.mov,[.c (.int .i64 0)],none,0,0⟩] false)
 (.block 0 (.loop (BR g) BQ)))
 (.seq (.reg [⟨(some 4),.mov,[.c (.bool true)],none,0,0⟩] false)
 .ret)))⟩
section
variable{pg:Pg}
theorem pI{f:Nat}{esz:Nat}{ag:Bool}(hf:pg.fs f=some (KZ esz ag)){α : Type}(enc : α -> AV)(hfit:∀x,(enc x).fits esz ag=true)(htree:∀x,(enc x).tree=true)
  (nl cl:Bool) (es:List α) (hb:es.length<=big) (g:Nat) (cs:List AV) (hcs:treeL cs=true) (p : α -> Bool) (hp:∀x∈es,Ret pg g (enc x::cs) (.bool (p x))) :
  bR pg f [.sl nl (es.map enc) cl,.fn g cs] (fun r=>∃i:Int,r = .int .i64 i/\decide (0<=i)=es.any p):=by
 refine bR.ofX hf ?_
 unfold KZ
 simp only[go_sem,seval]
 refine bX es (fun d e=>cD e (some 8) (.int .i64 d.length)) (fun d r hp=>es.any p=r.any p) rfl ?_ ?_ ?_
 ·rfl
 ·intro hp' hI
  simp only[AE,AD,go_sem,seval]
  simp[hI]
 ·intro d x r hp' hes hI
  subst hes
  simp only[AE,AD,hfit,go_sem,seval]
  refine aB (hp x (by simp)) (by simp only[treeL,htree,hcs,List.cons_append,List.nil_append,Bool.and_true]) rfl ?_
  simp only[go_sem,seval]
  cases hx:p x
  ·simp only[aQ hb,go_sem,seval]
   simpa[hx] using hI
  ·simp only[go_sem,seval]
   simp[hx]
theorem j8{f n:Nat}(hf:pg.fs f=some (RR n)){a b:AV}{q:Bool}(ha:treeL [a,b]=true)(h:bR pg n [a,b] (fun r=>∃i:Int,r = .int .i64 i/\decide (0<=i)=q)) :
  Ret pg f [a,b] (.bool q):=by
 obtain⟨_,h,i,rfl,hi⟩:=h
 refine Ret.ofX hf ?_
 unfold RR
 simp only[go_sem,seval]
 refine aB h ha rfl ?_
 simp only[go_sem,seval]
 exact hi
theorem x8{f:Nat}{esz:Nat}{ag:Bool}{k:K}(hf:pg.fs f=some (RB esz ag k)){α : Type}(enc : α -> AV)(hfit:∀x,(enc x).fits esz ag=true)
  (nl cl:Bool) (es:List α) (hb:es.length<=big) (v:AV) (p : α -> Bool) (hk:∀(kb s:Nat)(h:Hp)(x : α)(Q:AV->Eff->Prop)(t:Tok Q),XO pg kb k s h [v,enc x] Q t=Q (.bool (p x)) (.pat [] [])) :
  bR pg f [.sl nl (es.map enc) cl,v] (fun r=>∃i:Int,r = .int .i64 i/\decide (0<=i)=es.any p):=by
 refine bR.ofX hf ?_
 unfold RB
 simp only[go_sem,seval]
 refine bX es (fun d e=>cD e (some 8) (.int .i64 d.length)) (fun d r hp=>es.any p=r.any p) rfl ?_ ?_ ?_
 ·rfl
 ·intro hp' hI
  simp only[HU,HT,go_sem,seval]
  simp[hI]
 ·intro d x r hp' hes hI
  subst hes
  simp only[HU,HT,hfit,hk,go_sem,seval]
  cases hx:p x
  ·simp only[aQ hb,go_sem,seval]
   simpa[hx] using hI
  ·simp only[go_sem,seval]
   simp[hx]
def eqL{α β : Type}(q : α -> β -> Bool):List α -> List β -> Bool
 |[],[]=>true
 |x::r,y::s=>q x y&&eqL q r s
 |_,_=>false
theorem sK{α β : Type}{q : α -> β -> Bool}:∀{a:List α}{b:List β},eqL q a b=true->a.length=b.length
 |[],[],_=>rfl
 |x::r,y::s,h=>by simp only[eqL,Bool.and_eq_true]at h;simp[sK h.2]
 |[],_::_,h=>by simp[eqL]at h
 |_::_,[],h=>by simp[eqL]at h
theorem CR{f:Nat}{esz:Nat}{ag:Bool}{z:List AV}(hz:z.length=esz)(hf:pg.fs f=some (eqF esz ag z)){α : Type}(enc : α -> AV)(cells : α -> List AV)(henc:∀x,enc x = .agg (cells x))(hcl:∀x,(cells x).length=esz)(hone:∀x,bB (cells x)=true)(hag:ag=true)(htree:∀x,(enc x).tree=true)
  (nl cl nl' cl':Bool) (es es':List α) (hb:es.length<=big) (g:Nat) (q : α -> α -> Bool) (hq:∀x∈es,∀y∈es',Ret pg g [enc x,enc y] (.bool (q x y))) :
  Ret pg f [.sl nl (es.map enc) cl,.sl nl' (es'.map enc) cl',.fn g []] (.bool (eqL q es es')):=by
 have hfit:∀x,(enc x).fits esz ag=true:=by intro x;rw[henc,hag];simp[AV.fits,hcl]
 have hcells:∀x,(enc x).cells=cells x:=by intro x;rw[henc];rfl
 have hdr:List.drop esz z=[]:=by rw[<-hz];simp
 have hpart:∀x,dQ (cells x) 0 esz ag=some (enc x):=by
  intro x
  rw[hag]
  have:=hcl x
  simp[dQ,henc,<-this]
 refine Ret.ofX hf ?_
 unfold eqF
 simp only[go_sem,seval]
 cases hl:decide ((es.length:Int)=es'.length)
 case false=>
  simp only[hl,go_sem,seval]
  cases he:eqL q es es'
  ·rfl
  ·exact absurd (congrArg Int.ofNat (sK he)) (by simpa using hl)
 simp only[hl,go_sem,seval]
 have hl':es.length=es'.length:=by simp at hl;omega
 refine bX es (fun d e=>cD e (some 17) (.int .i64 d.length)) (fun d r hp=>∃d2 r2,es'=d2++r2/\d2.length=d.length/\eqL q es es'=eqL q r r2) rfl ?_ ?_ ?_
 ·exact⟨[],es',rfl,rfl,rfl⟩
 ·rintro hp ⟨d2,r2,h1,h2,h3⟩
  simp only[N7,N6,go_sem,seval]
  rw[h3]
  have:r2=[]:=by
   have:=congrArg List.length h1
   simp at this
   exact List.eq_nil_of_length_eq_zero (by omega)
  subst this
  rfl
 ·rintro d x r hp hes ⟨d2,r2,h1,h2,h3⟩
  have hlen:r2.length=(x::r).length:=by
   have e1:=congrArg List.length h1
   have e2:=congrArg List.length hes
   simp at e1 e2 ⊢
   omega
  obtain⟨y,r2,rfl⟩:∃y s,r2=y::s:=by
   cases r2 with
   |nil=>simp at hlen
   |cons y s=>exact⟨y,s,rfl⟩
  have hy:es'[d.length]?=some y:=by rw[h1,<-h2];simp
  subst hes
  simp only[N7,N6,hfit,hcells,hz,hcl,hone,hpart,hy,hdr,Nat.zero_add,Nat.le_refl,List.append_nil,go_sem,seval]
  refine aB (hq x (by simp) y (by rw[h1];simp)) (by simp only[treeL,htree,Bool.and_true,List.append_nil]) rfl ?_
  simp only[go_sem,seval]
  cases hx:q x y
  ·simp only[go_sem,seval]
   rw[h3]
   simp[eqL,hx]
  ·simp only[aQ hb,go_sem,seval]
   exact⟨d2++[y],r2,by simp[h1],by simp[h2],by simpa[eqL,hx] using h3⟩
theorem IM{f:Nat}{esz:Nat}{ag:Bool}{k:K}(hf:pg.fs f=some (eqV esz ag k)){α : Type}(enc : α -> AV)(hfit:∀x,(enc x).fits esz ag=true)
  (nl cl nl' cl':Bool) (es es':List α) (hb:es.length<=big) (q : α -> α -> Bool)
  (hk:∀(kb s:Nat)(h:Hp)(x y : α)(Q:AV->Eff->Prop)(t:Tok Q),XO pg kb k s h [enc x,enc y] Q t=Q (.bool (!q x y)) (.pat [] [])) (hnc:k.isCall=false) :
  Ret pg f [.sl nl (es.map enc) cl,.sl nl' (es'.map enc) cl'] (.bool (eqL q es es')):=by
 refine Ret.ofX hf ?_
 unfold eqV
 simp only[go_sem,seval]
 cases hl:decide ((es.length:Int)=es'.length)
 case false=>
  simp only[hl,go_sem,seval]
  cases he:eqL q es es'
  ·rfl
  ·exact absurd (congrArg Int.ofNat (sK he)) (by simpa using hl)
 simp only[hl,go_sem,seval]
 have hl':es.length=es'.length:=by simp at hl;omega
 refine bX es (fun d e=>cD e (some 13) (.int .i64 d.length)) (fun d r hp=>∃d2 r2,es'=d2++r2/\d2.length=d.length/\eqL q es es'=eqL q r r2) rfl ?_ ?_ ?_
 ·exact⟨[],es',rfl,rfl,rfl⟩
 ·rintro hp ⟨d2,r2,h1,h2,h3⟩
  simp only[N3,N2,go_sem,seval]
  rw[h3]
  have:r2=[]:=by
   have:=congrArg List.length h1
   simp at this
   exact List.eq_nil_of_length_eq_zero (by omega)
  subst this
  rfl
 ·rintro d x r hp hes ⟨d2,r2,h1,h2,h3⟩
  have hlen:r2.length=(x::r).length:=by
   have e1:=congrArg List.length h1
   have e2:=congrArg List.length hes
   simp at e1 e2 ⊢
   omega
  obtain⟨y,r2,rfl⟩:∃y s,r2=y::s:=by
   cases r2 with
   |nil=>simp at hlen
   |cons y s=>exact⟨y,s,rfl⟩
  have hy:es'[d.length]?=some y:=by rw[h1,<-h2];simp
  subst hes
  simp only[N3,N2,hfit,hy,hk,go_sem,seval]
  refine And.intro (by kernel_rfl) ?_
  cases hx:q x y
  ·simp only[go_sem,seval]
   rw[h3]
   simp[eqL,hx]
  ·simp only[aQ hb,go_sem,seval]
   exact⟨d2++[y],r2,by simp[h1],by simp[h2],by simpa[eqL,hx] using h3⟩
end
end Go.Tev
end
