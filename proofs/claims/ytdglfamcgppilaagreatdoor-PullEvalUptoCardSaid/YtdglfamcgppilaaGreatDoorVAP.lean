import Derived.Test.YtdglfamcgppilaaGreatDoorVAO
import Derived.KernelRfl
import Derived.Test.YtdglfamcgppilaaGreatDoorVAH
set_option linter.all false
namespace Go.Tev
section
structure Tok.{u}{α : Sort u}(a : α):Type where
def XX(pg:Pg)(kb:Nat)(c:C)(st:St)(Q:Ex->St->Prop)(_:Tok Q):Prop:=WX pg kb c st Q
def XR(pg:Pg)(kb:Nat)(rs:List R)(st:St)(Q:St->Prop)(_:Tok Q):Prop:=WR pg kb rs st Q
def XT(pg:Pg)(kb:Nat)(rs:List R)(st:St)(Q:St->List Eff->Prop)(_:Tok Q):Prop:=WT pg kb rs st Q
def XO(pg:Pg)(kb:Nat)(k:K)(s:Nat)(h:Hp)(vs:List AV)(Q:AV->Eff->Prop)(_:Tok Q):Prop:=WO pg kb k s h vs Q
def XG(v:AV)(b:Bool)(A B:Unit->Prop)(_:Tok (A,B)):Prop:=gdQ v b (A ()) (B ())
def XC(v:AV)(A B:Unit->Prop)(_:Tok (A,B)):Prop:=RZ v (A ()) (B ())
def XV(o:Option (AV×Eff))(Q:AV->Eff->Prop)(_:Tok Q):Prop:=JB o Q
variable{pg:Pg}{kb:Nat}
theorem XU(st:St)(Q:Ex->St->Prop)(t:Tok Q):XX pg kb .skip st Q t=Q .nor st:=YD st Q
theorem XY(id:Nat)(st:St)(Q:Ex->St->Prop)(t:Tok Q):XX pg kb (.exit id) st Q t=Q (.ext id) st:=YF id st Q
theorem aEO(st:St)(Q:Ex->St->Prop)(t:Tok Q):XX pg kb .ret st Q t=Q .ret st:=aFx st Q
theorem aEP(rs:List R)(st:St)(Q:Ex->St->Prop)(t:Tok Q):XX pg kb (.reg rs false) st Q t=XR pg kb rs st (λst'=>Q .nor st') ⟨⟩:=aFy rs st Q
theorem XW(rs:List R)(st:St)(Q:Ex->St->Prop)(t:Tok Q):XX pg kb (.reg rs true) st Q t=XT pg kb rs st (λst' es=>bM 0 rs es=true/\Q .nor st') ⟨⟩:=YE rs st Q
theorem XZ(c:X)(a b:C)(st:St)(Q:Ex->St->Prop)(t:Tok Q):XX pg kb (.cond c a b) st Q t=XC (c.ev pg.gl st.env) (λ_=>XX pg kb a st Q t) (λ_=>XX pg kb b st Q t) ⟨⟩:=YG c a b st Q
theorem aEN(a b:C)(st:St)(Q:Ex->St->Prop)(t:Tok Q):XX pg kb (.seq a b) st Q t=XX pg kb a st (kR (λst'=>XX pg kb b st' Q t) Q) ⟨⟩:=aFw a b st Q
theorem SW(id:Nat)(b:C)(st:St)(Q:Ex->St->Prop)(t:Tok Q):XX pg kb (.block id b) st Q t=XX pg kb b st (mA id Q) ⟨⟩:=S4 id b st Q
theorem mP(b:C)(clr:List Bool)(st:St)(Q:Ex->St->Prop)(t:Tok Q):XX pg kb (.loop b clr) st Q t=XX pg kb b ⟨clear clr st.env,st.hp⟩ (kR (λst'=>XX pg kb (.loop b clr) st' Q t) Q) ⟨⟩:=NB b clr st Q
theorem uN{α : Type}(μ : α -> Nat)(E : α -> List AV->Hp->Prop){b:C}{clr:List Bool}{st:St}{Q:Ex->St->Prop}{t:Tok Q}(a : α)(h0:E a (clear clr st.env) st.hp)
  (step:∀a env hp,E a env hp->XX pg kb b ⟨env,hp⟩ (kR (λst'=>∃a',μ a' < μ a/\E a' (clear clr st'.env) st'.hp) Q) ⟨⟩) :
  XX pg kb (.loop b clr) st Q t:=PI μ E a h0 step
theorem aER(st:St)(A:St->Prop)(t:Tok A):XR pg kb [] st A t=A st:=aFA st A
theorem X1(d:Option Nat)(k:K)(xs:List X)(bef s:Nat)(rs:List R)(st:St)(A:St->Prop)(t:Tok A) :
  XR pg kb (⟨d,k,xs,none,bef,s⟩::rs) st A t=XO pg kb k s st.hp (xs.map (X.ev pg.gl st.env)) (λv eff=>XR pg kb rs ⟨eN st.env d v,eff.app st.hp⟩ A t) ⟨⟩:=ND d k xs bef s rs st A
theorem SY(d:Option Nat)(k:K)(xs:List X)(g:Nat)(b:Bool)(bef s:Nat)(rs:List R)(st:St)(A:St->Prop)(t:Tok A) :
  XR pg kb (⟨d,k,xs,some (g,b),bef,s⟩::rs) st A t =
   XG (gA st.env g) b (λ_=>XO pg kb k s st.hp (xs.map (X.ev pg.gl st.env)) (λv eff=>XR pg kb rs ⟨eN st.env d v,eff.app st.hp⟩ A t) ⟨⟩) (λ_=>XR pg kb rs ⟨eN st.env d (.tup []),st.hp⟩ A t) ⟨⟩:=
 S6 d k xs g b bef s rs st A
theorem aEQ(st:St)(A:St->List Eff->Prop)(t:Tok A):XT pg kb [] st A t=A st []:=aFz st A
theorem X0(d:Option Nat)(k:K)(xs:List X)(bef s:Nat)(rs:List R)(st:St)(A:St->List Eff->Prop)(t:Tok A) :
  XT pg kb (⟨d,k,xs,none,bef,s⟩::rs) st A t=XO pg kb k s st.hp (xs.map (X.ev pg.gl st.env)) (λv eff=>XT pg kb rs ⟨eN st.env d v,eff.app st.hp⟩ (λst' es=>A st' (eff::es)) ⟨⟩) ⟨⟩:=NC d k xs bef s rs st A
theorem SX(d:Option Nat)(k:K)(xs:List X)(g:Nat)(b:Bool)(bef s:Nat)(rs:List R)(st:St)(A:St->List Eff->Prop)(t:Tok A) :
  XT pg kb (⟨d,k,xs,some (g,b),bef,s⟩::rs) st A t =
   XG (gA st.env g) b (λ_=>XO pg kb k s st.hp (xs.map (X.ev pg.gl st.env)) (λv eff=>XT pg kb rs ⟨eN st.env d v,eff.app st.hp⟩ (λst' es=>A st' (eff::es)) ⟨⟩) ⟨⟩)
    (λ_=>XT pg kb rs ⟨eN st.env d (.tup []),st.hp⟩ (λst' es=>A st' (.pat [] []::es)) ⟨⟩) ⟨⟩:=
 S5 d k xs g b bef s rs st A
theorem NA(A B:Unit->Prop)(t:Tok (A,B)):XC (.bool true) A B t=A ():=rfl
theorem IX(A B:Unit->Prop)(t:Tok (A,B)):XC (.bool false) A B t=B ():=rfl
theorem bX{c:Bool}{A B:Unit->Prop}{t:Tok (A,B)}(h1:c=true->A ())(h2:c=false->B ()):XC (.bool c) A B t:=by cases c;exact h2 rfl;exact h1 rfl
theorem aDf(A B:Unit->Prop)(t:Tok (A,B)):XG (.bool true) true A B t=A ():=rfl
theorem aDj(A B:Unit->Prop)(t:Tok (A,B)):XG (.bool false) false A B t=A ():=rfl
theorem aDg(A B:Unit->Prop)(t:Tok (A,B)):XG (.bool true) false A B t=B ():=rfl
theorem aDi(A B:Unit->Prop)(t:Tok (A,B)):XG (.bool false) true A B t=B ():=rfl
theorem aDh(b:Bool)(A B:Unit->Prop)(t:Tok (A,B)):XG (.tup []) b A B t=B ():=rfl
theorem bW{c b:Bool}{A B:Unit->Prop}{t:Tok (A,B)}(h1:c=true->XG (.bool true) b A B t)(h2:c=false->XG (.bool false) b A B t):XG (.bool c) b A B t:=by cases c;exact h2 rfl;exact h1 rfl
theorem M9(v:AV)(e:Eff)(Q:AV->Eff->Prop)(t:Tok Q):XV (some (v,e)) Q t=Q v e:=rfl
theorem gQ{f s:Nat}{th:Bool}{h:Hp}{vs ts:List AV}{keys:List Nat}{r v:AV}{pa:List Ent}{Q:AV->Eff->Prop}{t:Tok Q}(hr:Ret pg f ts r)
  (hm:mapS (snap depth h) vs=some (ts,keys)) (hv:hJ h (kb+s) th r=some (v,pa)) (q:Q v (.pat ((kb+s)::keys) ((if r.flat then [] else bO h keys)++pa))) :
  XO pg kb (.call f th false) s h vs Q t:=(YH hr hm hv).mpr q
theorem dK(d:Nat)(h:Hp):∀{vs:List AV},treeL vs=true->mapS (snap (d+1) h) vs=some (vs,[])
 |[],_=>rfl
 |x::r,q=>by
  simp only[treeL,aD]at q;have e:snap (d+1) h x=some (x,[]):=by unfold snap;rw[if_pos q.1]
  rw[mapS,e,dK d h q.2];rfl
def AV.notOs:AV->Bool
 |.os .. => false
 |_=>true
theorem dH{f s:Nat}{th:Bool}{h:Hp}{vs:List AV}{r:AV}{Q:AV->Eff->Prop}{t:Tok Q}(hr:Ret pg f vs r)
  (hm:treeL vs=true) (hv:r.notOs=true) (q:Q r (.pat [kb+s] [])) :
  XO pg kb (.call f th false) s h vs Q t:=by
 refine gQ hr (dK 63 h hm) (v:=r) (pa:=[]) ?_ ?_;cases r<;>first|rfl|simp[AV.notOs]at hv
 have:(if r.flat then ([]:List Ent) else bO h [])++[]=[]:=by split<;>rfl
 rw[this];exact q
theorem aC{f s:Nat}{th:Bool}{h:Hp}{vs:List AV}{r:AV}{Q:AV->Eff->Prop}{t:Tok Q}(hr:Ret pg f vs r)(q:Q r (.pat [kb+s] []))(hm:treeL vs=true:=by simp only[go_sem,seval])(hv:r.notOs=true:=by rfl):XO pg kb (.call f th false) s h vs Q t:=dH hr hm hv q
theorem Wk{P Q:Prop}(h:Q)(e:P=Q:=by simp only[go_sem,seval];rfl):P:=e.mpr h
theorem bI{a b:Prop}(h:b)(k:a:=by kernel_rfl):a/\b:=⟨k,h⟩
theorem kX{f s:Nat}{th im:Bool}{h h':Hp}{vs:List AV}{r:AV}{Q:AV->Eff->Prop}{t:Tok Q}(hm:im=true\/mapS (snap depth h) vs=none){B:Nat}(hB:dQ kb s vs=B)(hr:pN pg f vs B h r h')
   (hq:Q r (.whole h')):XO pg kb (.call f th im) s h vs Q t:=S7 hm hB hr hq
theorem S1{f s:Nat}{th im:Bool}{h:Hp}{cs args:List AV}{Q:AV->Eff->Prop}{t:Tok Q} :
  XO pg kb (.callv th im) s h (.fn f cs::args) Q t=XO pg kb (.call f th im) s h (args++cs) Q t:=rfl
theorem Ret.ofX{f:Nat}{cf:CF}{vs:List AV}{r:AV}(hf:pg.fs f=some cf)(hw:XX pg 0 cf.body ⟨enter cf vs,[]⟩ (GV cf.res r) ⟨⟩):Ret pg f vs r:=Ret.of hf hw
def RW(res:List (Sum Nat (Nat×Nat×Bool)))(r:AV)(h:Hp)(ex:Ex)(st:St):Prop:=(match ex with|.ext _=>False|_=>True)/\result st res=some r/\st.hp=h
theorem pN.ofX{f:Nat}{cf:CF}{vs:List AV}{h:Hp}{r:AV}{h':Hp}(hf:pg.fs f=some cf)(hw:XX pg kb cf.body ⟨enter cf vs,h⟩ (RW cf.res r h') ⟨⟩):pN pg f vs kb h r h':=pN.of hf hw
theorem RV(res:List (Sum Nat (Nat×Nat×Bool)))(r:AV)(h:Hp)(st:St):RW res r h .nor st=(result st res=some r/\st.hp=h):=by simp[RW]
theorem RU(res:List (Sum Nat (Nat×Nat×Bool)))(r:AV)(h:Hp)(st:St):RW res r h .ret st=(result st res=some r/\st.hp=h):=by simp[RW]
theorem X3(s:Nat)(h:Hp)(c a b:Bool)(Q:AV->Eff->Prop)(t:Tok Q):XO pg kb .pick s h [.bool c,.bool a,.bool b] Q t=Q (.bool (bif c then a else b)) (.pat [] []):=by show WO pg kb .pick s h _ Q=_;rw[cH rfl];cases c<;>rfl
theorem PF(s:Nat)(h:Hp)(a b:AV)(Q:AV->Eff->Prop)(t:Tok Q):XO pg kb .pick s h [.bool true,a,b] Q t=Q a (.pat [] []):=by show WO pg kb .pick s h _ Q=_;rw[cH rfl];rfl
theorem PG(s:Nat)(h:Hp)(a b:AV)(Q:AV->Eff->Prop)(t:Tok Q):XO pg kb .pick s h [.bool false,a,b] Q t=Q b (.pat [] []):=by show WO pg kb .pick s h _ Q=_;rw[cH rfl];rfl
theorem aEY(s:Nat)(h:Hp)(vs:List AV)(Q:AV->Eff->Prop)(t:Tok Q):XO pg kb (.mov) s h vs Q t=XV (MA vs) Q ⟨⟩:=cH rfl s h vs Q
theorem aFs(s:Nat)(h:Hp)(vs:List AV)(Q:AV->Eff->Prop)(t:Tok Q):XO pg kb (.box) s h vs Q t=XV (fW h (kb+s) vs) Q ⟨⟩:=cH rfl s h vs Q
theorem S3(z:List AV)(ag:Bool)(s:Nat)(h:Hp)(vs:List AV)(Q:AV->Eff->Prop)(t:Tok Q):XO pg kb (.alloc z ag) s h vs Q t=XV (wB h (kb+s) z ag vs) Q ⟨⟩:=cH rfl s h vs Q
theorem S2(z:List AV)(ps:List (Nat×Nat))(s:Nat)(h:Hp)(vs:List AV)(Q:AV->Eff->Prop)(t:Tok Q):XO pg kb (.build z ps) s h vs Q t=XV (wA z ps vs) Q ⟨⟩:=cH rfl s h vs Q
theorem X7(e:Nat)(ag own:Bool)(s:Nat)(h:Hp)(vs:List AV)(Q:AV->Eff->Prop)(t:Tok Q):XO pg kb (.mkSl e ag own) s h vs Q t=XV (DJ h (kb+s) e ag own vs) Q ⟨⟩:=cH rfl s h vs Q
theorem X9(sz:Nat)(ag:Bool)(s:Nat)(h:Hp)(vs:List AV)(Q:AV->Eff->Prop)(t:Tok Q):XO pg kb (.load sz ag) s h vs Q t=XV (tW h sz ag vs) Q ⟨⟩:=cH rfl s h vs Q
theorem SZ(sz:Nat)(ag:Bool)(s:Nat)(h:Hp)(vs:List AV)(Q:AV->Eff->Prop)(t:Tok Q):XO pg kb (.store sz ag) s h vs Q t=XV (v8 h sz ag vs) Q ⟨⟩:=cH rfl s h vs Q
theorem X6(s:Nat)(h:Hp)(vs:List AV)(Q:AV->Eff->Prop)(t:Tok Q):XO pg kb (.nilc) s h vs Q t=XV (DI vs) Q ⟨⟩:=cH rfl s h vs Q
theorem aFt(op:BinOp)(s:Nat)(h:Hp)(vs:List AV)(Q:AV->Eff->Prop)(t:Tok Q):XO pg kb (.bin op) s h vs Q t=XV (MM op vs) Q ⟨⟩:=cH rfl s h vs Q
theorem aFu(ng:Bool)(s:Nat)(h:Hp)(vs:List AV)(Q:AV->Eff->Prop)(t:Tok Q):XO pg kb (.beq ng) s h vs Q t=XV (MN ng vs) Q ⟨⟩:=cH rfl s h vs Q
theorem aFn(q:Nat)(ng:Bool)(s:Nat)(h:Hp)(vs:List AV)(Q:AV->Eff->Prop)(t:Tok Q):XO pg kb (.eqn q ng) s h vs Q t=XV (MH q ng vs) Q ⟨⟩:=cH rfl s h vs Q
theorem aFm(ng:Bool)(qs:List Nat)(s:Nat)(h:Hp)(vs:List AV)(Q:AV->Eff->Prop)(t:Tok Q):XO pg kb (.eqs ng qs) s h vs Q t=XV (vA ng qs vs) Q ⟨⟩:=cH rfl s h vs Q
theorem aHh(op:UnOp)(s:Nat)(h:Hp)(vs:List AV)(Q:AV->Eff->Prop)(t:Tok Q):XO pg kb (.un op) s h vs Q t=XV (UF op vs) Q ⟨⟩:=cH rfl s h vs Q
theorem aFp(i:IntKind)(s:Nat)(h:Hp)(vs:List AV)(Q:AV->Eff->Prop)(t:Tok Q):XO pg kb (.cvi i) s h vs Q t=XV (MJ i vs) Q ⟨⟩:=cH rfl s h vs Q
theorem aFo(s:Nat)(h:Hp)(vs:List AV)(Q:AV->Eff->Prop)(t:Tok Q):XO pg kb (.cvs) s h vs Q t=XV (MI vs) Q ⟨⟩:=cH rfl s h vs Q
theorem aEW(s:Nat)(h:Hp)(vs:List AV)(Q:AV->Eff->Prop)(t:Tok Q):XO pg kb (.s2b) s h vs Q t=XV (L9 vs) Q ⟨⟩:=cH rfl s h vs Q
theorem aFv(s:Nat)(h:Hp)(vs:List AV)(Q:AV->Eff->Prop)(t:Tok Q):XO pg kb (.b2s) s h vs Q t=XV (MO h vs) Q ⟨⟩:=cH rfl s h vs Q
theorem aFj(off sz:Nat)(ag:Bool)(s:Nat)(h:Hp)(vs:List AV)(Q:AV->Eff->Prop)(t:Tok Q):XO pg kb (.fld off sz ag) s h vs Q t=XV (fU off sz ag vs) Q ⟨⟩:=cH rfl s h vs Q
theorem aFk(off sz:Nat)(ag:Bool)(s:Nat)(h:Hp)(vs:List AV)(Q:AV->Eff->Prop)(t:Tok Q):XO pg kb (.fad off sz ag) s h vs Q t=XV (fV off sz ag vs) Q ⟨⟩:=cH rfl s h vs Q
theorem aFh(e:Nat)(ag:Bool)(arr:Option Nat)(s:Nat)(h:Hp)(vs:List AV)(Q:AV->Eff->Prop)(t:Tok Q):XO pg kb (.iad e ag arr) s h vs Q t=XV (yE e ag arr vs) Q ⟨⟩:=cH rfl s h vs Q
theorem aFf(s:Nat)(h:Hp)(vs:List AV)(Q:AV->Eff->Prop)(t:Tok Q):XO pg kb (.ixs) s h vs Q t=XV (MF vs) Q ⟨⟩:=cH rfl s h vs Q
theorem aFg(len e:Nat)(ag:Bool)(s:Nat)(h:Hp)(vs:List AV)(Q:AV->Eff->Prop)(t:Tok Q):XO pg kb (.ixa len e ag) s h vs Q t=XV (MG len e ag vs) Q ⟨⟩:=cH rfl s h vs Q
theorem aET(e:Nat)(lo hi mx:Bool)(s:Nat)(h:Hp)(vs:List AV)(Q:AV->Eff->Prop)(t:Tok Q):XO pg kb (.slc e lo hi mx) s h vs Q t=XV (iA h e lo hi mx vs) Q ⟨⟩:=cH rfl s h vs Q
theorem aES(lo hi:Bool)(s:Nat)(h:Hp)(vs:List AV)(Q:AV->Eff->Prop)(t:Tok Q):XO pg kb (.sls lo hi) s h vs Q t=XV (u6 lo hi vs) Q ⟨⟩:=cH rfl s h vs Q
theorem aEU(len e:Nat)(lo hi:Bool)(s:Nat)(h:Hp)(vs:List AV)(Q:AV->Eff->Prop)(t:Tok Q):XO pg kb (.sla len e lo hi) s h vs Q t=XV (L8 h len e lo hi vs) Q ⟨⟩:=cH rfl s h vs Q
theorem aFa(e:Nat)(ag:Bool)(bytes:Nat)(z:List AV)(s:Nat)(h:Hp)(vs:List AV)(Q:AV->Eff->Prop)(t:Tok Q):XO pg kb (.mks e ag bytes z) s h vs Q t=XV (MB h (kb+s) e ag bytes z vs) Q ⟨⟩:=cH rfl s h vs Q
theorem aFe(q:Nat)(s:Nat)(h:Hp)(vs:List AV)(Q:AV->Eff->Prop)(t:Tok Q):XO pg kb (.len q) s h vs Q t=XV (u9 h q vs) Q ⟨⟩:=cH rfl s h vs Q
theorem YA(n:Nat)(s:Nat)(h:Hp)(vs:List AV)(Q:AV->Eff->Prop)(t:Tok Q):XO pg kb (.lenc n) s h vs Q t=XV (DK n vs) Q ⟨⟩:=cH rfl s h vs Q
theorem aFr(s:Nat)(h:Hp)(vs:List AV)(Q:AV->Eff->Prop)(t:Tok Q):XO pg kb (.cap) s h vs Q t=XV (ML h vs) Q ⟨⟩:=cH rfl s h vs Q
theorem eT(e:Nat)(ag:Bool)(bytes:Nat)(s:Nat)(h:Hp)(vs:List AV)(Q:AV->Eff->Prop)(t:Tok Q):XO pg kb (.app e ag bytes) s h vs Q t=XV (i6 h (kb+s) e ag bytes vs) Q ⟨⟩:=cH rfl s h vs Q
theorem aFq(e:Nat)(ag:Bool)(s:Nat)(h:Hp)(vs:List AV)(Q:AV->Eff->Prop)(t:Tok Q):XO pg kb (.cpy e ag) s h vs Q t=XV (MK h e ag vs) Q ⟨⟩:=cH rfl s h vs Q
theorem aHj(s:Nat)(h:Hp)(vs:List AV)(Q:AV->Eff->Prop)(t:Tok Q):XO pg kb (.mn) s h vs Q t=XV (UH vs) Q ⟨⟩:=cH rfl s h vs Q
theorem aHi(s:Nat)(h:Hp)(vs:List AV)(Q:AV->Eff->Prop)(t:Tok Q):XO pg kb (.mx) s h vs Q t=XV (UG vs) Q ⟨⟩:=cH rfl s h vs Q
theorem aFl(i:Nat)(s:Nat)(h:Hp)(vs:List AV)(Q:AV->Eff->Prop)(t:Tok Q):XO pg kb (.ext i) s h vs Q t=XV (GT i vs) Q ⟨⟩:=cH rfl s h vs Q
theorem aFc(s:Nat)(h:Hp)(vs:List AV)(Q:AV->Eff->Prop)(t:Tok Q):XO pg kb (.mki) s h vs Q t=XV (MD vs) Q ⟨⟩:=cH rfl s h vs Q
theorem aFd(f:Nat)(s:Nat)(h:Hp)(vs:List AV)(Q:AV->Eff->Prop)(t:Tok Q):XO pg kb (.mkf f) s h vs Q t=XV (ME f vs) Q ⟨⟩:=cH rfl s h vs Q
theorem N7(a:AV)(l:List AV):gA (a::l) 0=a:=rfl
theorem N8(a:AV)(l:List AV)(n:Nat):gA (a::l) (n+1)=gA l n:=by simp[gA]
theorem NO(l:List AV)(v:AV):eN l none v=l:=rfl
theorem NM(a:AV)(l:List AV)(v:AV):eN (a::l) (some 0) v=v::l:=rfl
theorem NN(a:AV)(l:List AV)(v:AV)(n:Nat):eN (a::l) (some (n+1)) v=a::eN l (some n) v:=rfl
theorem XS(h:Hp)(rd:List Nat):Eff.app h (.pat rd [])=h:=rfl
theorem eI(h:Hp)(rd:List Nat)(k e:Nat)(o:Ob):Eff.app h (.pat rd [⟨k,e,o⟩])=h.put k e o:=rfl
theorem lL(h:Hp)(rd:List Nat)(k e k' e':Nat)(o o':Ob):Eff.app h (.pat rd [⟨k,e,o⟩,⟨k',e',o'⟩])=(h.put k e o).put k' e' o':=rfl
theorem PE(h h':Hp):Eff.app h (.whole h')=h':=rfl
theorem O7(v:AV):val v=some (v,.pat [] []):=rfl
theorem UB(h:Hp)(k:Nat)(o:Ob)(v:Nat->AV):mT h k o v=some (v (h.next k),.pat [k] [⟨k,h.next k,o⟩]):=rfl
theorem QM(k:Nat):Hp.next [] k=0:=rfl
theorem QL(h:Hp)(k e:Nat)(o:Ob)(q:Nat):(h.put k e o).next q=if k=q then e+1 else h.next q:=by simp only[Hp.next,aB];by_cases c:k=q<;>simp[c]
theorem L4(k:Nat):Hp.get [] k=none:=rfl
theorem N6(cs:List AV):AV.isAgg (.agg cs)=true:=rfl
theorem OU(cs:List AV):AV.cells (.agg cs)=cs:=rfl
theorem AM(cs:List AV)(off sz:Nat):fL cs off sz true=if off+sz<=cs.length then some (.agg ((cs.drop off).take sz)) else none:=rfl
theorem NT(cs:List AV)(off sz:Nat):fL cs off sz false=cs[off]?:=rfl
theorem K7{α β : Type}(x : α)(f : α -> Option β):(some x).bind f=f x:=rfl
theorem NY{α β : Type}(x : α)(f : α -> β):(some x).map f=some (f x):=rfl
theorem aFB(e:List AV)(h:Hp):(St.mk e h).env=e:=rfl
theorem aHk(e:List AV)(h:Hp):(St.mk e h).hp=h:=rfl
theorem YK(a b:Nat)(c:List (Sum Nat (Nat×Nat×Bool)))(d:C):(CF.mk a b c d).body=d:=rfl
theorem aFE(a b:Nat)(c:List (Sum Nat (Nat×Nat×Bool)))(d:C):(CF.mk a b c d).res=c:=rfl
theorem aHo(a b:Nat)(c:List (Sum Nat (Nat×Nat×Bool)))(d:C):(CF.mk a b c d).nt=b:=rfl
theorem fits_bool(b:Bool)(sz:Nat)(ag:Bool):AV.fits (.bool b) sz ag=(!ag&&sz==1):=rfl
theorem NH(b:Bool):AV.tree (.bool b)=true:=by simp[AV.tree]
theorem fits_int(k:IntKind)(n:Int)(sz:Nat)(ag:Bool):AV.fits (.int k n) sz ag=(!ag&&sz==1):=rfl
theorem PM(k:IntKind)(n:Int):AV.tree (.int k n)=true:=by simp[AV.tree]
theorem fits_str(b:List UInt8)(sz:Nat)(ag:Bool):AV.fits (.str b) sz ag=(!ag&&sz==1):=rfl
theorem PL(b:List UInt8):AV.tree (.str b)=true:=by simp[AV.tree]
theorem fits_sl(nl:Bool)(es:List AV)(cl:Bool)(sz:Nat)(ag:Bool):AV.fits (.sl nl es cl) sz ag=(!ag&&sz==1):=rfl
theorem pQ(nl:Bool)(es:List AV)(cl:Bool):AV.tree (.sl nl es cl)=treeL es:=by simp[AV.tree]
theorem fits_fp(v:AV)(sz:Nat)(ag:Bool):AV.fits (.fp v) sz ag=(!ag&&sz==1):=rfl
theorem LL(v:AV):AV.tree (.fp v)=v.tree:=by simp[AV.tree]
theorem fits_nilp  (sz:Nat) (ag:Bool):AV.fits (.nilp ) sz ag=(!ag&&sz==1):=rfl
theorem NE  : AV.tree (.nilp )=true:=by simp[AV.tree]
theorem fits_nilf  (sz:Nat) (ag:Bool):AV.fits (.nilf ) sz ag=(!ag&&sz==1):=rfl
theorem NG  : AV.tree (.nilf )=true:=by simp[AV.tree]
theorem fits_nili  (sz:Nat) (ag:Bool):AV.fits (.nili ) sz ag=(!ag&&sz==1):=rfl
theorem NF  : AV.tree (.nili )=true:=by simp[AV.tree]
theorem fits_fn(f:Nat)(cs:List AV)(sz:Nat)(ag:Bool):AV.fits (.fn f cs) sz ag=(!ag&&sz==1):=rfl
theorem vW(f:Nat)(cs:List AV):AV.tree (.fn f cs)=treeL cs:=by simp[AV.tree]
theorem fits_rf(k e o l c:Nat)(sz:Nat)(ag:Bool):AV.fits (.rf k e o l c) sz ag=(!ag&&sz==1):=rfl
theorem TG(k e o l c:Nat):AV.tree (.rf k e o l c)=false:=by simp[AV.tree]
theorem fits_pt(k e o:Nat)(sz:Nat)(ag:Bool):AV.fits (.pt k e o) sz ag=(!ag&&sz==1):=rfl
theorem TH(k e o:Nat):AV.tree (.pt k e o)=false:=by simp[AV.tree]
theorem fits_ifc(v:AV)(sz:Nat)(ag:Bool):AV.fits (.ifc v) sz ag=(!ag&&sz==1):=rfl
theorem PN(v:AV):AV.tree (.ifc v)=v.tree:=by simp[AV.tree]
theorem fits_agg(cs:List AV)(sz:Nat)(ag:Bool):AV.fits (.agg cs) sz ag=(ag&&cs.length==sz):=rfl
theorem PO(cs:List AV):AV.tree (.agg cs)=treeL cs:=by simp[AV.tree]
theorem PK(cs:List AV):AV.tree (.tup cs)=treeL cs:=by simp[AV.tree]
theorem QI(b:Bool):AV.one (.bool b)=true:=rfl
theorem T9(k:IntKind)(n:Int):AV.one (.int k n)=true:=rfl
theorem T7(b:List UInt8):AV.one (.str b)=true:=rfl
theorem aEi(nl:Bool)(es:List AV)(cl:Bool):AV.one (.sl nl es cl)=true:=rfl
theorem aEl(v:AV):AV.one (.fp v)=true:=rfl
theorem QF  : AV.one (.nilp )=true:=rfl
theorem QH  : AV.one (.nilf )=true:=rfl
theorem QG  : AV.one (.nili )=true:=rfl
theorem aEm(f:Nat)(cs:List AV):AV.one (.fn f cs)=true:=rfl
theorem aEj(k e o l c:Nat):AV.one (.rf k e o l c)=true:=rfl
theorem aEk(k e o:Nat):AV.one (.pt k e o)=true:=rfl
theorem UA(v:AV):AV.one (.ifc v)=true:=rfl
theorem N9(b:Bool):AV.flat (.bool b)=true:=by simp[AV.flat]
theorem RH(k:IntKind)(n:Int):AV.flat (.int k n)=true:=by simp[AV.flat]
theorem RG(b:List UInt8):AV.flat (.str b)=true:=by simp[AV.flat]
attribute [go_sem] QI T9 T7 aEi aEl QF QH QG aEm aEj aEk UA N9 RH RG List.append_nil
theorem QX(nl:Bool)(es:List AV)(cl:Bool):AV.isNil 1 (.sl nl es cl)=some nl:=rfl
theorem QY(k e o l c:Nat):AV.isNil 1 (.rf k e o l c)=some false:=rfl
theorem JK:AV.isNil 4 .nili=some true:=rfl
theorem N2(v:AV):AV.isNil 4 (.ifc v)=some false:=rfl
theorem JJ:AV.isNil 0 .nilp=some true:=rfl
theorem Q0(v:AV):AV.isNil 0 (.fp v)=some false:=rfl
theorem QZ(k e o:Nat):AV.isNil 0 (.pt k e o)=some false:=rfl
theorem JL:AV.isNil 3 .nilf=some true:=rfl
theorem Q1(f:Nat)(cs:List AV):AV.isNil 3 (.fn f cs)=some false:=rfl
attribute [go_sem ↓] XU XY aEO aEP XW XZ aEN SW aER X1 SY aEQ X0 SX NA IX aDf aDj aDg aDi aDh M9
 NJ NK NI K5 K6 K4 RP RO RV RU
attribute [go_sem] NA IX aDf aDj aDg aDi aDh M9 S1 X3 PF PG
 aEY aFs S3 S2 X7 X9 SZ X6 aFt aFu aFn aFm aHh aFp aFo aEW aFv aFj aFk aFh aFf aFg aET aES aEU aFa aFe YA aFr aFq aHj aHi aFl aFc aFd
theorem K2(b:Bool):AV.cells (.bool b)=[.bool b]:=rfl
theorem JP(b:Bool):AV.isAgg (.bool b)=false:=rfl
theorem OS(k:IntKind)(n:Int):AV.cells (.int k n)=[.int k n]:=rfl
theorem N4(k:IntKind)(n:Int):AV.isAgg (.int k n)=false:=rfl
theorem OQ(b:List UInt8):AV.cells (.str b)=[.str b]:=rfl
theorem N3(b:List UInt8):AV.isAgg (.str b)=false:=rfl
theorem SE(nl:Bool)(es:List AV)(cl:Bool):AV.cells (.sl nl es cl)=[.sl nl es cl]:=rfl
theorem Q3(nl:Bool)(es:List AV)(cl:Bool):AV.isAgg (.sl nl es cl)=false:=rfl
theorem SI(v:AV):AV.cells (.fp v)=[.fp v]:=rfl
theorem Q7(v:AV):AV.isAgg (.fp v)=false:=rfl
theorem KY  : AV.cells (.nilp )=[.nilp ]:=rfl
theorem JM  : AV.isAgg (.nilp )=false:=rfl
theorem K0  : AV.cells (.nilf )=[.nilf ]:=rfl
theorem JO  : AV.isAgg (.nilf )=false:=rfl
theorem KZ  : AV.cells (.nili )=[.nili ]:=rfl
theorem JN  : AV.isAgg (.nili )=false:=rfl
theorem SJ(f:Nat)(cs:List AV):AV.cells (.fn f cs)=[.fn f cs]:=rfl
theorem Q8(f:Nat)(cs:List AV):AV.isAgg (.fn f cs)=false:=rfl
theorem SF(k e o l c:Nat):AV.cells (.rf k e o l c)=[.rf k e o l c]:=rfl
theorem Q4(k e o l c:Nat):AV.isAgg (.rf k e o l c)=false:=rfl
theorem SG(k e o:Nat):AV.cells (.pt k e o)=[.pt k e o]:=rfl
theorem Q5(k e o:Nat):AV.isAgg (.pt k e o)=false:=rfl
theorem OT(v:AV):AV.cells (.ifc v)=[.ifc v]:=rfl
theorem N5(v:AV):AV.isAgg (.ifc v)=false:=rfl
attribute [go_sem] K2 JP OS N4 OQ N3 SE Q3 SI Q7 KY JM K0 JO KZ JN SJ Q8 SF Q4 SG Q5 OT N5 List.all_cons List.all_nil
attribute [go_sem] N7 N8 NO NM NN aB XS eI lL PE O7 UB L4 QM QL
 N6 OU AM NT aEz exists_eq_left' K7 NY X.ev aFB aHk YK aFE aHo
 MA fW wB wA DJ tW v8 DI MM MN MH vA UF MJ MI L9 MO fU fV yE MF MG iA u6 L8 MB u9 DK ML i6 MK UH UG GT MD ME
 ST bin aEI SS nC eA QX QY JK N2 JJ Q0 QZ JL Q1 fits_agg fits_bool fits_int fits_str fits_sl fits_fp fits_nilp fits_fn fits_rf fits_pt fits_nilf fits_nili fits_ifc  bE NH PM PL PO PK pQ LL NE NF NG vW PN TG TH eqC enter result nN uU
 List.map_cons List.map_nil List.length_cons List.length_nil List.replicate_succ List.replicate_zero List.cons_append List.nil_append List.getElem?_cons_zero List.getElem?_cons_succ List.drop_zero List.drop_succ_cons List.take_succ_cons List.take_zero
 Option.getD_some
end
section
attribute [go_sem] Nat.succ_eq_add_one Bool.and_true Bool.true_and Bool.and_false Bool.false_and Bool.or_true Bool.true_or Bool.or_false Bool.false_or Bool.not_true Bool.not_false Bool.false_eq_true cond_true cond_false Int.natCast_nonneg Int.toNat_natCast List.length_map List.getElem?_map and_self and_true true_and decide_true decide_false ite_true ite_false if_true if_false not_false_eq_true not_true_eq_false Int.lt_irrefl Bool.and_self Bool.or_self Bool.not_eq_true Bool.not_eq_false eq_self Int.toNat_zero Int.le_refl Int.natCast_zero Nat.zero_le Option.isSome_none Option.isSome_some beq_self_eq_true Option.getD_none Option.isNone_none Option.isNone_some ne_eq
def big:Nat:=16777216
structure Str where
 bs:List UInt8
 ok:bs.length<=big
def Str.av(s:Str):AV:=.str s.bs
structure Sl(α : Type) where
 nl:Bool
 es:List α
 cl:Bool
 ok:es.length<=big
def Sl.av{α : Type}(f : α -> AV)(s:Sl α):AV:=.sl s.nl (s.es.map f) s.cl
def aE(n:Int):AV:=.int .i64 n
structure bH where
 v:Str
 c:Int
def bH.av(x:bH):AV:=.agg [.str x.v.bs,.int .i64 x.c]
structure Lin where
 c:Int
 ts:Sl bH
def Lin.av(x:Lin):AV:=.agg [.int .i64 x.c,x.ts.av bH.av]
structure bP where
 row:Str
 dims:Sl Lin
def bP.av(x:bP):AV:=.agg [.str x.row.bs,x.dims.av Lin.av]
structure Typ where
 elem:Str
 shape:bP
def Typ.av(x:Typ):AV:=.agg [.str x.elem.bs,.str x.shape.row.bs,x.shape.dims.av Lin.av]
structure aH where
 op:Str
 num:Int
 args:Sl Int
def aH.av(x:aH):AV:=.agg [.str x.op.bs,.int .i64 x.num,x.args.av aE]
structure Val where
 v:Str
 n:Int
def Val.av(x:Val):AV:=.agg [.str x.v.bs,.int .i64 x.n]
inductive aA where
 |mk (op:Str) (num value:Int) (name:Str) (at_:Sl Lin) (dyn:Bool) (check:Int) (fn:Sl aH) (knl:Bool) (kids:List aA) (kcl:Bool)
namespace aA
def op:aA->Str|mk a _ _ _ _ _ _ _ _ _ _=>a
def num:aA->Int|mk _ a _ _ _ _ _ _ _ _ _=>a
def value:aA->Int|mk _ _ a _ _ _ _ _ _ _ _=>a
def name:aA->Str|mk _ _ _ a _ _ _ _ _ _ _=>a
def at_:aA->Sl Lin|mk _ _ _ _ a _ _ _ _ _ _=>a
def dyn:aA->Bool|mk _ _ _ _ _ a _ _ _ _ _=>a
def check:aA->Int|mk _ _ _ _ _ _ a _ _ _ _=>a
def fn:aA->Sl aH|mk _ _ _ _ _ _ _ a _ _ _=>a
def knl:aA->Bool|mk _ _ _ _ _ _ _ _ a _ _=>a
def kids:aA->List aA|mk _ _ _ _ _ _ _ _ _ a _=>a
def kcl:aA->Bool|mk _ _ _ _ _ _ _ _ _ _ a=>a
end aA
mutual
def aA.av:aA->AV
 |.mk op num value name at_ dyn check fn knl kids kcl=>
  .agg [.str op.bs,.int .i64 num,.int .i64 value,.str name.bs,at_.av Lin.av,.bool dyn,.int .i64 check,fn.av aH.av,.sl knl (aA.avs kids) kcl]
def aA.avs:List aA->List AV
 |[]=>[]
 |p::r=>p.av::aA.avs r
end
theorem aA.avs_eq:∀l:List aA,aA.avs l=l.map aA.av
 |[]=>by simp[aA.avs]
 |p::r=>by simp[aA.avs,aA.avs_eq r]
def aA.kav(p:aA):AV:=.sl p.knl (p.kids.map aA.av) p.kcl
def aA.cells(p:aA):List AV:=
 [.str p.op.bs,.int .i64 p.num,.int .i64 p.value,.str p.name.bs,p.at_.av Lin.av,.bool p.dyn,.int .i64 p.check,p.fn.av aH.av,p.kav]
theorem aA.av_eq(p:aA):p.av = .agg p.cells:=by cases p;simp[aA.av,aA.cells,aA.kav,aA.avs_eq,op,num,value,name,at_,dyn,check,fn,knl,kids,kcl]
mutual
def aA.ok:aA->Prop
 |.mk _ _ _ _ _ _ _ _ _ kids _=>kids.length<=big/\aA.oks kids
def aA.oks:List aA->Prop
 |[]=>True
 |p::r=>p.ok/\aA.oks r
end
theorem aA.oks_iff:∀l:List aA,aA.oks l↔∀p∈l,p.ok
 |[]=>by simp[aA.oks]
 |p::r=>by simp[aA.oks,aA.oks_iff r]
theorem aA.ok_iff(p:aA):p.ok↔p.kids.length<=big/\∀q∈p.kids,q.ok:=by cases p;simp[aA.ok,aA.oks_iff,kids]
structure aX where
 kind:Int
 value:Int
 space:Sl Lin
 body:aA
 fn:Sl aH
 source:Int
 index:aA
 check:Int
def aX.cells(x:aX):List AV:=
 [.int .i64 x.kind,.int .i64 x.value,x.space.av Lin.av]++x.body.cells++[x.fn.av aH.av,.int .i64 x.source]++x.index.cells++[.int .i64 x.check]
def aX.av(x:aX):AV:=.agg x.cells
structure aU where
 vars:Sl Str
 wher:Sl Lin
 inputs:Int
 values:Sl Typ
 list:Sl aX
 results:Sl Int
def aU.cells(k:aU):List AV:=
 [k.vars.av Str.av,k.wher.av Lin.av,.int .i64 k.inputs,k.values.av Typ.av,k.list.av aX.av,k.results.av aE]
def aU.av(k:aU):AV:=.agg k.cells
theorem bG{α : Type}{f : α -> AV}(h:∀x,(f x).tree=true):∀l:List α,treeL (l.map f)=true
 |[]=>rfl
 |x::r=>by simp[treeL,h x,bG h r]
theorem A3(n:Int):(aE n).tree=true:=rfl
theorem Str.tree(s:Str):(Str.av s).tree=true:=rfl
theorem gO(l:List Int):treeL (l.map aE)=true:=bG A3 l
theorem Str.treeL(l:List Str):Tev.treeL (l.map Str.av)=true:=bG Str.tree l
theorem UE(n:Int):aE n = .int .i64 n:=rfl
theorem Str.av_eq(s:Str):Str.av s = .str s.bs:=rfl
attribute [go_sem] A3 Str.tree gO Str.treeL UE Str.av_eq Tev.treeL Sl.av
theorem bH.avc(x:bH):bH.av x = .agg [.str x.v.bs,.int .i64 x.c]:=rfl
theorem bH.cells_av(x:bH):(bH.av x).cells=[.str x.v.bs,.int .i64 x.c]:=by rw[bH.avc];rfl
theorem bH.isAgg_av(x:bH):(bH.av x).isAgg=true:=by rw[bH.avc];rfl
theorem bH.fits_av(x:bH):(bH.av x).fits 2 true=true:=by rw[bH.avc];rfl
theorem bH.tree_av(x:bH):(bH.av x).tree=true:=by rw[bH.avc];simp[go_sem]
theorem bH.treeL_av(l:List bH):Tev.treeL (l.map bH.av)=true:=bG bH.tree_av l
theorem bH.fld_av(off sz:Nat)(ag:Bool)(x:bH):fU off sz ag [bH.av x]=fU off sz ag [.agg [.str x.v.bs,.int .i64 x.c]]:=by rw[bH.avc]
theorem bH.fad_av(off sz:Nat)(ag:Bool)(x:bH):fV off sz ag [.fp (bH.av x)]=fV off sz ag [.fp (.agg [.str x.v.bs,.int .i64 x.c])]:=by rw[bH.avc]
theorem bH.box_av(h:Hp)(k:Nat)(x:bH):fW h k [bH.av x]=fW h k [.agg [.str x.v.bs,.int .i64 x.c]]:=by rw[bH.avc]
theorem bH.eqs_av(ng:Bool)(qs:List Nat)(x y:bH):vA ng qs [bH.av x,bH.av y]=vA ng qs [.agg [.str x.v.bs,.int .i64 x.c],.agg [.str y.v.bs,.int .i64 y.c]]:=by rw[bH.avc,bH.avc]
attribute [go_sem ↓ high] bH.eqs_av
attribute [go_sem high] bH.cells_av bH.isAgg_av bH.fits_av bH.tree_av bH.treeL_av
attribute [go_sem ↓ high] bH.fld_av bH.fad_av bH.box_av
theorem Lin.avc(x:Lin):Lin.av x = .agg [.int .i64 x.c,.sl x.ts.nl (x.ts.es.map bH.av) x.ts.cl]:=rfl
theorem Lin.cells_av(x:Lin):(Lin.av x).cells=[.int .i64 x.c,.sl x.ts.nl (x.ts.es.map bH.av) x.ts.cl]:=by rw[Lin.avc];rfl
theorem Lin.isAgg_av(x:Lin):(Lin.av x).isAgg=true:=by rw[Lin.avc];rfl
theorem Lin.fits_av(x:Lin):(Lin.av x).fits 2 true=true:=by rw[Lin.avc];rfl
theorem Lin.tree_av(x:Lin):(Lin.av x).tree=true:=by rw[Lin.avc];simp[go_sem]
theorem Lin.treeL_av(l:List Lin):Tev.treeL (l.map Lin.av)=true:=bG Lin.tree_av l
theorem Lin.fld_av(off sz:Nat)(ag:Bool)(x:Lin):fU off sz ag [Lin.av x]=fU off sz ag [.agg [.int .i64 x.c,.sl x.ts.nl (x.ts.es.map bH.av) x.ts.cl]]:=by rw[Lin.avc]
theorem Lin.fad_av(off sz:Nat)(ag:Bool)(x:Lin):fV off sz ag [.fp (Lin.av x)]=fV off sz ag [.fp (.agg [.int .i64 x.c,.sl x.ts.nl (x.ts.es.map bH.av) x.ts.cl])]:=by rw[Lin.avc]
theorem Lin.box_av(h:Hp)(k:Nat)(x:Lin):fW h k [Lin.av x]=fW h k [.agg [.int .i64 x.c,.sl x.ts.nl (x.ts.es.map bH.av) x.ts.cl]]:=by rw[Lin.avc]
attribute [go_sem high] Lin.cells_av Lin.isAgg_av Lin.fits_av Lin.tree_av Lin.treeL_av
attribute [go_sem ↓ high] Lin.fld_av Lin.fad_av Lin.box_av
theorem bP.avc(x:bP):bP.av x = .agg [.str x.row.bs,.sl x.dims.nl (x.dims.es.map Lin.av) x.dims.cl]:=rfl
theorem bP.cells_av(x:bP):(bP.av x).cells=[.str x.row.bs,.sl x.dims.nl (x.dims.es.map Lin.av) x.dims.cl]:=by rw[bP.avc];rfl
theorem bP.isAgg_av(x:bP):(bP.av x).isAgg=true:=by rw[bP.avc];rfl
theorem bP.fits_av(x:bP):(bP.av x).fits 2 true=true:=by rw[bP.avc];rfl
theorem bP.tree_av(x:bP):(bP.av x).tree=true:=by rw[bP.avc];simp[go_sem]
theorem bP.treeL_av(l:List bP):Tev.treeL (l.map bP.av)=true:=bG bP.tree_av l
theorem bP.fld_av(off sz:Nat)(ag:Bool)(x:bP):fU off sz ag [bP.av x]=fU off sz ag [.agg [.str x.row.bs,.sl x.dims.nl (x.dims.es.map Lin.av) x.dims.cl]]:=by rw[bP.avc]
theorem bP.fad_av(off sz:Nat)(ag:Bool)(x:bP):fV off sz ag [.fp (bP.av x)]=fV off sz ag [.fp (.agg [.str x.row.bs,.sl x.dims.nl (x.dims.es.map Lin.av) x.dims.cl])]:=by rw[bP.avc]
theorem bP.box_av(h:Hp)(k:Nat)(x:bP):fW h k [bP.av x]=fW h k [.agg [.str x.row.bs,.sl x.dims.nl (x.dims.es.map Lin.av) x.dims.cl]]:=by rw[bP.avc]
attribute [go_sem high] bP.cells_av bP.isAgg_av bP.fits_av bP.tree_av bP.treeL_av
attribute [go_sem ↓ high] bP.fld_av bP.fad_av bP.box_av
theorem Typ.avc(x:Typ):Typ.av x = .agg [.str x.elem.bs,.str x.shape.row.bs,.sl x.shape.dims.nl (x.shape.dims.es.map Lin.av) x.shape.dims.cl]:=rfl
theorem Typ.cells_av(x:Typ):(Typ.av x).cells=[.str x.elem.bs,.str x.shape.row.bs,.sl x.shape.dims.nl (x.shape.dims.es.map Lin.av) x.shape.dims.cl]:=by rw[Typ.avc];rfl
theorem Typ.isAgg_av(x:Typ):(Typ.av x).isAgg=true:=by rw[Typ.avc];rfl
theorem Typ.fits_av(x:Typ):(Typ.av x).fits 3 true=true:=by rw[Typ.avc];rfl
theorem Typ.tree_av(x:Typ):(Typ.av x).tree=true:=by rw[Typ.avc];simp[go_sem]
theorem Typ.treeL_av(l:List Typ):Tev.treeL (l.map Typ.av)=true:=bG Typ.tree_av l
theorem Typ.fld_av(off sz:Nat)(ag:Bool)(x:Typ):fU off sz ag [Typ.av x]=fU off sz ag [.agg [.str x.elem.bs,.str x.shape.row.bs,.sl x.shape.dims.nl (x.shape.dims.es.map Lin.av) x.shape.dims.cl]]:=by rw[Typ.avc]
theorem Typ.fad_av(off sz:Nat)(ag:Bool)(x:Typ):fV off sz ag [.fp (Typ.av x)]=fV off sz ag [.fp (.agg [.str x.elem.bs,.str x.shape.row.bs,.sl x.shape.dims.nl (x.shape.dims.es.map Lin.av) x.shape.dims.cl])]:=by rw[Typ.avc]
theorem Typ.box_av(h:Hp)(k:Nat)(x:Typ):fW h k [Typ.av x]=fW h k [.agg [.str x.elem.bs,.str x.shape.row.bs,.sl x.shape.dims.nl (x.shape.dims.es.map Lin.av) x.shape.dims.cl]]:=by rw[Typ.avc]
attribute [go_sem high] Typ.cells_av Typ.isAgg_av Typ.fits_av Typ.tree_av Typ.treeL_av
attribute [go_sem ↓ high] Typ.fld_av Typ.fad_av Typ.box_av
theorem aH.avc(x:aH):aH.av x = .agg [.str x.op.bs,.int .i64 x.num,.sl x.args.nl (x.args.es.map aE) x.args.cl]:=rfl
theorem aH.cells_av(x:aH):(aH.av x).cells=[.str x.op.bs,.int .i64 x.num,.sl x.args.nl (x.args.es.map aE) x.args.cl]:=by rw[aH.avc];rfl
theorem aH.isAgg_av(x:aH):(aH.av x).isAgg=true:=by rw[aH.avc];rfl
theorem aH.fits_av(x:aH):(aH.av x).fits 3 true=true:=by rw[aH.avc];rfl
theorem aH.tree_av(x:aH):(aH.av x).tree=true:=by rw[aH.avc];simp[go_sem]
theorem aH.treeL_av(l:List aH):Tev.treeL (l.map aH.av)=true:=bG aH.tree_av l
theorem aH.fld_av(off sz:Nat)(ag:Bool)(x:aH):fU off sz ag [aH.av x]=fU off sz ag [.agg [.str x.op.bs,.int .i64 x.num,.sl x.args.nl (x.args.es.map aE) x.args.cl]]:=by rw[aH.avc]
theorem aH.fad_av(off sz:Nat)(ag:Bool)(x:aH):fV off sz ag [.fp (aH.av x)]=fV off sz ag [.fp (.agg [.str x.op.bs,.int .i64 x.num,.sl x.args.nl (x.args.es.map aE) x.args.cl])]:=by rw[aH.avc]
theorem aH.box_av(h:Hp)(k:Nat)(x:aH):fW h k [aH.av x]=fW h k [.agg [.str x.op.bs,.int .i64 x.num,.sl x.args.nl (x.args.es.map aE) x.args.cl]]:=by rw[aH.avc]
attribute [go_sem high] aH.cells_av aH.isAgg_av aH.fits_av aH.tree_av aH.treeL_av
attribute [go_sem ↓ high] aH.fld_av aH.fad_av aH.box_av
theorem Val.avc(x:Val):Val.av x = .agg [.str x.v.bs,.int .i64 x.n]:=rfl
theorem Val.cells_av(x:Val):(Val.av x).cells=[.str x.v.bs,.int .i64 x.n]:=by rw[Val.avc];rfl
theorem Val.isAgg_av(x:Val):(Val.av x).isAgg=true:=by rw[Val.avc];rfl
theorem Val.fits_av(x:Val):(Val.av x).fits 2 true=true:=by rw[Val.avc];rfl
theorem Val.tree_av(x:Val):(Val.av x).tree=true:=by rw[Val.avc];simp[go_sem]
theorem Val.treeL_av(l:List Val):Tev.treeL (l.map Val.av)=true:=bG Val.tree_av l
theorem Val.fld_av(off sz:Nat)(ag:Bool)(x:Val):fU off sz ag [Val.av x]=fU off sz ag [.agg [.str x.v.bs,.int .i64 x.n]]:=by rw[Val.avc]
theorem Val.fad_av(off sz:Nat)(ag:Bool)(x:Val):fV off sz ag [.fp (Val.av x)]=fV off sz ag [.fp (.agg [.str x.v.bs,.int .i64 x.n])]:=by rw[Val.avc]
theorem Val.box_av(h:Hp)(k:Nat)(x:Val):fW h k [Val.av x]=fW h k [.agg [.str x.v.bs,.int .i64 x.n]]:=by rw[Val.avc]
theorem Val.eqs_av(ng:Bool)(qs:List Nat)(x y:Val):vA ng qs [Val.av x,Val.av y]=vA ng qs [.agg [.str x.v.bs,.int .i64 x.n],.agg [.str y.v.bs,.int .i64 y.n]]:=by rw[Val.avc,Val.avc]
attribute [go_sem ↓ high] Val.eqs_av
attribute [go_sem high] Val.cells_av Val.isAgg_av Val.fits_av Val.tree_av Val.treeL_av
attribute [go_sem ↓ high] Val.fld_av Val.fad_av Val.box_av
theorem aA.avc(x:aA):aA.av x = .agg [.str x.op.bs,.int .i64 x.num,.int .i64 x.value,.str x.name.bs,.sl x.at_.nl (x.at_.es.map Lin.av) x.at_.cl,.bool x.dyn,.int .i64 x.check,.sl x.fn.nl (x.fn.es.map aH.av) x.fn.cl,.sl x.knl (x.kids.map aA.av) x.kcl]:=aA.av_eq x
theorem aA.cells_av(x:aA):(aA.av x).cells=[.str x.op.bs,.int .i64 x.num,.int .i64 x.value,.str x.name.bs,.sl x.at_.nl (x.at_.es.map Lin.av) x.at_.cl,.bool x.dyn,.int .i64 x.check,.sl x.fn.nl (x.fn.es.map aH.av) x.fn.cl,.sl x.knl (x.kids.map aA.av) x.kcl]:=by rw[aA.avc];rfl
theorem aA.isAgg_av(x:aA):(aA.av x).isAgg=true:=by rw[aA.avc];rfl
theorem aA.fits_av(x:aA):(aA.av x).fits 9 true=true:=by rw[aA.avc];rfl
mutual
theorem aA.tree_av:∀x:aA,(aA.av x).tree=true
 |.mk op num value name at_ dyn check fn knl kids kcl=>by have:=aA.tree_avs kids;simp[aA.av,go_sem,bG Lin.tree_av,bG aH.tree_av,this]
theorem aA.tree_avs:∀l:List aA,Tev.treeL (aA.avs l)=true
 |[]=>by simp[aA.avs,Tev.treeL]
 |p::r=>by simp[aA.avs,Tev.treeL,aA.tree_av p,aA.tree_avs r]
end
theorem aA.treeL_av(l:List aA):Tev.treeL (l.map aA.av)=true:=bG aA.tree_av l
theorem aA.fld_av(off sz:Nat)(ag:Bool)(x:aA):fU off sz ag [aA.av x]=fU off sz ag [.agg [.str x.op.bs,.int .i64 x.num,.int .i64 x.value,.str x.name.bs,.sl x.at_.nl (x.at_.es.map Lin.av) x.at_.cl,.bool x.dyn,.int .i64 x.check,.sl x.fn.nl (x.fn.es.map aH.av) x.fn.cl,.sl x.knl (x.kids.map aA.av) x.kcl]]:=by rw[aA.avc]
theorem aA.fad_av(off sz:Nat)(ag:Bool)(x:aA):fV off sz ag [.fp (aA.av x)]=fV off sz ag [.fp (.agg [.str x.op.bs,.int .i64 x.num,.int .i64 x.value,.str x.name.bs,.sl x.at_.nl (x.at_.es.map Lin.av) x.at_.cl,.bool x.dyn,.int .i64 x.check,.sl x.fn.nl (x.fn.es.map aH.av) x.fn.cl,.sl x.knl (x.kids.map aA.av) x.kcl])]:=by rw[aA.avc]
theorem aA.box_av(h:Hp)(k:Nat)(x:aA):fW h k [aA.av x]=fW h k [.agg [.str x.op.bs,.int .i64 x.num,.int .i64 x.value,.str x.name.bs,.sl x.at_.nl (x.at_.es.map Lin.av) x.at_.cl,.bool x.dyn,.int .i64 x.check,.sl x.fn.nl (x.fn.es.map aH.av) x.fn.cl,.sl x.knl (x.kids.map aA.av) x.kcl]]:=by rw[aA.avc]
attribute [go_sem high] aA.cells_av aA.isAgg_av aA.fits_av aA.tree_av aA.treeL_av
attribute [go_sem ↓ high] aA.fld_av aA.fad_av aA.box_av
theorem aX.avc(x:aX):aX.av x = .agg [.int .i64 x.kind,.int .i64 x.value,.sl x.space.nl (x.space.es.map Lin.av) x.space.cl,.str x.body.op.bs,.int .i64 x.body.num,.int .i64 x.body.value,.str x.body.name.bs,.sl x.body.at_.nl (x.body.at_.es.map Lin.av) x.body.at_.cl,.bool x.body.dyn,.int .i64 x.body.check,.sl x.body.fn.nl (x.body.fn.es.map aH.av) x.body.fn.cl,.sl x.body.knl (x.body.kids.map aA.av) x.body.kcl,.sl x.fn.nl (x.fn.es.map aH.av) x.fn.cl,.int .i64 x.source,.str x.index.op.bs,.int .i64 x.index.num,.int .i64 x.index.value,.str x.index.name.bs,.sl x.index.at_.nl (x.index.at_.es.map Lin.av) x.index.at_.cl,.bool x.index.dyn,.int .i64 x.index.check,.sl x.index.fn.nl (x.index.fn.es.map aH.av) x.index.fn.cl,.sl x.index.knl (x.index.kids.map aA.av) x.index.kcl,.int .i64 x.check]:=rfl
theorem aX.cells_av(x:aX):(aX.av x).cells=[.int .i64 x.kind,.int .i64 x.value,.sl x.space.nl (x.space.es.map Lin.av) x.space.cl,.str x.body.op.bs,.int .i64 x.body.num,.int .i64 x.body.value,.str x.body.name.bs,.sl x.body.at_.nl (x.body.at_.es.map Lin.av) x.body.at_.cl,.bool x.body.dyn,.int .i64 x.body.check,.sl x.body.fn.nl (x.body.fn.es.map aH.av) x.body.fn.cl,.sl x.body.knl (x.body.kids.map aA.av) x.body.kcl,.sl x.fn.nl (x.fn.es.map aH.av) x.fn.cl,.int .i64 x.source,.str x.index.op.bs,.int .i64 x.index.num,.int .i64 x.index.value,.str x.index.name.bs,.sl x.index.at_.nl (x.index.at_.es.map Lin.av) x.index.at_.cl,.bool x.index.dyn,.int .i64 x.index.check,.sl x.index.fn.nl (x.index.fn.es.map aH.av) x.index.fn.cl,.sl x.index.knl (x.index.kids.map aA.av) x.index.kcl,.int .i64 x.check]:=by rw[aX.avc];rfl
theorem aX.isAgg_av(x:aX):(aX.av x).isAgg=true:=by rw[aX.avc];rfl
theorem aX.fits_av(x:aX):(aX.av x).fits 24 true=true:=by rw[aX.avc];rfl
theorem aX.tree_av(x:aX):(aX.av x).tree=true:=by rw[aX.avc];simp[go_sem]
theorem aX.treeL_av(l:List aX):Tev.treeL (l.map aX.av)=true:=bG aX.tree_av l
theorem aX.fld_av(off sz:Nat)(ag:Bool)(x:aX):fU off sz ag [aX.av x]=fU off sz ag [.agg [.int .i64 x.kind,.int .i64 x.value,.sl x.space.nl (x.space.es.map Lin.av) x.space.cl,.str x.body.op.bs,.int .i64 x.body.num,.int .i64 x.body.value,.str x.body.name.bs,.sl x.body.at_.nl (x.body.at_.es.map Lin.av) x.body.at_.cl,.bool x.body.dyn,.int .i64 x.body.check,.sl x.body.fn.nl (x.body.fn.es.map aH.av) x.body.fn.cl,.sl x.body.knl (x.body.kids.map aA.av) x.body.kcl,.sl x.fn.nl (x.fn.es.map aH.av) x.fn.cl,.int .i64 x.source,.str x.index.op.bs,.int .i64 x.index.num,.int .i64 x.index.value,.str x.index.name.bs,.sl x.index.at_.nl (x.index.at_.es.map Lin.av) x.index.at_.cl,.bool x.index.dyn,.int .i64 x.index.check,.sl x.index.fn.nl (x.index.fn.es.map aH.av) x.index.fn.cl,.sl x.index.knl (x.index.kids.map aA.av) x.index.kcl,.int .i64 x.check]]:=by rw[aX.avc]
theorem aX.fad_av(off sz:Nat)(ag:Bool)(x:aX):fV off sz ag [.fp (aX.av x)]=fV off sz ag [.fp (.agg [.int .i64 x.kind,.int .i64 x.value,.sl x.space.nl (x.space.es.map Lin.av) x.space.cl,.str x.body.op.bs,.int .i64 x.body.num,.int .i64 x.body.value,.str x.body.name.bs,.sl x.body.at_.nl (x.body.at_.es.map Lin.av) x.body.at_.cl,.bool x.body.dyn,.int .i64 x.body.check,.sl x.body.fn.nl (x.body.fn.es.map aH.av) x.body.fn.cl,.sl x.body.knl (x.body.kids.map aA.av) x.body.kcl,.sl x.fn.nl (x.fn.es.map aH.av) x.fn.cl,.int .i64 x.source,.str x.index.op.bs,.int .i64 x.index.num,.int .i64 x.index.value,.str x.index.name.bs,.sl x.index.at_.nl (x.index.at_.es.map Lin.av) x.index.at_.cl,.bool x.index.dyn,.int .i64 x.index.check,.sl x.index.fn.nl (x.index.fn.es.map aH.av) x.index.fn.cl,.sl x.index.knl (x.index.kids.map aA.av) x.index.kcl,.int .i64 x.check])]:=by rw[aX.avc]
theorem aX.box_av(h:Hp)(k:Nat)(x:aX):fW h k [aX.av x]=fW h k [.agg [.int .i64 x.kind,.int .i64 x.value,.sl x.space.nl (x.space.es.map Lin.av) x.space.cl,.str x.body.op.bs,.int .i64 x.body.num,.int .i64 x.body.value,.str x.body.name.bs,.sl x.body.at_.nl (x.body.at_.es.map Lin.av) x.body.at_.cl,.bool x.body.dyn,.int .i64 x.body.check,.sl x.body.fn.nl (x.body.fn.es.map aH.av) x.body.fn.cl,.sl x.body.knl (x.body.kids.map aA.av) x.body.kcl,.sl x.fn.nl (x.fn.es.map aH.av) x.fn.cl,.int .i64 x.source,.str x.index.op.bs,.int .i64 x.index.num,.int .i64 x.index.value,.str x.index.name.bs,.sl x.index.at_.nl (x.index.at_.es.map Lin.av) x.index.at_.cl,.bool x.index.dyn,.int .i64 x.index.check,.sl x.index.fn.nl (x.index.fn.es.map aH.av) x.index.fn.cl,.sl x.index.knl (x.index.kids.map aA.av) x.index.kcl,.int .i64 x.check]]:=by rw[aX.avc]
attribute [go_sem high] aX.cells_av aX.isAgg_av aX.fits_av aX.tree_av aX.treeL_av
attribute [go_sem ↓ high] aX.fld_av aX.fad_av aX.box_av
theorem aU.avc(x:aU):aU.av x = .agg [.sl x.vars.nl (x.vars.es.map Str.av) x.vars.cl,.sl x.wher.nl (x.wher.es.map Lin.av) x.wher.cl,.int .i64 x.inputs,.sl x.values.nl (x.values.es.map Typ.av) x.values.cl,.sl x.list.nl (x.list.es.map aX.av) x.list.cl,.sl x.results.nl (x.results.es.map aE) x.results.cl]:=rfl
theorem aU.cells_av(x:aU):(aU.av x).cells=[.sl x.vars.nl (x.vars.es.map Str.av) x.vars.cl,.sl x.wher.nl (x.wher.es.map Lin.av) x.wher.cl,.int .i64 x.inputs,.sl x.values.nl (x.values.es.map Typ.av) x.values.cl,.sl x.list.nl (x.list.es.map aX.av) x.list.cl,.sl x.results.nl (x.results.es.map aE) x.results.cl]:=by rw[aU.avc];rfl
theorem aU.isAgg_av(x:aU):(aU.av x).isAgg=true:=by rw[aU.avc];rfl
theorem aU.fits_av(x:aU):(aU.av x).fits 6 true=true:=by rw[aU.avc];rfl
theorem aU.tree_av(x:aU):(aU.av x).tree=true:=by rw[aU.avc];simp[go_sem]
theorem aU.treeL_av(l:List aU):Tev.treeL (l.map aU.av)=true:=bG aU.tree_av l
theorem aU.fld_av(off sz:Nat)(ag:Bool)(x:aU):fU off sz ag [aU.av x]=fU off sz ag [.agg [.sl x.vars.nl (x.vars.es.map Str.av) x.vars.cl,.sl x.wher.nl (x.wher.es.map Lin.av) x.wher.cl,.int .i64 x.inputs,.sl x.values.nl (x.values.es.map Typ.av) x.values.cl,.sl x.list.nl (x.list.es.map aX.av) x.list.cl,.sl x.results.nl (x.results.es.map aE) x.results.cl]]:=by rw[aU.avc]
theorem aU.fad_av(off sz:Nat)(ag:Bool)(x:aU):fV off sz ag [.fp (aU.av x)]=fV off sz ag [.fp (.agg [.sl x.vars.nl (x.vars.es.map Str.av) x.vars.cl,.sl x.wher.nl (x.wher.es.map Lin.av) x.wher.cl,.int .i64 x.inputs,.sl x.values.nl (x.values.es.map Typ.av) x.values.cl,.sl x.list.nl (x.list.es.map aX.av) x.list.cl,.sl x.results.nl (x.results.es.map aE) x.results.cl])]:=by rw[aU.avc]
theorem aU.box_av(h:Hp)(k:Nat)(x:aU):fW h k [aU.av x]=fW h k [.agg [.sl x.vars.nl (x.vars.es.map Str.av) x.vars.cl,.sl x.wher.nl (x.wher.es.map Lin.av) x.wher.cl,.int .i64 x.inputs,.sl x.values.nl (x.values.es.map Typ.av) x.values.cl,.sl x.list.nl (x.list.es.map aX.av) x.list.cl,.sl x.results.nl (x.results.es.map aE) x.results.cl]]:=by rw[aU.avc]
attribute [go_sem high] aU.cells_av aU.isAgg_av aU.fits_av aU.tree_av aU.treeL_av
attribute [go_sem ↓ high] aU.fld_av aU.fad_av aU.box_av
theorem aEx{α : Type}(d:List α)(x : α)(r:List α):(d++x::r)[d.length]?=some x:=by simp
theorem YP{α : Type}(d:List α)(x : α)(r:List α):decide ((d.length:Int)<((d++x::r).length:Int))=true:=by simp only[List.length_append,List.length_cons,decide_eq_true_eq];omega
theorem aGp{α : Type}(d:List α):decide ((d.length:Int)<((d++[]).length:Int))=false:=by simp
theorem fX{n:Int}(h1 : -1000000000000000000<=n)(h2:n<=1000000000000000000):wr .i64 n=n:=by simp only[wr];rw[if_pos (by omega)]
theorem cW{α : Type}{d:List α}{x : α}{r:List α}(h:(d++x::r).length<=big):wr .i64 ((d.length:Int)+1)=((d++[x]).length:Int):=by simp only[List.length_append,List.length_cons,List.length_nil,big]at *;rw[fX (by omega) (by omega)];omega
theorem aM{pg:Pg}{kb:Nat}{α : Type}(es:List α)(E:List α -> List α -> List AV->Hp->Prop){b:C}{clr:List Bool}{st:St}{Q:Ex->St->Prop}{t:Tok Q}(h0:E [] es (clear clr st.env) st.hp)
  (hend:∀env hp,E es [] env hp->XX pg kb b ⟨env,hp⟩ (kR (λ_=>False) Q) ⟨⟩)
  (hstep:∀d x r env hp,es=d++x::r->E d (x::r) env hp->XX pg kb b ⟨env,hp⟩ (kR (λst'=>E (d++[x]) r (clear clr st'.env) st'.hp) Q) ⟨⟩) :
  XX pg kb (.loop b clr) st Q t:=by
 refine uN (α:={p:List α×List α // es=p.1++p.2}) (λp=>p.1.2.length) (λp=>E p.1.1 p.1.2) ⟨([],es),rfl⟩ h0 ?_;rintro⟨⟨d,r⟩,hes⟩ env hp hE;dsimp only at hes hE ⊢;cases r with
 |nil=>
  rw[List.append_nil]at hes;subst hes;obtain⟨n,ex,st',h1,h2⟩:=hend env hp hE;refine⟨n,ex,st',h1,?_⟩;cases ex with
  |nor=>exact h2.elim
  |ext i=>exact h2
  |ret=>exact h2
 |cons x r=>
  obtain⟨n,ex,st',h1,h2⟩:=hstep d x r env hp hes hE;refine⟨n,ex,st',h1,?_⟩;cases ex with
  |nor=>exact⟨⟨(d++[x],r),by simp[hes]⟩,by simp,h2⟩
  |ext i=>exact h2
  |ret=>exact h2
theorem uD{h:Hp}{v:AV}(hv:v.tree=true):conv h v=some v:=by
 have:snap depth h v=some (v,[]):=by unfold depth snap;rw[if_pos hv]
 cases v<;>first|(simp only[conv,this];rfl)|simp[AV.tree]at hv
theorem TK{α : Type}(x y : α):(some x=some y)=(x=y):=by simp
theorem XM(x y:Bool):(AV.bool x=AV.bool y)=(x=y):=by simp
theorem aEw(k:IntKind)(x y:Int):(AV.int k x=AV.int k y)=(x=y):=by simp
theorem aDo(x y:List UInt8):(AV.str x=AV.str y)=(x=y):=by simp
theorem aEr{α : Type}(l:List α):(0<=(l.length:Int))=True:=by simp
def cB(pg:Pg)(f:Nat)(ts:List AV)(P:AV->Prop):Prop:=∃r,Ret pg f ts r/\P r
def RS(res:List (Sum Nat (Nat×Nat×Bool)))(P:AV->Prop)(ex:Ex)(st:St):Prop:=
 match ex with
 |.ext _=>False
 |_=>∃v,result st res=some v/\∃r,conv st.hp v=some r/\P r
theorem RR(res:List (Sum Nat (Nat×Nat×Bool)))(P:AV->Prop)(st:St):RS res P .nor st=∃v,result st res=some v/\∃r,conv st.hp v=some r/\P r:=rfl
theorem RQ(res:List (Sum Nat (Nat×Nat×Bool)))(P:AV->Prop)(st:St):RS res P .ret st=∃v,result st res=some v/\∃r,conv st.hp v=some r/\P r:=rfl
theorem cB.ofX{pg:Pg}{f:Nat}{cf:CF}{vs:List AV}{P:AV->Prop}(hf:pg.fs f=some cf)(hw:XX pg 0 cf.body ⟨enter cf vs,[]⟩ (RS cf.res P) ⟨⟩):cB pg f vs P:=by
 obtain⟨n,ex,st,h1,h2⟩:=hw;cases ex with
 |ext i=>exact h2.elim
 |nor=>obtain⟨v,h3,r,h4,h5⟩:=h2;exact⟨r,Ret.of hf ⟨n,.nor,st,h1,v,h3,h4⟩,h5⟩
 |ret=>obtain⟨v,h3,r,h4,h5⟩:=h2;exact⟨r,Ret.of hf ⟨n,.ret,st,h1,v,h3,h4⟩,h5⟩
def IsB(v:AV):Prop:=∃b:Bool,v = .bool b
theorem Q2(b:Bool):IsB (.bool b)=True:=by simp only[IsB,eq_iff_iff,iff_true];exact⟨b,rfl⟩
theorem cB.mono{pg:Pg}{f:Nat}{ts:List AV}{P P':AV->Prop}(h:cB pg f ts P)(hP:∀r,P r->P' r):cB pg f ts P':=by obtain⟨r,h1,h2⟩:=h;exact⟨r,h1,hP r h2⟩
theorem Ret.P{pg:Pg}{f:Nat}{ts:List AV}{r:AV}{P:AV->Prop}(h:Ret pg f ts r)(hP:P r):cB pg f ts P:=⟨r,h,hP⟩
theorem fP{pg:Pg}{kb:Nat}{α : Type}(es:List α)(U:List α -> List AV->List AV)(I:List α -> List α -> Hp->Prop){b:C}{clr:List Bool}{st:St}{Q:Ex->St->Prop}{t:Tok Q}
  (h0:clear clr st.env=U [] (clear clr st.env)) (i0:I [] es st.hp)
  (hend:∀hp,I es [] hp->XX pg kb b ⟨U es (clear clr st.env),hp⟩ (kR (λ_=>False) Q) ⟨⟩)
  (hstep:∀d x r hp,es=d++x::r->I d (x::r) hp->XX pg kb b ⟨U d (clear clr st.env),hp⟩ (kR (λst'=>clear clr st'.env=U (d++[x]) (clear clr st.env)/\I (d++[x]) r st'.hp) Q) ⟨⟩) :
  XX pg kb (.loop b clr) st Q t:=by
 refine aM es (λd r env hp=>env=U d (clear clr st.env)/\I d r hp) ⟨h0,i0⟩ ?_ ?_;rintro env hp ⟨rfl,h⟩;exact hend hp h;rintro d x r env hp hes ⟨rfl,h⟩;exact hstep d x r hp hes h
attribute [go_sem ↓] RR RQ
attribute [go_sem] Q2
theorem fY(f:AV->Option (AV×List Nat)):mapS f []=some ([],[]):=rfl
theorem cA(f:AV->Option (AV×List Nat))(x:AV)(r:List AV):mapS f (x::r)=match f x with
  |none=>none
  |some (y,s)=>match mapS f r with
   |none=>none
   |some (l,s')=>some (y::l,s++s'):=rfl
theorem lV(d:Nat)(h:Hp)(v:AV):snap (d+1) h v=(if v.tree then some (v,[]) else
  match v with
  |.agg cs=>(mapS (snap d h) cs).map fun(l,s)=>(.agg l,s)
  |.tup cs=>(mapS (snap d h) cs).map fun(l,s)=>(.tup l,s)
  |.sl nl es cl=>(mapS (snap d h) es).map fun(l,s)=>(.sl nl l cl,s)
  |.ifc v=>(snap d h v).map fun(x,s)=>(.ifc x,s)
  |.ift t v=>(snap d h v).map fun(x,s)=>(.ift t x,s)
  |.fnm t v=>(snap d h v).map fun(x,s)=>(.fnm t x,s)
  |.fn f cs=>(mapS (snap d h) cs).map fun(l,s)=>(.fn f l,s)
  |.rf k e off len cap=>
   match h.get k with
   |some (e',.blk cs esz ag ti _)=>
    if e'=e then
     match iR esz ag len (cs.drop off) with
     |some es=>(mapS (snap d h) es).map fun(l,s)=>(.sl false l (ti&&len==cap),k::s)
     |none=>none
    else none
   |_=>none
  |.pt k e off=>
   match h.get k with
   |some (e',.blk cs esz ag _ _)=>
    if e'=e/\off=0/\esz=cs.length then
     match mapS (snap d h) cs with
     |some (l,s)=>if ag then some (.fp (.agg l),k::s) else match l with|[v]=>if v.isAgg then none else some (.fp v,k::s)|_=>none
     |none=>none
    else none
   |_=>none
  |_=>none):=by
 rfl
theorem aHp(c:UInt8)(t:List UInt8):u6 true false [.str (c::t),.int .i64 1]=val (.str t):=by
 have h1:(1:Int)<=((t.length:Int)+1):=by omega
 simp[u6,iK,h1]
attribute [go_sem ↓] aHp
theorem uK{pg pg':Pg}(h:∀f cf,pg.fs f=some cf->pg'.fs f=some cf)(hg:pg.gl=pg'.gl)(hx:∀f,pg.ex f=none):∀n,kE (aV pg n) (aV pg' n)
 |0=>⟨by intro f a kb hp r hq;simp[aV]at hq,by intro k e a hp r hq;simp[aV]at hq⟩
 |n+1=>by
  refine⟨?_,λk e a hp r hq=>by
   simp only[aV]at hq ⊢;exact oW (λc b st r hr=>by rw[<-hg];exact nD (uK h hg hx n) (Nat.le_refl _) hr) hq⟩
  intro f a kb hp r hq;simp only[aV]at hq ⊢;cases hf:pg.fs f with
  |none=>simp[hf,hx]at hq
  |some cf=>
   rw[hf]at hq;rw[h f cf hf];simp only at hq ⊢;cases he:aZ pg.gl (aV pg n) kb n cf.body ⟨enter cf a,hp⟩ with
   |none=>simp[he]at hq
   |some p=>rw[he]at hq;rw[<-hg,nD (uK h hg hx n) (Nat.le_refl _) he];exact hq
theorem Ret.closed{pg:Pg}(t:BT CF)(ht:∀f cf,t.find f=some cf->pg.fs f=some cf)(n:Nat){f:Nat}{ts:List AV}{r:AV}(h:bL (aV ⟨λf=>t.find f,pg.gl,λ_=>none⟩ n) f ts=some r):Ret pg f ts r:=
 ⟨n,fS (uK (pg:=⟨λf=>t.find f,pg.gl,λ_=>none⟩) ht rfl (λ_=>rfl) n) h⟩
theorem aNH:(((1:Nat):Int))=1:=rfl
theorem aNG:(((2:Nat):Int))=2:=rfl
theorem aNF:(((3:Nat):Int))=3:=rfl
theorem aNE:(((4:Nat):Int))=4:=rfl
theorem aND:(((5:Nat):Int))=5:=rfl
theorem aNC:(((6:Nat):Int))=6:=rfl
theorem aNB:(((7:Nat):Int))=7:=rfl
theorem aNA:(((8:Nat):Int))=8:=rfl
theorem aNz:(((9:Nat):Int))=9:=rfl
theorem aGI:(((10:Nat):Int))=10:=rfl
theorem aGH:(((11:Nat):Int))=11:=rfl
theorem aGG:(((12:Nat):Int))=12:=rfl
attribute [go_sem] aNH aNG aNF aNE aND aNC aNB aNA aNz aGI aGH aGG
attribute [go_sem] Z Y N i0 i1 bN bY sN
attribute [go_sem] aEx YP aGp uD TK XM aEw aDo clear aEr tY
end
section
def RB:List Bool:=[true,true,false,false,false,false,false,true,true,false,false,false,false,false,false,false,false,false,false]
def RC(esz:Nat)(ag:Bool):C:=
 (.seq (.reg [⟨(some 9),(.bin .lss),[.t 8,.t 7],none,0,0⟩] false)
 (.seq (.cond (.t 9) .skip
  (.exit 0))
 (.seq (.block 1 (.seq (.reg [⟨(some 10),.mov,[.t 8],none,0,0⟩,
  ⟨(some 5),.mov,[.t 10],none,0,0⟩] false)
 (.seq (.reg [⟨(some 11),.mov,[.t 1],none,0,0⟩,
  ⟨(some 12),.mov,[.t 0],none,0,0⟩,
  ⟨(some 13),.mov,[.t 5],none,0,0⟩,
  ⟨(some 14),(.iad esz ag none),[.t 12,.t 13],none,0,0⟩,
  ⟨(some 15),(.load esz ag),[.t 14],none,0,0⟩,
  ⟨(some 16),(.callv false false),[.t 11,.t 15],none,0,1⟩] false)
 (.cond (.t 16) (.seq (.reg [⟨(some 17),.mov,[.t 5],none,0,0⟩,
   ⟨(some 4),.mov,[.t 17],none,0,0⟩] false)
  .ret)
  .skip))))
 (.reg [⟨(some 18),(.bin .add),[.t 8,.c (.int .i64 1)],none,0,0⟩,
  ⟨(some 8),.mov,[.t 18],none,0,0⟩] false))))
def aGA(esz:Nat)(ag:Bool):CF:=⟨2,19,[.inl 4],
 (.seq (.reg [⟨(some 4),.mov,[.c (.int .i64 0)],none,0,0⟩] false)
 (.seq (.seq (.reg [⟨(some 6),.mov,[.t 0],none,0,0⟩,
  ⟨(some 7),(.len 1),[.t 6],none,0,0⟩,
  ⟨(some 8),.mov,[.c (.int .i64 0)],none,0,0⟩] false)
 (.block 0 (.loop (RC esz ag) RB)))
 (.seq (.reg [⟨(some 4),.mov,[.c (.int .i64 (-1))],none,0,0⟩] false)
 .ret)))⟩
def aGJ(n:Nat):CF:=⟨2,9,[.inl 4],
 (.seq (.reg [⟨(some 4),.mov,[.c (.bool false)],none,0,0⟩] false)
 (.seq (.reg [⟨(some 5),.mov,[.t 0],none,0,0⟩,
  ⟨(some 6),.mov,[.t 1],none,0,0⟩,
  ⟨(some 7),(.call n false false),[.t 5,.t 6],none,0,1⟩,
  ⟨(some 8),(.bin .geq),[.t 7,.c (.int .i64 0)],none,0,0⟩,
  ⟨(some 4),.mov,[.t 8],none,0,0⟩] false)
 .ret))⟩
def Q9:List Bool:=[true,true,false,false,false,false,false,true,true,false,false,false,false,false,false,false,false,false,false]
def RA(esz:Nat)(ag:Bool)(k:K):C:=
 (.seq (.reg [⟨(some 9),(.bin .lss),[.t 8,.t 7],none,0,0⟩] false)
 (.seq (.cond (.t 9) .skip
  (.exit 0))
 (.seq (.block 1 (.seq (.reg [⟨(some 10),.mov,[.t 8],none,0,0⟩,
  ⟨(some 5),.mov,[.t 10],none,0,0⟩] false)
 (.seq (.reg [⟨(some 11),.mov,[.t 1],none,0,0⟩,
  ⟨(some 12),.mov,[.t 0],none,0,0⟩,
  ⟨(some 13),.mov,[.t 5],none,0,0⟩,
  ⟨(some 14),(.iad esz ag none),[.t 12,.t 13],none,0,0⟩,
  ⟨(some 15),(.load esz ag),[.t 14],none,0,0⟩,
  ⟨(some 16),k,[.t 11,.t 15],none,0,0⟩] false)
 (.cond (.t 16) (.seq (.reg [⟨(some 17),.mov,[.t 5],none,0,0⟩,
   ⟨(some 4),.mov,[.t 17],none,0,0⟩] false)
  .ret)
  .skip))))
 (.reg [⟨(some 18),(.bin .add),[.t 8,.c (.int .i64 1)],none,0,0⟩,
  ⟨(some 8),.mov,[.t 18],none,0,0⟩] false))))
def aGz(esz:Nat)(ag:Bool)(k:K):CF:=⟨2,19,[.inl 4],
 (.seq (.reg [⟨(some 4),.mov,[.c (.int .i64 0)],none,0,0⟩] false)
 (.seq (.seq (.reg [⟨(some 6),.mov,[.t 0],none,0,0⟩,
  ⟨(some 7),(.len 1),[.t 6],none,0,0⟩,
  ⟨(some 8),.mov,[.c (.int .i64 0)],none,0,0⟩] false)
 (.block 0 (.loop (RA esz ag k) Q9)))
 (.seq (.reg [⟨(some 4),.mov,[.c (.int .i64 (-1))],none,0,0⟩] false)
 .ret)))⟩
def I9:List Bool:=[false,false,false,true,false,false,false,true,true,true,false,false,false,false,false,false,false,false,false,false,false,false,false]
def JA(g:Nat):C:=
 (.seq (.reg [⟨(some 10),(.bin .lss),[.t 9,.t 8],none,0,0⟩] false)
 (.seq (.cond (.t 10) .skip
  (.exit 0))
 (.seq (.block 1 (.seq (.reg [⟨(some 11),(.iad 2 true none),[.t 7,.t 9],none,0,0⟩,
  ⟨(some 12),(.load 2 true),[.t 11],none,0,0⟩,
  ⟨(some 6),(.alloc [(.int .i64 0),(.sl true [] true)] true),[],none,0,5⟩,
  ⟨none,(.store 2 true),[.t 6,.t 12],none,0,0⟩] false)
 (.seq (.reg [⟨(some 13),(.load 2 true),[.t 6],none,0,0⟩,
  ⟨(some 14),(.call 51 false false),[.t 13],none,0,9⟩,
  ⟨(some 15),(.un .not),[.t 14],none,0,0⟩,
  ⟨(some 16),.mov,[.t 15],none,0,0⟩,
  ⟨(some 17),(.load 2 true),[.t 6],(some (16,false)),0,0⟩,
  ⟨(some 18),(.call 96 false false),[.t 17],(some (16,false)),0,13⟩,
  ⟨(some 19),(.mkf g),[.t 3],(some (16,false)),0,0⟩,
  ⟨(some 20),(.call 95 false false),[.t 18,.t 19],(some (16,false)),0,17⟩,
  ⟨(some 21),.pick,[.t 16,.c (.bool true),.t 20],none,0,0⟩] false)
 (.cond (.t 21) (.seq (.reg [⟨(some 4),.mov,[.c (.bool false)],none,0,0⟩] false)
  .ret)
  .skip))))
 (.reg [⟨(some 22),(.bin .add),[.t 9,.c (.int .i64 1)],none,0,0⟩,
  ⟨(some 9),.mov,[.t 22],none,0,0⟩] false))))
def YN(g:Nat):CF:=⟨2,23,[.inl 4],
 (.seq (.reg [⟨(some 3),.box,[.t 1],none,0,1⟩,
  ⟨(some 4),.mov,[.c (.bool false)],none,0,0⟩] false)
 (.seq (.seq (.reg [⟨(some 7),.mov,[.t 0],none,0,0⟩,
  ⟨(some 8),(.len 1),[.t 7],none,0,0⟩,
  ⟨(some 9),.mov,[.c (.int .i64 0)],none,0,0⟩] false)
 (.block 0 (.loop (JA g) I9)))
 (.seq (.reg [⟨(some 4),.mov,[.c (.bool true)],none,0,0⟩] false)
 .ret)))⟩
section
variable{pg:Pg}
theorem DG{f:Nat}{esz:Nat}{ag:Bool}(hf:pg.fs f=some (aGA esz ag)){α : Type}(enc : α -> AV)(hfit:∀x,(enc x).fits esz ag=true)(htree:∀x,(enc x).tree=true)
  (nl cl:Bool) (es:List α) (hb:es.length<=big) (g:Nat) (cs:List AV) (hcs:treeL cs=true) (p : α -> Bool) (hp:∀x∈es,Ret pg g (enc x::cs) (.bool (p x))) :
  cB pg f [.sl nl (es.map enc) cl,.fn g cs] (λr=>∃i:Int,r = .int .i64 i/\decide (0<=i)=es.any p):=by
 refine cB.ofX hf ?_;unfold aGA;simp only[go_sem,seval];refine fP es (λd e=>eN e (some 8) (.int .i64 d.length)) (λd r hp=>es.any p=r.any p) rfl ?_ ?_ ?_;rfl;intro hp' hI;simp only[RC,RB,go_sem,seval];simp[hI];intro d x r hp' hes hI;subst hes;simp only[RC,RB,hfit,go_sem,seval];refine dH (hp x (by simp)) (by simp only[treeL,htree,hcs,List.cons_append,List.nil_append,Bool.and_true]) rfl ?_;simp only[go_sem,seval];cases hx:p x;simp only[cW hb,go_sem,seval];simpa[hx] using hI;simp only[go_sem,seval];simp[hx]
theorem rZ{f n:Nat}(hf:pg.fs f=some (aGJ n)){a b:AV}{q:Bool}(ha:treeL [a,b]=true)(h:cB pg n [a,b] (λr=>∃i:Int,r = .int .i64 i/\decide (0<=i)=q)) :
  Ret pg f [a,b] (.bool q):=by
 obtain⟨_,h,i,rfl,hi⟩:=h;refine Ret.ofX hf ?_;unfold aGJ;simp only[go_sem,seval];refine dH h ha rfl ?_;simp only[go_sem,seval];exact hi
theorem L3{f:Nat}{esz:Nat}{ag:Bool}{k:K}(hf:pg.fs f=some (aGz esz ag k)){α : Type}(enc : α -> AV)(hfit:∀x,(enc x).fits esz ag=true)
  (nl cl:Bool) (es:List α) (hb:es.length<=big) (v:AV) (p : α -> Bool) (hk:∀(kb s:Nat)(h:Hp)(x : α)(Q:AV->Eff->Prop)(t:Tok Q),XO pg kb k s h [v,enc x] Q t=Q (.bool (p x)) (.pat [] [])) :
  cB pg f [.sl nl (es.map enc) cl,v] (λr=>∃i:Int,r = .int .i64 i/\decide (0<=i)=es.any p):=by
 refine cB.ofX hf ?_;unfold aGz;simp only[go_sem,seval];refine fP es (λd e=>eN e (some 8) (.int .i64 d.length)) (λd r hp=>es.any p=r.any p) rfl ?_ ?_ ?_;rfl;intro hp' hI;simp only[RA,Q9,go_sem,seval];simp[hI];intro d x r hp' hes hI;subst hes;simp only[RA,Q9,hfit,hk,go_sem,seval];cases hx:p x;simp only[cW hb,go_sem,seval];simpa[hx] using hI;simp only[go_sem,seval];simp[hx]
def eqL{α β : Type}(q : α -> β -> Bool):List α -> List β -> Bool
 |[],[]=>true
 |x::r,y::s=>q x y&&eqL q r s
 |_,_=>false
theorem MQ{α β : Type}{q : α -> β -> Bool}:∀{a:List α}{b:List β},eqL q a b=true->a.length=b.length
 |[],[],_=>rfl
 |x::r,y::s,h=>by simp only[eqL,aD]at h;simp[MQ h.2]
 |[],_::_,h=>by simp[eqL]at h
 |_::_,[],h=>by simp[eqL]at h
end
end
end Go.Tev
