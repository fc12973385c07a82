import Derived.Test.YtilkdbbkkcnocaaGreatDoorSAA
import Derived.Below
import Derived.Orders
import Derived.Laws.IdiomCopy
import Derived.WalkKit
import Derived.Laws.StructEq
import Derived.Laws.Cover1
import Derived.Laws.Strings
import Derived.Laws.Concat
import Derived.Laws.Build
set_option linter.all false
namespace Go.Tev
section
open Go.RowKit
structure Loc where
 b:Nat
 base:Nat
 room:Nat
 tight:Bool
 esz:Nat
 hb:tight=true->base=0
abbrev Rho:=Nat->Nat->Option Loc
structure Nm where
 f:Nat->Nat
 lk:List Nat->C->C->Loop->Prop
instance:CoeFun Nm (λ_=>Nat->Nat):=⟨Nm.f⟩
instance:Coe Nm (Nat->Nat):=⟨Nm.f⟩
inductive Rv(num:Nm)(ρ : Rho)(w:World)(F:Nat->Prop):AV->Value->Prop
 |top (c:Value):Rv num ρ w F .top c
 |bool (b:Bool):Rv num ρ w F (.bool b) (.bool b)
 |int (k:IntKind) (n:Int):Rv num ρ w F (.int k n) (.int k n)
 |str (s:List UInt8):Rv num ρ w F (.str s) (.string ⟨s.toArray⟩)
 |nilp:Rv num ρ w F .nilp (.pointer none)
 |nilm:Rv num ρ w F .nilm (.map none)
 |nilf:Rv num ρ w F .nilf .nilFunc
 |nili:Rv num ρ w F .nili .nilIface
 |agg (cs:List AV) (vs:Array Value) (hl:cs.length=vs.size) (h:∀(i:Nat)(x:AV)(y:Value),cs[i]?=some x->vs[i]?=some y->Rv num ρ w F x y) :
   Rv num ρ w F (.agg cs) (.agg vs)
 |tup (cs:List AV) (vs:Array Value) (hl:cs.length=vs.size) (h:∀(i:Nat)(x:AV)(y:Value),cs[i]?=some x->vs[i]?=some y->Rv num ρ w F x y) :
   Rv num ρ w F (.tup cs) (.tuple vs)
 |nsl (cl:Bool):Rv num ρ w F (.sl true [] cl) (.slice none 0 0)
 |sl (es:List AV) (cl:Bool) (b off cap sz:Nat) (c:Nat->Value) (hc:es.length<=cap) (hcl:cl=true->cap=es.length)
   (hF:es≠[]->¬F b/\b<w.heap.size)
   (hz:∀(i:Nat)(e:AV),es[i]?=some e->e.cells.length=sz)
   (hm:∀n,n<es.length*sz->w.cell? ⟨b,off+n,none⟩=some (c n))
   (hr:∀(i:Nat)(e:AV)(j:Nat)(x:AV),es[i]?=some e->e.cells[j]?=some x->Rv num ρ w F x (c (i*sz+j)))
   (sp:Option Nat) (hsp:es≠[]->sp=none) :
   Rv num ρ w F (.sl false es cl) (.slice (some ⟨b,off,sp⟩) es.length cap)
 |fp (v:AV) (b off:Nat) (c:Nat->Value) (hF:¬F b) (hb:b<w.heap.size)
   (hm:∀n,n<v.cells.length->w.cell? ⟨b,off+n,none⟩=some (c n))
   (hr:∀(j:Nat)(x:AV),v.cells[j]?=some x->Rv num ρ w F x (c j)) :
   Rv num ρ w F (.fp v) (.pointer (some ⟨b,off,none⟩))
 |rf (k e off len cap cap':Nat) (L:Loc) (hL : ρ k e=some L) (hlen:len<=cap) (hcap:cap<=cap') (ht:L.tight=true->cap'=cap)
   (hroom:off+cap'*L.esz<=L.room) :
   Rv num ρ w F (.rf k e off len cap) (.slice (some ⟨L.b,L.base+off,none⟩) len cap')
 |pt (k e off:Nat) (L:Loc) (hL : ρ k e=some L):Rv num ρ w F (.pt k e off) (.pointer (some ⟨L.b,L.base+off,none⟩))
 |mp (k e:Nat) (L:Loc) (hL : ρ k e=some L):Rv num ρ w F (.mp k e) (.map (some L.b))
 |yl (k e:Nat) (L:Loc) (hL : ρ k e=some L):Rv num ρ w F (.yl k e) (.func (.yield L.b) #[] #[])
 |fn (f:Nat) (cs:List AV) (vs:Array Value) (hl:cs.length=vs.size) (h:∀(i:Nat)(x:AV)(y:Value),cs[i]?=some x->vs[i]?=some y->Rv num ρ w F x y) :
   Rv num ρ w F (.fn f cs) (.func (.func (num f)) #[] vs)
 |ifc (v:AV) (t:TypeId) (c:Value) (h:Rv num ρ w F v c):Rv num ρ w F (.ifc v) (.iface t c)
 |ift (t:Nat) (v:AV) (c:Value) (h:Rv num ρ w F v c):Rv num ρ w F (.ift t v) (.iface (num t) c)
 |fnm (f:Nat) (v:AV) (c:Value) (h:Rv num ρ w F v c):Rv num ρ w F (.fnm f v) (.func (.func (num f)) #[c] #[])
structure Evo(ρ : Rho)(w:World)(O:Nat->Prop)(ρ':Rho)(w':World)(O':Nat->Prop):Prop where
 os:w'.os=w.os
 tape:w'.tape=w.tape
 output:w'.output=w.output
 size:w.heap.size<=w'.heap.size
 keep:∀b,b<w.heap.size->¬O b->w'.heap[b]?=w.heap[b]?
 own:∀b,b<w.heap.size->O' b->O b
 rho:∀k e L,ρ k e=some L -> ρ' k e=some L
theorem Evo.refl(ρ : Rho)(w:World)(O:Nat->Prop):Evo ρ w O ρ w O:=
 ⟨rfl,rfl,rfl,Nat.le_refl _,λ_ _ _=>rfl,λ_ _ h=>h,λ_ _ _ h=>h⟩
theorem Evo.trans{ρ ρ' ρ'':Rho}{w w' w'':World}{O O' O'':Nat->Prop}(h:Evo ρ w O ρ' w' O')(k:Evo ρ' w' O' ρ'' w'' O''):Evo ρ w O ρ'' w'' O'' where
 os:=k.os.trans h.os
 tape:=k.tape.trans h.tape
 output:=k.output.trans h.output
 size:=Nat.le_trans h.size k.size
 keep:=λb hb hO=>(k.keep b (Nat.lt_of_lt_of_le hb h.size) (λh'=>hO (h.own b hb h'))).trans (h.keep b hb hO)
 own:=λb hb hO=>h.own b hb (k.own b (Nat.lt_of_lt_of_le hb h.size) hO)
 rho:=λk' e L hL=>k.rho k' e L (h.rho k' e L hL)
theorem lU{w w':World}{b off:Nat}(h:w'.heap[b]?=w.heap[b]?):w'.cell? ⟨b,off,none⟩=w.cell? ⟨b,off,none⟩:=by simp only[World.cell?,h]
theorem Rv.evo{num:Nm}{ρ ρ':Rho}{w w':World}{Fb O O':Nat->Prop}{v:AV}{c:Value}(h:Rv num ρ w (λb=>Fb b\/O b) v c)(he:Evo ρ w O ρ' w' O') :
  Rv num ρ' w' (λb=>Fb b\/O' b) v c:=by
 induction h with
 |top c=>exact .top c
 |bool b=>exact .bool b
 |int k n=>exact .int k n
 |str s=>exact .str s
 |nilp=>exact .nilp
 |nilm=>exact .nilm
 |nilf=>exact .nilf
 |nili=>exact .nili
 |agg cs vs hl _ ih=>exact .agg cs vs hl ih
 |tup cs vs hl _ ih=>exact .tup cs vs hl ih
 |nsl cl=>exact .nsl cl
 |sl es cl b off cap sz c hc hcl hF hz hm _ sp hsp ih=>
  refine .sl es cl b off cap sz c hc hcl ?_ hz ?_ ih sp hsp;intro hne;obtain⟨h1,h2⟩:=hF hne;refine⟨λh=>h1 ?_,Nat.lt_of_lt_of_le h2 he.size⟩;exact h.imp id (he.own b h2);intro n hn;have hne:es≠[]:=by intro h;subst h;simp at hn
  obtain⟨h1,h2⟩:=hF hne;rw[lU (he.keep b h2 (λh=>h1 (.inr h)))];exact hm n hn
 |fp v b off c hF hb hm _ ih=>refine .fp v b off c (λh=>hF (h.imp id (he.own b hb))) (Nat.lt_of_lt_of_le hb he.size) ?_ ih;intro n hn;rw[lU (he.keep b hb (λh=>hF (.inr h)))];exact hm n hn
 |rf k e off len cap cap' L hL hlen hcap ht hroom=>exact .rf k e off len cap cap' L (he.rho k e L hL) hlen hcap ht hroom
 |pt k e off L hL=>exact .pt k e off L (he.rho k e L hL)
 |mp k e L hL=>exact .mp k e L (he.rho k e L hL)
 |yl k e L hL=>exact .yl k e L (he.rho k e L hL)
 |fn f cs vs hl _ ih=>exact .fn f cs vs hl ih
 |ifc v t c _ ih=>exact .ifc v t c ih
 |ift t v c _ ih=>exact .ift t v c ih
 |fnm t v c _ ih=>exact .fnm t v c ih
theorem Rv.tree_mono{num:Nm}{ρ ρ':Rho}{w:World}{F F':Nat->Prop}{v:AV}{c:Value}(h:Rv num ρ w F v c)(ht:v.tree=true)(hF:∀b,F' b->F b) :
  Rv num ρ' w F' v c:=by
 induction h with
 |top c=>exact .top c
 |bool b=>exact .bool b
 |int k n=>exact .int k n
 |str s=>exact .str s
 |nilp=>exact .nilp
 |nilm=>exact .nilm
 |nilf=>exact .nilf
 |nili=>exact .nili
 |agg cs vs hl _ ih=>exact .agg cs vs hl (λi x y hx hy=>ih i x y hx hy (treeL_get (by simpa[AV.tree] using ht) i x hx))
 |tup cs vs hl _ ih=>exact .tup cs vs hl (λi x y hx hy=>ih i x y hx hy (treeL_get (by simpa[AV.tree] using ht) i x hx))
 |nsl cl=>exact .nsl cl
 |sl es cl b off cap sz c hc hcl hF' hz hm _ sp hsp ih=>refine .sl es cl b off cap sz c hc hcl (λhne=>⟨λh=>(hF' hne).1 (hF b h),(hF' hne).2⟩) hz hm ?_ sp hsp;intro i e j x he hx;refine ih i e j x he hx ?_;have h1:=treeL_get (by simpa[AV.tree] using ht) i e he;exact cells_tree h1 j x hx
 |fp v b off c hF' hb hm _ ih=>refine .fp v b off c (λh=>hF' (hF b h)) hb hm (λj x hx=>ih j x hx ?_);exact cells_tree (by simpa[AV.tree] using ht) j x hx
 |rf=>simp[AV.tree]at ht
 |pt=>simp[AV.tree]at ht
 |mp=>simp[AV.tree]at ht
 |yl=>simp[AV.tree]at ht
 |fn f cs vs hl _ ih=>exact .fn f cs vs hl (λi x y hx hy=>ih i x y hx hy (treeL_get (by simpa[AV.tree] using ht) i x hx))
 |ifc v t c _ ih=>exact .ifc v t c (ih (by simpa[AV.tree] using ht))
 |ift t v c _ ih=>exact .ift t v c (ih (by simpa[AV.tree] using ht))
 |fnm t v c _ ih=>exact .fnm t v c (ih (by simpa[AV.tree] using ht))
where
 treeL_get:∀{l:List AV},treeL l=true->∀(i:Nat)(x:AV),l[i]?=some x->x.tree=true:=by
  intro l
  induction l with
  |nil=>intro _ i x h;simp at h
  |cons y r ih=>
   intro h i x hx;simp only[treeL,aD]at h;cases i with
   |zero=>simp at hx;exact hx ▸ h.1
   |succ i=>exact ih h.2 i x (by simpa using hx)
 cells_tree:∀{v:AV},v.tree=true->∀(i:Nat)(x:AV),v.cells[i]?=some x->x.tree=true:=by
  intro v hv i x hx;cases v<;>simp only[AV.cells]at hx <;>
   first
    |exact treeL_get (by simpa[AV.tree] using hv) i x hx
    |(cases i with
      |zero=>simp at hx;exact hx ▸ hv
      |succ i=>simp at hx)
theorem Rv.flat_any{num:Nm}{ρ ρ':Rho}{w w':World}{F F':Nat->Prop}{v:AV}{c:Value}(h:Rv num ρ w F v c)(ht:v.flat=true) :
  Rv num ρ' w' F' v c:=by
 induction h with
 |top c=>exact .top c
 |bool b=>exact .bool b
 |int k n=>exact .int k n
 |str s=>exact .str s
 |nilp=>exact .nilp
 |nilm=>exact .nilm
 |nilf=>exact .nilf
 |nili=>exact .nili
 |agg cs vs hl _ ih=>exact .agg cs vs hl (λi x y hx hy=>ih i x y hx hy (flatL_get (by simpa[AV.flat] using ht) i x hx))
 |tup cs vs hl _ ih=>exact .tup cs vs hl (λi x y hx hy=>ih i x y hx hy (flatL_get (by simpa[AV.flat] using ht) i x hx))
 |nsl cl=>exact .nsl cl
 |sl es cl b off cap sz c hc hcl hF' hz hm _ sp hsp ih=>
  have:es=[]:=by simpa[AV.flat] using ht
  subst this;exact .sl [] cl b off cap sz c hc hcl (λh=>absurd rfl h) hz (by simp) (λi e j x he=>by simp at he) sp hsp
 |fp=>simp[AV.flat]at ht
 |rf=>simp[AV.flat]at ht
 |pt=>simp[AV.flat]at ht
 |mp=>simp[AV.flat]at ht
 |yl=>simp[AV.flat]at ht
 |fn f cs vs hl _ ih=>exact .fn f cs vs hl (λi x y hx hy=>ih i x y hx hy (flatL_get (by simpa[AV.flat] using ht) i x hx))
 |ifc v t c _ ih=>exact .ifc v t c (ih (by simpa[AV.flat] using ht))
 |ift t v c _ ih=>exact .ift t v c (ih (by simpa[AV.flat] using ht))
 |fnm t v c _ ih=>exact .fnm t v c (ih (by simpa[AV.flat] using ht))
where
 flatL_get:∀{l:List AV},DA l=true->∀(i:Nat)(x:AV),l[i]?=some x->x.flat=true:=by
  intro l
  induction l with
  |nil=>intro _ i x h;simp at h
  |cons y r ih=>
   intro h i x hx;simp only[DA,aD]at h;cases i with
   |zero=>simp at hx;exact hx ▸ h.1
   |succ i=>exact ih h.2 i x (by simpa using hx)
theorem Rv.F_mono{num:Nm}{ρ : Rho}{w:World}{F F':Nat->Prop}{v:AV}{c:Value}(h:Rv num ρ w F v c)(hF:∀b,F' b->F b):Rv num ρ w F' v c:=by
 induction h with
 |top c=>exact .top c
 |bool b=>exact .bool b
 |int k n=>exact .int k n
 |str s=>exact .str s
 |nilp=>exact .nilp
 |nilm=>exact .nilm
 |nilf=>exact .nilf
 |nili=>exact .nili
 |agg cs vs hl _ ih=>exact .agg cs vs hl ih
 |tup cs vs hl _ ih=>exact .tup cs vs hl ih
 |nsl cl=>exact .nsl cl
 |sl es cl b off cap sz c hc hcl hF' hz hm _ sp hsp ih=>exact .sl es cl b off cap sz c hc hcl (λhne=>⟨λh=>(hF' hne).1 (hF b h),(hF' hne).2⟩) hz hm ih sp hsp
 |fp v b off c hF' hb hm _ ih=>exact .fp v b off c (λh=>hF' (hF b h)) hb hm ih
 |rf k e off len cap cap' L hL hlen hcap ht hroom=>exact .rf k e off len cap cap' L hL hlen hcap ht hroom
 |pt k e off L hL=>exact .pt k e off L hL
 |mp k e L hL=>exact .mp k e L hL
 |yl k e L hL=>exact .yl k e L hL
 |fn f cs vs hl _ ih=>exact .fn f cs vs hl ih
 |ifc v t c _ ih=>exact .ifc v t c ih
 |ift t v c _ ih=>exact .ift t v c ih
 |fnm t v c _ ih=>exact .fnm t v c ih
section
variable{num:Nm}{ρ : Rho}{w:World}{F:Nat->Prop}
theorem Rv.of_int{k:IntKind}{n:Int}{c:Value}(hh:Rv num ρ w F (.int k n) c):c = .int k n:=by cases hh;rfl
theorem Rv.of_bool{b:Bool}{c:Value}(hh:Rv num ρ w F (.bool b) c):c = .bool b:=by cases hh;rfl
theorem Rv.of_str{s:List UInt8}{c:Value}(hh:Rv num ρ w F (.str s) c):c = .string ⟨s.toArray⟩:=by cases hh;rfl
theorem Rv.of_nilp{c:Value}(hh:Rv num ρ w F .nilp c):c = .pointer none:=by cases hh;rfl
theorem Rv.of_nilm{c:Value}(hh:Rv num ρ w F .nilm c):c = .map none:=by cases hh;rfl
theorem Rv.of_nilf{c:Value}(hh:Rv num ρ w F .nilf c):c = .nilFunc:=by cases hh;rfl
theorem Rv.of_nili{c:Value}(hh:Rv num ρ w F .nili c):c = .nilIface:=by cases hh;rfl
theorem Rv.of_agg{cs:List AV}{c:Value}(hh:Rv num ρ w F (.agg cs) c) :
  ∃vs:Array Value,c = .agg vs/\cs.length=vs.size/\∀(i:Nat)(x:AV)(y:Value),cs[i]?=some x->vs[i]?=some y->Rv num ρ w F x y:=by
 cases hh with|agg _ vs hl h=>exact⟨vs,rfl,hl,h⟩
theorem Rv.of_tup{cs:List AV}{c:Value}(hh:Rv num ρ w F (.tup cs) c) :
  ∃vs:Array Value,c = .tuple vs/\cs.length=vs.size/\∀(i:Nat)(x:AV)(y:Value),cs[i]?=some x->vs[i]?=some y->Rv num ρ w F x y:=by
 cases hh with|tup _ vs hl h=>exact⟨vs,rfl,hl,h⟩
theorem Rv.of_fn{f:Nat}{cs:List AV}{c:Value}(hh:Rv num ρ w F (.fn f cs) c) :
  ∃vs:Array Value,c = .func (.func (num f)) #[] vs/\cs.length=vs.size/\∀(i:Nat)(x:AV)(y:Value),cs[i]?=some x->vs[i]?=some y->Rv num ρ w F x y:=by
 cases hh with|fn _ _ vs hl h=>exact⟨vs,rfl,hl,h⟩
theorem Rv.of_nsl{es:List AV}{cl:Bool}{c:Value}(hh:Rv num ρ w F (.sl true es cl) c):es=[]/\c = .slice none 0 0:=by cases hh;exact⟨rfl,rfl⟩
theorem Rv.of_sl{es:List AV}{cl:Bool}{c:Value}(hh:Rv num ρ w F (.sl false es cl) c) :
  ∃(b off cap sz:Nat)(m:Nat->Value)(sp:Option Nat),c = .slice (some ⟨b,off,sp⟩) es.length cap/\(es≠[]->sp=none)/\es.length<=cap/\(cl=true->cap=es.length) /\
   (es≠[]->¬F b/\b<w.heap.size)/\(∀(i:Nat)(e:AV),es[i]?=some e->e.cells.length=sz) /\
   (∀n,n<es.length*sz->w.cell? ⟨b,off+n,none⟩=some (m n)) /\
   (∀(i:Nat)(e:AV)(j:Nat)(x:AV),es[i]?=some e->e.cells[j]?=some x->Rv num ρ w F x (m (i*sz+j))):=by
 cases hh with|sl _ _ b off cap sz m hc hcl hF hz hm hr sp hsp=>exact⟨b,off,cap,sz,m,sp,rfl,hsp,hc,hcl,hF,hz,hm,hr⟩
theorem Rv.of_fp{v:AV}{c:Value}(hh:Rv num ρ w F (.fp v) c) :
  ∃(b off:Nat)(m:Nat->Value),c = .pointer (some ⟨b,off,none⟩)/\¬F b/\b<w.heap.size /\
   (∀n,n<v.cells.length->w.cell? ⟨b,off+n,none⟩=some (m n))/\(∀(j:Nat)(x:AV),v.cells[j]?=some x->Rv num ρ w F x (m j)):=by
 cases hh with|fp _ b off m hF hb hm hr=>exact⟨b,off,m,rfl,hF,hb,hm,hr⟩
theorem Rv.of_rf{k e off len cap:Nat}{c:Value}(hh:Rv num ρ w F (.rf k e off len cap) c) :
  ∃(cap':Nat)(L:Loc),c = .slice (some ⟨L.b,L.base+off,none⟩) len cap' /\ ρ k e=some L/\len<=cap/\cap<=cap'/\(L.tight=true->cap'=cap)/\off+cap'*L.esz<=L.room:=by
 cases hh with|rf _ _ _ _ _ cap' L hL hlen hcap ht hroom=>exact⟨cap',L,rfl,hL,hlen,hcap,ht,hroom⟩
theorem Rv.of_pt{k e off:Nat}{c:Value}(hh:Rv num ρ w F (.pt k e off) c):∃L,c = .pointer (some ⟨L.b,L.base+off,none⟩) /\ ρ k e=some L:=by cases hh with|pt _ _ _ L hL=>exact⟨L,rfl,hL⟩
theorem Rv.of_mp{k e:Nat}{c:Value}(hh:Rv num ρ w F (.mp k e) c):∃L,c = .map (some L.b) /\ ρ k e=some L:=by cases hh with|mp _ _ L hL=>exact⟨L,rfl,hL⟩
theorem Rv.of_yl{k e:Nat}{c:Value}(hh:Rv num ρ w F (.yl k e) c):∃L,c = .func (.yield L.b) #[] #[] /\ ρ k e=some L:=by cases hh with|yl _ _ L hL=>exact⟨L,rfl,hL⟩
theorem Rv.of_fnm{t:Nat}{v:AV}{c:Value}(hh:Rv num ρ w F (.fnm t v) c):∃c',c = .func (.func (num t)) #[c'] #[]/\Rv num ρ w F v c':=by cases hh with|fnm _ _ c' h=>exact⟨c',rfl,h⟩
theorem Rv.of_ift{t:Nat}{v:AV}{c:Value}(hh:Rv num ρ w F (.ift t v) c):∃c',c = .iface (num t) c'/\Rv num ρ w F v c':=by cases hh with|ift _ _ c' h=>exact⟨c',rfl,h⟩
theorem Rv.of_ifc{v:AV}{c:Value}(hh:Rv num ρ w F (.ifc v) c):∃t c',c = .iface t c'/\Rv num ρ w F v c':=by cases hh with|ifc _ t c' h=>exact⟨t,c',rfl,h⟩
end
def Ob.live:Ob->Bool
 |.blk _ _ _ _ false|.mpo ..|.lp ..|.itr .. => true
 |_=>false
def UJ(st:Nat)(r:Loop):Prop:=
 (st=0/\r.state = .ready/\r.pending=none)\/(st=1/\r.state = .busy/\r.pending=none)\/(st=3/\r.state = .done/\r.pending=some .ret)\/∃i,st=4+i/\r.state = .done/\r.pending=some (.exit i)
structure HpR(num:Nm)(Fb:Nat->Prop)(B0:Nat)(ρ : Rho)(w:World)(O:Nat->Prop)(h:Hp):Prop where
 blk:∀k e cs esz ag ti fz,h.get k=some (e,.blk cs esz ag ti fz)->∃(L:Loc)(c:Array Value)(T:TypeId),ρ k e=some L/\L.tight=ti/\L.esz=esz /\
  w.heap[L.b]?=some (.cells c T (0,0))/\L.base+L.room<=c.size/\cs.length<=L.room /\
  (∀(i:Nat)(x:AV),cs[i]?=some x->∃y,c[L.base+i]?=some y/\Rv num ρ w (λb=>Fb b\/O b) x y)/\B0<=L.b/\(fz=false->O L.b)/\(fz=true->¬O L.b)
 mpo:∀k e es bs ck,h.get k=some (e,.mpo es bs ck)->∃(L:Loc)(c:Array MapEntry)(clock:Nat),ρ k e=some L/\w.heap[L.b]?=some (.map c clock)/\(es.length=c.size/\clock=ck/\c.toList.map MapEntry.born=bs) /\
  (∀(i:Nat)(x:AV×AV)(y:MapEntry),es[i]?=some x->c[i]?=some y->Rv num ρ w (λb=>Fb b\/O b) x.1 y.key/\Rv num ρ w (λb=>Fb b\/O b) x.2 y.val/\x.1.key=true/\x.2.fits x.2.cells.length x.2.isAgg=true) /\
  B0<=L.b/\O L.b
 lpo:∀k e st b env ps ca cb,h.get k=some (e,.lp st b env ps ca cb)->∃(L:Loc)(r:Loop),ρ k e=some L/\w.heap[L.b]?=some (.loop r)/\num.lk ps ca cb r/\UJ st r/\env.length=r.tmps.size /\
  (∀(i:Nat)(x:AV)(y:Value),env[i]?=some x->r.tmps[i]?=some y->Rv num ρ w (λb=>Fb b\/O b) x y)/\B0<=L.b/\O L.b
 ito:∀k e mk me since seen last,h.get k=some (e,.itr mk me since seen last)->∃(L Lm:Loc),ρ k e=some L /\ ρ mk me=some Lm/\w.heap[L.b]?=some (.mapIter (some Lm.b) since seen.toArray last)/\L.base=0/\B0<=L.b/\O L.b
 inj:∀k k' e e' o o' L L',h.get k=some (e,o)->h.get k'=some (e',o')->o.live=true->o'.live=true -> ρ k e=some L -> ρ k' e'=some L'->L.b=L'.b->k=k'
 ep:∀k e L,ρ k e=some L->∃e' o,h.get k=some (e',o)/\e<=e'
 own:∀b,O b->B0<=b/\b<w.heap.size
 fbl:∀b,Fb b->b<B0
 le:B0<=w.heap.size
theorem aB(h:Hp)(k e:Nat)(o:Ob)(k':Nat):(h.put k e o).get k'=if k=k' then some (e,o) else h.get k':=by
 induction h with
 |nil=>simp[Hp.put,Hp.get]
 |cons x r ih=>simp only[Hp.put];by_cases h1:k<x.k;simp[h1,Hp.get];by_cases h2:x.k=k;simp only[h1,if_false,h2,if_true];by_cases h3:k=k';simp[Hp.get,h3];simp[Hp.get,h3,h2];simp only[h1,h2,if_false,Hp.get,ih];by_cases h3:k=k';subst h3;simp[h2];simp[h3]
theorem TS(h:Hp)(k k' e e':Nat)(o o':Ob)(hne:k≠k'):(h.put k e o).put k' e' o'=(h.put k' e' o').put k e o:=by
 induction h with
 |nil=>simp only[Hp.put];rcases Nat.lt_or_gt_of_ne hne with h1|h1;simp[Nat.not_lt_of_gt h1,h1,hne];simp[Nat.not_lt_of_gt h1,h1,Ne.symm hne]
 |cons x r ih=>
  rcases Nat.lt_or_gt_of_ne hne with hlt|hlt <;>
  rcases Nat.lt_trichotomy k x.k with a|a|a<;>rcases Nat.lt_trichotomy k' x.k with b|b|b<;>(try omega)
  all_goals
   have q1:¬k=k':=hne;have q2:¬k'=k:=λe=>hne e.symm;simp only[Hp.put]
  rw[if_pos a,if_pos b];simp only[Hp.put];rw[if_neg (by omega),if_neg q1,if_pos b,if_pos hlt];rw[if_pos a,if_neg (by omega),if_pos b.symm];simp only[Hp.put];rw[if_neg (by omega),if_neg q1,if_neg (by omega),if_pos b.symm,if_pos hlt];rw[if_pos a,if_neg (by omega),if_neg (by omega)];simp only[Hp.put];rw[if_neg (by omega),if_neg q1,if_neg (by omega),if_neg (by omega),if_pos a];rw[if_neg (by omega),if_pos a.symm,if_neg (by omega),if_neg (by omega)];simp only[Hp.put];rw[if_neg (by omega),if_neg q1,if_neg (by omega),if_pos a.symm];rw[if_neg (by omega),if_neg (by omega),if_neg (by omega),if_neg (by omega)];simp only[Hp.put];rw[if_neg (by omega),if_neg (by omega),if_neg (by omega),if_neg (by omega),ih];rw[if_pos a,if_pos b];simp only[Hp.put];rw[if_pos hlt,if_neg (by omega),if_neg q2,if_pos a];rw[if_neg (by omega),if_pos a.symm,if_pos b];simp only[Hp.put];rw[if_pos hlt,if_neg (by omega),if_neg q2,if_neg (by omega),if_pos a.symm];rw[if_neg (by omega),if_neg (by omega),if_pos b];simp only[Hp.put];rw[if_pos b,if_neg (by omega),if_neg q2,if_neg (by omega),if_neg (by omega)];rw[if_neg (by omega),if_neg (by omega),if_neg (by omega),if_pos b.symm];simp only[Hp.put];rw[if_neg (by omega),if_pos b.symm,if_neg (by omega),if_neg q2];rw[if_neg (by omega),if_neg (by omega),if_neg (by omega),if_neg (by omega)];simp only[Hp.put];rw[if_neg (by omega),if_neg (by omega),if_neg (by omega),if_neg (by omega),ih]
end
section
open Go.RowKit
section
variable{num:Nm}{Fb:Nat->Prop}{B0:Nat}{ρ ρ':Rho}{w w':World}{O O':Nat->Prop}{h:Hp}
def aLR(num:Nm)(Fb:Nat->Prop)(B0:Nat)(ρ : Rho)(w:World)(O:Nat->Prop)(k e:Nat):Ob->Prop
 |.blk cs esz _ ti fz=>∃(L:Loc)(c:Array Value)(T:TypeId),ρ k e=some L/\L.tight=ti/\L.esz=esz /\
  w.heap[L.b]?=some (.cells c T (0,0))/\L.base+L.room<=c.size/\cs.length<=L.room /\
  (∀(i:Nat)(x:AV),cs[i]?=some x->∃y,c[L.base+i]?=some y/\Rv num ρ w (λb=>Fb b\/O b) x y)/\B0<=L.b/\(fz=false->O L.b)/\(fz=true->¬O L.b)
 |.mpo es bs ck=>∃(L:Loc)(c:Array MapEntry)(clock:Nat),ρ k e=some L/\w.heap[L.b]?=some (.map c clock)/\(es.length=c.size/\clock=ck/\c.toList.map MapEntry.born=bs) /\
  (∀(i:Nat)(x:AV×AV)(y:MapEntry),es[i]?=some x->c[i]?=some y->Rv num ρ w (λb=>Fb b\/O b) x.1 y.key/\Rv num ρ w (λb=>Fb b\/O b) x.2 y.val/\x.1.key=true/\x.2.fits x.2.cells.length x.2.isAgg=true) /\
  B0<=L.b/\O L.b
 |.lp st _ env ps ca cb=>∃(L:Loc)(r:Loop),ρ k e=some L/\w.heap[L.b]?=some (.loop r)/\num.lk ps ca cb r/\UJ st r/\env.length=r.tmps.size /\
  (∀(i:Nat)(x:AV)(y:Value),env[i]?=some x->r.tmps[i]?=some y->Rv num ρ w (λb=>Fb b\/O b) x y)/\B0<=L.b/\O L.b
 |.itr mk me since seen last=>∃(L Lm:Loc),ρ k e=some L /\ ρ mk me=some Lm/\w.heap[L.b]?=some (.mapIter (some Lm.b) since seen.toArray last)/\L.base=0/\B0<=L.b/\O L.b
 |.dead=>True
theorem HpR.put{k e:Nat}{o:Ob}(H:HpR num Fb B0 ρ w O h)(ev:Evo ρ w O ρ' w' O')
  (hρ : ∀k' e' L,ρ' k' e'=some L -> ρ k' e'=some L\/(k'=k/\e'=e))
  (he:∀e0 o0,h.get k=some (e0,o0)->e0<=e)
  (hown:∀b,O' b->B0<=b/\b<w'.heap.size)
  (hoth:∀k' e' o' L,k' ≠ k->h.get k'=some (e',o')->o' ≠ .dead -> ρ k' e'=some L->w'.heap[L.b]?=w.heap[L.b]?/\(O L.b->O' L.b))
  (hnew:aLR num Fb B0 ρ' w' O' k e o)
  (hinj:o.live=true->∀k' e' o' L L',k' ≠ k->h.get k'=some (e',o')->o'.live=true -> ρ k' e'=some L' -> ρ' k e=some L->L.b≠L'.b) :
  HpR num Fb B0 ρ' w' O' (h.put k e o) where
 blk:=by intro k' e' cs esz ag ti fz hg;rw[aB]at hg;by_cases hk:k=k';subst hk;simp only[if_true,aU,bA]at hg;obtain⟨rfl,rfl⟩:=hg;exact hnew;simp only[hk,if_false]at hg;obtain⟨L,c,T,h1,h2,h3,h4,h5,h6,h7,h8,h9,h10⟩:=H.blk _ _ _ _ _ _ _ hg;obtain⟨a1,a2⟩:=hoth k' e' _ L (λe=>hk e.symm) hg (by simp) h1;refine⟨L,c,T,ev.rho _ _ _ h1,h2,h3,a1.trans h4,h5,h6,?_,h8,λhz=>a2 (h9 hz),λhz hO=>h10 hz (ev.own _ ?_ hO)⟩;intro i x hx;obtain⟨y,hy,hr⟩:=h7 i x hx;exact⟨y,hy,hr.evo ev⟩;by_cases hlt:L.b<w.heap.size;exact hlt;simp[Array.getElem?_eq_none (Nat.le_of_not_lt hlt)]at h4
 mpo:=by intro k' e' es bs ck hg;rw[aB]at hg;by_cases hk:k=k';subst hk;simp only[if_true,aU,bA]at hg;obtain⟨rfl,rfl⟩:=hg;exact hnew;simp only[hk,if_false]at hg;obtain⟨L,c,T,h1,h2,h3,h4,h5,h6⟩:=H.mpo _ _ _ _ _ hg;obtain⟨a1,a2⟩:=hoth k' e' _ L (λe=>hk e.symm) hg (by simp) h1;refine⟨L,c,T,ev.rho _ _ _ h1,a1.trans h2,h3,?_,h5,a2 h6⟩;intro i x y hx hy;obtain⟨b1,b2,b3⟩:=h4 i x y hx hy;exact⟨b1.evo ev,b2.evo ev,b3⟩
 lpo:=by intro k' e' st b env ps ca cb hg;rw[aB]at hg;by_cases hk:k=k';subst hk;simp only[if_true,aU,bA]at hg;obtain⟨rfl,rfl⟩:=hg;exact hnew;simp only[hk,if_false]at hg;obtain⟨L,r,h1,h2,h3,h4,h5,h6,h7,h8⟩:=H.lpo _ _ _ _ _ _ _ _ hg;obtain⟨a1,a2⟩:=hoth k' e' _ L (λe=>hk e.symm) hg (by simp) h1;exact⟨L,r,ev.rho _ _ _ h1,a1.trans h2,h3,h4,h5,λi x y hx hy=>(h6 i x y hx hy).evo ev,h7,a2 h8⟩
 ito:=by intro k' e' mk me since seen last hg;rw[aB]at hg;by_cases hk:k=k';subst hk;simp only[if_true,aU,bA]at hg;obtain⟨rfl,rfl⟩:=hg;exact hnew;simp only[hk,if_false]at hg;obtain⟨L,Lm,h1,h2,h3,h4,h5,h6⟩:=H.ito _ _ _ _ _ _ _ hg;obtain⟨a1,a2⟩:=hoth k' e' _ L (λe=>hk e.symm) hg (by simp) h1;exact⟨L,Lm,ev.rho _ _ _ h1,ev.rho _ _ _ h2,a1.trans h3,h4,h5,a2 h6⟩
 inj:=by intro k1 k2 e1 e2 o1 o2 L1 L2 g1 g2 l1 l2 r1 r2 hb;rw[aB]at g1 g2;by_cases hk1:k=k1;by_cases hk2:k=k2;exact hk1.symm.trans hk2;simp only[hk1,if_true,aU,bA]at g1;simp only[hk2,if_false]at g2;obtain⟨rfl,rfl⟩:=g1;have r2':=(hρ _ _ _ r2).resolve_right (λa=>hk2 a.1.symm);exact absurd hb (hinj l1 k2 e2 o2 L1 L2 (λa=>hk2 a.symm) g2 l2 r2' (by rw[hk1];exact r1));simp only[hk1,if_false]at g1;have r1':=(hρ _ _ _ r1).resolve_right (λa=>hk1 a.1.symm);by_cases hk2:k=k2;simp only[hk2,if_true,aU,bA]at g2;obtain⟨rfl,rfl⟩:=g2;exact absurd hb.symm (hinj l2 k1 e1 o1 L2 L1 (λa=>hk1 a.symm) g1 l1 r1' (by rw[hk2];exact r2));simp only[hk2,if_false]at g2;exact H.inj k1 k2 e1 e2 o1 o2 L1 L2 g1 g2 l1 l2 r1' ((hρ _ _ _ r2).resolve_right (λa=>hk2 a.1.symm)) hb
 ep:=by
  intro k' e' L hL;rw[aB];rcases hρ _ _ _ hL with h1|⟨rfl,rfl⟩
  obtain⟨e'',o'',g,hle⟩:=H.ep _ _ _ h1;by_cases hk:k=k';subst hk;exact⟨e,o,by simp,Nat.le_trans hle (he _ _ g)⟩;exact⟨e'',o'',by simp[hk,g],hle⟩;exact⟨e',o,by simp,Nat.le_refl _⟩
 own:=hown
 fbl:=H.fbl
 le:=Nat.le_trans H.le ev.size
theorem HpR.same(H:HpR num Fb B0 ρ w O h)(ev:Evo ρ w O ρ w' O)(hh:∀b,O b->w'.heap[b]?=w.heap[b]?):HpR num Fb B0 ρ w' O h where
 blk:=by
  intro k' e' cs esz ag ti fz hg;obtain⟨L,c,T,h1,h2,h3,h4,h5,h6,h7,h8,h9,h10⟩:=H.blk _ _ _ _ _ _ _ hg;have hb:L.b<w.heap.size:=by by_cases hlt:L.b<w.heap.size;exact hlt;simp[Array.getElem?_eq_none (Nat.le_of_not_lt hlt)]at h4
  refine⟨L,c,T,h1,h2,h3,?_,h5,h6,?_,h8,h9,h10⟩;by_cases hO:O L.b;exact(hh _ hO).trans h4;exact(ev.keep _ hb hO).trans h4;intro i x hx;obtain⟨y,hy,hr⟩:=h7 i x hx;exact⟨y,hy,hr.evo ev⟩
 mpo:=by intro k' e' es bs ck hg;obtain⟨L,c,T,h1,h2,h3,h4,h5,h6⟩:=H.mpo _ _ _ _ _ hg;refine⟨L,c,T,h1,(hh _ h6).trans h2,h3,?_,h5,h6⟩;intro i x y hx hy;obtain⟨b1,b2,b3⟩:=h4 i x y hx hy;exact⟨b1.evo ev,b2.evo ev,b3⟩
 lpo:=by intro k' e' st b env ps ca cb hg;obtain⟨L,r,h1,h2,h3,h4,h5,h6,h7,h8⟩:=H.lpo _ _ _ _ _ _ _ _ hg;exact⟨L,r,h1,(hh _ h8).trans h2,h3,h4,h5,λi x y hx hy=>(h6 i x y hx hy).evo ev,h7,h8⟩
 ito:=by intro k' e' mk me since seen last hg;obtain⟨L,Lm,h1,h2,h3,h4,h5,h6⟩:=H.ito _ _ _ _ _ _ _ hg;exact⟨L,Lm,h1,h2,(hh _ h6).trans h3,h4,h5,h6⟩
 inj:=H.inj
 ep:=H.ep
 own:=λb hO=>⟨(H.own b hO).1,Nat.lt_of_lt_of_le (H.own b hO).2 ev.size⟩
 fbl:=H.fbl
 le:=Nat.le_trans H.le ev.size
def Rho.set(ρ : Rho)(k e:Nat)(L:Loc):Rho:=λk' e'=>if k'=k/\e'=e then some L else ρ k' e'
theorem Rho.set_same(ρ : Rho)(k e:Nat)(L:Loc) : ρ.set k e L k e=some L:=by simp[Rho.set]
theorem kS(H:HpR num Fb B0 ρ w O h)(k:Nat) : ρ k (h.next k)=none:=by
 cases hr : ρ k (h.next k) with
 |none=>rfl
 |some L=>obtain⟨e',o,g,hle⟩:=H.ep _ _ _ hr;simp[Hp.next,g]at hle;omega
theorem oN(h:Hp)(k:Nat):∀e0 o0,h.get k=some (e0,o0)->e0<=h.next k:=by intro e0 o0 g;simp[Hp.next,g]
theorem Rho.set_keeps{k e:Nat}{L:Loc}(hf : ρ k e=none):∀k' e' L',ρ k' e'=some L' -> ρ.set k e L k' e'=some L':=by intro k' e' L' hL;unfold Rho.set;split;rename_i hc;obtain⟨rfl,rfl⟩:=hc;simp[hf]at hL;exact hL
structure jL(w w':World)(o:Obj):Prop where
 os:w'.os=w.os
 tape:w'.tape=w.tape
 output:w'.output=w.output
 heap:w'.heap=w.heap.push o
theorem jL.old{o:Obj}(hp:jL w w' o){b:Nat}(hb:b<w.heap.size):w'.heap[b]?=w.heap[b]?:=by rw[hp.heap,Array.getElem?_push,if_neg (by omega)]
theorem jL.new{o:Obj}(hp:jL w w' o):w'.heap[w.heap.size]?=some o:=by rw[hp.heap];simp
theorem jL.size{o:Obj}(hp:jL w w' o):w'.heap.size=w.heap.size+1:=by rw[hp.heap];simp
theorem HpR.loc_lt{k e:Nat}{o:Ob}{L:Loc}(H:HpR num Fb B0 ρ w O h)(hg:h.get k=some (e,o))(hd:o ≠ .dead)(hL : ρ k e=some L):L.b<w.heap.size:=by
 have key:∀x:Obj,w.heap[L.b]?=some x->L.b<w.heap.size:=by intro x hx;by_cases hlt:L.b<w.heap.size;exact hlt;simp[Array.getElem?_eq_none (Nat.le_of_not_lt hlt)]at hx
 cases o with
 |dead=>exact absurd rfl hd
 |blk=>
  obtain⟨L',c',T',h1,_,_,h4,_⟩:=H.blk _ _ _ _ _ _ _ hg;obtain rfl:L'=L:=by rw[h1]at hL;exact Option.some.inj hL
  exact key _ h4
 |mpo=>
  obtain⟨L',c',T',h1,h4,_⟩:=H.mpo _ _ _ _ _ hg;obtain rfl:L'=L:=by rw[h1]at hL;exact Option.some.inj hL
  exact key _ h4
 |itr=>
  obtain⟨L',_,h1,_,h4,_⟩:=H.ito _ _ _ _ _ _ _ hg;obtain rfl:L'=L:=by rw[h1]at hL;exact Option.some.inj hL
  exact key _ h4
 |lp=>
  obtain⟨L',r',h1,h4,_⟩:=H.lpo _ _ _ _ _ _ _ _ hg;obtain rfl:L'=L:=by rw[h1]at hL;exact Option.some.inj hL
  exact key _ h4
theorem HpR.new{k:Nat}{cs:List AV}{esz:Nat}{ag ti:Bool}{c:Array Value}{T:TypeId}(room:Nat)(H:HpR num Fb B0 ρ w O h)(hp:jL w w' (.cells c T (0,0)))
  (hroom:room<=c.size) (hlen:cs.length<=room) (hc:∀(i:Nat)(x:AV),cs[i]?=some x->∃y,c[i]?=some y/\Rv num ρ w (λb=>Fb b\/O b) x y) :
  Evo ρ w O (ρ.set k (h.next k) ⟨w.heap.size,0,room,ti,esz,λ_=>rfl⟩) w' (λb=>O b\/b=w.heap.size) /\
  HpR num Fb B0 (ρ.set k (h.next k) ⟨w.heap.size,0,room,ti,esz,λ_=>rfl⟩) w' (λb=>O b\/b=w.heap.size) (h.put k (h.next k) (.blk cs esz ag ti false)):=by
 have hf:=kS H k
 have ev:Evo ρ w O (ρ.set k (h.next k) ⟨w.heap.size,0,room,ti,esz,λ_=>rfl⟩) w' (λb=>O b\/b=w.heap.size):=
  {os:=hp.os,tape:=hp.tape,output:=hp.output,size:=by rw[hp.size];omega,
   keep:=λb hb _=>hp.old hb,own:=λb hb hO=>hO.elim id (λe=>by omega),rho:=Rho.set_keeps hf}
 refine⟨ev,H.put ev ?_ (oN h k) ?_ ?_ ?_ ?_⟩;intro k' e' L hL;unfold Rho.set at hL;split at hL;rename_i hc;exact .inr hc;exact .inl hL;intro b hO;rw[hp.size];rcases hO with hO|rfl;exact⟨(H.own b hO).1,Nat.lt_of_lt_of_le (H.own b hO).2 (by omega)⟩;exact⟨H.le,by omega⟩;intro k' e' o' L hk hg hd hL;exact⟨hp.old (H.loc_lt hg hd hL),.inl⟩;refine⟨_,c,T,Rho.set_same _ _ _ _,rfl,rfl,hp.new,by simpa using hroom,hlen,?_,H.le,λ_ => .inr rfl,λh=>by cases h⟩;intro i x hx;obtain⟨y,hy,hr⟩:=hc i x hx;exact⟨y,by simpa using hy,hr.evo ev⟩;intro _ k' e' o' L L' hk hg hl hL' hL hb;rw[Rho.set_same]at hL;cases hL;have:=H.loc_lt hg (by intro e;subst e;cases hl) hL';simp at hb;omega
structure fH(w w':World)(b:Nat)(o:Obj):Prop where
 os:w'.os=w.os
 tape:w'.tape=w.tape
 output:w'.output=w.output
 size:w'.heap.size=w.heap.size
 here:w'.heap[b]?=some o
 other:∀k,k≠b->w'.heap[k]?=w.heap[k]?
theorem fH.evo{o:Obj}{b:Nat}(ht:fH w w' b o)(hO:O b):Evo ρ w O ρ w' O where
 os:=ht.os
 tape:=ht.tape
 output:=ht.output
 size:=by rw[ht.size];exact Nat.le_refl _
 keep:=λk _ hk=>ht.other k (λe=>hk (e ▸ hO))
 own:=λ_ _ h=>h
 rho:=λ_ _ _ h=>h
theorem iP(H:HpR num Fb B0 ρ w O h){k k' e e':Nat}{o o':Ob}{L L':Loc}(hg:h.get k=some (e,o))(hl:o.live=true)(hL : ρ k e=some L)
  (hk:k' ≠ k) (hg':h.get k'=some (e',o')) (hd:o' ≠ .dead) (hL' : ρ k' e'=some L'):L'.b≠L.b:=by
 intro hb;by_cases hl':o'.live=true;exact hk (H.inj _ _ _ _ _ _ _ _ hg' hg hl' hl hL' hL hb);cases o' with
 |dead=>exact hd rfl
 |mpo=>simp[Ob.live]at hl'
 |lp=>simp[Ob.live]at hl'
 |itr=>simp[Ob.live]at hl'
 |blk cs esz ag ti fz=>
  cases fz with
  |false=>simp[Ob.live]at hl'
  |true=>
   obtain⟨L1,c1,T1,h1,_,_,_,_,_,_,_,_,h10⟩:=H.blk _ _ _ _ _ _ _ hg';rw[h1]at hL';cases hL';have:O L.b:=by
    cases o with
    |dead=>simp[Ob.live]at hl
    |mpo=>obtain⟨L2,c2,T2,r1,_,_,_,_,r6⟩:=H.mpo _ _ _ _ _ hg;rw[r1]at hL;cases hL;exact r6
    |itr=>obtain⟨L2,c2,r1,_,_,_,_,r6⟩:=H.ito _ _ _ _ _ _ _ hg;rw[r1]at hL;cases hL;exact r6
    |lp=>obtain⟨L2,c2,r1,_,_,_,_,_,_,r6⟩:=H.lpo _ _ _ _ _ _ _ _ hg;rw[r1]at hL;cases hL;exact r6
    |blk cs' esz' ag' ti' fz'=>
     cases fz' with
     |true=>simp[Ob.live]at hl
     |false=>obtain⟨L2,c2,T2,r1,_,_,_,_,_,_,_,r9,_⟩:=H.blk _ _ _ _ _ _ _ hg;rw[r1]at hL;cases hL;exact r9 rfl
   exact h10 rfl (hb ▸ this)
theorem HpR.write{k e:Nat}{cs cs':List AV}{esz:Nat}{ag ti:Bool}{L:Loc}{c':Array Value}{T:TypeId}(H:HpR num Fb B0 ρ w O h)
  (hg:h.get k=some (e,.blk cs esz ag ti false)) (hL : ρ k e=some L) (ht:fH w w' L.b (.cells c' T (0,0)))
  (hsz:L.base+L.room<=c'.size) (hlen:cs'.length<=L.room)
  (hc:∀(i:Nat)(x:AV),cs'[i]?=some x->∃y,c'[L.base+i]?=some y/\Rv num ρ w (λb=>Fb b\/O b) x y) :
  Evo ρ w O ρ w' O/\HpR num Fb B0 ρ w' O (h.put k e (.blk cs' esz ag ti false)):=by
 obtain⟨L0,c,T0,h1,h2,h3,h4,h5,h6,h7,h8,h9,h10⟩:=H.blk _ _ _ _ _ _ _ hg;rw[h1]at hL;cases hL;have ev:Evo ρ w O ρ w' O:=ht.evo (h9 rfl);refine⟨ev,H.put ev (λ_ _ _ h => .inl h) (λe0 o0 g=>by rw[hg]at g;cases g;exact Nat.le_refl _) ?_ ?_ ?_ ?_⟩;intro b hO;rw[ht.size];exact H.own b hO;intro k' e' o' L' hk hg' hd hL';exact⟨ht.other _ (iP H hg rfl h1 hk hg' hd hL'),id⟩;refine⟨L,c',T,h1,h2,h3,ht.here,hsz,hlen,?_,h8,h9,h10⟩;intro i x hx;obtain⟨y,hy,hr⟩:=hc i x hx;exact⟨y,hy,hr.evo ev⟩;intro _ k' e' o' L1 L2 hk hg' hl hL' hL1 hb;rw[h1]at hL1;cases hL1;exact iP H hg rfl h1 hk hg' (by intro e;subst e;cases hl) hL' hb.symm
theorem HpR.kill{k e:Nat}{o:Ob}(H:HpR num Fb B0 ρ w O h)(hg:h.get k=some (e,o)):HpR num Fb B0 ρ w O (h.put k e .dead):=
 H.put (Evo.refl ρ w O) (λ_ _ _ h => .inl h) (λe0 o0 g=>by rw[hg]at g;cases g;exact Nat.le_refl _) H.own (λ_ _ _ _ _ _ _ _=>⟨rfl,id⟩) trivial (λh=>by cases h)
theorem HpR.freeze{k e:Nat}{cs:List AV}{esz:Nat}{ag ti:Bool}{L:Loc}(H:HpR num Fb B0 ρ w O h)
  (hg:h.get k=some (e,.blk cs esz ag ti false)) (hL : ρ k e=some L) :
  Evo ρ w O ρ w (λb=>O b/\b≠L.b)/\HpR num Fb B0 ρ w (λb=>O b/\b≠L.b) (h.put k e (.blk cs esz ag ti true)):=by
 obtain⟨L0,c,T0,h1,h2,h3,h4,h5,h6,h7,h8,h9,h10⟩:=H.blk _ _ _ _ _ _ _ hg;rw[h1]at hL;cases hL;have ev:Evo ρ w O ρ w (λb=>O b/\b≠L.b):=⟨rfl,rfl,rfl,Nat.le_refl _,λ_ _ _=>rfl,λ_ _ h=>h.1,λ_ _ _ h=>h⟩
 refine⟨ev,H.put ev (λ_ _ _ h => .inl h) (λe0 o0 g=>by rw[hg]at g;cases g;exact Nat.le_refl _) (λb hO=>H.own b hO.1) ?_ ?_ (λh=>by cases h)⟩;intro k' e' o' L' hk hg' hd hL';exact⟨rfl,λhO=>⟨hO,iP H hg rfl h1 hk hg' hd hL'⟩⟩;refine⟨L,c,T0,h1,h2,h3,h4,h5,h6,?_,h8,(λh=>by cases h),λ_ h=>h.2 rfl⟩;intro i x hx;obtain⟨y,hy,hr⟩:=h7 i x hx;exact⟨y,hy,hr.evo ev⟩
theorem HpR.move{k k0 e off:Nat}{cs cs':List AV}{esz:Nat}{ag ag' ti:Bool}{L:Loc}{c':Array Value}{T:TypeId}(H:HpR num Fb B0 ρ w O h)
  (hg:h.get k=some (e,.blk cs esz ag ti false)) (hL : ρ k e=some L) (ht:fH w w' L.b (.cells c' T (0,0)))
  (hsz:L.base+L.room<=c'.size) (hoff:off<=L.room) (hlen:cs'.length<=L.room-off)
  (hc:∀(i:Nat)(x:AV),cs'[i]?=some x->∃y,c'[L.base+off+i]?=some y/\Rv num ρ w (λb=>Fb b\/O b) x y) (h':Hp)
  (hh:h'=if k=k0 then h else h.put k e .dead) (e0:Nat) (he0:e0=h.next k0) :
  Evo ρ w O (ρ.set k0 e0 ⟨L.b,L.base+off,L.room-off,false,esz,λh=>nomatch h⟩) w' O /\
  HpR num Fb B0 (ρ.set k0 e0 ⟨L.b,L.base+off,L.room-off,false,esz,λh=>nomatch h⟩) w' O (h'.put k0 e0 (.blk cs' esz ag' false false)):=by
 obtain⟨L0,c,T0,h1,h2,h3,h4,h5,h6,h7,h8,h9,h10⟩:=H.blk _ _ _ _ _ _ _ hg;rw[h1]at hL;cases hL;subst he0;have hf:=kS H k0;have H':HpR num Fb B0 ρ w O h':=by rw[hh];split;exact H;exact H.kill hg
 have hget:∀k',k' ≠ k0->∀e' o',h'.get k'=some (e',o')->o' ≠ .dead->k' ≠ k/\h.get k'=some (e',o'):=by intro k' hk0 e' o' hg' hd;rw[hh]at hg';split at hg';rename_i hkk;exact⟨λe=>hk0 (e.trans hkk),hg'⟩;rw[aB]at hg';by_cases hk:k=k';simp[hk]at hg';exact absurd hg'.2.symm hd;simp[hk]at hg';exact⟨λe=>hk e.symm,hg'⟩
 have hnx:∀e1 o1,h'.get k0=some (e1,o1)->e1<=h.next k0:=by intro e1 o1 hg1;rw[hh]at hg1;split at hg1;exact oN h k0 _ _ hg1;rename_i hkk;rw[aB,if_neg hkk]at hg1;exact oN h k0 _ _ hg1
 have ev:Evo ρ w O (ρ.set k0 (h.next k0) ⟨L.b,L.base+off,L.room-off,false,esz,λh=>nomatch h⟩) w' O:=
  let ev0:=ht.evo (ρ := ρ) (h9 rfl)
  {ev0 with rho:=Rho.set_keeps hf}
 refine⟨ev,H'.put ev ?_ hnx ?_ ?_ ?_ ?_⟩;intro k' e' L' hL';unfold Rho.set at hL';split at hL';rename_i hc;exact .inr hc;exact .inl hL';intro b hO;rw[ht.size];exact H.own b hO;intro k' e' o' L' hk hg' hd hL';obtain⟨a1,a2⟩:=hget k' hk e' o' hg' hd;exact⟨ht.other _ (iP H hg rfl h1 a1 a2 hd hL'),id⟩;refine⟨_,c',T,Rho.set_same _ _ _ _,rfl,rfl,ht.here,by simp;omega,hlen,?_,h8,λ_=>h9 rfl,λh=>by cases h⟩;intro i x hx;obtain⟨y,hy,hr⟩:=hc i x hx;exact⟨y,hy,hr.evo ev⟩;intro _ k' e' o' L1 L2 hk hg' hl hL' hL1 hb;rw[Rho.set_same]at hL1;cases hL1;obtain⟨a1,a2⟩:=hget k' hk e' o' hg' (by intro e;subst e;cases hl);exact iP H hg rfl h1 a1 a2 (by intro e;subst e;cases hl) hL' hb.symm
theorem HpR.newI{k mk me ck:Nat}{Lm:Loc}(H:HpR num Fb B0 ρ w O h)(hm : ρ mk me=some Lm)(hp:jL w w' (.mapIter (some Lm.b) ck #[] ck)) :
  Evo ρ w O (ρ.set k (h.next k) ⟨w.heap.size,0,0,false,0,λ_=>rfl⟩) w' (λb=>O b\/b=w.heap.size) /\
  HpR num Fb B0 (ρ.set k (h.next k) ⟨w.heap.size,0,0,false,0,λ_=>rfl⟩) w' (λb=>O b\/b=w.heap.size) (h.put k (h.next k) (.itr mk me ck [] ck)):=by
 have hf:=kS H k
 have ev:Evo ρ w O (ρ.set k (h.next k) ⟨w.heap.size,0,0,false,0,λ_=>rfl⟩) w' (λb=>O b\/b=w.heap.size):=
  {os:=hp.os,tape:=hp.tape,output:=hp.output,size:=by rw[hp.size];omega,
   keep:=λb hb _=>hp.old hb,own:=λb hb hO=>hO.elim id (λe=>by omega),rho:=Rho.set_keeps hf}
 refine⟨ev,H.put ev ?_ (oN h k) ?_ ?_ ?_ ?_⟩;intro k' e' L hL;unfold Rho.set at hL;split at hL;rename_i hc;exact .inr hc;exact .inl hL;intro b hO;rw[hp.size];rcases hO with hO|rfl;exact⟨(H.own b hO).1,Nat.lt_of_lt_of_le (H.own b hO).2 (by omega)⟩;exact⟨H.le,by omega⟩;intro k' e' o' L hk hg hd hL;exact⟨hp.old (H.loc_lt hg hd hL),.inl⟩;exact⟨_,Lm,Rho.set_same _ _ _ _,ev.rho _ _ _ hm,hp.new,rfl,H.le,.inr rfl⟩;intro _ k' e' o' L L' hk hg hl hL' hL hb;rw[Rho.set_same]at hL;cases hL;have:=H.loc_lt hg (by intro e;subst e;cases hl) hL';simp at hb;omega
theorem HpR.turnI{k e mk me since last last':Nat}{seen seen':List Nat}{L Lm:Loc}(H:HpR num Fb B0 ρ w O h)
  (hg:h.get k=some (e,.itr mk me since seen last)) (hL : ρ k e=some L) (hm : ρ mk me=some Lm) (ht:fH w w' L.b (.mapIter (some Lm.b) since seen'.toArray last')) :
  Evo ρ w O ρ w' O/\HpR num Fb B0 ρ w' O (h.put k e (.itr mk me since seen' last')):=by
 obtain⟨L0,Lm0,q1,q2,q3,q4,q5,q6⟩:=H.ito _ _ _ _ _ _ _ hg;rw[q1]at hL;cases hL;have ev:Evo ρ w O ρ w' O:=ht.evo q6;refine⟨ev,H.put ev (λ_ _ _ h => .inl h) (λe0 o0 g=>by rw[hg]at g;cases g;exact Nat.le_refl _) ?_ ?_ ?_ ?_⟩;intro b hO;rw[ht.size];exact H.own b hO;intro k' e' o' L' hk hg' hd hL';exact⟨ht.other _ (iP H hg rfl q1 hk hg' hd hL'),id⟩;exact⟨L,Lm,q1,hm,ht.here,q4,q5,q6⟩;intro _ k' e' o' L1 L2 hk hg' hl hL' hL1 hb;rw[q1]at hL1;cases hL1;exact iP H hg rfl q1 hk hg' (by intro e;subst e;cases hl) hL' hb.symm
theorem HpR.newLp{k bb:Nat}{env:List AV}{ps:List Nat}{ca cb:C}{r:Loop}(H:HpR num Fb B0 ρ w O h)(hp:jL w w' (.loop r))(hlk:num.lk ps ca cb r)(hst:UJ 0 r)(hlen:env.length=r.tmps.size)
  (hc:∀(i:Nat)(x:AV)(y:Value),env[i]?=some x->r.tmps[i]?=some y->Rv num ρ w (λb=>Fb b\/O b) x y) :
  Evo ρ w O (ρ.set k (h.next k) ⟨w.heap.size,0,0,false,0,λ_=>rfl⟩) w' (λb=>O b\/b=w.heap.size) /\
  HpR num Fb B0 (ρ.set k (h.next k) ⟨w.heap.size,0,0,false,0,λ_=>rfl⟩) w' (λb=>O b\/b=w.heap.size) (h.put k (h.next k) (.lp 0 bb env ps ca cb)):=by
 have hf:=kS H k
 have ev:Evo ρ w O (ρ.set k (h.next k) ⟨w.heap.size,0,0,false,0,λ_=>rfl⟩) w' (λb=>O b\/b=w.heap.size):=
  {os:=hp.os,tape:=hp.tape,output:=hp.output,size:=by rw[hp.size];omega,
   keep:=λb hb _=>hp.old hb,own:=λb hb hO=>hO.elim id (λe=>by omega),rho:=Rho.set_keeps hf}
 refine⟨ev,H.put ev ?_ (oN h k) ?_ ?_ ?_ ?_⟩;intro k' e' L hL;unfold Rho.set at hL;split at hL;rename_i hc;exact .inr hc;exact .inl hL;intro b hO;rw[hp.size];rcases hO with hO|rfl;exact⟨(H.own b hO).1,Nat.lt_of_lt_of_le (H.own b hO).2 (by omega)⟩;exact⟨H.le,by omega⟩;intro k' e' o' L hk hg hd hL;exact⟨hp.old (H.loc_lt hg hd hL),.inl⟩;exact⟨_,r,Rho.set_same _ _ _ _,hp.new,hlk,hst,hlen,λi x y hx hy=>(hc i x y hx hy).evo ev,H.le,.inr rfl⟩;intro _ k' e' o' L L' hk hg hl hL' hL hb;rw[Rho.set_same]at hL;cases hL;have:=H.loc_lt hg (by intro e;subst e;cases hl) hL';simp at hb;omega
theorem HpR.turnLp{k e st st' bb bb':Nat}{env:List AV}{ps:List Nat}{ca cb:C}{L:Loc}{r r':Loop}(H:HpR num Fb B0 ρ w O h)
  (hg:h.get k=some (e,.lp st bb env ps ca cb)) (hL : ρ k e=some L) (hr:w.heap[L.b]?=some (.loop r)) (ht:fH w w' L.b (.loop r'))
  (h1:r'.tmps=r.tmps) (h2:num.lk ps ca cb r->num.lk ps ca cb r') (h3:UJ st' r') :
  Evo ρ w O ρ w' O/\HpR num Fb B0 ρ w' O (h.put k e (.lp st' bb' env ps ca cb)):=by
 obtain⟨L0,r0,q1,q2,q3,q4,q5,q6,q7,q8⟩:=H.lpo _ _ _ _ _ _ _ _ hg;rw[q1]at hL;cases hL;rw[q2]at hr;cases hr;have ev:Evo ρ w O ρ w' O:=ht.evo q8;refine⟨ev,H.put ev (λ_ _ _ h => .inl h) (λe0 o0 g=>by rw[hg]at g;cases g;exact Nat.le_refl _) ?_ ?_ ?_ ?_⟩;intro b hO;rw[ht.size];exact H.own b hO;intro k' e' o' L' hk hg' hd hL';exact⟨ht.other _ (iP H hg rfl q1 hk hg' hd hL'),id⟩;exact⟨L,r',q1,ht.here,h2 q3,h3,by rw[h1];exact q5,λi x y hx hy=>(q6 i x y hx (by rw[<-h1];exact hy)).evo ev,q7,q8⟩;intro _ k' e' o' L1 L2 hk hg' hl hL' hL1 hb;rw[q1]at hL1;cases hL1;exact iP H hg rfl q1 hk hg' (by intro e;subst e;cases hl) hL' hb.symm
theorem HpR.killLp{k e st bb:Nat}{env:List AV}{ps:List Nat}{ca cb:C}{L:Loc}{o:Obj}(H:HpR num Fb B0 ρ w O h)
  (hg:h.get k=some (e,.lp st bb env ps ca cb)) (hL : ρ k e=some L) (ht:fH w w' L.b o) :
  Evo ρ w O ρ w' O/\HpR num Fb B0 ρ w' O (h.put k e .dead):=by
 obtain⟨L0,r0,q1,q2,q3,q4,q5,q6,q7,q8⟩:=H.lpo _ _ _ _ _ _ _ _ hg;rw[q1]at hL;cases hL;have ev:Evo ρ w O ρ w' O:=ht.evo q8;refine⟨ev,H.put ev (λ_ _ _ h => .inl h) (λe0 o0 g=>by rw[hg]at g;cases g;exact Nat.le_refl _) ?_ ?_ trivial (λh=>by cases h)⟩;intro b hO;rw[ht.size];exact H.own b hO;intro k' e' o' L' hk hg' hd hL';exact⟨ht.other _ (iP H hg rfl q1 hk hg' hd hL'),id⟩
end
end
section
open Go.RowKit
inductive aJ{α β : Type}(R : α -> β -> Prop):List α -> List β -> Prop
 |nil:aJ R [] []
 |cons {a : α} {b : β} {l:List α} {m:List β}:R a b->aJ R l m->aJ R (a::l) (b::m)
theorem aJ.length{α β : Type}{R : α -> β -> Prop}{l:List α}{m:List β}(h:aJ R l m):l.length=m.length:=by
 induction h with
 |nil=>rfl
 |cons _ _ ih=>simp[ih]
theorem aJ.get{α β : Type}{R : α -> β -> Prop}{l:List α}{m:List β}(h:aJ R l m):∀(i:Nat)(x : α)(y : β),l[i]?=some x->m[i]?=some y->R x y:=by
 induction h with
 |nil=>intro i x y hx;simp at hx
 |cons hr _ ih=>
  intro i x y hx hy;cases i with
  |zero=>simp at hx hy;exact hx ▸ hy ▸ hr
  |succ i=>exact ih i x y (by simpa using hx) (by simpa using hy)
def fitV1:AV->Value->Bool
 |.bool a,.bool b=>a==b
 |.int k n,.int k' n'=>k==k'&&n==n'
 |.str s,.string t=>s==t.data.toList
 |.nilp,.pointer none=>true
 |.nilm,.map none=>true
 |.nilf,.nilFunc=>true
 |.nili,.nilIface=>true
 |.sl true [] _,.slice none 0 0=>true
 |_,_=>false
def fitL:List AV->List Value->Bool
 |[],[]=>true
 |x::r,y::s=>fitV1 x y&&fitL r s
 |_,_=>false
def fitV:AV->Value->Bool
 |.agg cs,.agg vs=>fitL cs vs.toList
 |.tup cs,.tuple vs=>fitL cs vs.toList
 |v,c=>fitV1 v c
def fitX(num gnum:Nat->Nat):X->Operand->Bool
 |.t n,.tmp m=>n==m
 |.c v,.const c=>fitV v c
 |.g n,.global g=>gnum n==g
 |.f n,.func f=>num n==f
 |_,_=>false
section
variable{num:Nm}{ρ : Rho}{w:World}{F:Nat->Prop}
theorem fitV1_sound{v:AV}{c:Value}(h:fitV1 v c=true):Rv num ρ w F v c:=by
 unfold fitV1 at h;split at h;simp at h;subst h;exact .bool _;simp at h;obtain⟨rfl,rfl⟩:=h;exact .int _ _;rename_i s t;have:t=⟨s.toArray⟩:=by cases t;simp at h;subst h;rfl
 subst this;exact .str s;exact .nilp;exact .nilm;exact .nilf;exact .nili;exact .nsl _;cases h
theorem fitL_sound:∀{l:List AV}{m:List Value},fitL l m=true->aJ (Rv num ρ w F) l m
 |[],[],_ => .nil
 |[],_::_,h=>by simp[fitL]at h
 |_::_,[],h=>by simp[fitL]at h
 |_::_,_::_,h=>by simp only[fitL,aD]at h;exact .cons (fitV1_sound h.1) (fitL_sound h.2)
theorem Rv.of_all2_agg{cs:List AV}{vs:Array Value}(h:aJ (Rv num ρ w F) cs vs.toList):Rv num ρ w F (.agg cs) (.agg vs):=
 .agg cs vs (by simpa using h.length) (λi x y hx hy=>h.get i x y hx (by simpa using hy))
theorem Rv.of_all2_tup{cs:List AV}{vs:Array Value}(h:aJ (Rv num ρ w F) cs vs.toList):Rv num ρ w F (.tup cs) (.tuple vs):=
 .tup cs vs (by simpa using h.length) (λi x y hx hy=>h.get i x y hx (by simpa using hy))
theorem fitV_sound{v:AV}{c:Value}(h:fitV v c=true):Rv num ρ w F v c:=by unfold fitV at h;split at h;exact .of_all2_agg (fitL_sound h);exact .of_all2_tup (fitL_sound h);exact fitV1_sound h
end
def LK(P:Program)(t:TypeId):Option Bool:=
 match P.underlying t with
 |some (.struct _)|some (.array _ _)=>some true
 |some _=>some false
 |none=>none
def fitT(P:Program)(t:TypeId)(sz:Nat)(ag:Bool):Bool:=(P.info? t).map (·.size)==some sz&&LK P t==some ag&&(ag||sz==1)
def fitB(P:Program)(t:TypeId)(bytes:Nat):Bool:=(P.info? t).map (·.bytes)==some bytes
def fitZ(P:Program)(t:TypeId)(zero:List AV):Bool:=
 match P.info? t with
 |some i=>match i.zero with|some z=>fitL zero z.cells.toList|none=>false
 |none=>false
def rU(P:Program)(t:TypeId):Bool:=match P.underlying t with|some .string=>true|_=>false
def C2(P:Program)(t:TypeId):Bool:=match P.underlying t with|some (.int _)=>true|_=>false
def zZ(P:Program)(t:TypeId):Bool:=match P.underlying t with|some .bool=>true|_=>false
def Y6(P:Program)(t:TypeId):Bool:=match P.underlying t with|some (.int .u8)=>true|_=>false
def lM(P:Program)(t:TypeId):Option TypeId:=match P.underlying t with|some (.slice e)=>some e|_=>none
def qW(P:Program)(t:TypeId):Bool:=match P.underlying t with|some (.interface _)=>true|_=>false
theorem iE{P:Program}{t:TypeId}(h:rU P t=true):P.underlying t=some .string:=by unfold rU at h;split at h<;>first|assumption|cases h
theorem zY{P:Program}{t:TypeId}(h:C2 P t=true):∃k,P.underlying t=some (.int k):=by unfold C2 at h;split at h<;>first|exact⟨_,by assumption⟩|cases h
theorem vF{P:Program}{t:TypeId}(h:zZ P t=true):P.underlying t=some .bool:=by unfold zZ at h;split at h<;>first|assumption|cases h
theorem xQ{P:Program}{t:TypeId}(h:Y6 P t=true):P.underlying t=some (.int .u8):=by unfold Y6 at h;split at h<;>first|assumption|cases h
theorem gE{P:Program}{t e:TypeId}(h:lM P t=some e):P.underlying t=some (.slice e):=by unfold lM at h;split at h;cases h;assumption;cases h
def FP(P:Program)(t:TypeId)(f:Nat):Option Field:=
 match P.underlying t with
 |some (.struct fs)=>fs[f]?
 |_=>none
def bL(b:Bool)(l:List Operand):Option (List Operand):=if b then some l else none
theorem aL{b:Bool}{l m:List Operand}(h:bL b l=some m):b=true/\m=l:=by unfold bL at h;split at h;cases h;exact⟨by assumption,rfl⟩;cases h
def fitParts(P:Program)(t:TypeId):List (Nat×Operand)->List (Nat×Nat)->Bool
 |[],[]=>true
 |(i,_)::r,(off,sz)::s=>
  (match P.underlying t with
   |some (.struct fs)=>match fs[i]? with|some f=>f.offset==off&&(P.info? f.type).map (·.size)==some sz|none=>false
   |some (.array _ e)=>(P.info? e).map (·.size)==some sz&&off==i*sz
   |_=>false)&&fitParts P t r s
 |_,_=>false
def zU(P:Program)(t:TypeId):Nat->Bool
 |0=>C2 P t
 |1=>rU P t
 |2=>zZ P t
 |_=>false
def OS(P:Program)(t:TypeId):Bool:=
 match P.underlying t with
 |some (.struct fs)=>fs.toList.all λf=>(P.info? f.type).isSome
 |some (.array _ e)=>(P.info? e).isSome
 |_=>false
def jN(P:Program):Nat->List Field->List Nat->Bool
 |_,[],[]=>true
 |i,f::fs,q::qs=>f.offset==i&&f.name != "_" && zU P f.type q&&jN P (i+1) fs qs
 |_,_,_=>false
def wJ(P:Program)(t:TypeId)(qs:List Nat):Bool:=
 match P.underlying t with
 |some (.struct fs)=>jN P 0 fs.toList qs
 |_=>false
def oH:Op->Option (Builtin×List Operand×Array TypeId)
 |.call c=>match c.callee with
  |.builtin b=>some (b,c.args.toList,c.argTypes)
  |_=>none
 |_=>none
theorem gT{P:Program}{o:Oper}{b:Builtin}{args:List Operand}{tys:Array TypeId}{ρv:Operand->Value}{w:World}(h:oH o.op=some (b,args,tys)) :
  ∃consts,(execOp ρv o).run P w=(builtin b tys o.type consts (args.map ρv).toArray).run P w:=by
 unfold oH at h;split at h;rename_i c hc;split at h;rename_i b' hb;cases h;have hm:(List.map ρv c.args.toList).toArray=Array.map ρv c.args:=by rw[<-Array.toList_map]
 have key:∀s,resolve ρv c o.type=pure s->(execOp ρv o).run P w=(invoke s.target s.args).run P w:=by intro s hs;simp only[execOp,hc,hs];rfl
 refine⟨c.args.map λ|.const _=>true|_=>false,?_⟩;rw[hm];exact(key _ (by unfold resolve;rw[hb])).trans rfl;cases h;cases h
def fitZV(P:Program)(t:TypeId)(zero:AV):Bool:=
 match P.info? t with
 |some i=>match i.zero with|some z=>fitV zero z|none=>false
 |none=>false
def OW(P:Program)(t:TypeId)(name:String)(f:FuncId):Bool:=
 match P.info? t with
 |some i=>match i.methods.find? (·.name==name) with
  |some m=>m.path.isEmpty&&(match m.func,P.underlying t with
   |some (g,true),some (.pointer _)=>g==f
   |some (_,false),some (.pointer _)=>false
   |some (g,false),some _=>g==f
   |_,_=>false)
  |none=>false
 |none=>false
def aGp:Op->Option (TypeId×Operand×Operand×Operand)
 |.mapUpdate t m k x=>some (t,m,k,x)
 |.insert t m k x=>some (t,m,k,x)
 |_=>none
def aKv(P:Program)(q g:Nat):Bool:=
 match P.funcs[g]? with
 |some fn=>decide (fn.name = "math" ++ String.singleton (Char.ofNat 47)++(if q=0 then "bits.Add64" else "bits.Sub64"))&&decide (fn.origin = "")&&fn.body.isNone
 |none=>false
def aKu(P:Program)(q g:Nat):Bool:=
 match P.funcs[g]? with
 |some fn=>decide (fn.name = "internal" ++ String.singleton (Char.ofNat 47)++(if q=2 then "bytealg.abigen_runtime_cmpstring" else if q=3 then "bytealg.IndexByteString" else "bytealg.CountString"))&&decide (fn.origin = "")&&fn.body.isNone
 |none=>false
def fitK(P:Program)(num:Nat->Nat)(o:Oper):K->Option (List Operand)
 |.bad=>some []
 |.mov=>match o.op with
  |.move x=>some [x]
  |.assign x=>some [x]
  |_=>none
 |.frz=>match o.op with
  |.move x=>some [x]
  |.assign x=>some [x]
  |_=>none
 |.mvk=>match o.op with
  |.move x=>some [x]
  |.assign x=>some [x]
  |_=>none
 |.cvs=>match o.op with
  |.convert s d x=>bL (rU P s&&rU P d) [x]
  |_=>none
 |.pick=>match o.op with|.pick c a b=>some [c,a,b]|_=>none
 |.box=>match o.op with|.box _ x=>some [x]|_=>none
 |.alloc zero ag=>match o.op with|.alloc t=>bL (fitZ P t zero) []|_=>none
 |.build zero parts=>match o.op with
  |.build t ps=>bL (fitZ P t zero&&fitParts P t ps.toList parts&&OS P t) (ps.toList.map (·.2))
  |_=>none
 |.mkSl esz ag own=>match o.op with
  |.buildSlice t n ps=>match lM P t with
   |some e=>bL (fitT P e esz ag&&ps.toList.map (·.1)==List.range n&&decide (n*esz<=16777216)&&((P.info? e).bind (·.zero)).any (·.cells.size==esz)&&esz != 0) (ps.toList.map (·.2))
   |none=>none
  |_=>none
 |.mkZ esz ag=>match o.op with
  |.buildSlice t n ps=>match lM P t with
   |some e=>bL (fitT P e esz ag&&ps.toList.map (·.1)==List.range n&&decide (n*esz<=16777216)&&((P.info? e).bind (·.zero)).any (·.cells.size==esz)&&esz != 0) (ps.toList.map (·.2))
   |none=>none
  |_=>none
 |.load sz ag=>match o.op with|.load t a=>bL (fitT P t sz ag) [a]|_=>none
 |.store sz ag=>match o.op with|.store t a v=>bL (fitT P t sz ag) [a,v]|_=>none
 |.nilc=>match o.op with|.nilCheck x=>some [x]|_=>none
 |.bin op=>match o.op with|.binOp op' _ x y _=>bL (op==op') [x,y]|_=>none
 |.beq ng=>match o.op with
  |.binOp .eql t x y _=>bL (!ng&&zZ P t) [x,y]
  |.binOp .neq t x y _=>bL (ng&&zZ P t) [x,y]
  |_=>none
 |.eqn q ng=>match o.op with
  | .binOp op t x y _=>bL (((op == .eql && !ng)||(op == .neq&&ng))&&(match q,P.underlying t,y with
    |0,some (.pointer _),.const (.pointer none)=>true
    |1,some (.slice _),.const (.slice none 0 0)=>true
    |2,some (.map _ _),.const (.map none)=>true
    |3,some (.func _ _ _),.const .nilFunc=>true
    |4,some (.interface _),.const .nilIface=>true
    |_,_,_=>false)) [x]
  |_=>none
 |.eqs ng qs=>match o.op with
  | .binOp op t x y _=>bL (((op == .eql && !ng)||(op == .neq&&ng))&&wJ P t qs && !P.stoodInHeld t && !P.eqGuardType P.depth t) [x,y]
  |_=>none
 |.un op=>match o.op with|.unOp op' _ x=>bL (op==op') [x]|_=>none
 |.cvi k=>match o.op with
  |.convert s d x=>bL ((match P.underlying d with|some (.int k')=>k==k'|_=>false)&&C2 P s) [x]
  |_=>none
 |.s2b=>match o.op with
  |.convert s d x=>bL (rU P s&&(match lM P d with|some e=>Y6 P e|none=>false)) [x]
  |_=>none
 |.b2s=>match o.op with
  |.convert s d x=>bL (rU P d&&(match lM P s with|some e=>Y6 P e|none=>false)) [x]
  |_=>none
 |.fld off sz ag=>match o.op with
  |.field t x f=>match FP P t f with
   |some fd=>bL (fd.offset==off&&fitT P fd.type sz ag) [x]
   |none=>none
  |_=>none
 |.fad off sz ag=>match o.op with
  |.fieldAddr t x f=>match FP P t f with
   |some fd=>bL (fd.offset==off&&fitT P fd.type sz ag&&sz != 0) [x]
   |none=>none
  |_=>none
 |.iad esz ag arr=>match o.op with
  |.indexAddr t x i=>bL (match P.underlying t,arr with
    |some (.slice e),none=>fitT P e esz ag
    |some (.array n e),some m=>n==m&&fitT P e esz ag
    |_,_=>false) [x,i]
  |_=>none
 |.ixs=>match o.op with|.index t x i=>bL (rU P t) [x,i]|_=>none
 |.ixa len esz ag=>match o.op with
  |.index t x i=>bL (match P.underlying t with|some (.array n e)=>n==len&&fitT P e esz ag|_=>false) [x,i]
  |_=>none
 |.slc esz lo hi mx=>match o.op with
  |.slice t x l h m=>match lM P t with
   | some e=>bL ((P.info? e).map (·.size)==some esz&&lo==l.isSome&&hi==h.isSome&&mx==m.isSome&&(!mx||hi)) ([x]++l.toList++h.toList++m.toList)
   |none=>none
  |_=>none
 |.sls lo hi=>match o.op with
  |.slice t x l h none=>bL (rU P t&&lo==l.isSome&&hi==h.isSome) ([x]++l.toList++h.toList)
  |_=>none
 |.sla len esz lo hi=>match o.op with
  |.slice t x l h none=>bL ((match P.underlying t with|some (.array n e)=>n==len&&(P.info? e).map (·.size)==some esz|_=>false)&&lo==l.isSome&&hi==h.isSome) ([x]++l.toList++h.toList)
  |_=>none
 |.mks esz ag bytes zero=>match o.op with
  |.makeSlice t l c=>match lM P t with
   |some e=>bL (fitT P e esz ag&&fitB P e bytes&&fitZ P e zero) [l,c]
   |none=>none
  |_=>none
 |.len q=>match oH o.op with
  |some (.len,[x],argTypes)=>bL (match argTypes[0]? with
    |some t=>(match q,P.underlying t with|0,some .string=>true|1,some (.slice _)=>true|2,some (.map _ _)=>true|_,_=>false)
    |none=>false) [x]
  |_=>none
 |.lenc n=>match oH o.op with
  |some (.len,[x],argTypes)=>bL (match argTypes[0]? with
    |some t=>(match P.underlying t with
     |some (.array m _)=>m==n
     |some (.pointer ar)=>(match P.underlying ar with|some (.array m _)=>m==n|_=>false)
     |_=>false)
    |none=>false) [x]
  |_=>none
 |.cap=>match oH o.op with
  |some (.cap,[x],argTypes)=>bL (match argTypes[0]? with
    |some t=>(lM P t).isSome
    |none=>false) [x]
  |_=>none
 |.app esz ag bytes=>match oH o.op with
  |some (.append,[x,y],argTypes)=>match argTypes[0]?,argTypes[1]? with
   |some t,some u=>match lM P t with
    | some e=>bL (fitT P e esz ag&&fitB P e bytes&&((P.info? e).bind (·.zero)).any (·.cells.size==esz)&&(t==u||rU P u||(lM P u).isSome)) [x,y]
    |none=>none
   |_,_=>none
  |_=>none
 |.apz esz ag bytes zero=>match oH o.op with
  |some (.append,[x,y],argTypes)=>match argTypes[0]?,argTypes[1]? with
   |some t,some u=>match lM P t with
    |some e=>bL (fitT P e esz ag&&fitB P e bytes&&fitZ P e zero&&C2 P u) [x,y]
    |none=>none
   |_,_=>none
  |_=>none
 |.cpy esz ag=>match oH o.op with
  |some (.copy,[x,y],argTypes)=>match argTypes[0]? with
   |some t=>match lM P t with
    |some e=>bL (fitT P e esz ag) [x,y]
    |none=>none
   |none=>none
  |_=>none
 |.mn=>match oH o.op with
  |some (.min,args,_)=>some args
  |_=>none
 |.mx=>match oH o.op with
  |some (.max,args,_)=>some args
  |_=>none
 |.ext i=>match o.op with|.extract t j=>bL (i==j) [t]|_=>none
 |.mkM f=>match o.op with
  |.makeFunc (.func g) first cap=>bL (num f==g&&cap.size==0&&first.size==1) first.toList
  |_=>none
 |.mkT t=>match o.op with|.makeInterface u x=>bL (num t==u && !qW P u&&(P.underlying u).isSome) [x]|_=>none
 |.tas t no zero ok=>match o.op with
  |.typeAssert x _ a ok'=>bL ((no.all λu=>num u != a)&&num t==a&&ok==ok' && !qW P a&&(P.underlying a).isSome&&fitZV P a zero) [x]
  |_=>none
 |.inv tb _ _=>match o.op with
  |.call {callee:=.invoke x name,args,.. }=>bL (tb.all λp=>OW P (num p.1) name (num p.2)) (x::args.toList)
  |_=>none
 |.mki=>match o.op with|.makeInterface t x=>bL (!qW P t&&(P.underlying t).isSome) [x]|_=>none
 |.mkf f=>match o.op with
  |.makeFunc (.func g) first cap=>bL (num f==g&&first.size==0) cap.toList
  |_=>none
 |.call f _ _=>match o.op with
  |.call {callee:=.value (.func g),args,.. }=>bL (num f==g) args.toList
  |_=>none
 |.calle f=>match o.op with
  |.call {callee:=.value (.func g),args,.. }=>bL (num f==g) args.toList
  |_=>none
 |.callr f=>match o.op with
  |.call {callee:=.value (.func g),args,.. }=>bL (num f==g) args.toList
  |_=>none
 |.callvr=>match o.op with
  |.call {callee:=.value f,args,.. }=>some (f::args.toList)
  |_=>none
 |.callv _ _=>match o.op with
  |.call {callee:=.value f,args,.. }=>some (f::args.toList)
  |_=>none
 |.mkm=>match o.op with|.makeMap _ none=>some []|_=>none
 |.mlk q zero ok=>match o.op with
  |.lookup t m x ok'=>match P.underlying t with
   |some (.map kt et)=>bL (ok==ok'&&zU P kt q&&fitZV P et zero) [m,x]
   |_=>none
  |_=>none
 |.mup q=>match aGp o.op with
  |some (t,m,x,y)=>match P.underlying t with
   |some (.map kt _)=>bL (zU P kt q) [m,x,y]
   |_=>none
  |none=>none
 |.mdel q=>match oH o.op with
  |some (.delete,[m,x],argTypes)=>match argTypes[0]? with
   |some t=>match P.underlying t with
    |some (.map kt _)=>bL (zU P kt q) [m,x]
    |_=>none
   |none=>none
  |_=>none
 |.men q zero=>match o.op with
  |.mapEntry t m x=>match P.underlying t with
   |some (.map kt et)=>bL (zU P kt q&&fitZV P et zero) [m,x]
   |_=>none
  |_=>none
 |.mes=>match o.op with|.entryStore _ m s x=>some [m,s,x]|_=>none
 |.bx q=>match o.op with
  |.call {callee:=.value (.func g),args,.. }=>match args.toList with
   |[x,y,c]=>bL (aKv P q g) [x,y,c]
   |[x,y]=>bL (aKu P q g) [x,y]
   |_=>none
  |_=>none
 |.rng=>match o.op with
  |.range t x=>match P.underlying t with
   |some (.map _ _)=>some [x]
   |_=>none
  |_=>none
 |.ent=>match o.op with|.entry x=>some [x]|_=>none
 |.clr _ zero=>match oH o.op with
  |some (.clear,[x],argTypes)=>match argTypes[0]? with
   |some t=>match lM P t with
    |some e=>bL (fitZ P e zero) [x]
    |none=>none
   |none=>none
  |_=>none
end
section
open Go.RowKit
def eC(P:Program)(num:Nm)(Fb:Nat->Prop)(B0:Nat)(ρ : Rho)(w:World)(O:Nat->Prop)(h:Hp)(ρv:Operand->Value)(o:Oper)(v:AV)(eff:Eff):Prop:=
 ∃n cv w' ρ' O',(execOp ρv o).run P w = .ok n w'/\(n = .value cv\/(n = .skip/\cv=undef))/\Evo ρ w O ρ' w' O'/\HpR num Fb B0 ρ' w' O' (eff.app h) /\
  Rv num ρ' w' (λb=>Fb b\/O' b) v cv
theorem B1(k:IntKind)(n:Int):wr k n=k.wrap n:=by
 unfold wr;cases k<;>simp only
 all_goals
  split;simp only[IntKind.wrap,IntKind.bits,IntKind.signed];simp;omega;rfl
theorem SI{P:Program}{num:Nm}{ρ : Rho}{F:Nat->Prop}{op:BinOp}{a b r:AV}{x y:Value}(w:World)(t:TypeId)(ox oy:Operand)(h:bin op a b=some r)
  (ha:Rv num ρ w F a x) (hb:Rv num ρ w F b y):∃cv,(do eqGuard op t ox oy x y;binOp op t x y:Sem Value).run P w = .ok cv w/\Rv num ρ w F r cv:=by
 unfold bin at h;split at h;obtain rfl:=ha.of_int;obtain rfl:=hb.of_int;rename_i k a k' b;split at h;split at h;cases h;cases h;rename_i hn;exact⟨_,by (simp[eqGuard,binOp,Op.shift,hn]<;>rfl),.int _ _⟩;split at h;cases h;cases h;rename_i hn;exact⟨_,by (simp[eqGuard,binOp,Op.shift,hn]<;>rfl),.int _ _⟩;rename_i hs1 hs2;split at h;rename_i hk;subst hk;unfold aHp at h;cases op<;>simp only at h
 case shl=>exact absurd rfl hs1
 case shr=>exact absurd rfl hs2
 case quo=>split at h;cases h;rename_i hn;cases h;exact⟨_,by (simp[eqGuard,binOp,Op.intDiv,hn,B1]<;>rfl),.int _ _⟩
 case rem=>split at h;cases h;rename_i hn;cases h;exact⟨_,by (simp[eqGuard,binOp,Op.intDiv,hn]<;>rfl),.int _ _⟩
 case add=>cases h;exact⟨_,by (simp[eqGuard,binOp,Op.intArith,B1]<;>rfl),.int _ _⟩
 case sub=>cases h;exact⟨_,by (simp[eqGuard,binOp,Op.intArith,B1]<;>rfl),.int _ _⟩
 case mul=>cases h;exact⟨_,by (simp[eqGuard,binOp,Op.intArith,B1]<;>rfl),.int _ _⟩
 case and=>cases h;exact⟨_,by (simp[eqGuard,binOp,Op.intBits]<;>rfl),.int _ _⟩
 case or=>cases h;exact⟨_,by (simp[eqGuard,binOp,Op.intBits]<;>rfl),.int _ _⟩
 case xor=>cases h;exact⟨_,by (simp[eqGuard,binOp,Op.intBits]<;>rfl),.int _ _⟩
 case andNot=>cases h;exact⟨_,by (simp[eqGuard,binOp,Op.intBits]<;>rfl),.int _ _⟩
 case eql=>cases h;exact⟨.bool (decide (a=b)),by (simp[eqGuard,binOp,Op.intCmp]<;>rfl),.bool _⟩
 case neq=>cases h;exact⟨.bool (!decide (a=b)),by (simp[eqGuard,binOp,Op.intCmp,bne]<;>rfl),.bool _⟩
 case lss=>cases h;exact⟨_,by (simp[eqGuard,binOp,Op.intCmp]<;>rfl),.bool _⟩
 case leq=>cases h;exact⟨_,by (simp[eqGuard,binOp,Op.intCmp]<;>rfl),.bool _⟩
 case gtr=>cases h;exact⟨_,by (simp[eqGuard,binOp,Op.intCmp]<;>rfl),.bool _⟩
 case geq=>cases h;exact⟨_,by (simp[eqGuard,binOp,Op.intCmp]<;>rfl),.bool _⟩
 cases h
 ·obtain rfl:=ha.of_str;obtain rfl:=hb.of_str;rename_i a b;have hab:(a==b)=decide (a=b):=by by_cases e:a=b<;>simp[e]
  unfold W4 at h;cases op<;>simp only at h<;>(try (cases h;done))
  case add=>split at h;rename_i hn;cases h;refine⟨.string ⟨(a++b).toArray⟩,?_,.str _⟩;have:=run_string_add_sum (P:=P) (w:=w) ⟨a.toArray⟩ ⟨b.toArray⟩ (by simpa[ByteArray.size] using hn);simp[eqGuard,binOp,this,ByteArray.mk_append_mk];cases h
  case eql=>cases h;exact⟨.bool (decide (a=b)),by (simp[eqGuard,binOp,Op.stringOp,hab]<;>rfl),.bool _⟩
  case neq=>cases h;exact⟨.bool (!decide (a=b)),by (simp[eqGuard,binOp,Op.stringOp,hab]<;>rfl),.bool _⟩
  case lss=>cases h;exact⟨_,by (simp[eqGuard,binOp,Op.stringOp,hab]<;>rfl),.bool _⟩
  case leq=>cases h;exact⟨.bool (Op.bytesLess a b||decide (a=b)),by (simp[eqGuard,binOp,Op.stringOp,hab]<;>rfl),.bool _⟩
  case gtr=>cases h;exact⟨.bool (!(Op.bytesLess a b||decide (a=b))),by (simp[eqGuard,binOp,Op.stringOp,hab]<;>rfl),.bool _⟩
  case geq=>cases h;exact⟨_,by (simp[eqGuard,binOp,Op.stringOp,hab]<;>rfl),.bool _⟩
 cases h
section
variable{P:Program}{num:Nm}{Fb:Nat->Prop}{B0:Nat}{ρ : Rho}{w:World}{O:Nat->Prop}{h:Hp}{ρv:Operand->Value}{o:Oper}
theorem eC.val{v:AV}{cv:Value}{rd:List Nat}(H:HpR num Fb B0 ρ w O h)(hr:(execOp ρv o).run P w = .ok (.value cv) w)(hv:Rv num ρ w (λb=>Fb b\/O b) v cv) :
  eC P num Fb B0 ρ w O h ρv o v (.pat rd []):=
 ⟨_,cv,w,ρ,O,hr,.inl rfl,Evo.refl _ _ _,H,hv⟩
theorem bH{v v':AV}{e:Eff}(hh:Tev.val v=some (v',e)):v'=v/\e = .pat [] []:=by simp[Tev.val]at hh;exact⟨hh.1.symm,hh.2.symm⟩
theorem aJ.one{α β : Type}{R : α -> β -> Prop}{l:List α}{b : β}(hh:aJ R l [b]):∃a,l=[a]/\R a b:=by cases hh with|cons h1 h2=>cases h2;exact⟨_,rfl,h1⟩
theorem aJ.two{α β : Type}{R : α -> β -> Prop}{l:List α}{b c : β}(hh:aJ R l [b,c]):∃a a',l=[a,a']/\R a b/\R a' c:=by cases hh with|cons h1 h2=>obtain⟨a,rfl,h3⟩:=h2.one;exact⟨_,_,rfl,h1,h3⟩
theorem aJ.three{α β : Type}{R : α -> β -> Prop}{l:List α}{b c d : β}(hh:aJ R l [b,c,d]):∃a a' a'',l=[a,a',a'']/\R a b/\R a' c/\R a'' d:=by cases hh with|cons h1 h2=>obtain⟨a,a',rfl,h3,h4⟩:=h2.two;exact⟨_,_,_,rfl,h1,h3,h4⟩
variable(H:HpR num Fb B0 ρ w O h)
variable{k0:Nat}{l:List Operand}{vs:List AV}{v:AV}{eff:Eff}
variable(hv:aJ (Rv num ρ w (λb=>Fb b\/O b)) vs (l.map ρv))
include H hv
theorem MC(hf:fitK P num o .mov=some l)(h1:op1 h k0 .mov vs=some (v,eff)):eC P num Fb B0 ρ w O h ρv o v eff:=by simp only[fitK]at hf;split at hf;cases hf;rename_i x ho;obtain⟨a,rfl,ha⟩:=hv.one;simp only[op1]at h1;obtain⟨rfl,rfl⟩:=bH h1;exact .val H (by simp[execOp,ho]) ha;cases hf;rename_i x ho;obtain⟨a,rfl,ha⟩:=hv.one;simp only[op1]at h1;obtain⟨rfl,rfl⟩:=bH h1;exact .val H (by simp[execOp,ho]) ha;cases hf
theorem aFW(hf:fitK P num o .cvs=some l)(h1:op1 h k0 .cvs vs=some (v,eff)):eC P num Fb B0 ρ w O h ρv o v eff:=by simp only[fitK]at hf;split at hf;rename_i s d x ho;obtain⟨hg,rfl⟩:=aL hf;simp only[aD]at hg;obtain⟨a,rfl,ha⟩:=hv.one;simp only[op1]at h1;split at h1;obtain⟨rfl,rfl⟩:=bH h1;have hx:=ha.of_str;refine .val H (cv := ρv x) ?_ ha;simp[execOp,ho,convert,run_underlying (iE hg.1),run_underlying (iE hg.2),hx];cases h1;cases hf
theorem YS(hf:fitK P num o .pick=some l)(h1:op1 h k0 .pick vs=some (v,eff)):eC P num Fb B0 ρ w O h ρv o v eff:=by
 simp only[fitK]at hf;split at hf;cases hf;rename_i c x y ho;obtain⟨a,b,d,rfl,ha,hb,hd⟩:=hv.three;simp only[op1]at h1;split at h1;rename_i t;obtain⟨rfl,rfl⟩:=bH h1;have:=ha.of_bool;refine .val (cv:=if t then ρv x else ρv y) H (by simp[execOp,ho,this,asBool]) ?_;cases t<;>simpa using by assumption
 cases h1;cases hf
theorem YT(hf:fitK P num o .nilc=some l)(h1:op1 h k0 .nilc vs=some (v,eff)):eC P num Fb B0 ρ w O h ρv o v eff:=by simp only[fitK]at hf;split at hf;cases hf;rename_i x ho;obtain⟨a,rfl,ha⟩:=hv.one;simp only[op1]at h1;split at h1;obtain⟨rfl,rfl⟩:=bH h1;obtain⟨L,hx,_⟩:=ha.of_pt;exact .val H (cv := ρv x) (by simp[execOp,ho,hx]) ha;obtain⟨rfl,rfl⟩:=bH h1;obtain⟨_,_,_,hx,_⟩:=ha.of_fp;exact .val H (cv := ρv x) (by simp[execOp,ho,hx]) ha;cases h1;cases hf
theorem aGc(op:BinOp)(hf:fitK P num o (.bin op)=some l)(h1:op1 h k0 (.bin op) vs=some (v,eff)):eC P num Fb B0 ρ w O h ρv o v eff:=by
 simp only[fitK]at hf;split at hf;rename_i op' t x y t' ho;obtain⟨hg,rfl⟩:=aL hf;obtain rfl:op=op':=by simpa using hg
 obtain⟨a,b,rfl,ha,hb⟩:=hv.two;simp only[op1]at h1;cases hbin:bin op a b with
 |none=>simp[hbin]at h1
 |some r=>
  rw[hbin]at h1;obtain⟨rfl,rfl⟩:=bH h1;have key:=SI (P:=P) (num:=num) (ρ := ρ) (F:=λb=>Fb b\/O b) w t x y hbin ha hb;obtain⟨cv,h2,h3⟩:=key;refine .val H (cv:=cv) ?_ h3;simp only[execOp,ho];rw[Sem.run_bind]at h2;cases he:(eqGuard op t x y (ρv x) (ρv y)).run P w with
  |ok u w1=>simp only[he,Result.andThen_ok]at h2;simp[he,h2]
  |halt e w1=>simp[he]at h2
 cases hf
theorem aGd(ng:Bool)(hf:fitK P num o (.beq ng)=some l)(h1:op1 h k0 (.beq ng) vs=some (v,eff)):eC P num Fb B0 ρ w O h ρv o v eff:=by
 simp only[fitK]at hf;split at hf
 case h_3=>cases hf
 all_goals
  rename_i t x y t' ho;obtain⟨hg,rfl⟩:=aL hf;simp at hg;obtain⟨rfl,hg⟩:=hg;obtain⟨a,b,rfl,ha,hb⟩:=hv.two;simp only[op1]at h1;split at h1;obtain⟨rfl,rfl⟩:=bH h1;have e1:=ha.of_bool;have e2:=hb.of_bool;refine .val H ?_ (.bool _);have q:∀a b:Bool,(Op.equal t (.bool a) (.bool b)).run P w = .ok (a==b) w:=λa b=>run_equalIn_bool w 9999 t a b (vF hg);simp[execOp,ho,e1,e2,eqGuard,binOp,q];cases h1
theorem aIQ(op:UnOp)(hf:fitK P num o (.un op)=some l)(h1:op1 h k0 (.un op) vs=some (v,eff)):eC P num Fb B0 ρ w O h ρv o v eff:=by
 simp only[fitK]at hf;split at hf;rename_i op' t x ho;obtain⟨hg,rfl⟩:=aL hf;obtain rfl:op=op':=by simpa using hg
 obtain⟨a,rfl,ha⟩:=hv.one;simp only[op1]at h1;split at h1;obtain⟨rfl,rfl⟩:=bH h1;have e1:=ha.of_int;refine .val H ?_ (.int _ _);simp[execOp,ho,e1,Op.unary,Op.intArith,B1];obtain⟨rfl,rfl⟩:=bH h1;have e1:=ha.of_bool;refine .val H ?_ (.bool _);simp[execOp,ho,e1,Op.unary];obtain⟨rfl,rfl⟩:=bH h1;have e1:=ha.of_int;refine .val H ?_ (.int _ _);simp[execOp,ho,e1,Op.unary,Op.intBits]<;>rfl;cases h1;cases hf
theorem aFX(k:IntKind)(hf:fitK P num o (.cvi k)=some l)(h1:op1 h k0 (.cvi k) vs=some (v,eff)):eC P num Fb B0 ρ w O h ρv o v eff:=by
 simp only[fitK]at hf;split at hf;rename_i s d x ho;obtain⟨hg,rfl⟩:=aL hf;obtain⟨a,rfl,ha⟩:=hv.one;simp only[op1]at h1;split at h1;obtain⟨rfl,rfl⟩:=bH h1;have e1:=ha.of_int;simp only[aD]at hg;obtain⟨g1,g2⟩:=hg;split at g1;rename_i k' hd;obtain rfl:k=k':=by simpa using g1
 unfold C2 at g2;split at g2;rename_i ks hs;refine .val H ?_ (.int _ _);simp[execOp,ho,e1,convert,run_underlying hs,run_underlying hd,Conv.intToInt,B1];cases g2;cases g1;cases h1;cases hf
end
end
end Go.Tev
