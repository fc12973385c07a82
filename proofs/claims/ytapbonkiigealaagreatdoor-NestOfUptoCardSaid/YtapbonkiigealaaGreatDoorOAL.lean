import Derived.Test.YtapbonkiigealaaGreatDoorOAK
import Derived.Test.YtapbonkiigealaaGreatDoorOAG
import Derived.Test.YtapbonkiigealaaGreatDoorOAH
import Derived.Test.YtapbonkiigealaaGreatDoorOAI
set_option linter.all false
section
namespace Go.Tev
attribute [go_sem] Nat.succ_eq_add_one Bool.and_true Bool.true_and Bool.and_false Bool.false_and Bool.or_true Bool.true_or Bool.or_false Bool.false_or Bool.not_true Bool.not_false Bool.false_eq_true cond_true cond_false Int.natCast_nonneg Int.toNat_natCast List.length_map List.getElem?_map and_self and_true true_and decide_true decide_false ite_true ite_false if_true if_false not_false_eq_true not_true_eq_false Int.lt_irrefl Bool.and_self Bool.or_self Bool.not_eq_true Bool.not_eq_false eq_self Int.toNat_zero Int.le_refl Int.natCast_zero Nat.zero_le Option.isSome_none Option.isSome_some beq_self_eq_true Option.getD_none Option.isNone_none Option.isNone_some ne_eq
def big:Nat:=16777216
structure Str where
 bs:List UInt8
 ok:bs.length≤big
def Str.av (s:Str):AV:=.str s.bs
structure Sl (α : Type) where
 nl:Bool
 es:List α
 cl:Bool
 ok:es.length≤big
def Sl.av {α : Type} (f : α → AV) (s:Sl α):AV:=.sl s.nl (s.es.map f) s.cl
def intA (n:Int):AV:=.int .i64 n
structure Coef where
 v:Str
 c:Int
def Coef.av (x:Coef):AV:=.agg [.str x.v.bs,.int .i64 x.c]
structure Lin where
 c:Int
 ts:Sl Coef
def Lin.av (x:Lin):AV:=.agg [.int .i64 x.c,x.ts.av Coef.av]
structure Shape where
 row:Str
 dims:Sl Lin
def Shape.av (x:Shape):AV:=.agg [.str x.row.bs,x.dims.av Lin.av]
structure Typ where
 elem:Str
 shape:Shape
def Typ.av (x:Typ):AV:=.agg [.str x.elem.bs,.str x.shape.row.bs,x.shape.dims.av Lin.av]
structure Step where
 op:Str
 num:Int
 args:Sl Int
def Step.av (x:Step):AV:=.agg [.str x.op.bs,.int .i64 x.num,x.args.av intA]
structure Val where
 v:Str
 n:Int
def Val.av (x:Val):AV:=.agg [.str x.v.bs,.int .i64 x.n]
inductive Pull where
 | mk (op:Str) (num value:Int) (name:Str) (at_:Sl Lin) (dyn:Bool) (check:Int) (fn:Sl Step) (knl:Bool) (kids:List Pull) (kcl:Bool)
namespace Pull
def op:Pull→Str | mk a _ _ _ _ _ _ _ _ _ _=>a
def num:Pull→Int | mk _ a _ _ _ _ _ _ _ _ _=>a
def value:Pull→Int | mk _ _ a _ _ _ _ _ _ _ _=>a
def name:Pull→Str | mk _ _ _ a _ _ _ _ _ _ _=>a
def at_:Pull→Sl Lin | mk _ _ _ _ a _ _ _ _ _ _=>a
def dyn:Pull→Bool | mk _ _ _ _ _ a _ _ _ _ _=>a
def check:Pull→Int | mk _ _ _ _ _ _ a _ _ _ _=>a
def fn:Pull→Sl Step | mk _ _ _ _ _ _ _ a _ _ _=>a
def knl:Pull→Bool | mk _ _ _ _ _ _ _ _ a _ _=>a
def kids:Pull→List Pull | mk _ _ _ _ _ _ _ _ _ a _=>a
def kcl:Pull→Bool | mk _ _ _ _ _ _ _ _ _ _ a=>a
end Pull
mutual
def Pull.av:Pull→AV
 | .mk op num value name at_ dyn check fn knl kids kcl=>
  .agg [.str op.bs,.int .i64 num,.int .i64 value,.str name.bs,at_.av Lin.av,.bool dyn,.int .i64 check,fn.av Step.av,.sl knl (Pull.avs kids) kcl]
def Pull.avs:List Pull→List AV
 | []=>[]
 | p :: r=>p.av :: Pull.avs r
end
theorem Pull.avs_eq:∀ l:List Pull,Pull.avs l=l.map Pull.av
 | []=>by simp [Pull.avs]
 | p :: r=>by simp [Pull.avs,Pull.avs_eq r]
def Pull.kav (p:Pull):AV:=.sl p.knl (p.kids.map Pull.av) p.kcl
def Pull.cells (p:Pull):List AV:=
 [.str p.op.bs,.int .i64 p.num,.int .i64 p.value,.str p.name.bs,p.at_.av Lin.av,.bool p.dyn,.int .i64 p.check,p.fn.av Step.av,p.kav]
theorem Pull.av_eq (p:Pull):p.av = .agg p.cells:=by
 cases p;simp [Pull.av,Pull.cells,Pull.kav,Pull.avs_eq,op,num,value,name,at_,dyn,check,fn,knl,kids,kcl]
mutual
def Pull.ok:Pull→Prop
 | .mk _ _ _ _ _ _ _ _ _ kids _=>kids.length≤big∧Pull.oks kids
def Pull.oks:List Pull→Prop
 | []=>True
 | p :: r=>p.ok∧Pull.oks r
end
theorem Pull.oks_iff:∀ l:List Pull,Pull.oks l↔∀ p∈l,p.ok
 | []=>by simp [Pull.oks]
 | p :: r=>by simp [Pull.oks,Pull.oks_iff r]
theorem Pull.ok_iff (p:Pull):p.ok↔p.kids.length≤big∧∀ q∈p.kids,q.ok:=by
 cases p;simp [Pull.ok,Pull.oks_iff,kids]
structure Kernel where
 kind:Int
 value:Int
 space:Sl Lin
 body:Pull
 fn:Sl Step
 source:Int
 index:Pull
 check:Int
def Kernel.cells (x:Kernel):List AV:=
 [.int .i64 x.kind,.int .i64 x.value,x.space.av Lin.av]++x.body.cells++[x.fn.av Step.av,.int .i64 x.source]++x.index.cells++[.int .i64 x.check]
def Kernel.av (x:Kernel):AV:=.agg x.cells
structure Kernels where
 vars:Sl Str
 wher:Sl Lin
 inputs:Int
 values:Sl Typ
 list:Sl Kernel
 results:Sl Int
def Kernels.cells (k:Kernels):List AV:=
 [k.vars.av Str.av,k.wher.av Lin.av,.int .i64 k.inputs,k.values.av Typ.av,k.list.av Kernel.av,k.results.av intA]
def Kernels.av (k:Kernels):AV:=.agg k.cells
theorem treeL_map {α : Type} {f : α → AV} (h:∀ x,(f x).tree=true):∀ l:List α,treeL (l.map f)=true
 | []=>rfl
 | x :: r=>by simp [treeL,h x,treeL_map h r]
theorem intA_tree (n:Int):(intA n).tree=true:=rfl
theorem Str.tree (s:Str):(Str.av s).tree=true:=rfl
theorem intA_treeL (l:List Int):treeL (l.map intA)=true:=treeL_map intA_tree l
theorem Str.treeL (l:List Str):Tev.treeL (l.map Str.av)=true:=treeL_map Str.tree l
theorem intA_eq (n:Int):intA n = .int .i64 n:=rfl
theorem Str.av_eq (s:Str):Str.av s = .str s.bs:=rfl
attribute [go_sem] intA_tree Str.tree intA_treeL Str.treeL intA_eq Str.av_eq Tev.treeL Sl.av
theorem Coef.avc (x:Coef):Coef.av x = .agg [.str x.v.bs,.int .i64 x.c]:=rfl
theorem Coef.cells_av (x:Coef):(Coef.av x).cells=[.str x.v.bs,.int .i64 x.c]:=by rw [Coef.avc];rfl
theorem Coef.isAgg_av (x:Coef):(Coef.av x).isAgg=true:=by rw [Coef.avc];rfl
theorem Coef.fits_av (x:Coef):(Coef.av x).fits 2 true=true:=by rw [Coef.avc];rfl
theorem Coef.tree_av (x:Coef):(Coef.av x).tree=true:=by rw [Coef.avc];simp [go_sem]
theorem Coef.treeL_av (l:List Coef):Tev.treeL (l.map Coef.av)=true:=treeL_map Coef.tree_av l
theorem Coef.fld_av (off sz:Nat) (ag:Bool) (x:Coef):f_fld off sz ag [Coef.av x]=f_fld off sz ag [.agg [.str x.v.bs,.int .i64 x.c]]:=by rw [Coef.avc]
theorem Coef.fad_av (off sz:Nat) (ag:Bool) (x:Coef):f_fad off sz ag [.fp (Coef.av x)]=f_fad off sz ag [.fp (.agg [.str x.v.bs,.int .i64 x.c])]:=by rw [Coef.avc]
theorem Coef.box_av (h:Hp) (k:Nat) (x:Coef):f_box h k [Coef.av x]=f_box h k [.agg [.str x.v.bs,.int .i64 x.c]]:=by rw [Coef.avc]
theorem Coef.eqs_av (ng:Bool) (qs:List Nat) (x y:Coef):f_eqs ng qs [Coef.av x,Coef.av y]=f_eqs ng qs [.agg [.str x.v.bs,.int .i64 x.c],.agg [.str y.v.bs,.int .i64 y.c]]:=by rw [Coef.avc,Coef.avc]
attribute [go_sem ↓ high] Coef.eqs_av
attribute [go_sem high] Coef.cells_av Coef.isAgg_av Coef.fits_av Coef.tree_av Coef.treeL_av
attribute [go_sem ↓ high] Coef.fld_av Coef.fad_av Coef.box_av
theorem Lin.avc (x:Lin):Lin.av x = .agg [.int .i64 x.c,.sl x.ts.nl (x.ts.es.map Coef.av) x.ts.cl]:=rfl
theorem Lin.cells_av (x:Lin):(Lin.av x).cells=[.int .i64 x.c,.sl x.ts.nl (x.ts.es.map Coef.av) x.ts.cl]:=by rw [Lin.avc];rfl
theorem Lin.isAgg_av (x:Lin):(Lin.av x).isAgg=true:=by rw [Lin.avc];rfl
theorem Lin.fits_av (x:Lin):(Lin.av x).fits 2 true=true:=by rw [Lin.avc];rfl
theorem Lin.tree_av (x:Lin):(Lin.av x).tree=true:=by rw [Lin.avc];simp [go_sem]
theorem Lin.treeL_av (l:List Lin):Tev.treeL (l.map Lin.av)=true:=treeL_map Lin.tree_av l
theorem Lin.fld_av (off sz:Nat) (ag:Bool) (x:Lin):f_fld off sz ag [Lin.av x]=f_fld off sz ag [.agg [.int .i64 x.c,.sl x.ts.nl (x.ts.es.map Coef.av) x.ts.cl]]:=by rw [Lin.avc]
theorem Lin.fad_av (off sz:Nat) (ag:Bool) (x:Lin):f_fad off sz ag [.fp (Lin.av x)]=f_fad off sz ag [.fp (.agg [.int .i64 x.c,.sl x.ts.nl (x.ts.es.map Coef.av) x.ts.cl])]:=by rw [Lin.avc]
theorem Lin.box_av (h:Hp) (k:Nat) (x:Lin):f_box h k [Lin.av x]=f_box h k [.agg [.int .i64 x.c,.sl x.ts.nl (x.ts.es.map Coef.av) x.ts.cl]]:=by rw [Lin.avc]
attribute [go_sem high] Lin.cells_av Lin.isAgg_av Lin.fits_av Lin.tree_av Lin.treeL_av
attribute [go_sem ↓ high] Lin.fld_av Lin.fad_av Lin.box_av
theorem Shape.avc (x:Shape):Shape.av x = .agg [.str x.row.bs,.sl x.dims.nl (x.dims.es.map Lin.av) x.dims.cl]:=rfl
theorem Shape.cells_av (x:Shape):(Shape.av x).cells=[.str x.row.bs,.sl x.dims.nl (x.dims.es.map Lin.av) x.dims.cl]:=by rw [Shape.avc];rfl
theorem Shape.isAgg_av (x:Shape):(Shape.av x).isAgg=true:=by rw [Shape.avc];rfl
theorem Shape.fits_av (x:Shape):(Shape.av x).fits 2 true=true:=by rw [Shape.avc];rfl
theorem Shape.tree_av (x:Shape):(Shape.av x).tree=true:=by rw [Shape.avc];simp [go_sem]
theorem Shape.treeL_av (l:List Shape):Tev.treeL (l.map Shape.av)=true:=treeL_map Shape.tree_av l
theorem Shape.fld_av (off sz:Nat) (ag:Bool) (x:Shape):f_fld off sz ag [Shape.av x]=f_fld off sz ag [.agg [.str x.row.bs,.sl x.dims.nl (x.dims.es.map Lin.av) x.dims.cl]]:=by rw [Shape.avc]
theorem Shape.fad_av (off sz:Nat) (ag:Bool) (x:Shape):f_fad off sz ag [.fp (Shape.av x)]=f_fad off sz ag [.fp (.agg [.str x.row.bs,.sl x.dims.nl (x.dims.es.map Lin.av) x.dims.cl])]:=by rw [Shape.avc]
theorem Shape.box_av (h:Hp) (k:Nat) (x:Shape):f_box h k [Shape.av x]=f_box h k [.agg [.str x.row.bs,.sl x.dims.nl (x.dims.es.map Lin.av) x.dims.cl]]:=by rw [Shape.avc]
attribute [go_sem high] Shape.cells_av Shape.isAgg_av Shape.fits_av Shape.tree_av Shape.treeL_av
attribute [go_sem ↓ high] Shape.fld_av Shape.fad_av Shape.box_av
theorem Typ.avc (x:Typ):Typ.av x = .agg [.str x.elem.bs,.str x.shape.row.bs,.sl x.shape.dims.nl (x.shape.dims.es.map Lin.av) x.shape.dims.cl]:=rfl
theorem Typ.cells_av (x:Typ):(Typ.av x).cells=[.str x.elem.bs,.str x.shape.row.bs,.sl x.shape.dims.nl (x.shape.dims.es.map Lin.av) x.shape.dims.cl]:=by rw [Typ.avc];rfl
theorem Typ.isAgg_av (x:Typ):(Typ.av x).isAgg=true:=by rw [Typ.avc];rfl
theorem Typ.fits_av (x:Typ):(Typ.av x).fits 3 true=true:=by rw [Typ.avc];rfl
theorem Typ.tree_av (x:Typ):(Typ.av x).tree=true:=by rw [Typ.avc];simp [go_sem]
theorem Typ.treeL_av (l:List Typ):Tev.treeL (l.map Typ.av)=true:=treeL_map Typ.tree_av l
theorem Typ.fld_av (off sz:Nat) (ag:Bool) (x:Typ):f_fld off sz ag [Typ.av x]=f_fld off sz ag [.agg [.str x.elem.bs,.str x.shape.row.bs,.sl x.shape.dims.nl (x.shape.dims.es.map Lin.av) x.shape.dims.cl]]:=by rw [Typ.avc]
theorem Typ.fad_av (off sz:Nat) (ag:Bool) (x:Typ):f_fad off sz ag [.fp (Typ.av x)]=f_fad off sz ag [.fp (.agg [.str x.elem.bs,.str x.shape.row.bs,.sl x.shape.dims.nl (x.shape.dims.es.map Lin.av) x.shape.dims.cl])]:=by rw [Typ.avc]
theorem Typ.box_av (h:Hp) (k:Nat) (x:Typ):f_box h k [Typ.av x]=f_box h k [.agg [.str x.elem.bs,.str x.shape.row.bs,.sl x.shape.dims.nl (x.shape.dims.es.map Lin.av) x.shape.dims.cl]]:=by rw [Typ.avc]
attribute [go_sem high] Typ.cells_av Typ.isAgg_av Typ.fits_av Typ.tree_av Typ.treeL_av
attribute [go_sem ↓ high] Typ.fld_av Typ.fad_av Typ.box_av
theorem Step.avc (x:Step):Step.av x = .agg [.str x.op.bs,.int .i64 x.num,.sl x.args.nl (x.args.es.map intA) x.args.cl]:=rfl
theorem Step.cells_av (x:Step):(Step.av x).cells=[.str x.op.bs,.int .i64 x.num,.sl x.args.nl (x.args.es.map intA) x.args.cl]:=by rw [Step.avc];rfl
theorem Step.isAgg_av (x:Step):(Step.av x).isAgg=true:=by rw [Step.avc];rfl
theorem Step.fits_av (x:Step):(Step.av x).fits 3 true=true:=by rw [Step.avc];rfl
theorem Step.tree_av (x:Step):(Step.av x).tree=true:=by rw [Step.avc];simp [go_sem]
theorem Step.treeL_av (l:List Step):Tev.treeL (l.map Step.av)=true:=treeL_map Step.tree_av l
theorem Step.fld_av (off sz:Nat) (ag:Bool) (x:Step):f_fld off sz ag [Step.av x]=f_fld off sz ag [.agg [.str x.op.bs,.int .i64 x.num,.sl x.args.nl (x.args.es.map intA) x.args.cl]]:=by rw [Step.avc]
theorem Step.fad_av (off sz:Nat) (ag:Bool) (x:Step):f_fad off sz ag [.fp (Step.av x)]=f_fad off sz ag [.fp (.agg [.str x.op.bs,.int .i64 x.num,.sl x.args.nl (x.args.es.map intA) x.args.cl])]:=by rw [Step.avc]
theorem Step.box_av (h:Hp) (k:Nat) (x:Step):f_box h k [Step.av x]=f_box h k [.agg [.str x.op.bs,.int .i64 x.num,.sl x.args.nl (x.args.es.map intA) x.args.cl]]:=by rw [Step.avc]
attribute [go_sem high] Step.cells_av Step.isAgg_av Step.fits_av Step.tree_av Step.treeL_av
attribute [go_sem ↓ high] Step.fld_av Step.fad_av Step.box_av
theorem Val.avc (x:Val):Val.av x = .agg [.str x.v.bs,.int .i64 x.n]:=rfl
theorem Val.cells_av (x:Val):(Val.av x).cells=[.str x.v.bs,.int .i64 x.n]:=by rw [Val.avc];rfl
theorem Val.isAgg_av (x:Val):(Val.av x).isAgg=true:=by rw [Val.avc];rfl
theorem Val.fits_av (x:Val):(Val.av x).fits 2 true=true:=by rw [Val.avc];rfl
theorem Val.tree_av (x:Val):(Val.av x).tree=true:=by rw [Val.avc];simp [go_sem]
theorem Val.treeL_av (l:List Val):Tev.treeL (l.map Val.av)=true:=treeL_map Val.tree_av l
theorem Val.fld_av (off sz:Nat) (ag:Bool) (x:Val):f_fld off sz ag [Val.av x]=f_fld off sz ag [.agg [.str x.v.bs,.int .i64 x.n]]:=by rw [Val.avc]
theorem Val.fad_av (off sz:Nat) (ag:Bool) (x:Val):f_fad off sz ag [.fp (Val.av x)]=f_fad off sz ag [.fp (.agg [.str x.v.bs,.int .i64 x.n])]:=by rw [Val.avc]
theorem Val.box_av (h:Hp) (k:Nat) (x:Val):f_box h k [Val.av x]=f_box h k [.agg [.str x.v.bs,.int .i64 x.n]]:=by rw [Val.avc]
theorem Val.eqs_av (ng:Bool) (qs:List Nat) (x y:Val):f_eqs ng qs [Val.av x,Val.av y]=f_eqs ng qs [.agg [.str x.v.bs,.int .i64 x.n],.agg [.str y.v.bs,.int .i64 y.n]]:=by rw [Val.avc,Val.avc]
attribute [go_sem ↓ high] Val.eqs_av
attribute [go_sem high] Val.cells_av Val.isAgg_av Val.fits_av Val.tree_av Val.treeL_av
attribute [go_sem ↓ high] Val.fld_av Val.fad_av Val.box_av
theorem Pull.avc (x:Pull):Pull.av x = .agg [.str x.op.bs,.int .i64 x.num,.int .i64 x.value,.str x.name.bs,.sl x.at_.nl (x.at_.es.map Lin.av) x.at_.cl,.bool x.dyn,.int .i64 x.check,.sl x.fn.nl (x.fn.es.map Step.av) x.fn.cl,.sl x.knl (x.kids.map Pull.av) x.kcl]:=Pull.av_eq x
theorem Pull.cells_av (x:Pull):(Pull.av x).cells=[.str x.op.bs,.int .i64 x.num,.int .i64 x.value,.str x.name.bs,.sl x.at_.nl (x.at_.es.map Lin.av) x.at_.cl,.bool x.dyn,.int .i64 x.check,.sl x.fn.nl (x.fn.es.map Step.av) x.fn.cl,.sl x.knl (x.kids.map Pull.av) x.kcl]:=by rw [Pull.avc];rfl
theorem Pull.isAgg_av (x:Pull):(Pull.av x).isAgg=true:=by rw [Pull.avc];rfl
theorem Pull.fits_av (x:Pull):(Pull.av x).fits 9 true=true:=by rw [Pull.avc];rfl
mutual
theorem Pull.tree_av:∀ x:Pull,(Pull.av x).tree=true
 | .mk op num value name at_ dyn check fn knl kids kcl=>by
  have:=Pull.tree_avs kids
  simp [Pull.av,go_sem,treeL_map Lin.tree_av,treeL_map Step.tree_av,this]
theorem Pull.tree_avs:∀ l:List Pull,Tev.treeL (Pull.avs l)=true
 | []=>by simp [Pull.avs,Tev.treeL]
 | p :: r=>by simp [Pull.avs,Tev.treeL,Pull.tree_av p,Pull.tree_avs r]
end
theorem Pull.treeL_av (l:List Pull):Tev.treeL (l.map Pull.av)=true:=treeL_map Pull.tree_av l
theorem Pull.fld_av (off sz:Nat) (ag:Bool) (x:Pull):f_fld off sz ag [Pull.av x]=f_fld off sz ag [.agg [.str x.op.bs,.int .i64 x.num,.int .i64 x.value,.str x.name.bs,.sl x.at_.nl (x.at_.es.map Lin.av) x.at_.cl,.bool x.dyn,.int .i64 x.check,.sl x.fn.nl (x.fn.es.map Step.av) x.fn.cl,.sl x.knl (x.kids.map Pull.av) x.kcl]]:=by rw [Pull.avc]
theorem Pull.fad_av (off sz:Nat) (ag:Bool) (x:Pull):f_fad off sz ag [.fp (Pull.av x)]=f_fad off sz ag [.fp (.agg [.str x.op.bs,.int .i64 x.num,.int .i64 x.value,.str x.name.bs,.sl x.at_.nl (x.at_.es.map Lin.av) x.at_.cl,.bool x.dyn,.int .i64 x.check,.sl x.fn.nl (x.fn.es.map Step.av) x.fn.cl,.sl x.knl (x.kids.map Pull.av) x.kcl])]:=by rw [Pull.avc]
theorem Pull.box_av (h:Hp) (k:Nat) (x:Pull):f_box h k [Pull.av x]=f_box h k [.agg [.str x.op.bs,.int .i64 x.num,.int .i64 x.value,.str x.name.bs,.sl x.at_.nl (x.at_.es.map Lin.av) x.at_.cl,.bool x.dyn,.int .i64 x.check,.sl x.fn.nl (x.fn.es.map Step.av) x.fn.cl,.sl x.knl (x.kids.map Pull.av) x.kcl]]:=by rw [Pull.avc]
attribute [go_sem high] Pull.cells_av Pull.isAgg_av Pull.fits_av Pull.tree_av Pull.treeL_av
attribute [go_sem ↓ high] Pull.fld_av Pull.fad_av Pull.box_av
theorem Kernel.avc (x:Kernel):Kernel.av x = .agg [.int .i64 x.kind,.int .i64 x.value,.sl x.space.nl (x.space.es.map Lin.av) x.space.cl,.str x.body.op.bs,.int .i64 x.body.num,.int .i64 x.body.value,.str x.body.name.bs,.sl x.body.at_.nl (x.body.at_.es.map Lin.av) x.body.at_.cl,.bool x.body.dyn,.int .i64 x.body.check,.sl x.body.fn.nl (x.body.fn.es.map Step.av) x.body.fn.cl,.sl x.body.knl (x.body.kids.map Pull.av) x.body.kcl,.sl x.fn.nl (x.fn.es.map Step.av) x.fn.cl,.int .i64 x.source,.str x.index.op.bs,.int .i64 x.index.num,.int .i64 x.index.value,.str x.index.name.bs,.sl x.index.at_.nl (x.index.at_.es.map Lin.av) x.index.at_.cl,.bool x.index.dyn,.int .i64 x.index.check,.sl x.index.fn.nl (x.index.fn.es.map Step.av) x.index.fn.cl,.sl x.index.knl (x.index.kids.map Pull.av) x.index.kcl,.int .i64 x.check]:=rfl
theorem Kernel.cells_av (x:Kernel):(Kernel.av x).cells=[.int .i64 x.kind,.int .i64 x.value,.sl x.space.nl (x.space.es.map Lin.av) x.space.cl,.str x.body.op.bs,.int .i64 x.body.num,.int .i64 x.body.value,.str x.body.name.bs,.sl x.body.at_.nl (x.body.at_.es.map Lin.av) x.body.at_.cl,.bool x.body.dyn,.int .i64 x.body.check,.sl x.body.fn.nl (x.body.fn.es.map Step.av) x.body.fn.cl,.sl x.body.knl (x.body.kids.map Pull.av) x.body.kcl,.sl x.fn.nl (x.fn.es.map Step.av) x.fn.cl,.int .i64 x.source,.str x.index.op.bs,.int .i64 x.index.num,.int .i64 x.index.value,.str x.index.name.bs,.sl x.index.at_.nl (x.index.at_.es.map Lin.av) x.index.at_.cl,.bool x.index.dyn,.int .i64 x.index.check,.sl x.index.fn.nl (x.index.fn.es.map Step.av) x.index.fn.cl,.sl x.index.knl (x.index.kids.map Pull.av) x.index.kcl,.int .i64 x.check]:=by rw [Kernel.avc];rfl
theorem Kernel.isAgg_av (x:Kernel):(Kernel.av x).isAgg=true:=by rw [Kernel.avc];rfl
theorem Kernel.fits_av (x:Kernel):(Kernel.av x).fits 24 true=true:=by rw [Kernel.avc];rfl
theorem Kernel.tree_av (x:Kernel):(Kernel.av x).tree=true:=by rw [Kernel.avc];simp [go_sem]
theorem Kernel.treeL_av (l:List Kernel):Tev.treeL (l.map Kernel.av)=true:=treeL_map Kernel.tree_av l
theorem Kernel.fld_av (off sz:Nat) (ag:Bool) (x:Kernel):f_fld off sz ag [Kernel.av x]=f_fld off sz ag [.agg [.int .i64 x.kind,.int .i64 x.value,.sl x.space.nl (x.space.es.map Lin.av) x.space.cl,.str x.body.op.bs,.int .i64 x.body.num,.int .i64 x.body.value,.str x.body.name.bs,.sl x.body.at_.nl (x.body.at_.es.map Lin.av) x.body.at_.cl,.bool x.body.dyn,.int .i64 x.body.check,.sl x.body.fn.nl (x.body.fn.es.map Step.av) x.body.fn.cl,.sl x.body.knl (x.body.kids.map Pull.av) x.body.kcl,.sl x.fn.nl (x.fn.es.map Step.av) x.fn.cl,.int .i64 x.source,.str x.index.op.bs,.int .i64 x.index.num,.int .i64 x.index.value,.str x.index.name.bs,.sl x.index.at_.nl (x.index.at_.es.map Lin.av) x.index.at_.cl,.bool x.index.dyn,.int .i64 x.index.check,.sl x.index.fn.nl (x.index.fn.es.map Step.av) x.index.fn.cl,.sl x.index.knl (x.index.kids.map Pull.av) x.index.kcl,.int .i64 x.check]]:=by rw [Kernel.avc]
theorem Kernel.fad_av (off sz:Nat) (ag:Bool) (x:Kernel):f_fad off sz ag [.fp (Kernel.av x)]=f_fad off sz ag [.fp (.agg [.int .i64 x.kind,.int .i64 x.value,.sl x.space.nl (x.space.es.map Lin.av) x.space.cl,.str x.body.op.bs,.int .i64 x.body.num,.int .i64 x.body.value,.str x.body.name.bs,.sl x.body.at_.nl (x.body.at_.es.map Lin.av) x.body.at_.cl,.bool x.body.dyn,.int .i64 x.body.check,.sl x.body.fn.nl (x.body.fn.es.map Step.av) x.body.fn.cl,.sl x.body.knl (x.body.kids.map Pull.av) x.body.kcl,.sl x.fn.nl (x.fn.es.map Step.av) x.fn.cl,.int .i64 x.source,.str x.index.op.bs,.int .i64 x.index.num,.int .i64 x.index.value,.str x.index.name.bs,.sl x.index.at_.nl (x.index.at_.es.map Lin.av) x.index.at_.cl,.bool x.index.dyn,.int .i64 x.index.check,.sl x.index.fn.nl (x.index.fn.es.map Step.av) x.index.fn.cl,.sl x.index.knl (x.index.kids.map Pull.av) x.index.kcl,.int .i64 x.check])]:=by rw [Kernel.avc]
theorem Kernel.box_av (h:Hp) (k:Nat) (x:Kernel):f_box h k [Kernel.av x]=f_box h k [.agg [.int .i64 x.kind,.int .i64 x.value,.sl x.space.nl (x.space.es.map Lin.av) x.space.cl,.str x.body.op.bs,.int .i64 x.body.num,.int .i64 x.body.value,.str x.body.name.bs,.sl x.body.at_.nl (x.body.at_.es.map Lin.av) x.body.at_.cl,.bool x.body.dyn,.int .i64 x.body.check,.sl x.body.fn.nl (x.body.fn.es.map Step.av) x.body.fn.cl,.sl x.body.knl (x.body.kids.map Pull.av) x.body.kcl,.sl x.fn.nl (x.fn.es.map Step.av) x.fn.cl,.int .i64 x.source,.str x.index.op.bs,.int .i64 x.index.num,.int .i64 x.index.value,.str x.index.name.bs,.sl x.index.at_.nl (x.index.at_.es.map Lin.av) x.index.at_.cl,.bool x.index.dyn,.int .i64 x.index.check,.sl x.index.fn.nl (x.index.fn.es.map Step.av) x.index.fn.cl,.sl x.index.knl (x.index.kids.map Pull.av) x.index.kcl,.int .i64 x.check]]:=by rw [Kernel.avc]
attribute [go_sem high] Kernel.cells_av Kernel.isAgg_av Kernel.fits_av Kernel.tree_av Kernel.treeL_av
attribute [go_sem ↓ high] Kernel.fld_av Kernel.fad_av Kernel.box_av
theorem Kernels.avc (x:Kernels):Kernels.av x = .agg [.sl x.vars.nl (x.vars.es.map Str.av) x.vars.cl,.sl x.wher.nl (x.wher.es.map Lin.av) x.wher.cl,.int .i64 x.inputs,.sl x.values.nl (x.values.es.map Typ.av) x.values.cl,.sl x.list.nl (x.list.es.map Kernel.av) x.list.cl,.sl x.results.nl (x.results.es.map intA) x.results.cl]:=rfl
theorem Kernels.cells_av (x:Kernels):(Kernels.av x).cells=[.sl x.vars.nl (x.vars.es.map Str.av) x.vars.cl,.sl x.wher.nl (x.wher.es.map Lin.av) x.wher.cl,.int .i64 x.inputs,.sl x.values.nl (x.values.es.map Typ.av) x.values.cl,.sl x.list.nl (x.list.es.map Kernel.av) x.list.cl,.sl x.results.nl (x.results.es.map intA) x.results.cl]:=by rw [Kernels.avc];rfl
theorem Kernels.isAgg_av (x:Kernels):(Kernels.av x).isAgg=true:=by rw [Kernels.avc];rfl
theorem Kernels.fits_av (x:Kernels):(Kernels.av x).fits 6 true=true:=by rw [Kernels.avc];rfl
theorem Kernels.tree_av (x:Kernels):(Kernels.av x).tree=true:=by rw [Kernels.avc];simp [go_sem]
theorem Kernels.treeL_av (l:List Kernels):Tev.treeL (l.map Kernels.av)=true:=treeL_map Kernels.tree_av l
theorem Kernels.fld_av (off sz:Nat) (ag:Bool) (x:Kernels):f_fld off sz ag [Kernels.av x]=f_fld off sz ag [.agg [.sl x.vars.nl (x.vars.es.map Str.av) x.vars.cl,.sl x.wher.nl (x.wher.es.map Lin.av) x.wher.cl,.int .i64 x.inputs,.sl x.values.nl (x.values.es.map Typ.av) x.values.cl,.sl x.list.nl (x.list.es.map Kernel.av) x.list.cl,.sl x.results.nl (x.results.es.map intA) x.results.cl]]:=by rw [Kernels.avc]
theorem Kernels.fad_av (off sz:Nat) (ag:Bool) (x:Kernels):f_fad off sz ag [.fp (Kernels.av x)]=f_fad off sz ag [.fp (.agg [.sl x.vars.nl (x.vars.es.map Str.av) x.vars.cl,.sl x.wher.nl (x.wher.es.map Lin.av) x.wher.cl,.int .i64 x.inputs,.sl x.values.nl (x.values.es.map Typ.av) x.values.cl,.sl x.list.nl (x.list.es.map Kernel.av) x.list.cl,.sl x.results.nl (x.results.es.map intA) x.results.cl])]:=by rw [Kernels.avc]
theorem Kernels.box_av (h:Hp) (k:Nat) (x:Kernels):f_box h k [Kernels.av x]=f_box h k [.agg [.sl x.vars.nl (x.vars.es.map Str.av) x.vars.cl,.sl x.wher.nl (x.wher.es.map Lin.av) x.wher.cl,.int .i64 x.inputs,.sl x.values.nl (x.values.es.map Typ.av) x.values.cl,.sl x.list.nl (x.list.es.map Kernel.av) x.list.cl,.sl x.results.nl (x.results.es.map intA) x.results.cl]]:=by rw [Kernels.avc]
attribute [go_sem high] Kernels.cells_av Kernels.isAgg_av Kernels.fits_av Kernels.tree_av Kernels.treeL_av
attribute [go_sem ↓ high] Kernels.fld_av Kernels.fad_av Kernels.box_av
theorem getMid {α : Type} (d:List α) (x : α) (r:List α):(d++x :: r)[d.length]?=some x:=by simp
theorem ltMid {α : Type} (d:List α) (x : α) (r:List α):decide ((d.length:Int) < ((d++x :: r).length:Int))=true:=by
 simp only [List.length_append,List.length_cons,decide_eq_true_eq];omega
theorem ltEnd {α : Type} (d:List α):decide ((d.length:Int) < ((d++[]).length:Int))=false:=by simp
theorem wr_small {n:Int} (h1 : -1000000000000000000≤n) (h2:n≤1000000000000000000):wr .i64 n=n:=by
 simp only [wr];rw [if_pos (by omega)]
theorem wr_mid {α : Type} {d:List α} {x : α} {r:List α} (h:(d++x :: r).length≤big):wr .i64 ((d.length:Int)+1)=((d++[x]).length:Int):=by
 simp only [List.length_append,List.length_cons,List.length_nil,big] at *
 rw [wr_small (by omega) (by omega)]
 omega
theorem XX_list {pg:Pg} {kb:Nat} {α : Type} (es:List α) (E:List α → List α → List AV→Hp→Prop) {b:C} {clr:List Bool} {st:St} {Q:Ex→St→Prop} {t:Tok Q} (h0:E [] es (clear clr st.env) st.hp)
  (hend:∀ env hp,E es [] env hp→XX pg kb b ⟨env,hp⟩ (thenQ (fun _=>False) Q) ⟨⟩)
  (hstep:∀ d x r env hp,es=d++x :: r→E d (x :: r) env hp→XX pg kb b ⟨env,hp⟩ (thenQ (fun st'=>E (d++[x]) r (clear clr st'.env) st'.hp) Q) ⟨⟩) :
  XX pg kb (.loop b clr) st Q t:=by
 refine XX_rounds (α:={p:List α × List α // es=p.1++p.2}) (fun p=>p.1.2.length) (fun p=>E p.1.1 p.1.2) ⟨([],es),rfl⟩ h0 ?_
 rintro ⟨⟨d,r⟩,hes⟩ env hp hE
 dsimp only at hes hE ⊢
 cases r with
 | nil=>
  rw [List.append_nil] at hes
  subst hes
  obtain ⟨n,ex,st',h1,h2⟩:=hend env hp hE
  refine ⟨n,ex,st',h1,?_⟩
  cases ex with
  | nor=>exact h2.elim
  | ext i=>exact h2
  | ret=>exact h2
 | cons x r=>
  obtain ⟨n,ex,st',h1,h2⟩:=hstep d x r env hp hes hE
  refine ⟨n,ex,st',h1,?_⟩
  cases ex with
  | nor=>exact ⟨⟨(d++[x],r),by simp [hes]⟩,by simp,h2⟩
  | ext i=>exact h2
  | ret=>exact h2
theorem conv_tree {h:Hp} {v:AV} (hv:v.tree=true):conv h v=some v:=by
 have:snap depth h v=some (v,[]):=by unfold depth snap;rw [if_pos hv]
 cases v<;>first | (simp only [conv,this];rfl) | simp [AV.tree] at hv
theorem someInj {α : Type} (x y : α):(some x=some y)=(x=y):=by simp
theorem boolInj (x y:Bool):(AV.bool x=AV.bool y)=(x=y):=by simp
theorem intInj (k:IntKind) (x y:Int):(AV.int k x=AV.int k y)=(x=y):=by simp
theorem strInj (x y:List UInt8):(AV.str x=AV.str y)=(x=y):=by simp
theorem lenInt {α : Type} (l:List α):(0≤(l.length:Int))=True:=by simp
def RetP (pg:Pg) (f:Nat) (ts:List AV) (P:AV→Prop):Prop:=∃ r,Ret pg f ts r∧P r
def endP (res:List (Sum Nat (Nat × Nat × Bool))) (P:AV→Prop) (ex:Ex) (st:St):Prop:=
 match ex with
 | .ext _=>False
 | _=>∃ v,result st res=some v∧∃ r,conv st.hp v=some r∧P r
theorem endP_nor (res:List (Sum Nat (Nat × Nat × Bool))) (P:AV→Prop) (st:St):endP res P .nor st=∃ v,result st res=some v∧∃ r,conv st.hp v=some r∧P r:=rfl
theorem endP_ret (res:List (Sum Nat (Nat × Nat × Bool))) (P:AV→Prop) (st:St):endP res P .ret st=∃ v,result st res=some v∧∃ r,conv st.hp v=some r∧P r:=rfl
theorem RetP.ofX {pg:Pg} {f:Nat} {cf:CF} {vs:List AV} {P:AV→Prop} (hf:pg.fs f=some cf) (hw:XX pg 0 cf.body ⟨enter cf vs,[]⟩ (endP cf.res P) ⟨⟩):RetP pg f vs P:=by
 obtain ⟨n,ex,st,h1,h2⟩:=hw
 cases ex with
 | ext i=>exact h2.elim
 | nor=>obtain ⟨v,h3,r,h4,h5⟩:=h2;exact ⟨r,Ret.of hf ⟨n,.nor,st,h1,v,h3,h4⟩,h5⟩
 | ret=>obtain ⟨v,h3,r,h4,h5⟩:=h2;exact ⟨r,Ret.of hf ⟨n,.ret,st,h1,v,h3,h4⟩,h5⟩
def IsB (v:AV):Prop:=∃ b:Bool,v = .bool b
theorem isB_bool (b:Bool):IsB (.bool b)=True:=by simp only [IsB,eq_iff_iff,iff_true];exact ⟨b,rfl⟩
theorem RetP.mono {pg:Pg} {f:Nat} {ts:List AV} {P P':AV→Prop} (h:RetP pg f ts P) (hP:∀ r,P r→P' r):RetP pg f ts P':=by
 obtain ⟨r,h1,h2⟩:=h;exact ⟨r,h1,hP r h2⟩
theorem Ret.P {pg:Pg} {f:Nat} {ts:List AV} {r:AV} {P:AV→Prop} (h:Ret pg f ts r) (hP:P r):RetP pg f ts P:=⟨r,h,hP⟩
theorem XX_listU {pg:Pg} {kb:Nat} {α : Type} (es:List α) (U:List α → List AV→List AV) (I:List α → List α → Hp→Prop) {b:C} {clr:List Bool} {st:St} {Q:Ex→St→Prop} {t:Tok Q}
  (h0:clear clr st.env=U [] (clear clr st.env)) (i0:I [] es st.hp)
  (hend:∀ hp,I es [] hp→XX pg kb b ⟨U es (clear clr st.env),hp⟩ (thenQ (fun _=>False) Q) ⟨⟩)
  (hstep:∀ d x r hp,es=d++x :: r→I d (x :: r) hp→XX pg kb b ⟨U d (clear clr st.env),hp⟩ (thenQ (fun st'=>clear clr st'.env=U (d++[x]) (clear clr st.env)∧I (d++[x]) r st'.hp) Q) ⟨⟩) :
  XX pg kb (.loop b clr) st Q t:=by
 refine XX_list es (fun d r env hp=>env=U d (clear clr st.env)∧I d r hp) ⟨h0,i0⟩ ?_ ?_
 ·rintro env hp ⟨rfl,h⟩
  exact hend hp h
 ·rintro d x r env hp hes ⟨rfl,h⟩
  exact hstep d x r hp hes h
attribute [go_sem ↓] endP_nor endP_ret
attribute [go_sem] isB_bool
theorem mapS_nil (f:AV→Option (AV × List Nat)):mapS f []=some ([],[]):=rfl
theorem mapS_cons (f:AV→Option (AV × List Nat)) (x:AV) (r:List AV):mapS f (x :: r)=match f x with
  | none=>none
  | some (y,s)=>match mapS f r with
   | none=>none
   | some (l,s')=>some (y :: l,s++s'):=rfl
theorem snapX (d:Nat) (h:Hp) (v:AV):snap (d+1) h v=(if v.tree then some (v,[]) else
  match v with
  | .agg cs=>(mapS (snap d h) cs).map fun (l,s)=>(.agg l,s)
  | .tup cs=>(mapS (snap d h) cs).map fun (l,s)=>(.tup l,s)
  | .sl nl es cl=>(mapS (snap d h) es).map fun (l,s)=>(.sl nl l cl,s)
  | .ifc v=>(snap d h v).map fun (x,s)=>(.ifc x,s)
  | .fn f cs=>(mapS (snap d h) cs).map fun (l,s)=>(.fn f l,s)
  | .rf k e off len cap=>
   match h.get k with
   | some (e',.blk cs esz ag ti _)=>
    if e'=e then
     match chunk esz ag len (cs.drop off) with
     | some es=>(mapS (snap d h) es).map fun (l,s)=>(.sl false l (ti&&len == cap),k :: s)
     | none=>none
    else none
   | _=>none
  | .pt k e off=>
   match h.get k with
   | some (e',.blk cs esz ag _ _)=>
    if e'=e∧off=0∧esz=cs.length then
     match mapS (snap d h) cs with
     | some (l,s)=>if ag then some (.fp (.agg l),k :: s) else match l with | [v]=>if v.isAgg then none else some (.fp v,k :: s) | _=>none
     | none=>none
    else none
   | _=>none
  | _=>none):=by
 rfl
theorem sls1 (c:UInt8) (t:List UInt8):f_sls true false [.str (c :: t),.int .i64 1]=val (.str t):=by
 have h1:(1:Int)≤((t.length:Int)+1):=by omega
 simp [f_sls,optI,h1]
attribute [go_sem ↓] sls1
theorem callN_sub {pg pg':Pg} (h:∀ f cf,pg.fs f=some cf→pg'.fs f=some cf) (hg:pg.gl=pg'.gl) (hx:∀ f,pg.ex f=none):∀ n,CalSub (callN pg n) (callN pg' n)
 | 0=>⟨by intro f a kb hp r hq;simp [callN] at hq,by intro k e a hp r hq;simp [callN] at hq⟩
 | n+1=>by
  refine ⟨?_,fun k e a hp r hq=>by
   simp only [callN] at hq ⊢
   exact roundN_mono (fun c b st r hr=>by rw [← hg];exact exec_mono (callN_sub h hg hx n) (Nat.le_refl _) hr) hq⟩
  intro f a kb hp r hq
  simp only [callN] at hq ⊢
  cases hf:pg.fs f with
  | none=>simp [hf,hx] at hq
  | some cf=>
   rw [hf] at hq
   rw [h f cf hf]
   simp only at hq ⊢
   cases he:exec pg.gl (callN pg n) kb n cf.body ⟨enter cf a,hp⟩ with
   | none=>simp [he] at hq
   | some p=>
    rw [he] at hq
    rw [← hg,exec_mono (callN_sub h hg hx n) (Nat.le_refl _) he]
    exact hq
theorem Ret.closed {pg:Pg} (t:BT CF) (ht:∀ f cf,t.find f=some cf→pg.fs f=some cf) (n:Nat) {f:Nat} {ts:List AV} {r:AV} (h:callP (callN ⟨fun f=>t.find f,pg.gl,fun _=>none⟩ n) f ts=some r):Ret pg f ts r:=
 ⟨n,callP_mono (callN_sub (pg:=⟨fun f=>t.find f,pg.gl,fun _=>none⟩) ht rfl (fun _=>rfl) n) h⟩
theorem cst1:(((1:Nat):Int))=1:=rfl
theorem cst2:(((2:Nat):Int))=2:=rfl
theorem cst3:(((3:Nat):Int))=3:=rfl
theorem cst4:(((4:Nat):Int))=4:=rfl
theorem cst5:(((5:Nat):Int))=5:=rfl
theorem cst6:(((6:Nat):Int))=6:=rfl
theorem cst7:(((7:Nat):Int))=7:=rfl
theorem cst8:(((8:Nat):Int))=8:=rfl
theorem cst9:(((9:Nat):Int))=9:=rfl
theorem cst10:(((10:Nat):Int))=10:=rfl
theorem cst11:(((11:Nat):Int))=11:=rfl
theorem cst12:(((12:Nat):Int))=12:=rfl
attribute [go_sem] cst1 cst2 cst3 cst4 cst5 cst6 cst7 cst8 cst9 cst10 cst11 cst12
attribute [go_sem] Z Y N i0 i1 bN bY sN
attribute [go_sem] getMid ltMid ltEnd conv_tree someInj boolInj intInj strInj clear lenInt eqS_eq
end Go.Tev
end
section
namespace Go.Tev
def idxFM:List Bool:=[true,true,false,false,false,false,false,true,true,false,false,false,false,false,false,false,false,false,false]
def idxFL (esz:Nat) (ag:Bool):C:=
 (.seq (.reg [⟨(some 9),(.bin .lss),[.t 8,.t 7],none,0,0⟩] false)
 (.seq (.cond (.t 9) .skip
  (.exit 0))
 (.seq (.block 1 (.seq (.reg [⟨(some 10),.mov,[.t 8],none,0,0⟩,
  ⟨(some 5),.mov,[.t 10],none,0,0⟩] false)
 (.seq (.reg [⟨(some 11),.mov,[.t 1],none,0,0⟩,
  ⟨(some 12),.mov,[.t 0],none,0,0⟩,
  ⟨(some 13),.mov,[.t 5],none,0,0⟩,
  ⟨(some 14),(.iad esz ag none),[.t 12,.t 13],none,0,0⟩,
  ⟨(some 15),(.load esz ag),[.t 14],none,0,0⟩,
  ⟨(some 16),(.callv false false),[.t 11,.t 15],none,0,1⟩] false)
 (.cond (.t 16) (.seq (.reg [⟨(some 17),.mov,[.t 5],none,0,0⟩,
   ⟨(some 4),.mov,[.t 17],none,0,0⟩] false)
  .ret)
  .skip))))
 (.reg [⟨(some 18),(.bin .add),[.t 8,.c (.int .i64 1)],none,0,0⟩,
  ⟨(some 8),.mov,[.t 18],none,0,0⟩] false))))
def idxF (esz:Nat) (ag:Bool):CF:=⟨2,19,[.inl 4],
 (.seq (.reg [⟨(some 4),.mov,[.c (.int .i64 0)],none,0,0⟩] false)
 (.seq (.seq (.reg [⟨(some 6),.mov,[.t 0],none,0,0⟩,
  ⟨(some 7),(.len 1),[.t 6],none,0,0⟩,
  ⟨(some 8),.mov,[.c (.int .i64 0)],none,0,0⟩] false)
 (.block 0 (.loop (idxFL esz ag) idxFM)))
 (.seq (.reg [⟨(some 4),.mov,[.c (.int .i64 (-1))],none,0,0⟩] false)
 .ret)))⟩
def conF (n:Nat):CF:=⟨2,9,[.inl 4],
 (.seq (.reg [⟨(some 4),.mov,[.c (.bool false)],none,0,0⟩] false)
 (.seq (.reg [⟨(some 5),.mov,[.t 0],none,0,0⟩,
  ⟨(some 6),.mov,[.t 1],none,0,0⟩,
  ⟨(some 7),(.call n false false),[.t 5,.t 6],none,0,1⟩,
  ⟨(some 8),(.bin .geq),[.t 7,.c (.int .i64 0)],none,0,0⟩,
  ⟨(some 4),.mov,[.t 8],none,0,0⟩] false)
 .ret))⟩
def idxVM:List Bool:=[true,true,false,false,false,false,false,true,true,false,false,false,false,false,false,false,false,false,false]
def idxVL (esz:Nat) (ag:Bool) (k:K):C:=
 (.seq (.reg [⟨(some 9),(.bin .lss),[.t 8,.t 7],none,0,0⟩] false)
 (.seq (.cond (.t 9) .skip
  (.exit 0))
 (.seq (.block 1 (.seq (.reg [⟨(some 10),.mov,[.t 8],none,0,0⟩,
  ⟨(some 5),.mov,[.t 10],none,0,0⟩] false)
 (.seq (.reg [⟨(some 11),.mov,[.t 1],none,0,0⟩,
  ⟨(some 12),.mov,[.t 0],none,0,0⟩,
  ⟨(some 13),.mov,[.t 5],none,0,0⟩,
  ⟨(some 14),(.iad esz ag none),[.t 12,.t 13],none,0,0⟩,
  ⟨(some 15),(.load esz ag),[.t 14],none,0,0⟩,
  ⟨(some 16),k,[.t 11,.t 15],none,0,0⟩] false)
 (.cond (.t 16) (.seq (.reg [⟨(some 17),.mov,[.t 5],none,0,0⟩,
   ⟨(some 4),.mov,[.t 17],none,0,0⟩] false)
  .ret)
  .skip))))
 (.reg [⟨(some 18),(.bin .add),[.t 8,.c (.int .i64 1)],none,0,0⟩,
  ⟨(some 8),.mov,[.t 18],none,0,0⟩] false))))
def idxV (esz:Nat) (ag:Bool) (k:K):CF:=⟨2,19,[.inl 4],
 (.seq (.reg [⟨(some 4),.mov,[.c (.int .i64 0)],none,0,0⟩] false)
 (.seq (.seq (.reg [⟨(some 6),.mov,[.t 0],none,0,0⟩,
  ⟨(some 7),(.len 1),[.t 6],none,0,0⟩,
  ⟨(some 8),.mov,[.c (.int .i64 0)],none,0,0⟩] false)
 (.block 0 (.loop (idxVL esz ag k) idxVM)))
 (.seq (.reg [⟨(some 4),.mov,[.c (.int .i64 (-1))],none,0,0⟩] false)
 .ret)))⟩
def eqFM:List Bool:=[false,true,true,false,false,false,false,false,false,false,false,false,false,false,false,true,true,true,false,false,false,false,false,false,false,false,false,false,false,false,false,false]
def eqFL (esz:Nat) (ag:Bool) (z:List AV):C:=
 (.seq (.reg [⟨(some 18),(.bin .lss),[.t 17,.t 16],none,0,0⟩] false)
 (.seq (.cond (.t 18) .skip
  (.exit 0))
 (.seq (.block 1 (.seq (.reg [⟨(some 19),.mov,[.t 17],none,0,0⟩,
  ⟨(some 20),(.iad esz ag none),[.t 15,.t 17],none,0,0⟩,
  ⟨(some 21),(.load esz ag),[.t 20],none,0,0⟩,
  ⟨(some 8),(.alloc z ag),[],none,0,1⟩,
  ⟨(some 7),.mov,[.t 19],none,0,0⟩,
  ⟨none,(.store esz ag),[.t 8,.t 21],none,0,0⟩] false)
 (.seq (.reg [⟨(some 22),.mov,[.t 1],none,0,0⟩,
  ⟨(some 23),.mov,[.t 7],none,0,0⟩,
  ⟨(some 24),(.iad esz ag none),[.t 22,.t 23],none,0,0⟩,
  ⟨(some 25),(.load esz ag),[.t 24],none,0,0⟩,
  ⟨(some 9),(.alloc z ag),[],none,0,5⟩,
  ⟨none,(.store esz ag),[.t 9,.t 25],none,0,0⟩] false)
 (.seq (.reg [⟨(some 26),.mov,[.t 2],none,0,0⟩,
  ⟨(some 27),(.load esz ag),[.t 8],none,0,0⟩,
  ⟨(some 28),(.load esz ag),[.t 9],none,0,0⟩,
  ⟨(some 29),(.callv false false),[.t 26,.t 27,.t 28],none,0,9⟩,
  ⟨(some 30),(.un .not),[.t 29],none,0,0⟩] false)
 (.cond (.t 30) (.seq (.reg [⟨(some 6),.mov,[.c (.bool false)],none,0,0⟩] false)
  .ret)
  .skip)))))
 (.reg [⟨(some 31),(.bin .add),[.t 17,.c (.int .i64 1)],none,0,0⟩,
  ⟨(some 17),.mov,[.t 31],none,0,0⟩] false))))
def eqF (esz:Nat) (ag:Bool) (z:List AV):CF:=⟨3,32,[.inl 6],
 (.seq (.reg [⟨(some 6),.mov,[.c (.bool false)],none,0,0⟩] false)
 (.seq (.seq (.reg [⟨(some 10),.mov,[.t 0],none,0,0⟩,
  ⟨(some 11),(.len 1),[.t 10],none,0,0⟩,
  ⟨(some 12),.mov,[.t 1],none,0,0⟩,
  ⟨(some 13),(.len 1),[.t 12],none,0,0⟩,
  ⟨(some 14),(.bin .neq),[.t 11,.t 13],none,0,0⟩] false)
 (.cond (.t 14) (.seq (.reg [⟨(some 6),.mov,[.c (.bool false)],none,0,0⟩] false)
  .ret)
  .skip))
 (.seq (.seq (.reg [⟨(some 15),.mov,[.t 0],none,0,0⟩,
  ⟨(some 16),(.len 1),[.t 15],none,0,0⟩,
  ⟨(some 17),.mov,[.c (.int .i64 0)],none,0,0⟩] false)
 (.block 0 (.loop (eqFL esz ag z) eqFM)))
 (.seq (.reg [⟨(some 6),.mov,[.c (.bool true)],none,0,0⟩] false)
 .ret))))⟩
def eqVM:List Bool:=[true,true,false,false,false,false,false,false,false,false,false,false,true,true,false,false,false,false,false,false,false,false,false,false,false,false]
def eqVL (esz:Nat) (ag:Bool) (k:K):C:=
 (.seq (.reg [⟨(some 14),(.bin .lss),[.t 13,.t 12],none,0,0⟩] false)
 (.seq (.cond (.t 14) .skip
  (.exit 0))
 (.seq (.block 1 (.seq (.reg [⟨(some 15),.mov,[.t 13],none,0,0⟩,
  ⟨(some 5),.mov,[.t 15],none,0,0⟩] false)
 (.seq (.reg [⟨(some 16),.mov,[.t 0],none,0,0⟩,
  ⟨(some 17),.mov,[.t 5],none,0,0⟩,
  ⟨(some 18),(.iad esz ag none),[.t 16,.t 17],none,3,0⟩,
  ⟨(some 19),(.load esz ag),[.t 18],none,7,0⟩,
  ⟨(some 20),.mov,[.t 1],none,0,0⟩,
  ⟨(some 21),.mov,[.t 5],none,0,0⟩,
  ⟨(some 22),(.iad esz ag none),[.t 20,.t 21],none,48,0⟩,
  ⟨(some 23),(.load esz ag),[.t 22],none,112,0⟩,
  ⟨(some 24),k,[.t 19,.t 23],none,255,0⟩] true)
 (.cond (.t 24) (.seq (.reg [⟨(some 4),.mov,[.c (.bool false)],none,0,0⟩] false)
  .ret)
  .skip))))
 (.reg [⟨(some 25),(.bin .add),[.t 13,.c (.int .i64 1)],none,0,0⟩,
  ⟨(some 13),.mov,[.t 25],none,0,0⟩] false))))
def eqV (esz:Nat) (ag:Bool) (k:K):CF:=⟨2,26,[.inl 4],
 (.seq (.reg [⟨(some 4),.mov,[.c (.bool false)],none,0,0⟩] false)
 (.seq (.seq (.reg [⟨(some 6),.mov,[.t 0],none,0,0⟩,
  ⟨(some 7),(.len 1),[.t 6],none,0,0⟩,
  ⟨(some 8),.mov,[.t 1],none,0,0⟩,
  ⟨(some 9),(.len 1),[.t 8],none,0,0⟩,
  ⟨(some 10),(.bin .neq),[.t 7,.t 9],none,0,0⟩] false)
 (.cond (.t 10) (.seq (.reg [⟨(some 4),.mov,[.c (.bool false)],none,0,0⟩] false)
  .ret)
  .skip))
 (.seq (.seq (.reg [⟨(some 11),.mov,[.t 0],none,0,0⟩,
  ⟨(some 12),(.len 1),[.t 11],none,0,0⟩,
  ⟨(some 13),.mov,[.c (.int .i64 0)],none,0,0⟩] false)
 (.block 0 (.loop (eqVL esz ag k) eqVM)))
 (.seq (.reg [⟨(some 4),.mov,[.c (.bool true)],none,0,0⟩] false)
 .ret))))⟩
def overFM:List Bool:=[false,false,false,true,false,false,false,true,true,true,false,false,false,false,false,false,false,false,false,false,false,false,false]
def overFL (g:Nat):C:=
 (.seq (.reg [⟨(some 10),(.bin .lss),[.t 9,.t 8],none,0,0⟩] false)
 (.seq (.cond (.t 10) .skip
  (.exit 0))
 (.seq (.block 1 (.seq (.reg [⟨(some 11),(.iad 2 true none),[.t 7,.t 9],none,0,0⟩,
  ⟨(some 12),(.load 2 true),[.t 11],none,0,0⟩,
  ⟨(some 6),(.alloc [(.int .i64 0),(.sl true [] true)] true),[],none,0,5⟩,
  ⟨none,(.store 2 true),[.t 6,.t 12],none,0,0⟩] false)
 (.seq (.reg [⟨(some 13),(.load 2 true),[.t 6],none,0,0⟩,
  ⟨(some 14),(.call 51 false false),[.t 13],none,0,9⟩,
  ⟨(some 15),(.un .not),[.t 14],none,0,0⟩,
  ⟨(some 16),.mov,[.t 15],none,0,0⟩,
  ⟨(some 17),(.load 2 true),[.t 6],(some (16,false)),0,0⟩,
  ⟨(some 18),(.call 96 false false),[.t 17],(some (16,false)),0,13⟩,
  ⟨(some 19),(.mkf g),[.t 3],(some (16,false)),0,0⟩,
  ⟨(some 20),(.call 95 false false),[.t 18,.t 19],(some (16,false)),0,17⟩,
  ⟨(some 21),.pick,[.t 16,.c (.bool true),.t 20],none,0,0⟩] false)
 (.cond (.t 21) (.seq (.reg [⟨(some 4),.mov,[.c (.bool false)],none,0,0⟩] false)
  .ret)
  .skip))))
 (.reg [⟨(some 22),(.bin .add),[.t 9,.c (.int .i64 1)],none,0,0⟩,
  ⟨(some 9),.mov,[.t 22],none,0,0⟩] false))))
def overF (g:Nat):CF:=⟨2,23,[.inl 4],
 (.seq (.reg [⟨(some 3),.box,[.t 1],none,0,1⟩,
  ⟨(some 4),.mov,[.c (.bool false)],none,0,0⟩] false)
 (.seq (.seq (.reg [⟨(some 7),.mov,[.t 0],none,0,0⟩,
  ⟨(some 8),(.len 1),[.t 7],none,0,0⟩,
  ⟨(some 9),.mov,[.c (.int .i64 0)],none,0,0⟩] false)
 (.block 0 (.loop (overFL g) overFM)))
 (.seq (.reg [⟨(some 4),.mov,[.c (.bool true)],none,0,0⟩] false)
 .ret)))⟩
section
variable {pg:Pg}
theorem idxF_ok {f:Nat} {esz:Nat} {ag:Bool} (hf:pg.fs f=some (idxF esz ag)) {α : Type} (enc : α → AV) (hfit:∀ x,(enc x).fits esz ag=true) (htree:∀ x,(enc x).tree=true)
  (nl cl:Bool) (es:List α) (hb:es.length≤big) (g:Nat) (cs:List AV) (hcs:treeL cs=true) (p : α → Bool) (hp:∀ x∈es,Ret pg g (enc x :: cs) (.bool (p x))) :
  RetP pg f [.sl nl (es.map enc) cl,.fn g cs] (fun r=>∃ i:Int,r = .int .i64 i∧decide (0≤i)=es.any p):=by
 refine RetP.ofX hf ?_
 unfold idxF
 simp only [go_sem,seval]
 refine XX_listU es (fun d e=>setD e (some 8) (.int .i64 d.length)) (fun d r hp=>es.any p=r.any p) rfl ?_ ?_ ?_
 ·rfl
 ·intro hp' hI
  simp only [idxFL,idxFM,go_sem,seval]
  simp [hI]
 ·intro d x r hp' hes hI
  subst hes
  simp only [idxFL,idxFM,hfit,go_sem,seval]
  refine XO_tree (hp x (by simp)) (by simp only [treeL,htree,hcs,List.cons_append,List.nil_append,Bool.and_true]) rfl ?_
  simp only [go_sem,seval]
  cases hx:p x
  ·simp only [wr_mid hb,go_sem,seval]
   simpa [hx] using hI
  ·simp only [go_sem,seval]
   simp [hx]
theorem conF_ok {f n:Nat} (hf:pg.fs f=some (conF n)) {a b:AV} {q:Bool} (ha:treeL [a,b]=true) (h:RetP pg n [a,b] (fun r=>∃ i:Int,r = .int .i64 i∧decide (0≤i)=q)) :
  Ret pg f [a,b] (.bool q):=by
 obtain ⟨_,h,i,rfl,hi⟩:=h
 refine Ret.ofX hf ?_
 unfold conF
 simp only [go_sem,seval]
 refine XO_tree h ha rfl ?_
 simp only [go_sem,seval]
 exact hi
theorem idxV_ok {f:Nat} {esz:Nat} {ag:Bool} {k:K} (hf:pg.fs f=some (idxV esz ag k)) {α : Type} (enc : α → AV) (hfit:∀ x,(enc x).fits esz ag=true)
  (nl cl:Bool) (es:List α) (hb:es.length≤big) (v:AV) (p : α → Bool) (hk:∀ (kb s:Nat) (h:Hp) (x : α) (Q:AV→Eff→Prop) (t:Tok Q),XO pg kb k s h [v,enc x] Q t=Q (.bool (p x)) (.pat [] [])) :
  RetP pg f [.sl nl (es.map enc) cl,v] (fun r=>∃ i:Int,r = .int .i64 i∧decide (0≤i)=es.any p):=by
 refine RetP.ofX hf ?_
 unfold idxV
 simp only [go_sem,seval]
 refine XX_listU es (fun d e=>setD e (some 8) (.int .i64 d.length)) (fun d r hp=>es.any p=r.any p) rfl ?_ ?_ ?_
 ·rfl
 ·intro hp' hI
  simp only [idxVL,idxVM,go_sem,seval]
  simp [hI]
 ·intro d x r hp' hes hI
  subst hes
  simp only [idxVL,idxVM,hfit,hk,go_sem,seval]
  cases hx:p x
  ·simp only [wr_mid hb,go_sem,seval]
   simpa [hx] using hI
  ·simp only [go_sem,seval]
   simp [hx]
def eqL {α β : Type} (q : α → β → Bool):List α → List β → Bool
 | [],[]=>true
 | x :: r,y :: s=>q x y&&eqL q r s
 | _,_=>false
theorem eqL_len {α β : Type} {q : α → β → Bool}:∀ {a:List α} {b:List β},eqL q a b=true→a.length=b.length
 | [],[],_=>rfl
 | x :: r,y :: s,h=>by simp only [eqL,Bool.and_eq_true] at h;simp [eqL_len h.2]
 | [],_ :: _,h=>by simp [eqL] at h
 | _ :: _,[],h=>by simp [eqL] at h
theorem eqF_ok {f:Nat} {esz:Nat} {ag:Bool} {z:List AV} (hz:z.length=esz) (hf:pg.fs f=some (eqF esz ag z)) {α : Type} (enc : α → AV) (cells : α → List AV) (henc:∀ x,enc x = .agg (cells x)) (hcl:∀ x,(cells x).length=esz) (hone:∀ x,allOne (cells x)=true) (hag:ag=true) (htree:∀ x,(enc x).tree=true)
  (nl cl nl' cl':Bool) (es es':List α) (hb:es.length≤big) (g:Nat) (q : α → α → Bool) (hq:∀ x∈es,∀ y∈es',Ret pg g [enc x,enc y] (.bool (q x y))) :
  Ret pg f [.sl nl (es.map enc) cl,.sl nl' (es'.map enc) cl',.fn g []] (.bool (eqL q es es')):=by
 have hfit:∀ x,(enc x).fits esz ag=true:=by intro x;rw [henc,hag];simp [AV.fits,hcl]
 have hcells:∀ x,(enc x).cells=cells x:=by intro x;rw [henc];rfl
 have hdr:List.drop esz z=[]:=by rw [← hz];simp
 have hpart:∀ x,partA (cells x) 0 esz ag=some (enc x):=by
  intro x
  rw [hag]
  have:=hcl x
  simp [partA,henc,← this]
 refine Ret.ofX hf ?_
 unfold eqF
 simp only [go_sem,seval]
 cases hl:decide ((es.length:Int)=es'.length)
 case false=>
  simp only [hl,go_sem,seval]
  cases he:eqL q es es'
  ·rfl
  ·exact absurd (congrArg Int.ofNat (eqL_len he)) (by simpa using hl)
 simp only [hl,go_sem,seval]
 have hl':es.length=es'.length:=by simp at hl;omega
 refine XX_listU es (fun d e=>setD e (some 17) (.int .i64 d.length)) (fun d r hp=>∃ d2 r2,es'=d2++r2∧d2.length=d.length∧eqL q es es'=eqL q r r2) rfl ?_ ?_ ?_
 ·exact ⟨[],es',rfl,rfl,rfl⟩
 ·rintro hp ⟨d2,r2,h1,h2,h3⟩
  simp only [eqFL,eqFM,go_sem,seval]
  rw [h3]
  have:r2=[]:=by
   have:=congrArg List.length h1
   simp at this
   exact List.eq_nil_of_length_eq_zero (by omega)
  subst this
  rfl
 ·rintro d x r hp hes ⟨d2,r2,h1,h2,h3⟩
  have hlen:r2.length=(x :: r).length:=by
   have e1:=congrArg List.length h1
   have e2:=congrArg List.length hes
   simp at e1 e2 ⊢
   omega
  obtain ⟨y,r2,rfl⟩:∃ y s,r2=y :: s:=by
   cases r2 with
   | nil=>simp at hlen
   | cons y s=>exact ⟨y,s,rfl⟩
  have hy:es'[d.length]?=some y:=by rw [h1,← h2];simp
  subst hes
  simp only [eqFL,eqFM,hfit,hcells,hz,hcl,hone,hpart,hy,hdr,Nat.zero_add,Nat.le_refl,List.append_nil,go_sem,seval]
  refine XO_tree (hq x (by simp) y (by rw [h1];simp)) (by simp only [treeL,htree,Bool.and_true,List.append_nil]) rfl ?_
  simp only [go_sem,seval]
  cases hx:q x y
  ·simp only [go_sem,seval]
   rw [h3]
   simp [eqL,hx]
  ·simp only [wr_mid hb,go_sem,seval]
   exact ⟨d2++[y],r2,by simp [h1],by simp [h2],by simpa [eqL,hx] using h3⟩
theorem eqV_ok {f:Nat} {esz:Nat} {ag:Bool} {k:K} (hf:pg.fs f=some (eqV esz ag k)) {α : Type} (enc : α → AV) (hfit:∀ x,(enc x).fits esz ag=true)
  (nl cl nl' cl':Bool) (es es':List α) (hb:es.length≤big) (q : α → α → Bool)
  (hk:∀ (kb s:Nat) (h:Hp) (x y : α) (Q:AV→Eff→Prop) (t:Tok Q),XO pg kb k s h [enc x,enc y] Q t=Q (.bool (!q x y)) (.pat [] [])) (hnc:k.isCall=false) :
  Ret pg f [.sl nl (es.map enc) cl,.sl nl' (es'.map enc) cl'] (.bool (eqL q es es')):=by
 refine Ret.ofX hf ?_
 unfold eqV
 simp only [go_sem,seval]
 cases hl:decide ((es.length:Int)=es'.length)
 case false=>
  simp only [hl,go_sem,seval]
  cases he:eqL q es es'
  ·rfl
  ·exact absurd (congrArg Int.ofNat (eqL_len he)) (by simpa using hl)
 simp only [hl,go_sem,seval]
 have hl':es.length=es'.length:=by simp at hl;omega
 refine XX_listU es (fun d e=>setD e (some 13) (.int .i64 d.length)) (fun d r hp=>∃ d2 r2,es'=d2++r2∧d2.length=d.length∧eqL q es es'=eqL q r r2) rfl ?_ ?_ ?_
 ·exact ⟨[],es',rfl,rfl,rfl⟩
 ·rintro hp ⟨d2,r2,h1,h2,h3⟩
  simp only [eqVL,eqVM,go_sem,seval]
  rw [h3]
  have:r2=[]:=by
   have:=congrArg List.length h1
   simp at this
   exact List.eq_nil_of_length_eq_zero (by omega)
  subst this
  rfl
 ·rintro d x r hp hes ⟨d2,r2,h1,h2,h3⟩
  have hlen:r2.length=(x :: r).length:=by
   have e1:=congrArg List.length h1
   have e2:=congrArg List.length hes
   simp at e1 e2 ⊢
   omega
  obtain ⟨y,r2,rfl⟩:∃ y s,r2=y :: s:=by
   cases r2 with
   | nil=>simp at hlen
   | cons y s=>exact ⟨y,s,rfl⟩
  have hy:es'[d.length]?=some y:=by rw [h1,← h2];simp
  subst hes
  simp only [eqVL,eqVM,hfit,hy,hk,go_sem,seval]
  refine And.intro (by kernel_rfl) ?_
  cases hx:q x y
  ·simp only [go_sem,seval]
   rw [h3]
   simp [eqL,hx]
  ·simp only [wr_mid hb,go_sem,seval]
   exact ⟨d2++[y],r2,by simp [h1],by simp [h2],by simpa [eqL,hx] using h3⟩
end
end Go.Tev
end
section
namespace Go.Tev
structure El (esz:Nat) (ag:Bool) (v:AV):Prop where
 fits:v.fits esz ag=true
 one:allOne v.cells=true
 tree:v.tree=true
theorem El.len {esz:Nat} {ag:Bool} {v:AV} (h:El esz ag v):v.cells.length=esz:=by
 have:=h.fits
 cases v<;>simp [AV.fits,AV.cells] at this ⊢ <;> first | exact this.2 | exact this.2.symm | omega
theorem El.isAgg {esz:Nat} {ag:Bool} {v:AV} (h:El esz ag v):v.isAgg=ag:=by
 have:=h.fits
 cases v<;>cases ag<;>simp [AV.fits,AV.isAgg] at this ⊢
theorem chunk_el {esz:Nat} {ag:Bool}:∀ {es:List AV},(∀ x∈es,El esz ag x)→∃ cs,unchunk esz ag es=some cs∧cs.length=es.length*esz∧allOne cs=true∧∀ tl,chunk esz ag es.length (cs++tl)=some es
 | [],_=>⟨[],rfl,by simp,rfl,fun _=>rfl⟩
 | x :: r,h=>by
  obtain ⟨cs,h1,h2,h3,h4⟩:=chunk_el (fun y hy=>h y (List.mem_cons_of_mem _ hy))
  have hx:=h x (by simp)
  have hl:=hx.len
  refine ⟨x.cells++cs,?_,?_,?_,?_⟩
  ·simp [unchunk,hx.fits,hx.one,h1]
  ·simp [h2,hl,Nat.add_mul];omega
  ·have happ:∀ (p q:List AV),allOne p=true→allOne q=true→allOne (p++q)=true:=by
    intro p q hp hq
    induction p with
    | nil=>exact hq
    | cons y s ih=>simp only [allOne,Bool.and_eq_true,List.cons_append] at hp ⊢;exact ⟨hp.1,ih hp.2⟩
   exact happ _ _ hx.one h3
  ·intro tl
   have hag:=hx.isAgg
   cases ag with
   | true=>
    obtain ⟨c,rfl⟩:∃ c,x = .agg c:=by cases x<;>simp [AV.isAgg] at hag;exact ⟨_,rfl⟩
    simp only [AV.cells] at hl
    simp only [List.length_cons,chunk,AV.cells,if_true,List.append_assoc]
    rw [if_neg (by simp [hl])]
    rw [← hl]
    simp only [List.drop_left,List.take_left]
    rw [hl,h4 tl];rfl
   | false=>
    have hc:x.cells=[x]:=by cases x<;>simp [AV.isAgg] at hag<;>rfl
    have he:esz=1:=by rw [hc] at hl;simpa using hl.symm
    subst he
    simp only [List.length_cons,chunk,hc,Bool.false_eq_true,if_false,List.cons_append,List.nil_append,hag,h4 tl]
    rfl
theorem snaps_el {h:Hp} {esz:Nat} {ag:Bool} {es:List AV} (he:∀ x∈es,El esz ag x):mapS (snap depth h) es=some (es,[]):=by
 refine mapS_tree 63 h ?_
 induction es with
 | nil=>rfl
 | cons x r ih=>simp only [treeL,Bool.and_eq_true];exact ⟨(he x (by simp)).tree,ih (fun y hy=>he y (List.mem_cons_of_mem _ hy))⟩
def Own (h:Hp) (k0 esz:Nat) (ag:Bool) (v:AV) (es:List AV):Prop:=
 (es=[]∧∃ nl cl,v = .sl nl [] cl∧(nl||cl)=true) ∨
 (∃ e cs,v = .rf k0 e 0 es.length es.length∧h.get k0=some (e,.blk cs esz ag false false)∧unchunk esz ag es=some cs)
theorem Own.mono {h h':Hp} {k0 esz:Nat} {ag:Bool} {v:AV} {es:List AV} (o:Own h k0 esz ag v es) (hh:h'.get k0=h.get k0):Own h' k0 esz ag v es:=by
 rcases o with o | ⟨e,cs,h2,h3,h4⟩
 ·exact .inl o
 ·exact .inr ⟨e,cs,h2,by rw [hh];exact h3,h4⟩
theorem Own.nil (h:Hp) (k0 esz:Nat) (ag:Bool) (nl cl:Bool) (hc:(nl||cl)=true):Own h k0 esz ag (.sl nl [] cl) []:=.inl ⟨rfl,nl,cl,rfl,hc⟩
def IsSl (esz:Nat) (ag:Bool) (es:List AV) (r:AV):Prop:=
 (es=[]∧∃ nl cl,r = .sl nl [] cl∧(nl||cl)=true)∨r = .os es esz ag
theorem Own.conv {h:Hp} {k0 esz:Nat} {ag:Bool} {v:AV} {es:List AV} (o:Own h k0 esz ag v es) (he:∀ x∈es,El esz ag x):∃ r,Tev.conv h v=some r∧IsSl esz ag es r:=by
 rcases o with ⟨rfl,nl,cl,rfl,hc⟩ | ⟨e,cs,rfl,hg,hu⟩
 ·exact ⟨.sl nl [] cl,conv_tree rfl,.inl ⟨rfl,nl,cl,rfl,hc⟩⟩
 ·obtain ⟨cs',h1,h2,h3,h4⟩:=chunk_el he
  rw [hu] at h1
  cases h1
  have h5:=h4 []
  rw [List.append_nil] at h5
  refine ⟨.os es esz ag,?_,.inr rfl⟩
  simp [Tev.conv,hg,h5,snaps_el he]
theorem unchunk_append {esz:Nat} {ag:Bool}:∀ {a b:List AV} {c d:List AV},unchunk esz ag a=some c→unchunk esz ag b=some d→unchunk esz ag (a++b)=some (c++d)
 | [],b,c,d,h1,h2=>by cases h1;exact h2
 | x :: r,b,c,d,h1,h2=>by
  simp only [unchunk] at h1
  split at h1
  ·rename_i hc
   simp only [Option.map_eq_some_iff] at h1
   obtain ⟨c',h3,rfl⟩:=h1
   simp [unchunk,hc,unchunk_append h3 h2]
  ·cases h1
section
variable {pg:Pg} {kb:Nat}
theorem XO_own {esz bytes s:Nat} {ag:Bool} {h:Hp} {v:AV} {es xs:List AV} {nl cl:Bool} {Q:AV→Eff→Prop} {t:Tok Q} (o:Own h (kb+s) esz ag v es) (he:∀ x∈es,El esz ag x) (hx:∀ x∈xs,El esz ag x)
  (hl:es.length+xs.length≤1073741824) (hb:bytes≤65536)
  (q:∀ v' rd pa,Own (Eff.app h (.pat rd pa)) (kb+s) esz ag v' (es++xs)→(∀ k,k ≠ kb+s→(Eff.app h (.pat rd pa)).get k=h.get k)→(∀ x∈pa,x.k=kb+s)→Q v' (.pat rd pa)) :
  XO pg kb (.app esz ag bytes) s h [v,.sl nl xs cl] Q t:=by
 rw [XO_app]
 obtain ⟨ds,d1,d2,d3,_⟩:=chunk_el hx
 simp only [f_app,srcCells,d1,Option.map_some]
 by_cases hxs:xs=[]
 ·subst hxs
  cases d1
  rcases o with ⟨rfl,nl',cl',rfl,hc⟩ | ⟨e,cs,rfl,hg,hu⟩
  ·simp only [appA,List.length_nil,if_true]
   exact q _ _ _ (.inl ⟨rfl,nl',cl',rfl,hc⟩) (fun _ _=>rfl) (by simp)
  ·obtain ⟨cs',c1,c2,_,_⟩:=chunk_el he
   rw [hu] at c1;cases c1
   simp only [appA,hg,List.length_nil,if_true,true_and,Nat.zero_add]
   rw [if_pos (by omega)]
   exact q _ _ _ (.inr ⟨e,cs,by simp,by simpa [Eff.app,putAll] using hg,by simpa using hu⟩) (fun _ _=>rfl) (by simp)
 ·have hn:xs.length ≠ 0:=by simpa using hxs
  rcases o with ⟨rfl,nl',cl',rfl,hc⟩ | ⟨e,cs,rfl,hg,hu⟩
  ·simp only [appA,hn,if_false,hc,List.length_nil,Nat.zero_add,Bool.true_and]
   have hlx:xs.length≤1073741824:=by simpa using hl
   simp only [hlx,hb,decide_true,Bool.and_self,if_true,unchunk,List.nil_append]
   refine q _ _ _ (.inr ⟨_,ds,rfl,?_,by simpa using d1⟩) ?_ (by simp)
   ·rw [app_one,get_put,if_pos rfl]
   ·intro k hk
    rw [app_one,get_put,if_neg (Ne.symm hk)]
  ·obtain ⟨cs',c1,c2,_,_⟩:=chunk_el he
   rw [hu] at c1;cases c1
   have h1:¬ (es.length+xs.length≤es.length):=by omega
   simp only [appA,hg,hn,if_false,true_and,Nat.zero_add]
   rw [if_pos (by omega)]
   simp only [h1,if_false,hl,hb,decide_true,Bool.true_and,beq_self_eq_true,Bool.not_true,Bool.and_false,Bool.false_eq_true,Bool.not_false,if_true]
   refine q _ _ _ (.inr ⟨e+1,cs++ds,by simp,?_,unchunk_append hu d1⟩) ?_ (by simp)
   ·rw [app_one,get_put,if_pos rfl]
    simp [← c2]
   ·intro k hk
    rw [app_one,get_put,if_neg (Ne.symm hk)]
theorem XO_own2 {esz bytes s k1:Nat} {ag:Bool} {h:Hp} {v:AV} {es xs:List AV} {nl cl:Bool} {Q:AV→Eff→Prop} {t:Tok Q} (o:Own h k1 esz ag v es) (hk1:k1 ≠ kb+s) (he:∀ x∈es,El esz ag x) (hx:∀ x∈xs,El esz ag x)
  (hl:es.length+xs.length≤1073741824) (hb:bytes≤65536)
  (q1:xs=[]→∀ rd,Q v (.pat rd []))
  (q2:xs ≠ []→∀ v' rd pa,Own (Eff.app h (.pat rd pa)) (kb+s) esz ag v' (es++xs)→(∀ k,k ≠ kb+s→k ≠ k1→(Eff.app h (.pat rd pa)).get k=h.get k)→Q v' (.pat rd pa)) :
  XO pg kb (.app esz ag bytes) s h [v,.sl nl xs cl] Q t:=by
 rw [XO_app]
 obtain ⟨ds,d1,d2,d3,_⟩:=chunk_el hx
 simp only [f_app,srcCells,d1,Option.map_some]
 by_cases hxs:xs=[]
 ·subst hxs
  cases d1
  rcases o with ⟨rfl,nl',cl',rfl,hc⟩ | ⟨e,cs,rfl,hg,hu⟩
  ·simp only [appA,List.length_nil,if_true]
   exact q1 rfl _
  ·obtain ⟨cs',c1,c2,_,_⟩:=chunk_el he
   rw [hu] at c1;cases c1
   simp only [appA,hg,List.length_nil,if_true,true_and,Nat.zero_add]
   rw [if_pos (by omega)]
   exact q1 rfl _
 ·have hn:xs.length ≠ 0:=by simpa using hxs
  rcases o with ⟨rfl,nl',cl',rfl,hc⟩ | ⟨e,cs,rfl,hg,hu⟩
  ·simp only [appA,hn,if_false,hc,List.length_nil,Nat.zero_add,Bool.true_and]
   have hlx:xs.length≤1073741824:=by simpa using hl
   simp only [hlx,hb,decide_true,Bool.and_self,if_true,unchunk,List.nil_append]
   refine q2 hxs _ _ _ (.inr ⟨_,ds,rfl,?_,by simpa using d1⟩) ?_
   ·rw [app_one,get_put,if_pos rfl]
   ·intro k hk _
    rw [app_one,get_put,if_neg (Ne.symm hk)]
  ·obtain ⟨cs',c1,c2,_,_⟩:=chunk_el he
   rw [hu] at c1;cases c1
   have h1:¬ (es.length+xs.length≤es.length):=by omega
   have h2:(k1 == kb+s)=false:=by simpa using hk1
   simp only [appA,hg,hn,if_false,true_and,Nat.zero_add]
   rw [if_pos (by omega)]
   simp only [h1,if_false,hl,hb,decide_true,Bool.true_and,h2,Bool.not_false,if_true,Bool.false_eq_true]
   refine q2 hxs _ _ _ (.inr ⟨h.next (kb+s),cs++ds,by simp,?_,unchunk_append hu d1⟩) ?_
   ·rw [app_two,get_put,if_pos rfl]
    simp [← c2]
   ·intro k hk hk2
    rw [app_two,get_put,if_neg (Ne.symm hk),get_put,if_neg (Ne.symm hk2)]
theorem XO_sl {f s esz:Nat} {ag:Bool} {h:Hp} {vs es:List AV} {Q:AV→Eff→Prop} {t:Tok Q} (hr:RetP pg f vs (IsSl esz ag es)) (hm:treeL vs=true)
  (q:∀ nl cl,(nl=true→es=[])→Q (.sl nl es cl) (.pat [kb+s] [])):XO pg kb (.call f false false) s h vs Q t:=by
 obtain ⟨r,hr,⟨rfl,nl,cl,rfl,hc⟩ | rfl⟩:=hr
 ·exact XO_tree hr hm rfl (q nl cl (fun _=>rfl))
 ·refine XO_call hr (mapS_tree 63 h hm) (v:=.sl false es false) (pa:=[]) rfl ?_
  have:(if (AV.os es esz ag).flat then ([]:List Ent) else freezeK h [])++[]=[]:=by split<;>rfl
  rw [this]
  exact q false false (fun h=>by cases h)
theorem XO_slO {f s esz:Nat} {ag:Bool} {h:Hp} {vs es:List AV} {Q:AV→Eff→Prop} {t:Tok Q} (hr:RetP pg f vs (IsSl esz ag es)) (hm:treeL vs=true) (he:∀ x∈es,El esz ag x)
  (q:∀ v rd pa,Own (Eff.app h (.pat rd pa)) (kb+s) esz ag v es→(∀ k,k ≠ kb+s→(Eff.app h (.pat rd pa)).get k=h.get k)→(∀ x∈pa,x.k=kb+s)→Q v (.pat rd pa)):XO pg kb (.call f true false) s h vs Q t:=by
 obtain ⟨r,hr,⟨rfl,nl,cl,rfl,hc⟩ | rfl⟩:=hr
 ·exact XO_tree hr hm rfl (q _ _ _ (Own.nil _ _ _ _ _ _ hc) (fun _ _=>rfl) (by simp))
 ·obtain ⟨cs,c1,c2,_,_⟩:=chunk_el he
  refine XO_call hr (mapS_tree 63 h hm) (v:=.rf (kb+s) (h.next (kb+s)) 0 es.length es.length) (pa:=[⟨kb+s,h.next (kb+s),.blk cs esz ag false false⟩]) (by simp [receive,c1]) ?_
  have:(if (AV.os es esz ag).flat then ([]:List Ent) else freezeK h [])=[]:=by split<;>rfl
  rw [this,List.nil_append]
  refine q _ _ _ (.inr ⟨_,cs,rfl,?_,c1⟩) ?_ (by simp)
  ·rw [app_one,get_put,if_pos rfl]
  ·intro k hk
   rw [app_one,get_put,if_neg (Ne.symm hk)]
theorem XO_slO' {f s esz:Nat} {ag:Bool} {h:Hp} {vs es:List AV} {Q:AV→Eff→Prop} {t:Tok Q} (hr:RetP pg f vs (IsSl esz ag es)) (hm:treeL vs=true) (he:∀ x∈es,El esz ag x)
  (q1:es=[]→∀ nl cl,(nl||cl)=true→Q (.sl nl [] cl) (.pat [kb+s] []))
  (q2:∀ cs,unchunk esz ag es=some cs→chunk esz ag es.length cs=some es→Q (.rf (kb+s) (h.next (kb+s)) 0 es.length es.length) (.pat [kb+s] [⟨kb+s,h.next (kb+s),.blk cs esz ag false false⟩])):XO pg kb (.call f true false) s h vs Q t:=by
 obtain ⟨r,hr,⟨rfl,nl,cl,rfl,hc⟩ | rfl⟩:=hr
 ·exact XO_tree hr hm rfl (q1 rfl nl cl hc)
 ·obtain ⟨cs,c1,c2,_,c4⟩:=chunk_el he
  refine XO_call hr (mapS_tree 63 h hm) (v:=.rf (kb+s) (h.next (kb+s)) 0 es.length es.length) (pa:=[⟨kb+s,h.next (kb+s),.blk cs esz ag false false⟩]) (by simp [receive,c1]) ?_
  have:(if (AV.os es esz ag).flat then ([]:List Ent) else freezeK h [])=[]:=by split<;>rfl
  rw [this,List.nil_append]
  exact q2 cs c1 (by simpa using c4 [])
end
end Go.Tev
end
section
namespace Go.Tev
def digit (c:UInt8):Bool:=decide (48≤c.toNat)&&decide (c.toNat≤57)
def letter (c:UInt8):Bool:=decide (97≤c.toNat)&&decide (c.toNat≤122)
def nameU (s:List UInt8):Bool:=
 match s with
 | []=>false
 | c :: t=>decide (s.length≤30)&&(if c=95 then decide (2≤s.length)&&decide (s.length≤10) && !decide (t.head?=some 48)&&t.all digit else letter c&&t.all (fun x=>letter x||digit x))
def loopN' (i:Nat):List UInt8:=[105,UInt8.ofNat (48+i)]
def coefOK (n:Int):Bool:=decide (-1000000≤n)&&decide (n≤1000000)
def termsOK (p:List Coef):List Coef→Bool
 | []=>true
 | x :: r=>nameU x.v.bs && !decide (x.c=0)&&coefOK x.c&&(match p.getLast? with | none=>true | some q=>Op.bytesLess q.v.bs x.v.bs)&&termsOK (p++[x]) r
def linOK (l:Lin):Bool:=termsOK [] l.ts.es&&coefOK l.c&&decide ((l.ts.es.length:Int)≤12)
section
variable {pg:Pg}
theorem c89 (hf:pg.fs 89=some cf89) (n:Int):Ret pg 89 [.int .i64 n] (.bool (coefOK n)):=by
 refine Ret.ofX hf ?_
 unfold cf89
 repeat' (first | simp only [*,go_sem,seval] | refine XG_split (fun _=>?_) (fun _=>?_) | refine XC_split (fun _=>?_) (fun _=>?_) | refine And.intro (by kernel_rfl) ?_)
 all_goals simp [coefOK, *]
theorem c126 (hf:pg.fs 126=some cf126) (s p:List UInt8):Ret pg 126 [.str s,.str p] (.bool (decide (p.length≤s.length)&&decide (s.take p.length=p))):=by
 refine Ret.ofX hf ?_
 unfold cf126
 simp only [go_sem,seval]
 cases h:decide (p.length≤s.length)
 ·have h':decide ((p.length:Int)≤s.length)=false:=by simp at h ⊢;omega
  simp only [h',go_sem,seval]
 ·have h':decide ((p.length:Int)≤s.length)=true:=by simp at h ⊢;omega
  simp only [h',go_sem,seval]
  have h2:(0:Int)≤p.length∧(p.length:Int)≤s.length:=by simp at h;omega
  simp [optI,h2,val,XV,optQ]
  simp only [h',h2,go_sem,seval]
theorem c91 (hf:pg.fs 91=some cf91) (h126:pg.fs 126=some cf126) (s p:List UInt8):Ret pg 91 [.str s,.str p] (.bool (decide (p.length≤s.length)&&decide (s.take p.length=p))):=by
 refine Ret.ofX hf ?_
 unfold cf91
 simp only [go_sem,seval]
 refine XO_tree (c126 h126 s p) (by simp only [go_sem,seval]) rfl ?_
 simp only [go_sem,seval]
theorem c51 (hf:pg.fs 51=some cf51) (h89:pg.fs 89=some cf89) (h57:∀ s:Str,Ret pg 57 [.str s.bs] (.bool (nameU s.bs))) (l:Lin):Ret pg 51 [l.av] (.bool (linOK l)):=by
 refine Ret.ofX hf ?_
 unfold cf51
 simp only [go_sem,seval]
 refine XX_list l.ts.es (fun d r env hp=>hp.get 1=some (0,.blk [.int .i64 l.c,.sl l.ts.nl (l.ts.es.map Coef.av) l.ts.cl] 2 true true false) ∧
  env=cf51E0 (.pt 1 0 0) (.sl l.ts.nl (l.ts.es.map Coef.av) l.ts.cl) (.int .i64 l.ts.es.length) (.int .i64 d.length)∧linOK l=(termsOK d r&&coefOK l.c&&decide ((l.ts.es.length:Int)≤12))) ?_ ?_ ?_
 ·exact ⟨rfl,rfl,rfl⟩
 ·rintro env hp ⟨h1,rfl,hq⟩
  unfold cf51L0 cf51E0
  simp only [Int.lt_irrefl,h1,go_sem,seval]
  refine XO_tree (c89 h89 _) (by simp only [go_sem,seval]) rfl ?_
  simp only [h1,go_sem,seval]
  simp only [termsOK] at hq
  cases h9:coefOK l.c
  ·simp only [go_sem,seval]
   simp [hq,h9]
  ·simp only [h1,go_sem,seval]
   simp [hq,h9]
 ·rintro d x r env hp hes ⟨h1,rfl,hq⟩
  have hb:=l.ts.ok
  rw [hes] at hb h1 hq ⊢
  unfold cf51L0 cf51E0
  simp only [go_sem,seval]
  refine XO_tree (h57 x.v) (by simp only [go_sem,seval]) rfl ?_
  simp only [termsOK] at hq
  simp only [go_sem,seval]
  cases hn:nameU x.v.bs
  ·simp only [go_sem,seval]
   refine And.intro (by kernel_rfl) ?_
   simp [hq,hn]
  cases hc:decide (x.c=0)
  case true=>
   simp only [hc,go_sem,seval]
   refine And.intro (by kernel_rfl) ?_
   simp [hq,hc]
  simp only [hc,go_sem,seval]
  refine XO_tree (c89 h89 x.c) (by simp only [go_sem,seval]) rfl ?_
  simp only [go_sem,seval]
  cases h9:coefOK x.c
  ·simp only [go_sem,seval]
   refine And.intro (by kernel_rfl) ?_
   simp [hq,h9]
  cases hd:decide (0 < (d.length:Int))
  ·simp only [hd,wr_mid hb,go_sem,seval]
   refine And.intro (by kernel_rfl) ⟨h1,rfl,?_⟩
   have:d=[]:=by cases d<;>simp_all<;>omega
   subst this
   simp [hq,h9,hc,hn]
  ·obtain ⟨d',y,rfl⟩:∃ d' y,d=d'++[y]:=by
    rcases List.eq_nil_or_concat d with rfl | ⟨d',y,h⟩
    ·simp at hd
    ·exact ⟨d',y,by simpa using h⟩
   have hy:(d'++[y]++x :: r)[(wr .i64 (((d'++[y]).length:Int) - 1)).toNat]?=some y:=by
    have:wr .i64 (((d'++[y]).length:Int) - 1)=(d'.length:Int):=by
     simp only [List.length_append,List.length_cons,List.length_nil,big] at *
     rw [wr_small (by omega) (by omega)];omega
    rw [this];simp
   have hy0:(0≤wr .i64 (((d'++[y]).length:Int) - 1))=True:=by
    have:wr .i64 (((d'++[y]).length:Int) - 1)=(d'.length:Int):=by
     simp only [List.length_append,List.length_cons,List.length_nil,big] at *
     rw [wr_small (by omega) (by omega)];omega
    rw [this];simp
   simp only [hd,h1,hy,hy0,go_sem,seval]
   cases hl:Op.bytesLess y.v.bs x.v.bs
   ·simp only [go_sem,seval]
    refine And.intro (by kernel_rfl) ?_
    simp [hq,hl]
   ·simp only [wr_mid hb,go_sem,seval]
    refine And.intro (by kernel_rfl) ⟨h1,rfl,?_⟩
    simp [hq,h9,hc,hn,hl]
theorem El.str (s:List UInt8):El 1 false (.str s):=⟨rfl,rfl,rfl⟩
theorem El.int (n:Int):El 1 false (.int .i64 n):=⟨rfl,rfl,rfl⟩
theorem El.bool (b:Bool):El 1 false (.bool b):=⟨rfl,rfl,rfl⟩
theorem c96 (hf:pg.fs 96=some cf96) (l:Lin):RetP pg 96 [l.av] (IsSl 1 false (l.ts.es.map fun x => .str x.v.bs)):=by
 refine RetP.ofX hf ?_
 have hb:=l.ts.ok
 have hel:∀ d:List Coef,∀ x∈d.map (fun x:Coef=>AV.str x.v.bs),El 1 false x:=by
  intro d x hx
  simp only [List.mem_map] at hx
  obtain ⟨y,_,rfl⟩:=hx
  exact El.str _
 unfold cf96
 simp only [go_sem,seval]
 refine XX_list l.ts.es (fun d r env hp=>∃ v,env=cf96E0 v (.sl l.ts.nl (l.ts.es.map Coef.av) l.ts.cl) (.int .i64 l.ts.es.length) (.int .i64 d.length)∧Own hp 9 1 false v (d.map fun x => .str x.v.bs)) ?_ ?_ ?_
 ·exact ⟨_,rfl,Own.nil _ _ _ _ _ _ rfl⟩
 ·rintro env hp ⟨v,rfl,ho⟩
  simp only [cf96L0,cf96E0,go_sem,seval]
  exact ho.conv (hel _)
 ·rintro d x r env hp hes ⟨v,rfl,ho⟩
  rw [hes] at hb ⊢
  simp only [cf96L0,cf96E0,go_sem,seval]
  refine XO_own (kb:=0) (s:=9) (bytes:=16) (es:=d.map fun x => .str x.v.bs) (ho.mono ?_) (hel _) (xs:=[.str x.v.bs]) (by intro y hy;simp at hy;subst hy;exact El.str _) ?_ (by decide) ?_
  ·simp only [go_sem,seval]
  ·simp only [List.length_append,List.length_cons,List.length_nil,List.length_map,big] at *;omega
  ·intro v' rd pa ho' hk hpa
   simp only [wr_mid hb,go_sem,seval]
   exact ⟨v',rfl,by simpa using ho'⟩
theorem c138 (hf:pg.fs 138=some cf138) (nl cl:Bool) (es:List Str) (hb:es.length≤big) (v:List UInt8) :
  RetP pg 138 [.sl nl (es.map Str.av) cl,.str v] (fun r=>∃ i:Int,r = .int .i64 i∧decide (0≤i)=es.any (fun s=>decide (v=s.bs))):=
 idxV_ok (f:=138) (k:=.bin .eql) hf Str.av (fun _=>rfl) nl cl es hb (.str v) (fun s=>decide (v=s.bs)) (by intro kb s h x Q t;simp only [go_sem,seval])
theorem c98 (hf:pg.fs 98=some cf98) (h138:pg.fs 138=some cf138) (nl cl:Bool) (es:List Str) (hb:es.length≤big) (v:List UInt8) :
  Ret pg 98 [.sl nl (es.map Str.av) cl,.str v] (.bool (es.any (fun s=>decide (v=s.bs)))):=
 conF_ok (n:=138) hf (by simp only [go_sem,seval]) (c138 h138 nl cl es hb v)
def hasS (vars:List Str) (v:List UInt8):Bool:=vars.any (fun s=>decide (v=s.bs))
def overOK (ls:List Lin) (vars:List Str):Bool:=ls.all fun l=>linOK l&&l.ts.es.all fun x=>hasS vars x.v.bs
theorem c97 {f:Nat} (hf:pg.fs f=some cf97) (h98:pg.fs 98=some cf98) (h138:pg.fs 138=some cf138) (nl cl:Bool) (es:List Str) (hb:es.length≤big) (v:List UInt8) :
  Ret pg f [.str v,.fp (.sl nl (es.map Str.av) cl)] (.bool (!hasS es v)):=by
 refine Ret.ofX hf ?_
 unfold cf97
 simp only [go_sem,seval]
 refine XO_tree (c98 h98 h138 nl cl es hb v) (by simp only [go_sem,seval]) rfl ?_
 simp only [go_sem,seval]
 rfl
theorem c137 (hf:pg.fs 137=some cf137) (nl cl:Bool) (es:List Str) (hb:es.length≤big) (g:Nat) (cs:List AV) (hcs:treeL cs=true) (p:Str→Bool) (hp:∀ x∈es,Ret pg g (x.av :: cs) (.bool (p x))) :
  RetP pg 137 [.sl nl (es.map Str.av) cl,.fn g cs] (fun r=>∃ i:Int,r = .int .i64 i∧decide (0≤i)=es.any p):=
 idxF_ok (f:=137) (esz:=1) (ag:=false) hf Str.av (fun _=>rfl) (fun _=>rfl) nl cl es hb g cs hcs p hp
theorem c95 (hf:pg.fs 95=some cf95) (h137:pg.fs 137=some cf137) (nl cl:Bool) (es:List Str) (hb:es.length≤big) (g:Nat) (cs:List AV) (hcs:treeL cs=true) (p:Str→Bool) (hp:∀ x∈es,Ret pg g (x.av :: cs) (.bool (p x))) :
  Ret pg 95 [.sl nl (es.map Str.av) cl,.fn g cs] (.bool (es.any p)):=
 conF_ok (n:=137) hf (by simp only [treeL,tree_sl,tree_fn,hcs,Str.treeL,Bool.and_true]) (c137 h137 nl cl es hb g cs hcs p hp)
theorem overF_ok {f g:Nat} (hf:pg.fs f=some (overF g)) (h51:∀ l:Lin,Ret pg 51 [l.av] (.bool (linOK l))) (h96:pg.fs 96=some cf96) (h95:pg.fs 95=some cf95) (h137:pg.fs 137=some cf137) (h97:pg.fs g=some cf97) (h98:pg.fs 98=some cf98) (h138:pg.fs 138=some cf138)
  (nl cl:Bool) (ls:List Lin) (hb:ls.length≤big) (nl' cl':Bool) (vars:List Str) (hb':vars.length≤big):Ret pg f [.sl nl (ls.map Lin.av) cl,.sl nl' (vars.map Str.av) cl'] (.bool (overOK ls vars)):=by
 refine Ret.ofX hf ?_
 unfold overF
 simp only [go_sem,seval]
 refine XX_listU ls (fun d e=>setD e (some 9) (.int .i64 d.length)) (fun d r hp=>(∃ fz,hp.get 1=some (0,.blk [.sl nl' (vars.map Str.av) cl'] 1 false true fz))∧overOK ls vars=overOK r vars) rfl ?_ ?_ ?_
 ·exact ⟨⟨_,rfl⟩,rfl⟩
 ·rintro hp ⟨⟨fz,h1⟩,hI⟩
  simp only [overFL,overFM,go_sem,seval]
  rw [hI];rfl
 ·rintro d x r hp hes ⟨⟨fz,h1⟩,hI⟩
  subst hes
  simp only [overFL,overFM,go_sem,seval]
  refine XO_tree (h51 x) (by simp only [go_sem,seval]) rfl ?_
  simp only [go_sem,seval]
  cases hx:linOK x
  ·simp only [go_sem,seval]
   rw [hI];simp [overOK,hx]
  simp only [go_sem,seval]
  refine XO_sl (c96 h96 x) (by simp only [go_sem,seval]) ?_
  intro nl2 cl2 hnl
  simp only [go_sem,seval]
  have hv:∀ y∈x.ts.es.map (fun c=>c.v),Ret pg g (y.av :: [.fp (.sl nl' (vars.map Str.av) cl')]) (.bool (!hasS vars y.bs)):=fun y _=>c97 h97 h98 h138 nl' cl' vars hb' y.bs
  have h9:=c95 h95 h137 nl2 cl2 (x.ts.es.map fun c=>c.v) (by have:=x.ts.ok;simpa using this) g [.fp (.sl nl' (vars.map Str.av) cl')] (by simp only [go_sem,seval]) (fun y => !hasS vars y.bs) hv
  have hm:List.map (fun x=>AV.str x.v.bs) x.ts.es=List.map Str.av (x.ts.es.map fun c=>c.v):=by simp [Str.av]
  rw [hm]
  refine XO_call (h9) (by simp only [ h1,depth,mapS_nil,mapS_cons,snapX,go_sem,seval];rfl) (by first | rfl | simp only [receive]) ?_
  simp only [go_sem,seval]
  have hany:(List.map (fun c=>c.v) x.ts.es).any (fun y => !hasS vars y.bs) = !(x.ts.es.all fun c=>hasS vars c.v.bs):=by
   simp [List.any_map,List.not_all_eq_any_not];rfl
  rw [hany]
  cases hy:x.ts.es.all fun c=>hasS vars c.v.bs
  ·simp only [go_sem,seval]
   rw [hI];simp [overOK,hx,hy]
  ·simp only [h1,wr_mid hb,go_sem,seval]
   exact ⟨⟨fz,rfl⟩,by simpa [overOK,hx,hy] using hI⟩
def coefEq (x y:Coef):Bool:=decide (x.v.bs=y.v.bs)&&decide (x.c=y.c)
def linEq (a b:Lin):Bool:=decide (a.c=b.c)&&eqL coefEq a.ts.es b.ts.es
def shapeEq (a b:Shape):Bool:=decide (a.row.bs=b.row.bs)&&eqL linEq a.dims.es b.dims.es
theorem c106 (hf:pg.fs 106=some cf106) (nl cl nl' cl':Bool) (es es':List Coef) (hb:es.length≤big):Ret pg 106 [.sl nl (es.map Coef.av) cl,.sl nl' (es'.map Coef.av) cl'] (.bool (eqL coefEq es es')):=
 eqV_ok (f:=106) (k:=.eqs true [1,0]) hf Coef.av (fun _=>by simp only [go_sem,seval]) nl cl nl' cl' es es' hb coefEq (by intro kb s h x y Q t;simp only [go_sem,seval];simp [coefEq]) rfl
theorem c143 (hf:pg.fs 143=some cf143) (h106:pg.fs 106=some cf106) (a b:Lin):Ret pg 143 [a.av,b.av] (.bool (linEq a b)):=by
 refine Ret.ofX hf ?_
 unfold cf143
 simp only [go_sem,seval]
 cases h:decide (a.c=b.c)
 ·simp only [go_sem,seval]
  simp [linEq,h]
 ·simp only [go_sem,seval]
  refine XO_tree (c106 h106 _ _ _ _ a.ts.es b.ts.es a.ts.ok) (by simp only [go_sem,seval]) rfl ?_
  simp only [go_sem,seval]
  simp [linEq,h]
theorem c67 (hf:pg.fs 67=some cf67) (g:Nat) (hg:∀ a b:Lin,Ret pg g [a.av,b.av] (.bool (linEq a b))) (nl cl nl' cl':Bool) (es es':List Lin) (hb:es.length≤big) :
  Ret pg 67 [.sl nl (es.map Lin.av) cl,.sl nl' (es'.map Lin.av) cl',.fn g []] (.bool (eqL linEq es es')):=
 eqF_ok (f:=67) (esz:=2) (ag:=true) rfl hf Lin.av (fun x=>[.int .i64 x.c,x.ts.av Coef.av]) (fun _=>rfl) (fun _=>rfl) (fun _=>rfl) rfl (fun x=>by simp only [go_sem,seval]) nl cl nl' cl' es es' hb g linEq (fun x _ y _=>hg x y)
end
end Go.Tev
end
