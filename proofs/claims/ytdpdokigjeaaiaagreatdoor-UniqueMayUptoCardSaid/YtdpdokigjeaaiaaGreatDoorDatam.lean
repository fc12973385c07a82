import Derived.Test.YtdpdokigjeaaiaaGreatDoorEvEm
import Derived.Test.YtdpdokigjeaaiaaGreatDoorEvDm
set_option linter.all false
section
namespace Go.Tev
attribute [go_sem] Nat.succ_eq_add_one Bool.and_true Bool.true_and Bool.and_false Bool.false_and Bool.or_true Bool.true_or Bool.or_false Bool.false_or Bool.not_true Bool.not_false Bool.false_eq_true cond_true cond_false Int.natCast_nonneg Int.toNat_natCast List.length_map List.getElem?_map and_self and_true true_and decide_true decide_false ite_true ite_false if_true if_false not_false_eq_true not_true_eq_false Int.lt_irrefl Bool.and_self Bool.or_self Bool.not_eq_true Bool.not_eq_false eq_self Int.toNat_zero Int.le_refl Int.natCast_zero Nat.zero_le Option.isSome_none Option.isSome_some beq_self_eq_true Option.getD_none Option.isNone_none Option.isNone_some ne_eq
def big:Nat:=16777216
structure Str where
 bs:List UInt8
 ok:bs.length≤big
def Str.av (s:Str):AV:=.str s.bs
structure Sl (α : Type) where
 nl:Bool
 es:List α
 cl:Bool
 ok:es.length≤big
def Sl.av {α : Type} (f : α → AV) (s:Sl α):AV:=.sl s.nl (s.es.map f) s.cl
def intA (n:Int):AV:=.int .i64 n
structure Coef where
 v:Str
 c:Int
def Coef.av (x:Coef):AV:=.agg [.str x.v.bs,.int .i64 x.c]
structure Lin where
 c:Int
 ts:Sl Coef
def Lin.av (x:Lin):AV:=.agg [.int .i64 x.c,x.ts.av Coef.av]
structure Shape where
 row:Str
 dims:Sl Lin
def Shape.av (x:Shape):AV:=.agg [.str x.row.bs,x.dims.av Lin.av]
structure Typ where
 elem:Str
 shape:Shape
def Typ.av (x:Typ):AV:=.agg [.str x.elem.bs,.str x.shape.row.bs,x.shape.dims.av Lin.av]
structure Step where
 op:Str
 num:Int
 args:Sl Int
def Step.av (x:Step):AV:=.agg [.str x.op.bs,.int .i64 x.num,x.args.av intA]
structure Val where
 v:Str
 n:Int
def Val.av (x:Val):AV:=.agg [.str x.v.bs,.int .i64 x.n]
inductive Pull where
 | mk (op:Str) (num value:Int) (name:Str) (at_:Sl Lin) (dyn:Bool) (check:Int) (fn:Sl Step) (knl:Bool) (kids:List Pull) (kcl:Bool)
namespace Pull
def op:Pull→Str | mk a _ _ _ _ _ _ _ _ _ _=>a
def num:Pull→Int | mk _ a _ _ _ _ _ _ _ _ _=>a
def value:Pull→Int | mk _ _ a _ _ _ _ _ _ _ _=>a
def name:Pull→Str | mk _ _ _ a _ _ _ _ _ _ _=>a
def at_:Pull→Sl Lin | mk _ _ _ _ a _ _ _ _ _ _=>a
def dyn:Pull→Bool | mk _ _ _ _ _ a _ _ _ _ _=>a
def check:Pull→Int | mk _ _ _ _ _ _ a _ _ _ _=>a
def fn:Pull→Sl Step | mk _ _ _ _ _ _ _ a _ _ _=>a
def knl:Pull→Bool | mk _ _ _ _ _ _ _ _ a _ _=>a
def kids:Pull→List Pull | mk _ _ _ _ _ _ _ _ _ a _=>a
def kcl:Pull→Bool | mk _ _ _ _ _ _ _ _ _ _ a=>a
end Pull
mutual
def Pull.av:Pull→AV
 | .mk op num value name at_ dyn check fn knl kids kcl=>
  .agg [.str op.bs,.int .i64 num,.int .i64 value,.str name.bs,at_.av Lin.av,.bool dyn,.int .i64 check,fn.av Step.av,.sl knl (Pull.avs kids) kcl]
def Pull.avs:List Pull→List AV
 | []=>[]
 | p :: r=>p.av :: Pull.avs r
end
theorem Pull.avs_eq:∀ l:List Pull,Pull.avs l=l.map Pull.av
 | []=>by simp [Pull.avs]
 | p :: r=>by simp [Pull.avs,Pull.avs_eq r]
def Pull.kav (p:Pull):AV:=.sl p.knl (p.kids.map Pull.av) p.kcl
def Pull.cells (p:Pull):List AV:=
 [.str p.op.bs,.int .i64 p.num,.int .i64 p.value,.str p.name.bs,p.at_.av Lin.av,.bool p.dyn,.int .i64 p.check,p.fn.av Step.av,p.kav]
theorem Pull.av_eq (p:Pull):p.av = .agg p.cells:=by
 cases p;simp [Pull.av,Pull.cells,Pull.kav,Pull.avs_eq,op,num,value,name,at_,dyn,check,fn,knl,kids,kcl]
mutual
def Pull.ok:Pull→Prop
 | .mk _ _ _ _ _ _ _ _ _ kids _=>kids.length≤big∧Pull.oks kids
def Pull.oks:List Pull→Prop
 | []=>True
 | p :: r=>p.ok∧Pull.oks r
end
theorem Pull.oks_iff:∀ l:List Pull,Pull.oks l↔∀ p∈l,p.ok
 | []=>by simp [Pull.oks]
 | p :: r=>by simp [Pull.oks,Pull.oks_iff r]
theorem Pull.ok_iff (p:Pull):p.ok↔p.kids.length≤big∧∀ q∈p.kids,q.ok:=by
 cases p;simp [Pull.ok,Pull.oks_iff,kids]
structure Kernel where
 kind:Int
 value:Int
 space:Sl Lin
 body:Pull
 fn:Sl Step
 source:Int
 index:Pull
 check:Int
def Kernel.cells (x:Kernel):List AV:=
 [.int .i64 x.kind,.int .i64 x.value,x.space.av Lin.av]++x.body.cells++[x.fn.av Step.av,.int .i64 x.source]++x.index.cells++[.int .i64 x.check]
def Kernel.av (x:Kernel):AV:=.agg x.cells
structure Kernels where
 vars:Sl Str
 wher:Sl Lin
 inputs:Int
 values:Sl Typ
 list:Sl Kernel
 results:Sl Int
def Kernels.cells (k:Kernels):List AV:=
 [k.vars.av Str.av,k.wher.av Lin.av,.int .i64 k.inputs,k.values.av Typ.av,k.list.av Kernel.av,k.results.av intA]
def Kernels.av (k:Kernels):AV:=.agg k.cells
theorem treeL_map {α : Type} {f : α → AV} (h:∀ x,(f x).tree=true):∀ l:List α,treeL (l.map f)=true
 | []=>rfl
 | x :: r=>by simp [treeL,h x,treeL_map h r]
theorem intA_tree (n:Int):(intA n).tree=true:=rfl
theorem Str.tree (s:Str):(Str.av s).tree=true:=rfl
theorem intA_treeL (l:List Int):treeL (l.map intA)=true:=treeL_map intA_tree l
theorem Str.treeL (l:List Str):Tev.treeL (l.map Str.av)=true:=treeL_map Str.tree l
theorem intA_eq (n:Int):intA n = .int .i64 n:=rfl
theorem Str.av_eq (s:Str):Str.av s = .str s.bs:=rfl
attribute [go_sem] intA_tree Str.tree intA_treeL Str.treeL intA_eq Str.av_eq Tev.treeL Sl.av
theorem Coef.avc (x:Coef):Coef.av x = .agg [.str x.v.bs,.int .i64 x.c]:=rfl
theorem Coef.cells_av (x:Coef):(Coef.av x).cells=[.str x.v.bs,.int .i64 x.c]:=by rw [Coef.avc];rfl
theorem Coef.isAgg_av (x:Coef):(Coef.av x).isAgg=true:=by rw [Coef.avc];rfl
theorem Coef.fits_av (x:Coef):(Coef.av x).fits 2 true=true:=by rw [Coef.avc];rfl
theorem Coef.tree_av (x:Coef):(Coef.av x).tree=true:=by rw [Coef.avc];simp [go_sem]
theorem Coef.treeL_av (l:List Coef):Tev.treeL (l.map Coef.av)=true:=treeL_map Coef.tree_av l
theorem Coef.fld_av (off sz:Nat) (ag:Bool) (x:Coef):f_fld off sz ag [Coef.av x]=f_fld off sz ag [.agg [.str x.v.bs,.int .i64 x.c]]:=by rw [Coef.avc]
theorem Coef.fad_av (off sz:Nat) (ag:Bool) (x:Coef):f_fad off sz ag [.fp (Coef.av x)]=f_fad off sz ag [.fp (.agg [.str x.v.bs,.int .i64 x.c])]:=by rw [Coef.avc]
theorem Coef.box_av (h:Hp) (k:Nat) (x:Coef):f_box h k [Coef.av x]=f_box h k [.agg [.str x.v.bs,.int .i64 x.c]]:=by rw [Coef.avc]
theorem Coef.eqs_av (ng:Bool) (qs:List Nat) (x y:Coef):f_eqs ng qs [Coef.av x,Coef.av y]=f_eqs ng qs [.agg [.str x.v.bs,.int .i64 x.c],.agg [.str y.v.bs,.int .i64 y.c]]:=by rw [Coef.avc,Coef.avc]
attribute [go_sem ↓ high] Coef.eqs_av
attribute [go_sem high] Coef.cells_av Coef.isAgg_av Coef.fits_av Coef.tree_av Coef.treeL_av
attribute [go_sem ↓ high] Coef.fld_av Coef.fad_av Coef.box_av
theorem Lin.avc (x:Lin):Lin.av x = .agg [.int .i64 x.c,.sl x.ts.nl (x.ts.es.map Coef.av) x.ts.cl]:=rfl
theorem Lin.cells_av (x:Lin):(Lin.av x).cells=[.int .i64 x.c,.sl x.ts.nl (x.ts.es.map Coef.av) x.ts.cl]:=by rw [Lin.avc];rfl
theorem Lin.isAgg_av (x:Lin):(Lin.av x).isAgg=true:=by rw [Lin.avc];rfl
theorem Lin.fits_av (x:Lin):(Lin.av x).fits 2 true=true:=by rw [Lin.avc];rfl
theorem Lin.tree_av (x:Lin):(Lin.av x).tree=true:=by rw [Lin.avc];simp [go_sem]
theorem Lin.treeL_av (l:List Lin):Tev.treeL (l.map Lin.av)=true:=treeL_map Lin.tree_av l
theorem Lin.fld_av (off sz:Nat) (ag:Bool) (x:Lin):f_fld off sz ag [Lin.av x]=f_fld off sz ag [.agg [.int .i64 x.c,.sl x.ts.nl (x.ts.es.map Coef.av) x.ts.cl]]:=by rw [Lin.avc]
theorem Lin.fad_av (off sz:Nat) (ag:Bool) (x:Lin):f_fad off sz ag [.fp (Lin.av x)]=f_fad off sz ag [.fp (.agg [.int .i64 x.c,.sl x.ts.nl (x.ts.es.map Coef.av) x.ts.cl])]:=by rw [Lin.avc]
theorem Lin.box_av (h:Hp) (k:Nat) (x:Lin):f_box h k [Lin.av x]=f_box h k [.agg [.int .i64 x.c,.sl x.ts.nl (x.ts.es.map Coef.av) x.ts.cl]]:=by rw [Lin.avc]
attribute [go_sem high] Lin.cells_av Lin.isAgg_av Lin.fits_av Lin.tree_av Lin.treeL_av
attribute [go_sem ↓ high] Lin.fld_av Lin.fad_av Lin.box_av
theorem Shape.avc (x:Shape):Shape.av x = .agg [.str x.row.bs,.sl x.dims.nl (x.dims.es.map Lin.av) x.dims.cl]:=rfl
theorem Shape.cells_av (x:Shape):(Shape.av x).cells=[.str x.row.bs,.sl x.dims.nl (x.dims.es.map Lin.av) x.dims.cl]:=by rw [Shape.avc];rfl
theorem Shape.isAgg_av (x:Shape):(Shape.av x).isAgg=true:=by rw [Shape.avc];rfl
theorem Shape.fits_av (x:Shape):(Shape.av x).fits 2 true=true:=by rw [Shape.avc];rfl
theorem Shape.tree_av (x:Shape):(Shape.av x).tree=true:=by rw [Shape.avc];simp [go_sem]
theorem Shape.treeL_av (l:List Shape):Tev.treeL (l.map Shape.av)=true:=treeL_map Shape.tree_av l
theorem Shape.fld_av (off sz:Nat) (ag:Bool) (x:Shape):f_fld off sz ag [Shape.av x]=f_fld off sz ag [.agg [.str x.row.bs,.sl x.dims.nl (x.dims.es.map Lin.av) x.dims.cl]]:=by rw [Shape.avc]
theorem Shape.fad_av (off sz:Nat) (ag:Bool) (x:Shape):f_fad off sz ag [.fp (Shape.av x)]=f_fad off sz ag [.fp (.agg [.str x.row.bs,.sl x.dims.nl (x.dims.es.map Lin.av) x.dims.cl])]:=by rw [Shape.avc]
theorem Shape.box_av (h:Hp) (k:Nat) (x:Shape):f_box h k [Shape.av x]=f_box h k [.agg [.str x.row.bs,.sl x.dims.nl (x.dims.es.map Lin.av) x.dims.cl]]:=by rw [Shape.avc]
attribute [go_sem high] Shape.cells_av Shape.isAgg_av Shape.fits_av Shape.tree_av Shape.treeL_av
attribute [go_sem ↓ high] Shape.fld_av Shape.fad_av Shape.box_av
theorem Typ.avc (x:Typ):Typ.av x = .agg [.str x.elem.bs,.str x.shape.row.bs,.sl x.shape.dims.nl (x.shape.dims.es.map Lin.av) x.shape.dims.cl]:=rfl
theorem Typ.cells_av (x:Typ):(Typ.av x).cells=[.str x.elem.bs,.str x.shape.row.bs,.sl x.shape.dims.nl (x.shape.dims.es.map Lin.av) x.shape.dims.cl]:=by rw [Typ.avc];rfl
theorem Typ.isAgg_av (x:Typ):(Typ.av x).isAgg=true:=by rw [Typ.avc];rfl
theorem Typ.fits_av (x:Typ):(Typ.av x).fits 3 true=true:=by rw [Typ.avc];rfl
theorem Typ.tree_av (x:Typ):(Typ.av x).tree=true:=by rw [Typ.avc];simp [go_sem]
theorem Typ.treeL_av (l:List Typ):Tev.treeL (l.map Typ.av)=true:=treeL_map Typ.tree_av l
theorem Typ.fld_av (off sz:Nat) (ag:Bool) (x:Typ):f_fld off sz ag [Typ.av x]=f_fld off sz ag [.agg [.str x.elem.bs,.str x.shape.row.bs,.sl x.shape.dims.nl (x.shape.dims.es.map Lin.av) x.shape.dims.cl]]:=by rw [Typ.avc]
theorem Typ.fad_av (off sz:Nat) (ag:Bool) (x:Typ):f_fad off sz ag [.fp (Typ.av x)]=f_fad off sz ag [.fp (.agg [.str x.elem.bs,.str x.shape.row.bs,.sl x.shape.dims.nl (x.shape.dims.es.map Lin.av) x.shape.dims.cl])]:=by rw [Typ.avc]
theorem Typ.box_av (h:Hp) (k:Nat) (x:Typ):f_box h k [Typ.av x]=f_box h k [.agg [.str x.elem.bs,.str x.shape.row.bs,.sl x.shape.dims.nl (x.shape.dims.es.map Lin.av) x.shape.dims.cl]]:=by rw [Typ.avc]
attribute [go_sem high] Typ.cells_av Typ.isAgg_av Typ.fits_av Typ.tree_av Typ.treeL_av
attribute [go_sem ↓ high] Typ.fld_av Typ.fad_av Typ.box_av
theorem Step.avc (x:Step):Step.av x = .agg [.str x.op.bs,.int .i64 x.num,.sl x.args.nl (x.args.es.map intA) x.args.cl]:=rfl
theorem Step.cells_av (x:Step):(Step.av x).cells=[.str x.op.bs,.int .i64 x.num,.sl x.args.nl (x.args.es.map intA) x.args.cl]:=by rw [Step.avc];rfl
theorem Step.isAgg_av (x:Step):(Step.av x).isAgg=true:=by rw [Step.avc];rfl
theorem Step.fits_av (x:Step):(Step.av x).fits 3 true=true:=by rw [Step.avc];rfl
theorem Step.tree_av (x:Step):(Step.av x).tree=true:=by rw [Step.avc];simp [go_sem]
theorem Step.treeL_av (l:List Step):Tev.treeL (l.map Step.av)=true:=treeL_map Step.tree_av l
theorem Step.fld_av (off sz:Nat) (ag:Bool) (x:Step):f_fld off sz ag [Step.av x]=f_fld off sz ag [.agg [.str x.op.bs,.int .i64 x.num,.sl x.args.nl (x.args.es.map intA) x.args.cl]]:=by rw [Step.avc]
theorem Step.fad_av (off sz:Nat) (ag:Bool) (x:Step):f_fad off sz ag [.fp (Step.av x)]=f_fad off sz ag [.fp (.agg [.str x.op.bs,.int .i64 x.num,.sl x.args.nl (x.args.es.map intA) x.args.cl])]:=by rw [Step.avc]
theorem Step.box_av (h:Hp) (k:Nat) (x:Step):f_box h k [Step.av x]=f_box h k [.agg [.str x.op.bs,.int .i64 x.num,.sl x.args.nl (x.args.es.map intA) x.args.cl]]:=by rw [Step.avc]
attribute [go_sem high] Step.cells_av Step.isAgg_av Step.fits_av Step.tree_av Step.treeL_av
attribute [go_sem ↓ high] Step.fld_av Step.fad_av Step.box_av
theorem Val.avc (x:Val):Val.av x = .agg [.str x.v.bs,.int .i64 x.n]:=rfl
theorem Val.cells_av (x:Val):(Val.av x).cells=[.str x.v.bs,.int .i64 x.n]:=by rw [Val.avc];rfl
theorem Val.isAgg_av (x:Val):(Val.av x).isAgg=true:=by rw [Val.avc];rfl
theorem Val.fits_av (x:Val):(Val.av x).fits 2 true=true:=by rw [Val.avc];rfl
theorem Val.tree_av (x:Val):(Val.av x).tree=true:=by rw [Val.avc];simp [go_sem]
theorem Val.treeL_av (l:List Val):Tev.treeL (l.map Val.av)=true:=treeL_map Val.tree_av l
theorem Val.fld_av (off sz:Nat) (ag:Bool) (x:Val):f_fld off sz ag [Val.av x]=f_fld off sz ag [.agg [.str x.v.bs,.int .i64 x.n]]:=by rw [Val.avc]
theorem Val.fad_av (off sz:Nat) (ag:Bool) (x:Val):f_fad off sz ag [.fp (Val.av x)]=f_fad off sz ag [.fp (.agg [.str x.v.bs,.int .i64 x.n])]:=by rw [Val.avc]
theorem Val.box_av (h:Hp) (k:Nat) (x:Val):f_box h k [Val.av x]=f_box h k [.agg [.str x.v.bs,.int .i64 x.n]]:=by rw [Val.avc]
theorem Val.eqs_av (ng:Bool) (qs:List Nat) (x y:Val):f_eqs ng qs [Val.av x,Val.av y]=f_eqs ng qs [.agg [.str x.v.bs,.int .i64 x.n],.agg [.str y.v.bs,.int .i64 y.n]]:=by rw [Val.avc,Val.avc]
attribute [go_sem ↓ high] Val.eqs_av
attribute [go_sem high] Val.cells_av Val.isAgg_av Val.fits_av Val.tree_av Val.treeL_av
attribute [go_sem ↓ high] Val.fld_av Val.fad_av Val.box_av
theorem Pull.avc (x:Pull):Pull.av x = .agg [.str x.op.bs,.int .i64 x.num,.int .i64 x.value,.str x.name.bs,.sl x.at_.nl (x.at_.es.map Lin.av) x.at_.cl,.bool x.dyn,.int .i64 x.check,.sl x.fn.nl (x.fn.es.map Step.av) x.fn.cl,.sl x.knl (x.kids.map Pull.av) x.kcl]:=Pull.av_eq x
theorem Pull.cells_av (x:Pull):(Pull.av x).cells=[.str x.op.bs,.int .i64 x.num,.int .i64 x.value,.str x.name.bs,.sl x.at_.nl (x.at_.es.map Lin.av) x.at_.cl,.bool x.dyn,.int .i64 x.check,.sl x.fn.nl (x.fn.es.map Step.av) x.fn.cl,.sl x.knl (x.kids.map Pull.av) x.kcl]:=by rw [Pull.avc];rfl
theorem Pull.isAgg_av (x:Pull):(Pull.av x).isAgg=true:=by rw [Pull.avc];rfl
theorem Pull.fits_av (x:Pull):(Pull.av x).fits 9 true=true:=by rw [Pull.avc];rfl
mutual
theorem Pull.tree_av:∀ x:Pull,(Pull.av x).tree=true
 | .mk op num value name at_ dyn check fn knl kids kcl=>by
  have:=Pull.tree_avs kids
  simp [Pull.av,go_sem,treeL_map Lin.tree_av,treeL_map Step.tree_av,this]
theorem Pull.tree_avs:∀ l:List Pull,Tev.treeL (Pull.avs l)=true
 | []=>by simp [Pull.avs,Tev.treeL]
 | p :: r=>by simp [Pull.avs,Tev.treeL,Pull.tree_av p,Pull.tree_avs r]
end
theorem Pull.treeL_av (l:List Pull):Tev.treeL (l.map Pull.av)=true:=treeL_map Pull.tree_av l
theorem Pull.fld_av (off sz:Nat) (ag:Bool) (x:Pull):f_fld off sz ag [Pull.av x]=f_fld off sz ag [.agg [.str x.op.bs,.int .i64 x.num,.int .i64 x.value,.str x.name.bs,.sl x.at_.nl (x.at_.es.map Lin.av) x.at_.cl,.bool x.dyn,.int .i64 x.check,.sl x.fn.nl (x.fn.es.map Step.av) x.fn.cl,.sl x.knl (x.kids.map Pull.av) x.kcl]]:=by rw [Pull.avc]
theorem Pull.fad_av (off sz:Nat) (ag:Bool) (x:Pull):f_fad off sz ag [.fp (Pull.av x)]=f_fad off sz ag [.fp (.agg [.str x.op.bs,.int .i64 x.num,.int .i64 x.value,.str x.name.bs,.sl x.at_.nl (x.at_.es.map Lin.av) x.at_.cl,.bool x.dyn,.int .i64 x.check,.sl x.fn.nl (x.fn.es.map Step.av) x.fn.cl,.sl x.knl (x.kids.map Pull.av) x.kcl])]:=by rw [Pull.avc]
theorem Pull.box_av (h:Hp) (k:Nat) (x:Pull):f_box h k [Pull.av x]=f_box h k [.agg [.str x.op.bs,.int .i64 x.num,.int .i64 x.value,.str x.name.bs,.sl x.at_.nl (x.at_.es.map Lin.av) x.at_.cl,.bool x.dyn,.int .i64 x.check,.sl x.fn.nl (x.fn.es.map Step.av) x.fn.cl,.sl x.knl (x.kids.map Pull.av) x.kcl]]:=by rw [Pull.avc]
attribute [go_sem high] Pull.cells_av Pull.isAgg_av Pull.fits_av Pull.tree_av Pull.treeL_av
attribute [go_sem ↓ high] Pull.fld_av Pull.fad_av Pull.box_av
theorem Kernel.avc (x:Kernel):Kernel.av x = .agg [.int .i64 x.kind,.int .i64 x.value,.sl x.space.nl (x.space.es.map Lin.av) x.space.cl,.str x.body.op.bs,.int .i64 x.body.num,.int .i64 x.body.value,.str x.body.name.bs,.sl x.body.at_.nl (x.body.at_.es.map Lin.av) x.body.at_.cl,.bool x.body.dyn,.int .i64 x.body.check,.sl x.body.fn.nl (x.body.fn.es.map Step.av) x.body.fn.cl,.sl x.body.knl (x.body.kids.map Pull.av) x.body.kcl,.sl x.fn.nl (x.fn.es.map Step.av) x.fn.cl,.int .i64 x.source,.str x.index.op.bs,.int .i64 x.index.num,.int .i64 x.index.value,.str x.index.name.bs,.sl x.index.at_.nl (x.index.at_.es.map Lin.av) x.index.at_.cl,.bool x.index.dyn,.int .i64 x.index.check,.sl x.index.fn.nl (x.index.fn.es.map Step.av) x.index.fn.cl,.sl x.index.knl (x.index.kids.map Pull.av) x.index.kcl,.int .i64 x.check]:=rfl
theorem Kernel.cells_av (x:Kernel):(Kernel.av x).cells=[.int .i64 x.kind,.int .i64 x.value,.sl x.space.nl (x.space.es.map Lin.av) x.space.cl,.str x.body.op.bs,.int .i64 x.body.num,.int .i64 x.body.value,.str x.body.name.bs,.sl x.body.at_.nl (x.body.at_.es.map Lin.av) x.body.at_.cl,.bool x.body.dyn,.int .i64 x.body.check,.sl x.body.fn.nl (x.body.fn.es.map Step.av) x.body.fn.cl,.sl x.body.knl (x.body.kids.map Pull.av) x.body.kcl,.sl x.fn.nl (x.fn.es.map Step.av) x.fn.cl,.int .i64 x.source,.str x.index.op.bs,.int .i64 x.index.num,.int .i64 x.index.value,.str x.index.name.bs,.sl x.index.at_.nl (x.index.at_.es.map Lin.av) x.index.at_.cl,.bool x.index.dyn,.int .i64 x.index.check,.sl x.index.fn.nl (x.index.fn.es.map Step.av) x.index.fn.cl,.sl x.index.knl (x.index.kids.map Pull.av) x.index.kcl,.int .i64 x.check]:=by rw [Kernel.avc];rfl
theorem Kernel.isAgg_av (x:Kernel):(Kernel.av x).isAgg=true:=by rw [Kernel.avc];rfl
theorem Kernel.fits_av (x:Kernel):(Kernel.av x).fits 24 true=true:=by rw [Kernel.avc];rfl
theorem Kernel.tree_av (x:Kernel):(Kernel.av x).tree=true:=by rw [Kernel.avc];simp [go_sem]
theorem Kernel.treeL_av (l:List Kernel):Tev.treeL (l.map Kernel.av)=true:=treeL_map Kernel.tree_av l
theorem Kernel.fld_av (off sz:Nat) (ag:Bool) (x:Kernel):f_fld off sz ag [Kernel.av x]=f_fld off sz ag [.agg [.int .i64 x.kind,.int .i64 x.value,.sl x.space.nl (x.space.es.map Lin.av) x.space.cl,.str x.body.op.bs,.int .i64 x.body.num,.int .i64 x.body.value,.str x.body.name.bs,.sl x.body.at_.nl (x.body.at_.es.map Lin.av) x.body.at_.cl,.bool x.body.dyn,.int .i64 x.body.check,.sl x.body.fn.nl (x.body.fn.es.map Step.av) x.body.fn.cl,.sl x.body.knl (x.body.kids.map Pull.av) x.body.kcl,.sl x.fn.nl (x.fn.es.map Step.av) x.fn.cl,.int .i64 x.source,.str x.index.op.bs,.int .i64 x.index.num,.int .i64 x.index.value,.str x.index.name.bs,.sl x.index.at_.nl (x.index.at_.es.map Lin.av) x.index.at_.cl,.bool x.index.dyn,.int .i64 x.index.check,.sl x.index.fn.nl (x.index.fn.es.map Step.av) x.index.fn.cl,.sl x.index.knl (x.index.kids.map Pull.av) x.index.kcl,.int .i64 x.check]]:=by rw [Kernel.avc]
theorem Kernel.fad_av (off sz:Nat) (ag:Bool) (x:Kernel):f_fad off sz ag [.fp (Kernel.av x)]=f_fad off sz ag [.fp (.agg [.int .i64 x.kind,.int .i64 x.value,.sl x.space.nl (x.space.es.map Lin.av) x.space.cl,.str x.body.op.bs,.int .i64 x.body.num,.int .i64 x.body.value,.str x.body.name.bs,.sl x.body.at_.nl (x.body.at_.es.map Lin.av) x.body.at_.cl,.bool x.body.dyn,.int .i64 x.body.check,.sl x.body.fn.nl (x.body.fn.es.map Step.av) x.body.fn.cl,.sl x.body.knl (x.body.kids.map Pull.av) x.body.kcl,.sl x.fn.nl (x.fn.es.map Step.av) x.fn.cl,.int .i64 x.source,.str x.index.op.bs,.int .i64 x.index.num,.int .i64 x.index.value,.str x.index.name.bs,.sl x.index.at_.nl (x.index.at_.es.map Lin.av) x.index.at_.cl,.bool x.index.dyn,.int .i64 x.index.check,.sl x.index.fn.nl (x.index.fn.es.map Step.av) x.index.fn.cl,.sl x.index.knl (x.index.kids.map Pull.av) x.index.kcl,.int .i64 x.check])]:=by rw [Kernel.avc]
theorem Kernel.box_av (h:Hp) (k:Nat) (x:Kernel):f_box h k [Kernel.av x]=f_box h k [.agg [.int .i64 x.kind,.int .i64 x.value,.sl x.space.nl (x.space.es.map Lin.av) x.space.cl,.str x.body.op.bs,.int .i64 x.body.num,.int .i64 x.body.value,.str x.body.name.bs,.sl x.body.at_.nl (x.body.at_.es.map Lin.av) x.body.at_.cl,.bool x.body.dyn,.int .i64 x.body.check,.sl x.body.fn.nl (x.body.fn.es.map Step.av) x.body.fn.cl,.sl x.body.knl (x.body.kids.map Pull.av) x.body.kcl,.sl x.fn.nl (x.fn.es.map Step.av) x.fn.cl,.int .i64 x.source,.str x.index.op.bs,.int .i64 x.index.num,.int .i64 x.index.value,.str x.index.name.bs,.sl x.index.at_.nl (x.index.at_.es.map Lin.av) x.index.at_.cl,.bool x.index.dyn,.int .i64 x.index.check,.sl x.index.fn.nl (x.index.fn.es.map Step.av) x.index.fn.cl,.sl x.index.knl (x.index.kids.map Pull.av) x.index.kcl,.int .i64 x.check]]:=by rw [Kernel.avc]
attribute [go_sem high] Kernel.cells_av Kernel.isAgg_av Kernel.fits_av Kernel.tree_av Kernel.treeL_av
attribute [go_sem ↓ high] Kernel.fld_av Kernel.fad_av Kernel.box_av
theorem Kernels.avc (x:Kernels):Kernels.av x = .agg [.sl x.vars.nl (x.vars.es.map Str.av) x.vars.cl,.sl x.wher.nl (x.wher.es.map Lin.av) x.wher.cl,.int .i64 x.inputs,.sl x.values.nl (x.values.es.map Typ.av) x.values.cl,.sl x.list.nl (x.list.es.map Kernel.av) x.list.cl,.sl x.results.nl (x.results.es.map intA) x.results.cl]:=rfl
theorem Kernels.cells_av (x:Kernels):(Kernels.av x).cells=[.sl x.vars.nl (x.vars.es.map Str.av) x.vars.cl,.sl x.wher.nl (x.wher.es.map Lin.av) x.wher.cl,.int .i64 x.inputs,.sl x.values.nl (x.values.es.map Typ.av) x.values.cl,.sl x.list.nl (x.list.es.map Kernel.av) x.list.cl,.sl x.results.nl (x.results.es.map intA) x.results.cl]:=by rw [Kernels.avc];rfl
theorem Kernels.isAgg_av (x:Kernels):(Kernels.av x).isAgg=true:=by rw [Kernels.avc];rfl
theorem Kernels.fits_av (x:Kernels):(Kernels.av x).fits 6 true=true:=by rw [Kernels.avc];rfl
theorem Kernels.tree_av (x:Kernels):(Kernels.av x).tree=true:=by rw [Kernels.avc];simp [go_sem]
theorem Kernels.treeL_av (l:List Kernels):Tev.treeL (l.map Kernels.av)=true:=treeL_map Kernels.tree_av l
theorem Kernels.fld_av (off sz:Nat) (ag:Bool) (x:Kernels):f_fld off sz ag [Kernels.av x]=f_fld off sz ag [.agg [.sl x.vars.nl (x.vars.es.map Str.av) x.vars.cl,.sl x.wher.nl (x.wher.es.map Lin.av) x.wher.cl,.int .i64 x.inputs,.sl x.values.nl (x.values.es.map Typ.av) x.values.cl,.sl x.list.nl (x.list.es.map Kernel.av) x.list.cl,.sl x.results.nl (x.results.es.map intA) x.results.cl]]:=by rw [Kernels.avc]
theorem Kernels.fad_av (off sz:Nat) (ag:Bool) (x:Kernels):f_fad off sz ag [.fp (Kernels.av x)]=f_fad off sz ag [.fp (.agg [.sl x.vars.nl (x.vars.es.map Str.av) x.vars.cl,.sl x.wher.nl (x.wher.es.map Lin.av) x.wher.cl,.int .i64 x.inputs,.sl x.values.nl (x.values.es.map Typ.av) x.values.cl,.sl x.list.nl (x.list.es.map Kernel.av) x.list.cl,.sl x.results.nl (x.results.es.map intA) x.results.cl])]:=by rw [Kernels.avc]
theorem Kernels.box_av (h:Hp) (k:Nat) (x:Kernels):f_box h k [Kernels.av x]=f_box h k [.agg [.sl x.vars.nl (x.vars.es.map Str.av) x.vars.cl,.sl x.wher.nl (x.wher.es.map Lin.av) x.wher.cl,.int .i64 x.inputs,.sl x.values.nl (x.values.es.map Typ.av) x.values.cl,.sl x.list.nl (x.list.es.map Kernel.av) x.list.cl,.sl x.results.nl (x.results.es.map intA) x.results.cl]]:=by rw [Kernels.avc]
attribute [go_sem high] Kernels.cells_av Kernels.isAgg_av Kernels.fits_av Kernels.tree_av Kernels.treeL_av
attribute [go_sem ↓ high] Kernels.fld_av Kernels.fad_av Kernels.box_av
theorem getMid {α : Type} (d:List α) (x : α) (r:List α):(d++x :: r)[d.length]?=some x:=by simp
theorem ltMid {α : Type} (d:List α) (x : α) (r:List α):decide ((d.length:Int) < ((d++x :: r).length:Int))=true:=by
 simp only [List.length_append,List.length_cons,decide_eq_true_eq];omega
theorem ltEnd {α : Type} (d:List α):decide ((d.length:Int) < ((d++[]).length:Int))=false:=by simp
theorem wr_small {n:Int} (h1 : -1000000000000000000≤n) (h2:n≤1000000000000000000):wr .i64 n=n:=by
 simp only [wr];rw [if_pos (by omega)]
theorem wr_nat {n:Nat} (h:n≤1000000000000000000):wr .i64 (n:Int)=n:=wr_small (by omega) (by omega)
theorem wr_mid {α : Type} {d:List α} {x : α} {r:List α} (h:(d++x :: r).length≤big):wr .i64 ((d.length:Int)+1)=((d++[x]).length:Int):=by
 simp only [List.length_append,List.length_cons,List.length_nil,big] at *
 rw [wr_small (by omega) (by omega)]
 omega
theorem XX_list {pg:Pg} {kb:Nat} {α : Type} (es:List α) (E:List α → List α → List AV→Hp→Prop) {b:C} {clr:List Bool} {st:St} {Q:Ex→St→Prop} {t:Tok Q} (h0:E [] es (clear clr st.env) st.hp)
  (hend:∀ env hp,E es [] env hp→XX pg kb b ⟨env,hp⟩ (thenQ (fun _=>False) Q) ⟨⟩)
  (hstep:∀ d x r env hp,es=d++x :: r→E d (x :: r) env hp→XX pg kb b ⟨env,hp⟩ (thenQ (fun st'=>E (d++[x]) r (clear clr st'.env) st'.hp) Q) ⟨⟩) :
  XX pg kb (.loop b clr) st Q t:=by
 refine XX_rounds (α:={p:List α × List α // es=p.1++p.2}) (fun p=>p.1.2.length) (fun p=>E p.1.1 p.1.2) ⟨([],es),rfl⟩ h0 ?_
 rintro ⟨⟨d,r⟩,hes⟩ env hp hE
 dsimp only at hes hE ⊢
 cases r with
 | nil=>
  rw [List.append_nil] at hes
  subst hes
  obtain ⟨n,ex,st',h1,h2⟩:=hend env hp hE
  refine ⟨n,ex,st',h1,?_⟩
  cases ex with
  | nor=>exact h2.elim
  | ext i=>exact h2
  | ret=>exact h2
 | cons x r=>
  obtain ⟨n,ex,st',h1,h2⟩:=hstep d x r env hp hes hE
  refine ⟨n,ex,st',h1,?_⟩
  cases ex with
  | nor=>exact ⟨⟨(d++[x],r),by simp [hes]⟩,by simp,h2⟩
  | ext i=>exact h2
  | ret=>exact h2
theorem conv_tree {h:Hp} {v:AV} (hv:v.tree=true):conv h v=some v:=by
 have:snap depth h v=some (v,[]):=by unfold depth snap;rw [if_pos hv]
 cases v<;>first | (simp only [conv,this];rfl) | simp [AV.tree] at hv
theorem someInj {α : Type} (x y : α):(some x=some y)=(x=y):=by simp
theorem boolInj (x y:Bool):(AV.bool x=AV.bool y)=(x=y):=by simp
theorem intInj (k:IntKind) (x y:Int):(AV.int k x=AV.int k y)=(x=y):=by simp
theorem strInj (x y:List UInt8):(AV.str x=AV.str y)=(x=y):=by simp
theorem lenInt {α : Type} (l:List α):(0≤(l.length:Int))=True:=by simp
def RetP (pg:Pg) (f:Nat) (ts:List AV) (P:AV→Prop):Prop:=∃ r,Ret pg f ts r∧P r
def endP (res:List (Sum Nat (Nat × Nat × Bool))) (P:AV→Prop) (ex:Ex) (st:St):Prop:=
 match ex with
 | .ext _=>False
 | _=>∃ v,result st res=some v∧∃ r,conv st.hp v=some r∧P r
theorem endP_nor (res:List (Sum Nat (Nat × Nat × Bool))) (P:AV→Prop) (st:St):endP res P .nor st=∃ v,result st res=some v∧∃ r,conv st.hp v=some r∧P r:=rfl
theorem endP_ret (res:List (Sum Nat (Nat × Nat × Bool))) (P:AV→Prop) (st:St):endP res P .ret st=∃ v,result st res=some v∧∃ r,conv st.hp v=some r∧P r:=rfl
theorem RetP.ofX {pg:Pg} {f:Nat} {cf:CF} {vs:List AV} {P:AV→Prop} (hf:pg.fs f=some cf) (hw:XX pg 0 cf.body ⟨enter cf vs,[]⟩ (endP cf.res P) ⟨⟩):RetP pg f vs P:=by
 obtain ⟨n,ex,st,h1,h2⟩:=hw
 cases ex with
 | ext i=>exact h2.elim
 | nor=>obtain ⟨v,h3,r,h4,h5⟩:=h2;exact ⟨r,Ret.of hf ⟨n,.nor,st,h1,v,h3,h4⟩,h5⟩
 | ret=>obtain ⟨v,h3,r,h4,h5⟩:=h2;exact ⟨r,Ret.of hf ⟨n,.ret,st,h1,v,h3,h4⟩,h5⟩
def IsB (v:AV):Prop:=∃ b:Bool,v = .bool b
theorem isB_bool (b:Bool):IsB (.bool b)=True:=by simp only [IsB,eq_iff_iff,iff_true];exact ⟨b,rfl⟩
theorem RetP.mono {pg:Pg} {f:Nat} {ts:List AV} {P P':AV→Prop} (h:RetP pg f ts P) (hP:∀ r,P r→P' r):RetP pg f ts P':=by
 obtain ⟨r,h1,h2⟩:=h;exact ⟨r,h1,hP r h2⟩
theorem Ret.P {pg:Pg} {f:Nat} {ts:List AV} {r:AV} {P:AV→Prop} (h:Ret pg f ts r) (hP:P r):RetP pg f ts P:=⟨r,h,hP⟩
theorem XX_listU {pg:Pg} {kb:Nat} {α : Type} (es:List α) (U:List α → List AV→List AV) (I:List α → List α → Hp→Prop) {b:C} {clr:List Bool} {st:St} {Q:Ex→St→Prop} {t:Tok Q}
  (h0:clear clr st.env=U [] (clear clr st.env)) (i0:I [] es st.hp)
  (hend:∀ hp,I es [] hp→XX pg kb b ⟨U es (clear clr st.env),hp⟩ (thenQ (fun _=>False) Q) ⟨⟩)
  (hstep:∀ d x r hp,es=d++x :: r→I d (x :: r) hp→XX pg kb b ⟨U d (clear clr st.env),hp⟩ (thenQ (fun st'=>clear clr st'.env=U (d++[x]) (clear clr st.env)∧I (d++[x]) r st'.hp) Q) ⟨⟩) :
  XX pg kb (.loop b clr) st Q t:=by
 refine XX_list es (fun d r env hp=>env=U d (clear clr st.env)∧I d r hp) ⟨h0,i0⟩ ?_ ?_
 ·rintro env hp ⟨rfl,h⟩
  exact hend hp h
 ·rintro d x r env hp hes ⟨rfl,h⟩
  exact hstep d x r hp hes h
attribute [go_sem ↓] endP_nor endP_ret
attribute [go_sem] isB_bool
theorem mapS_nil (f:AV→Option (AV × List Nat)):mapS f []=some ([],[]):=rfl
theorem mapS_cons (f:AV→Option (AV × List Nat)) (x:AV) (r:List AV):mapS f (x :: r)=match f x with
  | none=>none
  | some (y,s)=>match mapS f r with
   | none=>none
   | some (l,s')=>some (y :: l,s++s'):=rfl
theorem snapX (d:Nat) (h:Hp) (v:AV):snap (d+1) h v=(if v.tree then some (v,[]) else
  match v with
  | .agg cs=>(mapS (snap d h) cs).map fun (l,s)=>(.agg l,s)
  | .tup cs=>(mapS (snap d h) cs).map fun (l,s)=>(.tup l,s)
  | .sl nl es cl=>(mapS (snap d h) es).map fun (l,s)=>(.sl nl l cl,s)
  | .ifc v=>(snap d h v).map fun (x,s)=>(.ifc x,s)
  | .fn f cs=>(mapS (snap d h) cs).map fun (l,s)=>(.fn f l,s)
  | .rf k e off len cap=>
   match h.get k with
   | some (e',.blk cs esz ag ti _)=>
    if e'=e then
     match chunk esz ag len (cs.drop off) with
     | some es=>(mapS (snap d h) es).map fun (l,s)=>(.sl false l (ti&&len == cap),k :: s)
     | none=>none
    else none
   | _=>none
  | .pt k e off=>
   match h.get k with
   | some (e',.blk cs esz ag _ _)=>
    if e'=e∧off=0∧esz=cs.length then
     match mapS (snap d h) cs with
     | some (l,s)=>if ag then some (.fp (.agg l),k :: s) else match l with | [v]=>if v.isAgg then none else some (.fp v,k :: s) | _=>none
     | none=>none
    else none
   | _=>none
  | _=>none):=by
 rfl
theorem sls1 (c:UInt8) (t:List UInt8):f_sls true false [.str (c :: t),.int .i64 1]=val (.str t):=by
 have h1:(1:Int)≤((t.length:Int)+1):=by omega
 simp [f_sls,optI,h1]
attribute [go_sem ↓] sls1
theorem callN_sub {pg pg':Pg} (h:∀ f cf,pg.fs f=some cf→pg'.fs f=some cf) (hg:pg.gl=pg'.gl) (hx:∀ f,pg.ex f=none):∀ n,CalSub (callN pg n) (callN pg' n)
 | 0=>by intro f a kb hp r hq;simp [callN] at hq
 | n+1=>by
  intro f a kb hp r hq
  simp only [callN] at hq ⊢
  cases hf:pg.fs f with
  | none=>simp [hf,hx] at hq
  | some cf=>
   rw [hf] at hq
   rw [h f cf hf]
   simp only at hq ⊢
   cases he:exec pg.gl (callN pg n) kb n cf.body ⟨enter cf a,hp⟩ with
   | none=>simp [he] at hq
   | some p=>
    rw [he] at hq
    rw [← hg,exec_mono (callN_sub h hg hx n) (Nat.le_refl _) he]
    exact hq
theorem Ret.closed {pg:Pg} (t:BT CF) (ht:∀ f cf,t.find f=some cf→pg.fs f=some cf) (n:Nat) {f:Nat} {ts:List AV} {r:AV} (h:callP (callN ⟨fun f=>t.find f,pg.gl,fun _=>none⟩ n) f ts=some r):Ret pg f ts r:=
 ⟨n,callP_mono (callN_sub (pg:=⟨fun f=>t.find f,pg.gl,fun _=>none⟩) ht rfl (fun _=>rfl) n) h⟩
theorem cst1:(((1:Nat):Int))=1:=rfl
theorem cst2:(((2:Nat):Int))=2:=rfl
theorem cst3:(((3:Nat):Int))=3:=rfl
theorem cst4:(((4:Nat):Int))=4:=rfl
theorem cst5:(((5:Nat):Int))=5:=rfl
theorem cst6:(((6:Nat):Int))=6:=rfl
theorem cst7:(((7:Nat):Int))=7:=rfl
theorem cst8:(((8:Nat):Int))=8:=rfl
theorem cst9:(((9:Nat):Int))=9:=rfl
theorem cst10:(((10:Nat):Int))=10:=rfl
theorem cst11:(((11:Nat):Int))=11:=rfl
theorem cst12:(((12:Nat):Int))=12:=rfl
attribute [go_sem] cst1 cst2 cst3 cst4 cst5 cst6 cst7 cst8 cst9 cst10 cst11 cst12
attribute [go_sem] Z Y N i0 i1 bN bY sN
attribute [go_sem] getMid ltMid ltEnd conv_tree someInj boolInj intInj strInj clear lenInt eqS_eq
end Go.Tev
end
