import Derived.Test.YtplehelpidcobaaGreatDoorSAP
import Derived.Test.YtplehelpidcobaaGreatDoorSAG
import Derived.Test.YtplehelpidcobaaGreatDoorSAH
import Derived.Test.YtplehelpidcobaaGreatDoorSAN
set_option linter.all false
section
namespace Go.Tev
attribute [go_sem] Nat.succ_eq_add_one Bool.and_true Bool.true_and Bool.and_false Bool.false_and Bool.or_true Bool.true_or Bool.or_false Bool.false_or Bool.not_true Bool.not_false Bool.false_eq_true cond_true cond_false Int.natCast_nonneg Int.toNat_natCast List.length_map List.getElem?_map and_self and_true true_and decide_true decide_false ite_true ite_false if_true if_false not_false_eq_true not_true_eq_false Int.lt_irrefl Bool.and_self Bool.or_self Bool.not_eq_true Bool.not_eq_false eq_self Int.toNat_zero Int.le_refl Int.natCast_zero Nat.zero_le Option.isSome_none Option.isSome_some beq_self_eq_true Option.getD_none Option.isNone_none Option.isNone_some ne_eq
def big:Nat:=16777216
structure Str where
 bs:List UInt8
 ok:bs.length<=big
def Str.av(s:Str):AV:=.str s.bs
structure Sl(α : Type) where
 nl:Bool
 es:List α
 cl:Bool
 ok:es.length<=big
def Sl.av{α : Type}(f : α -> AV)(s:Sl α):AV:=.sl s.nl (s.es.map f) s.cl
def aG(n:Int):AV:=.int .i64 n
structure bS where
 v:Str
 c:Int
def bS.av(x:bS):AV:=.agg [.str x.v.bs,.int .i64 x.c]
structure Lin where
 c:Int
 ts:Sl bS
def Lin.av(x:Lin):AV:=.agg [.int .i64 x.c,x.ts.av bS.av]
structure bI where
 row:Str
 dims:Sl Lin
def bI.av(x:bI):AV:=.agg [.str x.row.bs,x.dims.av Lin.av]
structure Typ where
 elem:Str
 shape:bI
def Typ.av(x:Typ):AV:=.agg [.str x.elem.bs,.str x.shape.row.bs,x.shape.dims.av Lin.av]
structure aJ where
 op:Str
 num:Int
 args:Sl Int
def aJ.av(x:aJ):AV:=.agg [.str x.op.bs,.int .i64 x.num,x.args.av aG]
structure Val where
 v:Str
 n:Int
def Val.av(x:Val):AV:=.agg [.str x.v.bs,.int .i64 x.n]
inductive aC where
 |mk (op:Str) (num value:Int) (name:Str) (at_:Sl Lin) (dyn:Bool) (check:Int) (fn:Sl aJ) (knl:Bool) (kids:List aC) (kcl:Bool)
namespace aC
def op:aC->Str|mk a _ _ _ _ _ _ _ _ _ _=>a
def num:aC->Int|mk _ a _ _ _ _ _ _ _ _ _=>a
def value:aC->Int|mk _ _ a _ _ _ _ _ _ _ _=>a
def name:aC->Str|mk _ _ _ a _ _ _ _ _ _ _=>a
def at_:aC->Sl Lin|mk _ _ _ _ a _ _ _ _ _ _=>a
def dyn:aC->Bool|mk _ _ _ _ _ a _ _ _ _ _=>a
def check:aC->Int|mk _ _ _ _ _ _ a _ _ _ _=>a
def fn:aC->Sl aJ|mk _ _ _ _ _ _ _ a _ _ _=>a
def knl:aC->Bool|mk _ _ _ _ _ _ _ _ a _ _=>a
def kids:aC->List aC|mk _ _ _ _ _ _ _ _ _ a _=>a
def kcl:aC->Bool|mk _ _ _ _ _ _ _ _ _ _ a=>a
end aC
mutual
def aC.av:aC->AV
 |.mk op num value name at_ dyn check fn knl kids kcl=>
  .agg [.str op.bs,.int .i64 num,.int .i64 value,.str name.bs,at_.av Lin.av,.bool dyn,.int .i64 check,fn.av aJ.av,.sl knl (aC.avs kids) kcl]
def aC.avs:List aC->List AV
 |[]=>[]
 |p::r=>p.av::aC.avs r
end
theorem aC.avs_eq:∀l:List aC,aC.avs l=l.map aC.av
 |[]=>by simp[aC.avs]
 |p::r=>by simp[aC.avs,aC.avs_eq r]
def aC.kav(p:aC):AV:=.sl p.knl (p.kids.map aC.av) p.kcl
def aC.cells(p:aC):List AV:=
 [.str p.op.bs,.int .i64 p.num,.int .i64 p.value,.str p.name.bs,p.at_.av Lin.av,.bool p.dyn,.int .i64 p.check,p.fn.av aJ.av,p.kav]
theorem aC.av_eq(p:aC):p.av = .agg p.cells:=by
 cases p;simp[aC.av,aC.cells,aC.kav,aC.avs_eq,op,num,value,name,at_,dyn,check,fn,knl,kids,kcl]
mutual
def aC.ok:aC->Prop
 |.mk _ _ _ _ _ _ _ _ _ kids _=>kids.length<=big/\aC.oks kids
def aC.oks:List aC->Prop
 |[]=>True
 |p::r=>p.ok/\aC.oks r
end
theorem aC.oks_iff:∀l:List aC,aC.oks l↔∀p∈l,p.ok
 |[]=>by simp[aC.oks]
 |p::r=>by simp[aC.oks,aC.oks_iff r]
theorem aC.ok_iff(p:aC):p.ok↔p.kids.length<=big/\∀q∈p.kids,q.ok:=by
 cases p;simp[aC.ok,aC.oks_iff,kids]
structure aD where
 kind:Int
 value:Int
 space:Sl Lin
 body:aC
 fn:Sl aJ
 source:Int
 index:aC
 check:Int
def aD.cells(x:aD):List AV:=
 [.int .i64 x.kind,.int .i64 x.value,x.space.av Lin.av]++x.body.cells++[x.fn.av aJ.av,.int .i64 x.source]++x.index.cells++[.int .i64 x.check]
def aD.av(x:aD):AV:=.agg x.cells
structure aA where
 vars:Sl Str
 wher:Sl Lin
 inputs:Int
 values:Sl Typ
 list:Sl aD
 results:Sl Int
def aA.cells(k:aA):List AV:=
 [k.vars.av Str.av,k.wher.av Lin.av,.int .i64 k.inputs,k.values.av Typ.av,k.list.av aD.av,k.results.av aG]
def aA.av(k:aA):AV:=.agg k.cells
theorem bK{α : Type}{f : α -> AV}(h:∀x,(f x).tree=true):∀l:List α,treeL (l.map f)=true
 |[]=>rfl
 |x::r=>by simp[treeL,h x,bK h r]
theorem BS(n:Int):(aG n).tree=true:=rfl
theorem Str.tree(s:Str):(Str.av s).tree=true:=rfl
theorem nC(l:List Int):treeL (l.map aG)=true:=bK BS l
theorem Str.treeL(l:List Str):Tev.treeL (l.map Str.av)=true:=bK Str.tree l
theorem rU(n:Int):aG n = .int .i64 n:=rfl
theorem Str.av_eq(s:Str):Str.av s = .str s.bs:=rfl
attribute [go_sem] BS Str.tree nC Str.treeL rU Str.av_eq Tev.treeL Sl.av
theorem bS.avc(x:bS):bS.av x = .agg [.str x.v.bs,.int .i64 x.c]:=rfl
theorem bS.cells_av(x:bS):(bS.av x).cells=[.str x.v.bs,.int .i64 x.c]:=by rw[bS.avc];rfl
theorem bS.isAgg_av(x:bS):(bS.av x).isAgg=true:=by rw[bS.avc];rfl
theorem bS.fits_av(x:bS):(bS.av x).fits 2 true=true:=by rw[bS.avc];rfl
theorem bS.tree_av(x:bS):(bS.av x).tree=true:=by rw[bS.avc];simp[go_sem]
theorem bS.treeL_av(l:List bS):Tev.treeL (l.map bS.av)=true:=bK bS.tree_av l
theorem bS.fld_av(off sz:Nat)(ag:Bool)(x:bS):jJ off sz ag [bS.av x]=jJ off sz ag [.agg [.str x.v.bs,.int .i64 x.c]]:=by rw[bS.avc]
theorem bS.fad_av(off sz:Nat)(ag:Bool)(x:bS):jK off sz ag [.fp (bS.av x)]=jK off sz ag [.fp (.agg [.str x.v.bs,.int .i64 x.c])]:=by rw[bS.avc]
theorem bS.box_av(h:Hp)(k:Nat)(x:bS):jL h k [bS.av x]=jL h k [.agg [.str x.v.bs,.int .i64 x.c]]:=by rw[bS.avc]
theorem bS.eqs_av(ng:Bool)(qs:List Nat)(x y:bS):zQ ng qs [bS.av x,bS.av y]=zQ ng qs [.agg [.str x.v.bs,.int .i64 x.c],.agg [.str y.v.bs,.int .i64 y.c]]:=by rw[bS.avc,bS.avc]
attribute [go_sem ↓ high] bS.eqs_av
attribute [go_sem high] bS.cells_av bS.isAgg_av bS.fits_av bS.tree_av bS.treeL_av
attribute [go_sem ↓ high] bS.fld_av bS.fad_av bS.box_av
theorem Lin.avc(x:Lin):Lin.av x = .agg [.int .i64 x.c,.sl x.ts.nl (x.ts.es.map bS.av) x.ts.cl]:=rfl
theorem Lin.cells_av(x:Lin):(Lin.av x).cells=[.int .i64 x.c,.sl x.ts.nl (x.ts.es.map bS.av) x.ts.cl]:=by rw[Lin.avc];rfl
theorem Lin.isAgg_av(x:Lin):(Lin.av x).isAgg=true:=by rw[Lin.avc];rfl
theorem Lin.fits_av(x:Lin):(Lin.av x).fits 2 true=true:=by rw[Lin.avc];rfl
theorem Lin.tree_av(x:Lin):(Lin.av x).tree=true:=by rw[Lin.avc];simp[go_sem]
theorem Lin.treeL_av(l:List Lin):Tev.treeL (l.map Lin.av)=true:=bK Lin.tree_av l
theorem Lin.fld_av(off sz:Nat)(ag:Bool)(x:Lin):jJ off sz ag [Lin.av x]=jJ off sz ag [.agg [.int .i64 x.c,.sl x.ts.nl (x.ts.es.map bS.av) x.ts.cl]]:=by rw[Lin.avc]
theorem Lin.fad_av(off sz:Nat)(ag:Bool)(x:Lin):jK off sz ag [.fp (Lin.av x)]=jK off sz ag [.fp (.agg [.int .i64 x.c,.sl x.ts.nl (x.ts.es.map bS.av) x.ts.cl])]:=by rw[Lin.avc]
theorem Lin.box_av(h:Hp)(k:Nat)(x:Lin):jL h k [Lin.av x]=jL h k [.agg [.int .i64 x.c,.sl x.ts.nl (x.ts.es.map bS.av) x.ts.cl]]:=by rw[Lin.avc]
attribute [go_sem high] Lin.cells_av Lin.isAgg_av Lin.fits_av Lin.tree_av Lin.treeL_av
attribute [go_sem ↓ high] Lin.fld_av Lin.fad_av Lin.box_av
theorem bI.avc(x:bI):bI.av x = .agg [.str x.row.bs,.sl x.dims.nl (x.dims.es.map Lin.av) x.dims.cl]:=rfl
theorem bI.cells_av(x:bI):(bI.av x).cells=[.str x.row.bs,.sl x.dims.nl (x.dims.es.map Lin.av) x.dims.cl]:=by rw[bI.avc];rfl
theorem bI.isAgg_av(x:bI):(bI.av x).isAgg=true:=by rw[bI.avc];rfl
theorem bI.fits_av(x:bI):(bI.av x).fits 2 true=true:=by rw[bI.avc];rfl
theorem bI.tree_av(x:bI):(bI.av x).tree=true:=by rw[bI.avc];simp[go_sem]
theorem bI.treeL_av(l:List bI):Tev.treeL (l.map bI.av)=true:=bK bI.tree_av l
theorem bI.fld_av(off sz:Nat)(ag:Bool)(x:bI):jJ off sz ag [bI.av x]=jJ off sz ag [.agg [.str x.row.bs,.sl x.dims.nl (x.dims.es.map Lin.av) x.dims.cl]]:=by rw[bI.avc]
theorem bI.fad_av(off sz:Nat)(ag:Bool)(x:bI):jK off sz ag [.fp (bI.av x)]=jK off sz ag [.fp (.agg [.str x.row.bs,.sl x.dims.nl (x.dims.es.map Lin.av) x.dims.cl])]:=by rw[bI.avc]
theorem bI.box_av(h:Hp)(k:Nat)(x:bI):jL h k [bI.av x]=jL h k [.agg [.str x.row.bs,.sl x.dims.nl (x.dims.es.map Lin.av) x.dims.cl]]:=by rw[bI.avc]
attribute [go_sem high] bI.cells_av bI.isAgg_av bI.fits_av bI.tree_av bI.treeL_av
attribute [go_sem ↓ high] bI.fld_av bI.fad_av bI.box_av
theorem Typ.avc(x:Typ):Typ.av x = .agg [.str x.elem.bs,.str x.shape.row.bs,.sl x.shape.dims.nl (x.shape.dims.es.map Lin.av) x.shape.dims.cl]:=rfl
theorem Typ.cells_av(x:Typ):(Typ.av x).cells=[.str x.elem.bs,.str x.shape.row.bs,.sl x.shape.dims.nl (x.shape.dims.es.map Lin.av) x.shape.dims.cl]:=by rw[Typ.avc];rfl
theorem Typ.isAgg_av(x:Typ):(Typ.av x).isAgg=true:=by rw[Typ.avc];rfl
theorem Typ.fits_av(x:Typ):(Typ.av x).fits 3 true=true:=by rw[Typ.avc];rfl
theorem Typ.tree_av(x:Typ):(Typ.av x).tree=true:=by rw[Typ.avc];simp[go_sem]
theorem Typ.treeL_av(l:List Typ):Tev.treeL (l.map Typ.av)=true:=bK Typ.tree_av l
theorem Typ.fld_av(off sz:Nat)(ag:Bool)(x:Typ):jJ off sz ag [Typ.av x]=jJ off sz ag [.agg [.str x.elem.bs,.str x.shape.row.bs,.sl x.shape.dims.nl (x.shape.dims.es.map Lin.av) x.shape.dims.cl]]:=by rw[Typ.avc]
theorem Typ.fad_av(off sz:Nat)(ag:Bool)(x:Typ):jK off sz ag [.fp (Typ.av x)]=jK off sz ag [.fp (.agg [.str x.elem.bs,.str x.shape.row.bs,.sl x.shape.dims.nl (x.shape.dims.es.map Lin.av) x.shape.dims.cl])]:=by rw[Typ.avc]
theorem Typ.box_av(h:Hp)(k:Nat)(x:Typ):jL h k [Typ.av x]=jL h k [.agg [.str x.elem.bs,.str x.shape.row.bs,.sl x.shape.dims.nl (x.shape.dims.es.map Lin.av) x.shape.dims.cl]]:=by rw[Typ.avc]
attribute [go_sem high] Typ.cells_av Typ.isAgg_av Typ.fits_av Typ.tree_av Typ.treeL_av
attribute [go_sem ↓ high] Typ.fld_av Typ.fad_av Typ.box_av
theorem aJ.avc(x:aJ):aJ.av x = .agg [.str x.op.bs,.int .i64 x.num,.sl x.args.nl (x.args.es.map aG) x.args.cl]:=rfl
theorem aJ.cells_av(x:aJ):(aJ.av x).cells=[.str x.op.bs,.int .i64 x.num,.sl x.args.nl (x.args.es.map aG) x.args.cl]:=by rw[aJ.avc];rfl
theorem aJ.isAgg_av(x:aJ):(aJ.av x).isAgg=true:=by rw[aJ.avc];rfl
theorem aJ.fits_av(x:aJ):(aJ.av x).fits 3 true=true:=by rw[aJ.avc];rfl
theorem aJ.tree_av(x:aJ):(aJ.av x).tree=true:=by rw[aJ.avc];simp[go_sem]
theorem aJ.treeL_av(l:List aJ):Tev.treeL (l.map aJ.av)=true:=bK aJ.tree_av l
theorem aJ.fld_av(off sz:Nat)(ag:Bool)(x:aJ):jJ off sz ag [aJ.av x]=jJ off sz ag [.agg [.str x.op.bs,.int .i64 x.num,.sl x.args.nl (x.args.es.map aG) x.args.cl]]:=by rw[aJ.avc]
theorem aJ.fad_av(off sz:Nat)(ag:Bool)(x:aJ):jK off sz ag [.fp (aJ.av x)]=jK off sz ag [.fp (.agg [.str x.op.bs,.int .i64 x.num,.sl x.args.nl (x.args.es.map aG) x.args.cl])]:=by rw[aJ.avc]
theorem aJ.box_av(h:Hp)(k:Nat)(x:aJ):jL h k [aJ.av x]=jL h k [.agg [.str x.op.bs,.int .i64 x.num,.sl x.args.nl (x.args.es.map aG) x.args.cl]]:=by rw[aJ.avc]
attribute [go_sem high] aJ.cells_av aJ.isAgg_av aJ.fits_av aJ.tree_av aJ.treeL_av
attribute [go_sem ↓ high] aJ.fld_av aJ.fad_av aJ.box_av
theorem Val.avc(x:Val):Val.av x = .agg [.str x.v.bs,.int .i64 x.n]:=rfl
theorem Val.cells_av(x:Val):(Val.av x).cells=[.str x.v.bs,.int .i64 x.n]:=by rw[Val.avc];rfl
theorem Val.isAgg_av(x:Val):(Val.av x).isAgg=true:=by rw[Val.avc];rfl
theorem Val.fits_av(x:Val):(Val.av x).fits 2 true=true:=by rw[Val.avc];rfl
theorem Val.tree_av(x:Val):(Val.av x).tree=true:=by rw[Val.avc];simp[go_sem]
theorem Val.treeL_av(l:List Val):Tev.treeL (l.map Val.av)=true:=bK Val.tree_av l
theorem Val.fld_av(off sz:Nat)(ag:Bool)(x:Val):jJ off sz ag [Val.av x]=jJ off sz ag [.agg [.str x.v.bs,.int .i64 x.n]]:=by rw[Val.avc]
theorem Val.fad_av(off sz:Nat)(ag:Bool)(x:Val):jK off sz ag [.fp (Val.av x)]=jK off sz ag [.fp (.agg [.str x.v.bs,.int .i64 x.n])]:=by rw[Val.avc]
theorem Val.box_av(h:Hp)(k:Nat)(x:Val):jL h k [Val.av x]=jL h k [.agg [.str x.v.bs,.int .i64 x.n]]:=by rw[Val.avc]
theorem Val.eqs_av(ng:Bool)(qs:List Nat)(x y:Val):zQ ng qs [Val.av x,Val.av y]=zQ ng qs [.agg [.str x.v.bs,.int .i64 x.n],.agg [.str y.v.bs,.int .i64 y.n]]:=by rw[Val.avc,Val.avc]
attribute [go_sem ↓ high] Val.eqs_av
attribute [go_sem high] Val.cells_av Val.isAgg_av Val.fits_av Val.tree_av Val.treeL_av
attribute [go_sem ↓ high] Val.fld_av Val.fad_av Val.box_av
theorem aC.avc(x:aC):aC.av x = .agg [.str x.op.bs,.int .i64 x.num,.int .i64 x.value,.str x.name.bs,.sl x.at_.nl (x.at_.es.map Lin.av) x.at_.cl,.bool x.dyn,.int .i64 x.check,.sl x.fn.nl (x.fn.es.map aJ.av) x.fn.cl,.sl x.knl (x.kids.map aC.av) x.kcl]:=aC.av_eq x
theorem aC.cells_av(x:aC):(aC.av x).cells=[.str x.op.bs,.int .i64 x.num,.int .i64 x.value,.str x.name.bs,.sl x.at_.nl (x.at_.es.map Lin.av) x.at_.cl,.bool x.dyn,.int .i64 x.check,.sl x.fn.nl (x.fn.es.map aJ.av) x.fn.cl,.sl x.knl (x.kids.map aC.av) x.kcl]:=by rw[aC.avc];rfl
theorem aC.isAgg_av(x:aC):(aC.av x).isAgg=true:=by rw[aC.avc];rfl
theorem aC.fits_av(x:aC):(aC.av x).fits 9 true=true:=by rw[aC.avc];rfl
mutual
theorem aC.tree_av:∀x:aC,(aC.av x).tree=true
 |.mk op num value name at_ dyn check fn knl kids kcl=>by
  have:=aC.tree_avs kids
  simp[aC.av,go_sem,bK Lin.tree_av,bK aJ.tree_av,this]
theorem aC.tree_avs:∀l:List aC,Tev.treeL (aC.avs l)=true
 |[]=>by simp[aC.avs,Tev.treeL]
 |p::r=>by simp[aC.avs,Tev.treeL,aC.tree_av p,aC.tree_avs r]
end
theorem aC.treeL_av(l:List aC):Tev.treeL (l.map aC.av)=true:=bK aC.tree_av l
theorem aC.fld_av(off sz:Nat)(ag:Bool)(x:aC):jJ off sz ag [aC.av x]=jJ off sz ag [.agg [.str x.op.bs,.int .i64 x.num,.int .i64 x.value,.str x.name.bs,.sl x.at_.nl (x.at_.es.map Lin.av) x.at_.cl,.bool x.dyn,.int .i64 x.check,.sl x.fn.nl (x.fn.es.map aJ.av) x.fn.cl,.sl x.knl (x.kids.map aC.av) x.kcl]]:=by rw[aC.avc]
theorem aC.fad_av(off sz:Nat)(ag:Bool)(x:aC):jK off sz ag [.fp (aC.av x)]=jK off sz ag [.fp (.agg [.str x.op.bs,.int .i64 x.num,.int .i64 x.value,.str x.name.bs,.sl x.at_.nl (x.at_.es.map Lin.av) x.at_.cl,.bool x.dyn,.int .i64 x.check,.sl x.fn.nl (x.fn.es.map aJ.av) x.fn.cl,.sl x.knl (x.kids.map aC.av) x.kcl])]:=by rw[aC.avc]
theorem aC.box_av(h:Hp)(k:Nat)(x:aC):jL h k [aC.av x]=jL h k [.agg [.str x.op.bs,.int .i64 x.num,.int .i64 x.value,.str x.name.bs,.sl x.at_.nl (x.at_.es.map Lin.av) x.at_.cl,.bool x.dyn,.int .i64 x.check,.sl x.fn.nl (x.fn.es.map aJ.av) x.fn.cl,.sl x.knl (x.kids.map aC.av) x.kcl]]:=by rw[aC.avc]
attribute [go_sem high] aC.cells_av aC.isAgg_av aC.fits_av aC.tree_av aC.treeL_av
attribute [go_sem ↓ high] aC.fld_av aC.fad_av aC.box_av
theorem aD.avc(x:aD):aD.av x = .agg [.int .i64 x.kind,.int .i64 x.value,.sl x.space.nl (x.space.es.map Lin.av) x.space.cl,.str x.body.op.bs,.int .i64 x.body.num,.int .i64 x.body.value,.str x.body.name.bs,.sl x.body.at_.nl (x.body.at_.es.map Lin.av) x.body.at_.cl,.bool x.body.dyn,.int .i64 x.body.check,.sl x.body.fn.nl (x.body.fn.es.map aJ.av) x.body.fn.cl,.sl x.body.knl (x.body.kids.map aC.av) x.body.kcl,.sl x.fn.nl (x.fn.es.map aJ.av) x.fn.cl,.int .i64 x.source,.str x.index.op.bs,.int .i64 x.index.num,.int .i64 x.index.value,.str x.index.name.bs,.sl x.index.at_.nl (x.index.at_.es.map Lin.av) x.index.at_.cl,.bool x.index.dyn,.int .i64 x.index.check,.sl x.index.fn.nl (x.index.fn.es.map aJ.av) x.index.fn.cl,.sl x.index.knl (x.index.kids.map aC.av) x.index.kcl,.int .i64 x.check]:=rfl
theorem aD.cells_av(x:aD):(aD.av x).cells=[.int .i64 x.kind,.int .i64 x.value,.sl x.space.nl (x.space.es.map Lin.av) x.space.cl,.str x.body.op.bs,.int .i64 x.body.num,.int .i64 x.body.value,.str x.body.name.bs,.sl x.body.at_.nl (x.body.at_.es.map Lin.av) x.body.at_.cl,.bool x.body.dyn,.int .i64 x.body.check,.sl x.body.fn.nl (x.body.fn.es.map aJ.av) x.body.fn.cl,.sl x.body.knl (x.body.kids.map aC.av) x.body.kcl,.sl x.fn.nl (x.fn.es.map aJ.av) x.fn.cl,.int .i64 x.source,.str x.index.op.bs,.int .i64 x.index.num,.int .i64 x.index.value,.str x.index.name.bs,.sl x.index.at_.nl (x.index.at_.es.map Lin.av) x.index.at_.cl,.bool x.index.dyn,.int .i64 x.index.check,.sl x.index.fn.nl (x.index.fn.es.map aJ.av) x.index.fn.cl,.sl x.index.knl (x.index.kids.map aC.av) x.index.kcl,.int .i64 x.check]:=by rw[aD.avc];rfl
theorem aD.isAgg_av(x:aD):(aD.av x).isAgg=true:=by rw[aD.avc];rfl
theorem aD.fits_av(x:aD):(aD.av x).fits 24 true=true:=by rw[aD.avc];rfl
theorem aD.tree_av(x:aD):(aD.av x).tree=true:=by rw[aD.avc];simp[go_sem]
theorem aD.treeL_av(l:List aD):Tev.treeL (l.map aD.av)=true:=bK aD.tree_av l
theorem aD.fld_av(off sz:Nat)(ag:Bool)(x:aD):jJ off sz ag [aD.av x]=jJ off sz ag [.agg [.int .i64 x.kind,.int .i64 x.value,.sl x.space.nl (x.space.es.map Lin.av) x.space.cl,.str x.body.op.bs,.int .i64 x.body.num,.int .i64 x.body.value,.str x.body.name.bs,.sl x.body.at_.nl (x.body.at_.es.map Lin.av) x.body.at_.cl,.bool x.body.dyn,.int .i64 x.body.check,.sl x.body.fn.nl (x.body.fn.es.map aJ.av) x.body.fn.cl,.sl x.body.knl (x.body.kids.map aC.av) x.body.kcl,.sl x.fn.nl (x.fn.es.map aJ.av) x.fn.cl,.int .i64 x.source,.str x.index.op.bs,.int .i64 x.index.num,.int .i64 x.index.value,.str x.index.name.bs,.sl x.index.at_.nl (x.index.at_.es.map Lin.av) x.index.at_.cl,.bool x.index.dyn,.int .i64 x.index.check,.sl x.index.fn.nl (x.index.fn.es.map aJ.av) x.index.fn.cl,.sl x.index.knl (x.index.kids.map aC.av) x.index.kcl,.int .i64 x.check]]:=by rw[aD.avc]
theorem aD.fad_av(off sz:Nat)(ag:Bool)(x:aD):jK off sz ag [.fp (aD.av x)]=jK off sz ag [.fp (.agg [.int .i64 x.kind,.int .i64 x.value,.sl x.space.nl (x.space.es.map Lin.av) x.space.cl,.str x.body.op.bs,.int .i64 x.body.num,.int .i64 x.body.value,.str x.body.name.bs,.sl x.body.at_.nl (x.body.at_.es.map Lin.av) x.body.at_.cl,.bool x.body.dyn,.int .i64 x.body.check,.sl x.body.fn.nl (x.body.fn.es.map aJ.av) x.body.fn.cl,.sl x.body.knl (x.body.kids.map aC.av) x.body.kcl,.sl x.fn.nl (x.fn.es.map aJ.av) x.fn.cl,.int .i64 x.source,.str x.index.op.bs,.int .i64 x.index.num,.int .i64 x.index.value,.str x.index.name.bs,.sl x.index.at_.nl (x.index.at_.es.map Lin.av) x.index.at_.cl,.bool x.index.dyn,.int .i64 x.index.check,.sl x.index.fn.nl (x.index.fn.es.map aJ.av) x.index.fn.cl,.sl x.index.knl (x.index.kids.map aC.av) x.index.kcl,.int .i64 x.check])]:=by rw[aD.avc]
theorem aD.box_av(h:Hp)(k:Nat)(x:aD):jL h k [aD.av x]=jL h k [.agg [.int .i64 x.kind,.int .i64 x.value,.sl x.space.nl (x.space.es.map Lin.av) x.space.cl,.str x.body.op.bs,.int .i64 x.body.num,.int .i64 x.body.value,.str x.body.name.bs,.sl x.body.at_.nl (x.body.at_.es.map Lin.av) x.body.at_.cl,.bool x.body.dyn,.int .i64 x.body.check,.sl x.body.fn.nl (x.body.fn.es.map aJ.av) x.body.fn.cl,.sl x.body.knl (x.body.kids.map aC.av) x.body.kcl,.sl x.fn.nl (x.fn.es.map aJ.av) x.fn.cl,.int .i64 x.source,.str x.index.op.bs,.int .i64 x.index.num,.int .i64 x.index.value,.str x.index.name.bs,.sl x.index.at_.nl (x.index.at_.es.map Lin.av) x.index.at_.cl,.bool x.index.dyn,.int .i64 x.index.check,.sl x.index.fn.nl (x.index.fn.es.map aJ.av) x.index.fn.cl,.sl x.index.knl (x.index.kids.map aC.av) x.index.kcl,.int .i64 x.check]]:=by rw[aD.avc]
attribute [go_sem high] aD.cells_av aD.isAgg_av aD.fits_av aD.tree_av aD.treeL_av
attribute [go_sem ↓ high] aD.fld_av aD.fad_av aD.box_av
theorem aA.avc(x:aA):aA.av x = .agg [.sl x.vars.nl (x.vars.es.map Str.av) x.vars.cl,.sl x.wher.nl (x.wher.es.map Lin.av) x.wher.cl,.int .i64 x.inputs,.sl x.values.nl (x.values.es.map Typ.av) x.values.cl,.sl x.list.nl (x.list.es.map aD.av) x.list.cl,.sl x.results.nl (x.results.es.map aG) x.results.cl]:=rfl
theorem aA.cells_av(x:aA):(aA.av x).cells=[.sl x.vars.nl (x.vars.es.map Str.av) x.vars.cl,.sl x.wher.nl (x.wher.es.map Lin.av) x.wher.cl,.int .i64 x.inputs,.sl x.values.nl (x.values.es.map Typ.av) x.values.cl,.sl x.list.nl (x.list.es.map aD.av) x.list.cl,.sl x.results.nl (x.results.es.map aG) x.results.cl]:=by rw[aA.avc];rfl
theorem aA.isAgg_av(x:aA):(aA.av x).isAgg=true:=by rw[aA.avc];rfl
theorem aA.fits_av(x:aA):(aA.av x).fits 6 true=true:=by rw[aA.avc];rfl
theorem aA.tree_av(x:aA):(aA.av x).tree=true:=by rw[aA.avc];simp[go_sem]
theorem aA.treeL_av(l:List aA):Tev.treeL (l.map aA.av)=true:=bK aA.tree_av l
theorem aA.fld_av(off sz:Nat)(ag:Bool)(x:aA):jJ off sz ag [aA.av x]=jJ off sz ag [.agg [.sl x.vars.nl (x.vars.es.map Str.av) x.vars.cl,.sl x.wher.nl (x.wher.es.map Lin.av) x.wher.cl,.int .i64 x.inputs,.sl x.values.nl (x.values.es.map Typ.av) x.values.cl,.sl x.list.nl (x.list.es.map aD.av) x.list.cl,.sl x.results.nl (x.results.es.map aG) x.results.cl]]:=by rw[aA.avc]
theorem aA.fad_av(off sz:Nat)(ag:Bool)(x:aA):jK off sz ag [.fp (aA.av x)]=jK off sz ag [.fp (.agg [.sl x.vars.nl (x.vars.es.map Str.av) x.vars.cl,.sl x.wher.nl (x.wher.es.map Lin.av) x.wher.cl,.int .i64 x.inputs,.sl x.values.nl (x.values.es.map Typ.av) x.values.cl,.sl x.list.nl (x.list.es.map aD.av) x.list.cl,.sl x.results.nl (x.results.es.map aG) x.results.cl])]:=by rw[aA.avc]
theorem aA.box_av(h:Hp)(k:Nat)(x:aA):jL h k [aA.av x]=jL h k [.agg [.sl x.vars.nl (x.vars.es.map Str.av) x.vars.cl,.sl x.wher.nl (x.wher.es.map Lin.av) x.wher.cl,.int .i64 x.inputs,.sl x.values.nl (x.values.es.map Typ.av) x.values.cl,.sl x.list.nl (x.list.es.map aD.av) x.list.cl,.sl x.results.nl (x.results.es.map aG) x.results.cl]]:=by rw[aA.avc]
attribute [go_sem high] aA.cells_av aA.isAgg_av aA.fits_av aA.tree_av aA.treeL_av
attribute [go_sem ↓ high] aA.fld_av aA.fad_av aA.box_av
theorem TK{α : Type}(d:List α)(x : α)(r:List α):(d++x::r)[d.length]?=some x:=by simp
theorem RP{α : Type}(d:List α)(x : α)(r:List α):decide ((d.length:Int)<((d++x::r).length:Int))=true:=by
 simp only[List.length_append,List.length_cons,decide_eq_true_eq];omega
theorem VX{α : Type}(d:List α):decide ((d.length:Int)<((d++[]).length:Int))=false:=by simp
theorem aV{n:Int}(h1 : -1000000000000000000<=n)(h2:n<=1000000000000000000):wr .i64 n=n:=by
 simp only[wr];rw[if_pos (by omega)]
theorem LU{n:Nat}(h:n<=1000000000000000000):wr .i64 (n:Int)=n:=aV (by omega) (by omega)
theorem aM{α : Type}{d:List α}{x : α}{r:List α}(h:(d++x::r).length<=big):wr .i64 ((d.length:Int)+1)=((d++[x]).length:Int):=by
 simp only[List.length_append,List.length_cons,List.length_nil,big]at *
 rw[aV (by omega) (by omega)]
 omega
theorem aI{pg:Pg}{kb:Nat}{α : Type}(es:List α)(E:List α -> List α -> List AV->Hp->Prop){b:C}{clr:List Bool}{st:St}{Q:Ex->St->Prop}{t:Tok Q}(h0:E [] es (clear clr st.env) st.hp)
  (hend:∀env hp,E es [] env hp->XX pg kb b ⟨env,hp⟩ (lN (fun _=>False) Q) ⟨⟩)
  (hstep:∀d x r env hp,es=d++x::r->E d (x::r) env hp->XX pg kb b ⟨env,hp⟩ (lN (fun st'=>E (d++[x]) r (clear clr st'.env) st'.hp) Q) ⟨⟩) :
  XX pg kb (.loop b clr) st Q t:=by
 refine o8 (α:={p:List α×List α // es=p.1++p.2}) (fun p=>p.1.2.length) (fun p=>E p.1.1 p.1.2) ⟨([],es),rfl⟩ h0 ?_
 rintro⟨⟨d,r⟩,hes⟩ env hp hE
 dsimp only at hes hE ⊢
 cases r with
 |nil=>
  rw[List.append_nil]at hes
  subst hes
  obtain⟨n,ex,st',h1,h2⟩:=hend env hp hE
  refine⟨n,ex,st',h1,?_⟩
  cases ex with
  |nor=>exact h2.elim
  |ext i=>exact h2
  |ret=>exact h2
 |cons x r=>
  obtain⟨n,ex,st',h1,h2⟩:=hstep d x r env hp hes hE
  refine⟨n,ex,st',h1,?_⟩
  cases ex with
  |nor=>exact⟨⟨(d++[x],r),by simp[hes]⟩,by simp,h2⟩
  |ext i=>exact h2
  |ret=>exact h2
theorem vX{h:Hp}{v:AV}(hv:v.tree=true):conv h v=some v:=by
 have:snap depth h v=some (v,[]):=by unfold depth snap;rw[if_pos hv]
 cases v<;>first|(simp only[conv,this];rfl)|simp[AV.tree]at hv
theorem P1{α : Type}(x y : α):(some x=some y)=(x=y):=by simp
theorem Q0(x y:Bool):(AV.bool x=AV.bool y)=(x=y):=by simp
theorem TJ(k:IntKind)(x y:Int):(AV.int k x=AV.int k y)=(x=y):=by simp
theorem R0(x y:List UInt8):(AV.str x=AV.str y)=(x=y):=by simp
theorem TH{α : Type}(l:List α):(0<=(l.length:Int))=True:=by simp
def bJ(pg:Pg)(f:Nat)(ts:List AV)(P:AV->Prop):Prop:=∃r,Ret pg f ts r/\P r
def OK(res:List (Sum Nat (Nat×Nat×Bool)))(P:AV->Prop)(ex:Ex)(st:St):Prop:=
 match ex with
 |.ext _=>False
 |_=>∃v,result st res=some v/\∃r,conv st.hp v=some r/\P r
theorem OJ(res:List (Sum Nat (Nat×Nat×Bool)))(P:AV->Prop)(st:St):OK res P .nor st=∃v,result st res=some v/\∃r,conv st.hp v=some r/\P r:=rfl
theorem OI(res:List (Sum Nat (Nat×Nat×Bool)))(P:AV->Prop)(st:St):OK res P .ret st=∃v,result st res=some v/\∃r,conv st.hp v=some r/\P r:=rfl
theorem bJ.ofX{pg:Pg}{f:Nat}{cf:CF}{vs:List AV}{P:AV->Prop}(hf:pg.fs f=some cf)(hw:XX pg 0 cf.body ⟨enter cf vs,[]⟩ (OK cf.res P) ⟨⟩):bJ pg f vs P:=by
 obtain⟨n,ex,st,h1,h2⟩:=hw
 cases ex with
 |ext i=>exact h2.elim
 |nor=>obtain⟨v,h3,r,h4,h5⟩:=h2;exact⟨r,Ret.of hf ⟨n,.nor,st,h1,v,h3,h4⟩,h5⟩
 |ret=>obtain⟨v,h3,r,h4,h5⟩:=h2;exact⟨r,Ret.of hf ⟨n,.ret,st,h1,v,h3,h4⟩,h5⟩
def IsB(v:AV):Prop:=∃b:Bool,v = .bool b
theorem NO(b:Bool):IsB (.bool b)=True:=by simp only[IsB,eq_iff_iff,iff_true];exact⟨b,rfl⟩
theorem bJ.mono{pg:Pg}{f:Nat}{ts:List AV}{P P':AV->Prop}(h:bJ pg f ts P)(hP:∀r,P r->P' r):bJ pg f ts P':=by
 obtain⟨r,h1,h2⟩:=h;exact⟨r,h1,hP r h2⟩
theorem Ret.P{pg:Pg}{f:Nat}{ts:List AV}{r:AV}{P:AV->Prop}(h:Ret pg f ts r)(hP:P r):bJ pg f ts P:=⟨r,h,hP⟩
theorem dS{pg:Pg}{kb:Nat}{α : Type}(es:List α)(U:List α -> List AV->List AV)(I:List α -> List α -> Hp->Prop){b:C}{clr:List Bool}{st:St}{Q:Ex->St->Prop}{t:Tok Q}
  (h0:clear clr st.env=U [] (clear clr st.env)) (i0:I [] es st.hp)
  (hend:∀hp,I es [] hp->XX pg kb b ⟨U es (clear clr st.env),hp⟩ (lN (fun _=>False) Q) ⟨⟩)
  (hstep:∀d x r hp,es=d++x::r->I d (x::r) hp->XX pg kb b ⟨U d (clear clr st.env),hp⟩ (lN (fun st'=>clear clr st'.env=U (d++[x]) (clear clr st.env)/\I (d++[x]) r st'.hp) Q) ⟨⟩) :
  XX pg kb (.loop b clr) st Q t:=by
 refine aI es (fun d r env hp=>env=U d (clear clr st.env)/\I d r hp) ⟨h0,i0⟩ ?_ ?_
 ·rintro env hp ⟨rfl,h⟩
  exact hend hp h
 ·rintro d x r env hp hes ⟨rfl,h⟩
  exact hstep d x r hp hes h
attribute [go_sem ↓] OJ OI
attribute [go_sem] NO
theorem bW(f:AV->Option (AV×List Nat)):cG f []=some ([],[]):=rfl
theorem bB(f:AV->Option (AV×List Nat))(x:AV)(r:List AV):cG f (x::r)=match f x with
  |none=>none
  |some (y,s)=>match cG f r with
   |none=>none
   |some (l,s')=>some (y::l,s++s'):=rfl
theorem eD(d:Nat)(h:Hp)(v:AV):snap (d+1) h v=(if v.tree then some (v,[]) else
  match v with
  |.agg cs=>(cG (snap d h) cs).map fun(l,s)=>(.agg l,s)
  |.tup cs=>(cG (snap d h) cs).map fun(l,s)=>(.tup l,s)
  |.sl nl es cl=>(cG (snap d h) es).map fun(l,s)=>(.sl nl l cl,s)
  |.ifc v=>(snap d h v).map fun(x,s)=>(.ifc x,s)
  |.fn f cs=>(cG (snap d h) cs).map fun(l,s)=>(.fn f l,s)
  |.rf k e off len cap=>
   match h.get k with
   |some (e',.blk cs esz ag ti _)=>
    if e'=e then
     match l9 esz ag len (cs.drop off) with
     |some es=>(cG (snap d h) es).map fun(l,s)=>(.sl false l (ti&&len==cap),k::s)
     |none=>none
    else none
   |_=>none
  |.pt k e off=>
   match h.get k with
   |some (e',.blk cs esz ag _ _)=>
    if e'=e/\off=0/\esz=cs.length then
     match cG (snap d h) cs with
     |some (l,s)=>if ag then some (.fp (.agg l),k::s) else match l with|[v]=>if v.isAgg then none else some (.fp v,k::s)|_=>none
     |none=>none
    else none
   |_=>none
  |_=>none):=by
 rfl
theorem XL(c:UInt8)(t:List UInt8):rH true false [.str (c::t),.int .i64 1]=val (.str t):=by
 have h1:(1:Int)<=((t.length:Int)+1):=by omega
 simp[rH,gS,h1]
attribute [go_sem ↓] XL
theorem v6{pg pg':Pg}(h:∀f cf,pg.fs f=some cf->pg'.fs f=some cf)(hg:pg.gl=pg'.gl)(hx:∀f,pg.ex f=none):∀n,kP (bO pg n) (bO pg' n)
 |0=>⟨by intro f a kb hp r hq;simp[bO]at hq,by intro k e a hp r hq;simp[bO]at hq⟩
 |n+1=>by
  refine⟨?_,fun k e a hp r hq=>by
   simp only[bO]at hq ⊢
   exact qR (fun c b st r hr=>by rw[<-hg];exact oW (v6 h hg hx n) (Nat.le_refl _) hr) hq⟩
  intro f a kb hp r hq
  simp only[bO]at hq ⊢
  cases hf:pg.fs f with
  |none=>simp[hf,hx]at hq
  |some cf=>
   rw[hf]at hq
   rw[h f cf hf]
   simp only at hq ⊢
   cases he:cM pg.gl (bO pg n) kb n cf.body ⟨enter cf a,hp⟩ with
   |none=>simp[he]at hq
   |some p=>
    rw[he]at hq
    rw[<-hg,oW (v6 h hg hx n) (Nat.le_refl _) he]
    exact hq
theorem Ret.closed{pg:Pg}(t:BT CF)(ht:∀f cf,t.find f=some cf->pg.fs f=some cf)(n:Nat){f:Nat}{ts:List AV}{r:AV}(h:eF (bO ⟨fun f=>t.find f,pg.gl,fun _=>none⟩ n) f ts=some r):Ret pg f ts r:=
 ⟨n,jX (v6 (pg:=⟨fun f=>t.find f,pg.gl,fun _=>none⟩) ht rfl (fun _=>rfl) n) h⟩
theorem aBQ:(((1:Nat):Int))=1:=rfl
theorem aBP:(((2:Nat):Int))=2:=rfl
theorem aBO:(((3:Nat):Int))=3:=rfl
theorem aBN:(((4:Nat):Int))=4:=rfl
theorem aBM:(((5:Nat):Int))=5:=rfl
theorem aBL:(((6:Nat):Int))=6:=rfl
theorem aBK:(((7:Nat):Int))=7:=rfl
theorem aBJ:(((8:Nat):Int))=8:=rfl
theorem aBI:(((9:Nat):Int))=9:=rfl
theorem WE:(((10:Nat):Int))=10:=rfl
theorem WD:(((11:Nat):Int))=11:=rfl
theorem WC:(((12:Nat):Int))=12:=rfl
attribute [go_sem] aBQ aBP aBO aBN aBM aBL aBK aBJ aBI WE WD WC
attribute [go_sem] Z Y N i0 i1 bN bY sN
attribute [go_sem] TK RP VX vX P1 Q0 TJ R0 clear TH DD
end Go.Tev
end
section
namespace Go.Tev
def E5:List Bool:=[true,true,false,false,false,false,false,true,true,false,false,false,false,false,false,false,false,false,false]
def E6(esz:Nat)(ag:Bool):C:=
 (.seq (.reg [⟨(some 9),(.bin .lss),[.t 8,.t 7],none,0,0⟩] false)
 (.seq (.cond (.t 9) .skip
  (.exit 0))
 (.seq (.block 1 (.seq (.reg [⟨(some 10),.mov,[.t 8],none,0,0⟩,
  ⟨(some 5),.mov,[.t 10],none,0,0⟩] false)
 (.seq (.reg [⟨(some 11),.mov,[.t 1],none,0,0⟩,
  ⟨(some 12),.mov,[.t 0],none,0,0⟩,
  ⟨(some 13),.mov,[.t 5],none,0,0⟩,
  ⟨(some 14),(.iad esz ag none),[.t 12,.t 13],none,0,0⟩,
  ⟨(some 15),(.load esz ag),[.t 14],none,0,0⟩,
  ⟨(some 16),(.callv false false),[.t 11,.t 15],none,0,1⟩] false)
 (.cond (.t 16) (.seq (.reg [⟨(some 17),.mov,[.t 5],none,0,0⟩,
   ⟨(some 4),.mov,[.t 17],none,0,0⟩] false)
  .ret)
  .skip))))
 (.reg [⟨(some 18),(.bin .add),[.t 8,.c (.int .i64 1)],none,0,0⟩,
  ⟨(some 8),.mov,[.t 18],none,0,0⟩] false))))
def QV(esz:Nat)(ag:Bool):CF:=⟨2,19,[.inl 4],
 (.seq (.reg [⟨(some 4),.mov,[.c (.int .i64 0)],none,0,0⟩] false)
 (.seq (.seq (.reg [⟨(some 6),.mov,[.t 0],none,0,0⟩,
  ⟨(some 7),(.len 1),[.t 6],none,0,0⟩,
  ⟨(some 8),.mov,[.c (.int .i64 0)],none,0,0⟩] false)
 (.block 0 (.loop (E6 esz ag) E5)))
 (.seq (.reg [⟨(some 4),.mov,[.c (.int .i64 (-1))],none,0,0⟩] false)
 .ret)))⟩
def WF(n:Nat):CF:=⟨2,9,[.inl 4],
 (.seq (.reg [⟨(some 4),.mov,[.c (.bool false)],none,0,0⟩] false)
 (.seq (.reg [⟨(some 5),.mov,[.t 0],none,0,0⟩,
  ⟨(some 6),.mov,[.t 1],none,0,0⟩,
  ⟨(some 7),(.call n false false),[.t 5,.t 6],none,0,1⟩,
  ⟨(some 8),(.bin .geq),[.t 7,.c (.int .i64 0)],none,0,0⟩,
  ⟨(some 4),.mov,[.t 8],none,0,0⟩] false)
 .ret))⟩
def NU:List Bool:=[true,true,false,false,false,false,false,true,true,false,false,false,false,false,false,false,false,false,false]
def NV(esz:Nat)(ag:Bool)(k:K):C:=
 (.seq (.reg [⟨(some 9),(.bin .lss),[.t 8,.t 7],none,0,0⟩] false)
 (.seq (.cond (.t 9) .skip
  (.exit 0))
 (.seq (.block 1 (.seq (.reg [⟨(some 10),.mov,[.t 8],none,0,0⟩,
  ⟨(some 5),.mov,[.t 10],none,0,0⟩] false)
 (.seq (.reg [⟨(some 11),.mov,[.t 1],none,0,0⟩,
  ⟨(some 12),.mov,[.t 0],none,0,0⟩,
  ⟨(some 13),.mov,[.t 5],none,0,0⟩,
  ⟨(some 14),(.iad esz ag none),[.t 12,.t 13],none,0,0⟩,
  ⟨(some 15),(.load esz ag),[.t 14],none,0,0⟩,
  ⟨(some 16),k,[.t 11,.t 15],none,0,0⟩] false)
 (.cond (.t 16) (.seq (.reg [⟨(some 17),.mov,[.t 5],none,0,0⟩,
   ⟨(some 4),.mov,[.t 17],none,0,0⟩] false)
  .ret)
  .skip))))
 (.reg [⟨(some 18),(.bin .add),[.t 8,.c (.int .i64 1)],none,0,0⟩,
  ⟨(some 8),.mov,[.t 18],none,0,0⟩] false))))
def V2(esz:Nat)(ag:Bool)(k:K):CF:=⟨2,19,[.inl 4],
 (.seq (.reg [⟨(some 4),.mov,[.c (.int .i64 0)],none,0,0⟩] false)
 (.seq (.seq (.reg [⟨(some 6),.mov,[.t 0],none,0,0⟩,
  ⟨(some 7),(.len 1),[.t 6],none,0,0⟩,
  ⟨(some 8),.mov,[.c (.int .i64 0)],none,0,0⟩] false)
 (.block 0 (.loop (NV esz ag k) NU)))
 (.seq (.reg [⟨(some 4),.mov,[.c (.int .i64 (-1))],none,0,0⟩] false)
 .ret)))⟩
def TX:List Bool:=[false,true,true,false,false,false,false,false,false,false,false,false,false,false,false,true,true,true,false,false,false,false,false,false,false,false,false,false,false,false,false,false]
def TY(esz:Nat)(ag:Bool)(z:List AV):C:=
 (.seq (.reg [⟨(some 18),(.bin .lss),[.t 17,.t 16],none,0,0⟩] false)
 (.seq (.cond (.t 18) .skip
  (.exit 0))
 (.seq (.block 1 (.seq (.reg [⟨(some 19),.mov,[.t 17],none,0,0⟩,
  ⟨(some 20),(.iad esz ag none),[.t 15,.t 17],none,0,0⟩,
  ⟨(some 21),(.load esz ag),[.t 20],none,0,0⟩,
  ⟨(some 8),(.alloc z ag),[],none,0,1⟩,
  ⟨(some 7),.mov,[.t 19],none,0,0⟩,
  ⟨none,(.store esz ag),[.t 8,.t 21],none,0,0⟩] false)
 (.seq (.reg [⟨(some 22),.mov,[.t 1],none,0,0⟩,
  ⟨(some 23),.mov,[.t 7],none,0,0⟩,
  ⟨(some 24),(.iad esz ag none),[.t 22,.t 23],none,0,0⟩,
  ⟨(some 25),(.load esz ag),[.t 24],none,0,0⟩,
  ⟨(some 9),(.alloc z ag),[],none,0,5⟩,
  ⟨none,(.store esz ag),[.t 9,.t 25],none,0,0⟩] false)
 (.seq (.reg [⟨(some 26),.mov,[.t 2],none,0,0⟩,
  ⟨(some 27),(.load esz ag),[.t 8],none,0,0⟩,
  ⟨(some 28),(.load esz ag),[.t 9],none,0,0⟩,
  ⟨(some 29),(.callv false false),[.t 26,.t 27,.t 28],none,0,9⟩,
  ⟨(some 30),(.un .not),[.t 29],none,0,0⟩] false)
 (.cond (.t 30) (.seq (.reg [⟨(some 6),.mov,[.c (.bool false)],none,0,0⟩] false)
  .ret)
  .skip)))))
 (.reg [⟨(some 31),(.bin .add),[.t 17,.c (.int .i64 1)],none,0,0⟩,
  ⟨(some 17),.mov,[.t 31],none,0,0⟩] false))))
def eqF(esz:Nat)(ag:Bool)(z:List AV):CF:=⟨3,32,[.inl 6],
 (.seq (.reg [⟨(some 6),.mov,[.c (.bool false)],none,0,0⟩] false)
 (.seq (.seq (.reg [⟨(some 10),.mov,[.t 0],none,0,0⟩,
  ⟨(some 11),(.len 1),[.t 10],none,0,0⟩,
  ⟨(some 12),.mov,[.t 1],none,0,0⟩,
  ⟨(some 13),(.len 1),[.t 12],none,0,0⟩,
  ⟨(some 14),(.bin .neq),[.t 11,.t 13],none,0,0⟩] false)
 (.cond (.t 14) (.seq (.reg [⟨(some 6),.mov,[.c (.bool false)],none,0,0⟩] false)
  .ret)
  .skip))
 (.seq (.seq (.reg [⟨(some 15),.mov,[.t 0],none,0,0⟩,
  ⟨(some 16),(.len 1),[.t 15],none,0,0⟩,
  ⟨(some 17),.mov,[.c (.int .i64 0)],none,0,0⟩] false)
 (.block 0 (.loop (TY esz ag z) TX)))
 (.seq (.reg [⟨(some 6),.mov,[.c (.bool true)],none,0,0⟩] false)
 .ret))))⟩
def TU:List Bool:=[true,true,false,false,false,false,false,false,false,false,false,false,true,true,false,false,false,false,false,false,false,false,false,false,false,false]
def TV(esz:Nat)(ag:Bool)(k:K):C:=
 (.seq (.reg [⟨(some 14),(.bin .lss),[.t 13,.t 12],none,0,0⟩] false)
 (.seq (.cond (.t 14) .skip
  (.exit 0))
 (.seq (.block 1 (.seq (.reg [⟨(some 15),.mov,[.t 13],none,0,0⟩,
  ⟨(some 5),.mov,[.t 15],none,0,0⟩] false)
 (.seq (.reg [⟨(some 16),.mov,[.t 0],none,0,0⟩,
  ⟨(some 17),.mov,[.t 5],none,0,0⟩,
  ⟨(some 18),(.iad esz ag none),[.t 16,.t 17],none,3,0⟩,
  ⟨(some 19),(.load esz ag),[.t 18],none,7,0⟩,
  ⟨(some 20),.mov,[.t 1],none,0,0⟩,
  ⟨(some 21),.mov,[.t 5],none,0,0⟩,
  ⟨(some 22),(.iad esz ag none),[.t 20,.t 21],none,48,0⟩,
  ⟨(some 23),(.load esz ag),[.t 22],none,112,0⟩,
  ⟨(some 24),k,[.t 19,.t 23],none,255,0⟩] true)
 (.cond (.t 24) (.seq (.reg [⟨(some 4),.mov,[.c (.bool false)],none,0,0⟩] false)
  .ret)
  .skip))))
 (.reg [⟨(some 25),(.bin .add),[.t 13,.c (.int .i64 1)],none,0,0⟩,
  ⟨(some 13),.mov,[.t 25],none,0,0⟩] false))))
def eqV(esz:Nat)(ag:Bool)(k:K):CF:=⟨2,26,[.inl 4],
 (.seq (.reg [⟨(some 4),.mov,[.c (.bool false)],none,0,0⟩] false)
 (.seq (.seq (.reg [⟨(some 6),.mov,[.t 0],none,0,0⟩,
  ⟨(some 7),(.len 1),[.t 6],none,0,0⟩,
  ⟨(some 8),.mov,[.t 1],none,0,0⟩,
  ⟨(some 9),(.len 1),[.t 8],none,0,0⟩,
  ⟨(some 10),(.bin .neq),[.t 7,.t 9],none,0,0⟩] false)
 (.cond (.t 10) (.seq (.reg [⟨(some 4),.mov,[.c (.bool false)],none,0,0⟩] false)
  .ret)
  .skip))
 (.seq (.seq (.reg [⟨(some 11),.mov,[.t 0],none,0,0⟩,
  ⟨(some 12),(.len 1),[.t 11],none,0,0⟩,
  ⟨(some 13),.mov,[.c (.int .i64 0)],none,0,0⟩] false)
 (.block 0 (.loop (TV esz ag k) TU)))
 (.seq (.reg [⟨(some 4),.mov,[.c (.bool true)],none,0,0⟩] false)
 .ret))))⟩
def GX:List Bool:=[false,false,false,true,false,false,false,true,true,true,false,false,false,false,false,false,false,false,false,false,false,false,false]
def GY(g:Nat):C:=
 (.seq (.reg [⟨(some 10),(.bin .lss),[.t 9,.t 8],none,0,0⟩] false)
 (.seq (.cond (.t 10) .skip
  (.exit 0))
 (.seq (.block 1 (.seq (.reg [⟨(some 11),(.iad 2 true none),[.t 7,.t 9],none,0,0⟩,
  ⟨(some 12),(.load 2 true),[.t 11],none,0,0⟩,
  ⟨(some 6),(.alloc [(.int .i64 0),(.sl true [] true)] true),[],none,0,5⟩,
  ⟨none,(.store 2 true),[.t 6,.t 12],none,0,0⟩] false)
 (.seq (.reg [⟨(some 13),(.load 2 true),[.t 6],none,0,0⟩,
  ⟨(some 14),(.call 51 false false),[.t 13],none,0,9⟩,
  ⟨(some 15),(.un .not),[.t 14],none,0,0⟩,
  ⟨(some 16),.mov,[.t 15],none,0,0⟩,
  ⟨(some 17),(.load 2 true),[.t 6],(some (16,false)),0,0⟩,
  ⟨(some 18),(.call 96 false false),[.t 17],(some (16,false)),0,13⟩,
  ⟨(some 19),(.mkf g),[.t 3],(some (16,false)),0,0⟩,
  ⟨(some 20),(.call 95 false false),[.t 18,.t 19],(some (16,false)),0,17⟩,
  ⟨(some 21),.pick,[.t 16,.c (.bool true),.t 20],none,0,0⟩] false)
 (.cond (.t 21) (.seq (.reg [⟨(some 4),.mov,[.c (.bool false)],none,0,0⟩] false)
  .ret)
  .skip))))
 (.reg [⟨(some 22),(.bin .add),[.t 9,.c (.int .i64 1)],none,0,0⟩,
  ⟨(some 9),.mov,[.t 22],none,0,0⟩] false))))
def RM(g:Nat):CF:=⟨2,23,[.inl 4],
 (.seq (.reg [⟨(some 3),.box,[.t 1],none,0,1⟩,
  ⟨(some 4),.mov,[.c (.bool false)],none,0,0⟩] false)
 (.seq (.seq (.reg [⟨(some 7),.mov,[.t 0],none,0,0⟩,
  ⟨(some 8),(.len 1),[.t 7],none,0,0⟩,
  ⟨(some 9),.mov,[.c (.int .i64 0)],none,0,0⟩] false)
 (.block 0 (.loop (GY g) GX)))
 (.seq (.reg [⟨(some 4),.mov,[.c (.bool true)],none,0,0⟩] false)
 .ret)))⟩
section
variable{pg:Pg}
theorem rV{f:Nat}{esz:Nat}{ag:Bool}(hf:pg.fs f=some (QV esz ag)){α : Type}(enc : α -> AV)(hfit:∀x,(enc x).fits esz ag=true)(htree:∀x,(enc x).tree=true)
  (nl cl:Bool) (es:List α) (hb:es.length<=big) (g:Nat) (cs:List AV) (hcs:treeL cs=true) (p : α -> Bool) (hp:∀x∈es,Ret pg g (enc x::cs) (.bool (p x))) :
  bJ pg f [.sl nl (es.map enc) cl,.fn g cs] (fun r=>∃i:Int,r = .int .i64 i/\decide (0<=i)=es.any p):=by
 refine bJ.ofX hf ?_
 unfold QV
 simp only[go_sem,seval]
 refine dS es (fun d e=>eK e (some 8) (.int .i64 d.length)) (fun d r hp=>es.any p=r.any p) rfl ?_ ?_ ?_
 ·rfl
 ·intro hp' hI
  simp only[E6,E5,go_sem,seval]
  simp[hI]
 ·intro d x r hp' hes hI
  subst hes
  simp only[E6,E5,hfit,go_sem,seval]
  refine aB (hp x (by simp)) (by simp only[treeL,htree,hcs,List.cons_append,List.nil_append,Bool.and_true]) rfl ?_
  simp only[go_sem,seval]
  cases hx:p x
  ·simp only[aM hb,go_sem,seval]
   simpa[hx] using hI
  ·simp only[go_sem,seval]
   simp[hx]
theorem mE{f n:Nat}(hf:pg.fs f=some (WF n)){a b:AV}{q:Bool}(ha:treeL [a,b]=true)(h:bJ pg n [a,b] (fun r=>∃i:Int,r = .int .i64 i/\decide (0<=i)=q)) :
  Ret pg f [a,b] (.bool q):=by
 obtain⟨_,h,i,rfl,hi⟩:=h
 refine Ret.ofX hf ?_
 unfold WF
 simp only[go_sem,seval]
 refine aB h ha rfl ?_
 simp only[go_sem,seval]
 exact hi
theorem C5{f:Nat}{esz:Nat}{ag:Bool}{k:K}(hf:pg.fs f=some (V2 esz ag k)){α : Type}(enc : α -> AV)(hfit:∀x,(enc x).fits esz ag=true)
  (nl cl:Bool) (es:List α) (hb:es.length<=big) (v:AV) (p : α -> Bool) (hk:∀(kb s:Nat)(h:Hp)(x : α)(Q:AV->Eff->Prop)(t:Tok Q),XO pg kb k s h [v,enc x] Q t=Q (.bool (p x)) (.pat [] [])) :
  bJ pg f [.sl nl (es.map enc) cl,v] (fun r=>∃i:Int,r = .int .i64 i/\decide (0<=i)=es.any p):=by
 refine bJ.ofX hf ?_
 unfold V2
 simp only[go_sem,seval]
 refine dS es (fun d e=>eK e (some 8) (.int .i64 d.length)) (fun d r hp=>es.any p=r.any p) rfl ?_ ?_ ?_
 ·rfl
 ·intro hp' hI
  simp only[NV,NU,go_sem,seval]
  simp[hI]
 ·intro d x r hp' hes hI
  subst hes
  simp only[NV,NU,hfit,hk,go_sem,seval]
  cases hx:p x
  ·simp only[aM hb,go_sem,seval]
   simpa[hx] using hI
  ·simp only[go_sem,seval]
   simp[hx]
def eqL{α β : Type}(q : α -> β -> Bool):List α -> List β -> Bool
 |[],[]=>true
 |x::r,y::s=>q x y&&eqL q r s
 |_,_=>false
theorem uP{α β : Type}{q : α -> β -> Bool}:∀{a:List α}{b:List β},eqL q a b=true->a.length=b.length
 |[],[],_=>rfl
 |x::r,y::s,h=>by simp only[eqL,Bool.and_eq_true]at h;simp[uP h.2]
 |[],_::_,h=>by simp[eqL]at h
 |_::_,[],h=>by simp[eqL]at h
theorem HX{f:Nat}{esz:Nat}{ag:Bool}{z:List AV}(hz:z.length=esz)(hf:pg.fs f=some (eqF esz ag z)){α : Type}(enc : α -> AV)(cells : α -> List AV)(henc:∀x,enc x = .agg (cells x))(hcl:∀x,(cells x).length=esz)(hone:∀x,bU (cells x)=true)(hag:ag=true)(htree:∀x,(enc x).tree=true)
  (nl cl nl' cl':Bool) (es es':List α) (hb:es.length<=big) (g:Nat) (q : α -> α -> Bool) (hq:∀x∈es,∀y∈es',Ret pg g [enc x,enc y] (.bool (q x y))) :
  Ret pg f [.sl nl (es.map enc) cl,.sl nl' (es'.map enc) cl',.fn g []] (.bool (eqL q es es')):=by
 have hfit:∀x,(enc x).fits esz ag=true:=by intro x;rw[henc,hag];simp[AV.fits,hcl]
 have hcells:∀x,(enc x).cells=cells x:=by intro x;rw[henc];rfl
 have hdr:List.drop esz z=[]:=by rw[<-hz];simp
 have hpart:∀x,fR (cells x) 0 esz ag=some (enc x):=by
  intro x
  rw[hag]
  have:=hcl x
  simp[fR,henc,<-this]
 refine Ret.ofX hf ?_
 unfold eqF
 simp only[go_sem,seval]
 cases hl:decide ((es.length:Int)=es'.length)
 case false=>
  simp only[hl,go_sem,seval]
  cases he:eqL q es es'
  ·rfl
  ·exact absurd (congrArg Int.ofNat (uP he)) (by simpa using hl)
 simp only[hl,go_sem,seval]
 have hl':es.length=es'.length:=by simp at hl;omega
 refine dS es (fun d e=>eK e (some 17) (.int .i64 d.length)) (fun d r hp=>∃d2 r2,es'=d2++r2/\d2.length=d.length/\eqL q es es'=eqL q r r2) rfl ?_ ?_ ?_
 ·exact⟨[],es',rfl,rfl,rfl⟩
 ·rintro hp ⟨d2,r2,h1,h2,h3⟩
  simp only[TY,TX,go_sem,seval]
  rw[h3]
  have:r2=[]:=by
   have:=congrArg List.length h1
   simp at this
   exact List.eq_nil_of_length_eq_zero (by omega)
  subst this
  rfl
 ·rintro d x r hp hes ⟨d2,r2,h1,h2,h3⟩
  have hlen:r2.length=(x::r).length:=by
   have e1:=congrArg List.length h1
   have e2:=congrArg List.length hes
   simp at e1 e2 ⊢
   omega
  obtain⟨y,r2,rfl⟩:∃y s,r2=y::s:=by
   cases r2 with
   |nil=>simp at hlen
   |cons y s=>exact⟨y,s,rfl⟩
  have hy:es'[d.length]?=some y:=by rw[h1,<-h2];simp
  subst hes
  simp only[TY,TX,hfit,hcells,hz,hcl,hone,hpart,hy,hdr,Nat.zero_add,Nat.le_refl,List.append_nil,go_sem,seval]
  refine aB (hq x (by simp) y (by rw[h1];simp)) (by simp only[treeL,htree,Bool.and_true,List.append_nil]) rfl ?_
  simp only[go_sem,seval]
  cases hx:q x y
  ·simp only[go_sem,seval]
   rw[h3]
   simp[eqL,hx]
  ·simp only[aM hb,go_sem,seval]
   exact⟨d2++[y],r2,by simp[h1],by simp[h2],by simpa[eqL,hx] using h3⟩
theorem HV{f:Nat}{esz:Nat}{ag:Bool}{k:K}(hf:pg.fs f=some (eqV esz ag k)){α : Type}(enc : α -> AV)(hfit:∀x,(enc x).fits esz ag=true)
  (nl cl nl' cl':Bool) (es es':List α) (hb:es.length<=big) (q : α -> α -> Bool)
  (hk:∀(kb s:Nat)(h:Hp)(x y : α)(Q:AV->Eff->Prop)(t:Tok Q),XO pg kb k s h [enc x,enc y] Q t=Q (.bool (!q x y)) (.pat [] [])) (hnc:k.isCall=false) :
  Ret pg f [.sl nl (es.map enc) cl,.sl nl' (es'.map enc) cl'] (.bool (eqL q es es')):=by
 refine Ret.ofX hf ?_
 unfold eqV
 simp only[go_sem,seval]
 cases hl:decide ((es.length:Int)=es'.length)
 case false=>
  simp only[hl,go_sem,seval]
  cases he:eqL q es es'
  ·rfl
  ·exact absurd (congrArg Int.ofNat (uP he)) (by simpa using hl)
 simp only[hl,go_sem,seval]
 have hl':es.length=es'.length:=by simp at hl;omega
 refine dS es (fun d e=>eK e (some 13) (.int .i64 d.length)) (fun d r hp=>∃d2 r2,es'=d2++r2/\d2.length=d.length/\eqL q es es'=eqL q r r2) rfl ?_ ?_ ?_
 ·exact⟨[],es',rfl,rfl,rfl⟩
 ·rintro hp ⟨d2,r2,h1,h2,h3⟩
  simp only[TV,TU,go_sem,seval]
  rw[h3]
  have:r2=[]:=by
   have:=congrArg List.length h1
   simp at this
   exact List.eq_nil_of_length_eq_zero (by omega)
  subst this
  rfl
 ·rintro d x r hp hes ⟨d2,r2,h1,h2,h3⟩
  have hlen:r2.length=(x::r).length:=by
   have e1:=congrArg List.length h1
   have e2:=congrArg List.length hes
   simp at e1 e2 ⊢
   omega
  obtain⟨y,r2,rfl⟩:∃y s,r2=y::s:=by
   cases r2 with
   |nil=>simp at hlen
   |cons y s=>exact⟨y,s,rfl⟩
  have hy:es'[d.length]?=some y:=by rw[h1,<-h2];simp
  subst hes
  simp only[TV,TU,hfit,hy,hk,go_sem,seval]
  refine And.intro (by kernel_rfl) ?_
  cases hx:q x y
  ·simp only[go_sem,seval]
   rw[h3]
   simp[eqL,hx]
  ·simp only[aM hb,go_sem,seval]
   exact⟨d2++[y],r2,by simp[h1],by simp[h2],by simpa[eqL,hx] using h3⟩
end
end Go.Tev
end
section
namespace Go.Tev
structure El(esz:Nat)(ag:Bool)(v:AV):Prop where
 fits:v.fits esz ag=true
 one:bU v.cells=true
 tree:v.tree=true
theorem El.len{esz:Nat}{ag:Bool}{v:AV}(h:El esz ag v):v.cells.length=esz:=by
 have:=h.fits
 cases v<;>simp[AV.fits,AV.cells]at this ⊢ <;> first|exact this.2|exact this.2.symm|omega
theorem El.isAgg{esz:Nat}{ag:Bool}{v:AV}(h:El esz ag v):v.isAgg=ag:=by
 have:=h.fits
 cases v<;>cases ag<;>simp[AV.fits,AV.isAgg]at this ⊢
theorem cL{esz:Nat}{ag:Bool}:∀{es:List AV},(∀x∈es,El esz ag x)->∃cs,bG esz ag es=some cs/\cs.length=es.length*esz/\bU cs=true/\∀tl,l9 esz ag es.length (cs++tl)=some es
 |[],_=>⟨[],rfl,by simp,rfl,fun _=>rfl⟩
 |x::r,h=>by
  obtain⟨cs,h1,h2,h3,h4⟩:=cL (fun y hy=>h y (List.mem_cons_of_mem _ hy))
  have hx:=h x (by simp)
  have hl:=hx.len
  refine⟨x.cells++cs,?_,?_,?_,?_⟩
  ·simp[bG,hx.fits,hx.one,h1]
  ·simp[h2,hl,Nat.add_mul];omega
  ·have happ:∀(p q:List AV),bU p=true->bU q=true->bU (p++q)=true:=by
    intro p q hp hq
    induction p with
    |nil=>exact hq
    |cons y s ih=>simp only[bU,Bool.and_eq_true,List.cons_append]at hp ⊢;exact⟨hp.1,ih hp.2⟩
   exact happ _ _ hx.one h3
  ·intro tl
   have hag:=hx.isAgg
   cases ag with
   |true=>
    obtain⟨c,rfl⟩:∃c,x = .agg c:=by cases x<;>simp[AV.isAgg]at hag;exact⟨_,rfl⟩
    simp only[AV.cells]at hl
    simp only[List.length_cons,l9,AV.cells,if_true,List.append_assoc]
    rw[if_neg (by simp[hl])]
    rw[<-hl]
    simp only[List.drop_left,List.take_left]
    rw[hl,h4 tl];rfl
   |false=>
    have hc:x.cells=[x]:=by cases x<;>simp[AV.isAgg]at hag<;>rfl
    have he:esz=1:=by rw[hc]at hl;simpa using hl.symm
    subst he
    simp only[List.length_cons,l9,hc,Bool.false_eq_true,if_false,List.cons_append,List.nil_append,hag,h4 tl]
    rfl
theorem D4{h:Hp}{esz:Nat}{ag:Bool}{es:List AV}(he:∀x∈es,El esz ag x):cG (snap depth h) es=some (es,[]):=by
 refine d8 63 h ?_
 induction es with
 |nil=>rfl
 |cons x r ih=>simp only[treeL,Bool.and_eq_true];exact⟨(he x (by simp)).tree,ih (fun y hy=>he y (List.mem_cons_of_mem _ hy))⟩
def Own(h:Hp)(k0 esz:Nat)(ag:Bool)(v:AV)(es:List AV):Prop:=
 (es=[]/\∃nl cl,v = .sl nl [] cl/\(nl||cl)=true) \/
 (∃e cs,v = .rf k0 e 0 es.length es.length/\h.get k0=some (e,.blk cs esz ag false false)/\bG esz ag es=some cs)
theorem Own.mono{h h':Hp}{k0 esz:Nat}{ag:Bool}{v:AV}{es:List AV}(o:Own h k0 esz ag v es)(hh:h'.get k0=h.get k0):Own h' k0 esz ag v es:=by
 rcases o with o|⟨e,cs,h2,h3,h4⟩
 ·exact .inl o
 ·exact .inr ⟨e,cs,h2,by rw[hh];exact h3,h4⟩
theorem Own.nil(h:Hp)(k0 esz:Nat)(ag:Bool)(nl cl:Bool)(hc:(nl||cl)=true):Own h k0 esz ag (.sl nl [] cl) []:=.inl ⟨rfl,nl,cl,rfl,hc⟩
def kO(esz:Nat)(ag:Bool)(es:List AV)(r:AV):Prop:=
 (es=[]/\∃nl cl,r = .sl nl [] cl/\(nl||cl)=true)\/r = .os es esz ag
theorem Own.conv{h:Hp}{k0 esz:Nat}{ag:Bool}{v:AV}{es:List AV}(o:Own h k0 esz ag v es)(he:∀x∈es,El esz ag x):∃r,Tev.conv h v=some r/\kO esz ag es r:=by
 rcases o with ⟨rfl,nl,cl,rfl,hc⟩|⟨e,cs,rfl,hg,hu⟩
 ·exact⟨.sl nl [] cl,vX rfl,.inl ⟨rfl,nl,cl,rfl,hc⟩⟩
 ·obtain⟨cs',h1,h2,h3,h4⟩:=cL he
  rw[hu]at h1
  cases h1
  have h5:=h4 []
  rw[List.append_nil]at h5
  refine⟨.os es esz ag,?_,.inr rfl⟩
  simp[Tev.conv,hg,h5,D4 he]
theorem iJ{esz:Nat}{ag:Bool}:∀{a b:List AV}{c d:List AV},bG esz ag a=some c->bG esz ag b=some d->bG esz ag (a++b)=some (c++d)
 |[],b,c,d,h1,h2=>by cases h1;exact h2
 |x::r,b,c,d,h1,h2=>by
  simp only[bG]at h1
  split at h1
  ·rename_i hc
   simp only[Option.map_eq_some_iff]at h1
   obtain⟨c',h3,rfl⟩:=h1
   simp[bG,hc,iJ h3 h2]
  ·cases h1
section
variable{pg:Pg}{kb:Nat}
theorem fV{esz bytes s:Nat}{ag:Bool}{h:Hp}{v:AV}{es xs:List AV}{nl cl:Bool}{Q:AV->Eff->Prop}{t:Tok Q}(o:Own h (kb+s) esz ag v es)(he:∀x∈es,El esz ag x)(hx:∀x∈xs,El esz ag x)
  (hl:es.length+xs.length<=1073741824) (hb:bytes<=65536)
  (q:∀v' rd pa,Own (Eff.app h (.pat rd pa)) (kb+s) esz ag v' (es++xs)->(∀k,k≠kb+s->(Eff.app h (.pat rd pa)).get k=h.get k)->(∀x∈pa,x.k=kb+s)->Q v' (.pat rd pa)) :
  XO pg kb (.app esz ag bytes) s h [v,.sl nl xs cl] Q t:=by
 rw[gR]
 obtain⟨ds,d1,d2,d3,_⟩:=cL hx
 simp only[l8,aP,d1,Option.map_some]
 by_cases hxs:xs=[]
 ·subst hxs
  cases d1
  rcases o with ⟨rfl,nl',cl',rfl,hc⟩|⟨e,cs,rfl,hg,hu⟩
  ·simp only[kL,List.length_nil,if_true]
   exact q _ _ _ (.inl ⟨rfl,nl',cl',rfl,hc⟩) (fun _ _=>rfl) (by simp)
  ·obtain⟨cs',c1,c2,_,_⟩:=cL he
   rw[hu]at c1;cases c1
   simp only[kL,hg,List.length_nil,if_true,true_and,Nat.zero_add]
   rw[if_pos (by omega)]
   exact q _ _ _ (.inr ⟨e,cs,by simp,by simpa[Eff.app,cH] using hg,by simpa using hu⟩) (fun _ _=>rfl) (by simp)
 ·have hn:xs.length≠0:=by simpa using hxs
  rcases o with ⟨rfl,nl',cl',rfl,hc⟩|⟨e,cs,rfl,hg,hu⟩
  ·simp only[kL,hn,if_false,hc,List.length_nil,Nat.zero_add,Bool.true_and]
   have hlx:xs.length<=1073741824:=by simpa using hl
   simp only[hlx,hb,decide_true,Bool.and_self,if_true,bG,List.nil_append]
   refine q _ _ _ (.inr ⟨_,ds,rfl,?_,by simpa using d1⟩) ?_ (by simp)
   ·rw[kK,aH,if_pos rfl]
   ·intro k hk
    rw[kK,aH,if_neg (Ne.symm hk)]
  ·obtain⟨cs',c1,c2,_,_⟩:=cL he
   rw[hu]at c1;cases c1
   have h1:¬(es.length+xs.length<=es.length):=by omega
   simp only[kL,hg,hn,if_false,true_and,Nat.zero_add]
   rw[if_pos (by omega)]
   simp only[h1,if_false,hl,hb,decide_true,Bool.true_and,beq_self_eq_true,Bool.not_true,Bool.and_false,Bool.false_eq_true,Bool.not_false,if_true]
   refine q _ _ _ (.inr ⟨e+1,cs++ds,by simp,?_,iJ hu d1⟩) ?_ (by simp)
   ·rw[kK,aH,if_pos rfl]
    simp[<-c2]
   ·intro k hk
    rw[kK,aH,if_neg (Ne.symm hk)]
theorem DP{esz bytes s k1:Nat}{ag:Bool}{h:Hp}{v:AV}{es xs:List AV}{nl cl:Bool}{Q:AV->Eff->Prop}{t:Tok Q}(o:Own h k1 esz ag v es)(hk1:k1≠kb+s)(he:∀x∈es,El esz ag x)(hx:∀x∈xs,El esz ag x)
  (hl:es.length+xs.length<=1073741824) (hb:bytes<=65536)
  (q1:xs=[]->∀rd,Q v (.pat rd []))
  (q2:xs≠[]->∀v' rd pa,Own (Eff.app h (.pat rd pa)) (kb+s) esz ag v' (es++xs)->(∀k,k≠kb+s->k≠k1->(Eff.app h (.pat rd pa)).get k=h.get k)->Q v' (.pat rd pa)) :
  XO pg kb (.app esz ag bytes) s h [v,.sl nl xs cl] Q t:=by
 rw[gR]
 obtain⟨ds,d1,d2,d3,_⟩:=cL hx
 simp only[l8,aP,d1,Option.map_some]
 by_cases hxs:xs=[]
 ·subst hxs
  cases d1
  rcases o with ⟨rfl,nl',cl',rfl,hc⟩|⟨e,cs,rfl,hg,hu⟩
  ·simp only[kL,List.length_nil,if_true]
   exact q1 rfl _
  ·obtain⟨cs',c1,c2,_,_⟩:=cL he
   rw[hu]at c1;cases c1
   simp only[kL,hg,List.length_nil,if_true,true_and,Nat.zero_add]
   rw[if_pos (by omega)]
   exact q1 rfl _
 ·have hn:xs.length≠0:=by simpa using hxs
  rcases o with ⟨rfl,nl',cl',rfl,hc⟩|⟨e,cs,rfl,hg,hu⟩
  ·simp only[kL,hn,if_false,hc,List.length_nil,Nat.zero_add,Bool.true_and]
   have hlx:xs.length<=1073741824:=by simpa using hl
   simp only[hlx,hb,decide_true,Bool.and_self,if_true,bG,List.nil_append]
   refine q2 hxs _ _ _ (.inr ⟨_,ds,rfl,?_,by simpa using d1⟩) ?_
   ·rw[kK,aH,if_pos rfl]
   ·intro k hk _
    rw[kK,aH,if_neg (Ne.symm hk)]
  ·obtain⟨cs',c1,c2,_,_⟩:=cL he
   rw[hu]at c1;cases c1
   have h1:¬(es.length+xs.length<=es.length):=by omega
   have h2:(k1==kb+s)=false:=by simpa using hk1
   simp only[kL,hg,hn,if_false,true_and,Nat.zero_add]
   rw[if_pos (by omega)]
   simp only[h1,if_false,hl,hb,decide_true,Bool.true_and,h2,Bool.not_false,if_true,Bool.false_eq_true]
   refine q2 hxs _ _ _ (.inr ⟨h.next (kb+s),cs++ds,by simp,?_,iJ hu d1⟩) ?_
   ·rw[uW,aH,if_pos rfl]
    simp[<-c2]
   ·intro k hk hk2
    rw[uW,aH,if_neg (Ne.symm hk),aH,if_neg (Ne.symm hk2)]
theorem j8{f s esz:Nat}{ag:Bool}{h:Hp}{vs es:List AV}{Q:AV->Eff->Prop}{t:Tok Q}(hr:bJ pg f vs (kO esz ag es))(hm:treeL vs=true)
  (q:∀nl cl,(nl=true->es=[])->Q (.sl nl es cl) (.pat [kb+s] [])):XO pg kb (.call f false false) s h vs Q t:=by
 obtain⟨r,hr,⟨rfl,nl,cl,rfl,hc⟩|rfl⟩:=hr
 ·exact aB hr hm rfl (q nl cl (fun _=>rfl))
 ·refine bQ hr (d8 63 h hm) (v:=.sl false es false) (pa:=[]) rfl ?_
  have:(if (AV.os es esz ag).flat then ([]:List Ent) else cD h [])++[]=[]:=by split<;>rfl
  rw[this]
  exact q false false (fun h=>by cases h)
theorem wB{f s esz:Nat}{ag:Bool}{h:Hp}{vs es:List AV}{Q:AV->Eff->Prop}{t:Tok Q}(hr:bJ pg f vs (kO esz ag es))(hm:treeL vs=true)(he:∀x∈es,El esz ag x)
  (q:∀v rd pa,Own (Eff.app h (.pat rd pa)) (kb+s) esz ag v es->(∀k,k≠kb+s->(Eff.app h (.pat rd pa)).get k=h.get k)->(∀x∈pa,x.k=kb+s)->Q v (.pat rd pa)):XO pg kb (.call f true false) s h vs Q t:=by
 obtain⟨r,hr,⟨rfl,nl,cl,rfl,hc⟩|rfl⟩:=hr
 ·exact aB hr hm rfl (q _ _ _ (Own.nil _ _ _ _ _ _ hc) (fun _ _=>rfl) (by simp))
 ·obtain⟨cs,c1,c2,_,_⟩:=cL he
  refine bQ hr (d8 63 h hm) (v:=.rf (kb+s) (h.next (kb+s)) 0 es.length es.length) (pa:=[⟨kb+s,h.next (kb+s),.blk cs esz ag false false⟩]) (by simp[fP,c1]) ?_
  have:(if (AV.os es esz ag).flat then ([]:List Ent) else cD h [])=[]:=by split<;>rfl
  rw[this,List.nil_append]
  refine q _ _ _ (.inr ⟨_,cs,rfl,?_,c1⟩) ?_ (by simp)
  ·rw[kK,aH,if_pos rfl]
  ·intro k hk
   rw[kK,aH,if_neg (Ne.symm hk)]
theorem xO{f s esz:Nat}{ag:Bool}{h:Hp}{vs es:List AV}{Q:AV->Eff->Prop}{t:Tok Q}(hr:bJ pg f vs (kO esz ag es))(hm:treeL vs=true)(he:∀x∈es,El esz ag x)
  (q1:es=[]->∀nl cl,(nl||cl)=true->Q (.sl nl [] cl) (.pat [kb+s] []))
  (q2:∀cs,bG esz ag es=some cs->l9 esz ag es.length cs=some es->Q (.rf (kb+s) (h.next (kb+s)) 0 es.length es.length) (.pat [kb+s] [⟨kb+s,h.next (kb+s),.blk cs esz ag false false⟩])):XO pg kb (.call f true false) s h vs Q t:=by
 obtain⟨r,hr,⟨rfl,nl,cl,rfl,hc⟩|rfl⟩:=hr
 ·exact aB hr hm rfl (q1 rfl nl cl hc)
 ·obtain⟨cs,c1,c2,_,c4⟩:=cL he
  refine bQ hr (d8 63 h hm) (v:=.rf (kb+s) (h.next (kb+s)) 0 es.length es.length) (pa:=[⟨kb+s,h.next (kb+s),.blk cs esz ag false false⟩]) (by simp[fP,c1]) ?_
  have:(if (AV.os es esz ag).flat then ([]:List Ent) else cD h [])=[]:=by split<;>rfl
  rw[this,List.nil_append]
  exact q2 cs c1 (by simpa using c4 [])
end
end Go.Tev
end
section
namespace Go.Tev
def bA(c:UInt8):Bool:=decide (48<=c.toNat)&&decide (c.toNat<=57)
def fJ(c:UInt8):Bool:=decide (97<=c.toNat)&&decide (c.toNat<=122)
def fT(s:List UInt8):Bool:=
 match s with
 |[]=>false
 | c::t=>decide (s.length<=30)&&(if c=95 then decide (2<=s.length)&&decide (s.length<=10) && !decide (t.head?=some 48)&&t.all bA else fJ c&&t.all (fun x=>fJ x||bA x))
def fK(s:List UInt8):Bool:=
 match s with
 |[]=>false
 |c::t=>decide (s.length<=30)&&(decide (65<=c.toNat)&&decide (c.toNat<=90))&&t.all bA
def rA(i:Nat):List UInt8:=[105,UInt8.ofNat (48+i)]
def lV(n:Int):Bool:=decide (-1000000<=n)&&decide (n<=1000000)
def j9(p:List bS):List bS->Bool
 |[]=>true
 |x::r=>fT x.v.bs && !decide (x.c=0)&&lV x.c&&(match p.getLast? with|none=>true|some q=>Op.bytesLess q.v.bs x.v.bs)&&j9 (p++[x]) r
def d9(l:Lin):Bool:=j9 [] l.ts.es&&lV l.c&&decide ((l.ts.es.length:Int)<=12)
section
variable{pg:Pg}
theorem c89(hf:pg.fs 89=some cf89)(n:Int):Ret pg 89 [.int .i64 n] (.bool (lV n)):=by
 refine Ret.ofX hf ?_
 unfold cf89
 repeat' (first|simp only[*,go_sem,seval]|refine aN (fun _=>?_) (fun _=>?_)|refine aO (fun _=>?_) (fun _=>?_)|refine And.intro (by kernel_rfl) ?_)
 all_goals simp[lV, *]
theorem c126(hf:pg.fs 126=some cf126)(s p:List UInt8):Ret pg 126 [.str s,.str p] (.bool (decide (p.length<=s.length)&&decide (s.take p.length=p))):=by
 refine Ret.ofX hf ?_
 unfold cf126
 simp only[go_sem,seval]
 cases h:decide (p.length<=s.length)
 ·have h':decide ((p.length:Int)<=s.length)=false:=by simp at h ⊢;omega
  simp only[h',go_sem,seval]
 ·have h':decide ((p.length:Int)<=s.length)=true:=by simp at h ⊢;omega
  simp only[h',go_sem,seval]
  have h2:(0:Int)<=p.length/\(p.length:Int)<=s.length:=by simp at h;omega
  simp[gS,h2,val,XV,G0]
  simp only[h',h2,go_sem,seval]
theorem c91(hf:pg.fs 91=some cf91)(h126:pg.fs 126=some cf126)(s p:List UInt8):Ret pg 91 [.str s,.str p] (.bool (decide (p.length<=s.length)&&decide (s.take p.length=p))):=by
 refine Ret.ofX hf ?_
 unfold cf91
 simp only[go_sem,seval]
 refine aB (c126 h126 s p) (by simp only[go_sem,seval]) rfl ?_
 simp only[go_sem,seval]
theorem c51(hf:pg.fs 51=some cf51)(h89:pg.fs 89=some cf89)(h57:∀s:Str,Ret pg 57 [.str s.bs] (.bool (fT s.bs)))(l:Lin):Ret pg 51 [l.av] (.bool (d9 l)):=by
 refine Ret.ofX hf ?_
 unfold cf51
 simp only[go_sem,seval]
 refine aI l.ts.es (fun d r env hp=>hp.get 1=some (0,.blk [.int .i64 l.c,.sl l.ts.nl (l.ts.es.map bS.av) l.ts.cl] 2 true true false) /\
  env=cf51E0 (.pt 1 0 0) (.sl l.ts.nl (l.ts.es.map bS.av) l.ts.cl) (.int .i64 l.ts.es.length) (.int .i64 d.length)/\d9 l=(j9 d r&&lV l.c&&decide ((l.ts.es.length:Int)<=12))) ?_ ?_ ?_
 ·exact⟨rfl,rfl,rfl⟩
 ·rintro env hp ⟨h1,rfl,hq⟩
  unfold cf51L0 cf51E0
  simp only[Int.lt_irrefl,h1,go_sem,seval]
  refine aB (c89 h89 _) (by simp only[go_sem,seval]) rfl ?_
  simp only[h1,go_sem,seval]
  simp only[j9]at hq
  cases h9:lV l.c
  ·simp only[go_sem,seval]
   simp[hq,h9]
  ·simp only[h1,go_sem,seval]
   simp[hq,h9]
 ·rintro d x r env hp hes ⟨h1,rfl,hq⟩
  have hb:=l.ts.ok
  rw[hes]at hb h1 hq ⊢
  unfold cf51L0 cf51E0
  simp only[go_sem,seval]
  refine aB (h57 x.v) (by simp only[go_sem,seval]) rfl ?_
  simp only[j9]at hq
  simp only[go_sem,seval]
  cases hn:fT x.v.bs
  ·simp only[go_sem,seval]
   refine And.intro (by kernel_rfl) ?_
   simp[hq,hn]
  cases hc:decide (x.c=0)
  case true=>
   simp only[hc,go_sem,seval]
   refine And.intro (by kernel_rfl) ?_
   simp[hq,hc]
  simp only[hc,go_sem,seval]
  refine aB (c89 h89 x.c) (by simp only[go_sem,seval]) rfl ?_
  simp only[go_sem,seval]
  cases h9:lV x.c
  ·simp only[go_sem,seval]
   refine And.intro (by kernel_rfl) ?_
   simp[hq,h9]
  cases hd:decide (0<(d.length:Int))
  ·simp only[hd,aM hb,go_sem,seval]
   refine And.intro (by kernel_rfl) ⟨h1,rfl,?_⟩
   have:d=[]:=by cases d<;>simp_all<;>omega
   subst this
   simp[hq,h9,hc,hn]
  ·obtain⟨d',y,rfl⟩:∃d' y,d=d'++[y]:=by
    rcases List.eq_nil_or_concat d with rfl|⟨d',y,h⟩
    ·simp at hd
    ·exact⟨d',y,by simpa using h⟩
   have hy:(d'++[y]++x::r)[(wr .i64 (((d'++[y]).length:Int)-1)).toNat]?=some y:=by
    have:wr .i64 (((d'++[y]).length:Int)-1)=(d'.length:Int):=by
     simp only[List.length_append,List.length_cons,List.length_nil,big]at *
     rw[aV (by omega) (by omega)];omega
    rw[this];simp
   have hy0:(0<=wr .i64 (((d'++[y]).length:Int)-1))=True:=by
    have:wr .i64 (((d'++[y]).length:Int)-1)=(d'.length:Int):=by
     simp only[List.length_append,List.length_cons,List.length_nil,big]at *
     rw[aV (by omega) (by omega)];omega
    rw[this];simp
   simp only[hd,h1,hy,hy0,go_sem,seval]
   cases hl:Op.bytesLess y.v.bs x.v.bs
   ·simp only[go_sem,seval]
    refine And.intro (by kernel_rfl) ?_
    simp[hq,hl]
   ·simp only[aM hb,go_sem,seval]
    refine And.intro (by kernel_rfl) ⟨h1,rfl,?_⟩
    simp[hq,h9,hc,hn,hl]
theorem El.str(s:List UInt8):El 1 false (.str s):=⟨rfl,rfl,rfl⟩
theorem El.int(n:Int):El 1 false (.int .i64 n):=⟨rfl,rfl,rfl⟩
theorem El.bool(b:Bool):El 1 false (.bool b):=⟨rfl,rfl,rfl⟩
theorem c96(hf:pg.fs 96=some cf96)(l:Lin):bJ pg 96 [l.av] (kO 1 false (l.ts.es.map fun x => .str x.v.bs)):=by
 refine bJ.ofX hf ?_
 have hb:=l.ts.ok
 have hel:∀d:List bS,∀x∈d.map (fun x:bS=>AV.str x.v.bs),El 1 false x:=by
  intro d x hx
  simp only[List.mem_map]at hx
  obtain⟨y,_,rfl⟩:=hx
  exact El.str _
 unfold cf96
 simp only[go_sem,seval]
 refine aI l.ts.es (fun d r env hp=>∃v,env=cf96E0 v (.sl l.ts.nl (l.ts.es.map bS.av) l.ts.cl) (.int .i64 l.ts.es.length) (.int .i64 d.length)/\Own hp 9 1 false v (d.map fun x => .str x.v.bs)) ?_ ?_ ?_
 ·exact⟨_,rfl,Own.nil _ _ _ _ _ _ rfl⟩
 ·rintro env hp ⟨v,rfl,ho⟩
  simp only[cf96L0,cf96E0,go_sem,seval]
  exact ho.conv (hel _)
 ·rintro d x r env hp hes ⟨v,rfl,ho⟩
  rw[hes]at hb ⊢
  simp only[cf96L0,cf96E0,go_sem,seval]
  refine fV (kb:=0) (s:=9) (bytes:=16) (es:=d.map fun x => .str x.v.bs) (ho.mono ?_) (hel _) (xs:=[.str x.v.bs]) (by intro y hy;simp at hy;subst hy;exact El.str _) ?_ (by decide) ?_
  ·simp only[go_sem,seval]
  ·simp only[List.length_append,List.length_cons,List.length_nil,List.length_map,big]at *;omega
  ·intro v' rd pa ho' hk hpa
   simp only[aM hb,go_sem,seval]
   exact⟨v',rfl,by simpa using ho'⟩
theorem c138(hf:pg.fs 138=some cf138)(nl cl:Bool)(es:List Str)(hb:es.length<=big)(v:List UInt8) :
  bJ pg 138 [.sl nl (es.map Str.av) cl,.str v] (fun r=>∃i:Int,r = .int .i64 i/\decide (0<=i)=es.any (fun s=>decide (v=s.bs))):=
 C5 (f:=138) (k:=.bin .eql) hf Str.av (fun _=>rfl) nl cl es hb (.str v) (fun s=>decide (v=s.bs)) (by intro kb s h x Q t;simp only[go_sem,seval])
theorem c98(hf:pg.fs 98=some cf98)(h138:pg.fs 138=some cf138)(nl cl:Bool)(es:List Str)(hb:es.length<=big)(v:List UInt8) :
  Ret pg 98 [.sl nl (es.map Str.av) cl,.str v] (.bool (es.any (fun s=>decide (v=s.bs)))):=
 mE (n:=138) hf (by simp only[go_sem,seval]) (c138 h138 nl cl es hb v)
def jV(vars:List Str)(v:List UInt8):Bool:=vars.any (fun s=>decide (v=s.bs))
def bX(ls:List Lin)(vars:List Str):Bool:=ls.all fun l=>d9 l&&l.ts.es.all fun x=>jV vars x.v.bs
theorem c97{f:Nat}(hf:pg.fs f=some cf97)(h98:pg.fs 98=some cf98)(h138:pg.fs 138=some cf138)(nl cl:Bool)(es:List Str)(hb:es.length<=big)(v:List UInt8) :
  Ret pg f [.str v,.fp (.sl nl (es.map Str.av) cl)] (.bool (!jV es v)):=by
 refine Ret.ofX hf ?_
 unfold cf97
 simp only[go_sem,seval]
 refine aB (c98 h98 h138 nl cl es hb v) (by simp only[go_sem,seval]) rfl ?_
 simp only[go_sem,seval]
 rfl
theorem c137(hf:pg.fs 137=some cf137)(nl cl:Bool)(es:List Str)(hb:es.length<=big)(g:Nat)(cs:List AV)(hcs:treeL cs=true)(p:Str->Bool)(hp:∀x∈es,Ret pg g (x.av::cs) (.bool (p x))) :
  bJ pg 137 [.sl nl (es.map Str.av) cl,.fn g cs] (fun r=>∃i:Int,r = .int .i64 i/\decide (0<=i)=es.any p):=
 rV (f:=137) (esz:=1) (ag:=false) hf Str.av (fun _=>rfl) (fun _=>rfl) nl cl es hb g cs hcs p hp
theorem c95(hf:pg.fs 95=some cf95)(h137:pg.fs 137=some cf137)(nl cl:Bool)(es:List Str)(hb:es.length<=big)(g:Nat)(cs:List AV)(hcs:treeL cs=true)(p:Str->Bool)(hp:∀x∈es,Ret pg g (x.av::cs) (.bool (p x))) :
  Ret pg 95 [.sl nl (es.map Str.av) cl,.fn g cs] (.bool (es.any p)):=
 mE (n:=137) hf (by simp only[treeL,mB,pB,hcs,Str.treeL,Bool.and_true]) (c137 h137 nl cl es hb g cs hcs p hp)
theorem EP{f g:Nat}(hf:pg.fs f=some (RM g))(h51:∀l:Lin,Ret pg 51 [l.av] (.bool (d9 l)))(h96:pg.fs 96=some cf96)(h95:pg.fs 95=some cf95)(h137:pg.fs 137=some cf137)(h97:pg.fs g=some cf97)(h98:pg.fs 98=some cf98)(h138:pg.fs 138=some cf138)
  (nl cl:Bool) (ls:List Lin) (hb:ls.length<=big) (nl' cl':Bool) (vars:List Str) (hb':vars.length<=big):Ret pg f [.sl nl (ls.map Lin.av) cl,.sl nl' (vars.map Str.av) cl'] (.bool (bX ls vars)):=by
 refine Ret.ofX hf ?_
 unfold RM
 simp only[go_sem,seval]
 refine dS ls (fun d e=>eK e (some 9) (.int .i64 d.length)) (fun d r hp=>(∃fz,hp.get 1=some (0,.blk [.sl nl' (vars.map Str.av) cl'] 1 false true fz))/\bX ls vars=bX r vars) rfl ?_ ?_ ?_
 ·exact⟨⟨_,rfl⟩,rfl⟩
 ·rintro hp ⟨⟨fz,h1⟩,hI⟩
  simp only[GY,GX,go_sem,seval]
  rw[hI];rfl
 ·rintro d x r hp hes ⟨⟨fz,h1⟩,hI⟩
  subst hes
  simp only[GY,GX,go_sem,seval]
  refine aB (h51 x) (by simp only[go_sem,seval]) rfl ?_
  simp only[go_sem,seval]
  cases hx:d9 x
  ·simp only[go_sem,seval]
   rw[hI];simp[bX,hx]
  simp only[go_sem,seval]
  refine j8 (c96 h96 x) (by simp only[go_sem,seval]) ?_
  intro nl2 cl2 hnl
  simp only[go_sem,seval]
  have hv:∀y∈x.ts.es.map (fun c=>c.v),Ret pg g (y.av::[.fp (.sl nl' (vars.map Str.av) cl')]) (.bool (!jV vars y.bs)):=fun y _=>c97 h97 h98 h138 nl' cl' vars hb' y.bs
  have h9:=c95 h95 h137 nl2 cl2 (x.ts.es.map fun c=>c.v) (by have:=x.ts.ok;simpa using this) g [.fp (.sl nl' (vars.map Str.av) cl')] (by simp only[go_sem,seval]) (fun y => !jV vars y.bs) hv
  have hm:List.map (fun x=>AV.str x.v.bs) x.ts.es=List.map Str.av (x.ts.es.map fun c=>c.v):=by simp[Str.av]
  rw[hm]
  refine bQ (h9) (by simp only[ h1,depth,bW,bB,eD,go_sem,seval];rfl) (by first|rfl|simp only[fP]) ?_
  simp only[go_sem,seval]
  have hany:(List.map (fun c=>c.v) x.ts.es).any (fun y => !jV vars y.bs) = !(x.ts.es.all fun c=>jV vars c.v.bs):=by
   simp[List.any_map,List.not_all_eq_any_not];rfl
  rw[hany]
  cases hy:x.ts.es.all fun c=>jV vars c.v.bs
  ·simp only[go_sem,seval]
   rw[hI];simp[bX,hx,hy]
  ·simp only[h1,aM hb,go_sem,seval]
   exact⟨⟨fz,rfl⟩,by simpa[bX,hx,hy] using hI⟩
def fL(x y:bS):Bool:=decide (x.v.bs=y.v.bs)&&decide (x.c=y.c)
def bH(a b:Lin):Bool:=decide (a.c=b.c)&&eqL fL a.ts.es b.ts.es
def fD(a b:bI):Bool:=decide (a.row.bs=b.row.bs)&&eqL bH a.dims.es b.dims.es
def gG(a b:Typ):Bool:=decide (a.elem.bs=b.elem.bs)&&fD a.shape b.shape
theorem c106(hf:pg.fs 106=some cf106)(nl cl nl' cl':Bool)(es es':List bS)(hb:es.length<=big):Ret pg 106 [.sl nl (es.map bS.av) cl,.sl nl' (es'.map bS.av) cl'] (.bool (eqL fL es es')):=
 HV (f:=106) (k:=.eqs true [1,0]) hf bS.av (fun _=>by simp only[go_sem,seval]) nl cl nl' cl' es es' hb fL (by intro kb s h x y Q t;simp only[go_sem,seval];simp[fL]) rfl
theorem c142(hf:pg.fs 142=some cf142)(h106:pg.fs 106=some cf106)(a b:Lin):Ret pg 142 [a.av,b.av] (.bool (bH a b)):=by
 refine Ret.ofX hf ?_
 unfold cf142
 simp only[go_sem,seval]
 cases h:decide (a.c=b.c)
 ·simp only[go_sem,seval]
  simp[bH,h]
 ·simp only[go_sem,seval]
  refine aB (c106 h106 _ _ _ _ a.ts.es b.ts.es a.ts.ok) (by simp only[go_sem,seval]) rfl ?_
  simp only[go_sem,seval]
  simp[bH,h]
theorem c68(hf:pg.fs 68=some cf68)(h106:pg.fs 106=some cf106)(a b:Lin):Ret pg 68 [a.av,b.av] (.bool (bH a b)):=by
 refine Ret.ofX hf ?_
 unfold cf68
 simp only[go_sem,seval]
 cases h:decide (a.c=b.c)
 ·simp only[go_sem,seval]
  simp[bH,h]
 ·simp only[go_sem,seval]
  refine aB (c106 h106 _ _ _ _ a.ts.es b.ts.es a.ts.ok) (by simp only[go_sem,seval]) rfl ?_
  simp only[go_sem,seval]
  simp[bH,h]
theorem c143(hf:pg.fs 143=some cf143)(h106:pg.fs 106=some cf106)(a b:Lin):Ret pg 143 [a.av,b.av] (.bool (bH a b)):=by
 refine Ret.ofX hf ?_
 unfold cf143
 simp only[go_sem,seval]
 cases h:decide (a.c=b.c)
 ·simp only[go_sem,seval]
  simp[bH,h]
 ·simp only[go_sem,seval]
  refine aB (c106 h106 _ _ _ _ a.ts.es b.ts.es a.ts.ok) (by simp only[go_sem,seval]) rfl ?_
  simp only[go_sem,seval]
  simp[bH,h]
theorem c67(hf:pg.fs 67=some cf67)(g:Nat)(hg:∀a b:Lin,Ret pg g [a.av,b.av] (.bool (bH a b)))(nl cl nl' cl':Bool)(es es':List Lin)(hb:es.length<=big) :
  Ret pg 67 [.sl nl (es.map Lin.av) cl,.sl nl' (es'.map Lin.av) cl',.fn g []] (.bool (eqL bH es es')):=
 HX (f:=67) (esz:=2) (ag:=true) rfl hf Lin.av (fun x=>[.int .i64 x.c,x.ts.av bS.av]) (fun _=>rfl) (fun _=>rfl) (fun _=>rfl) rfl (fun x=>by simp only[go_sem,seval]) nl cl nl' cl' es es' hb g bH (fun x _ y _=>hg x y)
theorem c104(hf:pg.fs 104=some cf104)(h67:pg.fs 67=some cf67)(h142:pg.fs 142=some cf142)(h106:pg.fs 106=some cf106)(a b:bI):Ret pg 104 [a.av,b.av] (.bool (fD a b)):=by
 refine Ret.ofX hf ?_
 unfold cf104
 simp only[go_sem,seval]
 cases h:decide (a.row.bs=b.row.bs)
 ·simp only[go_sem,seval]
  simp[fD,h]
 ·simp only[go_sem,seval]
  refine aB (c67 h67 142 (c142 h142 h106) _ _ _ _ a.dims.es b.dims.es a.dims.ok) (by simp only[go_sem,seval]) rfl ?_
  simp only[go_sem,seval]
  simp[fD,h]
theorem c65(hf:pg.fs 65=some cf65)(h104:∀a b:bI,Ret pg 104 [a.av,b.av] (.bool (fD a b)))(a b:Typ):Ret pg 65 [a.av,b.av] (.bool (gG a b)):=by
 refine Ret.ofX hf ?_
 unfold cf65
 simp only[go_sem,seval]
 cases h:decide (a.elem.bs=b.elem.bs)
 ·simp only[go_sem,seval]
  simp[gG,h]
 ·simp only[go_sem,seval]
  refine aB (h104 a.shape b.shape) (by simp only[go_sem,seval]) rfl ?_
  simp only[go_sem,seval]
  simp[gG,h]
end
end Go.Tev
end
