import Derived.Test.YtilkdbbkkcnocaaGreatDoorSAI
import Derived.Test.YtilkdbbkkcnocaaGreatDoorSAM
import Derived.Test.YtilkdbbkkcnocaaGreatDoorSBC
import Derived.Test.YtilkdbbkkcnocaaGreatDoorSAS
import Derived.Test.YtilkdbbkkcnocaaGreatDoorSAW
import Derived.Lib.LaidTab
import Derived.Test.YtilkdbbkkcnocaaGreatDoorRows
import Derived.Test.YtilkdbbkkcnocaaGreatDoorSAP
set_option linter.all false
namespace Go.Tev
section
section
variable{pg:Pg}
end
end
section
section
variable{pg:Pg}
end
end
section
structure Arr where
 elem:Str
 dims:Sl Int
 data:Sl Int
def Arr.av(a:Arr):AV:=.agg [.str a.elem.bs,.sl a.dims.nl (a.dims.es.map aV) a.dims.cl,.sl a.data.nl (a.data.es.map aV) a.data.cl]
theorem Arr.avc(x:Arr):Arr.av x = .agg [.str x.elem.bs,.sl x.dims.nl (x.dims.es.map aV) x.dims.cl,.sl x.data.nl (x.data.es.map aV) x.data.cl]:=rfl
theorem Arr.cells_av(x:Arr):(Arr.av x).cells=[.str x.elem.bs,.sl x.dims.nl (x.dims.es.map aV) x.dims.cl,.sl x.data.nl (x.data.es.map aV) x.data.cl]:=rfl
theorem Arr.isAgg_av(x:Arr):(Arr.av x).isAgg=true:=rfl
theorem Arr.fits_av(x:Arr):(Arr.av x).fits 3 true=true:=rfl
theorem Arr.tree_av(x:Arr):(Arr.av x).tree=true:=by rw[Arr.avc];simp[go_sem]
theorem Arr.treeL_av(l:List Arr):Tev.treeL (l.map Arr.av)=true:=bQ Arr.tree_av l
theorem Arr.fld_av(off sz:Nat)(ag:Bool)(x:Arr):fU off sz ag [Arr.av x]=fU off sz ag [.agg [.str x.elem.bs,.sl x.dims.nl (x.dims.es.map aV) x.dims.cl,.sl x.data.nl (x.data.es.map aV) x.data.cl]]:=by rw[Arr.avc]
theorem Arr.fad_av(off sz:Nat)(ag:Bool)(x:Arr):fV off sz ag [.fp (Arr.av x)]=fV off sz ag [.fp (.agg [.str x.elem.bs,.sl x.dims.nl (x.dims.es.map aV) x.dims.cl,.sl x.data.nl (x.data.es.map aV) x.data.cl])]:=by rw[Arr.avc]
theorem Arr.box_av(h:Hp)(k:Nat)(x:Arr):fW h k [Arr.av x]=fW h k [.agg [.str x.elem.bs,.sl x.dims.nl (x.dims.es.map aV) x.dims.cl,.sl x.data.nl (x.data.es.map aV) x.data.cl]]:=by rw[Arr.avc]
attribute [go_sem high] Arr.cells_av Arr.isAgg_av Arr.fits_av Arr.tree_av Arr.treeL_av
attribute [go_sem ↓ high] Arr.fld_av Arr.fad_av Arr.box_av
def aQP(d:Int):Bool := !decide (d<0) && !decide (4096<d)
def aCd:Int->List Int->Option Int
 |n,[]=>some n
 |n,d::r=>if 4096<wr .i64 (n*d) then none else aCd (wr .i64 (n*d)) r
def ON(ds:List Int):Int×Int:=
 if 6<(ds.length:Int) then (0,13) else if ds.all aQP=false then (0,2) else if ds.any (λd=>decide (d=0)) then (0,0) else match aCd 1 ds with|none=>(0,3)|some n=>(n,0)
def aKF(t:List UInt8)(x:Int):Bool:=if t=[105,110,116] then iT x else lS x
def aLJ(a:Arr):Bool:=(decide (a.elem.bs=[105,110,116])||decide (a.elem.bs=[98,111,111,108]))&&(decide ((ON a.dims.es).2=0)&&(decide ((a.data.es.length:Int)=(ON a.dims.es).1)&&a.data.es.all (aKF a.elem.bs)))
def aIU:Int->List Int->List Int->Option Int
 |n,[],_=>some n
 |_,_::_,[]=>none
 |n,d::r,x::s=>if x<0\/d<=x then none else aIU (wr .i64 (wr .i64 (n*d)+x)) r s
def aGm(ds ix:List Int):Int×Int:=
 if (ON ds).2≠0 then (0,(ON ds).2) else if (ix.length:Int)≠ds.length then (0,13) else match aIU 0 ds ix with|none=>(0,2)|some n=>(n,0)
section
variable{pg:Pg}
end
end
section
section
variable{H:Type}{enc:TypeId×Value->H}{P:Program}{w:World}{num:Nm}{ρ : Rho}{b:DataW H->Nat}{bs:List (DataW H)->Nat}{tI tS tB tCoef tLin tStep tPull sCoef sLin sStep sPull dY sStr tA sA:TypeId}
theorem YN(B:xJ b bs){tV tS tI:TypeId}(uS:P.underlying tS=some .string)(uI:P.underlying tI=some (.int .i64))(cS:P.cellsOf tS=1)(cI:P.cellsOf tI=1)(cV:P.cellsOf tV=2)
  (uV:∃fs,P.underlying tV=some (.struct fs)/\fs.toList.map (λf=>(f.type,f.offset))=[(tS,0),(tI,1)]) (N:Nat) :
  Rd enc P w num ρ b N tV (λx:Val=>[Str.av x.v]++([aV x.n]++[])) (λ_ _=>True):=by
 intro fuel hN cs d ps h hb;obtain⟨fs,hu,hL⟩:=uV;obtain⟨xs,n,hn,hx,hcl,hl,hf⟩:=eQ hu hL h;rw[cV]at hcl;obtain⟨y0,y1,rfl⟩:∃y0 y1,xs=[y0,y1]:=by
  match xs,hl with
  |[y0,y1],_=>exact⟨y0,y1,rfl⟩
 have hx':d = .agg [y0.1,y1.1]:=hx;subst hx';rw[B.agg]at hb ⊢;simp only[B.cons,B.nil]at hb ⊢;have f0:_=some y0:=hf 0 (tS,0) rfl;have f1:_=some y1:=hf 1 (tI,1) rfl;simp only[cI,cS]at f0 f1;obtain⟨a0,p0,g0⟩:=(Rd.str (enc:=enc) (w:=w) (num:=num) (ρ := ρ) (N:=n) B uS) n (Nat.le_refl _) _ y0.1 y0.2 f0 (by omega);obtain⟨a1,p1,g1⟩:=(Rd.int (enc:=enc) (w:=w) (num:=num) (ρ := ρ) (b:=b) (N:=n) uI) n (Nat.le_refl _) _ y1.1 y1.2 f1 (by omega);refine⟨⟨a0,a1⟩,?_,trivial⟩;have q:=(p0.piece (p1.piece (aJ.done (by omega))))
 rw[List.drop_zero]at q;exact q
theorem YQ(B:xJ b bs){tV tS tI sV:TypeId}(uS:P.underlying tS=some .string)(uI:P.underlying tI=some (.int .i64))(cS:P.cellsOf tS=1)(cI:P.cellsOf tI=1)(cV:P.cellsOf tV=2)
  (uV:∃fs,P.underlying tV=some (.struct fs)/\fs.toList.map (λf=>(f.type,f.offset))=[(tS,0),(tI,1)]) (usV:P.underlying sV=some (.slice tV)) (N:Nat) :
  Rd enc P w num ρ b N sV (λs:Sl Val=>[s.av Val.av]) (λs n=>(s.nl=true->s.es=[])/\∃ms:List Nat,aJ (λ_ _=>True) s.es ms/\ms.sum+1<=n/\∀m∈ms,1<=m):=
 (Rd.slice B (N:=N) (sz:=2) Val.av usV cV (by decide) (λx=>rfl) (λx=>rfl) (YN B uS uI cS cI cV uV N)).mono (Nat.le_succ N)
def Arr.nlOK(a:Arr):Prop:=(a.dims.nl=true->a.dims.es=[])/\(a.data.nl=true->a.data.es=[])
theorem YO(B:xJ b bs)(T:TyP P tI tS tB tCoef tLin tStep tPull sCoef sLin sStep sPull dY sStr)(hu:∃fs,P.underlying tA=some (.struct fs)/\fs.toList.map (λf=>(f.type,f.offset))=[(tS,0),(dY,1),(dY,2)])(hc:P.cellsOf tA=3)(N:Nat) :
  Rd enc P w num ρ b N tA (λx:Arr=>[Str.av x.elem]++([x.dims.av aV]++([x.data.av aV]++[]))) (λx _=>x.nlOK):=by
 intro fuel hN cs d ps h hb;obtain⟨fs,hu,hL⟩:=hu;obtain⟨xs,n,hn,hx,hcl,hl,hf⟩:=eQ hu hL h;rw[hc]at hcl;obtain⟨y0,y1,y2,rfl⟩:∃y0 y1 y2,xs=[y0,y1,y2]:=by
  match xs,hl with
  |[y0,y1,y2],_=>exact⟨y0,y1,y2,rfl⟩
 have hx':d = .agg [y0.1,y1.1,y2.1]:=hx;subst hx';rw[B.agg]at hb ⊢;simp only[B.cons,B.nil]at hb ⊢;have f0:_=some y0:=hf 0 (tS,0) rfl;have f1:_=some y1:=hf 1 (dY,1) rfl;have f2:_=some y2:=hf 2 (dY,2) rfl;simp only[T.c_tS,T.c_sInt]at f0 f1 f2;obtain⟨a0,p0,g0⟩:=(Rd.str (enc:=enc) (w:=w) (num:=num) (ρ := ρ) (N:=n) B T.uS) n (Nat.le_refl _) _ y0.1 y0.2 f0 (by omega);obtain⟨a1,p1,g1,_⟩:=(FB (enc:=enc) (w:=w) (num:=num) (ρ := ρ) B T n) n (Nat.le_refl _) _ y1.1 y1.2 f1 (by omega);obtain⟨a2,p2,g2,_⟩:=(FB (enc:=enc) (w:=w) (num:=num) (ρ := ρ) B T n) n (Nat.le_refl _) _ y2.1 y2.2 f2 (by omega);refine⟨⟨a0,a1,a2⟩,?_,g1,g2⟩;have q:=(p0.piece (p1.piece (p2.piece (aJ.done (by omega)))))
 rw[List.drop_zero]at q;exact q
theorem YR(B:xJ b bs)(T:TyP P tI tS tB tCoef tLin tStep tPull sCoef sLin sStep sPull dY sStr)(hu:∃fs,P.underlying tA=some (.struct fs)/\fs.toList.map (λf=>(f.type,f.offset))=[(tS,0),(dY,1),(dY,2)])(hc:P.cellsOf tA=3)(hs:P.underlying sA=some (.slice tA))(N:Nat) :
  Rd enc P w num ρ b N sA (λs:Sl Arr=>[s.av Arr.av]) (λs n=>(s.nl=true->s.es=[])/\∃ms:List Nat,aJ (λa _=>a.nlOK) s.es ms/\ms.sum+1<=n/\∀m∈ms,1<=m):=
 (Rd.slice B (N:=N) (sz:=3) Arr.av hs hc (by decide) (λx=>rfl) (λx=>rfl) (YO B T hu hc N)).mono (Nat.le_succ N)
end
end
section
section
variable{H:Type}{enc:TypeId×Value->H}{P:Program}{w:World}{num:Nm}{ρ : Rho}{b:DataW H->Nat}{bs:List (DataW H)->Nat}{tI tS tB tCoef tLin tStep tPull sCoef sLin sStep sPull dY sStr tLoop tAcc tNest sLoop tV sV tA sA tC:TypeId}
variable(B:xJ b bs)(T:TyP P tI tS tB tCoef tLin tStep tPull sCoef sLin sStep sPull dY sStr)(N:TyN P tI tS tB tLin tPull sLin tLoop tAcc tNest sLoop)
include B T N
omit B T N in
theorem Rd.u8c{M:Nat}{t:TypeId}(ht:P.underlying t=some (.int .u8)):Rd enc P w num ρ b M t (λn:Int=>[.int .u8 n]) (λn _=>0<=n/\n<=255):=by intro fuel hN cs d ps h _;obtain⟨n,rfl,_,hw⟩:=DataW.trod_int ht h;refine⟨n,.cons (.int _ _) .nil,?_⟩;simp[Lit.wf,IntKind.min,IntKind.max,IntKind.signed,IntKind.bits]at hw;omega
theorem TP(cV:P.cellsOf tV=2)(uV:∃fs,P.underlying tV=some (.struct fs)/\fs.toList.map (λf=>(f.type,f.offset))=[(tS,0),(tI,1)])(usV:P.underlying sV=some (.slice tV))(csV:P.cellsOf sV=1)
  (uA:∃fs,P.underlying tA=some (.struct fs)/\fs.toList.map (λf=>(f.type,f.offset))=[(tS,0),(dY,1),(dY,2)]) (cA:P.cellsOf tA=3) (usA:P.underlying sA=some (.slice tA)) (csA:P.cellsOf sA=1)
  (uC:∃fs,P.underlying tC=some (.struct fs)/\fs.toList.map (λf=>(f.type,f.offset))=[(tNest,0),(sV,23),(sA,24)]) (cC:P.cellsOf tC=25) (M:Nat) :
  Rd enc P w num ρ b M tC (λx:aZ×Sl Val×Sl Arr=>([x.1.loops.av Loop.av]++(([aV x.1.value]++([x.1.at_.av Lin.av]++([.bool x.1.dyn]++[])))++(([Str.av x.1.index.op]++([aV x.1.index.num]++([aV x.1.index.value]++([Str.av x.1.index.name]++([x.1.index.at_.av Lin.av]++([.bool x.1.index.dyn]++([aV x.1.index.check]++([x.1.index.fn.av aE.av]++([x.1.index.kav]++[])))))))))++([aV x.1.check]++(([Str.av x.1.body.op]++([aV x.1.body.num]++([aV x.1.body.value]++([Str.av x.1.body.name]++([x.1.body.at_.av Lin.av]++([.bool x.1.body.dyn]++([aV x.1.body.check]++([x.1.body.fn.av aE.av]++([x.1.body.kav]++[])))))))))++[])))))++([x.2.1.av Val.av]++([x.2.2.av Arr.av]++[])))
   (λx n=>x.1.body.ok/\x.1.index.ok/\(x.2.1.nl=true->x.2.1.es=[])/\x.2.1.es.length+(x.1.loops.es.length+x.1.body.sz+x.1.index.sz)<=n):=by
 intro fuel hN cs d ps h hb;obtain⟨fs,hu,hL⟩:=uC;obtain⟨xs,n,hn,hx,hcl,hl,hf⟩:=eQ hu hL h;rw[cC]at hcl;obtain⟨y0,y1,y2,rfl⟩:∃y0 y1 y2,xs=[y0,y1,y2]:=by
  match xs,hl with
  |[y0,y1,y2],_=>exact⟨y0,y1,y2,rfl⟩
 have hx':d = .agg [y0.1,y1.1,y2.1]:=hx;subst hx';rw[B.agg]at hb ⊢;simp only[B.cons,B.nil]at hb ⊢;have f0:_=some y0:=hf 0 (tNest,0) rfl;have f1:_=some y1:=hf 1 (sV,23) rfl;have f2:_=some y2:=hf 2 (sA,24) rfl;simp only[N.c_tNest,csV,csA]at f0 f1 f2;obtain⟨a0,p0,g0⟩:=(Q1 (enc:=enc) (w:=w) (num:=num) (ρ := ρ) B T N n) n (Nat.le_refl _) _ y0.1 y0.2 f0 (by omega);obtain⟨a1,p1,g1⟩:=(YQ (enc:=enc) (w:=w) (num:=num) (ρ := ρ) B T.uS T.uI T.c_tS T.c_tI cV uV usV n) n (Nat.le_refl _) _ y1.1 y1.2 f1 (by omega);obtain⟨a2,p2,g2⟩:=(YR (enc:=enc) (w:=w) (num:=num) (ρ := ρ) B T uA cA usA n) n (Nat.le_refl _) _ y2.1 y2.2 f2 (by omega);refine⟨⟨a0,a1,a2⟩,?_,g0.1,g0.2.1,g1.1,?_⟩
 rotate_left
 obtain⟨_,ms,m1,m2,m3⟩:=g1;have hl:a1.es.length<=ms.sum:=by rw[m1.length];exact kX m3
 have:=g0.2.2.1;show a1.es.length+(a0.loops.es.length+a0.body.sz+a0.index.sz)<=_;omega;have q:=(p0.piece (p1.piece (p2.piece (aJ.done (by omega)))))
 rw[List.drop_zero]at q;exact q
end
end
end Go.Tev
section
set_option maxRecDepth 100000
namespace Go.Proofs
open Go.Tev
theorem tyS:TyP Tryz.prog 3 9 4 127 40 212 29 38 23 26 27 52 49 where
 uI:=Tryz.underlying3
 uS:=Tryz.underlying9
 uB:=Tryz.underlying4
 u_tCoef:=⟨_,Tryz.underlying127,by kernel_rfl⟩
 u_tLin:=⟨_,Tryz.underlying40,by kernel_rfl⟩
 u_tStep:=⟨_,Tryz.underlying212,by kernel_rfl⟩
 u_tPull:=⟨_,Tryz.underlying29,by kernel_rfl⟩
 u_sCoef:=Tryz.underlying38
 u_sLin:=Tryz.underlying23
 u_sStep:=Tryz.underlying26
 u_sPull:=Tryz.underlying27
 u_sInt:=Tryz.underlying52
 u_sStr:=Tryz.underlying49
 c_tI:=by kernel_rfl
 c_tS:=by kernel_rfl
 c_tB:=by kernel_rfl
 c_tCoef:=by kernel_rfl
 c_tLin:=by kernel_rfl
 c_tStep:=by kernel_rfl
 c_tPull:=by kernel_rfl
 c_sCoef:=by kernel_rfl
 c_sLin:=by kernel_rfl
 c_sStep:=by kernel_rfl
 c_sPull:=by kernel_rfl
 c_sInt:=by kernel_rfl
 c_sStr:=by kernel_rfl
theorem tyN:TyN Tryz.prog 3 9 4 40 29 23 42 25 31 22 where
 u_tLoop:=⟨_,Tryz.underlying42,by kernel_rfl⟩
 u_tAcc:=⟨_,Tryz.underlying25,by kernel_rfl⟩
 u_tNest:=⟨_,Tryz.underlying31,by kernel_rfl⟩
 u_sLoop:=Tryz.underlying22
 c_tLoop:=by kernel_rfl
 c_tAcc:=by kernel_rfl
 c_tNest:=by kernel_rfl
 c_sLoop:=by kernel_rfl
theorem FN{ρ : Rho}{W:World}{g:Nat}{v:AV}{cs:Array Value}{T:TypeId}{fr:Nat×Nat}(ht:v.tree=true)(hg:W.heap[g]?=some (.cells cs T fr))(h:aJ (Rv nm ρ W noF) v.cells cs.toList) :
  (v.tree=true/\∃c T fr,W.heap[gnum g]?=some (.cells c T fr)/\c.size=v.cells.length)/\Rv nm ρ W noF (.fp v) (.pointer (some ⟨gnum g,0,none⟩)):=by
 have hl:=h.length;have hsz:cs.size=v.cells.length:=by rw[hl];simp
 refine⟨⟨ht,cs,T,fr,hg,hsz⟩,?_⟩;have hlt:g<W.heap.size:=by by_cases hlt:g<W.heap.size;exact hlt;rw[Array.getElem?_eq_none (Nat.le_of_not_lt hlt)]at hg;cases hg
 have hcell:∀n,n<cs.size->W.cell? ⟨g,0+n,none⟩=some (cs[n]?.getD undef):=by intro n hn;simp only[World.cell?,hg,Option.isSome_none,Bool.false_eq_true,if_false,Nat.zero_add];rw[Array.getElem?_eq_getElem hn];rfl
 refine .fp v g 0 (λn=>cs[n]?.getD undef) (λh=>h) hlt (λn hn=>hcell n (by omega)) ?_;intro j x hx;have hj:j<cs.size:=by rw[hsz];exact(List.getElem?_eq_some_iff.1 hx).1
 have h2:=h.get j x (cs[j]'hj) hx (by rw[Array.getElem?_toList,Array.getElem?_eq_getElem hj]);simpa[Array.getElem?_eq_getElem hj] using h2
theorem u5{P:Program}{W:World}{n:String}{g:Nat}{cs:Array Value}(hg:P.globalNamed n=some g)(h:W.var? P n=some cs):∃T fr,W.heap[g]?=some (.cells cs T fr):=by unfold World.var? at h;rw[hg,Option.bind_some]at h;split at h;rename_i c T fr hh;cases h;exact⟨T,fr,hh⟩;cases h
theorem JE{P:Program}{W:World}{fuel:Nat}{t:TypeId}{cs:List Value}{name:String}{d:DataW Unit}{p:List MemPlace}{ms}(ht:P.underlying t=some (.interface ms))
  (h:DataW.trod (λ_=>()) P W 0 (λ_=>true) false fuel t cs=some (.iface name d,p)):∃u v,cs=[.iface u v]:=by
 cases fuel with
 |zero=>simp[DataW.trod]at h
 |succ fuel=>
  unfold DataW.trod at h;rw[ht]at h;split at h<;>first|(rename_i e;cases e;done)|skip
  all_goals first|(exact⟨_,_,rfl⟩)|(cases h;done)|skip
theorem aKz{W:World}(hL:laidMetH Tryz.prog YtilkdbbkkcnocaaGreatDoor.Rows.costScaledUptoRow.laid W):iZ nm glS gnum (λ_ _=>none) W noF:=by
 have e:(YtilkdbbkkcnocaaGreatDoor.Rows.costScaledUptoRow.laid.filter λx=>x.2.handleName?.isSome)=[]:=by kernel_rfl
 have h:laidMet Tryz.prog YtilkdbbkkcnocaaGreatDoor.Rows.costScaledUptoRow.laid W:=by unfold laidMetH at hL;rw[e]at hL;exact hL
 obtain⟨ps,hv,_,_⟩:=h;obtain⟨g1,t1,cs1,f1,p1,q1,hg1,ht1,hv1,hd1,hr1,_⟩:=hv;obtain⟨g2,t2,cs2,f2,p2,q2,hg2,ht2,hv2,hd2,hr2,_⟩:=hr1;obtain⟨g3,t3,cs3,f3,p3,q3,hg3,ht3,hv3,hd3,hr3,_⟩:=hr2;obtain⟨g4,t4,cs4,f4,p4,q4,hg4,ht4,hv4,hd4,hr4,_⟩:=hr3;obtain⟨g5,t5,cs5,f5,p5,q5,hg5,ht5,hv5,hd5,hr5,_⟩:=hr4;obtain⟨g6,t6,cs6,f6,p6,q6,hg6,ht6,hv6,hd6,hr6,_⟩:=hr5;obtain⟨g7,t7,cs7,f7,p7,q7,hg7,ht7,hv7,hd7,hr7,_⟩:=hr6;clear hr7;obtain⟨T3,fr3,hh3⟩:=u5 hg3 hv3;obtain⟨T5,fr5,hh5⟩:=u5 hg5 hv5;obtain⟨T6,fr6,hh6⟩:=u5 hg6 hv6;obtain rfl:2=g3:=Option.some.inj ((show Tryz.prog.globalNamed _=some 2 by kernel_rfl).symm.trans hg3);obtain rfl:1=g5:=Option.some.inj ((show Tryz.prog.globalNamed _=some 1 by kernel_rfl).symm.trans hg5);obtain rfl:0=g6:=Option.some.inj ((show Tryz.prog.globalNamed _=some 0 by kernel_rfl).symm.trans hg6);obtain rfl:370=t3:=Option.some.inj ((show (Tryz.prog.globals[2]?).map (·.type)=some 370 by kernel_rfl).symm.trans ht3);obtain rfl:233=t5:=Option.some.inj ((show (Tryz.prog.globals[1]?).map (·.type)=some 233 by kernel_rfl).symm.trans ht5);obtain rfl:233=t6:=Option.some.inj ((show (Tryz.prog.globals[0]?).map (·.type)=some 233 by kernel_rfl).symm.trans ht6);have hd3':DataW.trod (λ_=>()) Tryz.prog W 0 (λ_=>true) false f3 370 cs3.toList=some (Lib.tabData .u64 Lib.pow10Tab,p3):=hd3;have hcsP:=Lib.cells_of_tab Tryz.underlying370 Tryz.underlying272 (by kernel_rfl) (by kernel_rfl) hd3';obtain⟨uR,vR,hcR⟩:=JE Tryz.underlying233 hd5;obtain⟨uY,vY,hcY⟩:=JE Tryz.underlying233 hd6;intro g v hg;unfold glS at hg;cases h1:g.beq 0 with
 |true=>rw[h1]at hg;simp only[cond_true,Option.some.injEq]at hg;subst hg;obtain rfl:=Nat.eq_of_beq_eq_true h1;exact FN (by kernel_rfl) hh6 (by rw[hcY];exact .cons (.ifc _ _ _ (.top _)) .nil)
 |false=>
  cases h2:g.beq 1 with
  |true=>rw[h1,h2]at hg;simp only[cond_true,cond_false,Option.some.injEq]at hg;subst hg;obtain rfl:=Nat.eq_of_beq_eq_true h2;exact FN (by kernel_rfl) hh5 (by rw[hcR];exact .cons (.ifc _ _ _ (.top _)) .nil)
  |false=>
   cases h3:g.beq 2 with
   |true=>
    rw[h1,h2,h3]at hg;simp only[cond_true,cond_false,Option.some.injEq]at hg;subst hg;obtain rfl:=Nat.eq_of_beq_eq_true h3;refine FN (by kernel_rfl) hh3 ?_;rw[hcsP];refine aJ.mk_get (by simp[AV.cells]) ?_;intro i x y hx hy;simp only[AV.cells,List.getElem?_map]at hx hy;cases hz:Lib.pow10Tab[i]? with
    |none=>rw[hz]at hx;cases hx
    |some z=>rw[hz]at hx hy;cases hx;cases hy;exact .int _ _
   |false=>rw[h1,h2,h3]at hg;cases hg
end Go.Proofs
end
namespace Go.Tev
section
section
variable{pg:Pg}
end
end
section
theorem lA{n:Int}(h1 : -9223372036854775808<=n)(h2:n<=9223372036854775807):wr .i64 n=n:=if_pos ⟨h1,h2⟩
def atA(a:Arr)(ix:List Int):Int×Int:=
 if aLJ a=false then (0,1) else if (aGm a.dims.es ix).2≠0 then (0,(aGm a.dims.es ix).2) else (a.data.es[(aGm a.dims.es ix).1.toNat]?.getD 0,0)
section
variable{pg:Pg}
end
end
section
def UL(env:List Val)(s:List UInt8):Option Int:=(env.find? λv=>decide (v.v.bs=s)).map (·.n)
def lR(env:List Val):Prop:=(env.map λv=>v.v.bs).Nodup
def aJX(env:List Val):List aR->Int->Option Int
 |[],n=>some n
 |t::r,n=>if 1073741824<(UL env t.v.bs).getD 0\/(UL env t.v.bs).getD 0 < -1073741824 then none else aJX env r (wr .i64 (n+wr .i64 (t.c*(UL env t.v.bs).getD 0)))
def aJW(env:List Val)(l:Lin):Option Int:=
 match aJX env l.ts.es l.c with
 |none=>none
 |some n=>if 1099511627776<n\/n < -1099511627776 then none else some n
section
variable{pg:Pg}
end
end
section
section
variable{pg:Pg}{kb:Nat}
theorem aHK(s:Nat)(h:Hp)(vs:List AV)(Q:AV->Eff->Prop)(t:Tok Q):XO pg kb .mkm s h vs Q t=XV (PH h (kb+s) vs) Q ⟨⟩:=cG rfl s h vs Q
theorem aHI(q:Nat)(z:AV)(ok:Bool)(s:Nat)(h:Hp)(vs:List AV)(Q:AV->Eff->Prop)(t:Tok Q):XO pg kb (.mlk q z ok) s h vs Q t=XV (wS h q z ok vs) Q ⟨⟩:=cG rfl s h vs Q
theorem aHG(q:Nat)(s:Nat)(h:Hp)(vs:List AV)(Q:AV->Eff->Prop)(t:Tok Q):XO pg kb (.mup q) s h vs Q t=XV (PE h q vs) Q ⟨⟩:=cG rfl s h vs Q
theorem aBM(q:Nat)(s:Nat)(h:Hp)(vs:List AV)(Q:AV->Eff->Prop)(t:Tok Q):XO pg kb (.mdel q) s h vs Q t=XV (FS h q vs) Q ⟨⟩:=cG rfl s h vs Q
end
theorem UQ(k:IntKind)(n:Int):AV.keyQ 0 (.int k n)=true:=rfl
theorem UP(b:List UInt8):AV.keyQ 1 (.str b)=true:=rfl
theorem RE(b:Bool):AV.keyQ 2 (.bool b)=true:=rfl
theorem WU(k e:Nat):AV.cells (.mp k e)=[.mp k e]:=rfl
theorem U1(k e:Nat):AV.isAgg (.mp k e)=false:=rfl
attribute [go_sem] aHK aHI aHG aBM PH wS PE FS UQ UP RE WU U1
end
section
structure Cn where
 rd:Int
 ops:Int
 wk:Int
 vi:List Int
inductive Rs where
 |ok (n:Int) (c:Cn)
 |er (e:Int)
def kvE(env:List Val):List (AV×AV):=env.map λv=>(.str v.v.bs,.int .i64 v.n)
private theorem eq1s(a b:List UInt8):eq1 (.str a) (.str b)=some (decide (a=b)):=rfl
def aQO(m a:AV)(c:Cn)(vi:AV)(e:Int):Ob:=.blk [m,a,.int .i64 c.rd,.int .i64 0,.int .i64 c.ops,.int .i64 0,vi,.int .i64 c.wk,.int .i64 e] 9 true true false
def aBZ(h:Hp)(vi:AV)(es:List Int):Prop:=∃k,Gr h k vi es/\65536<=k/\k % 65536=37/\(es=[]\/∃e,vi = .rf k e 0 es.length es.length)
def Ev(ev em:Nat)(a:AV)(env:List Val)(c:Cn)(e:Int)(h:Hp):Prop:=
 ∃vi bs ck,h.get 17=some (ev,aQO (.mp 13 em) a c vi e)/\h.get 13=some (em,.mpo (kvE env) bs ck)/\aBZ h vi c.vi
def EJ(h h':Hp)(kb:Nat):Prop:=∀q,q<kb->q≠17->q≠13->q % 65536≠37->h'.get q=h.get q
theorem EJ.refl(h:Hp)(kb:Nat):EJ h h kb:=λ_ _ _ _ _=>rfl
theorem EJ.trans{h h' h'':Hp}{kb kb':Nat}(a:EJ h h' kb)(b:EJ h' h'' kb')(hk:kb<=kb'):EJ h h'' kb:=λq h1 h2 h3 h4=>(b q (by omega) h2 h3 h4).trans (a q h1 h2 h3 h4)
theorem aBZ.mono{h h':Hp}{v:AV}{es:List Int}(o:aBZ h v es)(hk:∀q,65536<=q->q % 65536=37->h'.get q=h.get q):aBZ h' v es:=by obtain⟨k,g,h1,h2⟩:=o;exact⟨k,g.mono (hk k h1 h2.1),h1,h2⟩
theorem Ev.mono{ev em:Nat}{a:AV}{env:List Val}{c:Cn}{e:Int}{h h':Hp}(o:Ev ev em a env c e h)(h1:h'.get 17=h.get 17)(h2:h'.get 13=h.get 13)(hk:∀q,65536<=q->q % 65536=37->h'.get q=h.get q):Ev ev em a env c e h':=by obtain⟨vi,bs,ck,a1,a2,a3⟩:=o;exact⟨vi,bs,ck,h1.trans a1,h2.trans a2,a3.mono hk⟩
section
variable{pg:Pg}
end
end
end Go.Tev
