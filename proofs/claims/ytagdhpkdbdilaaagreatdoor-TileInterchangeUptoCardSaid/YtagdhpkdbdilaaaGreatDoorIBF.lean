import Derived.Test.YtagdhpkdbdilaaaGreatDoorIAW
import Derived.Test.YtagdhpkdbdilaaaGreatDoorIBE
import Derived.Test.YtagdhpkdbdilaaaGreatDoorIAR
import Derived.Test.YtagdhpkdbdilaaaGreatDoorIAI
import Derived.Test.YtagdhpkdbdilaaaGreatDoorIAM
import Derived.Test.YtagdhpkdbdilaaaGreatDoorIBC
import Derived.Test.YtagdhpkdbdilaaaGreatDoorIAY
import Derived.Test.YtagdhpkdbdilaaaGreatDoorIBA
import Derived.Test.YtagdhpkdbdilaaaGreatDoorIAS
set_option linter.all false
namespace Go.Tev
section
section
variable{pg:Pg}
end
end
section
def aPn(n:Int):List UInt8:=if n<0 then [] else 105::FY 20 n.toNat
section
variable{pg:Pg}
end
end
section
end
section
def aFC(i:Nat)(l:Lin):Bool:=decide (l.c=0)&&match l.ts.es with
 |[t]=>decide (t.v.bs=aPn i)&&decide (t.c=1)
 |_=>false
def G0:Nat->List Lin->Bool
 |_,[]=>true
 |i,l::r=>aFC i l&&G0 (i+1) r
def aHh(p:aE)(rank:Int):Bool := !p.dyn&&(decide ((p.at_.es.length:Int)=rank)&&G0 0 p.at_.es)
def aUn(v rank:Int)(p:aE):Bool := !(decide (p.op.bs=[114,101,97,100])&&(decide (p.value=v) && !aHh p rank))
mutual
def aUm(v rank:Int):aE->Bool
 |.mk op num value name at_ dyn check fn knl kids kcl=>aUn v rank (.mk op num value name at_ dyn check fn knl kids kcl)&&P3 v rank kids
def P3(v rank:Int):List aE->Bool
 |[]=>true
 |p::r=>aUm v rank p&&P3 v rank r
end
end
section
section
variable{pg:Pg}
end
end
section
section
variable{pg:Pg}
theorem c316(hf:pg.fs 316=some vA)(nl cl:Bool)(es:List Int)(hb:es.length<=big)(v:Int) :
  cW pg 316 [.sl nl (es.map bE) cl,.int .i64 v] (λr=>∃i:Int,r = .int .i64 i/\decide (0<=i)=es.any (λy=>decide (v=y))):=
 LZ (f:=316) (k:=.bin .eql) hf bE (λ_=>rfl) nl cl es hb (.int .i64 v) (λy=>decide (v=y)) (by intro kb s h x Q t;simp only[go_sem,seval])
theorem c293(hf:pg.fs 293=some A1)(h316:pg.fs 316=some vA)(nl cl:Bool)(es:List Int)(hb:es.length<=big)(v:Int) :
  Ret pg 293 [.sl nl (es.map bE) cl,.int .i64 v] (.bool (es.contains v)):=by
 have e:∀l:List Int,l.contains v=l.any λy=>decide (v=y):=by
  intro l
  induction l with
  |nil=>rfl
  |cons x r ih=>simp only[List.contains_cons,List.any_cons];rw[ih];rfl
 rw[e];exact qD (n:=316) hf (by simp only[go_sem,seval]) (c316 h316 nl cl es hb v)
end
end
section
theorem aV.cellsE(x:aV):x.cells=[.sl x.loops.nl (x.loops.es.map Loop.av) x.loops.cl,.int .i64 x.value,.sl x.at_.nl (x.at_.es.map Lin.av) x.at_.cl,.bool x.dyn,.str x.index.op.bs,.int .i64 x.index.num,.int .i64 x.index.value,.str x.index.name.bs,.sl x.index.at_.nl (x.index.at_.es.map Lin.av) x.index.at_.cl,.bool x.index.dyn,.int .i64 x.index.check,.sl x.index.fn.nl (x.index.fn.es.map aI.av) x.index.fn.cl,.sl x.index.knl (x.index.kids.map aE.av) x.index.kcl,.int .i64 x.check,.str x.body.op.bs,.int .i64 x.body.num,.int .i64 x.body.value,.str x.body.name.bs,.sl x.body.at_.nl (x.body.at_.es.map Lin.av) x.body.at_.cl,.bool x.body.dyn,.int .i64 x.body.check,.sl x.body.fn.nl (x.body.fn.es.map aI.av) x.body.fn.cl,.sl x.body.knl (x.body.kids.map aE.av) x.body.kcl]:=rfl
def qL:aV:=⟨aFm Loop,0,aFm Lin,false,jH,0,jH⟩
def dA(n:aV)(o:List Int):Int:=if eH o n.loops.es.length=true then (if fZ (bZ n.loops.es o)=true then 0 else 10) else 1
def gR(n:aV)(o:List Int)(r:AV):Prop:=
 if dA n o=0 then ∃s:Sl Loop,s.es=bZ n.loops.es o/\r = .tup [({n with loops:=s}:aV).av,.int .i64 0] else r = .tup [qL.av,.int .i64 (dA n o)]
theorem tC{d:Nat}{h:Hp}{v t:AV}{keys:List Nat}{rest:List AV}(hs:snap (d+1) h v=some (t,keys))(hr:treeL rest=true):snap (d+2) h (.agg (v::rest))=some (.agg (t::rest),keys):=by
 have hm:=fR d h hr;by_cases hv:v.tree=true;have e:snap (d+1) h v=some (v,[]):=by unfold snap;rw[if_pos hv]
 rw[e]at hs;cases hs;unfold snap;rw[if_pos (by simp only[AV.tree,treeL,hv,hr,Bool.and_self])];have ht:¬(AV.agg (v::rest)).tree=true:=by simp only[AV.tree,treeL,aF];exact λq=>hv q.1
 rw[snap,if_neg ht];simp only[mapS,hs,hm,Option.map_some,List.append_nil]
theorem u2{h:Hp}{v t w:AV}{keys:List Nat}{rest:List AV}(hs:snap 62 h v=some (t,keys))(hr:treeL rest=true)(hw:w.tree=true):conv h (.tup [.agg (v::rest),w])=some (.tup [.agg (t::rest),w]):=
 I9 hw (tC hs hr)
theorem sY{α : Type}{l:List α}{d:List Int}{k:Int}{x : α}(h:l[k.toNat]?=some x):bZ l (d++[k])=bZ l d++[x]:=by simp[bZ,List.filterMap_append,h]
theorem jI:qL.cells=[.sl true [] true,.int .i64 0,.sl true [] true,.bool false,.str [],.int .i64 0,.int .i64 0,.str [],.sl true [] true,.bool false,.int .i64 0,.sl true [] true,.sl true [] true,.int .i64 0,.str [],.int .i64 0,.int .i64 0,.str [],.sl true [] true,.bool false,.int .i64 0,.sl true [] true,.sl true [] true]:=rfl
theorem Own.cell{h:Hp}{k0 esz:Nat}{ag:Bool}{v:AV}{es:List AV}(o:Own h k0 esz ag v es):v.fits 1 false=true/\v.cells=[v]/\v.one=true:=by rcases o with ⟨_,nl,cl,rfl,_⟩|⟨e,cs,rfl,_,_⟩<;>exact⟨rfl,rfl,rfl⟩
section
variable{pg:Pg}
set_option maxHeartbeats 2000000 in
theorem c744(hf:pg.fs 744=some AN)(h293:pg.fs 293=some A1)(h316:pg.fs 316=some vA)
  (h758:∀(nl cl:Bool)(ls:List Loop),ls.length<=big->(∀x∈ls,wfL x/\x.hi.es≠[]/\x.hi.es.length<big)->Ret pg 758 [.sl nl (ls.map Loop.av) cl] (.bool (fZ ls)))
  (n:aV) (hw:∀x∈n.loops.es,wfL x/\x.hi.es≠[]/\x.hi.es.length<big) (nl cl:Bool) (o:List Int) (hb:o.length<=big) :
  cW pg 744 [n.av,.sl nl (o.map bE) cl] (gR n o):=by
 have hlb:=n.loops.ok;refine cW.ofX hf ?_;unfold AN;rw[aV.avc];cases b0:decide ((o.length:Int)=(n.loops.es.length:Int))
 case false=>
  have hne:dA n o=1:=by
   have:¬o.length=n.loops.es.length:=by have:=bW b0;omega
   simp[dA,eH,this]
  simp only[b0,go_sem,seval];unfold gR;rw[hne];rfl
 have he:o.length=n.loops.es.length:=by have:=aU b0;omega
 obtain⟨R,hR⟩:∃R,R=List.range o.length:=⟨_,rfl⟩
 have hRl:R.length=o.length:=by rw[hR,List.length_range]
 have hio:eH o n.loops.es.length=R.all λk=>o.contains (k:Int):=by rw[eH,<-he,hR];simp
 simp only[b0,go_sem,seval]
 refine aX R (λd r env hp=>env=xP (.sl nl (o.map bE) cl) (.pt 1 0 0) (.pt 5 0 0) (.sl true [] true) (.int .i64 o.length) (.int .i64 d.length)/\hp.get 1=some (0,.blk n.cells 23 true true false)/\hp.get 5=some (0,.blk qL.cells 23 true true false) /\
  (R.all λk=>o.contains (k:Int))=r.all λk=>o.contains (k:Int)) ?_ ?_ ?_
 exact⟨rfl,rfl,rfl,rfl⟩;rintro env hp ⟨rfl,g1,g5,hI⟩;have hord:eH o n.loops.es.length=true:=by rw[hio,hI];rfl
 rw[hRl];rw[aV.cellsE]at g1;rw[jI]at g5;simp only[xN,xP,bA,go_sem,seval];have hin:=qY hord;have hle:(bZ n.loops.es o).length=o.length:=(iM hin).1;refine aX o (λd r env hp=>∃v,env=xO (.pt 1 0 0) (.pt 5 0 0) v (.sl nl (o.map bE) cl) (.int .i64 o.length) (.int .i64 d.length)/\Own hp 13 5 true v ((bZ n.loops.es d).map Loop.av)/\hp.get 1=some (0,.blk n.cells 23 true true false)/\hp.get 5=some (0,.blk qL.cells 23 true true false)) ?_ ?_ ?_;exact⟨_,rfl,Own.nil _ _ _ _ true true rfl,g1,g5⟩;rintro env h2 ⟨v,rfl,ho,g1,g5⟩;rw[aV.cellsE]at g1;rw[jI]at g5;have hs8:=ho.snap (El.loops _);have hsub:∀y∈bZ n.loops.es o,wfL y/\y.hi.es≠[]/\y.hi.es.length<big:=by intro y hy;obtain⟨k,_,hk⟩:=List.mem_filterMap.1 hy;exact hw y (List.mem_of_getElem? hk)
 obtain⟨nl8,cl8,keys,hsn,_⟩:=hs8 62;have a1:=h758 nl8 cl8 (bZ n.loops.es o) (by omega) hsub;simp only[xL,xO,bA,go_sem,seval];refine cV a1 (keys:=keys++[]) (by simp only[depth,mapS,hsn]) (v:=.bool (fZ (bZ n.loops.es o))) (pa:=[]) rfl ?_;cases b1:fZ (bZ n.loops.es o);simp only[g5,go_sem,seval];have hne:dA n o=10:=by rw[dA,if_pos hord,b1];rfl
 unfold gR;rw[hne];rfl;obtain⟨c1,c2,c3⟩:=ho.cell;simp only[g1,g5,c1,c2,c3,go_sem,seval];have hne:dA n o=0:=by rw[dA,if_pos hord,b1];rfl
 generalize hH:Hp.put (Hp.put h2 1 0 _) 5 0 _=H3;have ho3:Own H3 13 5 true v ((bZ n.loops.es o).map Loop.av):=ho.mono (by rw[<-hH,aR,if_neg (by omega),aR,if_neg (by omega)]);obtain⟨nl9,cl9,keys9,hsn9,_⟩:=ho3.snap (El.loops _) 60;refine⟨_,u2 hsn9 (by simp[go_sem]) rfl,?_⟩;unfold gR;rw[hne,if_pos rfl];exact⟨⟨nl9,bZ n.loops.es o,cl9,by omega⟩,rfl,rfl⟩;rintro d x r env h2 he2 ⟨v,rfl,ho,g1,g5⟩;obtain⟨hget,f1,f2,fw⟩:=cG he2 hb;obtain⟨x0,x1⟩:=hin x (by rw[he2];simp);have hx0:(0<=x)=True:=eq_true x0;obtain⟨y,hy⟩:∃y,n.loops.es[x.toNat]?=some y:=⟨_,bX (by omega)⟩
 rw[aV.cellsE]at g1;have hdl:(bZ n.loops.es d).length<=d.length:=List.length_filterMap_le _ _;have hdo:d.length<o.length:=by rw[he2];simp
 have hgi:(o.map bE)[d.length]?=some (.int .i64 x):=by rw[List.getElem?_map,hget];rfl
 simp only[xL,xO,f1,f2,hgi,g1,hx0,hy,go_sem,seval];refine o9 (kb:=0) (s:=13) ho (El.loops _) (xs:=[y.av]) (by intro z hz;rw[List.mem_singleton.1 hz];exact El.loop _) (by simp only[cY,List.length_singleton,big]at hb ⊢;omega) (by decide) ?_;intro v' rd pa ho' hk _;simp only[fw,go_sem,seval];refine⟨v',rfl,?_,?_,?_⟩;rw[sY hy,List.map_append];exact ho';exact(hk 1 (by omega)).trans (by rw[aV.cellsE];exact g1);exact(hk 5 (by omega)).trans g5;rintro d x r env hp hes ⟨rfl,g1,g5,hI⟩;have hes':=hes;rw[hR]at hes';obtain⟨rfl,hlt⟩:=oI hes';obtain⟨_,e1,e2,ew⟩:=cG hes (by rw[hRl];exact hb);rw[hRl]at e1 e2;have hc:((d.length::r).all λk=>o.contains (k:Int))=(o.contains (d.length:Int)&&r.all λk=>o.contains (k:Int)):=rfl;simp only[xN,xP,e1,e2,go_sem,seval];refine aG (c293 h293 h316 nl cl o hb d.length) ?_;cases b1:o.contains (d.length:Int);rw[jI]at g5;simp only[g5,go_sem,seval];have hne:dA n o=1:=by rw[dA,hio,hI,hc,b1];rfl
 unfold gR;rw[hne];rfl;simp only[ew,go_sem,seval];exact⟨rfl,g1,g5,by rw[hI,hc,b1,Bool.true_and]⟩
end
end
section
section
variable{pg:Pg}
set_option maxHeartbeats 2000000 in
theorem c745(hf:pg.fs 745=some AM)(h759:pg.fs 759=some u7)(h781:pg.fs 781=some sP)(h760:pg.fs 760=some u6)(h782:pg.fs 782=some sO)(h794:pg.fs 794=some pP)
  (n:aV) (hw:∀x∈n.loops.es,mZ x=true) (nl cl:Bool) (o:List Int) (hb:o.length<=big):cW pg 745 [n.av,.sl nl (o.map bE) cl] (gR n o):=by
 have hlb:=n.loops.ok;refine cW.ofX hf ?_;unfold AM;rw[aV.avc];refine Wk ?_;refine aG (c759 h759 h781 nl cl o hb n.loops.es.length hlb) ?_;cases hord:eH o n.loops.es.length;refine Wk ?_;have hne:dA n o=1:=by rw[dA,hord];rfl
 unfold gR;rw[hne];rfl;have hin:=qY hord;have hle:(bZ n.loops.es o).length=o.length:=(iM hin).1;refine Wk ?_;refine aX o (λd r env hp=>∃v,env=xK (.sl nl (o.map bE) cl) (.pt 1 0 0) (.pt 5 0 0) v (.int .i64 d.length)/\Own hp 13 5 true v ((bZ n.loops.es d).map Loop.av)/\hp.get 1=some (0,.blk n.cells 23 true true false)/\hp.get 5=some (0,.blk qL.cells 23 true true false)) ?_ ?_ ?_;exact⟨_,rfl,Own.nil _ _ _ _ true true rfl,rfl,rfl⟩;rintro env h2 ⟨v,rfl,ho,g1,g5⟩;rw[aV.cellsE]at g1;rw[jI]at g5;obtain⟨nl8,cl8,keys,hsn,_⟩:=ho.snap (El.loops _) 62;have hsub:∀y∈bZ n.loops.es o,mZ y=true:=by intro y hy;obtain⟨k,_,hk⟩:=List.mem_filterMap.1 hy;exact hw y (List.mem_of_getElem? hk)
 have hpo:=zB _ hsub;have a1:=c760 h760 h782 h794 nl8 cl8 (bZ n.loops.es o) (by omega);rw[<-hpo]at a1;simp only[xJ,xK,bA,go_sem,seval];refine cV a1 (keys:=keys++[]) (by simp only[depth,mapS,hsn]) (v:=.bool (fZ (bZ n.loops.es o))) (pa:=[]) rfl ?_;cases b1:fZ (bZ n.loops.es o);simp only[g5,go_sem,seval];have hne:dA n o=10:=by rw[dA,if_pos hord,b1];rfl
 unfold gR;rw[hne];rfl;obtain⟨c1,c2,c3⟩:=ho.cell;simp only[g1,g5,c1,c2,c3,go_sem,seval];have hne:dA n o=0:=by rw[dA,if_pos hord,b1];rfl
 generalize hH:Hp.put (Hp.put h2 1 0 _) 5 0 _=H3;have ho3:Own H3 13 5 true v ((bZ n.loops.es o).map Loop.av):=ho.mono (by rw[<-hH,aR,if_neg (by omega),aR,if_neg (by omega)]);obtain⟨nl9,cl9,keys9,hsn9,_⟩:=ho3.snap (El.loops _) 60;refine⟨_,u2 hsn9 (by simp[go_sem]) rfl,?_⟩;unfold gR;rw[hne,if_pos rfl];exact⟨⟨nl9,bZ n.loops.es o,cl9,by omega⟩,rfl,rfl⟩;rintro d x r env h2 he2 ⟨v,rfl,ho,g1,g5⟩;obtain⟨hget,f1,f2,fw⟩:=cG he2 hb;obtain⟨x0,x1⟩:=hin x (by rw[he2];simp);have hx0:(0<=x)=True:=eq_true x0;obtain⟨y,hy⟩:∃y,n.loops.es[x.toNat]?=some y:=⟨_,bX (by omega)⟩
 rw[aV.cellsE]at g1;have hdl:(bZ n.loops.es d).length<=d.length:=List.length_filterMap_le _ _;have hdo:d.length<o.length:=by rw[he2];simp
 have hgi:(o.map bE)[d.length]?=some (.int .i64 x):=by rw[List.getElem?_map,hget];rfl
 simp only[xJ,xK,f1,f2,hgi,g1,hx0,hy,go_sem,seval];refine o9 (kb:=0) (s:=13) ho (El.loops _) (xs:=[y.av]) (by intro z hz;rw[List.mem_singleton.1 hz];exact El.loop _) (by simp only[cY,List.length_singleton,big]at hb ⊢;omega) (by decide) ?_;intro v' rd pa ho' hk _;refine Wk ?_;refine cO ?_;simp only[fw,go_sem,seval];refine⟨v',rfl,?_,?_,?_⟩;rw[sY hy,List.map_append];exact ho';exact(hk 1 (by omega)).trans (by rw[aV.cellsE];exact g1);exact(hk 5 (by omega)).trans g5
end
end
section
section
variable{pg:Pg}
theorem c568(hf:pg.fs 568=some AW)(nl cl:Bool)(ls:List Lin)(hb:ls.length<=big):cW pg 568 [.sl nl (ls.map Lin.av) cl] IsB:=by
 refine cW.ofX hf ?_;unfold AW;refine Wk ?_;refine aX ls (λd r env hp=>env=l7 (.sl nl (ls.map Lin.av) cl) (.int .i64 d.length)) ?_ ?_ ?_;rfl;rintro env hp rfl;simp only[l3,l7,bA,go_sem,seval];rintro d x r env hp hes rfl;obtain⟨hget,e1,e2,ew⟩:=cG hes hb;have hlb:=x.ts.ok;cases b1:decide (6<(x.ts.es.length:Int))
 case true=>simp only[l3,l7,e1,e2,hget,b1,go_sem,seval]
 cases b2:decide (x.c < -100)
 case true=>simp only[l3,l7,e1,e2,hget,b1,b2,go_sem,seval]
 cases b3:decide (100<x.c)
 case true=>simp only[l3,l7,e1,e2,hget,b1,b2,b3,go_sem,seval]
 simp only[l3,l7,e1,e2,hget,b1,b2,b3,go_sem,seval];refine aX x.ts.es (λd2 r2 env hp=>env=l8 (.sl nl (ls.map Lin.av) cl) (.int .i64 d.length) (.int .i64 d2.length)) ?_ ?_ ?_;rfl;rintro env hp rfl;simp only[l6,l8,bA,hget,e1,e2,ew,go_sem,seval];rfl;rintro d2 y r2 env hp he2 rfl;obtain⟨hget2,f1,f2,fw⟩:=cG he2 hlb;cases b4:decide (y.c < -100)
 case true=>simp only[l6,l8,e1,e2,hget,hget2,f1,f2,b4,go_sem,seval]
 cases b5:decide (100<y.c)
 case true=>simp only[l6,l8,e1,e2,hget,hget2,f1,f2,b4,b5,go_sem,seval]
 cases b6:decide (35<(y.v.bs.length:Int))
 case true=>simp only[l6,l8,e1,e2,hget,hget2,f1,f2,b4,b5,b6,go_sem,seval]
 simp only[l6,l8,e1,e2,hget,hget2,f1,f2,b4,b5,b6,fw,go_sem,seval];rfl
theorem c569(hf:pg.fs 569=some AU)(h568:∀(nl cl:Bool) (ls:List Lin),ls.length<=big->cW pg 568 [.sl nl (ls.map Lin.av) cl] IsB)(h25:∀p:aE,p.ok->Ret pg 25 [p.av] (.bool (D6 p))) :
  ∀p:aE,p.ok->cW pg 569 [p.av] IsB:=by
 refine aE.ind' λp ih hp=>?_;obtain⟨hb,hk⟩:=(aE.ok_iff p).1 hp;obtain⟨r1,a1,b1,rfl⟩:=h568 p.at_.nl p.at_.cl p.at_.es p.at_.ok;have a2:=h25 p hp;rw[aE.avc]at a2;refine cW.ofX hf ?_;unfold AU;refine Wk ?_;refine aX p.kids (λd r env hp=>env=x3 (.pt 1 0 0) (.int .i64 d.length)/\hp.get 1=some (0,.blk (t6 p p.kids) 9 true true false)) ?_ ?_ ?_;exact⟨rfl,rfl⟩;rintro env hp ⟨rfl,h1⟩;simp only[t6]at h1;simp only[xZ,x3,bA,h1,go_sem,seval];refine aG a1 ?_;cases b1;simp only[go_sem,seval];simp only[h1,go_sem,seval];refine aG a2 ?_;simp only[go_sem,seval];rintro d x r env hp hes ⟨rfl,h1⟩;have h0:=h1;simp only[t6]at h1;obtain⟨r3,a3,b3,rfl⟩:=ih x (by rw[hes];simp) (hk x (by rw[hes];simp));obtain⟨hget,e1,e2,ew⟩:=cG hes hb;simp only[xZ,x3,e1,e2,hget,h1,go_sem,seval];refine aG (a3) ?_;cases b3;simp only[go_sem,seval];simp only[ew,go_sem,seval];exact⟨rfl,h0⟩
theorem c556(hf:pg.fs 556=some A0)(h568:∀(nl cl:Bool) (ls:List Lin),ls.length<=big->cW pg 568 [.sl nl (ls.map Lin.av) cl] IsB)(h569:∀p:aE,p.ok->cW pg 569 [p.av] IsB)
  (n:aV) (hbo:n.body.ok) (hio:n.index.ok):cW pg 556 [n.av] IsB:=by
 obtain⟨r1,a1,b1,rfl⟩:=h568 n.at_.nl n.at_.cl n.at_.es n.at_.ok;obtain⟨r2,a2,b2,rfl⟩:=h569 n.index hio;obtain⟨r3,a3,b3,rfl⟩:=h569 n.body hbo;rw[aE.avc]at a2 a3;have lb:=n.loops.ok;refine cW.ofX hf ?_;unfold A0;refine Wk ?_;refine aX n.loops.es (λd r env hp=>env=nP (.pt 1 0 0) (.int .i64 d.length)/\hp.get 1=some (0,.blk n.cells 23 true true false)) ?_ ?_ ?_;exact⟨rfl,rfl⟩;rintro env hp ⟨rfl,h1⟩;simp only[aV.cells,aE.cells,Sl.av,aE.kav,List.cons_append,List.nil_append]at h1;cases b4:decide ((n.loops.es.length:Int)<=5)
 case false=>simp only[nO,nP,bA,h1,b4,go_sem,seval]
 simp only[nO,nP,bA,h1,b4,go_sem,seval];refine aG a1 ?_;cases b1;simp only[go_sem,seval];simp only[h1,go_sem,seval];refine aG a2 ?_;cases b2;simp only[go_sem,seval];simp only[h1,go_sem,seval];refine aG a3 ?_;simp only[go_sem,seval];rintro d x r env hp hes ⟨rfl,h1⟩;have h0:=h1;simp only[aV.cells,aE.cells,Sl.av,aE.kav,List.cons_append,List.nil_append]at h1;obtain⟨r4,a4,b4,rfl⟩:=h568 x.hi.nl x.hi.cl x.hi.es x.hi.ok;obtain⟨r5,a5,b5,rfl⟩:=h568 false true [x.lo] (by simp[big]);simp only[List.map_cons,List.map_nil,Lin.avc]at a5;obtain⟨hget,e1,e2,ew⟩:=cG hes lb;cases b6:decide (35<(x.v.bs.length:Int))
 case true=>simp only[nO,nP,e1,e2,hget,h1,b6,go_sem,seval]
 simp only[nO,nP,e1,e2,hget,h1,b6,go_sem,seval];refine aG (a4) ?_;cases b4;simp only[go_sem,seval];simp only[h1,e2,hget,go_sem,seval];refine aG (a5) ?_;cases b5;simp only[go_sem,seval];simp only[ew,go_sem,seval];exact⟨rfl,h0⟩
end
end
section
structure CodeNV(pg:Pg):Prop where
 f15:pg.fs 15=some DD
 f25:pg.fs 25=some JM
 f26:pg.fs 26=some DC
 f40:pg.fs 40=some C9
 f41:pg.fs 41=some F2
 f42:pg.fs 42=some C4
 f51:pg.fs 51=some JL
 f54:pg.fs 54=some JK
 f56:pg.fs 56=some AY
 f57:pg.fs 57=some aGf
 f67:pg.fs 67=some aGc
 f70:pg.fs 70=some aGa
 f77:pg.fs 77=some JE
 f87:pg.fs 87=some JD
 f89:pg.fs 89=some F0
 f90:pg.fs 90=some FZ
 f91:pg.fs 91=some aFW
 f95:pg.fs 95=some aFV
 f96:pg.fs 96=some aFU
 f98:pg.fs 98=some aFS
 f105:pg.fs 105=some KA
 f106:pg.fs 106=some BA
 f107:pg.fs 107=some J9
 f109:pg.fs 109=some J8
 f111:pg.fs 111=some J7
 f114:pg.fs 114=some vG
 f115:pg.fs 115=some vF
 f118:pg.fs 118=some A9
 f121:pg.fs 121=some A8
 f123:pg.fs 123=some A7
 f124:pg.fs 124=some mJ
 f125:pg.fs 125=some A6
 f126:pg.fs 126=some J6
 f137:pg.fs 137=some J5
 f138:pg.fs 138=some J4
 f140:pg.fs 140=some J3
 f143:pg.fs 143=some A5
 f144:pg.fs 144=some J2
 f145:pg.fs 145=some J1
 f146:pg.fs 146=some J0
 f147:pg.fs 147=some JZ
 f148:pg.fs 148=some JY
 f161:pg.fs 161=some vE
 f162:pg.fs 162=some vD
 f164:pg.fs 164=some A4
 f175:pg.fs 175=some vC
 f177:pg.fs 177=some JX
 f179:pg.fs 179=some JW
 f180:pg.fs 180=some JV
 f181:pg.fs 181=some JU
 f182:pg.fs 182=some JT
 f183:pg.fs 183=some JS
 f184:pg.fs 184=some JR
 f191:pg.fs 191=some sW
 f192:pg.fs 192=some A3
 f193:pg.fs 193=some A2
 f194:pg.fs 194=some sV
 f205:pg.fs 205=some sU
 f206:pg.fs 206=some JQ
 f207:pg.fs 207=some JP
 f208:pg.fs 208=some JO
 f209:pg.fs 209=some JN
 f557:pg.fs 557=some JJ
 f558:pg.fs 558=some AZ
 f570:pg.fs 570=some JI
 f571:pg.fs 571=some JH
 f572:pg.fs 572=some sT
 f573:pg.fs 573=some AR
 f574:pg.fs 574=some AQ
 f592:pg.fs 592=some JG
 f593:pg.fs 593=some sS
 f594:pg.fs 594=some JF
 f595:pg.fs 595=some u9
 f607:pg.fs 607=some pS
section
variable{pg:Pg}
theorem KN(C:CodeNV pg)(p q:aE)(hp:p.ok):Ret pg 118 [p.av,q.av] (.bool (cB p q)):=c118 C.f118 C.f161 C.f15 (c121 C.f121 C.f162 C.f191) p hp q
theorem aGn(C:CodeNV pg)(p:aE)(hp:p.ok)(nl cl:Bool)(vars:List Str)(hb:vars.length+p.sz<=big)(v:Int):Ret pg 123 [p.av,.sl nl (vars.map Str.av) cl,.int .i64 v] (.bool (gM p vars v)):=by
 have h77:∀s:Str,Ret pg 77 [.str s.bs] (.bool (gX s.bs)):=λs=>c77 C.f77 C.f114 C.f115 s.bs s.ok;have h54:∀l:Lin,Ret pg 54 [l.av] (.bool (e9 l)):=c54 C.f54 h77 C.f90;have h121:=c121 C.f121 C.f162 C.f191;have h118:=c118 C.f118 C.f161 C.f15 h121;have h125:=c125 C.f125;have h87:∀(nl cl:Bool)(fn:List aI),fn.length<=big->∀n:Int,Ret pg 87 [.sl nl (fn.map aI.av) cl,.int .i64 n] (.bool (cN fn n)):=λnl cl fn hb n=>c87 C.f87 C.f124 h125 nl cl fn hb n;have h192:=c192 C.f192 h125;have h193:∀(nl cl:Bool)(ls:List Lin),ls.length<=big->∀(nl' cl':Bool)(vars:List Str),vars.length<=big->Ret pg 193 [.sl nl (ls.map Lin.av) cl,.sl nl' (vars.map Str.av) cl'] (.bool (bM ls vars)):=
  λnl cl ls hb nl' cl' vars hb'=>c193 C.f193 h54 C.f194 nl cl ls hb nl' cl' vars hb'
 exact c123 C.f123 C.f40 (c164 C.f164 h192 h118 h193 C.f124 h77 C.f194 h87) p hp nl cl vars hb v
theorem aGl(C:CodeNV pg)(n:aV)(nl cl:Bool)(vars:List Str)(hn:tA n vars)(values:Int):Ret pg 558 [n.av,.sl nl (vars.map Str.av) cl,.int .i64 values] (.bool (jY n vars values)):=by have h77:∀s:Str,Ret pg 77 [.str s.bs] (.bool (gX s.bs)):=λs=>c77 C.f77 C.f114 C.f115 s.bs s.ok;have h54:∀l:Lin,Ret pg 54 [l.av] (.bool (e9 l)):=c54 C.f54 h77 C.f90;exact c558 C.f558 h77 C.f572 (λl nl cl vars hb=>c573 C.f573 h54 C.f595 C.f572 l nl cl vars hb) (aGn C) (c574 C.f574 (KN C)) n nl cl vars hn.sz' values
theorem aGm(C:CodeNV pg)(p:aE)(hp:p.ok):Ret pg 25 [p.av] (.bool (D6 p)):=c25 C.f25 C.f40 C.f41 C.f42 C.f56 C.f26 p hp
end
end
section
section
variable{pg:Pg}
theorem c583(hf:pg.fs 583=some AP)(h162:∀a b:Lin,Ret pg 162 [a.av,b.av] (.bool (bQ a b)))(nl cl nl' cl':Bool)(a b:List Lin)(hb:a.length<=big):Ret pg 583 [.sl nl (a.map Lin.av) cl,.sl nl' (b.map Lin.av) cl'] (.bool (eqL bQ a b)):=by
 refine Ret.ofX hf ?_;unfold AP;cases b2:decide ((a.length:Int)=(b.length:Int))
 case false=>simp only[b2,go_sem,seval];rw[sI b2]
 case true=>
 have hl:a.length=b.length:=by have:=aU b2;omega
 simp only[b2,go_sem,seval];refine aX a (λd r env hp=>env=xW (.sl nl (a.map Lin.av) cl) (.sl nl' (b.map Lin.av) cl') (.int .i64 d.length)/\eqL bQ a b=eqL bQ r (b.drop d.length)) ?_ ?_ ?_;exact⟨rfl,rfl⟩;rintro env hp ⟨rfl,hI⟩;simp only[xV,xW,bA,go_sem,seval];rw[hI,iK hl];rintro d x r env hp hes ⟨rfl,hI⟩;obtain⟨hget,e1,e2,ew⟩:=cG hes hb;obtain⟨y,gy,f1,f2,hq⟩:=uG (q:=bQ) hes hl;rw[hq]at hI;simp only[xV,xW,e1,e2,hget,gy,f1,f2,go_sem,seval];refine aG (h162 x y) ?_;cases hxy:bQ x y;refine Wk ?_;exact⟨by kernel_rfl,by rw[hI,hxy];rfl⟩;simp only[ew,go_sem,seval];exact⟨by kernel_rfl,rfl,by rw[hI,hxy,Bool.true_and]⟩
end
end
section
section
variable{pg:Pg}
theorem L5(x y:Lin):eqL bQ [x] [y]=bQ x y:=by simp[eqL]
set_option maxHeartbeats 4000000 in
theorem c562(hf:pg.fs 562=some AX)(h583:∀(nl cl nl' cl':Bool) (a b:List Lin),a.length<=big->Ret pg 583 [.sl nl (a.map Lin.av) cl,.sl nl' (b.map Lin.av) cl'] (.bool (eqL bQ a b)))
  (h118:∀p q:aE,p.ok->Ret pg 118 [p.av,q.av] (.bool (cB p q))) (a b:aV) (hbo:a.body.ok) (hio:a.index.ok):Ret pg 562 [a.av,b.av] (.bool (fA a b)):=by
 have a1:=h583 a.at_.nl a.at_.cl b.at_.nl b.at_.cl a.at_.es b.at_.es a.at_.ok;have a2:=h118 a.index b.index hio;have a3:=h118 a.body b.body hbo;simp only[aE.avc]at a2 a3;have lb:=a.loops.ok;refine Ret.ofX hf ?_;unfold AX;cases b1:decide ((a.loops.es.length:Int)=(b.loops.es.length:Int))
 case false=>simp only[b1,go_sem,seval];simp[fA,b1]
 have hl:a.loops.es.length=b.loops.es.length:=by have:=aU b1;omega
 cases b2:decide (a.value=b.value)
 case false=>simp only[b1,b2,go_sem,seval];simp[fA,b1,b2]
 cases b3:(a.dyn==b.dyn)
 case false=>simp only[b1,b2,b3,go_sem,seval];simp[fA,b1,b2,b3]
 cases b4:decide (a.check=b.check)
 case false=>simp only[b1,b2,b3,b4,go_sem,seval];simp[fA,b1,b2,b3,b4]
 simp only[b1,b2,b3,b4,go_sem,seval];refine aG a1 ?_;cases b5:eqL bQ a.at_.es b.at_.es
 case false=>refine Wk ?_;simp[fA,b1,b2,b3,b4,b5]
 refine Wk ?_;refine aG a2 ?_;cases b6:cB a.index b.index
 case false=>refine Wk ?_;simp[fA,b1,b2,b3,b4,b5,b6]
 refine Wk ?_;refine aG a3 ?_;cases b7:cB a.body b.body
 case false=>refine Wk ?_;simp[fA,b1,b2,b3,b4,b5,b6,b7]
 refine Wk ?_;have hspec:fA a b=eqL hU a.loops.es b.loops.es:=by simp[fA,b1,b2,b3,b4,b5,b6,b7]
 rw[hspec];clear a1 a2 a3 hspec b1 b2 b3 b4 b5 b6 b7;refine aX a.loops.es (λd r env hp=>env=x5 (.pt 1 0 0) (.pt 5 0 0) (.int .i64 d.length)/\hp.get 1=some (0,.blk a.cells 23 true true false)/\hp.get 5=some (0,.blk b.cells 23 true true false)/\eqL hU a.loops.es b.loops.es=eqL hU r (b.loops.es.drop d.length)) ?_ ?_ ?_;exact⟨rfl,rfl,rfl,rfl⟩;rintro env hp ⟨rfl,h1,h5,hI⟩;simp only[aV.cells,aE.cells,Sl.av,aE.kav,List.cons_append,List.nil_append]at h1 h5;simp only[x4,x5,bA,h1,h5,go_sem,seval];rw[hI,iK hl];rintro d x r env hp hes ⟨rfl,h1,h5,hI⟩;have h10:=h1;have h50:=h5;simp only[aV.cells,aE.cells,Sl.av,aE.kav,List.cons_append,List.nil_append]at h1 h5;obtain⟨hget,e1,e2,ew⟩:=cG hes lb;obtain⟨y,gy,f1,f2,hq⟩:=uG (q:=hU) hes hl;rw[hq]at hI;have a1:=h583 false true false true [x.lo] [y.lo] (by simp[big]);have a2:=h583 x.hi.nl x.hi.cl y.hi.nl y.hi.cl x.hi.es y.hi.es x.hi.ok;rw[L5]at a1;simp only[List.map_cons,List.map_nil,Lin.avc]at a1;simp only[x4,x5,e1,e2,hget,gy,f1,f2,h1,h5,go_sem,seval];refine⟨by kernel_rfl,?_⟩;cases b1:decide (x.v.bs=y.v.bs)
 case false=>simp only[b1,go_sem,seval];rw[hI];simp[hU,b1]
 cases b2:decide (x.step=y.step)
 case false=>simp only[b1,b2,go_sem,seval];rw[hI];simp[hU,b1,b2]
 simp only[b1,b2,go_sem,seval];refine aG (a1) ?_;cases b3:bQ x.lo y.lo;refine Wk ?_;rw[hI];simp[hU,b1,b2,b3];simp only[h1,h5,e1,e2,hget,gy,f1,f2,go_sem,seval];refine aG (a2) ?_;cases b4:eqL bQ x.hi.es y.hi.es;refine Wk ?_;rw[hI];simp[hU,b1,b2,b3,b4];simp only[ew,go_sem,seval];exact⟨rfl,by first|exact h10|rfl,by first|exact h50|rfl,by rw[hI];simp[hU,b1,b2,b3,b4]⟩
end
end
section
theorem uA:∀(n:Nat)(o:List Int),o.length<=n->(∀k:Nat,k<n->(k:Int)∈o)->o.Nodup
 |0,o,h,_=>by have:o=[]:=eD (by omega);subst this;exact List.nodup_nil
 |n+1,o,h,hm=>by
  obtain⟨a,b,rfl⟩:=List.append_of_mem (hm n (by omega));have hl:(a++b).length<=n:=by simp at h ⊢;omega
  have hm':∀k:Nat,k<n->(k:Int)∈a++b:=λk hk=>by have:=hm k (by omega);simp only[kI,List.mem_cons]at this ⊢;rcases this with q|q|q;exact .inl q;omega;exact .inr q
  have h1:=uA n (a++b) hl hm';have h2:=(oK n (a++b) hl hm').2;have h3:(n:Int) ∉ a++b:=λq=>by have:=h2 _ q;omega
  rw[List.nodup_append]at h1 ⊢;simp only[kI,not_or]at h3;refine⟨h1.1,List.nodup_cons.2 ⟨h3.2,h1.2.1⟩,?_⟩;intro x hx y hy;rcases List.mem_cons.1 hy with rfl|hy;exact λq=>h3.1 (q ▸ hx);exact h1.2.2 x hx y hy
theorem LC{o:List Int}{n i j:Nat}{x:Int}(h:eH o n=true)(hi:o[i]?=some x)(hj:o[j]?=some x):i=j:=by simp only[eH,aF,eK,cX,List.mem_range,List.contains_iff_mem]at h;have hn:=uA n o (by omega) h.2;have hil:=(bK.1 hi).1;exact(List.getElem?_inj hil hn).1 (hi.trans hj.symm)
theorem nF(n:aV)(s t:Sl Loop)(h:s.es=t.es):fA {n with loops:=s} {n with loops:=t}=true:=by simp[fA,h,cD d6,lK,cD pL]
theorem zZ:∀(ls:List Loop)(all:List Str),cT ls all=true->∀x∈ls,x.hi.es≠[]/\x.hi.es.length<big
 |[],_,_,x,hx=>by simp at hx
 |y::r,all,h,x,hx=>by simp only[cT,aF]at h;rcases List.mem_cons.1 hx with rfl|hx;have h1:=h.1;simp only[eQ,aF,fU,BM]at h1;obtain⟨⟨_,⟨⟨h2,h3⟩,_⟩,_⟩,_⟩:=h1;refine⟨λq=>?_,by simp only[big];omega⟩;rw[q]at h2;simp at h2;exact zZ r _ h.2 x hx
section
variable{pg:Pg}
set_option maxHeartbeats 4000000 in
theorem c740(hf:pg.fs 740=some AO)(h743:Ret pg 743 [] (.bool true))(n:aV)(hbo:n.body.ok)(hio:n.index.ok)(hwf:∀x∈n.loops.es,wfL x)(vars:Sl Str)(o:Sl Int)
  (h556:cW pg 556 [n.av] IsB) (h558:Ret pg 558 [n.av,.sl vars.nl (vars.es.map Str.av) vars.cl,.int .i64 1000] (.bool (jY n vars.es 1000)))
  (h744:∀m:aV,(∀x∈m.loops.es,wfL x/\x.hi.es≠[]/\x.hi.es.length<big)->∀(nl cl:Bool)(o:List Int),o.length<=big->cW pg 744 [m.av,.sl nl (o.map bE) cl] (gR m o))
  (h745:(∀x∈n.loops.es,mZ x=true)->cW pg 745 [n.av,.sl o.nl (o.es.map bE) o.cl] (gR n o.es))
  (h562:∀a b:aV,a.body.ok->a.index.ok->Ret pg 562 [a.av,b.av] (.bool (fA a b))) :
  Ret pg 740 [n.av,.sl vars.nl (vars.es.map Str.av) vars.cl,.sl o.nl (o.es.map bE) o.cl] (.bool true):=by
 have hob:=o.ok;obtain⟨r1,a1,b1,rfl⟩:=h556;have h558':=h558;rw[aV.avc]at a1 h558;refine Ret.ofX hf ?_;unfold AO;refine Wk ?_;refine eI h743 rfl rfl (Wk ?_);refine aG a1 ?_;cases b1
 case false=>simp only[go_sem,seval]
 cases b2:decide (6<(o.es.length:Int))
 case true=>simp only[b2,go_sem,seval]
 simp only[b2,go_sem,seval];refine aG h558 ?_;cases b3:jY n vars.es 1000
 case false=>simp only[go_sem,seval]
 have hlo:cT n.loops.es vars.es=true:=by simp only[jY,aF]at b3;exact b3.1.1.1.1.1.1.1
 have hlin:=rV _ _ hlo;have hall:∀x∈n.loops.es,wfL x/\x.hi.es≠[]/\x.hi.es.length<big:=by intro x hx;obtain⟨p,q⟩:=zZ _ _ hlo x hx;exact⟨hwf x hx,p,q⟩
 obtain⟨r2,a2,s2⟩:=h744 n hall o.nl o.cl o.es hob;obtain⟨r3,a3,s3⟩:=h745 hlin;rw[aV.avc]at a2 a3;unfold gR at s2 s3;by_cases he:dA n o.es=0
 case neg=>rw[if_neg he]at s2 s3;subst s2 s3;have a4:=h562 qL qL yM yM;rw[zE]at a4;have he':decide (dA n o.es=0)=false:=decide_eq_false he;refine Wk ?_;refine eI a2 (by simp only[go_sem,seval]) (by first|rfl|(rw[aV.avc];rfl)|(simp only[aV.avc];rfl)) (Wk ?_);refine eI a3 (by simp only[go_sem,seval]) (by first|rfl|(rw[aV.avc];rfl)|(simp only[aV.avc];rfl)) (Wk ?_);refine aG a4 ?_;simp only[he',go_sem,seval]
 rw[if_pos he]at s2 s3;obtain⟨s,hs,rfl⟩:=s2;obtain⟨s',hs',rfl⟩:=s3;have a4:=h562 {n with loops:=s} {n with loops:=s'} hbo hio;rw[nF n s s' (hs.trans hs'.symm)]at a4;have hord:eH o.es n.loops.es.length=true:=by by_cases h:eH o.es n.loops.es.length=true;exact h;rw[dA,if_neg h]at he;cases he
 have hol:o.es.length=n.loops.es.length:=by simp only[eH,aF,eK]at hord;exact hord.1
 have hin:=qY hord;have hn1:((o.es.length:Int)<=1073741824)=True:=by simp only[big]at hob;exact eq_true (by omega)
 have hfl:(List.replicate o.es.length [AV.int IntKind.i64 0]).flatten=(List.replicate o.es.length (0:Int)).map bE:=by
  rw[List.map_replicate];generalize o.es.length=m
  induction m with
  |zero=>rfl
  |succ m ih=>rw[List.replicate_succ,List.flatten_cons,ih];rfl
 refine Wk ?_;refine eI a2 (by simp only[go_sem,seval]) (by first|rfl|(rw[aV.avc];rfl)|(simp only[aV.avc];rfl)) (Wk ?_);refine eI a3 (by simp only[go_sem,seval]) (by first|rfl|(rw[aV.avc];rfl)|(simp only[aV.avc];rfl)) (Wk ?_);refine aG a4 ?_;simp only[hn1,hfl,go_sem,seval];obtain⟨R,hR⟩:∃R,R=List.range o.es.length:=⟨_,rfl⟩
 have hRl:R.length=o.es.length:=by rw[hR,List.length_range]
 refine aX R (λd r env hp=>env=xR (.sl o.nl (o.es.map bE) o.cl) (.pt 1 0 0) (.pt 21 0 0) (.rf 37 0 0 o.es.length o.es.length) (.int .i64 o.es.length) (.int .i64 d.length)/\∃bk:List Int,bk.length=o.es.length /\
  (∀k:Nat,k<d.length->∃j:Nat,j<o.es.length/\o.es[k]?=some (j:Int)/\bk[j]?=some (k:Int))/\hp.get 37=some (0,.blk (bk.map bE) 1 false true false)/\hp.get 1=some (0,.blk n.cells 23 true true false) /\
  hp.get 21=some (0,.blk ({n with loops:=s}:aV).cells 23 true true false)) ?_ ?_ ?_
 exact⟨rfl,List.replicate o.es.length 0,by simp,by intro k hk;simp at hk,rfl,rfl,rfl⟩;rintro env hp ⟨rfl,bk,hbl,hbk,g37,g1,g21⟩;rw[hRl]at hbk;obtain⟨hb2,hback⟩:=DM hord (b:=bk) (by omega) (λk hk=>by obtain⟨j,j1,j2,j3⟩:=hbk k (by omega);exact⟨j,by omega,j2,j3⟩);have hsl:s.es.length=n.loops.es.length:=by rw[hs,(iM hin).1];exact hol
 have hsw:∀y∈s.es,wfL y/\y.hi.es≠[]/\y.hi.es.length<big:=by intro y hy;rw[hs]at hy;obtain⟨k,_,hk⟩:=List.mem_filterMap.1 hy;exact hall y (List.mem_of_getElem? hk)
 obtain⟨r5,a5,s5⟩:=h744 {n with loops:=s} hsw false true bk (by omega);have hi5:dA {n with loops:=s} bk=0:=by
  have hp2:fZ (bZ s.es bk)=true:=by rw[hs,hback];exact rU _ _ hlo
  show (if eH bk s.es.length=true then (if fZ (bZ s.es bk)=true then (0:Int) else 10) else 1)=0;rw[hsl,if_pos hb2,if_pos hp2]
 unfold gR at s5;rw[if_pos hi5]at s5;obtain⟨s2,hs2,rfl⟩:=s5;have a6:=h562 {n with loops:=s2} n hbo hio;have hq:fA {n with loops:=s2} n=true:=nF n s2 n.loops (by rw[hs2];show bZ s.es bk=_;rw[hs,hback]);rw[hq]at a6;have ht:treeL (bk.map bE)=true:=bL (f:=bE) (λ_=>rfl) bk;have hch:jC 1 false o.es.length ((bk.map bE).drop 0)=some (bk.map bE):=by obtain⟨cs,c1,_,_,c4⟩:=cE (El.ints bk);rw[nA]at c1;cases c1;have:=c4 [];rw[List.append_nil,cY,hbl]at this;exact this
 have hsn:Tev.snap 64 hp (.rf 37 0 0 o.es.length o.es.length)=some (.sl false (bk.map bE) true,[37]):=by have hm:=fR 62 hp ht;rw[Tev.snap,if_neg (by simp[AV.tree])];simp only[g37,hch,hm,if_true,Option.map_some,beq_self_eq_true,Bool.and_self]
 rw[aV.cellsE]at g1 g21;rw[aV.avc]at a5;rw[aV.avc,aV.avc]at a6;simp only[xQ,xR,hRl,bA,g21,go_sem,seval];refine cV a5 (keys:=[37]++[]) (by simp only[depth];exact lL (by simp only[go_sem,seval]) hsn) (v:=.tup [({n with loops:=s2}:aV).av,.int .i64 0]) (pa:=[]) rfl ?_;have hfz:(Eff.app hp (Eff.pat [41,37] (bC hp [37]))).get 1=hp.get 1:=by refine iW _ _ (λhm=>?_);obtain⟨z,hz,hz1⟩:=List.mem_map.1 hm;have:=kQ [37] hp z hz;rw[hz1]at this;simp at this
 have q1:=hfz.trans g1;cases hflat:(AV.tup [({n with loops:=s2}:aV).av,AV.int .i64 0]).flat;simp only[hflat,q1,go_sem,seval];refine aG a6 ?_;simp only[go_sem,seval];simp only[hflat,g1,go_sem,seval];refine aG a6 ?_;simp only[go_sem,seval];rintro d x r env hp hes ⟨rfl,bk,hbl,hbk,g37,g1,g21⟩;have hes':=hes;rw[hR]at hes';obtain⟨rfl,hlt⟩:=oI hes';obtain⟨_,e1,e2,ew⟩:=cG hes (by rw[hRl];exact hob);rw[hRl]at e1 e2;obtain⟨x,hx⟩:∃x,o.es[d.length]?=some x:=⟨_,bX hlt⟩
 obtain⟨x0,x1⟩:=hin x (List.mem_of_getElem? hx);have hx0:(0<=x)=True:=eq_true x0;have hx1:(x<(o.es.length:Int))=True:=eq_true (by omega);have hgi:(o.es.map bE)[d.length]?=some (.int .i64 x):=by rw[List.getElem?_map,hx];rfl
 have hst:(0+x.toNat*1+1<=bk.length)=True:=eq_true (by omega);have hset:List.take (0+x.toNat*1) (bk.map bE)++[AV.int .i64 (d.length:Int)]++List.drop (0+x.toNat*1+1) (bk.map bE)=(bk.set x.toNat (d.length:Int)).map bE:=by rw[Nat.mul_one,Nat.zero_add,K8 _ (by rw[cY];omega),List.map_set];rfl
 simp only[xQ,xR,e1,e2,hgi,hx0,hx1,g37,hst,hset,ew,go_sem,seval];refine⟨rfl,bk.set x.toNat (d.length:Int),by rw[List.length_set];exact hbl,?_,rfl,g1,g21⟩;intro k hk;have hxx:((x.toNat:Nat):Int)=x:=Int.toNat_of_nonneg x0;by_cases hkd:k=d.length;subst hkd;exact⟨x.toNat,by omega,by rw[hx,hxx],by rw[List.getElem?_set_self (by omega)]⟩;obtain⟨j,j1,j2,j3⟩:=hbk k (by simp at hk;omega);refine⟨j,j1,j2,?_⟩;rw[List.getElem?_set_ne,j3];intro q;rw[<-q,hxx]at j2;exact hkd (LC hord j2 hx)
end
end
end Go.Tev
