import Derived.Test.YtdegpppbhhjlhaaGreatDoorCAI
import Derived.Test.YtdegpppbhhjlhaaGreatDoorCAM
import Derived.Test.YtdegpppbhhjlhaaGreatDoorCBC
import Derived.Test.YtdegpppbhhjlhaaGreatDoorCAS
import Derived.Test.YtdegpppbhhjlhaaGreatDoorCAW
import Derived.Lib.LaidTab
import Derived.Test.YtdegpppbhhjlhaaGreatDoorRows
import Derived.Test.YtdegpppbhhjlhaaGreatDoorCAP
set_option linter.all false
namespace Go.Tev
section
section
variable{pg:Pg}
end
end
section
section
variable{pg:Pg}
end
end
section
structure Arr where
 elem:Str
 dims:Sl Int
 data:Sl Int
def Arr.av(a:Arr):AV:=.agg [.str a.elem.bs,.sl a.dims.nl (a.dims.es.map aH) a.dims.cl,.sl a.data.nl (a.data.es.map aH) a.data.cl]
theorem Arr.avc(x:Arr):Arr.av x = .agg [.str x.elem.bs,.sl x.dims.nl (x.dims.es.map aH) x.dims.cl,.sl x.data.nl (x.data.es.map aH) x.data.cl]:=rfl
theorem Arr.cells_av(x:Arr):(Arr.av x).cells=[.str x.elem.bs,.sl x.dims.nl (x.dims.es.map aH) x.dims.cl,.sl x.data.nl (x.data.es.map aH) x.data.cl]:=rfl
theorem Arr.isAgg_av(x:Arr):(Arr.av x).isAgg=true:=rfl
theorem Arr.fits_av(x:Arr):(Arr.av x).fits 3 true=true:=rfl
theorem Arr.tree_av(x:Arr):(Arr.av x).tree=true:=by rw[Arr.avc];simp[go_sem]
theorem Arr.treeL_av(l:List Arr):Tev.treeL (l.map Arr.av)=true:=bQ Arr.tree_av l
theorem Arr.fld_av(off sz:Nat)(ag:Bool)(x:Arr):fU off sz ag [Arr.av x]=fU off sz ag [.agg [.str x.elem.bs,.sl x.dims.nl (x.dims.es.map aH) x.dims.cl,.sl x.data.nl (x.data.es.map aH) x.data.cl]]:=by rw[Arr.avc]
theorem Arr.fad_av(off sz:Nat)(ag:Bool)(x:Arr):fV off sz ag [.fp (Arr.av x)]=fV off sz ag [.fp (.agg [.str x.elem.bs,.sl x.dims.nl (x.dims.es.map aH) x.dims.cl,.sl x.data.nl (x.data.es.map aH) x.data.cl])]:=by rw[Arr.avc]
theorem Arr.box_av(h:Hp)(k:Nat)(x:Arr):fW h k [Arr.av x]=fW h k [.agg [.str x.elem.bs,.sl x.dims.nl (x.dims.es.map aH) x.dims.cl,.sl x.data.nl (x.data.es.map aH) x.data.cl]]:=by rw[Arr.avc]
attribute [go_sem high] Arr.cells_av Arr.isAgg_av Arr.fits_av Arr.tree_av Arr.treeL_av
attribute [go_sem ↓ high] Arr.fld_av Arr.fad_av Arr.box_av
def uG(d:Int):Bool := !decide (d<0) && !decide (4096<d)
def oC:Int->List Int->Option Int
 |n,[]=>some n
 |n,d::r=>if 4096<wr .i64 (n*d) then none else oC (wr .i64 (n*d)) r
def eS(ds:List Int):Int×Int:=
 if 6<(ds.length:Int) then (0,13) else if ds.all uG=false then (0,2) else if ds.any (λd=>decide (d=0)) then (0,0) else match oC 1 ds with|none=>(0,3)|some n=>(n,0)
def oO(ds:List Int):AV:=.tup [.int .i64 (eS ds).1,.int .i64 (eS ds).2]
def sB(t:List UInt8)(x:Int):Bool:=if t=[105,110,116] then eP x else kO x
def mZ(a:Arr):Bool:=(decide (a.elem.bs=[105,110,116])||decide (a.elem.bs=[98,111,111,108]))&&(decide ((eS a.dims.es).2=0)&&(decide ((a.data.es.length:Int)=(eS a.dims.es).1)&&a.data.es.all (sB a.elem.bs)))
def qB:Int->List Int->List Int->Option Int
 |n,[],_=>some n
 |_,_::_,[]=>none
 |n,d::r,x::s=>if x<0\/d<=x then none else qB (wr .i64 (wr .i64 (n*d)+x)) r s
def lO(ds ix:List Int):Int×Int:=
 if (eS ds).2≠0 then (0,(eS ds).2) else if (ix.length:Int)≠ds.length then (0,13) else match qB 0 ds ix with|none=>(0,2)|some n=>(n,0)
section
variable{pg:Pg}
set_option maxRecDepth 100000 in
theorem c587(hf:pg.fs 587=some xD)(nl cl:Bool)(ds:List Int)(hb:ds.length<=big):Ret pg 587 [.sl nl (ds.map aH) cl] (oO ds):=by
 refine Ret.ofX hf ?_;unfold xD;simp only[go_sem,seval];cases b0:decide (6<(ds.length:Int))
 case true=>have n0:=aF b0;have hs:eS ds=(0,13):=if_pos n0;simp only[b0,oO,hs,go_sem,seval]
 have n0:=aP b0;simp only[b0,go_sem,seval];refine aN ds (λd r env hp=>env=yI (.sl nl (ds.map aH) cl) (.bool (d.any λd=>decide (d=0))) (.int .i64 d.length)/\ds.all uG=r.all uG) ?_ ?_ ?_;exact⟨rfl,rfl⟩;rintro env hp ⟨rfl,hA⟩;have hA:ds.all uG=true:=hA;cases hz:ds.any λd=>decide (d=0)
 case true=>
  have hs:eS ds=(0,0):=by simp only[eS,if_neg n0,hA,hz,Bool.true_eq_false,if_false,if_true]
  simp only[yH,yI,bH,hz,oO,hs,go_sem,seval]
 have hs:eS ds=match oC 1 ds with|none=>(0,3)|some n=>(n,0):=by simp only[eS,if_neg n0,hA,hz,Bool.true_eq_false,Bool.false_eq_true,if_false]
 simp only[yH,yI,bH,hz,go_sem,seval];refine aN ds (λd r env hp=>∃n,env=GZ (.sl nl (ds.map aH) cl) (.int .i64 n) (.int .i64 d.length)/\oC 1 ds=oC n r) ?_ ?_ ?_;exact⟨1,rfl,rfl⟩;rintro env hp ⟨n,rfl,hI⟩;have hI:oC 1 ds=some n:=hI;rw[hI]at hs;simp only at hs;simp only[GY,GZ,bH,oO,hs,go_sem,seval];rintro d x r env hp hes ⟨n,rfl,hI⟩;obtain⟨hget,e1,e2,ew⟩:=cY hes hb;simp only[GY,GZ,e1,e2,hget,go_sem,seval];cases b1:decide (4096<wr .i64 (n*x));have n1:=aP b1;simp only[ew,go_sem,seval];exact⟨_,rfl,by rw[hI,oC,if_neg n1]⟩;have n1:=aF b1;have:oC 1 ds=none:=by rw[hI,oC,if_pos n1]
 rw[this]at hs;simp only at hs;simp only[oO,hs,go_sem,seval];rintro d x r env hp hes ⟨rfl,hA⟩;obtain⟨hget,e1,e2,ew⟩:=cY hes hb;simp only[yH,yI,e1,e2,hget,go_sem,seval];cases b1:decide (x<0)
 case true=>
  have hs:eS ds=(0,2):=by
   have:ds.all uG=false:=by rw[hA];simp[uG,b1]
   simp only[eS,if_neg n0,this,if_true]
  simp only[b1,oO,hs,go_sem,seval]
 cases b2:decide (4096<x)
 case true=>
  have hs:eS ds=(0,2):=by
   have:ds.all uG=false:=by rw[hA];simp[uG,b2]
   simp only[eS,if_neg n0,this,if_true]
  simp only[b1,b2,e1,e2,hget,oO,hs,go_sem,seval]
 have hA2:ds.all uG=r.all uG:=by rw[hA];simp[uG,b1,b2]
 cases b3:d.any λd=>decide (d=0);cases b4:decide (x=0);have hz:((d++[x]).any λd=>decide (d=0))=false:=by rw[List.any_append,b3];simp only[List.any_cons,b4];rfl
 simp only[b1,b2,b3,b4,e1,e2,hget,ew,hz,go_sem,seval];exact⟨rfl,hA2⟩;have hz:((d++[x]).any λd=>decide (d=0))=true:=by rw[List.any_append,b3];simp only[List.any_cons,b4];rfl
 simp only[b1,b2,b3,b4,e1,e2,hget,ew,hz,go_sem,seval];exact⟨rfl,hA2⟩;have hz:((d++[x]).any λd=>decide (d=0))=true:=by rw[List.any_append,b3];rfl
 simp only[b1,b2,b3,e1,e2,hget,ew,hz,go_sem,seval];exact⟨rfl,hA2⟩
end
end
section
section
variable{H:Type}{enc:TypeId×Value->H}{P:Program}{w:World}{num:Nm}{ρ : Rho}{b:DataW H->Nat}{bs:List (DataW H)->Nat}{tI tS tB tCoef tLin tStep tPull sCoef sLin sStep sPull eF sStr tA sA:TypeId}
theorem XN(B:BR b bs){tV tS tI:TypeId}(uS:P.underlying tS=some .string)(uI:P.underlying tI=some (.int .i64))(cS:P.cellsOf tS=1)(cI:P.cellsOf tI=1)(cV:P.cellsOf tV=2)
  (uV:∃fs,P.underlying tV=some (.struct fs)/\fs.toList.map (λf=>(f.type,f.offset))=[(tS,0),(tI,1)]) (N:Nat) :
  Rd enc P w num ρ b N tV (λx:Val=>[Str.av x.v]++([aH x.n]++[])) (λ_ _=>True):=by
 intro fuel hN cs d ps h hb;obtain⟨fs,hu,hL⟩:=uV;obtain⟨xs,n,hn,hx,hcl,hl,hf⟩:=jZ hu hL h;rw[cV]at hcl;obtain⟨y0,y1,rfl⟩:∃y0 y1,xs=[y0,y1]:=by
  match xs,hl with
  |[y0,y1],_=>exact⟨y0,y1,rfl⟩
 have hx':d = .agg [y0.1,y1.1]:=hx;subst hx';rw[B.agg]at hb ⊢;simp only[B.cons,B.nil]at hb ⊢;have f0:_=some y0:=hf 0 (tS,0) rfl;have f1:_=some y1:=hf 1 (tI,1) rfl;simp only[cI,cS]at f0 f1;obtain⟨a0,p0,g0⟩:=(Rd.str (enc:=enc) (w:=w) (num:=num) (ρ := ρ) (N:=n) B uS) n (Nat.le_refl _) _ y0.1 y0.2 f0 (by omega);obtain⟨a1,p1,g1⟩:=(Rd.int (enc:=enc) (w:=w) (num:=num) (ρ := ρ) (b:=b) (N:=n) uI) n (Nat.le_refl _) _ y1.1 y1.2 f1 (by omega);refine⟨⟨a0,a1⟩,?_,trivial⟩;have q:=(p0.piece (p1.piece (aL.done (by omega))))
 rw[List.drop_zero]at q;exact q
theorem XS(B:BR b bs){tV tS tI sV:TypeId}(uS:P.underlying tS=some .string)(uI:P.underlying tI=some (.int .i64))(cS:P.cellsOf tS=1)(cI:P.cellsOf tI=1)(cV:P.cellsOf tV=2)
  (uV:∃fs,P.underlying tV=some (.struct fs)/\fs.toList.map (λf=>(f.type,f.offset))=[(tS,0),(tI,1)]) (usV:P.underlying sV=some (.slice tV)) (N:Nat) :
  Rd enc P w num ρ b N sV (λs:Sl Val=>[s.av Val.av]) (λs n=>(s.nl=true->s.es=[])/\∃ms:List Nat,aL (λ_ _=>True) s.es ms/\ms.sum+1<=n/\∀m∈ms,1<=m):=
 (Rd.slice B (N:=N) (sz:=2) Val.av usV cV (by decide) (λx=>rfl) (λx=>rfl) (XN B uS uI cS cI cV uV N)).mono (Nat.le_succ N)
def Arr.nlOK(a:Arr):Prop:=(a.dims.nl=true->a.dims.es=[])/\(a.data.nl=true->a.data.es=[])
theorem XQ(B:BR b bs)(T:TyP P tI tS tB tCoef tLin tStep tPull sCoef sLin sStep sPull eF sStr)(hu:∃fs,P.underlying tA=some (.struct fs)/\fs.toList.map (λf=>(f.type,f.offset))=[(tS,0),(eF,1),(eF,2)])(hc:P.cellsOf tA=3)(N:Nat) :
  Rd enc P w num ρ b N tA (λx:Arr=>[Str.av x.elem]++([x.dims.av aH]++([x.data.av aH]++[]))) (λx _=>x.nlOK):=by
 intro fuel hN cs d ps h hb;obtain⟨fs,hu,hL⟩:=hu;obtain⟨xs,n,hn,hx,hcl,hl,hf⟩:=jZ hu hL h;rw[hc]at hcl;obtain⟨y0,y1,y2,rfl⟩:∃y0 y1 y2,xs=[y0,y1,y2]:=by
  match xs,hl with
  |[y0,y1,y2],_=>exact⟨y0,y1,y2,rfl⟩
 have hx':d = .agg [y0.1,y1.1,y2.1]:=hx;subst hx';rw[B.agg]at hb ⊢;simp only[B.cons,B.nil]at hb ⊢;have f0:_=some y0:=hf 0 (tS,0) rfl;have f1:_=some y1:=hf 1 (eF,1) rfl;have f2:_=some y2:=hf 2 (eF,2) rfl;simp only[T.c_tS,T.c_sInt]at f0 f1 f2;obtain⟨a0,p0,g0⟩:=(Rd.str (enc:=enc) (w:=w) (num:=num) (ρ := ρ) (N:=n) B T.uS) n (Nat.le_refl _) _ y0.1 y0.2 f0 (by omega);obtain⟨a1,p1,g1,_⟩:=(E6 (enc:=enc) (w:=w) (num:=num) (ρ := ρ) B T n) n (Nat.le_refl _) _ y1.1 y1.2 f1 (by omega);obtain⟨a2,p2,g2,_⟩:=(E6 (enc:=enc) (w:=w) (num:=num) (ρ := ρ) B T n) n (Nat.le_refl _) _ y2.1 y2.2 f2 (by omega);refine⟨⟨a0,a1,a2⟩,?_,g1,g2⟩;have q:=(p0.piece (p1.piece (p2.piece (aL.done (by omega)))))
 rw[List.drop_zero]at q;exact q
theorem XW(B:BR b bs)(T:TyP P tI tS tB tCoef tLin tStep tPull sCoef sLin sStep sPull eF sStr)(hu:∃fs,P.underlying tA=some (.struct fs)/\fs.toList.map (λf=>(f.type,f.offset))=[(tS,0),(eF,1),(eF,2)])(hc:P.cellsOf tA=3)(hs:P.underlying sA=some (.slice tA))(N:Nat) :
  Rd enc P w num ρ b N sA (λs:Sl Arr=>[s.av Arr.av]) (λs n=>(s.nl=true->s.es=[])/\∃ms:List Nat,aL (λa _=>a.nlOK) s.es ms/\ms.sum+1<=n/\∀m∈ms,1<=m):=
 (Rd.slice B (N:=N) (sz:=3) Arr.av hs hc (by decide) (λx=>rfl) (λx=>rfl) (XQ B T hu hc N)).mono (Nat.le_succ N)
end
end
end Go.Tev
section
set_option maxRecDepth 100000
namespace Go.Proofs
open Go.Tev
theorem tyS:TyP Tryz.prog 3 9 4 123 89 194 26 87 22 23 24 39 43 where
 uI:=Tryz.underlying3
 uS:=Tryz.underlying9
 uB:=Tryz.underlying4
 u_tCoef:=⟨_,Tryz.underlying123,by kernel_rfl⟩
 u_tLin:=⟨_,Tryz.underlying89,by kernel_rfl⟩
 u_tStep:=⟨_,Tryz.underlying194,by kernel_rfl⟩
 u_tPull:=⟨_,Tryz.underlying26,by kernel_rfl⟩
 u_sCoef:=Tryz.underlying87
 u_sLin:=Tryz.underlying22
 u_sStep:=Tryz.underlying23
 u_sPull:=Tryz.underlying24
 u_sInt:=Tryz.underlying39
 u_sStr:=Tryz.underlying43
 c_tI:=by kernel_rfl
 c_tS:=by kernel_rfl
 c_tB:=by kernel_rfl
 c_tCoef:=by kernel_rfl
 c_tLin:=by kernel_rfl
 c_tStep:=by kernel_rfl
 c_tPull:=by kernel_rfl
 c_sCoef:=by kernel_rfl
 c_sLin:=by kernel_rfl
 c_sStep:=by kernel_rfl
 c_sPull:=by kernel_rfl
 c_sInt:=by kernel_rfl
 c_sStr:=by kernel_rfl
theorem FJ{ρ : Rho}{W:World}{g:Nat}{v:AV}{cs:Array Value}{T:TypeId}{fr:Nat×Nat}(ht:v.tree=true)(hg:W.heap[g]?=some (.cells cs T fr))(h:aL (Rv nm ρ W noF) v.cells cs.toList) :
  (v.tree=true/\∃c T fr,W.heap[gnum g]?=some (.cells c T fr)/\c.size=v.cells.length)/\Rv nm ρ W noF (.fp v) (.pointer (some ⟨gnum g,0,none⟩)):=by
 have hl:=h.length;have hsz:cs.size=v.cells.length:=by rw[hl];simp
 refine⟨⟨ht,cs,T,fr,hg,hsz⟩,?_⟩;have hlt:g<W.heap.size:=by by_cases hlt:g<W.heap.size;exact hlt;rw[Array.getElem?_eq_none (Nat.le_of_not_lt hlt)]at hg;cases hg
 have hcell:∀n,n<cs.size->W.cell? ⟨g,0+n,none⟩=some (cs[n]?.getD undef):=by intro n hn;simp only[World.cell?,hg,Option.isSome_none,Bool.false_eq_true,if_false,Nat.zero_add];rw[Array.getElem?_eq_getElem hn];rfl
 refine .fp v g 0 (λn=>cs[n]?.getD undef) (λh=>h) hlt (λn hn=>hcell n (by omega)) ?_;intro j x hx;have hj:j<cs.size:=by rw[hsz];exact(List.getElem?_eq_some_iff.1 hx).1
 have h2:=h.get j x (cs[j]'hj) hx (by rw[Array.getElem?_toList,Array.getElem?_eq_getElem hj]);simpa[Array.getElem?_eq_getElem hj] using h2
theorem u3{P:Program}{W:World}{n:String}{g:Nat}{cs:Array Value}(hg:P.globalNamed n=some g)(h:W.var? P n=some cs):∃T fr,W.heap[g]?=some (.cells cs T fr):=by unfold World.var? at h;rw[hg,Option.bind_some]at h;split at h;rename_i c T fr hh;cases h;exact⟨T,fr,hh⟩;cases h
theorem JD{P:Program}{W:World}{fuel:Nat}{t:TypeId}{cs:List Value}{name:String}{d:DataW Unit}{p:List MemPlace}{ms}(ht:P.underlying t=some (.interface ms))
  (h:DataW.trod (λ_=>()) P W 0 (λ_=>true) false fuel t cs=some (.iface name d,p)):∃u v,cs=[.iface u v]:=by
 cases fuel with
 |zero=>simp[DataW.trod]at h
 |succ fuel=>
  unfold DataW.trod at h;rw[ht]at h;split at h<;>first|(rename_i e;cases e;done)|skip
  all_goals first|(exact⟨_,_,rfl⟩)|(cases h;done)|skip
theorem aJO{W:World}(hL:laidMetH Tryz.prog YtdegpppbhhjlhaaGreatDoor.Rows.costPullUptoRow.laid W):jG nm glS gnum (λ_ _=>none) W noF:=by
 have e:(YtdegpppbhhjlhaaGreatDoor.Rows.costPullUptoRow.laid.filter λx=>x.2.handleName?.isSome)=[]:=by kernel_rfl
 have h:laidMet Tryz.prog YtdegpppbhhjlhaaGreatDoor.Rows.costPullUptoRow.laid W:=by unfold laidMetH at hL;rw[e]at hL;exact hL
 obtain⟨ps,hv,_,_⟩:=h;obtain⟨g1,t1,cs1,f1,p1,q1,hg1,ht1,hv1,hd1,hr1,_⟩:=hv;obtain⟨g2,t2,cs2,f2,p2,q2,hg2,ht2,hv2,hd2,hr2,_⟩:=hr1;obtain⟨g3,t3,cs3,f3,p3,q3,hg3,ht3,hv3,hd3,hr3,_⟩:=hr2;obtain⟨g4,t4,cs4,f4,p4,q4,hg4,ht4,hv4,hd4,hr4,_⟩:=hr3;obtain⟨g5,t5,cs5,f5,p5,q5,hg5,ht5,hv5,hd5,hr5,_⟩:=hr4;obtain⟨g6,t6,cs6,f6,p6,q6,hg6,ht6,hv6,hd6,hr6,_⟩:=hr5;obtain⟨g7,t7,cs7,f7,p7,q7,hg7,ht7,hv7,hd7,hr7,_⟩:=hr6;clear hr7;obtain⟨T3,fr3,hh3⟩:=u3 hg3 hv3;obtain⟨T5,fr5,hh5⟩:=u3 hg5 hv5;obtain⟨T6,fr6,hh6⟩:=u3 hg6 hv6;obtain rfl:2=g3:=Option.some.inj ((show Tryz.prog.globalNamed _=some 2 by kernel_rfl).symm.trans hg3);obtain rfl:1=g5:=Option.some.inj ((show Tryz.prog.globalNamed _=some 1 by kernel_rfl).symm.trans hg5);obtain rfl:0=g6:=Option.some.inj ((show Tryz.prog.globalNamed _=some 0 by kernel_rfl).symm.trans hg6);obtain rfl:387=t3:=Option.some.inj ((show (Tryz.prog.globals[2]?).map (·.type)=some 387 by kernel_rfl).symm.trans ht3);obtain rfl:266=t5:=Option.some.inj ((show (Tryz.prog.globals[1]?).map (·.type)=some 266 by kernel_rfl).symm.trans ht5);obtain rfl:266=t6:=Option.some.inj ((show (Tryz.prog.globals[0]?).map (·.type)=some 266 by kernel_rfl).symm.trans ht6);have hd3':DataW.trod (λ_=>()) Tryz.prog W 0 (λ_=>true) false f3 387 cs3.toList=some (Lib.tabData .u64 Lib.pow10Tab,p3):=hd3;have hcsP:=Lib.cells_of_tab Tryz.underlying387 Tryz.underlying288 (by kernel_rfl) (by kernel_rfl) hd3';obtain⟨uR,vR,hcR⟩:=JD Tryz.underlying266 hd5;obtain⟨uY,vY,hcY⟩:=JD Tryz.underlying266 hd6;intro g v hg;unfold glS at hg;cases h1:g.beq 0 with
 |true=>rw[h1]at hg;simp only[cond_true,Option.some.injEq]at hg;subst hg;obtain rfl:=Nat.eq_of_beq_eq_true h1;exact FJ (by kernel_rfl) hh6 (by rw[hcY];exact .cons (.ifc _ _ _ (.top _)) .nil)
 |false=>
  cases h2:g.beq 1 with
  |true=>rw[h1,h2]at hg;simp only[cond_true,cond_false,Option.some.injEq]at hg;subst hg;obtain rfl:=Nat.eq_of_beq_eq_true h2;exact FJ (by kernel_rfl) hh5 (by rw[hcR];exact .cons (.ifc _ _ _ (.top _)) .nil)
  |false=>
   cases h3:g.beq 2 with
   |true=>
    rw[h1,h2,h3]at hg;simp only[cond_true,cond_false,Option.some.injEq]at hg;subst hg;obtain rfl:=Nat.eq_of_beq_eq_true h3;refine FJ (by kernel_rfl) hh3 ?_;rw[hcsP];refine aL.mk_get (by simp[AV.cells]) ?_;intro i x y hx hy;simp only[AV.cells,List.getElem?_map]at hx hy;cases hz:Lib.pow10Tab[i]? with
    |none=>rw[hz]at hx;cases hx
    |some z=>rw[hz]at hx hy;cases hx;cases hy;exact .int _ _
   |false=>rw[h1,h2,h3]at hg;cases hg
end Go.Proofs
end
namespace Go.Tev
section
def ofE(t:List UInt8)(ds xs:List Int):Int:=
 if (decide (t=[105,110,116])||decide (t=[98,111,111,108]))=false then 12 else if (eS ds).2≠0 then (eS ds).2 else if (xs.length:Int)≠(eS ds).1 then 1 else if xs.all (sB t)=false then 2 else 0
theorem SC(a:Arr):mZ a=decide (ofE a.elem.bs a.dims.es a.data.es=0):=by unfold mZ ofE;cases h1:(decide (a.elem.bs=[105,110,116])||decide (a.elem.bs=[98,111,111,108]));simp;by_cases h2:(eS a.dims.es).2=0;by_cases h3:(a.data.es.length:Int)=(eS a.dims.es).1;cases h4:a.data.es.all (sB a.elem.bs)<;>simp[h2,h3];simp[h2,h3];simp[h2]
def OfR(e:Int)(r:AV):Prop:=∃(s:List UInt8)(n1:Bool)(l1:List Int)(k1 n2:Bool)(l2:List Int)(k2:Bool),r = .tup [.agg [.str s,.sl n1 (l1.map aH) k1,.sl n2 (l2.map aH) k2],.int .i64 e]
section
variable{pg:Pg}
theorem c605(hf:pg.fs 605=some A9)(nl cl:Bool)(es:List Int)(hb:es.length<=big):cA pg 605 [.sl nl (es.map aH) cl] (pP 1 false (es.map aH)):=by refine cA.ofX hf ?_;unfold A9;simp only[go_sem,seval];refine m8 (kb:=0) (s:=1) (bytes:=8) (es:=[]) (xs:=es.map aH) (Own.nil _ _ _ _ _ _ rfl) (by simp) (El.ints _) ?_ (by decide) ?_;simp only[List.length_nil,bU,big]at *;omega;intro v' rd pa ho hk hpa;simp only[go_sem,seval];exact ho.conv (by simpa using El.ints es)
theorem aKP(h124:pg.fs 124=some mY)(t:List UInt8)(ht:t=[105,110,116]\/t=[98,111,111,108])(x:Int):Ret pg 124 [.str t,.int .i64 x] (.bool (sB t x)):=by rcases ht with rfl|rfl;exact LE h124 x;exact WB h124 x
set_option maxRecDepth 100000 in
theorem c588(hf:pg.fs 588=some DV)(h587:pg.fs 587=some xD)(h124:pg.fs 124=some mY)(h605:pg.fs 605=some A9)(t:List UInt8)(nl cl:Bool)(ds:List Int)(hb:ds.length<=big)(nl' cl':Bool)(xs:List Int)(hx:xs.length<=big) :
  cA pg 588 [.str t,.sl nl (ds.map aH) cl,.sl nl' (xs.map aH) cl'] (OfR (ofE t ds xs)):=by
 refine cA.ofX hf ?_;unfold DV;have ht2:decide (t=[105,110,116])=false->decide (t=[98,111,111,108])=false->ofE t ds xs=12:=by intro a b;simp[ofE,a,b]
 have ht1:(t=[105,110,116]\/t=[98,111,111,108])->ofE t ds xs=if (eS ds).2≠0 then (eS ds).2 else if (xs.length:Int)≠(eS ds).1 then 1 else if xs.all (sB t)=false then 2 else 0:=by intro h;rw[ofE,if_neg];rcases h with h|h<;>simp[h]
 cases a1:decide (t=[105,110,116])
 case' false=>
  cases a2:decide (t=[98,111,111,108])
  case false=>simp only[a1,a2,go_sem,seval];exact⟨[],true,[],true,true,[],true,by rw[ht2 a1 a2];rfl⟩
  have hel:t=[105,110,116]\/t=[98,111,111,108]:=.inr (aF a2);simp only[a1,a2,go_sem,seval]
 case' true=>have hel:t=[105,110,116]\/t=[98,111,111,108]:=.inl (aF a1);simp only[a1,go_sem,seval]
 all_goals
  have ht:=ht1 hel;refine aC (c587 h587 nl cl ds hb) ?_;simp only[oO,go_sem,seval];cases b1:decide ((eS ds).2=0)
  case false=>simp only[b1,go_sem,seval];rw[if_pos (aP b1)]at ht;exact⟨[],true,[],true,true,[],true,by rw[ht];rfl⟩
  rw[if_neg (by simpa using b1)]at ht;simp only[b1,go_sem,seval];cases b2:decide ((xs.length:Int)=(eS ds).1)
  case false=>simp only[b2,go_sem,seval];rw[if_pos (aP b2)]at ht;exact⟨[],true,[],true,true,[],true,by rw[ht];rfl⟩
  rw[if_neg (by simpa using b2)]at ht;simp only[b2,go_sem,seval];refine aN xs (λd r env hp=>env=GX (.str t) (.sl nl (ds.map aH) cl) (.sl nl' (xs.map aH) cl') (.pt 1 0 0) (.int .i64 d.length)/\hp.get 1=some (0,Ob.blk [AV.str [],AV.sl true [] true,AV.sl true [] true] 3 true true false)/\xs.all (sB t)=r.all (sB t)) ?_ ?_ ?_;exact⟨rfl,rfl,rfl⟩;rintro env hp ⟨rfl,hg,hA⟩;have hA:xs.all (sB t)=true:=hA;rw[hA,if_neg (by decide)]at ht;simp only[GW,GX,bH,go_sem,seval];refine qQ (c605 h605 nl cl ds hb) (by simp only[go_sem,seval]) ?_;intro n1 k1 _;simp only[go_sem,seval];refine qQ (c605 h605 nl' cl' xs hx) (by simp only[go_sem,seval]) ?_;intro n2 k2 _;simp only[hg,go_sem,seval];exact⟨t,n1,ds,k1,n2,xs,k2,by rw[ht]⟩;rintro d x r env hp hes ⟨rfl,hg,hA⟩;obtain⟨hget,e1,e2,ew⟩:=cY hes hx;simp only[GW,GX,e1,e2,hget,go_sem,seval];refine aC (aKP h124 t hel x) ?_;cases b3:sB t x;simp only[hg,go_sem,seval];have hA':xs.all (sB t)=false:=by rw[hA];simp[b3]
  rw[hA',if_pos rfl]at ht;exact⟨[],true,[],true,true,[],true,by rw[ht];rfl⟩;simp only[ew,go_sem,seval];exact⟨rfl,hg,by rw[hA];simp[b3]⟩
theorem c943(hf:pg.fs 943=some KM)(h588:pg.fs 588=some DV)(h587:pg.fs 587=some xD)(h124:pg.fs 124=some mY)(h605:pg.fs 605=some A9)(a:Arr):Ret pg 943 [a.av] (.bool (mZ a)):=by refine Ret.ofX hf ?_;unfold KM;obtain⟨r,hr,s,n1,l1,k1,n2,l2,k2,rfl⟩:=c588 h588 h587 h124 h605 a.elem.bs a.dims.nl a.dims.cl a.dims.es a.dims.ok a.data.nl a.data.cl a.data.es a.data.ok;simp only[go_sem,seval];refine aC (hr) ?_;simp only[go_sem,seval];rw[SC]
end
end
section
theorem gH{n:Int}(h1 : -9223372036854775808<=n)(h2:n<=9223372036854775807):wr .i64 n=n:=if_pos ⟨h1,h2⟩
theorem TN:∀{ds ix:List Int}{p n k m:Int},ds.all uG=true->0<=n->n<p->p<=4096->oC p ds=some m->qB n ds ix=some k->0<=k/\k<m
 |[],ix,p,n,k,m,hd,h0,h1,hp,hm,hk=>by simp only[oC,aW]at hm;simp only[qB,aW]at hk;omega
 |d::r,[],p,n,k,m,hd,h0,h1,hp,hm,hk=>by simp[qB]at hk
 |d::r,x::s,p,n,k,m,hd,h0,h1,hp,hm,hk=>by
  simp only[List.all_cons,aD,uG,gJ,mE]at hd;obtain⟨⟨d0,d1⟩,hd⟩:=hd;simp only[qB]at hk;split at hk;cases hk;rename_i hx;simp only[oC]at hm;split at hm;cases hm;rename_i hq;have a1:n*d+d<=p*d:=by have:=Int.mul_le_mul_of_nonneg_right (show n+1<=p by omega) (show 0<=d by omega);rw[Int.add_mul,Int.one_mul]at this;exact this
  have a2:p*d<=4096*4096:=Int.mul_le_mul hp (by omega) (by omega) (by omega);have a3:0<=n*d:=Int.mul_nonneg h0 (by omega);have w1:wr .i64 (p*d)=p*d:=gH (by omega) (by omega);have w2:wr .i64 (n*d)=n*d:=gH (by omega) (by omega);have w3:wr .i64 (n*d+x)=n*d+x:=gH (by omega) (by omega);rw[w1]at hm hq;rw[w2,w3]at hk;exact TN hd (by omega) (by omega) (by omega) hm hk
theorem CN:∀{ds ix:List Int}{n k:Int},(ds.any λd=>decide (d=0))=true->qB n ds ix=some k->False
 |[],_,_,_,h,_=>by simp at h
 |d::r,[],n,k,h,hk=>by simp[qB]at hk
 |d::r,x::s,n,k,h,hk=>by simp only[qB]at hk;split at hk;cases hk;rename_i hx;simp only[List.any_cons,Bool.or_eq_true,bC]at h;rcases h with rfl|h;omega;exact CN h hk
theorem X8{ds ix:List Int}(h:(lO ds ix).2=0):0<=(lO ds ix).1/\(lO ds ix).1<(eS ds).1:=by
 unfold lO at h ⊢;by_cases h1:(eS ds).2≠0;rw[if_pos h1]at h;exact absurd h h1;rw[if_neg h1]at h ⊢;by_cases h2:(ix.length:Int)≠ds.length;rw[if_pos h2]at h;cases h;rw[if_neg h2]at h ⊢;cases h3:qB 0 ds ix with
 |none=>rw[h3]at h;cases h
 |some n=>
  simp only;simp only[eS]at h1 ⊢;by_cases c1:6<(ds.length:Int);rw[if_pos c1]at h1;simp at h1;rw[if_neg c1]at h1 ⊢;by_cases c2:ds.all uG=false;rw[if_pos c2]at h1;simp at h1;rw[if_neg c2]at h1 ⊢;by_cases c3:(ds.any λd=>decide (d=0))=true;exact(CN c3 h3).elim;rw[if_neg c3]at h1 ⊢;cases c4:oC 1 ds with
  |none=>rw[c4]at h1;simp at h1
  |some m=>exact TN (by simpa using c2) (by omega) (by omega) (by omega) c4 h3
def atA(a:Arr)(ix:List Int):Int×Int:=
 if mZ a=false then (0,1) else if (lO a.dims.es ix).2≠0 then (0,(lO a.dims.es ix).2) else (a.data.es[(lO a.dims.es ix).1.toNat]?.getD 0,0)
def atV(a:Arr)(ix:List Int):AV:=.tup [.int .i64 (atA a ix).1,.int .i64 (atA a ix).2]
section
variable{pg:Pg}
set_option maxRecDepth 100000 in
theorem c964(hf:pg.fs 964=some KB)(h587:pg.fs 587=some xD)(nl cl:Bool)(ds:List Int)(hb:ds.length<=big)(nl' cl':Bool)(ix:List Int) :
  Ret pg 964 [.sl nl (ds.map aH) cl,.sl nl' (ix.map aH) cl'] (.tup [.int .i64 (lO ds ix).1,.int .i64 (lO ds ix).2]):=by
 refine Ret.ofX hf ?_;unfold KB;simp only[go_sem,seval];refine aC (c587 h587 nl cl ds hb) ?_;simp only[oO,go_sem,seval];cases b1:decide ((eS ds).2=0)
 case false=>have ho:lO ds ix=(0,(eS ds).2):=if_pos (aP b1);simp only[b1,ho,go_sem,seval]
 have n1:=aF b1;simp only[b1,go_sem,seval];cases b2:decide ((ix.length:Int)=(ds.length:Int))
 case false=>
  have ho:lO ds ix=(0,13):=by rw[lO,if_neg (by simpa using n1),if_pos (aP b2)]
  simp only[b2,ho,go_sem,seval]
 have n2:=aF b2;have hl:ds.length=ix.length:=by omega
 have ho:lO ds ix=match qB 0 ds ix with|none=>(0,2)|some n=>(n,0):=by rw[lO,if_neg (by simpa using n1),if_neg (by simpa using n2)]<;>rfl
 simp only[b2,go_sem,seval];refine aN ds (λd r env hp=>∃n,env=GH (.sl nl (ds.map aH) cl) (.sl nl' (ix.map aH) cl') (.int .i64 n) (.int .i64 d.length)/\qB 0 ds ix=qB n r (ix.drop d.length)) ?_ ?_ ?_;exact⟨0,rfl,rfl⟩;rintro env hp ⟨n,rfl,hI⟩;rw[hI]at ho;simp only[qB]at ho;simp only[GG,GH,bH,ho,go_sem,seval]
 ·rintro d x r env hp hes ⟨n,rfl,hI⟩;obtain⟨hget,e1,e2,ew⟩:=cY hes hb;have hd:d.length<ix.length:=by rw[<-hl,hes];simp
  obtain⟨y,gy⟩:∃y,ix[d.length]?=some y:=⟨ix[d.length]'hd,cK hd⟩
  have hdr:ix.drop d.length=y::ix.drop (d++[x]).length:=by rw[nQ hd,(cP.1 gy).2];simp
  rw[hdr,qB]at hI;have f1:((d.length:Int)<(ix.length:Int))=True:=eq_true (by omega);simp only[GG,GH,e1,e2,hget,gy,f1,go_sem,seval];cases b3:decide (y<0)
  case true=>have n3:=aF b3;rw[if_pos (.inl n3)]at hI;rw[hI]at ho;simp only at ho;simp only[b3,e1,e2,hget,gy,f1,go_sem,seval];refine cB ?_;simp only[ho,go_sem,seval]
  have n3:=aP b3;cases b4:decide (x<=y)
  case true=>have n4:=aF b4;rw[if_pos (.inr n4)]at hI;rw[hI]at ho;simp only at ho;simp only[b3,b4,e1,e2,hget,gy,f1,go_sem,seval];refine cB ?_;simp only[ho,go_sem,seval]
  have n4:=aP b4;rw[if_neg (by omega)]at hI
  repeat (first|simp only[b3,b4,e1,e2,hget,gy,f1,ew,go_sem,seval]|refine cB ?_)
  exact⟨_,rfl,hI⟩
theorem c957(hf:pg.fs 957=some KG)(h943:∀a:Arr,Ret pg 943 [a.av] (.bool (mZ a)))(h964:∀nl cl (ds:List Int),ds.length<=big->∀nl' cl' ix,Ret pg 964 [.sl nl (ds.map aH) cl,.sl nl' (ix.map aH) cl'] (.tup [.int .i64 (lO ds ix).1,.int .i64 (lO ds ix).2]))
  (a:Arr) (nl cl:Bool) (ix:List Int):Ret pg 957 [a.av,.sl nl (ix.map aH) cl] (atV a ix):=by
 have h:=h943 a;refine Ret.ofX hf ?_;unfold KG;rw[Arr.avc]at h;simp only[go_sem,seval];refine aC (h) ?_;cases b1:mZ a
 case false=>have:atA a ix=(0,1):=if_pos b1;simp only[atV,this,go_sem,seval]
 simp only[go_sem,seval];refine aC (h964 a.dims.nl a.dims.cl a.dims.es a.dims.ok nl cl ix) ?_;simp only[go_sem,seval];cases b2:decide ((lO a.dims.es ix).2=0)
 case false=>
  have:atA a ix=(0,(lO a.dims.es ix).2):=by rw[atA,if_neg (by simp[b1]),if_pos (aP b2)]
  simp only[b2,atV,this,go_sem,seval]
 have n2:=aF b2;have hat:atA a ix=(a.data.es[(lO a.dims.es ix).1.toNat]?.getD 0,0):=by rw[atA,if_neg (by simp[b1]),if_neg (by simpa using n2)]
 obtain⟨m1,m2⟩:=X8 n2;have hdl:(a.data.es.length:Int)=(eS a.dims.es).1:=by simp only[mZ,aD,bC]at b1;exact b1.2.2.1
 have m3:(lO a.dims.es ix).1.toNat<a.data.es.length:=by omega
 have hg:a.data.es[(lO a.dims.es ix).1.toNat]?=some (a.data.es[(lO a.dims.es ix).1.toNat]'m3):=cK m3;have m1':(0<=(lO a.dims.es ix).1)=True:=eq_true m1;simp only[b2,m1',hg,atV,hat,Option.getD_some,go_sem,seval]
end
end
section
def lU(env:List Val)(s:List UInt8):Option Int:=(env.find? λv=>decide (v.v.bs=s)).map (·.n)
def kN(env:List Val):Prop:=(env.map λv=>v.v.bs).Nodup
def FH(env:List Val):List bE->Int->Option Int
 |[],n=>some n
 |t::r,n=>if 1073741824<(lU env t.v.bs).getD 0\/(lU env t.v.bs).getD 0 < -1073741824 then none else FH env r (wr .i64 (n+wr .i64 (t.c*(lU env t.v.bs).getD 0)))
def nB(env:List Val)(l:Lin):Option Int:=
 match FH env l.ts.es l.c with
 |none=>none
 |some n=>if 1099511627776<n\/n < -1099511627776 then none else some n
def pI(o:Option Int):AV:=match o with|none => .tup [.int .i64 0,.int .i64 3]|some n => .tup [.int .i64 n,.int .i64 0]
theorem OU:∀{env:List Val}(_:kN env){k:Nat}{v:Val},env[k]?=some v->lU env v.v.bs=some v.n
 |[],_,_,_,h=>by simp at h
 |x::r,hd,0,v,h=>by simp only[List.getElem?_cons_zero,aW]at h;subst h;simp[lU]
 |x::r,hd,k+1,v,h=>by simp only[List.getElem?_cons_succ]at h;simp only[kN,List.map_cons,List.nodup_cons]at hd;have hm:v.v.bs∈r.map λv=>v.v.bs:=List.mem_map.2 ⟨v,List.mem_of_getElem? h,rfl⟩;have hne:¬x.v.bs=v.v.bs:=λe=>hd.1 (e ▸ hm);have:=OU hd.2 h;simpa[lU,List.find?_cons,hne] using this
theorem aEW{α : Type}{l d r:List α}{x : α}(h:l.reverse=d++x::r):d.length<l.length/\l[l.length-1-d.length]?=some x:=by
 have hl:l.length=d.length+(r.length+1):=by have:=congrArg List.length h;simpa using this
 refine⟨by omega,?_⟩;have:l=r.reverse++x::d.reverse:=by have:=congrArg List.reverse h;simpa using this
 rw[this];simp
section
variable{pg:Pg}
set_option maxRecDepth 100000 in
theorem c949(hf:pg.fs 949=some KJ)(l:Lin)(nl cl:Bool)(env:List Val)(hb:env.length<=big)(hd:kN env)(hfd:∀t∈l.ts.es,(lU env t.v.bs).isSome=true) :
  Ret pg 949 [l.av,.sl nl (env.map Val.av) cl] (pI (nB env l)):=by
 refine Ret.ofX hf ?_;have hlb:=l.ts.ok;unfold KJ;simp only[go_sem,seval]
 refine aN l.ts.es (λd r e hp=>∃n,e=GR (.sl nl (env.map Val.av) cl) (.pt 1 0 0) (.int .i64 n) (.int .i64 d.length) /\
  hp.get 1=some (0,.blk [.int .i64 l.c,.sl l.ts.nl (l.ts.es.map bE.av) l.ts.cl] 2 true true false)/\FH env l.ts.es l.c=FH env r n) ?_ ?_ ?_
 exact⟨l.c,rfl,rfl,rfl⟩;rintro e hp ⟨n,rfl,hg,hI⟩;have hI:FH env l.ts.es l.c=some n:=hI;have hU:nB env l=if 1099511627776<n\/n < -1099511627776 then none else some n:=by rw[nB,hI]
 simp only[GQ,GR,hg,bH,go_sem,seval];cases b1:decide (1099511627776<n)
 case true=>have n1:=aF b1;rw[if_pos (.inl n1)]at hU;simp only[b1,hU,pI,go_sem,seval]
 have n1:=aP b1;cases b2:decide (n < -1099511627776)
 case true=>have n2:=aF b2;rw[if_pos (.inr n2)]at hU;simp only[b1,b2,hU,pI,go_sem,seval]
 have n2:=aP b2;rw[if_neg (by omega)]at hU;simp only[b1,b2,hU,pI,go_sem,seval]
 ·rintro d t r e hp hes ⟨n,rfl,hg,hI⟩;obtain⟨hget,e1,e2,ew⟩:=cY hes hlb;obtain⟨x,hx⟩:=Option.isSome_iff_exists.1 (hfd t (by rw[hes];simp));rw[FH,hx,Option.getD_some]at hI;have w0:wr .i64 ((env.length:Int)-1)=(env.length:Int)-1:=gH (by omega) (by simp only[big]at hb;omega);simp only[GQ,GR,hg,e1,e2,w0,go_sem,seval]
  refine aN env.reverse (λd2 r2 e hp=>e=rK (.sl nl (env.map Val.av) cl) (.pt 1 0 0) (.int .i64 n) (.int .i64 d.length) (.int .i64 ((env.length:Int)-1-d2.length)) /\
   hp.get 1=some (0,.blk [.int .i64 l.c,.sl l.ts.nl (l.ts.es.map bE.av) l.ts.cl] 2 true true false)/\∀v∈d2,¬v.v.bs=t.v.bs) ?_ ?_ ?_
  refine⟨?_,hg,by simp⟩;simp only[rK,clear,PS,List.length_nil,Int.natCast_zero,Int.sub_zero,go_sem,seval];rintro e hp ⟨rfl,hg,hno⟩;exfalso;simp only[lU,kW]at hx;obtain⟨v,hv,_⟩:=hx;exact hno v (List.mem_reverse.2 (List.mem_of_find?_eq_some hv)) (by simpa using List.find?_some hv)
  ·rintro d2 v r2 e hp hes2 ⟨rfl,hg,hno⟩;obtain⟨g1,g2⟩:=aEW hes2;have i1:(0<=(env.length:Int)-1-(d2.length:Int))=True:=eq_true (by omega);have i1':decide (0<=(env.length:Int)-1-(d2.length:Int))=true:=by simp;omega
   have i2:((env.length:Int)-1-(d2.length:Int)).toNat=env.length-1-d2.length:=by omega
   have i3:wr .i64 ((env.length:Int)-1-(d2.length:Int)-1)=(env.length:Int)-1-((d2++[v]).length:Int):=by rw[gH (by omega) (by simp only[big]at hb;omega)];simp;omega
   cases b0:decide (v.v.bs=t.v.bs)
   case false=>simp only[uL,rK,hg,e1,e2,hget,i1,i1',i2,g2,b0,go_sem,seval];refine cB ?_;refine⟨by rw[i3];rfl,?_⟩;intro w hw;rcases kE.1 hw with hw|hw;exact hno w hw;simp only[List.mem_singleton]at hw;subst hw;exact aP b0
   have hvx:v.n=x:=by have:=OU hd g2;rw[aF b0,hx]at this;exact(Option.some.inj this).symm
   subst hvx;cases b1:decide (1073741824<v.n)
   case true=>
    rw[if_pos (.inl (aF b1))]at hI;have hU:nB env l=none:=by rw[nB,hI]
    simp only[uL,rK,hg,e1,e2,hget,i1,i1',i2,g2,b0,b1,go_sem,seval];refine cB ?_;rw[hU];rfl
   have n1:=aP b1;cases b2:decide (v.n < -1073741824)
   case true=>
    rw[if_pos (.inr (aF b2))]at hI;have hU:nB env l=none:=by rw[nB,hI]
    simp only[uL,rK,hg,e1,e2,hget,i1,i1',i2,g2,b0,b1,b2,go_sem,seval];refine cB ?_;rw[hU];rfl
   have n2:=aP b2;rw[if_neg (by omega)]at hI
   repeat (first|simp only[uL,rK,hg,e1,e2,hget,i1,i1',i2,g2,b0,b1,b2,ew,go_sem,seval]|refine cB ?_)
   exact⟨_,rfl,hI⟩
end
end
section
section
variable{pg:Pg}{kb:Nat}
theorem aHm(s:Nat)(h:Hp)(vs:List AV)(Q:AV->Eff->Prop)(t:Tok Q):XO pg kb .mkm s h vs Q t=XV (PB h (kb+s) vs) Q ⟨⟩:=cQ rfl s h vs Q
theorem aHk(q:Nat)(z:AV)(ok:Bool)(s:Nat)(h:Hp)(vs:List AV)(Q:AV->Eff->Prop)(t:Tok Q):XO pg kb (.mlk q z ok) s h vs Q t=XV (wW h q z ok vs) Q ⟨⟩:=cQ rfl s h vs Q
theorem aHi(q:Nat)(s:Nat)(h:Hp)(vs:List AV)(Q:AV->Eff->Prop)(t:Tok Q):XO pg kb (.mup q) s h vs Q t=XV (O8 h q vs) Q ⟨⟩:=cQ rfl s h vs Q
theorem aBm(q:Nat)(s:Nat)(h:Hp)(vs:List AV)(Q:AV->Eff->Prop)(t:Tok Q):XO pg kb (.mdel q) s h vs Q t=XV (FO h q vs) Q ⟨⟩:=cQ rfl s h vs Q
end
theorem T7(k:IntKind)(n:Int):AV.keyQ 0 (.int k n)=true:=rfl
theorem T4(b:List UInt8):AV.keyQ 1 (.str b)=true:=rfl
theorem Q2(b:Bool):AV.keyQ 2 (.bool b)=true:=rfl
theorem V3(k e:Nat):AV.cells (.mp k e)=[.mp k e]:=rfl
theorem UH(k e:Nat):AV.isAgg (.mp k e)=false:=rfl
attribute [go_sem] aHm aHk aHi aBm PB wW O8 FO T7 T4 Q2 V3 UH
end
section
structure Cn where
 rd:Int
 ops:Int
 wk:Int
 vi:List Int
inductive Rs where
 |ok (n:Int) (c:Cn)
 |er (e:Int)
def kvE(env:List Val):List (AV×AV):=env.map λv=>(.str v.v.bs,.int .i64 v.n)
private theorem eq1s(a b:List UInt8):eq1 (.str a) (.str b)=some (decide (a=b)):=rfl
def aQl(m a:AV)(c:Cn)(vi:AV)(e:Int):Ob:=.blk [m,a,.int .i64 c.rd,.int .i64 0,.int .i64 c.ops,.int .i64 0,vi,.int .i64 c.wk,.int .i64 e] 9 true true false
def aBw(h:Hp)(vi:AV)(es:List Int):Prop:=∃k,Gr h k vi es/\65536<=k/\k % 65536=37/\(es=[]\/∃e,vi = .rf k e 0 es.length es.length)
def Ev(ev em:Nat)(a:AV)(env:List Val)(c:Cn)(e:Int)(h:Hp):Prop:=
 ∃vi bs ck,h.get 17=some (ev,aQl (.mp 13 em) a c vi e)/\h.get 13=some (em,.mpo (kvE env) bs ck)/\aBw h vi c.vi
def EE(h h':Hp)(kb:Nat):Prop:=∀q,q<kb->q≠17->q≠13->q % 65536≠37->h'.get q=h.get q
theorem EE.refl(h:Hp)(kb:Nat):EE h h kb:=λ_ _ _ _ _=>rfl
theorem EE.trans{h h' h'':Hp}{kb kb':Nat}(a:EE h h' kb)(b:EE h' h'' kb')(hk:kb<=kb'):EE h h'' kb:=λq h1 h2 h3 h4=>(b q (by omega) h2 h3 h4).trans (a q h1 h2 h3 h4)
theorem aBw.mono{h h':Hp}{v:AV}{es:List Int}(o:aBw h v es)(hk:∀q,65536<=q->q % 65536=37->h'.get q=h.get q):aBw h' v es:=by obtain⟨k,g,h1,h2⟩:=o;exact⟨k,g.mono (hk k h1 h2.1),h1,h2⟩
theorem Ev.mono{ev em:Nat}{a:AV}{env:List Val}{c:Cn}{e:Int}{h h':Hp}(o:Ev ev em a env c e h)(h1:h'.get 17=h.get 17)(h2:h'.get 13=h.get 13)(hk:∀q,65536<=q->q % 65536=37->h'.get q=h.get q):Ev ev em a env c e h':=by obtain⟨vi,bs,ck,a1,a2,a3⟩:=o;exact⟨vi,bs,ck,h1.trans a1,h2.trans a2,a3.mono hk⟩
section
variable{pg:Pg}
end
end
end Go.Tev
