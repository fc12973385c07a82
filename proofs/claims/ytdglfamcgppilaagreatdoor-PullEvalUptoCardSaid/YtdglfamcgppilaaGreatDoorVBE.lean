import Derived.Test.YtdglfamcgppilaaGreatDoorVAI
import Derived.Test.YtdglfamcgppilaaGreatDoorVAM
import Derived.Test.YtdglfamcgppilaaGreatDoorVBD
import Derived.Test.YtdglfamcgppilaaGreatDoorVAT
import Derived.Test.YtdglfamcgppilaaGreatDoorVAX
import Derived.Test.YtdglfamcgppilaaGreatDoorVAS
import Derived.Lib.LaidTab
import Derived.Test.YtdglfamcgppilaaGreatDoorRows
import Derived.Test.YtdglfamcgppilaaGreatDoorVAP
set_option linter.all false
namespace Go.Tev
section
section
variable{pg:Pg}
end
end
section
section
variable{pg:Pg}
theorem c316(hf:pg.fs 316=some HR)(nl cl:Bool)(es:List Int)(hb:es.length<=big)(v:Int) :
  cB pg 316 [.sl nl (es.map aE) cl,.int .i64 v] (λr=>∃i:Int,r = .int .i64 i/\decide (0<=i)=es.any (λy=>decide (v=y))):=
 L3 (f:=316) (k:=.bin .eql) hf aE (λ_=>rfl) nl cl es hb (.int .i64 v) (λy=>decide (v=y)) (by intro kb s h x Q t;simp only[go_sem,seval])
theorem c293(hf:pg.fs 293=some M0)(h316:pg.fs 316=some HR)(nl cl:Bool)(es:List Int)(hb:es.length<=big)(v:Int) :
  Ret pg 293 [.sl nl (es.map aE) cl,.int .i64 v] (.bool (es.contains v)):=by
 have e:∀l:List Int,l.contains v=l.any λy=>decide (v=y):=by
  intro l
  induction l with
  |nil=>rfl
  |cons x r ih=>simp only[List.contains_cons,List.any_cons];rw[ih];rfl
 rw[e];exact rZ (n:=316) hf (by simp only[go_sem,seval]) (c316 h316 nl cl es hb v)
end
end
section
structure Arr where
 elem:Str
 dims:Sl Int
 data:Sl Int
def Arr.av(a:Arr):AV:=.agg [.str a.elem.bs,.sl a.dims.nl (a.dims.es.map aE) a.dims.cl,.sl a.data.nl (a.data.es.map aE) a.data.cl]
theorem Arr.avc(x:Arr):Arr.av x = .agg [.str x.elem.bs,.sl x.dims.nl (x.dims.es.map aE) x.dims.cl,.sl x.data.nl (x.data.es.map aE) x.data.cl]:=rfl
theorem Arr.cells_av(x:Arr):(Arr.av x).cells=[.str x.elem.bs,.sl x.dims.nl (x.dims.es.map aE) x.dims.cl,.sl x.data.nl (x.data.es.map aE) x.data.cl]:=rfl
theorem Arr.isAgg_av(x:Arr):(Arr.av x).isAgg=true:=rfl
theorem Arr.fits_av(x:Arr):(Arr.av x).fits 3 true=true:=rfl
theorem Arr.tree_av(x:Arr):(Arr.av x).tree=true:=by rw[Arr.avc];simp[go_sem]
theorem Arr.treeL_av(l:List Arr):Tev.treeL (l.map Arr.av)=true:=bG Arr.tree_av l
theorem Arr.fld_av(off sz:Nat)(ag:Bool)(x:Arr):fU off sz ag [Arr.av x]=fU off sz ag [.agg [.str x.elem.bs,.sl x.dims.nl (x.dims.es.map aE) x.dims.cl,.sl x.data.nl (x.data.es.map aE) x.data.cl]]:=by rw[Arr.avc]
theorem Arr.fad_av(off sz:Nat)(ag:Bool)(x:Arr):fV off sz ag [.fp (Arr.av x)]=fV off sz ag [.fp (.agg [.str x.elem.bs,.sl x.dims.nl (x.dims.es.map aE) x.dims.cl,.sl x.data.nl (x.data.es.map aE) x.data.cl])]:=by rw[Arr.avc]
theorem Arr.box_av(h:Hp)(k:Nat)(x:Arr):fW h k [Arr.av x]=fW h k [.agg [.str x.elem.bs,.sl x.dims.nl (x.dims.es.map aE) x.dims.cl,.sl x.data.nl (x.data.es.map aE) x.data.cl]]:=by rw[Arr.avc]
attribute [go_sem high] Arr.cells_av Arr.isAgg_av Arr.fits_av Arr.tree_av Arr.treeL_av
attribute [go_sem ↓ high] Arr.fld_av Arr.fad_av Arr.box_av
def lH(d:Int):Bool := !decide (d<0) && !decide (4096<d)
def jW:Int->List Int->Option Int
 |n,[]=>some n
 |n,d::r=>if 4096<wr .i64 (n*d) then none else jW (wr .i64 (n*d)) r
def bV(ds:List Int):Int×Int:=
 if 6<(ds.length:Int) then (0,13) else if ds.all lH=false then (0,2) else if ds.any (λd=>decide (d=0)) then (0,0) else match jW 1 ds with|none=>(0,3)|some n=>(n,0)
def fQ(ds:List Int):AV:=.tup [.int .i64 (bV ds).1,.int .i64 (bV ds).2]
def kT(t:List UInt8)(x:Int):Bool:=if t=[105,110,116] then bR x else eG x
def gD(a:Arr):Bool:=(decide (a.elem.bs=[105,110,116])||decide (a.elem.bs=[98,111,111,108]))&&(decide ((bV a.dims.es).2=0)&&(decide ((a.data.es.length:Int)=(bV a.dims.es).1)&&a.data.es.all (kT a.elem.bs)))
def mE:Int->List Int->List Int->Option Int
 |n,[],_=>some n
 |_,_::_,[]=>none
 |n,d::r,x::s=>if x<0\/d<=x then none else mE (wr .i64 (wr .i64 (n*d)+x)) r s
def fH(ds ix:List Int):Int×Int:=
 if (bV ds).2≠0 then (0,(bV ds).2) else if (ix.length:Int)≠ds.length then (0,13) else match mE 0 ds ix with|none=>(0,2)|some n=>(n,0)
section
variable{pg:Pg}
set_option maxRecDepth 100000 in
theorem c587(hf:pg.fs 587=some vG)(nl cl:Bool)(ds:List Int)(hb:ds.length<=big):Ret pg 587 [.sl nl (ds.map aE) cl] (fQ ds):=by
 refine Ret.ofX hf ?_;unfold vG;simp only[go_sem,seval];cases b0:decide (6<(ds.length:Int))
 case true=>have n0:=aG b0;have hs:bV ds=(0,13):=if_pos n0;simp only[b0,fQ,hs,go_sem,seval]
 have n0:=aK b0;simp only[b0,go_sem,seval];refine aM ds (λd r env hp=>env=wL (.sl nl (ds.map aE) cl) (.bool (d.any λd=>decide (d=0))) (.int .i64 d.length)/\ds.all lH=r.all lH) ?_ ?_ ?_;exact⟨rfl,rfl⟩;rintro env hp ⟨rfl,hA⟩;have hA:ds.all lH=true:=hA;cases hz:ds.any λd=>decide (d=0)
 case true=>
  have hs:bV ds=(0,0):=by simp only[bV,if_neg n0,hA,hz,Bool.true_eq_false,if_false,if_true]
  simp only[wK,wL,aY,hz,fQ,hs,go_sem,seval]
 have hs:bV ds=match jW 1 ds with|none=>(0,3)|some n=>(n,0):=by simp only[bV,if_neg n0,hA,hz,Bool.true_eq_false,Bool.false_eq_true,if_false]
 simp only[wK,wL,aY,hz,go_sem,seval];refine aM ds (λd r env hp=>∃n,env=EE (.sl nl (ds.map aE) cl) (.int .i64 n) (.int .i64 d.length)/\jW 1 ds=jW n r) ?_ ?_ ?_;exact⟨1,rfl,rfl⟩;rintro env hp ⟨n,rfl,hI⟩;have hI:jW 1 ds=some n:=hI;rw[hI]at hs;simp only at hs;simp only[ED,EE,aY,fQ,hs,go_sem,seval];rintro d x r env hp hes ⟨n,rfl,hI⟩;obtain⟨hget,e1,e2,ew⟩:=cG hes hb;simp only[ED,EE,e1,e2,hget,go_sem,seval];cases b1:decide (4096<wr .i64 (n*x));have n1:=aK b1;simp only[ew,go_sem,seval];exact⟨_,rfl,by rw[hI,jW,if_neg n1]⟩;have n1:=aG b1;have:jW 1 ds=none:=by rw[hI,jW,if_pos n1]
 rw[this]at hs;simp only at hs;simp only[fQ,hs,go_sem,seval];rintro d x r env hp hes ⟨rfl,hA⟩;obtain⟨hget,e1,e2,ew⟩:=cG hes hb;simp only[wK,wL,e1,e2,hget,go_sem,seval];cases b1:decide (x<0)
 case true=>
  have hs:bV ds=(0,2):=by
   have:ds.all lH=false:=by rw[hA];simp[lH,b1]
   simp only[bV,if_neg n0,this,if_true]
  simp only[b1,fQ,hs,go_sem,seval]
 cases b2:decide (4096<x)
 case true=>
  have hs:bV ds=(0,2):=by
   have:ds.all lH=false:=by rw[hA];simp[lH,b2]
   simp only[bV,if_neg n0,this,if_true]
  simp only[b1,b2,e1,e2,hget,fQ,hs,go_sem,seval]
 have hA2:ds.all lH=r.all lH:=by rw[hA];simp[lH,b1,b2]
 cases b3:d.any λd=>decide (d=0);cases b4:decide (x=0);have hz:((d++[x]).any λd=>decide (d=0))=false:=by rw[List.any_append,b3];simp only[List.any_cons,b4];rfl
 simp only[b1,b2,b3,b4,e1,e2,hget,ew,hz,go_sem,seval];exact⟨rfl,hA2⟩;have hz:((d++[x]).any λd=>decide (d=0))=true:=by rw[List.any_append,b3];simp only[List.any_cons,b4];rfl
 simp only[b1,b2,b3,b4,e1,e2,hget,ew,hz,go_sem,seval];exact⟨rfl,hA2⟩;have hz:((d++[x]).any λd=>decide (d=0))=true:=by rw[List.any_append,b3];rfl
 simp only[b1,b2,b3,e1,e2,hget,ew,hz,go_sem,seval];exact⟨rfl,hA2⟩
set_option maxRecDepth 100000 in
theorem c355(hf:pg.fs 355=some HO)(h293:∀nl cl (es:List Int),es.length<=big->∀v,Ret pg 293 [.sl nl (es.map aE) cl,.int .i64 v] (.bool (es.any λx=>decide (v=x))))(nl cl:Bool)(ds:List Int)(hb:ds.length<=big):Ret pg 355 [.sl nl (ds.map aE) cl] (fQ ds):=by
 refine Ret.ofX hf ?_;unfold HO;simp only[go_sem,seval];cases b0:decide (6<(ds.length:Int))
 case true=>have n0:=aG b0;have hs:bV ds=(0,13):=if_pos n0;simp only[b0,fQ,hs,go_sem,seval]
 have n0:=aK b0;simp only[b0,go_sem,seval];refine aM ds (λd r env hp=>env=EP (.sl nl (ds.map aE) cl) (.sl nl (ds.map aE) cl) (.int .i64 ds.length) (.int .i64 d.length)/\ds.all lH=r.all lH) ?_ ?_ ?_;exact⟨rfl,rfl⟩;rintro env hp ⟨rfl,hA⟩;have hA:ds.all lH=true:=hA
 have hz0:(ds.any λx=>decide (0=x))=ds.any λd=>decide (d=0):=by congr 1;funext x;simp[eq_comm]
 simp only[EN,EP,aY,go_sem,seval];refine aC (h293 nl cl ds hb 0) ?_;rw[hz0];cases hz:ds.any λd=>decide (d=0)
 case true=>
  have hs:bV ds=(0,0):=by simp only[bV,if_neg n0,hA,hz,Bool.true_eq_false,if_false,if_true]
  simp only[fQ,hs,go_sem,seval]
 have hs:bV ds=match jW 1 ds with|none=>(0,3)|some n=>(n,0):=by simp only[bV,if_neg n0,hA,hz,Bool.true_eq_false,Bool.false_eq_true,if_false]
 simp only[go_sem,seval];refine aM ds (λd r env hp=>∃n,env=EO (.int .i64 n) (.sl nl (ds.map aE) cl) (.int .i64 ds.length) (.int .i64 d.length)/\jW 1 ds=jW n r) ?_ ?_ ?_;exact⟨1,rfl,rfl⟩;rintro env hp ⟨n,rfl,hI⟩;have hI:jW 1 ds=some n:=hI;rw[hI]at hs;simp only at hs;simp only[EM,EO,aY,fQ,hs,go_sem,seval];rintro d x r env hp hes ⟨n,rfl,hI⟩;obtain⟨hget,e1,e2,ew⟩:=cG hes hb;simp only[EM,EO,e1,e2,hget,go_sem,seval];cases b1:decide (4096<wr .i64 (n*x));have n1:=aK b1;simp only[ew,go_sem,seval];exact⟨_,rfl,by rw[hI,jW,if_neg n1]⟩;have n1:=aG b1;have:jW 1 ds=none:=by rw[hI,jW,if_pos n1]
 rw[this]at hs;simp only at hs;simp only[fQ,hs,go_sem,seval];rintro d x r env hp hes ⟨rfl,hA⟩;obtain⟨hget,e1,e2,ew⟩:=cG hes hb;simp only[EN,EP,e1,e2,hget,go_sem,seval];cases b1:decide (x<0)
 case true=>
  have hs:bV ds=(0,2):=by
   have:ds.all lH=false:=by rw[hA];simp[lH,b1]
   simp only[bV,if_neg n0,this,if_true]
  simp only[b1,fQ,hs,go_sem,seval]
 cases b2:decide (4096<x)
 case true=>
  have hs:bV ds=(0,2):=by
   have:ds.all lH=false:=by rw[hA];simp[lH,b2]
   simp only[bV,if_neg n0,this,if_true]
  simp only[b1,b2,e1,e2,hget,fQ,hs,go_sem,seval]
 have hA2:ds.all lH=r.all lH:=by rw[hA];simp[lH,b1,b2]
 simp only[b1,b2,e1,e2,hget,ew,go_sem,seval];exact⟨rfl,hA2⟩
end
end
section
section
variable{H:Type}{enc:TypeId×Value->H}{P:Program}{w:World}{num:Nm}{ρ : Rho}{b:DataW H->Nat}{bs:List (DataW H)->Nat}{tI tS tB tCoef tLin tStep tPull sCoef sLin sStep sPull eB sStr tA sA:TypeId}
theorem TN(B:zR b bs){tV tS tI:TypeId}(uS:P.underlying tS=some .string)(uI:P.underlying tI=some (.int .i64))(cS:P.cellsOf tS=1)(cI:P.cellsOf tI=1)(cV:P.cellsOf tV=2)
  (uV:∃fs,P.underlying tV=some (.struct fs)/\fs.toList.map (λf=>(f.type,f.offset))=[(tS,0),(tI,1)]) (N:Nat) :
  Rd enc P w num ρ b N tV (λx:Val=>[Str.av x.v]++([aE x.n]++[])) (λ_ _=>True):=by
 intro fuel hN cs d ps h hb;obtain⟨fs,hu,hL⟩:=uV;obtain⟨xs,n,hn,hx,hcl,hl,hf⟩:=jV hu hL h;rw[cV]at hcl;obtain⟨y0,y1,rfl⟩:∃y0 y1,xs=[y0,y1]:=by
  match xs,hl with
  |[y0,y1],_=>exact⟨y0,y1,rfl⟩
 have hx':d = .agg [y0.1,y1.1]:=hx;subst hx';rw[B.agg]at hb ⊢;simp only[B.cons,B.nil]at hb ⊢;have f0:_=some y0:=hf 0 (tS,0) rfl;have f1:_=some y1:=hf 1 (tI,1) rfl;simp only[cI,cS]at f0 f1;obtain⟨a0,p0,g0⟩:=(Rd.str (enc:=enc) (w:=w) (num:=num) (ρ := ρ) (N:=n) B uS) n (Nat.le_refl _) _ y0.1 y0.2 f0 (by omega);obtain⟨a1,p1,g1⟩:=(Rd.int (enc:=enc) (w:=w) (num:=num) (ρ := ρ) (b:=b) (N:=n) uI) n (Nat.le_refl _) _ y1.1 y1.2 f1 (by omega);refine⟨⟨a0,a1⟩,?_,trivial⟩;have q:=(p0.piece (p1.piece (aI.done (by omega))))
 rw[List.drop_zero]at q;exact q
theorem TR(B:zR b bs){tV tS tI sV:TypeId}(uS:P.underlying tS=some .string)(uI:P.underlying tI=some (.int .i64))(cS:P.cellsOf tS=1)(cI:P.cellsOf tI=1)(cV:P.cellsOf tV=2)
  (uV:∃fs,P.underlying tV=some (.struct fs)/\fs.toList.map (λf=>(f.type,f.offset))=[(tS,0),(tI,1)]) (usV:P.underlying sV=some (.slice tV)) (N:Nat) :
  Rd enc P w num ρ b N sV (λs:Sl Val=>[s.av Val.av]) (λs n=>(s.nl=true->s.es=[])/\∃ms:List Nat,aI (λ_ _=>True) s.es ms/\ms.sum+1<=n/\∀m∈ms,1<=m):=
 (Rd.slice B (N:=N) (sz:=2) Val.av usV cV (by decide) (λx=>rfl) (λx=>rfl) (TN B uS uI cS cI cV uV N)).mono (Nat.le_succ N)
def Arr.nlOK(a:Arr):Prop:=(a.dims.nl=true->a.dims.es=[])/\(a.data.nl=true->a.data.es=[])
theorem TQ(B:zR b bs)(T:TyP P tI tS tB tCoef tLin tStep tPull sCoef sLin sStep sPull eB sStr)(hu:∃fs,P.underlying tA=some (.struct fs)/\fs.toList.map (λf=>(f.type,f.offset))=[(tS,0),(eB,1),(eB,2)])(hc:P.cellsOf tA=3)(N:Nat) :
  Rd enc P w num ρ b N tA (λx:Arr=>[Str.av x.elem]++([x.dims.av aE]++([x.data.av aE]++[]))) (λx _=>x.nlOK):=by
 intro fuel hN cs d ps h hb;obtain⟨fs,hu,hL⟩:=hu;obtain⟨xs,n,hn,hx,hcl,hl,hf⟩:=jV hu hL h;rw[hc]at hcl;obtain⟨y0,y1,y2,rfl⟩:∃y0 y1 y2,xs=[y0,y1,y2]:=by
  match xs,hl with
  |[y0,y1,y2],_=>exact⟨y0,y1,y2,rfl⟩
 have hx':d = .agg [y0.1,y1.1,y2.1]:=hx;subst hx';rw[B.agg]at hb ⊢;simp only[B.cons,B.nil]at hb ⊢;have f0:_=some y0:=hf 0 (tS,0) rfl;have f1:_=some y1:=hf 1 (eB,1) rfl;have f2:_=some y2:=hf 2 (eB,2) rfl;simp only[T.c_tS,T.c_sInt]at f0 f1 f2;obtain⟨a0,p0,g0⟩:=(Rd.str (enc:=enc) (w:=w) (num:=num) (ρ := ρ) (N:=n) B T.uS) n (Nat.le_refl _) _ y0.1 y0.2 f0 (by omega);obtain⟨a1,p1,g1,_⟩:=(C5 (enc:=enc) (w:=w) (num:=num) (ρ := ρ) B T n) n (Nat.le_refl _) _ y1.1 y1.2 f1 (by omega);obtain⟨a2,p2,g2,_⟩:=(C5 (enc:=enc) (w:=w) (num:=num) (ρ := ρ) B T n) n (Nat.le_refl _) _ y2.1 y2.2 f2 (by omega);refine⟨⟨a0,a1,a2⟩,?_,g1,g2⟩;have q:=(p0.piece (p1.piece (p2.piece (aI.done (by omega)))))
 rw[List.drop_zero]at q;exact q
theorem TT(B:zR b bs)(T:TyP P tI tS tB tCoef tLin tStep tPull sCoef sLin sStep sPull eB sStr)(hu:∃fs,P.underlying tA=some (.struct fs)/\fs.toList.map (λf=>(f.type,f.offset))=[(tS,0),(eB,1),(eB,2)])(hc:P.cellsOf tA=3)(hs:P.underlying sA=some (.slice tA))(N:Nat) :
  Rd enc P w num ρ b N sA (λs:Sl Arr=>[s.av Arr.av]) (λs n=>(s.nl=true->s.es=[])/\∃ms:List Nat,aI (λa _=>a.nlOK) s.es ms/\ms.sum+1<=n/\∀m∈ms,1<=m):=
 (Rd.slice B (N:=N) (sz:=3) Arr.av hs hc (by decide) (λx=>rfl) (λx=>rfl) (TQ B T hu hc N)).mono (Nat.le_succ N)
theorem XP{l:List Arr}{ms:List Nat}(h:aI (λ(a:Arr) (_:Nat)=>a.nlOK) l ms):∀a∈l,a.nlOK:=by
 induction h with
 |nil=>simp
 |cons h _ ih=>intro a ha;rcases List.mem_cons.1 ha with rfl|ha;exact h;exact ih a ha
end
end
end Go.Tev
section
set_option maxRecDepth 100000
namespace Go.Proofs
open Go.Tev
theorem tyS:TyP Tryz.prog 3 9 4 61 59 141 26 57 22 23 24 35 43 where
 uI:=Tryz.underlying3
 uS:=Tryz.underlying9
 uB:=Tryz.underlying4
 u_tCoef:=⟨_,Tryz.underlying61,by kernel_rfl⟩
 u_tLin:=⟨_,Tryz.underlying59,by kernel_rfl⟩
 u_tStep:=⟨_,Tryz.underlying141,by kernel_rfl⟩
 u_tPull:=⟨_,Tryz.underlying26,by kernel_rfl⟩
 u_sCoef:=Tryz.underlying57
 u_sLin:=Tryz.underlying22
 u_sStep:=Tryz.underlying23
 u_sPull:=Tryz.underlying24
 u_sInt:=Tryz.underlying35
 u_sStr:=Tryz.underlying43
 c_tI:=by kernel_rfl
 c_tS:=by kernel_rfl
 c_tB:=by kernel_rfl
 c_tCoef:=by kernel_rfl
 c_tLin:=by kernel_rfl
 c_tStep:=by kernel_rfl
 c_tPull:=by kernel_rfl
 c_sCoef:=by kernel_rfl
 c_sLin:=by kernel_rfl
 c_sStep:=by kernel_rfl
 c_sPull:=by kernel_rfl
 c_sInt:=by kernel_rfl
 c_sStr:=by kernel_rfl
theorem rY{ρ : Rho}{W:World}{g:Nat}{v:AV}{cs:Array Value}{T:TypeId}{fr:Nat×Nat}(ht:v.tree=true)(hg:W.heap[g]?=some (.cells cs T fr))(h:aI (Rv nm ρ W noF) v.cells cs.toList) :
  (v.tree=true/\∃c T fr,W.heap[gnum g]?=some (.cells c T fr)/\c.size=v.cells.length)/\Rv nm ρ W noF (.fp v) (.pointer (some ⟨gnum g,0,none⟩)):=by
 have hl:=h.length;have hsz:cs.size=v.cells.length:=by rw[hl];simp
 refine⟨⟨ht,cs,T,fr,hg,hsz⟩,?_⟩;have hlt:g<W.heap.size:=by by_cases hlt:g<W.heap.size;exact hlt;rw[Array.getElem?_eq_none (Nat.le_of_not_lt hlt)]at hg;cases hg
 have hcell:∀n,n<cs.size->W.cell? ⟨g,0+n,none⟩=some (cs[n]?.getD undef):=by intro n hn;simp only[World.cell?,hg,Option.isSome_none,Bool.false_eq_true,if_false,Nat.zero_add];rw[Array.getElem?_eq_getElem hn];rfl
 refine .fp v g 0 (λn=>cs[n]?.getD undef) (λh=>h) hlt (λn hn=>hcell n (by omega)) ?_;intro j x hx;have hj:j<cs.size:=by rw[hsz];exact(List.getElem?_eq_some_iff.1 hx).1
 have h2:=h.get j x (cs[j]'hj) hx (by rw[Array.getElem?_toList,Array.getElem?_eq_getElem hj]);simpa[Array.getElem?_eq_getElem hj] using h2
theorem pP{P:Program}{W:World}{n:String}{g:Nat}{cs:Array Value}(hg:P.globalNamed n=some g)(h:W.var? P n=some cs):∃T fr,W.heap[g]?=some (.cells cs T fr):=by unfold World.var? at h;rw[hg,Option.bind_some]at h;split at h;rename_i c T fr hh;cases h;exact⟨T,fr,hh⟩;cases h
theorem GO{P:Program}{W:World}{fuel:Nat}{t:TypeId}{cs:List Value}{name:String}{d:DataW Unit}{p:List MemPlace}{ms}(ht:P.underlying t=some (.interface ms))
  (h:DataW.trod (λ_=>()) P W 0 (λ_=>true) false fuel t cs=some (.iface name d,p)):∃u v,cs=[.iface u v]:=by
 cases fuel with
 |zero=>simp[DataW.trod]at h
 |succ fuel=>
  unfold DataW.trod at h;rw[ht]at h;split at h<;>first|(rename_i e;cases e;done)|skip
  all_goals first|(exact⟨_,_,rfl⟩)|(cases h;done)|skip
theorem aGB{W:World}(m:Int){Tm:TypeId}{frm:Nat×Nat}(hM:W.heap[6]?=some (.cells #[.int .i64 m] Tm frm))(hL:laidMetH Tryz.prog YtdglfamcgppilaaGreatDoor.Rows.pullEvalUptoRow.laid W):jA nm (glS m) gnum (λ_ _=>none) W noF:=by
 have e:(YtdglfamcgppilaaGreatDoor.Rows.pullEvalUptoRow.laid.filter λx=>x.2.handleName?.isSome)=[]:=by kernel_rfl
 have h:laidMet Tryz.prog YtdglfamcgppilaaGreatDoor.Rows.pullEvalUptoRow.laid W:=by unfold laidMetH at hL;rw[e]at hL;exact hL
 obtain⟨ps,hv,_,_⟩:=h;obtain⟨g1,t1,cs1,f1,p1,q1,hg1,ht1,hv1,hd1,hr1,_⟩:=hv;obtain⟨g2,t2,cs2,f2,p2,q2,hg2,ht2,hv2,hd2,hr2,_⟩:=hr1;obtain⟨g3,t3,cs3,f3,p3,q3,hg3,ht3,hv3,hd3,hr3,_⟩:=hr2;obtain⟨g4,t4,cs4,f4,p4,q4,hg4,ht4,hv4,hd4,hr4,_⟩:=hr3;obtain⟨g5,t5,cs5,f5,p5,q5,hg5,ht5,hv5,hd5,hr5,_⟩:=hr4;obtain⟨g6,t6,cs6,f6,p6,q6,hg6,ht6,hv6,hd6,hr6,_⟩:=hr5;obtain⟨g7,t7,cs7,f7,p7,q7,hg7,ht7,hv7,hd7,hr7,_⟩:=hr6;obtain⟨g8,t8,cs8,f8,p8,q8,hg8,ht8,hv8,hd8,hr8,_⟩:=hr7;obtain⟨g9,t9,cs9,f9,p9,q9,hg9,ht9,hv9,hd9,hr9,_⟩:=hr8;clear hr9;obtain⟨T3,fr3,hh3⟩:=pP hg3 hv3;obtain⟨T5,fr5,hh5⟩:=pP hg5 hv5;obtain⟨T6,fr6,hh6⟩:=pP hg6 hv6;obtain rfl:2=g3:=Option.some.inj ((show Tryz.prog.globalNamed _=some 2 by kernel_rfl).symm.trans hg3);obtain rfl:4=g5:=Option.some.inj ((show Tryz.prog.globalNamed _=some 4 by kernel_rfl).symm.trans hg5);obtain rfl:3=g6:=Option.some.inj ((show Tryz.prog.globalNamed _=some 3 by kernel_rfl).symm.trans hg6);obtain rfl:320=t3:=Option.some.inj ((show (Tryz.prog.globals[2]?).map (·.type)=some 320 by kernel_rfl).symm.trans ht3);obtain rfl:224=t5:=Option.some.inj ((show (Tryz.prog.globals[4]?).map (·.type)=some 224 by kernel_rfl).symm.trans ht5);obtain rfl:224=t6:=Option.some.inj ((show (Tryz.prog.globals[3]?).map (·.type)=some 224 by kernel_rfl).symm.trans ht6);have hd3':DataW.trod (λ_=>()) Tryz.prog W 0 (λ_=>true) false f3 320 cs3.toList=some (Lib.tabData .u64 Lib.pow10Tab,p3):=hd3;have hcsP:=Lib.cells_of_tab Tryz.underlying320 Tryz.underlying159 (by kernel_rfl) (by kernel_rfl) hd3';obtain⟨uR,vR,hcR⟩:=GO Tryz.underlying224 hd5;obtain⟨uY,vY,hcY⟩:=GO Tryz.underlying224 hd6;obtain⟨T8,fr8,hh8⟩:=pP hg8 hv8;obtain rfl:5=g8:=Option.some.inj ((show Tryz.prog.globalNamed _=some 5 by kernel_rfl).symm.trans hg8);obtain rfl:314=t8:=Option.some.inj ((show (Tryz.prog.globals[5]?).map (·.type)=some 314 by kernel_rfl).symm.trans ht8);have hd8':DataW.trod (λ_=>()) Tryz.prog W 0 (λ_=>true) false f8 314 cs8.toList=some (Lib.tabData .u8 zF,p8):=hd8;have hcsA:=Lib.cells_of_tab Tryz.underlying314 Tryz.underlying5 (by kernel_rfl) (by kernel_rfl) hd8';intro g v hg;unfold glS at hg;cases h1:g.beq 3 with
 |true=>rw[h1]at hg;simp only[cond_true,Option.some.injEq]at hg;subst hg;obtain rfl:=Nat.eq_of_beq_eq_true h1;exact rY (by kernel_rfl) hh6 (by rw[hcY];exact .cons (.ifc _ _ _ (.top _)) .nil)
 |false=>
  cases h2:g.beq 4 with
  |true=>rw[h1,h2]at hg;simp only[cond_true,cond_false,Option.some.injEq]at hg;subst hg;obtain rfl:=Nat.eq_of_beq_eq_true h2;exact rY (by kernel_rfl) hh5 (by rw[hcR];exact .cons (.ifc _ _ _ (.top _)) .nil)
  |false=>
   cases h3:g.beq 2 with
   |true=>
    rw[h1,h2,h3]at hg;simp only[cond_true,cond_false,Option.some.injEq]at hg;subst hg;obtain rfl:=Nat.eq_of_beq_eq_true h3;refine rY (by kernel_rfl) hh3 ?_;rw[hcsP];refine aI.mk_get (by simp[AV.cells]) ?_;intro i x y hx hy;simp only[AV.cells,List.getElem?_map]at hx hy;cases hz:Lib.pow10Tab[i]? with
    |none=>rw[hz]at hx;cases hx
    |some z=>rw[hz]at hx hy;cases hx;cases hy;exact .int _ _
   |false=>
    cases h4:g.beq 5 with
    |true=>
     rw[h1,h2,h3,h4]at hg;simp only[cond_true,cond_false,Option.some.injEq]at hg;subst hg;obtain rfl:=Nat.eq_of_beq_eq_true h4;refine rY (by kernel_rfl) hh8 ?_;rw[hcsA];refine aI.mk_get (by simp[AV.cells]) ?_;intro i x y hx hy;simp only[AV.cells,List.getElem?_map]at hx hy;cases hz:zF[i]? with
     |none=>rw[hz]at hx;cases hx
     |some z=>rw[hz]at hx hy;cases hx;cases hy;exact .int _ _
    |false=>
     cases h5:g.beq 6 with
     |true=>rw[h1,h2,h3,h4,h5]at hg;simp only[cond_true,cond_false,Option.some.injEq]at hg;subst hg;obtain rfl:=Nat.eq_of_beq_eq_true h5;exact rY rfl hM (.cons (.int _ _) .nil)
     |false=>rw[h1,h2,h3,h4,h5]at hg;cases hg
end Go.Proofs
end
namespace Go.Tev
section
def ofE(t:List UInt8)(ds xs:List Int):Int:=
 if (decide (t=[105,110,116])||decide (t=[98,111,111,108]))=false then 12 else if (bV ds).2≠0 then (bV ds).2 else if (xs.length:Int)≠(bV ds).1 then 1 else if xs.all (kT t)=false then 2 else 0
theorem CG(a:Arr):gD a=decide (ofE a.elem.bs a.dims.es a.data.es=0):=by unfold gD ofE;cases h1:(decide (a.elem.bs=[105,110,116])||decide (a.elem.bs=[98,111,111,108]));simp;by_cases h2:(bV a.dims.es).2=0;by_cases h3:(a.data.es.length:Int)=(bV a.dims.es).1;cases h4:a.data.es.all (kT a.elem.bs)<;>simp[h2,h3];simp[h2,h3];simp[h2]
def OfR(e:Int)(r:AV):Prop:=∃(s:List UInt8)(n1:Bool)(l1:List Int)(k1 n2:Bool)(l2:List Int)(k2:Bool),r = .tup [.agg [.str s,.sl n1 (l1.map aE) k1,.sl n2 (l2.map aE) k2],.int .i64 e]
section
variable{pg:Pg}
theorem c289(hf:pg.fs 289=some BX)(nl cl:Bool)(es:List Int)(hb:es.length<=big)(hnl:nl=true->es=[]):cB pg 289 [.sl nl (es.map aE) cl] (nK 1 false (es.map aE)):=by refine cB.ofX hf ?_;unfold BX;simp only[go_sem,seval];cases nl;simp only[go_sem,seval];refine kN (kb:=0) (s:=1) (bytes:=8) (es:=[]) (xs:=es.map aE) (Own.nil _ _ _ _ _ _ rfl) (by simp) (El.ints _) ?_ (by decide) ?_;simp only[List.length_nil,bD,big]at *;omega;intro v' rd pa ho hk hpa;simp only[go_sem,seval];exact ho.conv (by simpa using El.ints es);simp only[go_sem,seval];exact .inl ⟨by simp[hnl rfl],true,true,rfl,rfl⟩
theorem c605(hf:pg.fs 605=some yS)(nl cl:Bool)(es:List Int)(hb:es.length<=big):cB pg 605 [.sl nl (es.map aE) cl] (nK 1 false (es.map aE)):=by refine cB.ofX hf ?_;unfold yS;simp only[go_sem,seval];refine kN (kb:=0) (s:=1) (bytes:=8) (es:=[]) (xs:=es.map aE) (Own.nil _ _ _ _ _ _ rfl) (by simp) (El.ints _) ?_ (by decide) ?_;simp only[List.length_nil,bD,big]at *;omega;intro v' rd pa ho hk hpa;simp only[go_sem,seval];exact ho.conv (by simpa using El.ints es)
theorem aHc(h124:pg.fs 124=some l9)(t:List UInt8)(ht:t=[105,110,116]\/t=[98,111,111,108])(x:Int):Ret pg 124 [.str t,.int .i64 x] (.bool (kT t x)):=by rcases ht with rfl|rfl;exact IM h124 x;exact SQ h124 x
theorem aGZ(h148:pg.fs 148=some nG)(t:List UInt8)(ht:t=[105,110,116]\/t=[98,111,111,108])(x:Int):Ret pg 148 [.str t,.int .i64 x] (.bool (kT t x)):=by rcases ht with rfl|rfl;exact CB h148 x;exact SP h148 x
set_option maxRecDepth 100000 in
theorem c588(hf:pg.fs 588=some BO)(h587:pg.fs 587=some vG)(h124:pg.fs 124=some l9)(h605:pg.fs 605=some yS)(t:List UInt8)(nl cl:Bool)(ds:List Int)(hb:ds.length<=big)(nl' cl':Bool)(xs:List Int)(hx:xs.length<=big) :
  cB pg 588 [.str t,.sl nl (ds.map aE) cl,.sl nl' (xs.map aE) cl'] (OfR (ofE t ds xs)):=by
 refine cB.ofX hf ?_;unfold BO;have ht2:decide (t=[105,110,116])=false->decide (t=[98,111,111,108])=false->ofE t ds xs=12:=by intro a b;simp[ofE,a,b]
 have ht1:(t=[105,110,116]\/t=[98,111,111,108])->ofE t ds xs=if (bV ds).2≠0 then (bV ds).2 else if (xs.length:Int)≠(bV ds).1 then 1 else if xs.all (kT t)=false then 2 else 0:=by intro h;rw[ofE,if_neg];rcases h with h|h<;>simp[h]
 cases a1:decide (t=[105,110,116])
 case' false=>
  cases a2:decide (t=[98,111,111,108])
  case false=>simp only[a1,a2,go_sem,seval];exact⟨[],true,[],true,true,[],true,by rw[ht2 a1 a2];rfl⟩
  have hel:t=[105,110,116]\/t=[98,111,111,108]:=.inr (aG a2);simp only[a1,a2,go_sem,seval]
 case' true=>have hel:t=[105,110,116]\/t=[98,111,111,108]:=.inl (aG a1);simp only[a1,go_sem,seval]
 all_goals
  have ht:=ht1 hel;refine aC (c587 h587 nl cl ds hb) ?_;simp only[fQ,go_sem,seval];cases b1:decide ((bV ds).2=0)
  case false=>simp only[b1,go_sem,seval];rw[if_pos (aK b1)]at ht;exact⟨[],true,[],true,true,[],true,by rw[ht];rfl⟩
  rw[if_neg (by simpa using b1)]at ht;simp only[b1,go_sem,seval];cases b2:decide ((xs.length:Int)=(bV ds).1)
  case false=>simp only[b2,go_sem,seval];rw[if_pos (aK b2)]at ht;exact⟨[],true,[],true,true,[],true,by rw[ht];rfl⟩
  rw[if_neg (by simpa using b2)]at ht;simp only[b2,go_sem,seval];refine aM xs (λd r env hp=>env=EC (.str t) (.sl nl (ds.map aE) cl) (.sl nl' (xs.map aE) cl') (.pt 1 0 0) (.int .i64 d.length)/\hp.get 1=some (0,Ob.blk [AV.str [],AV.sl true [] true,AV.sl true [] true] 3 true true false)/\xs.all (kT t)=r.all (kT t)) ?_ ?_ ?_;exact⟨rfl,rfl,rfl⟩;rintro env hp ⟨rfl,hg,hA⟩;have hA:xs.all (kT t)=true:=hA;rw[hA,if_neg (by decide)]at ht;simp only[EB,EC,aY,go_sem,seval];refine sY (c605 h605 nl cl ds hb) (by simp only[go_sem,seval]) ?_;intro n1 k1 _;simp only[go_sem,seval];refine sY (c605 h605 nl' cl' xs hx) (by simp only[go_sem,seval]) ?_;intro n2 k2 _;simp only[hg,go_sem,seval];exact⟨t,n1,ds,k1,n2,xs,k2,by rw[ht]⟩;rintro d x r env hp hes ⟨rfl,hg,hA⟩;obtain⟨hget,e1,e2,ew⟩:=cG hes hx;simp only[EB,EC,e1,e2,hget,go_sem,seval];refine aC (aHc h124 t hel x) ?_;cases b3:kT t x;simp only[hg,go_sem,seval];have hA':xs.all (kT t)=false:=by rw[hA];simp[b3]
  rw[hA',if_pos rfl]at ht;exact⟨[],true,[],true,true,[],true,by rw[ht];rfl⟩;simp only[ew,go_sem,seval];exact⟨rfl,hg,by rw[hA];simp[b3]⟩
theorem c943(hf:pg.fs 943=some HC)(h588:pg.fs 588=some BO)(h587:pg.fs 587=some vG)(h124:pg.fs 124=some l9)(h605:pg.fs 605=some yS)(a:Arr):Ret pg 943 [a.av] (.bool (gD a)):=by refine Ret.ofX hf ?_;unfold HC;obtain⟨r,hr,s,n1,l1,k1,n2,l2,k2,rfl⟩:=c588 h588 h587 h124 h605 a.elem.bs a.dims.nl a.dims.cl a.dims.es a.dims.ok a.data.nl a.data.cl a.data.es a.data.ok;simp only[go_sem,seval];refine aC (hr) ?_;simp only[go_sem,seval];rw[CG]
set_option maxRecDepth 100000 in
theorem c336(hf:pg.fs 336=some HQ)(h355:∀nl cl (ds:List Int),ds.length<=big->Ret pg 355 [.sl nl (ds.map aE) cl] (fQ ds))(h383:pg.fs 383=some HN)(h403:pg.fs 403=some HK)(h45:pg.fs 45=some OO)(h71:pg.fs 71=some KD)(h148:pg.fs 148=some nG)(h289:pg.fs 289=some BX)
  (t:List UInt8) (nl cl:Bool) (ds:List Int) (hb:ds.length<=big) (hnl:nl=true->ds=[]) (nl' cl':Bool) (xs:List Int) (hx:xs.length<=big) (hnl':nl'=true->xs=[]) :
  cB pg 336 [.str t,.sl nl (ds.map aE) cl,.sl nl' (xs.map aE) cl'] (OfR (ofE t ds xs)):=by
 have h383':(t=[105,110,116]\/t=[98,111,111,108])->Ret pg 383 [.str t,.sl nl' (xs.map aE) cl'] (.bool (xs.all (kT t))):=by
  intro ht;refine Ret.ofX h383 ?_;unfold HN;have hany:(xs.any λx => !kT t x) = !xs.all (kT t):=by simp[List.any_eq_not_all_not]
  have h:=c45 h45 h71 nl' cl' xs hx 403 [.fp (.str t)] rfl (λx => !kT t x) (by
   intro x _;refine Ret.ofX h403 ?_;unfold HK;simp only[go_sem,seval];refine aC (aGZ h148 t ht x) ?_;simp only[go_sem,seval])
  rw[hany]at h;simp only[go_sem,seval];refine gQ (h) (by simp only[ go_sem,depth,fY,cA,lV,go_sem,seval];rfl) (by first|rfl|simp only[hJ]) ?_;simp only[Bool.not_not,go_sem,seval]
 refine cB.ofX hf ?_;unfold HQ;have ht2:decide (t=[105,110,116])=false->decide (t=[98,111,111,108])=false->ofE t ds xs=12:=by intro a b;simp[ofE,a,b]
 have ht1:(t=[105,110,116]\/t=[98,111,111,108])->ofE t ds xs=if (bV ds).2≠0 then (bV ds).2 else if (xs.length:Int)≠(bV ds).1 then 1 else if xs.all (kT t)=false then 2 else 0:=by intro h;rw[ofE,if_neg];rcases h with h|h<;>simp[h]
 cases a1:decide (t=[105,110,116])
 case' false=>
  cases a2:decide (t=[98,111,111,108])
  case false=>simp only[a1,a2,go_sem,seval];exact⟨[],true,[],true,true,[],true,by rw[ht2 a1 a2];rfl⟩
  have hel:t=[105,110,116]\/t=[98,111,111,108]:=.inr (aG a2);simp only[a1,a2,go_sem,seval]
 case' true=>have hel:t=[105,110,116]\/t=[98,111,111,108]:=.inl (aG a1);simp only[a1,go_sem,seval]
 all_goals
  have ht:=ht1 hel;refine aC (h355 nl cl ds hb) ?_;simp only[fQ,go_sem,seval];cases b1:decide ((bV ds).2=0)
  case false=>simp only[b1,go_sem,seval];rw[if_pos (aK b1)]at ht;exact⟨[],true,[],true,true,[],true,by rw[ht];rfl⟩
  rw[if_neg (by simpa using b1)]at ht;simp only[b1,go_sem,seval];cases b2:decide ((xs.length:Int)=(bV ds).1)
  case false=>simp only[b2,go_sem,seval];rw[if_pos (aK b2)]at ht;exact⟨[],true,[],true,true,[],true,by rw[ht];rfl⟩
  rw[if_neg (by simpa using b2)]at ht;simp only[b2,go_sem,seval];refine aC (h383' hel) ?_;cases b3:xs.all (kT t)
  case false=>simp only[go_sem,seval];rw[b3,if_pos rfl]at ht;exact⟨[],true,[],true,true,[],true,by rw[ht];rfl⟩
  rw[b3,if_neg (by decide)]at ht;simp only[go_sem,seval];have hms:∀(d:Nat)(h:Hp)(l:List Int),mapS (snap (d+1) h) (l.map aE)=some (l.map aE,[]):=λd h l=>dK d h (gO l);refine wU (kb:=0) (c289 h289 nl cl ds hb hnl) (by simp only[go_sem,seval]) (El.ints _) ?_ ?_;intro he n1 k1 _;simp only[go_sem,seval];refine wU (kb:=0) (c289 h289 nl' cl' xs hx hnl') (by simp only[go_sem,seval]) (El.ints _) ?_ ?_;intro he2 n2 k2 _;simp only[go_sem,seval];exact⟨t,n1,[],k1,n2,[],k2,by rw[ht];rfl⟩;intro cs hcs hch;have hch':iR 1 false xs.length cs=some (xs.map aE):=by simpa using hch
  simp only[go_sem,seval];simp only[hms,hch',conv,depth,lV,fY,cA,go_sem,seval];exact⟨t,n1,[],k1,false,xs,_,by rw[ht];rfl⟩;intro cs hcs hch;have hch':iR 1 false ds.length cs=some (ds.map aE):=by simpa using hch
  simp only[go_sem,seval];refine wU (kb:=0) (c289 h289 nl' cl' xs hx hnl') (by simp only[go_sem,seval]) (El.ints _) ?_ ?_;intro he2 n2 k2 _;simp only[go_sem,seval];simp only[hms,hch',conv,depth,lV,fY,cA,go_sem,seval];exact⟨t,false,ds,_,n2,[],k2,by rw[ht];rfl⟩;intro cs2 hcs2 hch2;have hch2':iR 1 false xs.length cs2=some (xs.map aE):=by simpa using hch2
  simp only[go_sem,seval];simp only[hms,hch',hch2',conv,depth,lV,fY,cA,go_sem,seval];exact⟨t,false,ds,_,false,xs,_,by rw[ht]⟩
end
end
section
theorem mY{n:Int}(h1 : -9223372036854775808<=n)(h2:n<=9223372036854775807):wr .i64 n=n:=if_pos ⟨h1,h2⟩
theorem QJ:∀{ds ix:List Int}{p n k m:Int},ds.all lH=true->0<=n->n<p->p<=4096->jW p ds=some m->mE n ds ix=some k->0<=k/\k<m
 |[],ix,p,n,k,m,hd,h0,h1,hp,hm,hk=>by simp only[jW,aO]at hm;simp only[mE,aO]at hk;omega
 |d::r,[],p,n,k,m,hd,h0,h1,hp,hm,hk=>by simp[mE]at hk
 |d::r,x::s,p,n,k,m,hd,h0,h1,hp,hm,hk=>by
  simp only[List.all_cons,aD,lH,iB,nL]at hd;obtain⟨⟨d0,d1⟩,hd⟩:=hd;simp only[mE]at hk;split at hk;cases hk;rename_i hx;simp only[jW]at hm;split at hm;cases hm;rename_i hq;have a1:n*d+d<=p*d:=by have:=Int.mul_le_mul_of_nonneg_right (show n+1<=p by omega) (show 0<=d by omega);rw[Int.add_mul,Int.one_mul]at this;exact this
  have a2:p*d<=4096*4096:=Int.mul_le_mul hp (by omega) (by omega) (by omega);have a3:0<=n*d:=Int.mul_nonneg h0 (by omega);have w1:wr .i64 (p*d)=p*d:=mY (by omega) (by omega);have w2:wr .i64 (n*d)=n*d:=mY (by omega) (by omega);have w3:wr .i64 (n*d+x)=n*d+x:=mY (by omega) (by omega);rw[w1]at hm hq;rw[w2,w3]at hk;exact QJ hd (by omega) (by omega) (by omega) hm hk
theorem AN:∀{ds ix:List Int}{n k:Int},(ds.any λd=>decide (d=0))=true->mE n ds ix=some k->False
 |[],_,_,_,h,_=>by simp at h
 |d::r,[],n,k,h,hk=>by simp[mE]at hk
 |d::r,x::s,n,k,h,hk=>by simp only[mE]at hk;split at hk;cases hk;rename_i hx;simp only[List.any_cons,Bool.or_eq_true,aQ]at h;rcases h with rfl|h;omega;exact AN h hk
theorem LQ{ds ix:List Int}(h:(fH ds ix).2=0):0<=(fH ds ix).1/\(fH ds ix).1<(bV ds).1:=by
 unfold fH at h ⊢;by_cases h1:(bV ds).2≠0;rw[if_pos h1]at h;exact absurd h h1;rw[if_neg h1]at h ⊢;by_cases h2:(ix.length:Int)≠ds.length;rw[if_pos h2]at h;cases h;rw[if_neg h2]at h ⊢;cases h3:mE 0 ds ix with
 |none=>rw[h3]at h;cases h
 |some n=>
  simp only;simp only[bV]at h1 ⊢;by_cases c1:6<(ds.length:Int);rw[if_pos c1]at h1;simp at h1;rw[if_neg c1]at h1 ⊢;by_cases c2:ds.all lH=false;rw[if_pos c2]at h1;simp at h1;rw[if_neg c2]at h1 ⊢;by_cases c3:(ds.any λd=>decide (d=0))=true;exact(AN c3 h3).elim;rw[if_neg c3]at h1 ⊢;cases c4:jW 1 ds with
  |none=>rw[c4]at h1;simp at h1
  |some m=>exact QJ (by simpa using c2) (by omega) (by omega) (by omega) c4 h3
def atA(a:Arr)(ix:List Int):Int×Int:=
 if gD a=false then (0,1) else if (fH a.dims.es ix).2≠0 then (0,(fH a.dims.es ix).2) else (a.data.es[(fH a.dims.es ix).1.toNat]?.getD 0,0)
def atV(a:Arr)(ix:List Int):AV:=.tup [.int .i64 (atA a ix).1,.int .i64 (atA a ix).2]
section
variable{pg:Pg}
set_option maxRecDepth 100000 in
theorem c964(hf:pg.fs 964=some G2)(h587:pg.fs 587=some vG)(nl cl:Bool)(ds:List Int)(hb:ds.length<=big)(nl' cl':Bool)(ix:List Int) :
  Ret pg 964 [.sl nl (ds.map aE) cl,.sl nl' (ix.map aE) cl'] (.tup [.int .i64 (fH ds ix).1,.int .i64 (fH ds ix).2]):=by
 refine Ret.ofX hf ?_;unfold G2;simp only[go_sem,seval];refine aC (c587 h587 nl cl ds hb) ?_;simp only[fQ,go_sem,seval];cases b1:decide ((bV ds).2=0)
 case false=>have ho:fH ds ix=(0,(bV ds).2):=if_pos (aK b1);simp only[b1,ho,go_sem,seval]
 have n1:=aG b1;simp only[b1,go_sem,seval];cases b2:decide ((ix.length:Int)=(ds.length:Int))
 case false=>
  have ho:fH ds ix=(0,13):=by rw[fH,if_neg (by simpa using n1),if_pos (aK b2)]
  simp only[b2,ho,go_sem,seval]
 have n2:=aG b2;have hl:ds.length=ix.length:=by omega
 have ho:fH ds ix=match mE 0 ds ix with|none=>(0,2)|some n=>(n,0):=by rw[fH,if_neg (by simpa using n1),if_neg (by simpa using n2)]<;>rfl
 simp only[b2,go_sem,seval];refine aM ds (λd r env hp=>∃n,env=DP (.sl nl (ds.map aE) cl) (.sl nl' (ix.map aE) cl') (.int .i64 n) (.int .i64 d.length)/\mE 0 ds ix=mE n r (ix.drop d.length)) ?_ ?_ ?_;exact⟨0,rfl,rfl⟩;rintro env hp ⟨n,rfl,hI⟩;rw[hI]at ho;simp only[mE]at ho;simp only[DN,DP,aY,ho,go_sem,seval]
 ·rintro d x r env hp hes ⟨n,rfl,hI⟩;obtain⟨hget,e1,e2,ew⟩:=cG hes hb;have hd:d.length<ix.length:=by rw[<-hl,hes];simp
  obtain⟨y,gy⟩:∃y,ix[d.length]?=some y:=⟨ix[d.length]'hd,bJ hd⟩
  have hdr:ix.drop d.length=y::ix.drop (d++[x]).length:=by rw[mQ hd,(bS.1 gy).2];simp
  rw[hdr,mE]at hI;have f1:((d.length:Int)<(ix.length:Int))=True:=eq_true (by omega);simp only[DN,DP,e1,e2,hget,gy,f1,go_sem,seval];cases b3:decide (y<0)
  case true=>have n3:=aG b3;rw[if_pos (.inl n3)]at hI;rw[hI]at ho;simp only at ho;simp only[b3,e1,e2,hget,gy,f1,go_sem,seval];refine bI ?_;simp only[ho,go_sem,seval]
  have n3:=aK b3;cases b4:decide (x<=y)
  case true=>have n4:=aG b4;rw[if_pos (.inr n4)]at hI;rw[hI]at ho;simp only at ho;simp only[b3,b4,e1,e2,hget,gy,f1,go_sem,seval];refine bI ?_;simp only[ho,go_sem,seval]
  have n4:=aK b4;rw[if_neg (by omega)]at hI
  repeat (first|simp only[b3,b4,e1,e2,hget,gy,f1,ew,go_sem,seval]|refine bI ?_)
  exact⟨_,rfl,hI⟩
set_option maxRecDepth 100000 in
theorem c443(hf:pg.fs 443=some HI)(h355:∀nl cl (ds:List Int),ds.length<=big->Ret pg 355 [.sl nl (ds.map aE) cl] (fQ ds))(nl cl:Bool)(ds:List Int)(hb:ds.length<=big)(nl' cl':Bool)(ix:List Int) :
  Ret pg 443 [.sl nl (ds.map aE) cl,.sl nl' (ix.map aE) cl'] (.tup [.int .i64 (fH ds ix).1,.int .i64 (fH ds ix).2]):=by
 refine Ret.ofX hf ?_;unfold HI;simp only[go_sem,seval];refine aC (h355 nl cl ds hb) ?_;simp only[fQ,go_sem,seval];cases b1:decide ((bV ds).2=0)
 case false=>have ho:fH ds ix=(0,(bV ds).2):=if_pos (aK b1);simp only[b1,ho,go_sem,seval]
 have n1:=aG b1;simp only[b1,go_sem,seval];cases b2:decide ((ix.length:Int)=(ds.length:Int))
 case false=>
  have ho:fH ds ix=(0,13):=by rw[fH,if_neg (by simpa using n1),if_pos (aK b2)]
  simp only[b2,ho,go_sem,seval]
 have n2:=aG b2;have hl:ds.length=ix.length:=by omega
 have ho:fH ds ix=match mE 0 ds ix with|none=>(0,2)|some n=>(n,0):=by rw[fH,if_neg (by simpa using n1),if_neg (by simpa using n2)]<;>rfl
 simp only[b2,go_sem,seval];refine aM ds (λd r env hp=>∃n,env=EJ (.sl nl' (ix.map aE) cl') (.int .i64 n) (.sl nl (ds.map aE) cl) (.int .i64 ds.length) (.int .i64 d.length)/\mE 0 ds ix=mE n r (ix.drop d.length)) ?_ ?_ ?_;exact⟨0,rfl,rfl⟩;rintro env hp ⟨n,rfl,hI⟩;rw[hI]at ho;simp only[mE]at ho;simp only[EI,EJ,aY,ho,go_sem,seval]
 ·rintro d x r env hp hes ⟨n,rfl,hI⟩;obtain⟨hget,e1,e2,ew⟩:=cG hes hb;have hd:d.length<ix.length:=by rw[<-hl,hes];simp
  obtain⟨y,gy⟩:∃y,ix[d.length]?=some y:=⟨ix[d.length]'hd,bJ hd⟩
  have hdr:ix.drop d.length=y::ix.drop (d++[x]).length:=by rw[mQ hd,(bS.1 gy).2];simp
  rw[hdr,mE]at hI;have f1:((d.length:Int)<(ix.length:Int))=True:=eq_true (by omega);simp only[EI,EJ,e1,e2,hget,gy,f1,go_sem,seval];cases b3:decide (y<0)
  case true=>have n3:=aG b3;rw[if_pos (.inl n3)]at hI;rw[hI]at ho;simp only at ho;simp only[b3,e1,e2,hget,gy,f1,ho,go_sem,seval]
  have n3:=aK b3;cases b4:decide (x<=y)
  case true=>have n4:=aG b4;rw[if_pos (.inr n4)]at hI;rw[hI]at ho;simp only at ho;simp only[b3,b4,e1,e2,hget,gy,f1,ho,go_sem,seval]
  have n4:=aK b4;rw[if_neg (by omega)]at hI
  repeat (first|simp only[b3,b4,e1,e2,hget,gy,f1,ew,go_sem,seval]|refine bI ?_)
  exact⟨_,rfl,hI⟩
theorem c957(hf:pg.fs 957=some G7)(h943:∀a:Arr,Ret pg 943 [a.av] (.bool (gD a)))(h964:∀nl cl (ds:List Int),ds.length<=big->∀nl' cl' ix,Ret pg 964 [.sl nl (ds.map aE) cl,.sl nl' (ix.map aE) cl'] (.tup [.int .i64 (fH ds ix).1,.int .i64 (fH ds ix).2]))
  (a:Arr) (nl cl:Bool) (ix:List Int):Ret pg 957 [a.av,.sl nl (ix.map aE) cl] (atV a ix):=by
 have h:=h943 a;refine Ret.ofX hf ?_;unfold G7;rw[Arr.avc]at h;simp only[go_sem,seval];refine aC (h) ?_;cases b1:gD a
 case false=>have:atA a ix=(0,1):=if_pos b1;simp only[atV,this,go_sem,seval]
 simp only[go_sem,seval];refine aC (h964 a.dims.nl a.dims.cl a.dims.es a.dims.ok nl cl ix) ?_;simp only[go_sem,seval];cases b2:decide ((fH a.dims.es ix).2=0)
 case false=>
  have:atA a ix=(0,(fH a.dims.es ix).2):=by rw[atA,if_neg (by simp[b1]),if_pos (aK b2)]
  simp only[b2,atV,this,go_sem,seval]
 have n2:=aG b2;have hat:atA a ix=(a.data.es[(fH a.dims.es ix).1.toNat]?.getD 0,0):=by rw[atA,if_neg (by simp[b1]),if_neg (by simpa using n2)]
 obtain⟨m1,m2⟩:=LQ n2;have hdl:(a.data.es.length:Int)=(bV a.dims.es).1:=by simp only[gD,aD,aQ]at b1;exact b1.2.2.1
 have m3:(fH a.dims.es ix).1.toNat<a.data.es.length:=by omega
 have hg:a.data.es[(fH a.dims.es ix).1.toNat]?=some (a.data.es[(fH a.dims.es ix).1.toNat]'m3):=bJ m3;have m1':(0<=(fH a.dims.es ix).1)=True:=eq_true m1;simp only[b2,m1',hg,atV,hat,Option.getD_some,go_sem,seval]
theorem c303(hf:pg.fs 303=some HU)(h336:∀(t:List UInt8) (nl cl:Bool) (ds:List Int),ds.length<=big->(nl=true->ds=[])->∀(nl' cl':Bool) (xs:List Int),xs.length<=big->(nl'=true->xs=[])->cB pg 336 [.str t,.sl nl (ds.map aE) cl,.sl nl' (xs.map aE) cl'] (OfR (ofE t ds xs)))
  (a:Arr) (n1:a.dims.nl=true->a.dims.es=[]) (n2:a.data.nl=true->a.data.es=[]):Ret pg 303 [a.av] (.bool (gD a)):=by
 refine Ret.ofX hf ?_;unfold HU;obtain⟨r,hr,s,n1,l1,k1,n2,l2,k2,rfl⟩:=h336 a.elem.bs a.dims.nl a.dims.cl a.dims.es a.dims.ok n1 a.data.nl a.data.cl a.data.es a.data.ok n2;simp only[go_sem,seval];refine aC (hr) ?_;simp only[go_sem,seval];rw[CG]
theorem c404(hf:pg.fs 404=some HJ)(a:Arr)(h303:Ret pg 303 [a.av] (.bool (gD a)))(h443:∀nl cl (ds:List Int),ds.length<=big->∀nl' cl' ix,Ret pg 443 [.sl nl (ds.map aE) cl,.sl nl' (ix.map aE) cl'] (.tup [.int .i64 (fH ds ix).1,.int .i64 (fH ds ix).2]))
  (nl cl:Bool) (ix:List Int):Ret pg 404 [a.av,.sl nl (ix.map aE) cl] (bif gD a then .tup [.int .i64 (fH a.dims.es ix).1,.int .i64 (fH a.dims.es ix).2] else .tup [.int .i64 0,.int .i64 1]):=by
 have h:=h303;refine Ret.ofX hf ?_;unfold HJ;rw[Arr.avc]at h;simp only[go_sem,seval];refine aC (h) ?_;cases b1:gD a
 case false=>simp only[go_sem,seval]
 simp only[go_sem,seval];refine aC (h443 a.dims.nl a.dims.cl a.dims.es a.dims.ok nl cl ix) ?_;simp only[go_sem,seval]
theorem c384(hf:pg.fs 384=some HM)(a:Arr)(nl cl:Bool)(ix:List Int)(h404:Ret pg 404 [a.av,.sl nl (ix.map aE) cl] (bif gD a then .tup [.int .i64 (fH a.dims.es ix).1,.int .i64 (fH a.dims.es ix).2] else .tup [.int .i64 0,.int .i64 1])):Ret pg 384 [a.av,.sl nl (ix.map aE) cl] (atV a ix):=by
 have h:=h404;refine Ret.ofX hf ?_;unfold HM;rw[Arr.avc]at h;simp only[go_sem,seval];cases b1:gD a
 case false=>rw[b1]at h;have:atA a ix=(0,1):=if_pos b1;refine aC (h) ?_;simp only[atV,this,go_sem,seval]
 rw[b1]at h;refine aC (h) ?_;simp only[go_sem,seval];cases b2:decide ((fH a.dims.es ix).2=0)
 case false=>
  have:atA a ix=(0,(fH a.dims.es ix).2):=by rw[atA,if_neg (by simp[b1]),if_pos (aK b2)]
  simp only[b2,atV,this,go_sem,seval]
 have n2:=aG b2;have hat:atA a ix=(a.data.es[(fH a.dims.es ix).1.toNat]?.getD 0,0):=by rw[atA,if_neg (by simp[b1]),if_neg (by simpa using n2)]
 obtain⟨m1,m2⟩:=LQ n2;have hdl:(a.data.es.length:Int)=(bV a.dims.es).1:=by simp only[gD,aD,aQ]at b1;exact b1.2.2.1
 have m3:(fH a.dims.es ix).1.toNat<a.data.es.length:=by omega
 have hg:a.data.es[(fH a.dims.es ix).1.toNat]?=some (a.data.es[(fH a.dims.es ix).1.toNat]'m3):=bJ m3;have m1':(0<=(fH a.dims.es ix).1)=True:=eq_true m1;simp only[b2,m1',hg,atV,hat,Option.getD_some,go_sem,seval]
end
end
section
def gS(env:List Val)(s:List UInt8):Option Int:=(env.find? λv=>decide (v.v.bs=s)).map (·.n)
def lB(env:List Val):Prop:=(env.map λv=>v.v.bs).Nodup
def zW(env:List Val):List bH->Int->Option Int
 |[],n=>some n
 |t::r,n=>if 1073741824<(gS env t.v.bs).getD 0\/(gS env t.v.bs).getD 0 < -1073741824 then none else zW env r (wr .i64 (n+wr .i64 (t.c*(gS env t.v.bs).getD 0)))
def gY(env:List Val)(l:Lin):Option Int:=
 match zW env l.ts.es l.c with
 |none=>none
 |some n=>if 1099511627776<n\/n < -1099511627776 then none else some n
def oI(o:Option Int):AV:=match o with|none => .tup [.int .i64 0,.int .i64 3]|some n => .tup [.int .i64 n,.int .i64 0]
theorem LY:∀{env:List Val}(_:lB env){k:Nat}{v:Val},env[k]?=some v->gS env v.v.bs=some v.n
 |[],_,_,_,h=>by simp at h
 |x::r,hd,0,v,h=>by simp only[List.getElem?_cons_zero,aO]at h;subst h;simp[gS]
 |x::r,hd,k+1,v,h=>by simp only[List.getElem?_cons_succ]at h;simp only[lB,List.map_cons,List.nodup_cons]at hd;have hm:v.v.bs∈r.map λv=>v.v.bs:=List.mem_map.2 ⟨v,List.mem_of_getElem? h,rfl⟩;have hne:¬x.v.bs=v.v.bs:=λe=>hd.1 (e ▸ hm);have:=LY hd.2 h;simpa[gS,List.find?_cons,hne] using this
theorem aDs{α : Type}{l d r:List α}{x : α}(h:l.reverse=d++x::r):d.length<l.length/\l[l.length-1-d.length]?=some x:=by
 have hl:l.length=d.length+(r.length+1):=by have:=congrArg List.length h;simpa using this
 refine⟨by omega,?_⟩;have:l=r.reverse++x::d.reverse:=by have:=congrArg List.reverse h;simpa using this
 rw[this];simp
section
variable{pg:Pg}
set_option maxRecDepth 100000 in
theorem c949(hf:pg.fs 949=some HA)(l:Lin)(nl cl:Bool)(env:List Val)(hb:env.length<=big)(hd:lB env)(hfd:∀t∈l.ts.es,(gS env t.v.bs).isSome=true) :
  Ret pg 949 [l.av,.sl nl (env.map Val.av) cl] (oI (gY env l)):=by
 refine Ret.ofX hf ?_;have hlb:=l.ts.ok;unfold HA;simp only[go_sem,seval]
 refine aM l.ts.es (λd r e hp=>∃n,e=DZ (.sl nl (env.map Val.av) cl) (.pt 1 0 0) (.int .i64 n) (.int .i64 d.length) /\
  hp.get 1=some (0,.blk [.int .i64 l.c,.sl l.ts.nl (l.ts.es.map bH.av) l.ts.cl] 2 true true false)/\zW env l.ts.es l.c=zW env r n) ?_ ?_ ?_
 exact⟨l.c,rfl,rfl,rfl⟩;rintro e hp ⟨n,rfl,hg,hI⟩;have hI:zW env l.ts.es l.c=some n:=hI;have hU:gY env l=if 1099511627776<n\/n < -1099511627776 then none else some n:=by rw[gY,hI]
 simp only[DY,DZ,hg,aY,go_sem,seval];cases b1:decide (1099511627776<n)
 case true=>have n1:=aG b1;rw[if_pos (.inl n1)]at hU;simp only[b1,hU,oI,go_sem,seval]
 have n1:=aK b1;cases b2:decide (n < -1099511627776)
 case true=>have n2:=aG b2;rw[if_pos (.inr n2)]at hU;simp only[b1,b2,hU,oI,go_sem,seval]
 have n2:=aK b2;rw[if_neg (by omega)]at hU;simp only[b1,b2,hU,oI,go_sem,seval]
 ·rintro d t r e hp hes ⟨n,rfl,hg,hI⟩;obtain⟨hget,e1,e2,ew⟩:=cG hes hlb;obtain⟨x,hx⟩:=Option.isSome_iff_exists.1 (hfd t (by rw[hes];simp));rw[zW,hx,Option.getD_some]at hI;have w0:wr .i64 ((env.length:Int)-1)=(env.length:Int)-1:=mY (by omega) (by simp only[big]at hb;omega);simp only[DY,DZ,hg,e1,e2,w0,go_sem,seval]
  refine aM env.reverse (λd2 r2 e hp=>e=qB (.sl nl (env.map Val.av) cl) (.pt 1 0 0) (.int .i64 n) (.int .i64 d.length) (.int .i64 ((env.length:Int)-1-d2.length)) /\
   hp.get 1=some (0,.blk [.int .i64 l.c,.sl l.ts.nl (l.ts.es.map bH.av) l.ts.cl] 2 true true false)/\∀v∈d2,¬v.v.bs=t.v.bs) ?_ ?_ ?_
  refine⟨?_,hg,by simp⟩;simp only[qB,clear,MZ,List.length_nil,Int.natCast_zero,Int.sub_zero,go_sem,seval];rintro e hp ⟨rfl,hg,hno⟩;exfalso;simp only[gS,iC]at hx;obtain⟨v,hv,_⟩:=hx;exact hno v (List.mem_reverse.2 (List.mem_of_find?_eq_some hv)) (by simpa using List.find?_some hv)
  ·rintro d2 v r2 e hp hes2 ⟨rfl,hg,hno⟩;obtain⟨g1,g2⟩:=aDs hes2;have i1:(0<=(env.length:Int)-1-(d2.length:Int))=True:=eq_true (by omega);have i1':decide (0<=(env.length:Int)-1-(d2.length:Int))=true:=by simp;omega
   have i2:((env.length:Int)-1-(d2.length:Int)).toNat=env.length-1-d2.length:=by omega
   have i3:wr .i64 ((env.length:Int)-1-(d2.length:Int)-1)=(env.length:Int)-1-((d2++[v]).length:Int):=by rw[mY (by omega) (by simp only[big]at hb;omega)];simp;omega
   cases b0:decide (v.v.bs=t.v.bs)
   case false=>simp only[sF,qB,hg,e1,e2,hget,i1,i1',i2,g2,b0,go_sem,seval];refine bI ?_;refine⟨by rw[i3];rfl,?_⟩;intro w hw;rcases lS.1 hw with hw|hw;exact hno w hw;simp only[List.mem_singleton]at hw;subst hw;exact aK b0
   have hvx:v.n=x:=by have:=LY hd g2;rw[aG b0,hx]at this;exact(Option.some.inj this).symm
   subst hvx;cases b1:decide (1073741824<v.n)
   case true=>
    rw[if_pos (.inl (aG b1))]at hI;have hU:gY env l=none:=by rw[gY,hI]
    simp only[sF,qB,hg,e1,e2,hget,i1,i1',i2,g2,b0,b1,go_sem,seval];refine bI ?_;rw[hU];rfl
   have n1:=aK b1;cases b2:decide (v.n < -1073741824)
   case true=>
    rw[if_pos (.inr (aG b2))]at hI;have hU:gY env l=none:=by rw[gY,hI]
    simp only[sF,qB,hg,e1,e2,hget,i1,i1',i2,g2,b0,b1,b2,go_sem,seval];refine bI ?_;rw[hU];rfl
   have n2:=aK b2;rw[if_neg (by omega)]at hI
   repeat (first|simp only[sF,qB,hg,e1,e2,hget,i1,i1',i2,g2,b0,b1,b2,ew,go_sem,seval]|refine bI ?_)
   exact⟨_,rfl,hI⟩
end
end
section
section
variable{pg:Pg}{kb:Nat}
theorem aFb(s:Nat)(h:Hp)(vs:List AV)(Q:AV->Eff->Prop)(t:Tok Q):XO pg kb .mkm s h vs Q t=XV (MC h (kb+s) vs) Q ⟨⟩:=cH rfl s h vs Q
theorem aEZ(q:Nat)(z:AV)(ok:Bool)(s:Nat)(h:Hp)(vs:List AV)(Q:AV->Eff->Prop)(t:Tok Q):XO pg kb (.mlk q z ok) s h vs Q t=XV (BB h q z ok vs) Q ⟨⟩:=cH rfl s h vs Q
theorem aEX(q:Nat)(s:Nat)(h:Hp)(vs:List AV)(Q:AV->Eff->Prop)(t:Tok Q):XO pg kb (.mup q) s h vs Q t=XV (u7 h q vs) Q ⟨⟩:=cH rfl s h vs Q
theorem X8(q:Nat)(s:Nat)(h:Hp)(vs:List AV)(Q:AV->Eff->Prop)(t:Tok Q):XO pg kb (.mdel q) s h vs Q t=XV (tU h q vs) Q ⟨⟩:=cH rfl s h vs Q
end
theorem QW(k:IntKind)(n:Int):AV.keyQ 0 (.int k n)=true:=rfl
theorem QV(b:List UInt8):AV.keyQ 1 (.str b)=true:=rfl
theorem N0(b:Bool):AV.keyQ 2 (.bool b)=true:=rfl
theorem SH(k e:Nat):AV.cells (.mp k e)=[.mp k e]:=rfl
theorem Q6(k e:Nat):AV.isAgg (.mp k e)=false:=rfl
attribute [go_sem] aFb aEZ aEX X8 MC BB u7 tU QW QV N0 SH Q6
end
section
structure Cn where
 rd:Int
 ops:Int
 wk:Int
 vi:List Int
inductive Rs where
 |ok (n:Int) (c:Cn)
 |er (e:Int)
def kvE(env:List Val):List (AV×AV):=env.map λv=>(.str v.v.bs,.int .i64 v.n)
private theorem eq1s(a b:List UInt8):eq1 (.str a) (.str b)=some (decide (a=b)):=rfl
theorem pD(s:List UInt8):∀env:List Val,hY (kvE env) (.str s)=some ((gS env s).map λn=>AV.int .i64 n)
 |[]=>rfl
 |x::r=>by have ih:=pD s r;simp only[kvE,List.map_cons,hY,eq1s]at ih ⊢;by_cases h:x.v.bs=s;subst h;simp[gS];have h':¬s=x.v.bs:=λe=>h e.symm;simp only[gS,List.find?_cons,h,h',decide_false]at ih ⊢;rw[<-ih]
def fD(m a:AV)(c:Cn)(vi:AV)(e:Int):Ob:=.blk [m,a,.int .i64 c.rd,.int .i64 0,.int .i64 c.ops,.int .i64 0,vi,.int .i64 c.wk,.int .i64 e] 9 true true false
def YJ(h:Hp)(vi:AV)(es:List Int):Prop:=∃k,Gr h k vi es/\65536<=k/\k % 65536=37/\(es=[]\/∃e,vi = .rf k e 0 es.length es.length)
def Ev(ev em:Nat)(a:AV)(env:List Val)(c:Cn)(e:Int)(h:Hp):Prop:=
 ∃vi bs ck,h.get 17=some (ev,fD (.mp 13 em) a c vi e)/\h.get 13=some (em,.mpo (kvE env) bs ck)/\YJ h vi c.vi
def cT(h h':Hp)(kb:Nat):Prop:=∀q,q<kb->q≠17->q≠13->q % 65536≠37->h'.get q=h.get q
theorem cT.refl(h:Hp)(kb:Nat):cT h h kb:=λ_ _ _ _ _=>rfl
theorem cT.trans{h h' h'':Hp}{kb kb':Nat}(a:cT h h' kb)(b:cT h' h'' kb')(hk:kb<=kb'):cT h h'' kb:=λq h1 h2 h3 h4=>(b q (by omega) h2 h3 h4).trans (a q h1 h2 h3 h4)
def EvP(ev em:Nat)(a:AV)(env:List Val)(h:Hp)(kb:Nat)(o:Rs)(r:AV)(h':Hp):Prop:=
 cT h h' kb/\match o with
 |.ok n c=>r = .int .i64 n/\Ev ev em a env c 0 h'
 |.er e=>(∃n,r = .int .i64 n)/\e≠0/\∃env' c',Ev ev em a env' c' e h'
theorem YJ.mono{h h':Hp}{v:AV}{es:List Int}(o:YJ h v es)(hk:∀q,65536<=q->q % 65536=37->h'.get q=h.get q):YJ h' v es:=by obtain⟨k,g,h1,h2⟩:=o;exact⟨k,g.mono (hk k h1 h2.1),h1,h2⟩
theorem Ev.mono{ev em:Nat}{a:AV}{env:List Val}{c:Cn}{e:Int}{h h':Hp}(o:Ev ev em a env c e h)(h1:h'.get 17=h.get 17)(h2:h'.get 13=h.get 13)(hk:∀q,65536<=q->q % 65536=37->h'.get q=h.get q):Ev ev em a env c e h':=by obtain⟨vi,bs,ck,a1,a2,a3⟩:=o;exact⟨vi,bs,ck,h1.trans a1,h2.trans a2,a3.mono hk⟩
section
variable{pg:Pg}
theorem c337(hf:pg.fs 337=some qP)(ev em:Nat)(a:AV)(env:List Val)(c:Cn)(kb:Nat)(h:Hp)(hkb:65536<=kb)(hv:Ev ev em a env c 0 h)(e:Int)(he:e≠0) :
  cL pg 337 [.pt 17 ev 0,.int .i64 e] kb h (EvP ev em a env h kb (.er e)):=by
 obtain⟨vi,bs,ck,a1,a2,a3⟩:=hv;refine cL.ofX hf ?_;unfold qP;simp only[a1,fD,go_sem,seval];refine⟨?_,⟨0,rfl⟩,he,env,c,vi,bs,ck,?_,?_,?_⟩;intro q h1 h2 h3 h4;rw[aB,if_neg (Ne.symm h2)];rw[aB,if_pos rfl];rfl;rw[aB,if_neg (by decide)];exact a2;exact a3.mono (λq h1 h2=>by rw[aB,if_neg (by omega)])
set_option maxRecDepth 100000 in
theorem c339(hf:pg.fs 339=some vH)(h337:pg.fs 337=some qP)(ev em:Nat)(a:AV)(env:List Val)(c:Cn)(kb:Nat)(h:Hp)(hkb:65536<=kb)(hkb2:kb % 65536=0)(hv:Ev ev em a env c 0 h)(l:Lin) :
  cL pg 339 [.pt 17 ev 0,l.av] kb h (EvP ev em a env h kb (match gY env l with|none => .er 3|some n => .ok n c)):=by
 have hlb:=l.ts.ok;refine cL.ofX hf ?_;unfold vH;have n1:(kb+1=17)=False:=eq_false (by omega);have n2:(kb+1=13)=False:=eq_false (by omega);simp only[go_sem,seval]
 refine aM l.ts.es (λd r e hp=>∃n,e=sK (.pt 17 ev 0) (.int .i64 n) (.sl l.ts.nl (l.ts.es.map bH.av) l.ts.cl) (.int .i64 l.ts.es.length) (.int .i64 d.length) /\
  Ev ev em a env c 0 hp/\cT h hp kb/\zW env l.ts.es l.c=zW env r n) ?_ ?_ ?_
 refine⟨l.c,rfl,hv.mono ?_ ?_ ?_,?_,rfl⟩<;>dsimp only;rw[aB,if_neg (by omega)];rw[aB,if_neg (by omega)];intro q h1 h2;rw[aB,if_neg (by omega)];intro q h1 h2 h3 h4;rw[aB,if_neg (by omega)];rintro e hp ⟨n,rfl,hv,hkp,hI⟩;have hI:zW env l.ts.es l.c=some n:=hI;have hU:gY env l=if 1099511627776<n\/n < -1099511627776 then none else some n:=by rw[gY,hI]
 simp only[sJ,sK,aY,go_sem,seval];cases b1:decide (1099511627776<n)
 case true=>have n1:=aG b1;rw[if_pos (.inl n1)]at hU;simp only[b1,go_sem,seval];refine aN (.inl rfl) (B:=(kb+13+1)*65536) rfl (c337 h337 ev em a env c _ hp (by omega) hv 3 (by decide)) ?_;rintro r h' ⟨q1,⟨m,rfl⟩,q3,env',c',q4⟩;simp only[hU,go_sem,seval];exact⟨hkp.trans q1 (by omega),⟨m,rfl⟩,by decide,env',c',q4⟩
 have n1:=aK b1;cases b2:decide (n < -1099511627776)
 case true=>have n2:=aG b2;rw[if_pos (.inr n2)]at hU;simp only[b1,b2,go_sem,seval];refine aN (.inl rfl) (B:=(kb+13+1)*65536) rfl (c337 h337 ev em a env c _ hp (by omega) hv 3 (by decide)) ?_;rintro r h' ⟨q1,⟨m,rfl⟩,q3,env',c',q4⟩;simp only[hU,go_sem,seval];exact⟨hkp.trans q1 (by omega),⟨m,rfl⟩,by decide,env',c',q4⟩
 have n2:=aK b2;rw[if_neg (by omega)]at hU;simp only[b1,b2,hU,go_sem,seval];exact⟨hkp,rfl,hv⟩
 ·rintro d t r e hp hes ⟨n,rfl,hv,hkp,hI⟩;obtain⟨hget,e1,e2,ew⟩:=cG hes hlb;rw[zW]at hI;have k12:(kb=12)=False:=eq_false (by omega);have k8:(kb=8)=False:=eq_false (by omega);have hv':=hv;obtain⟨vi,bs,ck,a1,a2,a3⟩:=hv;have hf:=pD t.v.bs env;have hq:(AV.str t.v.bs).keyQ 1=true:=rfl;obtain⟨x,hx⟩:∃x,x=(gS env t.v.bs).getD 0:=⟨_,rfl⟩
  rw[<-hx]at hI;have hlk:∀h2:Hp,h2.get 13=hp.get 13->BB h2 1 (.int .i64 0) false [.mp 13 em,.str t.v.bs]=some (.int .i64 x,.pat [13] []):=by intro h2 e2;simp only[BB,e2,a2,hq,and_self,if_true,hf];cases hl:gS env t.v.bs<;>simp[hx,hl]
  have hl2:=hlk ((hp.put (kb+5) (hp.next (kb+5)) (.blk [.str [],.int .i64 0] 2 true true false)).put (kb+5) (hp.next (kb+5)) (.blk [.str t.v.bs,.int .i64 t.c] 2 true true false)) (by rw[aB,if_neg (by omega),aB,if_neg (by omega)]);have hvH:∀o1 o2,Ev ev em a env c 0 ((hp.put (kb+5) (hp.next (kb+5)) o1).put (kb+5) (hp.next (kb+5)) o2):=by intro o1 o2;refine hv'.mono ?_ ?_ ?_;rw[aB,if_neg (by omega),aB,if_neg (by omega)];rw[aB,if_neg (by omega),aB,if_neg (by omega)];intro q h1 h2;rw[aB,if_neg (by omega),aB,if_neg (by omega)]
  have hkH:∀o1 o2,cT h ((hp.put (kb+5) (hp.next (kb+5)) o1).put (kb+5) (hp.next (kb+5)) o2) kb:=by intro o1 o2 q h1 h2 h3 h4;rw[aB,if_neg (by omega),aB,if_neg (by omega)];exact hkp q h1 h2 h3 h4
  cases b1:decide (1073741824<x)
  case true=>
   rw[if_pos (.inl (aG b1))]at hI;have hU:gY env l=none:=by rw[gY,hI]
   simp only[sJ,sK,e1,e2,hget,k12,a1,fD,↓hl2,b1,go_sem,seval];refine bI ?_;refine aN (.inl rfl) (B:=(kb+9+1)*65536) rfl (c337 h337 ev em a env c _ _ (by omega) (hvH _ _) 3 (by decide)) ?_;rintro r h' ⟨q1,⟨m,rfl⟩,q3,env',c',q4⟩;simp only[hU,go_sem,seval];exact⟨(hkH _ _).trans q1 (by omega),⟨m,rfl⟩,by decide,env',c',q4⟩
  have n1:=aK b1;cases b2:decide (x < -1073741824)
  case true=>
   rw[if_pos (.inr (aG b2))]at hI;have hU:gY env l=none:=by rw[gY,hI]
   simp only[sJ,sK,e1,e2,hget,k12,a1,fD,↓hl2,b1,b2,go_sem,seval];refine bI ?_;refine aN (.inl rfl) (B:=(kb+9+1)*65536) rfl (c337 h337 ev em a env c _ _ (by omega) (hvH _ _) 3 (by decide)) ?_;rintro r h' ⟨q1,⟨m,rfl⟩,q3,env',c',q4⟩;simp only[hU,go_sem,seval];exact⟨(hkH _ _).trans q1 (by omega),⟨m,rfl⟩,by decide,env',c',q4⟩
  have n2:=aK b2;rw[if_neg (by omega)]at hI
  repeat (first|simp only[sJ,sK,e1,e2,hget,k12,a1,fD,↓hl2,b1,b2,ew,go_sem,seval]|refine bI ?_)
  exact⟨_,rfl,hvH _ _,hkH _ _,hI⟩
end
end
end Go.Tev
