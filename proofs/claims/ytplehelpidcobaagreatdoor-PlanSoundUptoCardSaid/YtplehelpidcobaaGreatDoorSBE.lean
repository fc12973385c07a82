import Derived.Test.YtplehelpidcobaaGreatDoorSBD
import Derived.Test.YtplehelpidcobaaGreatDoorSBC
import Derived.Test.YtplehelpidcobaaGreatDoorSAY
set_option linter.all false
section
namespace Go.Tev
def dA(x:Val)(y:Str):Bool:=decide (x.v.bs=y.bs)&&(!decide (x.n<0) && !decide (4096<x.n))
def eJ(g:Typ->Bool):List Sp->List Typ->Bool
 | s::r,t::q=>(decide (s.1 = -2)||g t)&&eJ g r q
 |_,_=>true
def dW(k:aA)(ds:List Val):Int:=
 if (cQ k).2=0 then
  (if eqL dA ds k.vars.es then
   (if k.wher.es.all (fun l=>decide (0<=(bM ds l).1)) then
    (if eJ (fun t=>(eX ds t).2) (aF k) k.values.es then 0 else 3)
   else 2)
  else 1)
 else 22
def d6(ds:List Val)(t:Typ):Int:=(eX ds t).1
def fY(k:aA)(ds:List Val):AV:=
 if dW k ds=0 then .tup [.sl false ((cZ (d6 ds) (aF k) k.values.es).map aG) true,.int .i64 0] else .tup [.sl true [] true,.int .i64 (dW k ds)]
theorem xQ:∀(ds:List Val)(vars:List Str)(s:List UInt8),eqL dA ds vars=true->jV vars s=true->∃v,mN ds s=some v/\0<=v.n/\v.n<=4096
 |[],[],s,_,h=>by simp[jV]at h
 |[],_::_,s,h,_=>by simp[eqL]at h
 |_::_,[],s,h,_=>by simp[eqL]at h
 |x::r,y::q,s,h,hs=>by
  simp only[eqL,Bool.and_eq_true]at h
  obtain⟨h1,h2⟩:=h
  simp only[dA,Bool.and_eq_true,decide_eq_true_eq,Bool.not_eq_true',decide_eq_false_iff_not]at h1
  by_cases he:x.v.bs=s
  ·exact⟨x,by simp[mN,he],by omega,by omega⟩
  ·have hq:jV q s=true:=by
    simp only[jV,List.any_cons,Bool.or_eq_true,decide_eq_true_eq]at hs
    rcases hs with h|h
    ·exact absurd (h1.1.trans h.symm) he
    ·simpa[jV] using h
   obtain⟨v,q1,q2⟩:=xQ r q s h2 hq
   exact⟨v,by simpa[mN,he] using q1,q2⟩
theorem FH(ds:List Val)(vars:List Str)(h:eqL dA ds vars=true):∀(ts:List bS)(n:Int),(ts.all fun x=>jV vars x.v.bs)=true->(j6 ds n ts).2=0
 |[],n,_=>rfl
 |c::r,n,ht=>by
  simp only[List.all_cons,Bool.and_eq_true]at ht
  obtain⟨v,q1,q2,q3⟩:=xQ ds vars c.v.bs h ht.1
  have b1:decide (v.n < -1000000000)=false:=by simp;omega
  have b2:decide (1000000000<v.n)=false:=by simp;omega
  simp only[j6,q1,b1,b2,Bool.or_false,Bool.false_eq_true,if_false]
  exact FH ds vars h r _ ht.2
theorem FI{ds:List Val}{vars:List Str}(h:eqL dA ds vars=true){ls:List Lin}(ho:bX ls vars=true):∀l∈ls,(bM ds l).2=0:=by
 intro l hl
 simp only[bX,List.all_eq_true,Bool.and_eq_true]at ho
 obtain⟨h1,h2⟩:=ho l hl
 simp only[bM,h1,if_true]
 exact FH ds vars h _ _ (by rw[List.all_eq_true];exact h2)
def IE(n:Int)(L:List Int):Int:=L.foldl (fun n a=>IG a n) n
def tW(n:Int)(L:List Int):Int:=L.foldl (fun n a=>wr .i64 (n*a)) n
def lQ(n a:Int):Int:=if 1099511627776<wr .i64 (n*a) then 1099511627776 else wr .i64 (n*a)
theorem OZ{a n:Int}(h:0<=a):IG a n=lQ n a:=by
 have:¬a<0:=by omega
 simp only[IG,lQ,this,if_false]
theorem FU:∀(L:List Int)(n:Int),(∀a∈L,0<=a)->IE n L=L.foldl lQ n
 |[],n,_=>rfl
 |a::r,n,h=>by
  simp only[IE,List.foldl_cons]
  rw[OZ (h a (by simp))]
  exact FU r _ (fun x hx=>h x (List.mem_cons_of_mem _ hx))
theorem M9{n a:Int}(h0:0<=n)(h1:n<=1099511627776)(h2:0<=a)(h3:a<=4096):0<=n*a/\n*a<=4503599627370496:=by
 refine⟨Int.mul_nonneg h0 h2,?_⟩
 exact Int.le_trans (Int.mul_le_mul h1 h3 h2 (by omega)) (by decide)
theorem yS:∀L:List Int,tW 0 L=0
 |[]=>rfl
 |a::r=>by
  simp only[tW,List.foldl_cons,Int.zero_mul]
  exact yS r
theorem CC:∀L:List Int,L.foldl lQ 0=0
 |[]=>rfl
 |a::r=>by
  simp only[List.foldl_cons,lQ,Int.zero_mul]
  exact CC r
theorem vT:∀(L:List Int)(n m:Int),(0:Int)∈L->tW m L=0/\L.foldl lQ n=0
 |[],n,m,h=>by simp at h
 |a::r,n,m,h=>by
  by_cases ha:a=0
  ·subst ha
   simp only[tW,List.foldl_cons,lQ,Int.mul_zero]
   exact⟨yS r,CC r⟩
  ·have:(0:Int)∈r:=by
    rcases List.mem_cons.1 h with h|h
    ·exact absurd h.symm ha
    ·exact h
   simp only[tW,List.foldl_cons]
   exact vT r _ _ this
theorem C8:∀(L:List Int)(n:Int),0<=n->n<=1099511627776->(∀a∈L,1<=a/\a<=4096)->n<=L.foldl lQ n/\L.foldl lQ n<=1099511627776
 |[],n,_,h,_=>⟨Int.le_refl _,h⟩
 |a::r,n,h0,h1,h=>by
  obtain⟨a1,a2⟩:=h a (by simp)
  obtain⟨m1,m2⟩:=M9 h0 h1 (by omega:0<=a) a2
  have hm:n<=n*a:=by
   have:=Int.mul_le_mul_of_nonneg_left a1 h0
   omega
  have hw:wr .i64 (n*a)=n*a:=aV (by omega) (by omega)
  simp only[List.foldl_cons]
  have hc:n<=lQ n a/\lQ n a<=1099511627776/\0<=lQ n a:=by
   simp only[lQ,hw]
   split<;>omega
  obtain⟨q1,q2⟩:=C8 r (lQ n a) hc.2.2 hc.2.1 (fun x hx=>h x (List.mem_cons_of_mem _ hx))
  exact⟨by omega,q2⟩
theorem JJ:∀(L:List Int)(n:Int),0<=n->n<=1099511627776->(∀a∈L,1<=a/\a<=4096)->L.foldl lQ n<=4096->tW n L=L.foldl lQ n
 |[],n,_,_,_,_=>rfl
 |a::r,n,h0,h1,h,hle=>by
  obtain⟨a1,a2⟩:=h a (by simp)
  obtain⟨m1,m2⟩:=M9 h0 h1 (by omega:0<=a) a2
  have hw:wr .i64 (n*a)=n*a:=aV (by omega) (by omega)
  have hr:∀x∈r,1<=x/\x<=4096:=fun x hx=>h x (List.mem_cons_of_mem _ hx)
  simp only[tW,List.foldl_cons]at hle ⊢
  by_cases hb:1099511627776<n*a
  ·have:lQ n a=1099511627776:=by simp only[lQ,hw,hb,if_true]
   rw[this]at hle
   have:=(C8 r 1099511627776 (by decide) (Int.le_refl _) hr).1
   omega
  ·have hm:lQ n a=n*a:=by simp only[lQ,hw,hb,if_false]
   rw[hm]at hle ⊢
   rw[hw]
   exact JJ r (n*a) m1 (by omega) hr hle
theorem MU{L:List Int}(h:∀a∈L,0<=a/\a<=4096)(hle:L.foldl lQ 1<=4096):tW 1 L=L.foldl lQ 1:=by
 by_cases h0:(0:Int)∈L
 ·obtain⟨a,b⟩:=vT L 1 1 h0
  rw[a,b]
 ·refine JJ L 1 (by decide) (by decide) (fun a ha=>?_) hle
  have:=h a ha
  have:a≠0:=fun e=>h0 (e ▸ ha)
  omega
def jQ(ds:List Val)(l:Lin):Bool:=decide ((bM ds l).2=0)&&(decide (0<=(bM ds l).1)&&decide ((bM ds l).1<=4096))
def oY(ds:List Val)(t:Typ):List Int:=t.shape.dims.es.map fun l=>(bM ds l).1
def jM(ds:List Val)(t:Typ):Bool:=t.shape.dims.es.all (jQ ds)&&decide ((oY ds t).foldl lQ 1<=4096)
theorem yG(ds:List Val):∀(ls:List Lin)(n:Int)(b:Bool),mQ ds n b ls=(IE n (ls.map fun l=>(bM ds l).1),b&&ls.all fun l=>decide (0<=(bM ds l).1)&&decide ((bM ds l).1<=4096))
 |[],n,b=>by simp[mQ,IE]
 |l::r,n,b=>by
  simp only[mQ,yG ds r,IE,List.map_cons,List.foldl_cons,List.all_cons,Bool.and_assoc]
theorem EB{ds:List Val}{vars:List Str}(h:eqL dA ds vars=true){t:Typ}(ho:bX t.shape.dims.es vars=true) :
  jM ds t=(eX ds t).2/\((eX ds t).2=true->tW 1 (oY ds t)=d6 ds t/\0<=d6 ds t/\d6 ds t<=4096):=by
 have hev:=FI h ho
 have h1:t.shape.dims.es.all (jQ ds)=t.shape.dims.es.all fun l=>decide (0<=(bM ds l).1)&&decide ((bM ds l).1<=4096):=by
  rw[Bool.eq_iff_iff,List.all_eq_true,List.all_eq_true]
  constructor
  ·intro g l hl
   have:=g l hl
   simp only[jQ,Bool.and_eq_true]at this ⊢
   exact this.2
  ·intro g l hl
   have:=g l hl
   simp only[jQ,hev l hl,decide_true,Bool.true_and]
   exact this
 have h2:(eX ds t).2=(t.shape.dims.es.all (fun l=>decide (0<=(bM ds l).1)&&decide ((bM ds l).1<=4096))&&decide (IE 1 (oY ds t)<=4096)):=by
  simp only[eX,yG,Bool.true_and];rfl
 have h3:d6 ds t=IE 1 (oY ds t):=by simp only[d6,eX,yG];rfl
 rw[jM,h1,h2]
 cases ha:t.shape.dims.es.all (fun l=>decide (0<=(bM ds l).1)&&decide ((bM ds l).1<=4096))
 ·exact⟨rfl,fun h=>by simp at h⟩
 ·have hin:∀a∈oY ds t,0<=a/\a<=4096:=by
   intro a hm
   simp only[oY,List.mem_map]at hm
   obtain⟨l,hl,rfl⟩:=hm
   rw[List.all_eq_true]at ha
   have:=ha l hl
   simp only[Bool.and_eq_true,decide_eq_true_eq]at this
   exact this
  have hcm:=FU (oY ds t) 1 (fun a ha=>(hin a ha).1)
  rw[hcm]at h3 ⊢
  refine⟨rfl,fun hle=>?_⟩
  simp only[Bool.true_and,decide_eq_true_eq]at hle
  refine⟨by rw[h3];exact MU hin hle,?_,by rw[h3];exact hle⟩
  rw[h3]
  by_cases h0:(0:Int)∈oY ds t
  ·rw[(vT _ 1 1 h0).2];decide
  ·have:=(C8 (oY ds t) 1 (by decide) (by decide) (fun a ha=>by
    have:=hin a ha
    have:a≠0:=fun e=>h0 (e ▸ ha)
    omega)).1
   omega
theorem BV{k:aA}(ok:fW k):bX k.wher.es k.vars.es=true/\∀t∈k.values.es,bX t.shape.dims.es k.vars.es=true:=by
 have hso:=ok.out
 simp only[aZ,Bool.and_eq_true,decide_eq_true_eq]at hso
 obtain⟨_,⟨⟨⟨⟨⟨⟨_,hw⟩,_⟩,_⟩,_⟩,_⟩,_⟩,hty⟩:=hso
 refine⟨hw,fun t ht=>?_⟩
 rw[List.all_eq_true]at hty
 have:=hty t ht
 simp only[fB,Bool.and_eq_true]at this
 exact this.2
end Go.Tev
end
section
namespace Go.Tev
theorem D8{k:aA}{ds:List Val}(h:¬(cQ k).2=0):fY k ds = .tup [.sl true [] true,.int .i64 22]:=by
 have:dW k ds=22:=by rw[dW,if_neg h]
 rw[fY,this];rfl
theorem nP{k:aA}{ds:List Val}(h:(cQ k).2=0)(h1:eqL dA ds k.vars.es=false):fY k ds = .tup [.sl true [] true,.int .i64 1]:=by
 have:dW k ds=1:=by rw[dW,if_pos h,h1];rfl
 rw[fY,this];rfl
theorem D7{k:aA}{ds:List Val}(h:(cQ k).2=0)(h1:eqL dA ds k.vars.es=true)(h2:k.wher.es.all (fun l=>decide (0<=(bM ds l).1))=false):fY k ds = .tup [.sl true [] true,.int .i64 2]:=by
 have:dW k ds=2:=by rw[dW,if_pos h,h1,h2];rfl
 rw[fY,this];rfl
theorem AI{k:aA}{ds:List Val}(h:(cQ k).2=0)(h1:eqL dA ds k.vars.es=true)(h2:k.wher.es.all (fun l=>decide (0<=(bM ds l).1))=true)(h3:eJ (fun t=>(eX ds t).2) (aF k) k.values.es=false):fY k ds = .tup [.sl true [] true,.int .i64 3]:=by
 have:dW k ds=3:=by rw[dW,if_pos h,h1,h2,h3];rfl
 rw[fY,this];rfl
theorem FR{k:aA}{ds:List Val}(h:(cQ k).2=0)(h1:eqL dA ds k.vars.es=true)(h2:k.wher.es.all (fun l=>decide (0<=(bM ds l).1))=true)(h3:eJ (fun t=>(eX ds t).2) (aF k) k.values.es=true):dW k ds=0:=by
 rw[dW,if_pos h,h1,h2,h3];rfl
theorem GN{k:aA}{ds:List Val}(h:(cQ k).2=0)(h1:eqL dA ds k.vars.es=true)(h2:k.wher.es.all (fun l=>decide (0<=(bM ds l).1))=true)(h3:eJ (fun t=>(eX ds t).2) (aF k) k.values.es=true) :
  fY k ds = .tup [.sl false ((cZ (d6 ds) (aF k) k.values.es).map aG) true,.int .i64 0]:=by
 rw[fY,if_pos (FR h h1 h2 h3)]
def nW(ds:List Val)(t:Typ)(r:AV):Prop:=if jM ds t then ∃nl cl,r = .tup [.sl nl ((oY ds t).map aG) cl,.int .i64 0] else r = .tup [.sl true [] true,.int .i64 3]
theorem uQ{ds:List Val}{t:Typ}(h:jM ds t=false):nW ds t (.tup [.sl true [] true,.int .i64 3]):=by
 rw[nW,h];rfl
theorem QW{ds:List Val}{t:Typ}{r:AV}(h:jM ds t=true)(hr:∃nl cl,r = .tup [.sl nl ((oY ds t).map aG) cl,.int .i64 0]):nW ds t r:=by
 rw[nW,h];exact hr
section
variable{pg:Pg}
theorem aCS(hf:pg.fs 16=some cf16)(k:aA)(h9:bJ pg 9 [k.av] (iC k))(nl cl:Bool)(ds:List Val)(hb:ds.length<=big)
  (h32:∀l:Lin,Ret pg 32 [l.av,.sl nl (ds.map Val.av) cl] (.tup [.int .i64 (bM ds l).1,.int .i64 (bM ds l).2])) (h33:∀t:Typ,Ret pg 33 [t.av,.sl nl (ds.map Val.av) cl] (.tup [.int .i64 (d6 ds t),.bool (eX ds t).2])) :
  Ret pg 16 [k.av,.sl nl (ds.map Val.av) cl] (fY k ds):=by
 obtain⟨r9,hr9,hs9⟩:=h9
 refine Ret.ofX hf ?_
 unfold cf16
 simp only[aA.av,aA.cells,go_sem,seval]
 rcases iZ (k:=k) with hc|hc
 ·have ok:=eH hc
  have hso:=ok.out
  simp only[aZ,Bool.and_eq_true,decide_eq_true_eq]at hso
  obtain⟨_,⟨⟨⟨⟨⟨⟨_,_⟩,hi0⟩,_⟩,hiV⟩,_⟩,_⟩,_⟩:=hso
  have hsl:=gV (k:=k) (by omega)
  have hVb:=k.values.ok
  have htr:treeL ((aF k).map aR)=true:=bK (f:=aR) (fun s=>by simp[aR,go_sem]) _
  rw[iC,if_pos hc]at hs9
  subst hs9
  refine aB hr9 (by simp only[aA.av,aA.cells,go_sem,seval]) (by first|rfl|(simp[AV.tree,htr])) ?_
  simp only[go_sem,seval]
  cases hl:decide ((ds.length:Int)=k.vars.es.length)
  case false=>
   simp only[hl,go_sem,seval]
   rw[nP hc (tH hl)]
  case true=>
   have hlv:ds.length=k.vars.es.length:=by
    have:=of_decide_eq_true hl
    omega
   simp only[hl,go_sem,seval]
   refine aI ds (fun d r env hp=>env=cf16E0 (.sl nl (ds.map Val.av) cl) (.pt 1 0 0) (.sl false ((aF k).map aR) false) (.sl nl (ds.map Val.av) cl) (.int .i64 ds.length) (.int .i64 d.length) /\
    hp.get 1=some (0,.blk k.cells 6 true true false)/\eqL dA ds k.vars.es=eqL dA r (k.vars.es.drop d.length)) ?_ ?_ ?_
   ·refine⟨rfl,?_,rfl⟩
    simp only[go_sem,seval]
    rfl
   ·rintro env hp ⟨rfl,g1,hD⟩
    have hD':eqL dA ds k.vars.es=true:=by rw[hD,lE hlv]
    have g1':=g1
    simp only[aA.cells,Sl.av]at g1
    simp only[cf16L0,cf16E0,g1,go_sem,seval]
    refine aI k.wher.es (fun d r env hp=>env=cf16E1 (.sl nl (ds.map Val.av) cl) (.pt 1 0 0) (.sl false ((aF k).map aR) false) (.sl k.wher.nl (k.wher.es.map Lin.av) k.wher.cl) (.int .i64 k.wher.es.length) (.int .i64 d.length) /\
     hp.get 1=some (0,.blk k.cells 6 true true false)/\k.wher.es.all (fun l=>decide (0<=(bM ds l).1))=r.all (fun l=>decide (0<=(bM ds l).1))) ?_ ?_ ?_
    ·exact⟨rfl,g1',rfl⟩
    ·clear g1 g1' hp
     rintro env hp ⟨rfl,g1,hW⟩
     have hW':k.wher.es.all (fun l=>decide (0<=(bM ds l).1))=true:=by rw[hW];rfl
     have g1':=g1
     simp only[aA.cells,Sl.av]at g1
     simp only[cf16L1,cf16E1,g1,go_sem,seval]
     have hV30:((k.values.es.length:Int)<=1073741824)=True:=eq_true (by simp only[big]at hVb;omega)
     generalize hE:hp.next 21=E
     simp only[hV30,go_sem,seval]
     refine aI (aF k) (fun d r env hp=>env=cf16E2 (.sl nl (ds.map Val.av) cl) (.pt 1 0 0) (.rf 21 E 0 k.values.es.length k.values.es.length) (.sl false ((aF k).map aR) false) (.int .i64 (aF k).length) (.int .i64 d.length) /\
      hp.get 1=some (0,.blk k.cells 6 true true false)/\hp.get 21=some (E,.blk ((qY (d6 ds) d k.values.es).map aG) 1 false true false)/\eJ (fun t=>(eX ds t).2) (aF k) k.values.es=eJ (fun t=>(eX ds t).2) r (k.values.es.drop d.length)) ?_ ?_ ?_
     ·refine⟨rfl,?_,?_,rfl⟩
      ·simp only[go_sem,seval]
       exact g1'
      ·simp only[go_sem,seval]
       simp[qY,cZ,aG,hE]
     ·clear g1 g1' hE hp
      rintro env hp ⟨rfl,g1,g2,hS⟩
      have hS':eJ (fun t=>(eX ds t).2) (aF k) k.values.es=true:=by rw[hS];rfl
      have hpl:qY (d6 ds) (aF k) k.values.es=cZ (d6 ds) (aF k) k.values.es:=by simp[qY,hsl]
      rw[hpl]at g2
      have hsn:=L8 g2 61
      rw[kY (d6 ds) _ _ (by omega),hsl]at hsn
      simp only[cf16L2,cf16E2,go_sem,seval]
      simp only[Tev.conv,depth,eD,bW,bB,↓hsn,go_sem]
      rw[GN hc hD' hW' hS']
     ·clear g1 g1' hE hp
      rintro d x r env hp hes ⟨rfl,g1,g2,hS⟩
      have hlt:d.length<k.values.es.length:=by rw[<-hsl,hes];simp
      obtain⟨t,ht⟩:∃t,k.values.es[d.length]?=some t:=⟨_,List.getElem?_eq_getElem hlt⟩
      have hget:(aF k)[d.length]?=some x:=by rw[hes];simp
      have hSx:eJ (fun t=>(eX ds t).2) (aF k) k.values.es=((decide (x.1 = -2)||(eX ds t).2)&&eJ (fun t=>(eX ds t).2) r (k.values.es.drop (d++[x]).length)):=by
       rw[hS,List.drop_eq_getElem_cons hlt,eJ]
       rw[List.getElem?_eq_getElem hlt]at ht
       cases ht
       simp
      have hvl:((d.length:Int)<(k.values.es.length:Int))=True:=eq_true (by omega)
      have hsl2:((d.length:Int)<((aF k).length:Int))=True:=eq_true (by omega)
      have hsl3:decide ((d.length:Int)<((aF k).length:Int))=true:=by simp;omega
      have g1':=g1
      simp only[aA.cells,Sl.av]at g1
      have hsb:(d++x::r).length<=big:=by rw[<-hes,hsl];exact hVb
      simp only[cf16L2,cf16E2,g1,hget,hsl2,hsl3,aR,go_sem,seval]
      cases b1:decide (x.1 = -2)
      case true=>
       simp only[b1,aM hsb,go_sem,seval]
       refine⟨rfl,g1',?_,by rw[hSx,b1];rfl⟩
       rw[KL (d6 ds) x d k.values.es t ht (of_decide_eq_true b1)]
       exact g2
      simp only[b1,ht,hvl,g1,go_sem,seval]
      refine aB (h33 t) (by simp only[go_sem,seval]) rfl ?_
      simp only[go_sem,seval]
      cases b2:(eX ds t).2
      case false=>
       simp only[go_sem,seval]
       rw[AI hc hD' hW' (by rw[hSx,b1,b2];rfl)]
      have b1':¬x.1 = -2:=of_decide_eq_false b1
      have hpl:=MX (d6 ds) d k.values.es (by omega)
      have hle:(0+d.length*1+1<=(qY (d6 ds) d k.values.es).length)=True:=eq_true (by rw[hpl];omega)
      have hst:List.take (0+d.length*1) ((qY (d6 ds) d k.values.es).map aG)++[.int .i64 (d6 ds t)]++List.drop (0+d.length*1+1) ((qY (d6 ds) d k.values.es).map aG)=(qY (d6 ds) (d++[x]) k.values.es).map aG:=by
       rw[MW (d6 ds) x d k.values.es t ht b1',Nat.zero_add,Nat.mul_one]
      simp only[b2,aM hsb,g2,hvl,hle,hst,go_sem,seval]
      exact⟨rfl,g1',by rw[hSx,b1,b2];rfl⟩
    ·clear g1 g1' hp
     rintro d x r env hp hes ⟨rfl,g1,hW⟩
     have hwb:=k.wher.ok
     obtain⟨hget,x1,x2,xw⟩:=cF hes hwb
     have hr32:=h32 x
     simp only[cf16L1,cf16E1,hget,x1,x2,go_sem,seval]
     refine aB hr32 (by simp only[go_sem,seval]) rfl ?_
     simp only[go_sem,seval]
     cases b1:decide ((bM ds x).1<0)
     case true=>
      have b1':decide (0<=(bM ds x).1)=false:=by simp at b1 ⊢;omega
      simp only[b1,go_sem,seval]
      rw[D7 hc hD' (by rw[hW,List.all_cons,b1'];rfl)]
     have b1':decide (0<=(bM ds x).1)=true:=by simp at b1 ⊢;omega
     simp only[b1,xw,go_sem,seval]
     exact⟨rfl,g1,by rw[hW,List.all_cons,b1'];rfl⟩
   ·rintro d x r env hp hes ⟨rfl,g1,hD⟩
    obtain⟨hget,x1,x2,xw⟩:=cF hes hb
    obtain⟨y,hy,_,hvl,hq⟩:=yZ (q:=dA) hes hlv
    rw[hq]at hD
    have g1':=g1
    simp only[aA.cells,Sl.av]at g1
    simp only[cf16L0,cf16E0,g1,hy,hvl,hget,x1,x2,go_sem,seval]
    cases b1:decide (x.v.bs=y.bs)
    case false=>
     simp only[b1,go_sem,seval]
     exact⟨by kernel_rfl,by rw[nP hc (by rw[hD,dA,b1];rfl)]⟩
    cases b2:decide (x.n<0)
    case true=>
     simp only[b1,b2,go_sem,seval]
     exact⟨by kernel_rfl,by rw[nP hc (by rw[hD,dA,b1,b2];rfl)]⟩
    cases b3:decide (4096<x.n)
    case true=>
     simp only[b1,b2,b3,go_sem,seval]
     exact⟨by kernel_rfl,by rw[nP hc (by rw[hD,dA,b1,b2,b3];rfl)]⟩
    simp only[b1,b2,b3,xw,go_sem,seval]
    exact⟨by kernel_rfl,rfl,g1',by rw[hD,dA,b1,b2,b3];rfl⟩
 ·rw[iC,if_neg (by omega)]at hs9
  subst hs9
  refine aB hr9 (by simp only[aA.av,aA.cells,go_sem,seval]) rfl ?_
  simp only[go_sem,seval]
  rw[D8 (by omega)]
theorem c35(hf:pg.fs 35=some cf35)(h34:∀(l:Lin) (nl cl:Bool) (ds:List Val),ds.length<=big->Ret pg 34 [l.av,.sl nl (ds.map Val.av) cl] (.tup [.int .i64 (bM ds l).1,.int .i64 (bM ds l).2]))(t:Typ)(nl cl:Bool)(ds:List Val)(hb:ds.length<=big) :
  bJ pg 35 [t.av,.sl nl (ds.map Val.av) cl] (nW ds t):=by
 refine bJ.ofX hf ?_
 unfold cf35
 have hlb:=t.shape.dims.ok
 have hlb':=hlb
 simp only[big]at hlb'
 simp only[go_sem,seval]
 refine aI t.shape.dims.es (fun d r env hp=>∃v,env=cf35E0 (.sl nl (ds.map Val.av) cl) (.pt 1 0 0) v (.int .i64 1) (.int .i64 d.length)/\hp.get 1=some (0,.blk [.str t.elem.bs,.str t.shape.row.bs,.sl t.shape.dims.nl (t.shape.dims.es.map Lin.av) t.shape.dims.cl] 3 true true false) /\
  Own hp 9 1 false v ((d.map fun l=>(bM ds l).1).map aG)/\t.shape.dims.es.all (jQ ds)=r.all (jQ ds)) ?_ ?_ ?_
 ·exact⟨_,rfl,rfl,Own.nil _ _ _ _ _ _ rfl,rfl⟩
 ·rintro env hp ⟨v,rfl,g1,ho,hI⟩
  have hI':t.shape.dims.es.all (jQ ds)=true:=by rw[hI];rfl
  have ho':Own hp 9 1 false v ((oY ds t).map aG):=ho
  have hfl:=ho'.flen
  have hLb:(oY ds t).length<=big:=by simpa[oY] using hlb
  have hG:jM ds t=decide ((oY ds t).foldl lQ 1<=4096):=by rw[jM,hI',Bool.true_and]
  obtain⟨L,hL⟩:∃L,oY ds t=L:=⟨_,rfl⟩
  rw[hL]at ho' hfl hLb hG
  simp only[cf35L0,cf35E0,g1,aW,go_sem,seval]
  clear ho
  refine aI L (fun d r env hp2=>∃n:Int,env=cf35E1 v (.int .i64 n) (.int .i64 d.length)/\hp2=hp/\L.foldl lQ 1=r.foldl lQ n) ?_ ?_ ?_
  ·exact⟨1,rfl,rfl,rfl⟩
  ·rintro env hp2 ⟨n,rfl,rfl,hJ⟩
   have hG2:jM ds t=decide (n<=4096):=by rw[hG,hJ];rfl
   have hle:decide (4096<n) = !decide (n<=4096):=by rw[<-decide_not,decide_eq_decide];omega
   have hl0:(L.map aG).length=L.length:=by simp
   rw[hl0]at hfl
   cases hn:decide (n<=4096)
   ·rw[hn]at hle
    simp only[cf35L1,cf35E1,↓hfl,aW,hle,go_sem,seval]
    exact uQ (by rw[hG2,hn])
   ·rw[hn]at hle
    simp only[cf35L1,cf35E1,↓hfl,aW,hle,go_sem,seval]
    have hfin:∀r,(∃nl cl,r = .tup [.sl nl (L.map aG) cl,.int .i64 0])->nW ds t r:=fun r hr=>QW (by rw[hG2,hn]) (by rw[hL];exact hr)
    obtain⟨nl3,cl3,keys,hsn,_⟩:=ho'.snap (El.ints _) 61
    rcases ho' with ⟨he,nl',cl',rfl,_⟩|⟨e,cs,rfl,hg,hu⟩
    ·simp only[go_sem,seval]
     exact hfin _ ⟨nl',cl',by rw[he]⟩
    ·simp only[List.length_map]at hsn
     simp only[Tev.conv,depth,eD,bW,bB,↓hsn,go_sem,List.length_map]
     exact hfin _ ⟨_,_,rfl⟩
  ·rintro d a r env hp2 hes ⟨n,rfl,rfl,hJ⟩
   obtain⟨hget,e1,e2,ew⟩:=cF hes hLb
   have hl0:(L.map aG).length=L.length:=by simp
   rw[hl0]at hfl
   have hgm:(L.map aG)[d.length]?=some (.int .i64 a):=by rw[List.getElem?_map,hget];rfl
   rcases ho' with ⟨he,nl',cl',rfl,_⟩|⟨e,cs,rfl,hg,hu⟩
   ·have:L=[]:=by simpa using he
    rw[this]at hget;simp at hget
   ·rw[fX]at hu
    cases hu
    have e2':((d.length:Int)<((L.map aG).length:Int))=True:=by rw[hl0];exact e2
    simp only[cf35L1,cf35E1,e1,e2,hg,hget,Nat.mul_one,Nat.zero_add,mn2,ew,go_sem,seval]
    exact⟨_,rfl,hJ⟩
 ·rintro d x r env hp hes ⟨v,rfl,g1,ho,hI⟩
  obtain⟨hget,e1,e2,ew⟩:=cF hes hlb
  have hdl:d.length<=t.shape.dims.es.length:=by rw[hes];simp
  rw[List.all_cons]at hI
  have hr34:=h34 x nl cl ds hb
  have hbad:jQ ds x=false->jM ds t=false:=by
   intro h
   rw[jM,hI,h];rfl
  simp only[cf35L0,cf35E0,g1,hget,e1,e2,go_sem,seval]
  refine aB hr34 (by simp only[go_sem,seval]) rfl ?_
  cases b0:decide ((bM ds x).2=0)
  ·simp only[b0,go_sem,seval]
   exact uQ (hbad (by simp[jQ,b0]))
  cases b1:decide (0<=(bM ds x).1)
  ·have b1':decide ((bM ds x).1<0)=true:=by simp at b1 ⊢;omega
   simp only[b0,b1',go_sem,seval]
   exact uQ (hbad (by simp[jQ,b1]))
  have b1':decide ((bM ds x).1<0)=false:=by simp at b1 ⊢;omega
  cases b2:decide ((bM ds x).1<=4096)
  ·have b2':decide (4096<(bM ds x).1)=true:=by simp at b2 ⊢;omega
   simp only[b0,b1',b2',go_sem,seval]
   exact uQ (hbad (by simp[jQ,b2]))
  have b2':decide (4096<(bM ds x).1)=false:=by simp at b2 ⊢;omega
  simp only[b0,b1',b2',go_sem,seval]
  refine fV (kb:=0) (s:=9) ho (El.ints _) (xs:=[.int .i64 (bM ds x).1]) (by intro z hz;simp at hz;subst hz;exact El.int _) (by simp only[List.length_map,List.length_singleton];omega) (by decide) ?_
  intro v' rd pa ho2 hk2 _
  simp only[ew,go_sem,seval]
  refine⟨v',rfl,?_,by simpa[aG] using ho2,?_⟩
  ·rw[hk2 1 (by omega)];exact g1
  ·rw[hI,jQ,b0,b1,b2];rfl
end
end Go.Tev
end
section
namespace Go.Tev
section
variable{pg:Pg}
end
end Go.Tev
end
section
namespace Go.Tev
section
variable{pg:Pg}
end
end Go.Tev
end
section
namespace Go.Tev
def iG(k:aA)(ds:List Val)(r:AV):Prop:=
 if dW k ds=0 then ∃nl cl,r = .tup [.sl nl ((cZ (d6 ds) (aF k) k.values.es).map aG) cl,.int .i64 0] else r = .tup [.sl true [] true,.int .i64 (dW k ds)]
theorem R5{k:aA}{ds:List Val}(h:¬(cQ k).2=0):iG k ds (.tup [.sl true [] true,.int .i64 22]):=by
 have:dW k ds=22:=by rw[dW,if_neg h]
 rw[iG,this];rfl
theorem CV{k:aA}{ds:List Val}(h:(cQ k).2=0)(h1:eqL dA ds k.vars.es=false):iG k ds (.tup [.sl true [] true,.int .i64 1]):=by
 have:dW k ds=1:=by rw[dW,if_pos h,h1];rfl
 rw[iG,this];rfl
theorem R4{k:aA}{ds:List Val}(h:(cQ k).2=0)(h1:eqL dA ds k.vars.es=true)(h2:k.wher.es.all (fun l=>decide (0<=(bM ds l).1))=false):iG k ds (.tup [.sl true [] true,.int .i64 2]):=by
 have:dW k ds=2:=by rw[dW,if_pos h,h1,h2];rfl
 rw[iG,this];rfl
theorem MG{k:aA}{ds:List Val}(h:(cQ k).2=0)(h1:eqL dA ds k.vars.es=true)(h2:k.wher.es.all (fun l=>decide (0<=(bM ds l).1))=true)(h3:eJ (fun t=>(eX ds t).2) (aF k) k.values.es=false):iG k ds (.tup [.sl true [] true,.int .i64 3]):=by
 have:dW k ds=3:=by rw[dW,if_pos h,h1,h2,h3];rfl
 rw[iG,this];rfl
section
variable{pg:Pg}
set_option maxHeartbeats 1000000 in
theorem c17(hf:pg.fs 17=some cf17)(k:aA)(h10:bJ pg 10 [k.av] (gK k))(nl cl:Bool)(ds:List Val)(hb:ds.length<=big)
  (h34:∀l:Lin,Ret pg 34 [l.av,.sl nl (ds.map Val.av) cl] (.tup [.int .i64 (bM ds l).1,.int .i64 (bM ds l).2]))
  (h35:∀t:Typ,bJ pg 35 [t.av,.sl nl (ds.map Val.av) cl] (nW ds t)) :
  bJ pg 17 [k.av,.sl nl (ds.map Val.av) cl] (iG k ds):=by
 obtain⟨r9,hr9,hs9⟩:=h10
 simp only[aA.av,aA.cells,Sl.av]at hr9
 refine bJ.ofX hf ?_
 unfold cf17
 simp only[aA.av,aA.cells,go_sem,seval]
 rcases iZ (k:=k) with hc|hc
 ·have ok:=eH hc
  have hso:=ok.out
  simp only[aZ,Bool.and_eq_true,decide_eq_true_eq]at hso
  obtain⟨_,⟨⟨⟨⟨⟨⟨_,_⟩,hi0⟩,_⟩,hiV⟩,_⟩,_⟩,_⟩:=hso
  obtain⟨hov,hot⟩:=BV ok
  have hsl:=gV (k:=k) (by omega)
  have hVb:=k.values.ok
  have htr:treeL ((aF k).map aR)=true:=bK (f:=aR) (fun s=>by simp[aR,go_sem]) _
  rw[gK,if_pos hc]at hs9
  obtain⟨nl9,cl9,rfl⟩:=hs9
  refine aB hr9 (by simp only[go_sem,seval]) (by first|rfl|(simp[AV.tree,htr])) ?_
  cases hl:decide ((ds.length:Int)=k.vars.es.length)
  case false=>
   simp only[hl,go_sem,seval]
   exact CV hc (tH hl)
  case true=>
   have hlv:ds.length=k.vars.es.length:=by
    have:=of_decide_eq_true hl
    omega
   simp only[hl,go_sem,seval]
   refine aI ds (fun d r env hp=>env=cf17E0 (.sl nl (ds.map Val.av) cl) (.pt 1 0 0) (.sl nl9 ((aF k).map aR) cl9) (.int .i64 d.length) /\
    hp.get 1=some (0,.blk (aX k) 6 true true false)/\eqL dA ds k.vars.es=eqL dA r (k.vars.es.drop d.length)) ?_ ?_ ?_
   ·refine⟨rfl,?_,rfl⟩
    simp only[go_sem,seval]
    rfl
   ·rintro env hp ⟨rfl,g1,hD⟩
    have hD':eqL dA ds k.vars.es=true:=by rw[hD,lE hlv]
    have hev:=FI hD' hov
    simp only[cf17L0,cf17E0,aW,go_sem,seval]
    refine aI k.wher.es (fun d r env hp=>env=cf17E1 (.sl nl (ds.map Val.av) cl) (.pt 1 0 0) (.sl nl9 ((aF k).map aR) cl9) (.int .i64 d.length) /\
     hp.get 1=some (0,.blk (aX k) 6 true true false)/\k.wher.es.all (fun l=>decide (0<=(bM ds l).1))=r.all (fun l=>decide (0<=(bM ds l).1))) ?_ ?_ ?_
    ·exact⟨rfl,g1,rfl⟩
    ·clear g1 hp
     rintro env hp ⟨rfl,g1,hW⟩
     have hW':k.wher.es.all (fun l=>decide (0<=(bM ds l).1))=true:=by rw[hW];rfl
     have g1':=g1
     simp only[aX]at g1
     simp only[cf17L1,cf17E1,g1,aW,go_sem,seval]
     have hlb:(aF k).length<=big:=by rw[hsl];exact hVb
     refine aI (aF k) (fun d r env hp=>∃w,env=cf17E3 (.sl nl (ds.map Val.av) cl) (.pt 1 0 0) (.sl nl9 ((aF k).map aR) cl9) w (.int .i64 d.length) /\
      hp.get 1=some (0,.blk (aX k) 6 true true false)/\Own hp 17 1 false w ((cZ (d6 ds) d k.values.es).map aG) /\
      eJ (fun t=>(eX ds t).2) (aF k) k.values.es=eJ (fun t=>(eX ds t).2) r (k.values.es.drop d.length)) ?_ ?_ ?_
     ·exact⟨_,rfl,g1',Own.nil _ _ _ _ _ _ rfl,rfl⟩
     ·clear g1 g1' hp
      rintro env hp ⟨w,rfl,g1,ho,hS⟩
      have hS':eJ (fun t=>(eX ds t).2) (aF k) k.values.es=true:=by rw[hS];rfl
      have hfin:∀r,(∃nl cl,r = .tup [.sl nl ((cZ (d6 ds) (aF k) k.values.es).map aG) cl,.int .i64 0])->iG k ds r:=by
       intro r hr
       rw[iG,if_pos (FR hc hD' hW' hS')]
       exact hr
      simp only[cf17L3,cf17E3,aW,go_sem,seval]
      obtain⟨nl3,cl3,keys,hsn,_⟩:=ho.snap (El.ints _) 61
      rcases ho with ⟨he,nl',cl',rfl,_⟩|⟨e,cs,rfl,hg,hu⟩
      ·simp only[go_sem,seval]
       exact hfin _ ⟨nl',cl',by rw[he]⟩
      ·simp only[List.length_map]at hsn
       simp only[Tev.conv,depth,eD,bW,bB,↓hsn,go_sem,List.length_map]
       exact hfin _ ⟨_,_,rfl⟩
     ·clear g1 g1' hp
      rintro d x r env hp hes ⟨w,rfl,g1,ho,hS⟩
      obtain⟨hget,x1,x2,xw⟩:=cF hes hlb
      have hlt:d.length<k.values.es.length:=by rw[<-hsl,hes];simp
      obtain⟨t,ht⟩:∃t,k.values.es[d.length]?=some t:=⟨_,List.getElem?_eq_getElem hlt⟩
      have hvl:((d.length:Int)<(k.values.es.length:Int))=True:=eq_true (by omega)
      have hSx:eJ (fun t=>(eX ds t).2) (aF k) k.values.es=((decide (x.1 = -2)||(eX ds t).2)&&eJ (fun t=>(eX ds t).2) r (k.values.es.drop (d++[x]).length)):=by
       rw[hS,List.drop_eq_getElem_cons hlt,eJ]
       rw[List.getElem?_eq_getElem hlt]at ht
       cases ht
       simp
      have hsno:=nO (d6 ds) x d k.values.es t ht
      have hslen:=kY (d6 ds) d k.values.es (by omega)
      have hfx:=wV ok (show x∈aF k by rw[hes];simp)
      have hx0:aR x = .agg [.int .i64 x.1,.int .i64 x.2]:=rfl
      have h3:decide (-1<=x.1) = !decide (x.1 = -2):=by
       rw[<-decide_not,decide_eq_decide]
       rcases hfx with h|h<;>omega
      have g1':=g1
      simp only[aX]at g1
      simp only[big]at hVb
      cases b1:decide (x.1 = -2)
      case true=>
       rw[b1]at h3
       simp only[cf17L3,cf17E3,hget,x1,x2,hx0,h3,go_sem,seval]
       refine fV (kb:=0) (s:=17) ho (El.ints _) (xs:=[.int .i64 0]) (by intro z hz;simp at hz;subst hz;exact El.int _) (by simp only[List.length_map,List.length_singleton];omega) (by decide) ?_
       intro v' rd pa ho2 hk2 _
       simp only[xw,go_sem,seval]
       refine⟨v',rfl,?_,?_,by rw[hSx,b1];rfl⟩
       ·rw[hk2 1 (by omega)];exact g1'
       ·rw[hsno,if_pos (of_decide_eq_true b1)];simpa[aG] using ho2
      case false=>
      rw[b1]at h3
      obtain⟨r35,hr35,hs35⟩:=h35 t
      obtain⟨q1,q2⟩:=EB hD' (hot t (List.mem_of_getElem? ht))
      rw[nW,q1]at hs35
      cases b2:(eX ds t).2
      case false=>
       rw[b2]at hs35
       simp only[Bool.false_eq_true,if_false]at hs35
       subst hs35
       simp only[cf17L3,cf17E3,hget,x1,x2,hx0,h3,g1,ht,hvl,go_sem,seval]
       refine aB hr35 (by simp only[go_sem,seval]) rfl ?_
       simp only[go_sem,seval]
       exact MG hc hD' hW' (by rw[hSx,b1,b2];rfl)
      case true=>
      rw[b2]at hs35
      simp only[if_true]at hs35
      obtain⟨nl5,cl5,rfl⟩:=hs35
      obtain⟨q3,_,_⟩:=q2 b2
      simp only[cf17L3,cf17E3,hget,x1,x2,hx0,h3,g1,ht,hvl,go_sem,seval]
      refine aB hr35 (by simp only[go_sem,seval]) (by first|rfl|(simp[AV.tree,nC])) ?_
      simp only[go_sem,seval]
      have hLb:(oY ds t).length<=big:=by
       have:=t.shape.dims.ok
       simpa[oY] using this
      have hq3:(oY ds t).foldl (fun n a=>wr .i64 (n*a)) 1=d6 ds t:=q3
      generalize oY ds t=L at hLb hq3
      refine aI L (fun d3 r3 env hp3=>∃n:Int,env=cf17E2 (.sl nl (ds.map Val.av) cl) (.pt 1 0 0) (.sl nl9 ((aF k).map aR) cl9) w (.int .i64 d.length) (.int .i64 n) (.sl nl5 (L.map aG) cl5) (.int .i64 d3.length)/\hp3=hp/\L.foldl (fun n a=>wr .i64 (n*a)) 1=r3.foldl (fun n a=>wr .i64 (n*a)) n) ?_ ?_ ?_
      ·exact⟨1,rfl,rfl,rfl⟩
      ·rintro env hp3 ⟨n,rfl,rfl,hJ⟩
       have hn:n=d6 ds t:=by rw[<-hq3,hJ];rfl
       simp only[cf17L2,cf17E2,aW,go_sem,seval]
       refine fV (kb:=0) (s:=17) ho (El.ints _) (xs:=[.int .i64 n]) (by intro z hz;simp at hz;subst hz;exact El.int _) (by simp only[List.length_map,List.length_singleton];omega) (by decide) ?_
       intro v' rd pa ho2 hk2 _
       simp only[xw,go_sem,seval]
       refine⟨v',rfl,?_,?_,by rw[hSx,b1,b2];rfl⟩
       ·rw[hk2 1 (by omega)];exact g1'
       ·rw[hsno,if_neg (of_decide_eq_false b1),<-hn];simpa[aG] using ho2
      ·rintro d3 a r3 env hp3 hes3 ⟨n,rfl,rfl,hJ⟩
       obtain⟨hget3,f1,f2,fw⟩:=cF hes3 hLb
       simp only[cf17L2,cf17E2,hget3,f1,f2,fw,go_sem,seval]
       exact⟨_,rfl,hJ⟩
    ·clear g1 hp
     rintro d x r env hp hes ⟨rfl,g1,hW⟩
     have hwb:=k.wher.ok
     obtain⟨hget,x1,x2,xw⟩:=cF hes hwb
     have hr34:=h34 x
     rw[hev x (by rw[hes];simp)]at hr34
     have g1':=g1
     simp only[aX]at g1
     simp only[cf17L1,cf17E1,g1,hget,x1,x2,go_sem,seval]
     refine aB hr34 (by simp only[go_sem,seval]) rfl ?_
     simp only[go_sem,seval]
     cases b1:decide ((bM ds x).1<0)
     case true=>
      have b1':decide (0<=(bM ds x).1)=false:=by simp at b1 ⊢;omega
      simp only[b1,go_sem,seval]
      exact R4 hc hD' (by rw[hW,List.all_cons,b1'];rfl)
     have b1':decide (0<=(bM ds x).1)=true:=by simp at b1 ⊢;omega
     simp only[b1,xw,go_sem,seval]
     refine⟨rfl,?_,by rw[hW,List.all_cons,b1'];rfl⟩
     first|exact g1'|rfl
   ·rintro d x r env hp hes ⟨rfl,g1,hD⟩
    obtain⟨hget,x1,x2,xw⟩:=cF hes hb
    obtain⟨y,hy,_,hvl,hq⟩:=yZ (q:=dA) hes hlv
    rw[hq]at hD
    have g1':=g1
    simp only[aX]at g1
    simp only[cf17L0,cf17E0,g1,hy,hvl,hget,x1,x2,go_sem,seval]
    cases b1:decide (x.v.bs=y.bs)
    case false=>
     simp only[b1,go_sem,seval]
     exact⟨by kernel_rfl,CV hc (by rw[hD,dA,b1];rfl)⟩
    cases b2:decide (x.n<0)
    case true=>
     simp only[b1,b2,hget,x1,x2,go_sem,seval]
     exact⟨by kernel_rfl,CV hc (by rw[hD,dA,b1,b2];rfl)⟩
    cases b3:decide (4096<x.n)
    case true=>
     simp only[b1,b2,b3,hget,x1,x2,go_sem,seval]
     exact⟨by kernel_rfl,CV hc (by rw[hD,dA,b1,b2,b3];rfl)⟩
    simp only[b1,b2,b3,hget,x1,x2,xw,go_sem,seval]
    exact⟨by kernel_rfl,rfl,g1',by rw[hD,dA,b1,b2,b3];rfl⟩
 ·rw[gK,if_neg (by rw[hc];decide)]at hs9
  subst hs9
  refine aB hr9 (by simp only[go_sem,seval]) rfl ?_
  simp only[go_sem,seval]
  exact R5 (by rw[hc];decide)
end
end Go.Tev
end
section
namespace Go.Tev
theorem A4{ds:List Val}{vars:List Str}(hD:eqL dA ds vars=true):∀(sp:List Sp)(vs:List Typ),(∀t∈vs,bX t.shape.dims.es vars=true)->eJ (fun t=>(eX ds t).2) sp vs=true->∀z∈cZ (d6 ds) sp vs,0<=z/\z<=4096
 |[],_,_,_,z,hz=>by simp[cZ]at hz
 |_::_,[],_,_,z,hz=>by simp[cZ]at hz
 |s::r,t::q,ht,hS,z,hz=>by
  simp only[eJ,Bool.and_eq_true,Bool.or_eq_true,decide_eq_true_eq]at hS
  simp only[cZ,List.mem_cons]at hz
  rcases hz with rfl|hz
  ·by_cases h:s.1 = -2
   ·rw[if_pos h];decide
   ·rw[if_neg h]
    rcases hS.1 with h2|h2
    ·exact absurd h2 h
    ·exact((EB hD (ht t (by simp))).2 h2).2
  ·exact A4 hD r q (fun u hu=>ht u (List.mem_cons_of_mem _ hu)) hS.2 z hz
def VJ(k:aA)(ds:List Val):List (Sp×Int):=(aF k).zip (cZ (d6 ds) (aF k) k.values.es)
theorem gC{k:aA}{ds:List Val}(h:dW k ds=0):(cQ k).2=0/\eqL dA ds k.vars.es=true/\eJ (fun t=>(eX ds t).2) (aF k) k.values.es=true:=by
 simp only[dW]at h
 split at h
 ·rename_i h1
  split at h
  ·rename_i h2
   split at h
   ·split at h
    ·rename_i h4
     exact⟨h1,h2,h4⟩
    ·simp at h
   ·simp at h
  ·simp at h
 ·simp at h
theorem GA{k:aA}{ds:List Val}(ok:fW k):(VJ k ds).length=k.values.es.length/\(aF k).length=k.values.es.length/\(cZ (d6 ds) (aF k) k.values.es).length=k.values.es.length:=by
 have hso:=ok.out
 simp only[aZ,Bool.and_eq_true,decide_eq_true_eq]at hso
 obtain⟨_,⟨⟨⟨⟨⟨⟨_,_⟩,hi0⟩,_⟩,hiV⟩,_⟩,_⟩,_⟩:=hso
 have hsl:=gV (k:=k) (by omega)
 have hzl:=kY (d6 ds) (aF k) k.values.es (by omega)
 exact⟨by simp[VJ,List.length_zip,hsl,hzl],hsl,by omega⟩
section
variable{pg:Pg}
end
end Go.Tev
end
section
namespace Go.Tev
def frm(sp:List Sp)(n:Nat):Option Int:=sp[n]?.map (·.1)
theorem vS(sp:List Sp)(v x:Int)(n:Nat):frm (gT sp v x) n=frm sp n:=by
 simp only[frm,gT,List.getElem?_modify]
 cases sp[n]? with
 |none=>rfl
 |some s=>by_cases h:v.toNat=n<;>simp[h]
theorem oU(i:Nat):∀(l:List Int)(sp:List Sp)(n:Nat),frm (cU sp i l) n=frm sp n
 |[],_,_=>rfl
 |v::r,sp,n=>by
  have:=oU i r (gT sp v i) n
  rw[vS]at this
  exact this
theorem E7(sp:List Sp)(i:Nat)(q:aD)(n:Nat)(f:Int)(h:frm (iD sp i q) n=some f):frm sp n=some f\/(q.value.toNat=n/\f=i):=by
 rw[iD,oU,vS]at h
 split at h
 ·simp only[frm,fO,List.getElem?_modify]at h
  by_cases hv:q.value.toNat=n
  ·right
   refine⟨hv,?_⟩
   cases hs:sp[n]? with
   |none=>rw[hs]at h;simp at h
   |some s=>rw[hs]at h;simp[hv]at h;omega
  ·left
   cases hs:sp[n]? with
   |none=>rw[hs]at h;simp at h
   |some s=>rw[hs]at h;simp[hv]at h;simp[frm,hs,h]
 ·exact .inl h
theorem JH:∀(L:List aD)(sp:List Sp)(i n:Nat)(f:Int),frm (eO sp i L) n=some f->frm sp n=some f\/∃(j:Nat)(q:aD),L[j]?=some q/\q.value.toNat=n/\f=((i+j:Nat):Int)
 |[],_,_,_,_,h => .inl h
 |q::r,sp,i,n,f,h=>by
  rcases JH r (iD sp i q) (i+1) n f h with h|⟨j,q',h1,h2,h3⟩
  ·rcases E7 sp i q n f h with h|⟨h1,h2⟩
   ·exact .inl h
   ·exact .inr ⟨0,q,rfl,h1,by simpa using h2⟩
  ·exact .inr ⟨j+1,q',h1,h2,by rw[h3];omega⟩
theorem mL{k:aA}{n:Nat}{f:Int}(h:frm (aF k) n=some f):f = -2\/(f = -1/\n<k.inputs.toNat)\/∃(j:Nat)(q:aD),k.list.es[j]?=some q/\q.value.toNat=n/\f=(j:Int):=by
 rw[aF,show lX=fun sp n l=>cU sp n l from rfl]at h
 simp only at h
 rw[oU]at h
 rcases JH _ _ _ _ _ h with h|⟨j,q,h1,h2,h3⟩
 ·simp only[frm,cE,List.getElem?_append,List.length_replicate]at h
  split at h
  ·rename_i hn
   rw[List.getElem?_replicate,if_pos hn]at h
   simp at h
   exact .inr (.inl ⟨h.symm,hn⟩)
  ·rw[List.getElem?_replicate]at h
   split at h
   ·simp at h;exact .inl h.symm
   ·simp at h
 ·exact .inr (.inr ⟨j,q,h1,h2,by simpa using h3⟩)
def AF(i:Int)(sp:List Sp):Prop:=∀s∈sp,s.1<=s.2/\s.1<=i
theorem yC{i:Int}{sp:List Sp}(v:Int){x:Int}(h:AF i sp)(hx:i<=x):AF i (gT sp v x):=by
 intro s hs
 simp only[gT]at hs
 obtain⟨n,hn⟩:=List.mem_iff_getElem?.1 hs
 rw[List.getElem?_modify]at hn
 cases hg:sp[n]? with
 |none=>rw[hg]at hn;simp at hn
 |some t=>
  have ht:=h t (List.mem_of_getElem? hg)
  rw[hg]at hn
  by_cases hv:v.toNat=n
  ·simp[hv]at hn;subst hn;exact⟨by simp only;omega,ht.2⟩
  ·simp[hv]at hn;subst hn;exact ht
theorem sM{i:Int}(x:Nat)(hx:i<=x):∀(l:List Int)(sp:List Sp),AF i sp->AF i (cU sp x l)
 |[],_,h=>h
 |v::r,sp,h=>sM x hx r (gT sp v x) (yC v h hx)
theorem A2{i j:Int}{sp:List Sp}(h:AF i sp)(hij:i<=j):AF j sp:=fun s hs=>⟨(h s hs).1,by have:=(h s hs).2;omega⟩
theorem J9{sp:List Sp}(i:Nat)(q:aD)(h:AF ((i:Int)-1) sp):AF i (iD sp i q):=by
 rw[iD]
 refine sM i (Int.le_refl _) _ _ ?_
 have h':=A2 h (by omega:(i:Int)-1<=i)
 split
 ·intro s hs
  simp only[gT,fO]at hs
  obtain⟨n,hn⟩:=List.mem_iff_getElem?.1 hs
  rw[List.getElem?_modify,List.getElem?_modify]at hn
  cases hg:sp[n]? with
  |none=>rw[hg]at hn;simp at hn
  |some t=>
   have ht:=h' t (List.mem_of_getElem? hg)
   rw[hg]at hn
   by_cases hv:q.value.toNat=n
   ·simp[hv]at hn;subst hn;simp
   ·simp[hv]at hn;subst hn;exact ht
 ·exact yC _ h' (Int.le_refl _)
theorem D3:∀(L:List aD)(sp:List Sp)(i:Nat),AF ((i:Int)-1) sp->AF ((i+L.length:Nat)-1:Int) (eO sp i L)
 |[],sp,i,h=>by simpa[eO] using h
 |q::r,sp,i,h=>by
  have:=D3 r (iD sp i q) (i+1) (by simpa using J9 i q h)
  rw[eO]
  refine A2 this ?_
  simp only[List.length_cons]
  omega
theorem yB(k:aA):∀s∈aF k,s.1<=s.2:=by
 have h0:AF ((0:Nat)-1:Int) (cE k.values.es.length k.inputs.toNat):=by
  intro s hs
  simp only[cE,List.mem_append,List.mem_replicate]at hs
  rcases hs with ⟨_,rfl⟩|⟨_,rfl⟩<;>simp
 have h1:=D3 k.list.es _ 0 h0
 rw[aF,show lX=fun sp n l=>cU sp n l from rfl]
 intro s hs
 exact(sM _ (by omega) _ _ h1 s hs).1
end Go.Tev
end
section
namespace Go.Tev
theorem CA{x y:bS}(h:fL x y=true):x.v.bs=y.v.bs/\x.c=y.c:=by
 simpa[fL] using h
theorem x5:∀(a b:List bS)(p q:List bS),eqL fL a b=true->(p.getLast?.map fun c=>c.v.bs)=(q.getLast?.map fun c=>c.v.bs)->j9 p a=j9 q b
 |[],[],_,_,_,_=>rfl
 |[],_::_,_,_,h,_=>by simp[eqL]at h
 |_::_,[],_,_,h,_=>by simp[eqL]at h
 |x::r,y::s,p,q,h,hp=>by
  simp only[eqL,Bool.and_eq_true]at h
  obtain⟨h1,h2⟩:=CA h.1
  have ih:=x5 r s (p++[x]) (q++[y]) h.2 (by simp[h1])
  simp only[j9,h1,h2,ih]
  cases hp1:p.getLast?<;>cases hq1:q.getLast?<;>rw[hp1,hq1]at hp
  all_goals first|rfl|(simp at hp;done)|(simp at hp;simp only[hp])
theorem zS(ds:List Val):∀(a b:List bS)(n:Int),eqL fL a b=true->j6 ds n a=j6 ds n b
 |[],[],_,_=>rfl
 |[],_::_,_,h=>by simp[eqL]at h
 |_::_,[],_,h=>by simp[eqL]at h
 |x::r,y::s,n,h=>by
  simp only[eqL,Bool.and_eq_true]at h
  obtain⟨h1,h2⟩:=CA h.1
  simp only[j6,h1,h2]
  cases mN ds y.v.bs with
  |none=>rfl
  |some v=>
   simp only
   rw[zS ds r s _ h.2]
theorem HT(ds:List Val){a b:Lin}(h:bH a b=true):bM ds a=bM ds b:=by
 simp only[bH,Bool.and_eq_true,decide_eq_true_eq]at h
 have hl:=uP h.2
 simp only[bM,d9,h.1,x5 _ _ [] [] h.2 rfl,hl,zS ds _ _ _ h.2]
 rfl
theorem pT(f:Nat->Bool):∀(n i:Nat),pU f i n = -1\/∃v:Nat,pU f i n=v/\f v=true/\i<=v/\v<i+n
 |0,i => .inl rfl
 |n+1,i=>by
  rw[pU]
  by_cases h:f i
  ·rw[if_pos h]
   exact .inr ⟨i,rfl,h,by omega,by omega⟩
  ·rw[if_neg h]
   rcases pT f n (i+1) with h|⟨v,h1,h2,h3,h4⟩
   ·exact .inl h
   ·exact .inr ⟨v,h1,h2,by omega,by omega⟩
end Go.Tev
end
