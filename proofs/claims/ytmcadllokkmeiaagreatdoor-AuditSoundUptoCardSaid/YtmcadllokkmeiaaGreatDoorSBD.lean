import Derived.Test.YtmcadllokkmeiaaGreatDoorSBC
import Derived.Test.YtmcadllokkmeiaaGreatDoorSBB
import Derived.Test.YtmcadllokkmeiaaGreatDoorSAY
set_option linter.all false
section
namespace Go.Tev
def cU(x:Val)(y:Str):Bool:=decide (x.v.bs=y.bs)&&(!decide (x.n<0) && !decide (4096<x.n))
def eC(g:Typ->Bool):List Sp->List Typ->Bool
 | s::r,t::q=>(decide (s.1 = -2)||g t)&&eC g r q
 |_,_=>true
def dY(k:aA)(ds:List Val):Int:=
 if (cB k).2=0 then
  (if eqL cU ds k.vars.es then
   (if k.wher.es.all (fun l=>decide (0<=(bM ds l).1)) then
    (if eC (fun t=>(eZ ds t).2) (aF k) k.values.es then 0 else 3)
   else 2)
  else 1)
 else 22
def eM(ds:List Val)(t:Typ):Int:=(eZ ds t).1
def gJ(k:aA)(ds:List Val):AV:=
 if dY k ds=0 then .tup [.sl false ((eP (eM ds) (aF k) k.values.es).map aH) true,.int .i64 0] else .tup [.sl true [] true,.int .i64 (dY k ds)]
theorem wN:∀(ds:List Val)(vars:List Str)(s:List UInt8),eqL cU ds vars=true->jR vars s=true->∃v,mV ds s=some v/\0<=v.n/\v.n<=4096
 |[],[],s,_,h=>by simp[jR]at h
 |[],_::_,s,h,_=>by simp[eqL]at h
 |_::_,[],s,h,_=>by simp[eqL]at h
 |x::r,y::q,s,h,hs=>by
  simp only[eqL,Bool.and_eq_true]at h
  obtain⟨h1,h2⟩:=h
  simp only[cU,Bool.and_eq_true,decide_eq_true_eq,Bool.not_eq_true',decide_eq_false_iff_not]at h1
  by_cases he:x.v.bs=s
  ·exact⟨x,by simp[mV,he],by omega,by omega⟩
  ·have hq:jR q s=true:=by
    simp only[jR,List.any_cons,Bool.or_eq_true,decide_eq_true_eq]at hs
    rcases hs with h|h
    ·exact absurd (h1.1.trans h.symm) he
    ·simpa[jR] using h
   obtain⟨v,q1,q2⟩:=wN r q s h2 hq
   exact⟨v,by simpa[mV,he] using q1,q2⟩
theorem DT(ds:List Val)(vars:List Str)(h:eqL cU ds vars=true):∀(ts:List bR)(n:Int),(ts.all fun x=>jR vars x.v.bs)=true->(lM ds n ts).2=0
 |[],n,_=>rfl
 |c::r,n,ht=>by
  simp only[List.all_cons,Bool.and_eq_true]at ht
  obtain⟨v,q1,q2,q3⟩:=wN ds vars c.v.bs h ht.1
  have b1:decide (v.n < -1000000000)=false:=by simp;omega
  have b2:decide (1000000000<v.n)=false:=by simp;omega
  simp only[lM,q1,b1,b2,Bool.or_false,Bool.false_eq_true,if_false]
  exact DT ds vars h r _ ht.2
theorem DU{ds:List Val}{vars:List Str}(h:eqL cU ds vars=true){ls:List Lin}(ho:bZ ls vars=true):∀l∈ls,(bM ds l).2=0:=by
 intro l hl
 simp only[bZ,List.all_eq_true,Bool.and_eq_true]at ho
 obtain⟨h1,h2⟩:=ho l hl
 simp only[bM,h1,if_true]
 exact DT ds vars h _ _ (by rw[List.all_eq_true];exact h2)
def GH(n:Int)(L:List Int):Int:=L.foldl (fun n a=>GI a n) n
def sR(n:Int)(L:List Int):Int:=L.foldl (fun n a=>wr .i64 (n*a)) n
def lJ(n a:Int):Int:=if 1099511627776<wr .i64 (n*a) then 1099511627776 else wr .i64 (n*a)
theorem MO{a n:Int}(h:0<=a):GI a n=lJ n a:=by
 have:¬a<0:=by omega
 simp only[GI,lJ,this,if_false]
theorem D8:∀(L:List Int)(n:Int),(∀a∈L,0<=a)->GH n L=L.foldl lJ n
 |[],n,_=>rfl
 |a::r,n,h=>by
  simp only[GH,List.foldl_cons]
  rw[MO (h a (by simp))]
  exact D8 r _ (fun x hx=>h x (List.mem_cons_of_mem _ hx))
theorem KW{n a:Int}(h0:0<=n)(h1:n<=1099511627776)(h2:0<=a)(h3:a<=4096):0<=n*a/\n*a<=4503599627370496:=by
 refine⟨Int.mul_nonneg h0 h2,?_⟩
 exact Int.le_trans (Int.mul_le_mul h1 h3 h2 (by omega)) (by decide)
theorem xL:∀L:List Int,sR 0 L=0
 |[]=>rfl
 |a::r=>by
  simp only[sR,List.foldl_cons,Int.zero_mul]
  exact xL r
theorem AZ:∀L:List Int,L.foldl lJ 0=0
 |[]=>rfl
 |a::r=>by
  simp only[List.foldl_cons,lJ,Int.zero_mul]
  exact AZ r
theorem uK:∀(L:List Int)(n m:Int),(0:Int)∈L->sR m L=0/\L.foldl lJ n=0
 |[],n,m,h=>by simp at h
 |a::r,n,m,h=>by
  by_cases ha:a=0
  ·subst ha
   simp only[sR,List.foldl_cons,lJ,Int.mul_zero]
   exact⟨xL r,AZ r⟩
  ·have:(0:Int)∈r:=by
    rcases List.mem_cons.1 h with h|h
    ·exact absurd h.symm ha
    ·exact h
   simp only[sR,List.foldl_cons]
   exact uK r _ _ this
theorem BV:∀(L:List Int)(n:Int),0<=n->n<=1099511627776->(∀a∈L,1<=a/\a<=4096)->n<=L.foldl lJ n/\L.foldl lJ n<=1099511627776
 |[],n,_,h,_=>⟨Int.le_refl _,h⟩
 |a::r,n,h0,h1,h=>by
  obtain⟨a1,a2⟩:=h a (by simp)
  obtain⟨m1,m2⟩:=KW h0 h1 (by omega:0<=a) a2
  have hm:n<=n*a:=by
   have:=Int.mul_le_mul_of_nonneg_left a1 h0
   omega
  have hw:wr .i64 (n*a)=n*a:=aR (by omega) (by omega)
  simp only[List.foldl_cons]
  have hc:n<=lJ n a/\lJ n a<=1099511627776/\0<=lJ n a:=by
   simp only[lJ,hw]
   split<;>omega
  obtain⟨q1,q2⟩:=BV r (lJ n a) hc.2.2 hc.2.1 (fun x hx=>h x (List.mem_cons_of_mem _ hx))
  exact⟨by omega,q2⟩
theorem HA:∀(L:List Int)(n:Int),0<=n->n<=1099511627776->(∀a∈L,1<=a/\a<=4096)->L.foldl lJ n<=4096->sR n L=L.foldl lJ n
 |[],n,_,_,_,_=>rfl
 |a::r,n,h0,h1,h,hle=>by
  obtain⟨a1,a2⟩:=h a (by simp)
  obtain⟨m1,m2⟩:=KW h0 h1 (by omega:0<=a) a2
  have hw:wr .i64 (n*a)=n*a:=aR (by omega) (by omega)
  have hr:∀x∈r,1<=x/\x<=4096:=fun x hx=>h x (List.mem_cons_of_mem _ hx)
  simp only[sR,List.foldl_cons]at hle ⊢
  by_cases hb:1099511627776<n*a
  ·have:lJ n a=1099511627776:=by simp only[lJ,hw,hb,if_true]
   rw[this]at hle
   have:=(BV r 1099511627776 (by decide) (Int.le_refl _) hr).1
   omega
  ·have hm:lJ n a=n*a:=by simp only[lJ,hw,hb,if_false]
   rw[hm]at hle ⊢
   rw[hw]
   exact HA r (n*a) m1 (by omega) hr hle
theorem KG{L:List Int}(h:∀a∈L,0<=a/\a<=4096)(hle:L.foldl lJ 1<=4096):sR 1 L=L.foldl lJ 1:=by
 by_cases h0:(0:Int)∈L
 ·obtain⟨a,b⟩:=uK L 1 1 h0
  rw[a,b]
 ·refine HA L 1 (by decide) (by decide) (fun a ha=>?_) hle
  have:=h a ha
  have:a≠0:=fun e=>h0 (e ▸ ha)
  omega
def jM(ds:List Val)(l:Lin):Bool:=decide ((bM ds l).2=0)&&(decide (0<=(bM ds l).1)&&decide ((bM ds l).1<=4096))
def oG(ds:List Val)(t:Typ):List Int:=t.shape.dims.es.map fun l=>(bM ds l).1
def jI(ds:List Val)(t:Typ):Bool:=t.shape.dims.es.all (jM ds)&&decide ((oG ds t).foldl lJ 1<=4096)
theorem xB(ds:List Val):∀(ls:List Lin)(n:Int)(b:Bool),pN ds n b ls=(GH n (ls.map fun l=>(bM ds l).1),b&&ls.all fun l=>decide (0<=(bM ds l).1)&&decide ((bM ds l).1<=4096))
 |[],n,b=>by simp[pN,GH]
 |l::r,n,b=>by
  simp only[pN,xB ds r,GH,List.map_cons,List.foldl_cons,List.all_cons,Bool.and_assoc]
theorem CT{ds:List Val}{vars:List Str}(h:eqL cU ds vars=true){t:Typ}(ho:bZ t.shape.dims.es vars=true) :
  jI ds t=(eZ ds t).2/\((eZ ds t).2=true->sR 1 (oG ds t)=eM ds t/\0<=eM ds t/\eM ds t<=4096):=by
 have hev:=DU h ho
 have h1:t.shape.dims.es.all (jM ds)=t.shape.dims.es.all fun l=>decide (0<=(bM ds l).1)&&decide ((bM ds l).1<=4096):=by
  rw[Bool.eq_iff_iff,List.all_eq_true,List.all_eq_true]
  constructor
  ·intro g l hl
   have:=g l hl
   simp only[jM,Bool.and_eq_true]at this ⊢
   exact this.2
  ·intro g l hl
   have:=g l hl
   simp only[jM,hev l hl,decide_true,Bool.true_and]
   exact this
 have h2:(eZ ds t).2=(t.shape.dims.es.all (fun l=>decide (0<=(bM ds l).1)&&decide ((bM ds l).1<=4096))&&decide (GH 1 (oG ds t)<=4096)):=by
  simp only[eZ,xB,Bool.true_and];rfl
 have h3:eM ds t=GH 1 (oG ds t):=by simp only[eM,eZ,xB];rfl
 rw[jI,h1,h2]
 cases ha:t.shape.dims.es.all (fun l=>decide (0<=(bM ds l).1)&&decide ((bM ds l).1<=4096))
 ·exact⟨rfl,fun h=>by simp at h⟩
 ·have hin:∀a∈oG ds t,0<=a/\a<=4096:=by
   intro a hm
   simp only[oG,List.mem_map]at hm
   obtain⟨l,hl,rfl⟩:=hm
   rw[List.all_eq_true]at ha
   have:=ha l hl
   simp only[Bool.and_eq_true,decide_eq_true_eq]at this
   exact this
  have hcm:=D8 (oG ds t) 1 (fun a ha=>(hin a ha).1)
  rw[hcm]at h3 ⊢
  refine⟨rfl,fun hle=>?_⟩
  simp only[Bool.true_and,decide_eq_true_eq]at hle
  refine⟨by rw[h3];exact KG hin hle,?_,by rw[h3];exact hle⟩
  rw[h3]
  by_cases h0:(0:Int)∈oG ds t
  ·rw[(uK _ 1 1 h0).2];decide
  ·have:=(BV (oG ds t) 1 (by decide) (by decide) (fun a ha=>by
    have:=hin a ha
    have:a≠0:=fun e=>h0 (e ▸ ha)
    omega)).1
   omega
theorem AF{k:aA}(ok:kK k):bZ k.wher.es k.vars.es=true/\∀t∈k.values.es,bZ t.shape.dims.es k.vars.es=true:=by
 have hso:=ok.out
 simp only[bD,Bool.and_eq_true,decide_eq_true_eq]at hso
 obtain⟨_,⟨⟨⟨⟨⟨⟨_,hw⟩,_⟩,_⟩,_⟩,_⟩,_⟩,hty⟩:=hso
 refine⟨hw,fun t ht=>?_⟩
 rw[List.all_eq_true]at hty
 have:=hty t ht
 simp only[eX,Bool.and_eq_true]at this
 exact this.2
end Go.Tev
end
section
namespace Go.Tev
theorem CR{k:aA}{ds:List Val}(h:¬(cB k).2=0):gJ k ds = .tup [.sl true [] true,.int .i64 22]:=by
 have:dY k ds=22:=by rw[dY,if_neg h]
 rw[gJ,this];rfl
theorem nA{k:aA}{ds:List Val}(h:(cB k).2=0)(h1:eqL cU ds k.vars.es=false):gJ k ds = .tup [.sl true [] true,.int .i64 1]:=by
 have:dY k ds=1:=by rw[dY,if_pos h,h1];rfl
 rw[gJ,this];rfl
theorem CQ{k:aA}{ds:List Val}(h:(cB k).2=0)(h1:eqL cU ds k.vars.es=true)(h2:k.wher.es.all (fun l=>decide (0<=(bM ds l).1))=false):gJ k ds = .tup [.sl true [] true,.int .i64 2]:=by
 have:dY k ds=2:=by rw[dY,if_pos h,h1,h2];rfl
 rw[gJ,this];rfl
theorem yU{k:aA}{ds:List Val}(h:(cB k).2=0)(h1:eqL cU ds k.vars.es=true)(h2:k.wher.es.all (fun l=>decide (0<=(bM ds l).1))=true)(h3:eC (fun t=>(eZ ds t).2) (aF k) k.values.es=false):gJ k ds = .tup [.sl true [] true,.int .i64 3]:=by
 have:dY k ds=3:=by rw[dY,if_pos h,h1,h2,h3];rfl
 rw[gJ,this];rfl
theorem D3{k:aA}{ds:List Val}(h:(cB k).2=0)(h1:eqL cU ds k.vars.es=true)(h2:k.wher.es.all (fun l=>decide (0<=(bM ds l).1))=true)(h3:eC (fun t=>(eZ ds t).2) (aF k) k.values.es=true):dY k ds=0:=by
 rw[dY,if_pos h,h1,h2,h3];rfl
theorem E0{k:aA}{ds:List Val}(h:(cB k).2=0)(h1:eqL cU ds k.vars.es=true)(h2:k.wher.es.all (fun l=>decide (0<=(bM ds l).1))=true)(h3:eC (fun t=>(eZ ds t).2) (aF k) k.values.es=true) :
  gJ k ds = .tup [.sl false ((eP (eM ds) (aF k) k.values.es).map aH) true,.int .i64 0]:=by
 rw[gJ,if_pos (D3 h h1 h2 h3)]
def nH(ds:List Val)(t:Typ)(r:AV):Prop:=if jI ds t then ∃nl cl,r = .tup [.sl nl ((oG ds t).map aH) cl,.int .i64 0] else r = .tup [.sl true [] true,.int .i64 3]
theorem tG{ds:List Val}{t:Typ}(h:jI ds t=false):nH ds t (.tup [.sl true [] true,.int .i64 3]):=by
 rw[nH,h];rfl
theorem OL{ds:List Val}{t:Typ}{r:AV}(h:jI ds t=true)(hr:∃nl cl,r = .tup [.sl nl ((oG ds t).map aH) cl,.int .i64 0]):nH ds t r:=by
 rw[nH,h];exact hr
section
variable{pg:Pg}
theorem aCG(hf:pg.fs 16=some cf16)(k:aA)(h9:bL pg 9 [k.av] (iY k))(nl cl:Bool)(ds:List Val)(hb:ds.length<=big)
  (h32:∀l:Lin,Ret pg 32 [l.av,.sl nl (ds.map Val.av) cl] (.tup [.int .i64 (bM ds l).1,.int .i64 (bM ds l).2])) (h33:∀t:Typ,Ret pg 33 [t.av,.sl nl (ds.map Val.av) cl] (.tup [.int .i64 (eM ds t),.bool (eZ ds t).2])) :
  Ret pg 16 [k.av,.sl nl (ds.map Val.av) cl] (gJ k ds):=by
 obtain⟨r9,hr9,hs9⟩:=h9
 refine Ret.ofX hf ?_
 unfold cf16
 simp only[aA.av,aA.cells,go_sem,seval]
 rcases j2 (k:=k) with hc|hc
 ·have ok:=fL hc
  have hso:=ok.out
  simp only[bD,Bool.and_eq_true,decide_eq_true_eq]at hso
  obtain⟨_,⟨⟨⟨⟨⟨⟨_,_⟩,hi0⟩,_⟩,hiV⟩,_⟩,_⟩,_⟩:=hso
  have hsl:=jN (k:=k) (by omega)
  have hVb:=k.values.ok
  have htr:treeL ((aF k).map bS)=true:=bG (f:=bS) (fun s=>by simp[bS,go_sem]) _
  rw[iY,if_pos hc]at hs9
  subst hs9
  refine aB hr9 (by simp only[aA.av,aA.cells,go_sem,seval]) (by first|rfl|(simp[AV.tree,htr])) ?_
  simp only[go_sem,seval]
  cases hl:decide ((ds.length:Int)=k.vars.es.length)
  case false=>
   simp only[hl,go_sem,seval]
   rw[nA hc (uN hl)]
  case true=>
   have hlv:ds.length=k.vars.es.length:=by
    have:=of_decide_eq_true hl
    omega
   simp only[hl,go_sem,seval]
   refine aG ds (fun d r env hp=>env=cf16E0 (.sl nl (ds.map Val.av) cl) (.pt 1 0 0) (.sl false ((aF k).map bS) false) (.sl nl (ds.map Val.av) cl) (.int .i64 ds.length) (.int .i64 d.length) /\
    hp.get 1=some (0,.blk k.cells 6 true true false)/\eqL cU ds k.vars.es=eqL cU r (k.vars.es.drop d.length)) ?_ ?_ ?_
   ·refine⟨rfl,?_,rfl⟩
    simp only[go_sem,seval]
    rfl
   ·rintro env hp ⟨rfl,g1,hD⟩
    have hD':eqL cU ds k.vars.es=true:=by rw[hD,l9 hlv]
    have g1':=g1
    simp only[aA.cells,Sl.av]at g1
    simp only[cf16L0,cf16E0,g1,go_sem,seval]
    refine aG k.wher.es (fun d r env hp=>env=cf16E1 (.sl nl (ds.map Val.av) cl) (.pt 1 0 0) (.sl false ((aF k).map bS) false) (.sl k.wher.nl (k.wher.es.map Lin.av) k.wher.cl) (.int .i64 k.wher.es.length) (.int .i64 d.length) /\
     hp.get 1=some (0,.blk k.cells 6 true true false)/\k.wher.es.all (fun l=>decide (0<=(bM ds l).1))=r.all (fun l=>decide (0<=(bM ds l).1))) ?_ ?_ ?_
    ·exact⟨rfl,g1',rfl⟩
    ·clear g1 g1' hp
     rintro env hp ⟨rfl,g1,hW⟩
     have hW':k.wher.es.all (fun l=>decide (0<=(bM ds l).1))=true:=by rw[hW];rfl
     have g1':=g1
     simp only[aA.cells,Sl.av]at g1
     simp only[cf16L1,cf16E1,g1,go_sem,seval]
     have hV30:((k.values.es.length:Int)<=1073741824)=True:=eq_true (by simp only[big]at hVb;omega)
     generalize hE:hp.next 21=E
     simp only[hV30,go_sem,seval]
     refine aG (aF k) (fun d r env hp=>env=cf16E2 (.sl nl (ds.map Val.av) cl) (.pt 1 0 0) (.rf 21 E 0 k.values.es.length k.values.es.length) (.sl false ((aF k).map bS) false) (.int .i64 (aF k).length) (.int .i64 d.length) /\
      hp.get 1=some (0,.blk k.cells 6 true true false)/\hp.get 21=some (E,.blk ((pX (eM ds) d k.values.es).map aH) 1 false true false)/\eC (fun t=>(eZ ds t).2) (aF k) k.values.es=eC (fun t=>(eZ ds t).2) r (k.values.es.drop d.length)) ?_ ?_ ?_
     ·refine⟨rfl,?_,?_,rfl⟩
      ·simp only[go_sem,seval]
       exact g1'
      ·simp only[go_sem,seval]
       simp[pX,eP,aH,hE]
     ·clear g1 g1' hE hp
      rintro env hp ⟨rfl,g1,g2,hS⟩
      have hS':eC (fun t=>(eZ ds t).2) (aF k) k.values.es=true:=by rw[hS];rfl
      have hpl:pX (eM ds) (aF k) k.values.es=eP (eM ds) (aF k) k.values.es:=by simp[pX,hsl]
      rw[hpl]at g2
      have hsn:=JX g2 61
      rw[kS (eM ds) _ _ (by omega),hsl]at hsn
      simp only[cf16L2,cf16E2,go_sem,seval]
      simp only[Tev.conv,depth,eI,cD,bA,↓hsn,go_sem]
      rw[E0 hc hD' hW' hS']
     ·clear g1 g1' hE hp
      rintro d x r env hp hes ⟨rfl,g1,g2,hS⟩
      have hlt:d.length<k.values.es.length:=by rw[<-hsl,hes];simp
      obtain⟨t,ht⟩:∃t,k.values.es[d.length]?=some t:=⟨_,List.getElem?_eq_getElem hlt⟩
      have hget:(aF k)[d.length]?=some x:=by rw[hes];simp
      have hSx:eC (fun t=>(eZ ds t).2) (aF k) k.values.es=((decide (x.1 = -2)||(eZ ds t).2)&&eC (fun t=>(eZ ds t).2) r (k.values.es.drop (d++[x]).length)):=by
       rw[hS,List.drop_eq_getElem_cons hlt,eC]
       rw[List.getElem?_eq_getElem hlt]at ht
       cases ht
       simp
      have hvl:((d.length:Int)<(k.values.es.length:Int))=True:=eq_true (by omega)
      have hsl2:((d.length:Int)<((aF k).length:Int))=True:=eq_true (by omega)
      have hsl3:decide ((d.length:Int)<((aF k).length:Int))=true:=by simp;omega
      have g1':=g1
      simp only[aA.cells,Sl.av]at g1
      have hsb:(d++x::r).length<=big:=by rw[<-hes,hsl];exact hVb
      simp only[cf16L2,cf16E2,g1,hget,hsl2,hsl3,bS,go_sem,seval]
      cases b1:decide (x.1 = -2)
      case true=>
       simp only[b1,aM hsb,go_sem,seval]
       refine⟨rfl,g1',?_,by rw[hSx,b1];rfl⟩
       rw[IH (eM ds) x d k.values.es t ht (of_decide_eq_true b1)]
       exact g2
      simp only[b1,ht,hvl,g1,go_sem,seval]
      refine aB (h33 t) (by simp only[go_sem,seval]) rfl ?_
      simp only[go_sem,seval]
      cases b2:(eZ ds t).2
      case false=>
       simp only[go_sem,seval]
       rw[yU hc hD' hW' (by rw[hSx,b1,b2];rfl)]
      have b1':¬x.1 = -2:=of_decide_eq_false b1
      have hpl:=KK (eM ds) d k.values.es (by omega)
      have hle:(0+d.length*1+1<=(pX (eM ds) d k.values.es).length)=True:=eq_true (by rw[hpl];omega)
      have hst:List.take (0+d.length*1) ((pX (eM ds) d k.values.es).map aH)++[.int .i64 (eM ds t)]++List.drop (0+d.length*1+1) ((pX (eM ds) d k.values.es).map aH)=(pX (eM ds) (d++[x]) k.values.es).map aH:=by
       rw[KJ (eM ds) x d k.values.es t ht b1',Nat.zero_add,Nat.mul_one]
      simp only[b2,aM hsb,g2,hvl,hle,hst,go_sem,seval]
      exact⟨rfl,g1',by rw[hSx,b1,b2];rfl⟩
    ·clear g1 g1' hp
     rintro d x r env hp hes ⟨rfl,g1,hW⟩
     have hwb:=k.wher.ok
     obtain⟨hget,x1,x2,xw⟩:=cJ hes hwb
     have hr32:=h32 x
     simp only[cf16L1,cf16E1,hget,x1,x2,go_sem,seval]
     refine aB hr32 (by simp only[go_sem,seval]) rfl ?_
     simp only[go_sem,seval]
     cases b1:decide ((bM ds x).1<0)
     case true=>
      have b1':decide (0<=(bM ds x).1)=false:=by simp at b1 ⊢;omega
      simp only[b1,go_sem,seval]
      rw[CQ hc hD' (by rw[hW,List.all_cons,b1'];rfl)]
     have b1':decide (0<=(bM ds x).1)=true:=by simp at b1 ⊢;omega
     simp only[b1,xw,go_sem,seval]
     exact⟨rfl,g1,by rw[hW,List.all_cons,b1'];rfl⟩
   ·rintro d x r env hp hes ⟨rfl,g1,hD⟩
    obtain⟨hget,x1,x2,xw⟩:=cJ hes hb
    obtain⟨y,hy,_,hvl,hq⟩:=z7 (q:=cU) hes hlv
    rw[hq]at hD
    have g1':=g1
    simp only[aA.cells,Sl.av]at g1
    simp only[cf16L0,cf16E0,g1,hy,hvl,hget,x1,x2,go_sem,seval]
    cases b1:decide (x.v.bs=y.bs)
    case false=>
     simp only[b1,go_sem,seval]
     exact⟨by kernel_rfl,by rw[nA hc (by rw[hD,cU,b1];rfl)]⟩
    cases b2:decide (x.n<0)
    case true=>
     simp only[b1,b2,go_sem,seval]
     exact⟨by kernel_rfl,by rw[nA hc (by rw[hD,cU,b1,b2];rfl)]⟩
    cases b3:decide (4096<x.n)
    case true=>
     simp only[b1,b2,b3,go_sem,seval]
     exact⟨by kernel_rfl,by rw[nA hc (by rw[hD,cU,b1,b2,b3];rfl)]⟩
    simp only[b1,b2,b3,xw,go_sem,seval]
    exact⟨by kernel_rfl,rfl,g1',by rw[hD,cU,b1,b2,b3];rfl⟩
 ·rw[iY,if_neg (by omega)]at hs9
  subst hs9
  refine aB hr9 (by simp only[aA.av,aA.cells,go_sem,seval]) rfl ?_
  simp only[go_sem,seval]
  rw[CR (by omega)]
theorem c35(hf:pg.fs 35=some cf35)(h34:∀(l:Lin) (nl cl:Bool) (ds:List Val),ds.length<=big->Ret pg 34 [l.av,.sl nl (ds.map Val.av) cl] (.tup [.int .i64 (bM ds l).1,.int .i64 (bM ds l).2]))(t:Typ)(nl cl:Bool)(ds:List Val)(hb:ds.length<=big) :
  bL pg 35 [t.av,.sl nl (ds.map Val.av) cl] (nH ds t):=by
 refine bL.ofX hf ?_
 unfold cf35
 have hlb:=t.shape.dims.ok
 have hlb':=hlb
 simp only[big]at hlb'
 simp only[go_sem,seval]
 refine aG t.shape.dims.es (fun d r env hp=>∃v,env=cf35E0 (.sl nl (ds.map Val.av) cl) (.pt 1 0 0) v (.int .i64 1) (.int .i64 d.length)/\hp.get 1=some (0,.blk [.str t.elem.bs,.str t.shape.row.bs,.sl t.shape.dims.nl (t.shape.dims.es.map Lin.av) t.shape.dims.cl] 3 true true false) /\
  Own hp 9 1 false v ((d.map fun l=>(bM ds l).1).map aH)/\t.shape.dims.es.all (jM ds)=r.all (jM ds)) ?_ ?_ ?_
 ·exact⟨_,rfl,rfl,Own.nil _ _ _ _ _ _ rfl,rfl⟩
 ·rintro env hp ⟨v,rfl,g1,ho,hI⟩
  have hI':t.shape.dims.es.all (jM ds)=true:=by rw[hI];rfl
  have ho':Own hp 9 1 false v ((oG ds t).map aH):=ho
  have hfl:=ho'.flen
  have hLb:(oG ds t).length<=big:=by simpa[oG] using hlb
  have hG:jI ds t=decide ((oG ds t).foldl lJ 1<=4096):=by rw[jI,hI',Bool.true_and]
  obtain⟨L,hL⟩:∃L,oG ds t=L:=⟨_,rfl⟩
  rw[hL]at ho' hfl hLb hG
  simp only[cf35L0,cf35E0,g1,aX,go_sem,seval]
  clear ho
  refine aG L (fun d r env hp2=>∃n:Int,env=cf35E1 v (.int .i64 n) (.int .i64 d.length)/\hp2=hp/\L.foldl lJ 1=r.foldl lJ n) ?_ ?_ ?_
  ·exact⟨1,rfl,rfl,rfl⟩
  ·rintro env hp2 ⟨n,rfl,rfl,hJ⟩
   have hG2:jI ds t=decide (n<=4096):=by rw[hG,hJ];rfl
   have hle:decide (4096<n) = !decide (n<=4096):=by rw[<-decide_not,decide_eq_decide];omega
   have hl0:(L.map aH).length=L.length:=by simp
   rw[hl0]at hfl
   cases hn:decide (n<=4096)
   ·rw[hn]at hle
    simp only[cf35L1,cf35E1,↓hfl,aX,hle,go_sem,seval]
    exact tG (by rw[hG2,hn])
   ·rw[hn]at hle
    simp only[cf35L1,cf35E1,↓hfl,aX,hle,go_sem,seval]
    have hfin:∀r,(∃nl cl,r = .tup [.sl nl (L.map aH) cl,.int .i64 0])->nH ds t r:=fun r hr=>OL (by rw[hG2,hn]) (by rw[hL];exact hr)
    obtain⟨nl3,cl3,keys,hsn,_⟩:=ho'.snap (El.ints _) 61
    rcases ho' with ⟨he,nl',cl',rfl,_⟩|⟨e,cs,rfl,hg,hu⟩
    ·simp only[go_sem,seval]
     exact hfin _ ⟨nl',cl',by rw[he]⟩
    ·simp only[List.length_map]at hsn
     simp only[Tev.conv,depth,eI,cD,bA,↓hsn,go_sem,List.length_map]
     exact hfin _ ⟨_,_,rfl⟩
  ·rintro d a r env hp2 hes ⟨n,rfl,rfl,hJ⟩
   obtain⟨hget,e1,e2,ew⟩:=cJ hes hLb
   have hl0:(L.map aH).length=L.length:=by simp
   rw[hl0]at hfl
   have hgm:(L.map aH)[d.length]?=some (.int .i64 a):=by rw[List.getElem?_map,hget];rfl
   rcases ho' with ⟨he,nl',cl',rfl,_⟩|⟨e,cs,rfl,hg,hu⟩
   ·have:L=[]:=by simpa using he
    rw[this]at hget;simp at hget
   ·rw[fM]at hu
    cases hu
    have e2':((d.length:Int)<((L.map aH).length:Int))=True:=by rw[hl0];exact e2
    simp only[cf35L1,cf35E1,e1,e2,hg,hget,Nat.mul_one,Nat.zero_add,mn2,ew,go_sem,seval]
    exact⟨_,rfl,hJ⟩
 ·rintro d x r env hp hes ⟨v,rfl,g1,ho,hI⟩
  obtain⟨hget,e1,e2,ew⟩:=cJ hes hlb
  have hdl:d.length<=t.shape.dims.es.length:=by rw[hes];simp
  rw[List.all_cons]at hI
  have hr34:=h34 x nl cl ds hb
  have hbad:jM ds x=false->jI ds t=false:=by
   intro h
   rw[jI,hI,h];rfl
  simp only[cf35L0,cf35E0,g1,hget,e1,e2,go_sem,seval]
  refine aB hr34 (by simp only[go_sem,seval]) rfl ?_
  cases b0:decide ((bM ds x).2=0)
  ·simp only[b0,go_sem,seval]
   exact tG (hbad (by simp[jM,b0]))
  cases b1:decide (0<=(bM ds x).1)
  ·have b1':decide ((bM ds x).1<0)=true:=by simp at b1 ⊢;omega
   simp only[b0,b1',go_sem,seval]
   exact tG (hbad (by simp[jM,b1]))
  have b1':decide ((bM ds x).1<0)=false:=by simp at b1 ⊢;omega
  cases b2:decide ((bM ds x).1<=4096)
  ·have b2':decide (4096<(bM ds x).1)=true:=by simp at b2 ⊢;omega
   simp only[b0,b1',b2',go_sem,seval]
   exact tG (hbad (by simp[jM,b2]))
  have b2':decide (4096<(bM ds x).1)=false:=by simp at b2 ⊢;omega
  simp only[b0,b1',b2',go_sem,seval]
  refine eU (kb:=0) (s:=9) ho (El.ints _) (xs:=[.int .i64 (bM ds x).1]) (by intro z hz;simp at hz;subst hz;exact El.int _) (by simp only[List.length_map,List.length_singleton];omega) (by decide) ?_
  intro v' rd pa ho2 hk2 _
  simp only[ew,go_sem,seval]
  refine⟨v',rfl,?_,by simpa[aH] using ho2,?_⟩
  ·rw[hk2 1 (by omega)];exact g1
  ·rw[hI,jM,b0,b1,b2];rfl
end
end Go.Tev
end
section
namespace Go.Tev
section
variable{pg:Pg}
end
end Go.Tev
end
section
namespace Go.Tev
section
variable{pg:Pg}
end
end Go.Tev
end
section
namespace Go.Tev
def gY(k:aA)(ds:List Val)(r:AV):Prop:=
 if dY k ds=0 then ∃nl cl,r = .tup [.sl nl ((eP (eM ds) (aF k) k.values.es).map aH) cl,.int .i64 0] else r = .tup [.sl true [] true,.int .i64 (dY k ds)]
theorem P6{k:aA}{ds:List Val}(h:¬(cB k).2=0):gY k ds (.tup [.sl true [] true,.int .i64 22]):=by
 have:dY k ds=22:=by rw[dY,if_neg h]
 rw[gY,this];rfl
theorem BI{k:aA}{ds:List Val}(h:(cB k).2=0)(h1:eqL cU ds k.vars.es=false):gY k ds (.tup [.sl true [] true,.int .i64 1]):=by
 have:dY k ds=1:=by rw[dY,if_pos h,h1];rfl
 rw[gY,this];rfl
theorem P5{k:aA}{ds:List Val}(h:(cB k).2=0)(h1:eqL cU ds k.vars.es=true)(h2:k.wher.es.all (fun l=>decide (0<=(bM ds l).1))=false):gY k ds (.tup [.sl true [] true,.int .i64 2]):=by
 have:dY k ds=2:=by rw[dY,if_pos h,h1,h2];rfl
 rw[gY,this];rfl
theorem J3{k:aA}{ds:List Val}(h:(cB k).2=0)(h1:eqL cU ds k.vars.es=true)(h2:k.wher.es.all (fun l=>decide (0<=(bM ds l).1))=true)(h3:eC (fun t=>(eZ ds t).2) (aF k) k.values.es=false):gY k ds (.tup [.sl true [] true,.int .i64 3]):=by
 have:dY k ds=3:=by rw[dY,if_pos h,h1,h2,h3];rfl
 rw[gY,this];rfl
section
variable{pg:Pg}
set_option maxHeartbeats 1000000 in
theorem c17(hf:pg.fs 17=some cf17)(k:aA)(h10:bL pg 10 [k.av] (fY k))(nl cl:Bool)(ds:List Val)(hb:ds.length<=big)
  (h34:∀l:Lin,Ret pg 34 [l.av,.sl nl (ds.map Val.av) cl] (.tup [.int .i64 (bM ds l).1,.int .i64 (bM ds l).2]))
  (h35:∀t:Typ,bL pg 35 [t.av,.sl nl (ds.map Val.av) cl] (nH ds t)) :
  bL pg 17 [k.av,.sl nl (ds.map Val.av) cl] (gY k ds):=by
 obtain⟨r9,hr9,hs9⟩:=h10
 simp only[aA.av,aA.cells,Sl.av]at hr9
 refine bL.ofX hf ?_
 unfold cf17
 simp only[aA.av,aA.cells,go_sem,seval]
 rcases j2 (k:=k) with hc|hc
 ·have ok:=fL hc
  have hso:=ok.out
  simp only[bD,Bool.and_eq_true,decide_eq_true_eq]at hso
  obtain⟨_,⟨⟨⟨⟨⟨⟨_,_⟩,hi0⟩,_⟩,hiV⟩,_⟩,_⟩,_⟩:=hso
  obtain⟨hov,hot⟩:=AF ok
  have hsl:=jN (k:=k) (by omega)
  have hVb:=k.values.ok
  have htr:treeL ((aF k).map bS)=true:=bG (f:=bS) (fun s=>by simp[bS,go_sem]) _
  rw[fY,if_pos hc]at hs9
  obtain⟨nl9,cl9,rfl⟩:=hs9
  refine aB hr9 (by simp only[go_sem,seval]) (by first|rfl|(simp[AV.tree,htr])) ?_
  cases hl:decide ((ds.length:Int)=k.vars.es.length)
  case false=>
   simp only[hl,go_sem,seval]
   exact BI hc (uN hl)
  case true=>
   have hlv:ds.length=k.vars.es.length:=by
    have:=of_decide_eq_true hl
    omega
   simp only[hl,go_sem,seval]
   refine aG ds (fun d r env hp=>env=cf17E0 (.sl nl (ds.map Val.av) cl) (.pt 1 0 0) (.sl nl9 ((aF k).map bS) cl9) (.int .i64 d.length) /\
    hp.get 1=some (0,.blk (aQ k) 6 true true false)/\eqL cU ds k.vars.es=eqL cU r (k.vars.es.drop d.length)) ?_ ?_ ?_
   ·refine⟨rfl,?_,rfl⟩
    simp only[go_sem,seval]
    rfl
   ·rintro env hp ⟨rfl,g1,hD⟩
    have hD':eqL cU ds k.vars.es=true:=by rw[hD,l9 hlv]
    have hev:=DU hD' hov
    simp only[cf17L0,cf17E0,aX,go_sem,seval]
    refine aG k.wher.es (fun d r env hp=>env=cf17E1 (.sl nl (ds.map Val.av) cl) (.pt 1 0 0) (.sl nl9 ((aF k).map bS) cl9) (.int .i64 d.length) /\
     hp.get 1=some (0,.blk (aQ k) 6 true true false)/\k.wher.es.all (fun l=>decide (0<=(bM ds l).1))=r.all (fun l=>decide (0<=(bM ds l).1))) ?_ ?_ ?_
    ·exact⟨rfl,g1,rfl⟩
    ·clear g1 hp
     rintro env hp ⟨rfl,g1,hW⟩
     have hW':k.wher.es.all (fun l=>decide (0<=(bM ds l).1))=true:=by rw[hW];rfl
     have g1':=g1
     simp only[aQ]at g1
     simp only[cf17L1,cf17E1,g1,aX,go_sem,seval]
     have hlb:(aF k).length<=big:=by rw[hsl];exact hVb
     refine aG (aF k) (fun d r env hp=>∃w,env=cf17E3 (.sl nl (ds.map Val.av) cl) (.pt 1 0 0) (.sl nl9 ((aF k).map bS) cl9) w (.int .i64 d.length) /\
      hp.get 1=some (0,.blk (aQ k) 6 true true false)/\Own hp 17 1 false w ((eP (eM ds) d k.values.es).map aH) /\
      eC (fun t=>(eZ ds t).2) (aF k) k.values.es=eC (fun t=>(eZ ds t).2) r (k.values.es.drop d.length)) ?_ ?_ ?_
     ·exact⟨_,rfl,g1',Own.nil _ _ _ _ _ _ rfl,rfl⟩
     ·clear g1 g1' hp
      rintro env hp ⟨w,rfl,g1,ho,hS⟩
      have hS':eC (fun t=>(eZ ds t).2) (aF k) k.values.es=true:=by rw[hS];rfl
      have hfin:∀r,(∃nl cl,r = .tup [.sl nl ((eP (eM ds) (aF k) k.values.es).map aH) cl,.int .i64 0])->gY k ds r:=by
       intro r hr
       rw[gY,if_pos (D3 hc hD' hW' hS')]
       exact hr
      simp only[cf17L3,cf17E3,aX,go_sem,seval]
      obtain⟨nl3,cl3,keys,hsn,_⟩:=ho.snap (El.ints _) 61
      rcases ho with ⟨he,nl',cl',rfl,_⟩|⟨e,cs,rfl,hg,hu⟩
      ·simp only[go_sem,seval]
       exact hfin _ ⟨nl',cl',by rw[he]⟩
      ·simp only[List.length_map]at hsn
       simp only[Tev.conv,depth,eI,cD,bA,↓hsn,go_sem,List.length_map]
       exact hfin _ ⟨_,_,rfl⟩
     ·clear g1 g1' hp
      rintro d x r env hp hes ⟨w,rfl,g1,ho,hS⟩
      obtain⟨hget,x1,x2,xw⟩:=cJ hes hlb
      have hlt:d.length<k.values.es.length:=by rw[<-hsl,hes];simp
      obtain⟨t,ht⟩:∃t,k.values.es[d.length]?=some t:=⟨_,List.getElem?_eq_getElem hlt⟩
      have hvl:((d.length:Int)<(k.values.es.length:Int))=True:=eq_true (by omega)
      have hSx:eC (fun t=>(eZ ds t).2) (aF k) k.values.es=((decide (x.1 = -2)||(eZ ds t).2)&&eC (fun t=>(eZ ds t).2) r (k.values.es.drop (d++[x]).length)):=by
       rw[hS,List.drop_eq_getElem_cons hlt,eC]
       rw[List.getElem?_eq_getElem hlt]at ht
       cases ht
       simp
      have hsno:=m9 (eM ds) x d k.values.es t ht
      have hslen:=kS (eM ds) d k.values.es (by omega)
      have hfx:=vQ ok (show x∈aF k by rw[hes];simp)
      have hx0:bS x = .agg [.int .i64 x.1,.int .i64 x.2]:=rfl
      have h3:decide (-1<=x.1) = !decide (x.1 = -2):=by
       rw[<-decide_not,decide_eq_decide]
       rcases hfx with h|h<;>omega
      have g1':=g1
      simp only[aQ]at g1
      simp only[big]at hVb
      cases b1:decide (x.1 = -2)
      case true=>
       rw[b1]at h3
       simp only[cf17L3,cf17E3,hget,x1,x2,hx0,h3,go_sem,seval]
       refine eU (kb:=0) (s:=17) ho (El.ints _) (xs:=[.int .i64 0]) (by intro z hz;simp at hz;subst hz;exact El.int _) (by simp only[List.length_map,List.length_singleton];omega) (by decide) ?_
       intro v' rd pa ho2 hk2 _
       simp only[xw,go_sem,seval]
       refine⟨v',rfl,?_,?_,by rw[hSx,b1];rfl⟩
       ·rw[hk2 1 (by omega)];exact g1'
       ·rw[hsno,if_pos (of_decide_eq_true b1)];simpa[aH] using ho2
      case false=>
      rw[b1]at h3
      obtain⟨r35,hr35,hs35⟩:=h35 t
      obtain⟨q1,q2⟩:=CT hD' (hot t (List.mem_of_getElem? ht))
      rw[nH,q1]at hs35
      cases b2:(eZ ds t).2
      case false=>
       rw[b2]at hs35
       simp only[Bool.false_eq_true,if_false]at hs35
       subst hs35
       simp only[cf17L3,cf17E3,hget,x1,x2,hx0,h3,g1,ht,hvl,go_sem,seval]
       refine aB hr35 (by simp only[go_sem,seval]) rfl ?_
       simp only[go_sem,seval]
       exact J3 hc hD' hW' (by rw[hSx,b1,b2];rfl)
      case true=>
      rw[b2]at hs35
      simp only[if_true]at hs35
      obtain⟨nl5,cl5,rfl⟩:=hs35
      obtain⟨q3,_,_⟩:=q2 b2
      simp only[cf17L3,cf17E3,hget,x1,x2,hx0,h3,g1,ht,hvl,go_sem,seval]
      refine aB hr35 (by simp only[go_sem,seval]) (by first|rfl|(simp[AV.tree,mN])) ?_
      simp only[go_sem,seval]
      have hLb:(oG ds t).length<=big:=by
       have:=t.shape.dims.ok
       simpa[oG] using this
      have hq3:(oG ds t).foldl (fun n a=>wr .i64 (n*a)) 1=eM ds t:=q3
      generalize oG ds t=L at hLb hq3
      refine aG L (fun d3 r3 env hp3=>∃n:Int,env=cf17E2 (.sl nl (ds.map Val.av) cl) (.pt 1 0 0) (.sl nl9 ((aF k).map bS) cl9) w (.int .i64 d.length) (.int .i64 n) (.sl nl5 (L.map aH) cl5) (.int .i64 d3.length)/\hp3=hp/\L.foldl (fun n a=>wr .i64 (n*a)) 1=r3.foldl (fun n a=>wr .i64 (n*a)) n) ?_ ?_ ?_
      ·exact⟨1,rfl,rfl,rfl⟩
      ·rintro env hp3 ⟨n,rfl,rfl,hJ⟩
       have hn:n=eM ds t:=by rw[<-hq3,hJ];rfl
       simp only[cf17L2,cf17E2,aX,go_sem,seval]
       refine eU (kb:=0) (s:=17) ho (El.ints _) (xs:=[.int .i64 n]) (by intro z hz;simp at hz;subst hz;exact El.int _) (by simp only[List.length_map,List.length_singleton];omega) (by decide) ?_
       intro v' rd pa ho2 hk2 _
       simp only[xw,go_sem,seval]
       refine⟨v',rfl,?_,?_,by rw[hSx,b1,b2];rfl⟩
       ·rw[hk2 1 (by omega)];exact g1'
       ·rw[hsno,if_neg (of_decide_eq_false b1),<-hn];simpa[aH] using ho2
      ·rintro d3 a r3 env hp3 hes3 ⟨n,rfl,rfl,hJ⟩
       obtain⟨hget3,f1,f2,fw⟩:=cJ hes3 hLb
       simp only[cf17L2,cf17E2,hget3,f1,f2,fw,go_sem,seval]
       exact⟨_,rfl,hJ⟩
    ·clear g1 hp
     rintro d x r env hp hes ⟨rfl,g1,hW⟩
     have hwb:=k.wher.ok
     obtain⟨hget,x1,x2,xw⟩:=cJ hes hwb
     have hr34:=h34 x
     rw[hev x (by rw[hes];simp)]at hr34
     have g1':=g1
     simp only[aQ]at g1
     simp only[cf17L1,cf17E1,g1,hget,x1,x2,go_sem,seval]
     refine aB hr34 (by simp only[go_sem,seval]) rfl ?_
     simp only[go_sem,seval]
     cases b1:decide ((bM ds x).1<0)
     case true=>
      have b1':decide (0<=(bM ds x).1)=false:=by simp at b1 ⊢;omega
      simp only[b1,go_sem,seval]
      exact P5 hc hD' (by rw[hW,List.all_cons,b1'];rfl)
     have b1':decide (0<=(bM ds x).1)=true:=by simp at b1 ⊢;omega
     simp only[b1,xw,go_sem,seval]
     refine⟨rfl,?_,by rw[hW,List.all_cons,b1'];rfl⟩
     first|exact g1'|rfl
   ·rintro d x r env hp hes ⟨rfl,g1,hD⟩
    obtain⟨hget,x1,x2,xw⟩:=cJ hes hb
    obtain⟨y,hy,_,hvl,hq⟩:=z7 (q:=cU) hes hlv
    rw[hq]at hD
    have g1':=g1
    simp only[aQ]at g1
    simp only[cf17L0,cf17E0,g1,hy,hvl,hget,x1,x2,go_sem,seval]
    cases b1:decide (x.v.bs=y.bs)
    case false=>
     simp only[b1,go_sem,seval]
     exact⟨by kernel_rfl,BI hc (by rw[hD,cU,b1];rfl)⟩
    cases b2:decide (x.n<0)
    case true=>
     simp only[b1,b2,hget,x1,x2,go_sem,seval]
     exact⟨by kernel_rfl,BI hc (by rw[hD,cU,b1,b2];rfl)⟩
    cases b3:decide (4096<x.n)
    case true=>
     simp only[b1,b2,b3,hget,x1,x2,go_sem,seval]
     exact⟨by kernel_rfl,BI hc (by rw[hD,cU,b1,b2,b3];rfl)⟩
    simp only[b1,b2,b3,hget,x1,x2,xw,go_sem,seval]
    exact⟨by kernel_rfl,rfl,g1',by rw[hD,cU,b1,b2,b3];rfl⟩
 ·rw[fY,if_neg (by rw[hc];decide)]at hs9
  subst hs9
  refine aB hr9 (by simp only[go_sem,seval]) rfl ?_
  simp only[go_sem,seval]
  exact P6 (by rw[hc];decide)
end
end Go.Tev
end
section
namespace Go.Tev
theorem zK{ds:List Val}{vars:List Str}(hD:eqL cU ds vars=true):∀(sp:List Sp)(vs:List Typ),(∀t∈vs,bZ t.shape.dims.es vars=true)->eC (fun t=>(eZ ds t).2) sp vs=true->∀z∈eP (eM ds) sp vs,0<=z/\z<=4096
 |[],_,_,_,z,hz=>by simp[eP]at hz
 |_::_,[],_,_,z,hz=>by simp[eP]at hz
 |s::r,t::q,ht,hS,z,hz=>by
  simp only[eC,Bool.and_eq_true,Bool.or_eq_true,decide_eq_true_eq]at hS
  simp only[eP,List.mem_cons]at hz
  rcases hz with rfl|hz
  ·by_cases h:s.1 = -2
   ·rw[if_pos h];decide
   ·rw[if_neg h]
    rcases hS.1 with h2|h2
    ·exact absurd h2 h
    ·exact((CT hD (ht t (by simp))).2 h2).2
  ·exact zK hD r q (fun u hu=>ht u (List.mem_cons_of_mem _ hu)) hS.2 z hz
def TI(k:aA)(ds:List Val):List (Sp×Int):=(aF k).zip (eP (eM ds) (aF k) k.values.es)
theorem nJ{k:aA}{ds:List Val}(h:dY k ds=0):(cB k).2=0/\eqL cU ds k.vars.es=true/\eC (fun t=>(eZ ds t).2) (aF k) k.values.es=true:=by
 simp only[dY]at h
 split at h
 ·rename_i h1
  split at h
  ·rename_i h2
   split at h
   ·split at h
    ·rename_i h4
     exact⟨h1,h2,h4⟩
    ·simp at h
   ·simp at h
  ·simp at h
 ·simp at h
theorem EO{k:aA}{ds:List Val}(ok:kK k):(TI k ds).length=k.values.es.length/\(aF k).length=k.values.es.length/\(eP (eM ds) (aF k) k.values.es).length=k.values.es.length:=by
 have hso:=ok.out
 simp only[bD,Bool.and_eq_true,decide_eq_true_eq]at hso
 obtain⟨_,⟨⟨⟨⟨⟨⟨_,_⟩,hi0⟩,_⟩,hiV⟩,_⟩,_⟩,_⟩:=hso
 have hsl:=jN (k:=k) (by omega)
 have hzl:=kS (eM ds) (aF k) k.values.es (by omega)
 exact⟨by simp[TI,List.length_zip,hsl,hzl],hsl,by omega⟩
section
variable{pg:Pg}
end
end Go.Tev
end
section
namespace Go.Tev
def frm(sp:List Sp)(n:Nat):Option Int:=sp[n]?.map (·.1)
theorem AG(sp:List Sp)(v x:Int)(n:Nat):frm (iV sp v x) n=frm sp n:=by
 simp only[frm,iV,List.getElem?_modify]
 cases sp[n]? with
 |none=>rfl
 |some s=>by_cases h:v.toNat=n<;>simp[h]
theorem uJ(i:Nat):∀(l:List Int)(sp:List Sp)(n:Nat),frm (c7 sp i l) n=frm sp n
 |[],_,_=>rfl
 |v::r,sp,n=>by
  have:=uJ i r (iV sp v i) n
  rw[AG]at this
  exact this
theorem LL(sp:List Sp)(i:Nat)(q:aE)(n:Nat)(f:Int)(h:frm (lP sp i q) n=some f):frm sp n=some f\/(q.value.toNat=n/\f=i):=by
 rw[lP,uJ,AG]at h
 split at h
 ·simp only[frm,gK,List.getElem?_modify]at h
  by_cases hv:q.value.toNat=n
  ·right
   refine⟨hv,?_⟩
   cases hs:sp[n]? with
   |none=>rw[hs]at h;simp at h
   |some s=>rw[hs]at h;simp[hv]at h;omega
  ·left
   cases hs:sp[n]? with
   |none=>rw[hs]at h;simp at h
   |some s=>rw[hs]at h;simp[hv]at h;simp[frm,hs,h]
 ·exact .inl h
theorem G9:∀(L:List aE)(sp:List Sp)(i n:Nat)(f:Int),frm (gH sp i L) n=some f->frm sp n=some f\/∃(j:Nat)(q:aE),L[j]?=some q/\q.value.toNat=n/\f=((i+j:Nat):Int)
 |[],_,_,_,_,h => .inl h
 |q::r,sp,i,n,f,h=>by
  rcases G9 r (lP sp i q) (i+1) n f h with h|⟨j,q',h1,h2,h3⟩
  ·rcases LL sp i q n f h with h|⟨h1,h2⟩
   ·exact .inl h
   ·exact .inr ⟨0,q,rfl,h1,by simpa using h2⟩
  ·exact .inr ⟨j+1,q',h1,h2,by rw[h3];omega⟩
theorem IZ{k:aA}{n:Nat}{f:Int}(h:frm (aF k) n=some f):f = -2\/(f = -1/\n<k.inputs.toNat)\/∃(j:Nat)(q:aE),k.list.es[j]?=some q/\q.value.toNat=n/\f=(j:Int):=by
 rw[aF,show mZ=fun sp n l=>c7 sp n l from rfl]at h
 simp only at h
 rw[uJ]at h
 rcases G9 _ _ _ _ _ h with h|⟨j,q,h1,h2,h3⟩
 ·simp only[frm,cQ,List.getElem?_append,List.length_replicate]at h
  split at h
  ·rename_i hn
   rw[List.getElem?_replicate,if_pos hn]at h
   simp at h
   exact .inr (.inl ⟨h.symm,hn⟩)
  ·rw[List.getElem?_replicate]at h
   split at h
   ·simp at h;exact .inl h.symm
   ·simp at h
 ·exact .inr (.inr ⟨j,q,h1,h2,by simpa using h3⟩)
end Go.Tev
end
section
namespace Go.Tev
end Go.Tev
end
