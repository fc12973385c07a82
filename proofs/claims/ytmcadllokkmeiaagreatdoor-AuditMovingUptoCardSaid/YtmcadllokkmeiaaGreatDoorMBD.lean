import Derived.Test.YtmcadllokkmeiaaGreatDoorMBC
import Derived.Test.YtmcadllokkmeiaaGreatDoorMBB
import Derived.Test.YtmcadllokkmeiaaGreatDoorMAY
set_option linter.all false
section
namespace Go.Tev
def d6(x:Val)(y:Str):Bool:=decide (x.v.bs=y.bs)&&(!decide (x.n<0) && !decide (4096<x.n))
def eO(g:Typ->Bool):List Sp->List Typ->Bool
 | s::r,t::q=>(decide (s.1 = -2)||g t)&&eO g r q
 |_,_=>true
def eA(k:aA)(ds:List Val):Int:=
 if (cH k).2=0 then
  (if eqL d6 ds k.vars.es then
   (if k.wher.es.all (fun l=>decide (0<=(bZ ds l).1)) then
    (if eO (fun t=>(eQ ds t).2) (aF k) k.values.es then 0 else 3)
   else 2)
  else 1)
 else 22
def eD(ds:List Val)(t:Typ):Int:=(eQ ds t).1
def eP(k:aA)(ds:List Val):AV:=
 if eA k ds=0 then .tup [.sl false ((dZ (eD ds) (aF k) k.values.es).map aH) true,.int .i64 0] else .tup [.sl true [] true,.int .i64 (eA k ds)]
theorem sQ:∀(ds:List Val)(vars:List Str)(s:List UInt8),eqL d6 ds vars=true->oF vars s=true->∃v,qX ds s=some v/\0<=v.n/\v.n<=4096
 |[],[],s,_,h=>by simp[oF]at h
 |[],_::_,s,h,_=>by simp[eqL]at h
 |_::_,[],s,h,_=>by simp[eqL]at h
 |x::r,y::q,s,h,hs=>by
  simp only[eqL,Bool.and_eq_true]at h
  obtain⟨h1,h2⟩:=h
  simp only[d6,Bool.and_eq_true,decide_eq_true_eq,Bool.not_eq_true',decide_eq_false_iff_not]at h1
  by_cases he:x.v.bs=s
  ·exact⟨x,by simp[qX,he],by omega,by omega⟩
  ·have hq:oF q s=true:=by
    simp only[oF,List.any_cons,Bool.or_eq_true,decide_eq_true_eq]at hs
    rcases hs with h|h
    ·exact absurd (h1.1.trans h.symm) he
    ·simpa[oF] using h
   obtain⟨v,q1,q2⟩:=sQ r q s h2 hq
   exact⟨v,by simpa[qX,he] using q1,q2⟩
theorem AK(ds:List Val)(vars:List Str)(h:eqL d6 ds vars=true):∀(ts:List aZ)(n:Int),(ts.all fun x=>oF vars x.v.bs)=true->(kR ds n ts).2=0
 |[],n,_=>rfl
 |c::r,n,ht=>by
  simp only[List.all_cons,Bool.and_eq_true]at ht
  obtain⟨v,q1,q2,q3⟩:=sQ ds vars c.v.bs h ht.1
  have b1:decide (v.n < -1000000000)=false:=by simp;omega
  have b2:decide (1000000000<v.n)=false:=by simp;omega
  simp only[kR,q1,b1,b2,Bool.or_false,Bool.false_eq_true,if_false]
  exact AK ds vars h r _ ht.2
theorem IL{ds:List Val}{vars:List Str}(h:eqL d6 ds vars=true){ls:List Lin}(ho:dS ls vars=true):∀l∈ls,(bZ ds l).2=0:=by
 intro l hl
 simp only[dS,List.all_eq_true,Bool.and_eq_true]at ho
 obtain⟨h1,h2⟩:=ho l hl
 simp only[bZ,h1,if_true]
 exact AK ds vars h _ _ (by rw[List.all_eq_true];exact h2)
def C3(n:Int)(L:List Int):Int:=L.foldl (fun n a=>C4 a n) n
def oY(n:Int)(L:List Int):Int:=L.foldl (fun n a=>wr .i64 (n*a)) n
def jK(n a:Int):Int:=if 1099511627776<wr .i64 (n*a) then 1099511627776 else wr .i64 (n*a)
theorem JA{a n:Int}(h:0<=a):C4 a n=jK n a:=by
 have:¬a<0:=by omega
 simp only[C4,jK,this,if_false]
theorem AZ:∀(L:List Int)(n:Int),(∀a∈L,0<=a)->C3 n L=L.foldl jK n
 |[],n,_=>rfl
 |a::r,n,h=>by
  simp only[C3,List.foldl_cons]
  rw[JA (h a (by simp))]
  exact AZ r _ (fun x hx=>h x (List.mem_cons_of_mem _ hx))
theorem HA{n a:Int}(h0:0<=n)(h1:n<=1099511627776)(h2:0<=a)(h3:a<=4096):0<=n*a/\n*a<=4503599627370496:=by
 refine⟨Int.mul_nonneg h0 h2,?_⟩
 exact Int.le_trans (Int.mul_le_mul h1 h3 h2 (by omega)) (by decide)
theorem tL:∀L:List Int,oY 0 L=0
 |[]=>rfl
 |a::r=>by
  simp only[oY,List.foldl_cons,Int.zero_mul]
  exact tL r
theorem w8:∀L:List Int,L.foldl jK 0=0
 |[]=>rfl
 |a::r=>by
  simp only[List.foldl_cons,jK,Int.zero_mul]
  exact w8 r
theorem qK:∀(L:List Int)(n m:Int),(0:Int)∈L->oY m L=0/\L.foldl jK n=0
 |[],n,m,h=>by simp at h
 |a::r,n,m,h=>by
  by_cases ha:a=0
  ·subst ha
   simp only[oY,List.foldl_cons,jK,Int.mul_zero]
   exact⟨tL r,w8 r⟩
  ·have:(0:Int)∈r:=by
    rcases List.mem_cons.1 h with h|h
    ·exact absurd h.symm ha
    ·exact h
   simp only[oY,List.foldl_cons]
   exact qK r _ _ this
theorem yA:∀(L:List Int)(n:Int),0<=n->n<=1099511627776->(∀a∈L,1<=a/\a<=4096)->n<=L.foldl jK n/\L.foldl jK n<=1099511627776
 |[],n,_,h,_=>⟨Int.le_refl _,h⟩
 |a::r,n,h0,h1,h=>by
  obtain⟨a1,a2⟩:=h a (by simp)
  obtain⟨m1,m2⟩:=HA h0 h1 (by omega:0<=a) a2
  have hm:n<=n*a:=by
   have:=Int.mul_le_mul_of_nonneg_left a1 h0
   omega
  have hw:wr .i64 (n*a)=n*a:=aX (by omega) (by omega)
  simp only[List.foldl_cons]
  have hc:n<=jK n a/\jK n a<=1099511627776/\0<=jK n a:=by
   simp only[jK,hw]
   split<;>omega
  obtain⟨q1,q2⟩:=yA r (jK n a) hc.2.2 hc.2.1 (fun x hx=>h x (List.mem_cons_of_mem _ hx))
  exact⟨by omega,q2⟩
theorem DT:∀(L:List Int)(n:Int),0<=n->n<=1099511627776->(∀a∈L,1<=a/\a<=4096)->L.foldl jK n<=4096->oY n L=L.foldl jK n
 |[],n,_,_,_,_=>rfl
 |a::r,n,h0,h1,h,hle=>by
  obtain⟨a1,a2⟩:=h a (by simp)
  obtain⟨m1,m2⟩:=HA h0 h1 (by omega:0<=a) a2
  have hw:wr .i64 (n*a)=n*a:=aX (by omega) (by omega)
  have hr:∀x∈r,1<=x/\x<=4096:=fun x hx=>h x (List.mem_cons_of_mem _ hx)
  simp only[oY,List.foldl_cons]at hle ⊢
  by_cases hb:1099511627776<n*a
  ·have:jK n a=1099511627776:=by simp only[jK,hw,hb,if_true]
   rw[this]at hle
   have:=(yA r 1099511627776 (by decide) (Int.le_refl _) hr).1
   omega
  ·have hm:jK n a=n*a:=by simp only[jK,hw,hb,if_false]
   rw[hm]at hle ⊢
   rw[hw]
   exact DT r (n*a) m1 (by omega) hr hle
theorem GU{L:List Int}(h:∀a∈L,0<=a/\a<=4096)(hle:L.foldl jK 1<=4096):oY 1 L=L.foldl jK 1:=by
 by_cases h0:(0:Int)∈L
 ·obtain⟨a,b⟩:=qK L 1 1 h0
  rw[a,b]
 ·refine DT L 1 (by decide) (by decide) (fun a ha=>?_) hle
  have:=h a ha
  have:a≠0:=fun e=>h0 (e ▸ ha)
  omega
def sM(ds:List Val)(l:Lin):Bool:=decide ((bZ ds l).2=0)&&(decide (0<=(bZ ds l).1)&&decide ((bZ ds l).1<=4096))
def yI(ds:List Val)(t:Typ):List Int:=t.shape.dims.es.map fun l=>(bZ ds l).1
def AO(ds:List Val)(t:Typ):Bool:=t.shape.dims.es.all (sM ds)&&decide ((yI ds t).foldl jK 1<=4096)
theorem tE(ds:List Val):∀(ls:List Lin)(n:Int)(b:Bool),lZ ds n b ls=(C3 n (ls.map fun l=>(bZ ds l).1),b&&ls.all fun l=>decide (0<=(bZ ds l).1)&&decide ((bZ ds l).1<=4096))
 |[],n,b=>by simp[lZ,C3]
 |l::r,n,b=>by
  simp only[lZ,tE ds r,C3,List.map_cons,List.foldl_cons,List.all_cons,Bool.and_assoc]
theorem GF{ds:List Val}{vars:List Str}(h:eqL d6 ds vars=true){t:Typ}(ho:dS t.shape.dims.es vars=true) :
  AO ds t=(eQ ds t).2/\((eQ ds t).2=true->oY 1 (yI ds t)=eD ds t/\0<=eD ds t/\eD ds t<=4096):=by
 have hev:=IL h ho
 have h1:t.shape.dims.es.all (sM ds)=t.shape.dims.es.all fun l=>decide (0<=(bZ ds l).1)&&decide ((bZ ds l).1<=4096):=by
  rw[Bool.eq_iff_iff,List.all_eq_true,List.all_eq_true]
  constructor
  ·intro g l hl
   have:=g l hl
   simp only[sM,Bool.and_eq_true]at this ⊢
   exact this.2
  ·intro g l hl
   have:=g l hl
   simp only[sM,hev l hl,decide_true,Bool.true_and]
   exact this
 have h2:(eQ ds t).2=(t.shape.dims.es.all (fun l=>decide (0<=(bZ ds l).1)&&decide ((bZ ds l).1<=4096))&&decide (C3 1 (yI ds t)<=4096)):=by
  simp only[eQ,tE,Bool.true_and];rfl
 have h3:eD ds t=C3 1 (yI ds t):=by simp only[eD,eQ,tE];rfl
 rw[AO,h1,h2]
 cases ha:t.shape.dims.es.all (fun l=>decide (0<=(bZ ds l).1)&&decide ((bZ ds l).1<=4096))
 ·exact⟨rfl,fun h=>by simp at h⟩
 ·have hin:∀a∈yI ds t,0<=a/\a<=4096:=by
   intro a hm
   simp only[yI,List.mem_map]at hm
   obtain⟨l,hl,rfl⟩:=hm
   rw[List.all_eq_true]at ha
   have:=ha l hl
   simp only[Bool.and_eq_true,decide_eq_true_eq]at this
   exact this
  have hcm:=AZ (yI ds t) 1 (fun a ha=>(hin a ha).1)
  rw[hcm]at h3 ⊢
  refine⟨rfl,fun hle=>?_⟩
  simp only[Bool.true_and,decide_eq_true_eq]at hle
  refine⟨by rw[h3];exact GU hin hle,?_,by rw[h3];exact hle⟩
  rw[h3]
  by_cases h0:(0:Int)∈yI ds t
  ·rw[(qK _ 1 1 h0).2];decide
  ·have:=(yA (yI ds t) 1 (by decide) (by decide) (fun a ha=>by
    have:=hin a ha
    have:a≠0:=fun e=>h0 (e ▸ ha)
    omega)).1
   omega
theorem FC{k:aA}(ok:lN k):dS k.wher.es k.vars.es=true/\∀t∈k.values.es,dS t.shape.dims.es k.vars.es=true:=by
 have hso:=ok.out
 simp only[bO,Bool.and_eq_true,decide_eq_true_eq]at hso
 obtain⟨_,⟨⟨⟨⟨⟨⟨_,hw⟩,_⟩,_⟩,_⟩,_⟩,_⟩,hty⟩:=hso
 refine⟨hw,fun t ht=>?_⟩
 rw[List.all_eq_true]at hty
 have:=hty t ht
 simp only[fD,Bool.and_eq_true]at this
 exact this.2
end Go.Tev
end
section
namespace Go.Tev
theorem zF{k:aA}{ds:List Val}(h:¬(cH k).2=0):eP k ds = .tup [.sl true [] true,.int .i64 22]:=by
 have:eA k ds=22:=by rw[eA,if_neg h]
 rw[eP,this];rfl
theorem j0{k:aA}{ds:List Val}(h:(cH k).2=0)(h1:eqL d6 ds k.vars.es=false):eP k ds = .tup [.sl true [] true,.int .i64 1]:=by
 have:eA k ds=1:=by rw[eA,if_pos h,h1];rfl
 rw[eP,this];rfl
theorem zE{k:aA}{ds:List Val}(h:(cH k).2=0)(h1:eqL d6 ds k.vars.es=true)(h2:k.wher.es.all (fun l=>decide (0<=(bZ ds l).1))=false):eP k ds = .tup [.sl true [] true,.int .i64 2]:=by
 have:eA k ds=2:=by rw[eA,if_pos h,h1,h2];rfl
 rw[eP,this];rfl
theorem u7{k:aA}{ds:List Val}(h:(cH k).2=0)(h1:eqL d6 ds k.vars.es=true)(h2:k.wher.es.all (fun l=>decide (0<=(bZ ds l).1))=true)(h3:eO (fun t=>(eQ ds t).2) (aF k) k.values.es=false):eP k ds = .tup [.sl true [] true,.int .i64 3]:=by
 have:eA k ds=3:=by rw[eA,if_pos h,h1,h2,h3];rfl
 rw[eP,this];rfl
theorem I2{k:aA}{ds:List Val}(h:(cH k).2=0)(h1:eqL d6 ds k.vars.es=true)(h2:k.wher.es.all (fun l=>decide (0<=(bZ ds l).1))=true)(h3:eO (fun t=>(eQ ds t).2) (aF k) k.values.es=true):eA k ds=0:=by
 rw[eA,if_pos h,h1,h2,h3];rfl
theorem BJ{k:aA}{ds:List Val}(h:(cH k).2=0)(h1:eqL d6 ds k.vars.es=true)(h2:k.wher.es.all (fun l=>decide (0<=(bZ ds l).1))=true)(h3:eO (fun t=>(eQ ds t).2) (aF k) k.values.es=true) :
  eP k ds = .tup [.sl false ((dZ (eD ds) (aF k) k.values.es).map aH) true,.int .i64 0]:=by
 rw[eP,if_pos (I2 h h1 h2 h3)]
section
variable{pg:Pg}
theorem ZC(hf:pg.fs 16=some cf16)(k:aA)(h9:bR pg 9 [k.av] (gF k))(nl cl:Bool)(ds:List Val)(hb:ds.length<=big)
  (h32:∀l:Lin,Ret pg 32 [l.av,.sl nl (ds.map Val.av) cl] (.tup [.int .i64 (bZ ds l).1,.int .i64 (bZ ds l).2])) (h33:∀t:Typ,Ret pg 33 [t.av,.sl nl (ds.map Val.av) cl] (.tup [.int .i64 (eD ds t),.bool (eQ ds t).2])) :
  Ret pg 16 [k.av,.sl nl (ds.map Val.av) cl] (eP k ds):=by
 obtain⟨r9,hr9,hs9⟩:=h9
 refine Ret.ofX hf ?_
 unfold cf16
 simp only[aA.av,aA.cells,go_sem,seval]
 rcases nA (k:=k) with hc|hc
 ·have ok:=eN hc
  have hso:=ok.out
  simp only[bO,Bool.and_eq_true,decide_eq_true_eq]at hso
  obtain⟨_,⟨⟨⟨⟨⟨⟨_,_⟩,hi0⟩,_⟩,hiV⟩,_⟩,_⟩,_⟩:=hso
  have hsl:=kX (k:=k) (by omega)
  have hVb:=k.values.ok
  have htr:treeL ((aF k).map bV)=true:=aU (f:=bV) (fun s=>by simp[bV,go_sem]) _
  rw[gF,if_pos hc]at hs9
  subst hs9
  refine aB hr9 (by simp only[aA.av,aA.cells,go_sem,seval]) (by first|rfl|(simp[AV.tree,htr])) ?_
  simp only[go_sem,seval]
  cases hl:decide ((ds.length:Int)=k.vars.es.length)
  case false=>
   simp only[hl,go_sem,seval]
   rw[j0 hc (N5 hl)]
  case true=>
   have hlv:ds.length=k.vars.es.length:=by
    have:=of_decide_eq_true hl
    omega
   simp only[hl,go_sem,seval]
   refine bI ds (fun d r env hp=>env=cf16E0 (.sl nl (ds.map Val.av) cl) (.pt 1 0 0) (.sl false ((aF k).map bV) false) (.sl nl (ds.map Val.av) cl) (.int .i64 ds.length) (.int .i64 d.length) /\
    hp.get 1=some (0,.blk k.cells 6 true true false)/\eqL d6 ds k.vars.es=eqL d6 r (k.vars.es.drop d.length)) ?_ ?_ ?_
   ·refine⟨rfl,?_,rfl⟩
    simp only[go_sem,seval]
    rfl
   ·rintro env hp ⟨rfl,g1,hD⟩
    have hD':eqL d6 ds k.vars.es=true:=by rw[hD,E3 hlv]
    have g1':=g1
    simp only[aA.cells,Sl.av]at g1
    simp only[cf16L0,cf16E0,g1,go_sem,seval]
    refine bI k.wher.es (fun d r env hp=>env=cf16E1 (.sl nl (ds.map Val.av) cl) (.pt 1 0 0) (.sl false ((aF k).map bV) false) (.sl k.wher.nl (k.wher.es.map Lin.av) k.wher.cl) (.int .i64 k.wher.es.length) (.int .i64 d.length) /\
     hp.get 1=some (0,.blk k.cells 6 true true false)/\k.wher.es.all (fun l=>decide (0<=(bZ ds l).1))=r.all (fun l=>decide (0<=(bZ ds l).1))) ?_ ?_ ?_
    ·exact⟨rfl,g1',rfl⟩
    ·clear g1 g1' hp
     rintro env hp ⟨rfl,g1,hW⟩
     have hW':k.wher.es.all (fun l=>decide (0<=(bZ ds l).1))=true:=by rw[hW];rfl
     have g1':=g1
     simp only[aA.cells,Sl.av]at g1
     simp only[cf16L1,cf16E1,g1,go_sem,seval]
     have hV30:((k.values.es.length:Int)<=1073741824)=True:=eq_true (by simp only[big]at hVb;omega)
     generalize hE:hp.next 21=E
     simp only[hV30,go_sem,seval]
     refine bI (aF k) (fun d r env hp=>env=cf16E2 (.sl nl (ds.map Val.av) cl) (.pt 1 0 0) (.rf 21 E 0 k.values.es.length k.values.es.length) (.sl false ((aF k).map bV) false) (.int .i64 (aF k).length) (.int .i64 d.length) /\
      hp.get 1=some (0,.blk k.cells 6 true true false)/\hp.get 21=some (E,.blk ((mA (eD ds) d k.values.es).map aH) 1 false true false)/\eO (fun t=>(eQ ds t).2) (aF k) k.values.es=eO (fun t=>(eQ ds t).2) r (k.values.es.drop d.length)) ?_ ?_ ?_
     ·refine⟨rfl,?_,?_,rfl⟩
      ·simp only[go_sem,seval]
       exact g1'
      ·simp only[go_sem,seval]
       simp[mA,dZ,aH,hE]
     ·clear g1 g1' hE hp
      rintro env hp ⟨rfl,g1,g2,hS⟩
      have hS':eO (fun t=>(eQ ds t).2) (aF k) k.values.es=true:=by rw[hS];rfl
      have hpl:mA (eD ds) (aF k) k.values.es=dZ (eD ds) (aF k) k.values.es:=by simp[mA,hsl]
      rw[hpl]at g2
      have hsn:=GE g2 61
      rw[jE (eD ds) _ _ (by omega),hsl]at hsn
      simp only[cf16L2,cf16E2,go_sem,seval]
      simp only[Tev.conv,depth,dA,bS,aV,↓hsn,go_sem]
      rw[BJ hc hD' hW' hS']
     ·clear g1 g1' hE hp
      rintro d x r env hp hes ⟨rfl,g1,g2,hS⟩
      have hlt:d.length<k.values.es.length:=by rw[<-hsl,hes];simp
      obtain⟨t,ht⟩:∃t,k.values.es[d.length]?=some t:=⟨_,List.getElem?_eq_getElem hlt⟩
      have hget:(aF k)[d.length]?=some x:=by rw[hes];simp
      have hSx:eO (fun t=>(eQ ds t).2) (aF k) k.values.es=((decide (x.1 = -2)||(eQ ds t).2)&&eO (fun t=>(eQ ds t).2) r (k.values.es.drop (d++[x]).length)):=by
       rw[hS,List.drop_eq_getElem_cons hlt,eO]
       rw[List.getElem?_eq_getElem hlt]at ht
       cases ht
       simp
      have hvl:((d.length:Int)<(k.values.es.length:Int))=True:=eq_true (by omega)
      have hsl2:((d.length:Int)<((aF k).length:Int))=True:=eq_true (by omega)
      have hsl3:decide ((d.length:Int)<((aF k).length:Int))=true:=by simp;omega
      have g1':=g1
      simp only[aA.cells,Sl.av]at g1
      have hsb:(d++x::r).length<=big:=by rw[<-hes,hsl];exact hVb
      simp only[cf16L2,cf16E2,g1,hget,hsl2,hsl3,bV,go_sem,seval]
      cases b1:decide (x.1 = -2)
      case true=>
       simp only[b1,aQ hsb,go_sem,seval]
       refine⟨rfl,g1',?_,by rw[hSx,b1];rfl⟩
       rw[EW (eD ds) x d k.values.es t ht (of_decide_eq_true b1)]
       exact g2
      simp only[b1,ht,hvl,g1,go_sem,seval]
      refine aB (h33 t) (by simp only[go_sem,seval]) rfl ?_
      simp only[go_sem,seval]
      cases b2:(eQ ds t).2
      case false=>
       simp only[go_sem,seval]
       rw[u7 hc hD' hW' (by rw[hSx,b1,b2];rfl)]
      have b1':¬x.1 = -2:=of_decide_eq_false b1
      have hpl:=GY (eD ds) d k.values.es (by omega)
      have hle:(0+d.length*1+1<=(mA (eD ds) d k.values.es).length)=True:=eq_true (by rw[hpl];omega)
      have hst:List.take (0+d.length*1) ((mA (eD ds) d k.values.es).map aH)++[.int .i64 (eD ds t)]++List.drop (0+d.length*1+1) ((mA (eD ds) d k.values.es).map aH)=(mA (eD ds) (d++[x]) k.values.es).map aH:=by
       rw[GX (eD ds) x d k.values.es t ht b1',Nat.zero_add,Nat.mul_one]
      simp only[b2,aQ hsb,g2,hvl,hle,hst,go_sem,seval]
      exact⟨rfl,g1',by rw[hSx,b1,b2];rfl⟩
    ·clear g1 g1' hp
     rintro d x r env hp hes ⟨rfl,g1,hW⟩
     have hwb:=k.wher.ok
     obtain⟨hget,x1,x2,xw⟩:=mF hes hwb
     have hr32:=h32 x
     simp only[cf16L1,cf16E1,hget,x1,x2,go_sem,seval]
     refine aB hr32 (by simp only[go_sem,seval]) rfl ?_
     simp only[go_sem,seval]
     cases b1:decide ((bZ ds x).1<0)
     case true=>
      have b1':decide (0<=(bZ ds x).1)=false:=by simp at b1 ⊢;omega
      simp only[b1,go_sem,seval]
      rw[zE hc hD' (by rw[hW,List.all_cons,b1'];rfl)]
     have b1':decide (0<=(bZ ds x).1)=true:=by simp at b1 ⊢;omega
     simp only[b1,xw,go_sem,seval]
     exact⟨rfl,g1,by rw[hW,List.all_cons,b1'];rfl⟩
   ·rintro d x r env hp hes ⟨rfl,g1,hD⟩
    obtain⟨hget,x1,x2,xw⟩:=mF hes hb
    obtain⟨y,hy,_,hvl,hq⟩:=Q6 (q:=d6) hes hlv
    rw[hq]at hD
    have g1':=g1
    simp only[aA.cells,Sl.av]at g1
    simp only[cf16L0,cf16E0,g1,hy,hvl,hget,x1,x2,go_sem,seval]
    cases b1:decide (x.v.bs=y.bs)
    case false=>
     simp only[b1,go_sem,seval]
     exact⟨by kernel_rfl,by rw[j0 hc (by rw[hD,d6,b1];rfl)]⟩
    cases b2:decide (x.n<0)
    case true=>
     simp only[b1,b2,go_sem,seval]
     exact⟨by kernel_rfl,by rw[j0 hc (by rw[hD,d6,b1,b2];rfl)]⟩
    cases b3:decide (4096<x.n)
    case true=>
     simp only[b1,b2,b3,go_sem,seval]
     exact⟨by kernel_rfl,by rw[j0 hc (by rw[hD,d6,b1,b2,b3];rfl)]⟩
    simp only[b1,b2,b3,xw,go_sem,seval]
    exact⟨by kernel_rfl,rfl,g1',by rw[hD,d6,b1,b2,b3];rfl⟩
 ·rw[gF,if_neg (by omega)]at hs9
  subst hs9
  refine aB hr9 (by simp only[aA.av,aA.cells,go_sem,seval]) rfl ?_
  simp only[go_sem,seval]
  rw[zF (by omega)]
end
end Go.Tev
end
section
namespace Go.Tev
section
variable{pg:Pg}
end
end Go.Tev
end
section
namespace Go.Tev
section
variable{pg:Pg}
end
end Go.Tev
end
section
namespace Go.Tev
section
variable{pg:Pg}
end
end Go.Tev
end
section
namespace Go.Tev
theorem vP{ds:List Val}{vars:List Str}(hD:eqL d6 ds vars=true):∀(sp:List Sp)(vs:List Typ),(∀t∈vs,dS t.shape.dims.es vars=true)->eO (fun t=>(eQ ds t).2) sp vs=true->∀z∈dZ (eD ds) sp vs,0<=z/\z<=4096
 |[],_,_,_,z,hz=>by simp[dZ]at hz
 |_::_,[],_,_,z,hz=>by simp[dZ]at hz
 |s::r,t::q,ht,hS,z,hz=>by
  simp only[eO,Bool.and_eq_true,Bool.or_eq_true,decide_eq_true_eq]at hS
  simp only[dZ,List.mem_cons]at hz
  rcases hz with rfl|hz
  ·by_cases h:s.1 = -2
   ·rw[if_pos h];decide
   ·rw[if_neg h]
    rcases hS.1 with h2|h2
    ·exact absurd h2 h
    ·exact((GF hD (ht t (by simp))).2 h2).2
  ·exact vP hD r q (fun u hu=>ht u (List.mem_cons_of_mem _ hu)) hS.2 z hz
def PY(k:aA)(ds:List Val):List (Sp×Int):=(aF k).zip (dZ (eD ds) (aF k) k.values.es)
theorem iO{k:aA}{ds:List Val}(h:eA k ds=0):(cH k).2=0/\eqL d6 ds k.vars.es=true/\eO (fun t=>(eQ ds t).2) (aF k) k.values.es=true:=by
 simp only[eA]at h
 split at h
 ·rename_i h1
  split at h
  ·rename_i h2
   split at h
   ·split at h
    ·rename_i h4
     exact⟨h1,h2,h4⟩
    ·simp at h
   ·simp at h
  ·simp at h
 ·simp at h
theorem sP{k:aA}{ds:List Val}(ok:lN k):(PY k ds).length=k.values.es.length/\(aF k).length=k.values.es.length/\(dZ (eD ds) (aF k) k.values.es).length=k.values.es.length:=by
 have hso:=ok.out
 simp only[bO,Bool.and_eq_true,decide_eq_true_eq]at hso
 obtain⟨_,⟨⟨⟨⟨⟨⟨_,_⟩,hi0⟩,_⟩,hiV⟩,_⟩,_⟩,_⟩:=hso
 have hsl:=kX (k:=k) (by omega)
 have hzl:=jE (eD ds) (aF k) k.values.es (by omega)
 exact⟨by simp[PY,List.length_zip,hsl,hzl],hsl,by omega⟩
section
variable{pg:Pg}
end
end Go.Tev
end
section
namespace Go.Tev
def frm(sp:List Sp)(n:Nat):Option Int:=sp[n]?.map (·.1)
theorem wP(sp:List Sp)(v x:Int)(n:Nat):frm (gQ sp v x) n=frm sp n:=by
 simp only[frm,gQ,List.getElem?_modify]
 cases sp[n]? with
 |none=>rfl
 |some s=>by_cases h:v.toNat=n<;>simp[h]
theorem qJ(i:Nat):∀(l:List Int)(sp:List Sp)(n:Nat),frm (cU sp i l) n=frm sp n
 |[],_,_=>rfl
 |v::r,sp,n=>by
  have:=qJ i r (gQ sp v i) n
  rw[wP]at this
  exact this
theorem HV(sp:List Sp)(i:Nat)(q:aE)(n:Nat)(f:Int)(h:frm (kD sp i q) n=some f):frm sp n=some f\/(q.value.toNat=n/\f=i):=by
 rw[kD,qJ,wP]at h
 split at h
 ·simp only[frm,gC,List.getElem?_modify]at h
  by_cases hv:q.value.toNat=n
  ·right
   refine⟨hv,?_⟩
   cases hs:sp[n]? with
   |none=>rw[hs]at h;simp at h
   |some s=>rw[hs]at h;simp[hv]at h;omega
  ·left
   cases hs:sp[n]? with
   |none=>rw[hs]at h;simp at h
   |some s=>rw[hs]at h;simp[hv]at h;simp[frm,hs,h]
 ·exact .inl h
theorem DS:∀(L:List aE)(sp:List Sp)(i n:Nat)(f:Int),frm (eU sp i L) n=some f->frm sp n=some f\/∃(j:Nat)(q:aE),L[j]?=some q/\q.value.toNat=n/\f=((i+j:Nat):Int)
 |[],_,_,_,_,h => .inl h
 |q::r,sp,i,n,f,h=>by
  rcases DS r (kD sp i q) (i+1) n f h with h|⟨j,q',h1,h2,h3⟩
  ·rcases HV sp i q n f h with h|⟨h1,h2⟩
   ·exact .inl h
   ·exact .inr ⟨0,q,rfl,h1,by simpa using h2⟩
  ·exact .inr ⟨j+1,q',h1,h2,by rw[h3];omega⟩
theorem FD{k:aA}{n:Nat}{f:Int}(h:frm (aF k) n=some f):f = -2\/(f = -1/\n<k.inputs.toNat)\/∃(j:Nat)(q:aE),k.list.es[j]?=some q/\q.value.toNat=n/\f=(j:Int):=by
 rw[aF,show kK=fun sp n l=>cU sp n l from rfl]at h
 simp only at h
 rw[qJ]at h
 rcases DS _ _ _ _ _ h with h|⟨j,q,h1,h2,h3⟩
 ·simp only[frm,bU,List.getElem?_append,List.length_replicate]at h
  split at h
  ·rename_i hn
   rw[List.getElem?_replicate,if_pos hn]at h
   simp at h
   exact .inr (.inl ⟨h.symm,hn⟩)
  ·rw[List.getElem?_replicate]at h
   split at h
   ·simp at h;exact .inl h.symm
   ·simp at h
 ·exact .inr (.inr ⟨j,q,h1,h2,by simpa using h3⟩)
end Go.Tev
end
section
namespace Go.Tev
end Go.Tev
end
