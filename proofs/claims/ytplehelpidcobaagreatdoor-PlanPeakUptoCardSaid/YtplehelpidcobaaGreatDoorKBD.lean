import Derived.Test.YtplehelpidcobaaGreatDoorKBC
import Derived.Test.YtplehelpidcobaaGreatDoorKBB
import Derived.Test.YtplehelpidcobaaGreatDoorKAX
set_option linter.all false
section
namespace Go.Tev
def cX (x:Val) (y:Str):Bool:=decide (x.v.bs=y.bs)&&(!decide (x.n < 0) && !decide (4096 < x.n))
def eE (g:Typ->Bool):List Sp->List Typ->Bool
 | s :: r,t :: q=>(decide (s.1 = -2)||g t)&&eE g r q
 | _,_=>true
def dS (k:aA) (ds:List Val):Int:=
 if (cR k).2=0 then
  (if eqL cX ds k.vars.es then
   (if k.wher.es.all (fun l=>decide (0<=(bJ ds l).1)) then
    (if eE (fun t=>(eT ds t).2) (aF k) k.values.es then 0 else 3)
   else 2)
  else 1)
 else 22
def dH (ds:List Val) (t:Typ):Int:=(eT ds t).1
def hQ (k:aA) (ds:List Val):AV:=
 if dS k ds=0 then .tup [.sl false ((cP (dH ds) (aF k) k.values.es).map aH) true,.int .i64 0] else .tup [.sl true [] true,.int .i64 (dS k ds)]
theorem xH:∀ (ds:List Val) (vars:List Str) (s:List UInt8),eqL cX ds vars=true->jM vars s=true->∃ v,mC ds s=some v/\0<=v.n/\v.n<=4096
 | [],[],s,_,h=>by simp [jM] at h
 | [],_ :: _,s,h,_=>by simp [eqL] at h
 | _ :: _,[],s,h,_=>by simp [eqL] at h
 | x :: r,y :: q,s,h,hs=>by
  simp only [eqL,Bool.and_eq_true] at h
  obtain ⟨h1,h2⟩:=h
  simp only [cX,Bool.and_eq_true,decide_eq_true_eq,Bool.not_eq_true',decide_eq_false_iff_not] at h1
  by_cases he:x.v.bs=s
  ·exact ⟨x,by simp [mC,he],by omega,by omega⟩
  ·have hq:jM q s=true:=by
    simp only [jM,List.any_cons,Bool.or_eq_true,decide_eq_true_eq] at hs
    rcases hs with h | h
    ·exact absurd (h1.1.trans h.symm) he
    ·simpa [jM] using h
   obtain ⟨v,q1,q2⟩:=xH r q s h2 hq
   exact ⟨v,by simpa [mC,he] using q1,q2⟩
theorem FE (ds:List Val) (vars:List Str) (h:eqL cX ds vars=true):∀ (ts:List bO) (n:Int),(ts.all fun x=>jM vars x.v.bs)=true->(jW ds n ts).2=0
 | [],n,_=>rfl
 | c :: r,n,ht=>by
  simp only [List.all_cons,Bool.and_eq_true] at ht
  obtain ⟨v,q1,q2,q3⟩:=xH ds vars c.v.bs h ht.1
  have b1:decide (v.n < -1000000000)=false:=by simp;omega
  have b2:decide (1000000000 < v.n)=false:=by simp;omega
  simp only [jW,q1,b1,b2,Bool.or_false,Bool.false_eq_true,if_false]
  exact FE ds vars h r _ ht.2
theorem FF {ds:List Val} {vars:List Str} (h:eqL cX ds vars=true) {ls:List Lin} (ho:bU ls vars=true):∀ l∈ls,(bJ ds l).2=0:=by
 intro l hl
 simp only [bU,List.all_eq_true,Bool.and_eq_true] at ho
 obtain ⟨h1,h2⟩:=ho l hl
 simp only [bJ,h1,if_true]
 exact FE ds vars h _ _ (by rw [List.all_eq_true];exact h2)
def HY (n:Int) (L:List Int):Int:=L.foldl (fun n a=>HZ a n) n
def tF (n:Int) (L:List Int):Int:=L.foldl (fun n a=>wr .i64 (n*a)) n
def lH (n a:Int):Int:=if 1099511627776 < wr .i64 (n*a) then 1099511627776 else wr .i64 (n*a)
theorem OK {a n:Int} (h:0<=a):HZ a n=lH n a:=by
 have:¬ a < 0:=by omega
 simp only [HZ,lH,this,if_false]
theorem FS:∀ (L:List Int) (n:Int),(∀ a∈L,0<=a)->HY n L=L.foldl lH n
 | [],n,_=>rfl
 | a :: r,n,h=>by
  simp only [HY,List.foldl_cons]
  rw [OK (h a (by simp))]
  exact FS r _ (fun x hx=>h x (List.mem_cons_of_mem _ hx))
theorem MS {n a:Int} (h0:0<=n) (h1:n<=1099511627776) (h2:0<=a) (h3:a<=4096):0<=n*a/\n*a<=4503599627370496:=by
 refine ⟨Int.mul_nonneg h0 h2,?_⟩
 exact Int.le_trans (Int.mul_le_mul h1 h3 h2 (by omega)) (by decide)
theorem yM:∀ L:List Int,tF 0 L=0
 | []=>rfl
 | a :: r=>by
  simp only [tF,List.foldl_cons,Int.zero_mul]
  exact yM r
theorem B3:∀ L:List Int,L.foldl lH 0=0
 | []=>rfl
 | a :: r=>by
  simp only [List.foldl_cons,lH,Int.zero_mul]
  exact B3 r
theorem vC:∀ (L:List Int) (n m:Int),(0:Int)∈L->tF m L=0/\L.foldl lH n=0
 | [],n,m,h=>by simp at h
 | a :: r,n,m,h=>by
  by_cases ha:a=0
  ·subst ha
   simp only [tF,List.foldl_cons,lH,Int.mul_zero]
   exact ⟨yM r,B3 r⟩
  ·have:(0:Int)∈r:=by
    rcases List.mem_cons.1 h with h | h
    ·exact absurd h.symm ha
    ·exact h
   simp only [tF,List.foldl_cons]
   exact vC r _ _ this
theorem C0:∀ (L:List Int) (n:Int),0<=n->n<=1099511627776->(∀ a∈L,1<=a/\a<=4096)->n<=L.foldl lH n/\L.foldl lH n<=1099511627776
 | [],n,_,h,_=>⟨Int.le_refl _,h⟩
 | a :: r,n,h0,h1,h=>by
  obtain ⟨a1,a2⟩:=h a (by simp)
  obtain ⟨m1,m2⟩:=MS h0 h1 (by omega:0<=a) a2
  have hm:n<=n*a:=by
   have:=Int.mul_le_mul_of_nonneg_left a1 h0
   omega
  have hw:wr .i64 (n*a)=n*a:=aV (by omega) (by omega)
  simp only [List.foldl_cons]
  have hc:n<=lH n a/\lH n a<=1099511627776/\0<=lH n a:=by
   simp only [lH,hw]
   split<;>omega
  obtain ⟨q1,q2⟩:=C0 r (lH n a) hc.2.2 hc.2.1 (fun x hx=>h x (List.mem_cons_of_mem _ hx))
  exact ⟨by omega,q2⟩
theorem I2:∀ (L:List Int) (n:Int),0<=n->n<=1099511627776->(∀ a∈L,1<=a/\a<=4096)->L.foldl lH n<=4096->tF n L=L.foldl lH n
 | [],n,_,_,_,_=>rfl
 | a :: r,n,h0,h1,h,hle=>by
  obtain ⟨a1,a2⟩:=h a (by simp)
  obtain ⟨m1,m2⟩:=MS h0 h1 (by omega:0<=a) a2
  have hw:wr .i64 (n*a)=n*a:=aV (by omega) (by omega)
  have hr:∀ x∈r,1<=x/\x<=4096:=fun x hx=>h x (List.mem_cons_of_mem _ hx)
  simp only [tF,List.foldl_cons] at hle ⊢
  by_cases hb:1099511627776 < n*a
  ·have:lH n a=1099511627776:=by simp only [lH,hw,hb,if_true]
   rw [this] at hle
   have:=(C0 r 1099511627776 (by decide) (Int.le_refl _) hr).1
   omega
  ·have hm:lH n a=n*a:=by simp only [lH,hw,hb,if_false]
   rw [hm] at hle ⊢
   rw [hw]
   exact I2 r (n*a) m1 (by omega) hr hle
theorem L9 {L:List Int} (h:∀ a∈L,0<=a/\a<=4096) (hle:L.foldl lH 1<=4096):tF 1 L=L.foldl lH 1:=by
 by_cases h0:(0:Int)∈L
 ·obtain ⟨a,b⟩:=vC L 1 1 h0
  rw [a,b]
 ·refine I2 L 1 (by decide) (by decide) (fun a ha=>?_) hle
  have:=h a ha
  have:a ≠ 0:=fun e=>h0 (e ▸ ha)
  omega
def jG (ds:List Val) (l:Lin):Bool:=decide ((bJ ds l).2=0)&&(decide (0<=(bJ ds l).1)&&decide ((bJ ds l).1<=4096))
def oL (ds:List Val) (t:Typ):List Int:=t.shape.dims.es.map fun l=>(bJ ds l).1
def jC (ds:List Val) (t:Typ):Bool:=t.shape.dims.es.all (jG ds)&&decide ((oL ds t).foldl lH 1<=4096)
theorem yA (ds:List Val):∀ (ls:List Lin) (n:Int) (b:Bool),mF ds n b ls=(HY n (ls.map fun l=>(bJ ds l).1),b&&ls.all fun l=>decide (0<=(bJ ds l).1)&&decide ((bJ ds l).1<=4096))
 | [],n,b=>by simp [mF,HY]
 | l :: r,n,b=>by
  simp only [mF,yA ds r,HY,List.map_cons,List.foldl_cons,List.all_cons,Bool.and_assoc]
theorem D3 {ds:List Val} {vars:List Str} (h:eqL cX ds vars=true) {t:Typ} (ho:bU t.shape.dims.es vars=true) :
  jC ds t=(eT ds t).2/\((eT ds t).2=true->tF 1 (oL ds t)=dH ds t/\0<=dH ds t/\dH ds t<=4096):=by
 have hev:=FF h ho
 have h1:t.shape.dims.es.all (jG ds)=t.shape.dims.es.all fun l=>decide (0<=(bJ ds l).1)&&decide ((bJ ds l).1<=4096):=by
  rw [Bool.eq_iff_iff,List.all_eq_true,List.all_eq_true]
  constructor
  ·intro g l hl
   have:=g l hl
   simp only [jG,Bool.and_eq_true] at this ⊢
   exact this.2
  ·intro g l hl
   have:=g l hl
   simp only [jG,hev l hl,decide_true,Bool.true_and]
   exact this
 have h2:(eT ds t).2=(t.shape.dims.es.all (fun l=>decide (0<=(bJ ds l).1)&&decide ((bJ ds l).1<=4096))&&decide (HY 1 (oL ds t)<=4096)):=by
  simp only [eT,yA,Bool.true_and];rfl
 have h3:dH ds t=HY 1 (oL ds t):=by simp only [dH,eT,yA];rfl
 rw [jC,h1,h2]
 cases ha:t.shape.dims.es.all (fun l=>decide (0<=(bJ ds l).1)&&decide ((bJ ds l).1<=4096))
 ·exact ⟨rfl,fun h=>by simp at h⟩
 ·have hin:∀ a∈oL ds t,0<=a/\a<=4096:=by
   intro a hm
   simp only [oL,List.mem_map] at hm
   obtain ⟨l,hl,rfl⟩:=hm
   rw [List.all_eq_true] at ha
   have:=ha l hl
   simp only [Bool.and_eq_true,decide_eq_true_eq] at this
   exact this
  have hcm:=FS (oL ds t) 1 (fun a ha=>(hin a ha).1)
  rw [hcm] at h3 ⊢
  refine ⟨rfl,fun hle=>?_⟩
  simp only [Bool.true_and,decide_eq_true_eq] at hle
  refine ⟨by rw [h3];exact L9 hin hle,?_,by rw [h3];exact hle⟩
  rw [h3]
  by_cases h0:(0:Int)∈oL ds t
  ·rw [(vC _ 1 1 h0).2];decide
  ·have:=(C0 (oL ds t) 1 (by decide) (by decide) (fun a ha=>by
    have:=hin a ha
    have:a ≠ 0:=fun e=>h0 (e ▸ ha)
    omega)).1
   omega
theorem vA {k:aA} (ok:fP k):bU k.wher.es k.vars.es=true/\∀ t∈k.values.es,bU t.shape.dims.es k.vars.es=true:=by
 have hso:=ok.out
 simp only [aX,Bool.and_eq_true,decide_eq_true_eq] at hso
 obtain ⟨_,⟨⟨⟨⟨⟨⟨_,hw⟩,_⟩,_⟩,_⟩,_⟩,_⟩,hty⟩:=hso
 refine ⟨hw,fun t ht=>?_⟩
 rw [List.all_eq_true] at hty
 have:=hty t ht
 simp only [eW,Bool.and_eq_true] at this
 exact this.2
end Go.Tev
end
section
namespace Go.Tev
theorem D1 {k:aA} {ds:List Val} (h:¬ (cR k).2=0):hQ k ds = .tup [.sl true [] true,.int .i64 22]:=by
 have:dS k ds=22:=by rw [dS,if_neg h]
 rw [hQ,this];rfl
theorem nA {k:aA} {ds:List Val} (h:(cR k).2=0) (h1:eqL cX ds k.vars.es=false):hQ k ds = .tup [.sl true [] true,.int .i64 1]:=by
 have:dS k ds=1:=by rw [dS,if_pos h,h1];rfl
 rw [hQ,this];rfl
theorem D0 {k:aA} {ds:List Val} (h:(cR k).2=0) (h1:eqL cX ds k.vars.es=true) (h2:k.wher.es.all (fun l=>decide (0<=(bJ ds l).1))=false):hQ k ds = .tup [.sl true [] true,.int .i64 2]:=by
 have:dS k ds=2:=by rw [dS,if_pos h,h1,h2];rfl
 rw [hQ,this];rfl
theorem z7 {k:aA} {ds:List Val} (h:(cR k).2=0) (h1:eqL cX ds k.vars.es=true) (h2:k.wher.es.all (fun l=>decide (0<=(bJ ds l).1))=true) (h3:eE (fun t=>(eT ds t).2) (aF k) k.values.es=false):hQ k ds = .tup [.sl true [] true,.int .i64 3]:=by
 have:dS k ds=3:=by rw [dS,if_pos h,h1,h2,h3];rfl
 rw [hQ,this];rfl
theorem FP {k:aA} {ds:List Val} (h:(cR k).2=0) (h1:eqL cX ds k.vars.es=true) (h2:k.wher.es.all (fun l=>decide (0<=(bJ ds l).1))=true) (h3:eE (fun t=>(eT ds t).2) (aF k) k.values.es=true):dS k ds=0:=by
 rw [dS,if_pos h,h1,h2,h3];rfl
theorem GI {k:aA} {ds:List Val} (h:(cR k).2=0) (h1:eqL cX ds k.vars.es=true) (h2:k.wher.es.all (fun l=>decide (0<=(bJ ds l).1))=true) (h3:eE (fun t=>(eT ds t).2) (aF k) k.values.es=true) :
  hQ k ds = .tup [.sl false ((cP (dH ds) (aF k) k.values.es).map aH) true,.int .i64 0]:=by
 rw [hQ,if_pos (FP h h1 h2 h3)]
def nI (ds:List Val) (t:Typ) (r:AV):Prop:=if jC ds t then ∃ nl cl,r = .tup [.sl nl ((oL ds t).map aH) cl,.int .i64 0] else r = .tup [.sl true [] true,.int .i64 3]
theorem uA {ds:List Val} {t:Typ} (h:jC ds t=false):nI ds t (.tup [.sl true [] true,.int .i64 3]):=by
 rw [nI,h];rfl
theorem QL {ds:List Val} {t:Typ} {r:AV} (h:jC ds t=true) (hr:∃ nl cl,r = .tup [.sl nl ((oL ds t).map aH) cl,.int .i64 0]):nI ds t r:=by
 rw [nI,h];exact hr
section
variable {pg:Pg}
theorem aCg (hf:pg.fs 16=some cf16) (k:aA) (h9:bK pg 9 [k.av] (kM k)) (nl cl:Bool) (ds:List Val) (hb:ds.length<=big)
  (h32:∀ l:Lin,Ret pg 32 [l.av,.sl nl (ds.map Val.av) cl] (.tup [.int .i64 (bJ ds l).1,.int .i64 (bJ ds l).2])) (h33:∀ t:Typ,Ret pg 33 [t.av,.sl nl (ds.map Val.av) cl] (.tup [.int .i64 (dH ds t),.bool (eT ds t).2])) :
  Ret pg 16 [k.av,.sl nl (ds.map Val.av) cl] (hQ k ds):=by
 obtain ⟨r9,hr9,hs9⟩:=h9
 refine Ret.ofX hf ?_
 unfold cf16
 simp only [aA.av,aA.cells,go_sem,seval]
 rcases kV (k:=k) with hc | hc
 ·have ok:=dZ hc
  have hso:=ok.out
  simp only [aX,Bool.and_eq_true,decide_eq_true_eq] at hso
  obtain ⟨_,⟨⟨⟨⟨⟨⟨_,_⟩,hi0⟩,_⟩,hiV⟩,_⟩,_⟩,_⟩:=hso
  have hsl:=gP (k:=k) (by omega)
  have hVb:=k.values.ok
  have htr:treeL ((aF k).map bS)=true:=bH (f:=bS) (fun s=>by simp [bS,go_sem]) _
  rw [kM,if_pos hc] at hs9
  subst hs9
  refine aB hr9 (by simp only [aA.av,aA.cells,go_sem,seval]) (by first | rfl | (simp [AV.tree,htr])) ?_
  simp only [go_sem,seval]
  cases hl:decide ((ds.length:Int)=k.vars.es.length)
  case false=>
   simp only [hl,go_sem,seval]
   rw [nA hc (vF hl)]
  case true=>
   have hlv:ds.length=k.vars.es.length:=by
    have:=of_decide_eq_true hl
    omega
   simp only [hl,go_sem,seval]
   refine aI ds (fun d r env hp=>env=cf16E0 (.sl nl (ds.map Val.av) cl) (.pt 1 0 0) (.sl false ((aF k).map bS) false) (.sl nl (ds.map Val.av) cl) (.int .i64 ds.length) (.int .i64 d.length) /\
    hp.get 1=some (0,.blk k.cells 6 true true false)/\eqL cX ds k.vars.es=eqL cX r (k.vars.es.drop d.length)) ?_ ?_ ?_
   ·refine ⟨rfl,?_,rfl⟩
    simp only [go_sem,seval]
    rfl
   ·rintro env hp ⟨rfl,g1,hD⟩
    have hD':eqL cX ds k.vars.es=true:=by rw [hD,mA hlv]
    have g1':=g1
    simp only [aA.cells,Sl.av] at g1
    simp only [cf16L0,cf16E0,g1,go_sem,seval]
    refine aI k.wher.es (fun d r env hp=>env=cf16E1 (.sl nl (ds.map Val.av) cl) (.pt 1 0 0) (.sl false ((aF k).map bS) false) (.sl k.wher.nl (k.wher.es.map Lin.av) k.wher.cl) (.int .i64 k.wher.es.length) (.int .i64 d.length) /\
     hp.get 1=some (0,.blk k.cells 6 true true false)/\k.wher.es.all (fun l=>decide (0<=(bJ ds l).1))=r.all (fun l=>decide (0<=(bJ ds l).1))) ?_ ?_ ?_
    ·exact ⟨rfl,g1',rfl⟩
    ·clear g1 g1' hp
     rintro env hp ⟨rfl,g1,hW⟩
     have hW':k.wher.es.all (fun l=>decide (0<=(bJ ds l).1))=true:=by rw [hW];rfl
     have g1':=g1
     simp only [aA.cells,Sl.av] at g1
     simp only [cf16L1,cf16E1,g1,go_sem,seval]
     have hV30:((k.values.es.length:Int)<=1073741824)=True:=eq_true (by simp only [big] at hVb;omega)
     generalize hE:hp.next 21=E
     simp only [hV30,go_sem,seval]
     refine aI (aF k) (fun d r env hp=>env=cf16E2 (.sl nl (ds.map Val.av) cl) (.pt 1 0 0) (.rf 21 E 0 k.values.es.length k.values.es.length) (.sl false ((aF k).map bS) false) (.int .i64 (aF k).length) (.int .i64 d.length) /\
      hp.get 1=some (0,.blk k.cells 6 true true false)/\hp.get 21=some (E,.blk ((qM (dH ds) d k.values.es).map aH) 1 false true false)/\eE (fun t=>(eT ds t).2) (aF k) k.values.es=eE (fun t=>(eT ds t).2) r (k.values.es.drop d.length)) ?_ ?_ ?_
     ·refine ⟨rfl,?_,?_,rfl⟩
      ·simp only [go_sem,seval]
       exact g1'
      ·simp only [go_sem,seval]
       simp [qM,cP,aH,hE]
     ·clear g1 g1' hE hp
      rintro env hp ⟨rfl,g1,g2,hS⟩
      have hS':eE (fun t=>(eT ds t).2) (aF k) k.values.es=true:=by rw [hS];rfl
      have hpl:qM (dH ds) (aF k) k.values.es=cP (dH ds) (aF k) k.values.es:=by simp [qM,hsl]
      rw [hpl] at g2
      have hsn:=LP g2 61
      rw [kP (dH ds) _ _ (by omega),hsl] at hsn
      simp only [cf16L2,cf16E2,go_sem,seval]
      simp only [Tev.conv,depth,eD,bX,bB,↓hsn,go_sem]
      rw [GI hc hD' hW' hS']
     ·clear g1 g1' hE hp
      rintro d x r env hp hes ⟨rfl,g1,g2,hS⟩
      have hlt:d.length < k.values.es.length:=by rw [<- hsl,hes];simp
      obtain ⟨t,ht⟩:∃ t,k.values.es[d.length]?=some t:=⟨_,List.getElem?_eq_getElem hlt⟩
      have hget:(aF k)[d.length]?=some x:=by rw [hes];simp
      have hSx:eE (fun t=>(eT ds t).2) (aF k) k.values.es=((decide (x.1 = -2)||(eT ds t).2)&&eE (fun t=>(eT ds t).2) r (k.values.es.drop (d++[x]).length)):=by
       rw [hS,List.drop_eq_getElem_cons hlt,eE]
       rw [List.getElem?_eq_getElem hlt] at ht
       cases ht
       simp
      have hvl:((d.length:Int) < (k.values.es.length:Int))=True:=eq_true (by omega)
      have hsl2:((d.length:Int) < ((aF k).length:Int))=True:=eq_true (by omega)
      have hsl3:decide ((d.length:Int) < ((aF k).length:Int))=true:=by simp;omega
      have g1':=g1
      simp only [aA.cells,Sl.av] at g1
      have hsb:(d++x :: r).length<=big:=by rw [<- hes,hsl];exact hVb
      simp only [cf16L2,cf16E2,g1,hget,hsl2,hsl3,bS,go_sem,seval]
      cases b1:decide (x.1 = -2)
      case true=>
       simp only [b1,aO hsb,go_sem,seval]
       refine ⟨rfl,g1',?_,by rw [hSx,b1];rfl⟩
       rw [J6 (dH ds) x d k.values.es t ht (of_decide_eq_true b1)]
       exact g2
      simp only [b1,ht,hvl,g1,go_sem,seval]
      refine aB (h33 t) (by simp only [go_sem,seval]) rfl ?_
      simp only [go_sem,seval]
      cases b2:(eT ds t).2
      case false=>
       simp only [go_sem,seval]
       rw [z7 hc hD' hW' (by rw [hSx,b1,b2];rfl)]
      have b1':¬ x.1 = -2:=of_decide_eq_false b1
      have hpl:=MD (dH ds) d k.values.es (by omega)
      have hle:(0+d.length*1+1<=(qM (dH ds) d k.values.es).length)=True:=eq_true (by rw [hpl];omega)
      have hst:List.take (0+d.length*1) ((qM (dH ds) d k.values.es).map aH)++[.int .i64 (dH ds t)]++List.drop (0+d.length*1+1) ((qM (dH ds) d k.values.es).map aH)=(qM (dH ds) (d++[x]) k.values.es).map aH:=by
       rw [MC (dH ds) x d k.values.es t ht b1',Nat.zero_add,Nat.mul_one]
      simp only [b2,aO hsb,g2,hvl,hle,hst,go_sem,seval]
      exact ⟨rfl,g1',by rw [hSx,b1,b2];rfl⟩
    ·clear g1 g1' hp
     rintro d x r env hp hes ⟨rfl,g1,hW⟩
     have hwb:=k.wher.ok
     obtain ⟨hget,x1,x2,xw⟩:=cG hes hwb
     have hr32:=h32 x
     simp only [cf16L1,cf16E1,hget,x1,x2,go_sem,seval]
     refine aB hr32 (by simp only [go_sem,seval]) rfl ?_
     simp only [go_sem,seval]
     cases b1:decide ((bJ ds x).1 < 0)
     case true=>
      have b1':decide (0<=(bJ ds x).1)=false:=by simp at b1 ⊢;omega
      simp only [b1,go_sem,seval]
      rw [D0 hc hD' (by rw [hW,List.all_cons,b1'];rfl)]
     have b1':decide (0<=(bJ ds x).1)=true:=by simp at b1 ⊢;omega
     simp only [b1,xw,go_sem,seval]
     exact ⟨rfl,g1,by rw [hW,List.all_cons,b1'];rfl⟩
   ·rintro d x r env hp hes ⟨rfl,g1,hD⟩
    obtain ⟨hget,x1,x2,xw⟩:=cG hes hb
    obtain ⟨y,hy,_,hvl,hq⟩:=BD (q:=cX) hes hlv
    rw [hq] at hD
    have g1':=g1
    simp only [aA.cells,Sl.av] at g1
    simp only [cf16L0,cf16E0,g1,hy,hvl,hget,x1,x2,go_sem,seval]
    cases b1:decide (x.v.bs=y.bs)
    case false=>
     simp only [b1,go_sem,seval]
     exact ⟨by kernel_rfl,by rw [nA hc (by rw [hD,cX,b1];rfl)]⟩
    cases b2:decide (x.n < 0)
    case true=>
     simp only [b1,b2,go_sem,seval]
     exact ⟨by kernel_rfl,by rw [nA hc (by rw [hD,cX,b1,b2];rfl)]⟩
    cases b3:decide (4096 < x.n)
    case true=>
     simp only [b1,b2,b3,go_sem,seval]
     exact ⟨by kernel_rfl,by rw [nA hc (by rw [hD,cX,b1,b2,b3];rfl)]⟩
    simp only [b1,b2,b3,xw,go_sem,seval]
    exact ⟨by kernel_rfl,rfl,g1',by rw [hD,cX,b1,b2,b3];rfl⟩
 ·rw [kM,if_neg (by omega)] at hs9
  subst hs9
  refine aB hr9 (by simp only [aA.av,aA.cells,go_sem,seval]) rfl ?_
  simp only [go_sem,seval]
  rw [D1 (by omega)]
theorem c35 (hf:pg.fs 35=some cf35) (h34:∀ (l:Lin) (nl cl:Bool) (ds:List Val),ds.length<=big->Ret pg 34 [l.av,.sl nl (ds.map Val.av) cl] (.tup [.int .i64 (bJ ds l).1,.int .i64 (bJ ds l).2])) (t:Typ) (nl cl:Bool) (ds:List Val) (hb:ds.length<=big) :
  bK pg 35 [t.av,.sl nl (ds.map Val.av) cl] (nI ds t):=by
 refine bK.ofX hf ?_
 unfold cf35
 have hlb:=t.shape.dims.ok
 have hlb':=hlb
 simp only [big] at hlb'
 simp only [go_sem,seval]
 refine aI t.shape.dims.es (fun d r env hp=>∃ v,env=cf35E0 (.sl nl (ds.map Val.av) cl) (.pt 1 0 0) v (.int .i64 1) (.int .i64 d.length)/\hp.get 1=some (0,.blk [.str t.elem.bs,.str t.shape.row.bs,.sl t.shape.dims.nl (t.shape.dims.es.map Lin.av) t.shape.dims.cl] 3 true true false) /\
  Own hp 9 1 false v ((d.map fun l=>(bJ ds l).1).map aH)/\t.shape.dims.es.all (jG ds)=r.all (jG ds)) ?_ ?_ ?_
 ·exact ⟨_,rfl,rfl,Own.nil _ _ _ _ _ _ rfl,rfl⟩
 ·rintro env hp ⟨v,rfl,g1,ho,hI⟩
  have hI':t.shape.dims.es.all (jG ds)=true:=by rw [hI];rfl
  have ho':Own hp 9 1 false v ((oL ds t).map aH):=ho
  have hfl:=ho'.flen
  have hLb:(oL ds t).length<=big:=by simpa [oL] using hlb
  have hG:jC ds t=decide ((oL ds t).foldl lH 1<=4096):=by rw [jC,hI',Bool.true_and]
  obtain ⟨L,hL⟩:∃ L,oL ds t=L:=⟨_,rfl⟩
  rw [hL] at ho' hfl hLb hG
  simp only [cf35L0,cf35E0,g1,bA,go_sem,seval]
  clear ho
  refine aI L (fun d r env hp2=>∃ n:Int,env=cf35E1 v (.int .i64 n) (.int .i64 d.length)/\hp2=hp/\L.foldl lH 1=r.foldl lH n) ?_ ?_ ?_
  ·exact ⟨1,rfl,rfl,rfl⟩
  ·rintro env hp2 ⟨n,rfl,rfl,hJ⟩
   have hG2:jC ds t=decide (n<=4096):=by rw [hG,hJ];rfl
   have hle:decide (4096 < n) = !decide (n<=4096):=by rw [<- decide_not,decide_eq_decide];omega
   have hl0:(L.map aH).length=L.length:=by simp
   rw [hl0] at hfl
   cases hn:decide (n<=4096)
   ·rw [hn] at hle
    simp only [cf35L1,cf35E1,↓hfl,bA,hle,go_sem,seval]
    exact uA (by rw [hG2,hn])
   ·rw [hn] at hle
    simp only [cf35L1,cf35E1,↓hfl,bA,hle,go_sem,seval]
    have hfin:∀ r,(∃ nl cl,r = .tup [.sl nl (L.map aH) cl,.int .i64 0])->nI ds t r:=fun r hr=>QL (by rw [hG2,hn]) (by rw [hL];exact hr)
    obtain ⟨nl3,cl3,keys,hsn,_⟩:=ho'.snap (El.ints _) 61
    rcases ho' with ⟨he,nl',cl',rfl,_⟩ | ⟨e,cs,rfl,hg,hu⟩
    ·simp only [go_sem,seval]
     exact hfin _ ⟨nl',cl',by rw [he]⟩
    ·simp only [List.length_map] at hsn
     simp only [Tev.conv,depth,eD,bX,bB,↓hsn,go_sem,List.length_map]
     exact hfin _ ⟨_,_,rfl⟩
  ·rintro d a r env hp2 hes ⟨n,rfl,rfl,hJ⟩
   obtain ⟨hget,e1,e2,ew⟩:=cG hes hLb
   have hl0:(L.map aH).length=L.length:=by simp
   rw [hl0] at hfl
   have hgm:(L.map aH)[d.length]?=some (.int .i64 a):=by rw [List.getElem?_map,hget];rfl
   rcases ho' with ⟨he,nl',cl',rfl,_⟩ | ⟨e,cs,rfl,hg,hu⟩
   ·have:L=[]:=by simpa using he
    rw [this] at hget;simp at hget
   ·rw [fR] at hu
    cases hu
    have e2':((d.length:Int) < ((L.map aH).length:Int))=True:=by rw [hl0];exact e2
    simp only [cf35L1,cf35E1,e1,e2,hg,hget,Nat.mul_one,Nat.zero_add,mn2,ew,go_sem,seval]
    exact ⟨_,rfl,hJ⟩
 ·rintro d x r env hp hes ⟨v,rfl,g1,ho,hI⟩
  obtain ⟨hget,e1,e2,ew⟩:=cG hes hlb
  have hdl:d.length<=t.shape.dims.es.length:=by rw [hes];simp
  rw [List.all_cons] at hI
  have hr34:=h34 x nl cl ds hb
  have hbad:jG ds x=false->jC ds t=false:=by
   intro h
   rw [jC,hI,h];rfl
  simp only [cf35L0,cf35E0,g1,hget,e1,e2,go_sem,seval]
  refine aB hr34 (by simp only [go_sem,seval]) rfl ?_
  cases b0:decide ((bJ ds x).2=0)
  ·simp only [b0,go_sem,seval]
   exact uA (hbad (by simp [jG,b0]))
  cases b1:decide (0<=(bJ ds x).1)
  ·have b1':decide ((bJ ds x).1 < 0)=true:=by simp at b1 ⊢;omega
   simp only [b0,b1',go_sem,seval]
   exact uA (hbad (by simp [jG,b1]))
  have b1':decide ((bJ ds x).1 < 0)=false:=by simp at b1 ⊢;omega
  cases b2:decide ((bJ ds x).1<=4096)
  ·have b2':decide (4096 < (bJ ds x).1)=true:=by simp at b2 ⊢;omega
   simp only [b0,b1',b2',go_sem,seval]
   exact uA (hbad (by simp [jG,b2]))
  have b2':decide (4096 < (bJ ds x).1)=false:=by simp at b2 ⊢;omega
  simp only [b0,b1',b2',go_sem,seval]
  refine fH (kb:=0) (s:=9) ho (El.ints _) (xs:=[.int .i64 (bJ ds x).1]) (by intro z hz;simp at hz;subst hz;exact El.int _) (by simp only [List.length_map,List.length_singleton];omega) (by decide) ?_
  intro v' rd pa ho2 hk2 _
  simp only [ew,go_sem,seval]
  refine ⟨v',rfl,?_,by simpa [aH] using ho2,?_⟩
  ·rw [hk2 1 (by omega)];exact g1
  ·rw [hI,jG,b0,b1,b2];rfl
end
end Go.Tev
end
section
namespace Go.Tev
section
variable {pg:Pg}
end
end Go.Tev
end
section
namespace Go.Tev
theorem xU (j:Nat) (p:Sp × Int):∀ (d:List (Sp × Int)) (a:Int),jZ j (d++[p]) a=if fN ((j:Int) - 1) p.1 then wr .i64 (jZ j d a+p.2) else jZ j d a
 | [],a=>rfl
 | q :: r,a=>by simp only [List.cons_append,jZ];exact xU j p r _
section
variable {pg:Pg}
end
end Go.Tev
end
section
namespace Go.Tev
def fT (k:aA) (ds:List Val) (r:AV):Prop:=
 if dS k ds=0 then ∃ nl cl,r = .tup [.sl nl ((cP (dH ds) (aF k) k.values.es).map aH) cl,.int .i64 0] else r = .tup [.sl true [] true,.int .i64 (dS k ds)]
theorem RX {k:aA} {ds:List Val} (h:¬ (cR k).2=0):fT k ds (.tup [.sl true [] true,.int .i64 22]):=by
 have:dS k ds=22:=by rw [dS,if_neg h]
 rw [fT,this];rfl
theorem CO {k:aA} {ds:List Val} (h:(cR k).2=0) (h1:eqL cX ds k.vars.es=false):fT k ds (.tup [.sl true [] true,.int .i64 1]):=by
 have:dS k ds=1:=by rw [dS,if_pos h,h1];rfl
 rw [fT,this];rfl
theorem RW {k:aA} {ds:List Val} (h:(cR k).2=0) (h1:eqL cX ds k.vars.es=true) (h2:k.wher.es.all (fun l=>decide (0<=(bJ ds l).1))=false):fT k ds (.tup [.sl true [] true,.int .i64 2]):=by
 have:dS k ds=2:=by rw [dS,if_pos h,h1,h2];rfl
 rw [fT,this];rfl
theorem LX {k:aA} {ds:List Val} (h:(cR k).2=0) (h1:eqL cX ds k.vars.es=true) (h2:k.wher.es.all (fun l=>decide (0<=(bJ ds l).1))=true) (h3:eE (fun t=>(eT ds t).2) (aF k) k.values.es=false):fT k ds (.tup [.sl true [] true,.int .i64 3]):=by
 have:dS k ds=3:=by rw [dS,if_pos h,h1,h2,h3];rfl
 rw [fT,this];rfl
section
variable {pg:Pg}
set_option maxHeartbeats 1000000 in
theorem c17 (hf:pg.fs 17=some cf17) (k:aA) (h10:bK pg 10 [k.av] (j0 k)) (nl cl:Bool) (ds:List Val) (hb:ds.length<=big)
  (h34:∀ l:Lin,Ret pg 34 [l.av,.sl nl (ds.map Val.av) cl] (.tup [.int .i64 (bJ ds l).1,.int .i64 (bJ ds l).2]))
  (h35:∀ t:Typ,bK pg 35 [t.av,.sl nl (ds.map Val.av) cl] (nI ds t)) :
  bK pg 17 [k.av,.sl nl (ds.map Val.av) cl] (fT k ds):=by
 obtain ⟨r9,hr9,hs9⟩:=h10
 simp only [aA.av,aA.cells,Sl.av] at hr9
 refine bK.ofX hf ?_
 unfold cf17
 simp only [aA.av,aA.cells,go_sem,seval]
 rcases kV (k:=k) with hc | hc
 ·have ok:=dZ hc
  have hso:=ok.out
  simp only [aX,Bool.and_eq_true,decide_eq_true_eq] at hso
  obtain ⟨_,⟨⟨⟨⟨⟨⟨_,_⟩,hi0⟩,_⟩,hiV⟩,_⟩,_⟩,_⟩:=hso
  obtain ⟨hov,hot⟩:=vA ok
  have hsl:=gP (k:=k) (by omega)
  have hVb:=k.values.ok
  have htr:treeL ((aF k).map bS)=true:=bH (f:=bS) (fun s=>by simp [bS,go_sem]) _
  rw [j0,if_pos hc] at hs9
  obtain ⟨nl9,cl9,rfl⟩:=hs9
  refine aB hr9 (by simp only [go_sem,seval]) (by first | rfl | (simp [AV.tree,htr])) ?_
  cases hl:decide ((ds.length:Int)=k.vars.es.length)
  case false=>
   simp only [hl,go_sem,seval]
   exact CO hc (vF hl)
  case true=>
   have hlv:ds.length=k.vars.es.length:=by
    have:=of_decide_eq_true hl
    omega
   simp only [hl,go_sem,seval]
   refine aI ds (fun d r env hp=>env=cf17E0 (.sl nl (ds.map Val.av) cl) (.pt 1 0 0) (.sl nl9 ((aF k).map bS) cl9) (.int .i64 d.length) /\
    hp.get 1=some (0,.blk (aR k) 6 true true false)/\eqL cX ds k.vars.es=eqL cX r (k.vars.es.drop d.length)) ?_ ?_ ?_
   ·refine ⟨rfl,?_,rfl⟩
    simp only [go_sem,seval]
    rfl
   ·rintro env hp ⟨rfl,g1,hD⟩
    have hD':eqL cX ds k.vars.es=true:=by rw [hD,mA hlv]
    have hev:=FF hD' hov
    simp only [cf17L0,cf17E0,bA,go_sem,seval]
    refine aI k.wher.es (fun d r env hp=>env=cf17E1 (.sl nl (ds.map Val.av) cl) (.pt 1 0 0) (.sl nl9 ((aF k).map bS) cl9) (.int .i64 d.length) /\
     hp.get 1=some (0,.blk (aR k) 6 true true false)/\k.wher.es.all (fun l=>decide (0<=(bJ ds l).1))=r.all (fun l=>decide (0<=(bJ ds l).1))) ?_ ?_ ?_
    ·exact ⟨rfl,g1,rfl⟩
    ·clear g1 hp
     rintro env hp ⟨rfl,g1,hW⟩
     have hW':k.wher.es.all (fun l=>decide (0<=(bJ ds l).1))=true:=by rw [hW];rfl
     have g1':=g1
     simp only [aR] at g1
     simp only [cf17L1,cf17E1,g1,bA,go_sem,seval]
     have hlb:(aF k).length<=big:=by rw [hsl];exact hVb
     refine aI (aF k) (fun d r env hp=>∃ w,env=cf17E3 (.sl nl (ds.map Val.av) cl) (.pt 1 0 0) (.sl nl9 ((aF k).map bS) cl9) w (.int .i64 d.length) /\
      hp.get 1=some (0,.blk (aR k) 6 true true false)/\Own hp 17 1 false w ((cP (dH ds) d k.values.es).map aH) /\
      eE (fun t=>(eT ds t).2) (aF k) k.values.es=eE (fun t=>(eT ds t).2) r (k.values.es.drop d.length)) ?_ ?_ ?_
     ·exact ⟨_,rfl,g1',Own.nil _ _ _ _ _ _ rfl,rfl⟩
     ·clear g1 g1' hp
      rintro env hp ⟨w,rfl,g1,ho,hS⟩
      have hS':eE (fun t=>(eT ds t).2) (aF k) k.values.es=true:=by rw [hS];rfl
      have hfin:∀ r,(∃ nl cl,r = .tup [.sl nl ((cP (dH ds) (aF k) k.values.es).map aH) cl,.int .i64 0])->fT k ds r:=by
       intro r hr
       rw [fT,if_pos (FP hc hD' hW' hS')]
       exact hr
      simp only [cf17L3,cf17E3,bA,go_sem,seval]
      obtain ⟨nl3,cl3,keys,hsn,_⟩:=ho.snap (El.ints _) 61
      rcases ho with ⟨he,nl',cl',rfl,_⟩ | ⟨e,cs,rfl,hg,hu⟩
      ·simp only [go_sem,seval]
       exact hfin _ ⟨nl',cl',by rw [he]⟩
      ·simp only [List.length_map] at hsn
       simp only [Tev.conv,depth,eD,bX,bB,↓hsn,go_sem,List.length_map]
       exact hfin _ ⟨_,_,rfl⟩
     ·clear g1 g1' hp
      rintro d x r env hp hes ⟨w,rfl,g1,ho,hS⟩
      obtain ⟨hget,x1,x2,xw⟩:=cG hes hlb
      have hlt:d.length < k.values.es.length:=by rw [<- hsl,hes];simp
      obtain ⟨t,ht⟩:∃ t,k.values.es[d.length]?=some t:=⟨_,List.getElem?_eq_getElem hlt⟩
      have hvl:((d.length:Int) < (k.values.es.length:Int))=True:=eq_true (by omega)
      have hSx:eE (fun t=>(eT ds t).2) (aF k) k.values.es=((decide (x.1 = -2)||(eT ds t).2)&&eE (fun t=>(eT ds t).2) r (k.values.es.drop (d++[x]).length)):=by
       rw [hS,List.drop_eq_getElem_cons hlt,eE]
       rw [List.getElem?_eq_getElem hlt] at ht
       cases ht
       simp
      have hsno:=m9 (dH ds) x d k.values.es t ht
      have hslen:=kP (dH ds) d k.values.es (by omega)
      have hfx:=wI ok (show x∈aF k by rw [hes];simp)
      have hx0:bS x = .agg [.int .i64 x.1,.int .i64 x.2]:=rfl
      have h3:decide (-1<=x.1) = !decide (x.1 = -2):=by
       rw [<- decide_not,decide_eq_decide]
       rcases hfx with h | h<;>omega
      have g1':=g1
      simp only [aR] at g1
      simp only [big] at hVb
      cases b1:decide (x.1 = -2)
      case true=>
       rw [b1] at h3
       simp only [cf17L3,cf17E3,hget,x1,x2,hx0,h3,go_sem,seval]
       refine fH (kb:=0) (s:=17) ho (El.ints _) (xs:=[.int .i64 0]) (by intro z hz;simp at hz;subst hz;exact El.int _) (by simp only [List.length_map,List.length_singleton];omega) (by decide) ?_
       intro v' rd pa ho2 hk2 _
       simp only [xw,go_sem,seval]
       refine ⟨v',rfl,?_,?_,by rw [hSx,b1];rfl⟩
       ·rw [hk2 1 (by omega)];exact g1'
       ·rw [hsno,if_pos (of_decide_eq_true b1)];simpa [aH] using ho2
      case false=>
      rw [b1] at h3
      obtain ⟨r35,hr35,hs35⟩:=h35 t
      obtain ⟨q1,q2⟩:=D3 hD' (hot t (List.mem_of_getElem? ht))
      rw [nI,q1] at hs35
      cases b2:(eT ds t).2
      case false=>
       rw [b2] at hs35
       simp only [Bool.false_eq_true,if_false] at hs35
       subst hs35
       simp only [cf17L3,cf17E3,hget,x1,x2,hx0,h3,g1,ht,hvl,go_sem,seval]
       refine aB hr35 (by simp only [go_sem,seval]) rfl ?_
       simp only [go_sem,seval]
       exact LX hc hD' hW' (by rw [hSx,b1,b2];rfl)
      case true=>
      rw [b2] at hs35
      simp only [if_true] at hs35
      obtain ⟨nl5,cl5,rfl⟩:=hs35
      obtain ⟨q3,_,_⟩:=q2 b2
      simp only [cf17L3,cf17E3,hget,x1,x2,hx0,h3,g1,ht,hvl,go_sem,seval]
      refine aB hr35 (by simp only [go_sem,seval]) (by first | rfl | (simp [AV.tree,jL])) ?_
      simp only [go_sem,seval]
      have hLb:(oL ds t).length<=big:=by
       have:=t.shape.dims.ok
       simpa [oL] using this
      have hq3:(oL ds t).foldl (fun n a=>wr .i64 (n*a)) 1=dH ds t:=q3
      generalize oL ds t=L at hLb hq3
      refine aI L (fun d3 r3 env hp3=>∃ n:Int,env=cf17E2 (.sl nl (ds.map Val.av) cl) (.pt 1 0 0) (.sl nl9 ((aF k).map bS) cl9) w (.int .i64 d.length) (.int .i64 n) (.sl nl5 (L.map aH) cl5) (.int .i64 d3.length)/\hp3=hp/\L.foldl (fun n a=>wr .i64 (n*a)) 1=r3.foldl (fun n a=>wr .i64 (n*a)) n) ?_ ?_ ?_
      ·exact ⟨1,rfl,rfl,rfl⟩
      ·rintro env hp3 ⟨n,rfl,rfl,hJ⟩
       have hn:n=dH ds t:=by rw [<- hq3,hJ];rfl
       simp only [cf17L2,cf17E2,bA,go_sem,seval]
       refine fH (kb:=0) (s:=17) ho (El.ints _) (xs:=[.int .i64 n]) (by intro z hz;simp at hz;subst hz;exact El.int _) (by simp only [List.length_map,List.length_singleton];omega) (by decide) ?_
       intro v' rd pa ho2 hk2 _
       simp only [xw,go_sem,seval]
       refine ⟨v',rfl,?_,?_,by rw [hSx,b1,b2];rfl⟩
       ·rw [hk2 1 (by omega)];exact g1'
       ·rw [hsno,if_neg (of_decide_eq_false b1),<- hn];simpa [aH] using ho2
      ·rintro d3 a r3 env hp3 hes3 ⟨n,rfl,rfl,hJ⟩
       obtain ⟨hget3,f1,f2,fw⟩:=cG hes3 hLb
       simp only [cf17L2,cf17E2,hget3,f1,f2,fw,go_sem,seval]
       exact ⟨_,rfl,hJ⟩
    ·clear g1 hp
     rintro d x r env hp hes ⟨rfl,g1,hW⟩
     have hwb:=k.wher.ok
     obtain ⟨hget,x1,x2,xw⟩:=cG hes hwb
     have hr34:=h34 x
     rw [hev x (by rw [hes];simp)] at hr34
     have g1':=g1
     simp only [aR] at g1
     simp only [cf17L1,cf17E1,g1,hget,x1,x2,go_sem,seval]
     refine aB hr34 (by simp only [go_sem,seval]) rfl ?_
     simp only [go_sem,seval]
     cases b1:decide ((bJ ds x).1 < 0)
     case true=>
      have b1':decide (0<=(bJ ds x).1)=false:=by simp at b1 ⊢;omega
      simp only [b1,go_sem,seval]
      exact RW hc hD' (by rw [hW,List.all_cons,b1'];rfl)
     have b1':decide (0<=(bJ ds x).1)=true:=by simp at b1 ⊢;omega
     simp only [b1,xw,go_sem,seval]
     refine ⟨rfl,?_,by rw [hW,List.all_cons,b1'];rfl⟩
     first | exact g1' | rfl
   ·rintro d x r env hp hes ⟨rfl,g1,hD⟩
    obtain ⟨hget,x1,x2,xw⟩:=cG hes hb
    obtain ⟨y,hy,_,hvl,hq⟩:=BD (q:=cX) hes hlv
    rw [hq] at hD
    have g1':=g1
    simp only [aR] at g1
    simp only [cf17L0,cf17E0,g1,hy,hvl,hget,x1,x2,go_sem,seval]
    cases b1:decide (x.v.bs=y.bs)
    case false=>
     simp only [b1,go_sem,seval]
     exact ⟨by kernel_rfl,CO hc (by rw [hD,cX,b1];rfl)⟩
    cases b2:decide (x.n < 0)
    case true=>
     simp only [b1,b2,hget,x1,x2,go_sem,seval]
     exact ⟨by kernel_rfl,CO hc (by rw [hD,cX,b1,b2];rfl)⟩
    cases b3:decide (4096 < x.n)
    case true=>
     simp only [b1,b2,b3,hget,x1,x2,go_sem,seval]
     exact ⟨by kernel_rfl,CO hc (by rw [hD,cX,b1,b2,b3];rfl)⟩
    simp only [b1,b2,b3,hget,x1,x2,xw,go_sem,seval]
    exact ⟨by kernel_rfl,rfl,g1',by rw [hD,cX,b1,b2,b3];rfl⟩
 ·rw [j0,if_neg (by rw [hc];decide)] at hs9
  subst hs9
  refine aB hr9 (by simp only [go_sem,seval]) rfl ?_
  simp only [go_sem,seval]
  exact RX (by rw [hc];decide)
end
end Go.Tev
end
section
namespace Go.Tev
theorem yS (S:List Int) (j:Nat) (a0:Int):∀ (n:Nat) (zs:List (Sp × Int)),zs.length=n->(∀ (i:Nat) (p:Sp × Int),zs[i]?=some p->S[i]?=some p.2) ->
  (cW ((j:Int) - 1) (zs.map (·.1))).foldl (fun a v=>wr .i64 (a+(S[v.toNat]?).getD 0)) a0=jZ j zs a0
 | 0,zs,hn,_=>by
  have:zs=[]:=List.eq_nil_of_length_eq_zero hn
  subst this;rfl
 | n+1,zs,hn,h=>by
  rcases List.eq_nil_or_concat zs with hz | ⟨d,p,hz⟩
  ·subst hz;simp at hn
  ·have hz:zs=d++[p]:=by simpa using hz
   subst hz
   have hd:d.length=n:=by simpa using hn
   have ih:=yS S j a0 n d hd (fun i q hi=>h i q (by rw [List.getElem?_append_left (List.getElem?_eq_some_iff.1 hi).1];exact hi))
   have hp:=h d.length p (by simp)
   rw [List.map_append,List.map_cons,List.map_nil,mP,xU,List.foldl_append,ih]
   cases fN ((j:Int) - 1) p.1
   ·simp
   ·simp [hp]
theorem CB (j:Nat):∀ (zs:List (Sp × Int)) (a:Int),0<=a->(∀ p∈zs,0<=p.2/\p.2<=4096)->a+4096*zs.length<=1000000000000000->0<=jZ j zs a
 | [],a,h,_,_=>h
 | p :: r,a,h,hp,hb=>by
  obtain ⟨p1,p2⟩:=hp p (by simp)
  simp only [List.length_cons] at hb
  simp only [jZ]
  have hr:∀ q∈r,0<=q.2/\q.2<=4096:=fun q hq=>hp q (List.mem_cons_of_mem _ hq)
  split
  ·rw [aV (by omega) (by omega)]
   exact CB j r _ (by omega) hr (by omega)
  ·exact CB j r _ h hr (by omega)
theorem uN {ds:List Val} {vars:List Str} (hD:eqL cX ds vars=true):∀ (sp:List Sp) (vs:List Typ),(∀ t∈vs,bU t.shape.dims.es vars=true)->eE (fun t=>(eT ds t).2) sp vs=true->∀ z∈cP (dH ds) sp vs,0<=z/\z<=4096
 | [],_,_,_,z,hz=>by simp [cP] at hz
 | _ :: _,[],_,_,z,hz=>by simp [cP] at hz
 | s :: r,t :: q,ht,hS,z,hz=>by
  simp only [eE,Bool.and_eq_true,Bool.or_eq_true,decide_eq_true_eq] at hS
  simp only [cP,List.mem_cons] at hz
  rcases hz with rfl | hz
  ·by_cases h:s.1 = -2
   ·rw [if_pos h];decide
   ·rw [if_neg h]
    rcases hS.1 with h2 | h2
    ·exact absurd h2 h
    ·exact ((D3 hD (ht t (by simp))).2 h2).2
  ·exact uN hD r q (fun u hu=>ht u (List.mem_cons_of_mem _ hu)) hS.2 z hz
def nK (k:aA) (ds:List Val):List (Sp × Int):=(aF k).zip (cP (dH ds) (aF k) k.values.es)
def qQ (k:aA) (ds:List Val):List Int:=(List.range (k.list.es.length+2)).map fun j=>jZ j (nK k ds) 0
theorem eM {k:aA} {ds:List Val} (h:dS k ds=0):(cR k).2=0/\eqL cX ds k.vars.es=true/\eE (fun t=>(eT ds t).2) (aF k) k.values.es=true:=by
 simp only [dS] at h
 split at h
 ·rename_i h1
  split at h
  ·rename_i h2
   split at h
   ·split at h
    ·rename_i h4
     exact ⟨h1,h2,h4⟩
    ·simp at h
   ·simp at h
  ·simp at h
 ·simp at h
theorem B8 {k:aA} {ds:List Val} (ok:fP k):(nK k ds).length=k.values.es.length/\(aF k).length=k.values.es.length/\(cP (dH ds) (aF k) k.values.es).length=k.values.es.length:=by
 have hso:=ok.out
 simp only [aX,Bool.and_eq_true,decide_eq_true_eq] at hso
 obtain ⟨_,⟨⟨⟨⟨⟨⟨_,_⟩,hi0⟩,_⟩,hiV⟩,_⟩,_⟩,_⟩:=hso
 have hsl:=gP (k:=k) (by omega)
 have hzl:=kP (dH ds) (aF k) k.values.es (by omega)
 exact ⟨by simp [nK,List.length_zip,hsl,hzl],hsl,by omega⟩
theorem DI {k:aA} {ds:List Val} (ok:fP k):(nK k ds).map (·.1)=aF k/\∀ (i:Nat) (p:Sp × Int),(nK k ds)[i]?=some p->(cP (dH ds) (aF k) k.values.es)[i]?=some p.2:=by
 obtain ⟨h1,h2,h3⟩:=B8 (ds:=ds) ok
 refine ⟨by rw [nK,List.map_fst_zip (by omega)],fun i p hi=>?_⟩
 rw [nK,List.getElem?_zip_eq_some] at hi
 exact hi.2
theorem MQ {k:aA} {ds:List Val} (h:dS k ds=0):∀ j,0<=jZ j (nK k ds) 0:=by
 obtain ⟨hc,hD,hS⟩:=eM h
 have ok:=dZ hc
 obtain ⟨h1,_,_⟩:=B8 (ds:=ds) ok
 have hVb:=k.values.ok
 simp only [big] at hVb
 intro j
 refine CB j _ 0 (Int.le_refl _) (fun p hp=>?_) (by omega)
 have:p.2∈cP (dH ds) (aF k) k.values.es:=by
  rw [nK] at hp
  exact (List.of_mem_zip hp).2
 exact uN hD _ _ (vA ok).2 hS _ this
theorem KC {k:aA} {ds:List Val} (h:dS k ds=0):(qQ k ds).length<=big:=by
 have hso:=(dZ (eM h).1).out
 simp only [aX,Bool.and_eq_true,decide_eq_true_eq] at hso
 obtain ⟨_,⟨⟨⟨⟨⟨⟨_,_⟩,_⟩,_⟩,_⟩,_⟩,hl⟩,_⟩:=hso
 simp only [qQ,List.length_map,List.length_range,big]
 omega
def pA (k:aA) (ds:List Val) (r:AV):Prop:=
 if dS k ds=0 then ∃ nl cl,r = .tup [.sl nl ((qQ k ds).map aH) cl,.int .i64 0] else r = .tup [.sl true [] true,.int .i64 (dS k ds)]
section
variable {pg:Pg}
theorem c19 (hf:pg.fs 19=some cf19) (k:aA) (nl cl:Bool) (ds:List Val) (h17:bK pg 17 [k.av,.sl nl (ds.map Val.av) cl] (fT k ds)) (h12:∀ at_:Int,bK pg 12 [k.av,.int .i64 at_] (lP k at_)) :
  bK pg 19 [k.av,.sl nl (ds.map Val.av) cl] (pA k ds):=by
 obtain ⟨r17,hr17,hs17⟩:=h17
 simp only [aA.av,aA.cells,Sl.av] at hr17 h12
 refine bK.ofX hf ?_
 unfold cf19
 simp only [aA.av,aA.cells,go_sem,seval]
 by_cases hx:dS k ds=0
 ·obtain ⟨hc,hD,hS⟩:=eM hx
  have ok:=dZ hc
  obtain ⟨l1,l2,l3⟩:=B8 (ds:=ds) ok
  obtain ⟨p1,p2⟩:=DI (ds:=ds) ok
  have hVb:=k.values.ok
  have hLb:=k.list.ok
  rw [fT,if_pos hx] at hs17
  obtain ⟨nl6,cl6,rfl⟩:=hs17
  refine aB hr17 (by simp only [go_sem,seval]) (by first | rfl | (simp [AV.tree,jL])) ?_
  simp only [go_sem,seval]
  generalize hSz:cP (dH ds) (aF k) k.values.es=S at l3 p2 hr17
  simp only [big] at hLb hVb
  refine aI (List.range (k.list.es.length+2)) (fun d r env hp=>∃ w,env=cf19E1 (.pt 1 0 0) (.sl nl6 (S.map aH) cl6) w (.int .i64 ((d.length:Int) - 1))/\hp.get 1=some (0,.blk (aR k) 6 true true false) /\
   Own hp 13 1 false w ((d.map fun j=>jZ j (nK k ds) 0).map aH)) ?_ ?_ ?_
  ·refine ⟨_,rfl,?_,Own.nil _ _ _ _ _ _ rfl⟩
   simp only [go_sem,seval]
   rfl
  ·rintro env hp ⟨w,rfl,g1,ho⟩
   have hr:(List.range (k.list.es.length+2)).length=k.list.es.length+2:=List.length_range
   rw [hr]
   have e1:decide ((((k.list.es.length+2:Nat):Int) - 1)<=(k.list.es.length:Int))=false:=decide_eq_false (by omega)
   simp only [aR] at g1
   have ho':Own hp 13 1 false w ((qQ k ds).map aH):=ho
   simp only [cf19L1,cf19E1,g1,e1,go_sem,seval]
   have hfin:∀ r,(∃ nl cl,r = .tup [.sl nl ((qQ k ds).map aH) cl,.int .i64 0])->pA k ds r:=by
    intro r hr
    rw [pA,if_pos hx]
    exact hr
   obtain ⟨nl3,cl3,keys,hsn,_⟩:=ho'.snap (El.ints _) 61
   rcases ho' with ⟨he,nl',cl',rfl,_⟩ | ⟨e,cs,rfl,hg,hu⟩
   ·simp only [go_sem,seval]
    exact hfin _ ⟨nl',cl',by rw [he]⟩
   ·simp only [List.length_map] at hsn
    simp only [Tev.conv,depth,eD,bX,bB,↓hsn,go_sem,List.length_map]
    exact hfin _ ⟨_,_,rfl⟩
  ·rintro d x r env hp hes ⟨w,rfl,g1,ho⟩
   obtain ⟨hxd,hlt⟩:=iG hes
   have e1:decide ((d.length:Int) - 1<=(k.list.es.length:Int))=true:=decide_eq_true (by omega)
   have ew:wr .i64 ((d.length:Int) - 1+1)=((d++[x]).length:Int) - 1:=by
    rw [aV (by omega) (by omega)];simp
   have g1':=g1
   simp only [aR] at g1
   obtain ⟨r12,hr12,hs12⟩:=h12 ((d.length:Int) - 1)
   rw [lP,if_pos hc,if_neg (by omega)] at hs12
   obtain ⟨nl3,cl3,rfl⟩:=hs12
   have hlive:=yS S d.length 0 (nK k ds).length (nK k ds) rfl p2
   rw [p1] at hlive
   have hin:∀ v∈cW ((d.length:Int) - 1) (aF k),0<=v/\v < S.length:=by
    intro v hv
    obtain ⟨s,h0,h1,_⟩:=iL.1 hv
    have:=(List.getElem?_eq_some_iff.1 h1).1
    omega
   have hll:=KE (k:=k) (at_:=(d.length:Int) - 1)
   simp only [cf19L1,cf19E1,g1,e1,go_sem,seval]
   refine aB hr12 (by simp only [go_sem,seval]) (by first | rfl | (simp [AV.tree,jL])) ?_
   simp only [go_sem,seval]
   have hLb2:(cW ((d.length:Int) - 1) (aF k)).length<=big:=by simp only [big];omega
   generalize cW ((d.length:Int) - 1) (aF k)=L at hlive hin hLb2
   refine aI L (fun d3 r3 env hp3=>∃ n:Int,env=cf19E0 (.pt 1 0 0) (.sl nl6 (S.map aH) cl6) w (.int .i64 ((d.length:Int) - 1)) (.sl nl3 (L.map aH) cl3) (.int .i64 n) (.int .i64 d3.length)/\hp3=hp /\
    L.foldl (fun a v=>wr .i64 (a+(S[v.toNat]?).getD 0)) 0=r3.foldl (fun a v=>wr .i64 (a+(S[v.toNat]?).getD 0)) n) ?_ ?_ ?_
   ·exact ⟨0,rfl,rfl,rfl⟩
   ·rintro env hp3 ⟨n,rfl,rfl,hJ⟩
    have hn:n=jZ d.length (nK k ds) 0:=by rw [<- hlive,hJ];rfl
    have hdl:d.length<=k.list.es.length+2:=by omega
    simp only [cf19L0,cf19E0,bA,go_sem,seval]
    refine fH (kb:=0) (s:=13) ho (El.ints _) (xs:=[.int .i64 n]) (by intro z hz;simp at hz;subst hz;exact El.int _) (by simp only [List.length_map,List.length_singleton];omega) (by decide) ?_
    intro v' rd pa ho2 hk2 _
    simp only [ew,go_sem,seval]
    refine ⟨v',rfl,?_,?_⟩
    ·rw [hk2 1 (by omega)];exact g1'
    ·rw [hxd,hn] at *;simpa [aH] using ho2
   ·rintro d3 v r3 env hp3 hes3 ⟨n,rfl,rfl,hJ⟩
    obtain ⟨hget3,f1,f2,fw⟩:=cG hes3 hLb2
    obtain ⟨v1,v2⟩:=hin v (by rw [hes3];simp)
    obtain ⟨z,hz⟩:∃ z,S[v.toNat]?=some z:=⟨_,List.getElem?_eq_getElem (by omega)⟩
    have v1':(0<=v)=True:=eq_true v1
    have v2':(v < (S.length:Int))=True:=eq_true v2
    simp only [cf19L0,cf19E0,hget3,f1,f2,fw,hz,v1',v2',go_sem,seval]
    refine ⟨_,rfl,?_⟩
    rw [hJ];simp [hz]
 ·rw [fT,if_neg hx] at hs17
  subst hs17
  refine aB hr17 (by simp only [go_sem,seval]) rfl ?_
  have hne:decide (dS k ds=0)=false:=by simpa using hx
  simp only [hne,go_sem,seval]
  rw [pA,if_neg hx]
end
end Go.Tev
end
section
namespace Go.Tev
def frm (sp:List Sp) (n:Nat):Option Int:=sp[n]?.map (·.1)
theorem vB (sp:List Sp) (v x:Int) (n:Nat):frm (gM sp v x) n=frm sp n:=by
 simp only [frm,gM,List.getElem?_modify]
 cases sp[n]? with
 | none=>rfl
 | some s=>by_cases h:v.toNat=n<;>simp [h]
theorem oH (i:Nat):∀ (l:List Int) (sp:List Sp) (n:Nat),frm (cO sp i l) n=frm sp n
 | [],_,_=>rfl
 | v :: r,sp,n=>by
  have:=oH i r (gM sp v i) n
  rw [vB] at this
  exact this
theorem E4 (sp:List Sp) (i:Nat) (q:aD) (n:Nat) (f:Int) (h:frm (gY sp i q) n=some f):frm sp n=some f\/(q.value.toNat=n/\f=i):=by
 rw [gY,oH,vB] at h
 split at h
 ·simp only [frm,fI,List.getElem?_modify] at h
  by_cases hv:q.value.toNat=n
  ·right
   refine ⟨hv,?_⟩
   cases hs:sp[n]? with
   | none=>rw [hs] at h;simp at h
   | some s=>rw [hs] at h;simp [hv] at h;omega
  ·left
   cases hs:sp[n]? with
   | none=>rw [hs] at h;simp at h
   | some s=>rw [hs] at h;simp [hv] at h;simp [frm,hs,h]
 ·exact .inl h
theorem I0:∀ (L:List aD) (sp:List Sp) (i n:Nat) (f:Int),frm (eI sp i L) n=some f->frm sp n=some f\/∃ (j:Nat) (q:aD),L[j]?=some q/\q.value.toNat=n/\f=((i+j:Nat):Int)
 | [],_,_,_,_,h => .inl h
 | q :: r,sp,i,n,f,h=>by
  rcases I0 r (gY sp i q) (i+1) n f h with h | ⟨j,q',h1,h2,h3⟩
  ·rcases E4 sp i q n f h with h | ⟨h1,h2⟩
   ·exact .inl h
   ·exact .inr ⟨0,q,rfl,h1,by simpa using h2⟩
  ·exact .inr ⟨j+1,q',h1,h2,by rw [h3];omega⟩
theorem oG {k:aA} {n:Nat} {f:Int} (h:frm (aF k) n=some f):f = -2\/(f = -1/\n < k.inputs.toNat)\/∃ (j:Nat) (q:aD),k.list.es[j]?=some q/\q.value.toNat=n/\f=(j:Int):=by
 rw [aF,show lO=fun sp n l=>cO sp n l from rfl] at h
 simp only at h
 rw [oH] at h
 rcases I0 _ _ _ _ _ h with h | ⟨j,q,h1,h2,h3⟩
 ·simp only [frm,cB,List.getElem?_append,List.length_replicate] at h
  split at h
  ·rename_i hn
   rw [List.getElem?_replicate,if_pos hn] at h
   simp at h
   exact .inr (.inl ⟨h.symm,hn⟩)
  ·rw [List.getElem?_replicate] at h
   split at h
   ·simp at h;exact .inl h.symm
   ·simp at h
 ·exact .inr (.inr ⟨j,q,h1,h2,by simpa using h3⟩)
def zZ (i:Int) (sp:List Sp):Prop:=∀ s∈sp,s.1<=s.2/\s.1<=i
theorem x5 {i:Int} {sp:List Sp} (v:Int) {x:Int} (h:zZ i sp) (hx:i<=x):zZ i (gM sp v x):=by
 intro s hs
 simp only [gM] at hs
 obtain ⟨n,hn⟩:=List.mem_iff_getElem?.1 hs
 rw [List.getElem?_modify] at hn
 cases hg:sp[n]? with
 | none=>rw [hg] at hn;simp at hn
 | some t=>
  have ht:=h t (List.mem_of_getElem? hg)
  rw [hg] at hn
  by_cases hv:v.toNat=n
  ·simp [hv] at hn;subst hn;exact ⟨by simp only;omega,ht.2⟩
  ·simp [hv] at hn;subst hn;exact ht
theorem sE {i:Int} (x:Nat) (hx:i<=x):∀ (l:List Int) (sp:List Sp),zZ i sp->zZ i (cO sp x l)
 | [],_,h=>h
 | v :: r,sp,h=>sE x hx r (gM sp v x) (x5 v h hx)
theorem AQ {i j:Int} {sp:List Sp} (h:zZ i sp) (hij:i<=j):zZ j sp:=fun s hs=>⟨(h s hs).1,by have:=(h s hs).2;omega⟩
theorem JT {sp:List Sp} (i:Nat) (q:aD) (h:zZ ((i:Int) - 1) sp):zZ i (gY sp i q):=by
 rw [gY]
 refine sE i (Int.le_refl _) _ _ ?_
 have h':=AQ h (by omega:(i:Int) - 1<=i)
 split
 ·intro s hs
  simp only [gM,fI] at hs
  obtain ⟨n,hn⟩:=List.mem_iff_getElem?.1 hs
  rw [List.getElem?_modify,List.getElem?_modify] at hn
  cases hg:sp[n]? with
  | none=>rw [hg] at hn;simp at hn
  | some t=>
   have ht:=h' t (List.mem_of_getElem? hg)
   rw [hg] at hn
   by_cases hv:q.value.toNat=n
   ·simp [hv] at hn;subst hn;simp
   ·simp [hv] at hn;subst hn;exact ht
 ·exact x5 _ h' (Int.le_refl _)
theorem DW:∀ (L:List aD) (sp:List Sp) (i:Nat),zZ ((i:Int) - 1) sp->zZ ((i+L.length:Nat) - 1:Int) (eI sp i L)
 | [],sp,i,h=>by simpa [eI] using h
 | q :: r,sp,i,h=>by
  have:=DW r (gY sp i q) (i+1) (by simpa using JT i q h)
  rw [eI]
  refine AQ this ?_
  simp only [List.length_cons]
  omega
theorem sD (k:aA):∀ s∈aF k,s.1<=s.2:=by
 have h0:zZ ((0:Nat) - 1:Int) (cB k.values.es.length k.inputs.toNat):=by
  intro s hs
  simp only [cB,List.mem_append,List.mem_replicate] at hs
  rcases hs with ⟨_,rfl⟩ | ⟨_,rfl⟩<;>simp
 have h1:=DW k.list.es _ 0 h0
 rw [aF,show lO=fun sp n l=>cO sp n l from rfl]
 intro s hs
 exact (sE _ (by omega) _ _ h1 s hs).1
end Go.Tev
end
section
namespace Go.Tev
theorem B1 {x y:bO} (h:fO x y=true):x.v.bs=y.v.bs/\x.c=y.c:=by
 simpa [fO] using h
theorem xT:∀ (a b:List bO) (p q:List bO),eqL fO a b=true->(p.getLast?.map fun c=>c.v.bs)=(q.getLast?.map fun c=>c.v.bs)->jY p a=jY q b
 | [],[],_,_,_,_=>rfl
 | [],_ :: _,_,_,h,_=>by simp [eqL] at h
 | _ :: _,[],_,_,h,_=>by simp [eqL] at h
 | x :: r,y :: s,p,q,h,hp=>by
  simp only [eqL,Bool.and_eq_true] at h
  obtain ⟨h1,h2⟩:=B1 h.1
  have ih:=xT r s (p++[x]) (q++[y]) h.2 (by simp [h1])
  simp only [jY,h1,h2,ih]
  cases hp1:p.getLast?<;>cases hq1:q.getLast?<;>rw [hp1,hq1] at hp
  all_goals first | rfl | (simp at hp;done) | (simp at hp;simp only [hp])
theorem zK (ds:List Val):∀ (a b:List bO) (n:Int),eqL fO a b=true->jW ds n a=jW ds n b
 | [],[],_,_=>rfl
 | [],_ :: _,_,h=>by simp [eqL] at h
 | _ :: _,[],_,h=>by simp [eqL] at h
 | x :: r,y :: s,n,h=>by
  simp only [eqL,Bool.and_eq_true] at h
  obtain ⟨h1,h2⟩:=B1 h.1
  simp only [jW,h1,h2]
  cases mC ds y.v.bs with
  | none=>rfl
  | some v=>
   simp only
   rw [zK ds r s _ h.2]
theorem HJ (ds:List Val) {a b:Lin} (h:bL a b=true):bJ ds a=bJ ds b:=by
 simp only [bL,Bool.and_eq_true,decide_eq_true_eq] at h
 have hl:=t8 h.2
 simp only [bJ,d6,h.1,xT _ _ [] [] h.2 rfl,hl,zK ds _ _ _ h.2]
 rfl
theorem pJ (f:Nat->Bool):∀ (n i:Nat),pK f i n = -1\/∃ v:Nat,pK f i n=v/\f v=true/\i<=v/\v < i+n
 | 0,i => .inl rfl
 | n+1,i=>by
  rw [pK]
  by_cases h:f i
  ·rw [if_pos h]
   exact .inr ⟨i,rfl,h,by omega,by omega⟩
  ·rw [if_neg h]
   rcases pJ f n (i+1) with h | ⟨v,h1,h2,h3,h4⟩
   ·exact .inl h
   ·exact .inr ⟨v,h1,h2,by omega,by omega⟩
end Go.Tev
end
