import Derived.Test.YtplehelpidcobaaGreatDoorPBD
import Derived.Test.YtplehelpidcobaaGreatDoorPBC
import Derived.Test.YtplehelpidcobaaGreatDoorPAY
set_option linter.all false
section
namespace Go.Tev
def cW (x:Val) (y:Str):Bool:=decide (x.v.bs=y.bs)&&(!decide (x.n < 0) && !decide (4096 < x.n))
def d7 (g:Typ->Bool):List Sp->List Typ->Bool
 | s :: r,t :: q=>(decide (s.1 = -2)||g t)&&d7 g r q
 | _,_=>true
def eW (k:aA) (ds:List Val):Int:=
 if (cQ k).2=0 then
  (if eqL cW ds k.vars.es then
   (if k.wher.es.all (fun l=>decide (0<=(bL ds l).1)) then
    (if d7 (fun t=>(eL ds t).2) (aJ k) k.values.es then 0 else 3)
   else 2)
  else 1)
 else 22
def eC (ds:List Val) (t:Typ):Int:=(eL ds t).1
def gX (k:aA) (ds:List Val):AV:=
 if eW k ds=0 then .tup [.sl false ((dK (eC ds) (aJ k) k.values.es).map aF) true,.int .i64 0] else .tup [.sl true [] true,.int .i64 (eW k ds)]
theorem w6:∀ (ds:List Val) (vars:List Str) (s:List UInt8),eqL cW ds vars=true->jM vars s=true->∃ v,mB ds s=some v/\0<=v.n/\v.n<=4096
 | [],[],s,_,h=>by simp [jM] at h
 | [],_ :: _,s,h,_=>by simp [eqL] at h
 | _ :: _,[],s,h,_=>by simp [eqL] at h
 | x :: r,y :: q,s,h,hs=>by
  simp only [eqL,Bool.and_eq_true] at h
  obtain ⟨h1,h2⟩:=h
  simp only [cW,Bool.and_eq_true,decide_eq_true_eq,Bool.not_eq_true',decide_eq_false_iff_not] at h1
  by_cases he:x.v.bs=s
  ·exact ⟨x,by simp [mB,he],by omega,by omega⟩
  ·have hq:jM q s=true:=by
    simp only [jM,List.any_cons,Bool.or_eq_true,decide_eq_true_eq] at hs
    rcases hs with h | h
    ·exact absurd (h1.1.trans h.symm) he
    ·simpa [jM] using h
   obtain ⟨v,q1,q2⟩:=w6 r q s h2 hq
   exact ⟨v,by simpa [mB,he] using q1,q2⟩
theorem EP (ds:List Val) (vars:List Str) (h:eqL cW ds vars=true):∀ (ts:List bQ) (n:Int),(ts.all fun x=>jM vars x.v.bs)=true->(jW ds n ts).2=0
 | [],n,_=>rfl
 | c :: r,n,ht=>by
  simp only [List.all_cons,Bool.and_eq_true] at ht
  obtain ⟨v,q1,q2,q3⟩:=w6 ds vars c.v.bs h ht.1
  have b1:decide (v.n < -1000000000)=false:=by simp;omega
  have b2:decide (1000000000 < v.n)=false:=by simp;omega
  simp only [jW,q1,b1,b2,Bool.or_false,Bool.false_eq_true,if_false]
  exact EP ds vars h r _ ht.2
theorem EQ {ds:List Val} {vars:List Str} (h:eqL cW ds vars=true) {ls:List Lin} (ho:bW ls vars=true):∀ l∈ls,(bL ds l).2=0:=by
 intro l hl
 simp only [bW,List.all_eq_true,Bool.and_eq_true] at ho
 obtain ⟨h1,h2⟩:=ho l hl
 simp only [bL,h1,if_true]
 exact EP ds vars h _ _ (by rw [List.all_eq_true];exact h2)
def G8 (n:Int) (L:List Int):Int:=L.foldl (fun n a=>G9 a n) n
def tC (n:Int) (L:List Int):Int:=L.foldl (fun n a=>wr .i64 (n*a)) n
def lG (n a:Int):Int:=if 1099511627776 < wr .i64 (n*a) then 1099511627776 else wr .i64 (n*a)
theorem NP {a n:Int} (h:0<=a):G9 a n=lG n a:=by
 have:¬ a < 0:=by omega
 simp only [G9,lG,this,if_false]
theorem E4:∀ (L:List Int) (n:Int),(∀ a∈L,0<=a)->G8 n L=L.foldl lG n
 | [],n,_=>rfl
 | a :: r,n,h=>by
  simp only [G8,List.foldl_cons]
  rw [NP (h a (by simp))]
  exact E4 r _ (fun x hx=>h x (List.mem_cons_of_mem _ hx))
theorem LW {n a:Int} (h0:0<=n) (h1:n<=1099511627776) (h2:0<=a) (h3:a<=4096):0<=n*a/\n*a<=4503599627370496:=by
 refine ⟨Int.mul_nonneg h0 h2,?_⟩
 exact Int.le_trans (Int.mul_le_mul h1 h3 h2 (by omega)) (by decide)
theorem yE:∀ L:List Int,tC 0 L=0
 | []=>rfl
 | a :: r=>by
  simp only [tC,List.foldl_cons,Int.zero_mul]
  exact yE r
theorem BP:∀ L:List Int,L.foldl lG 0=0
 | []=>rfl
 | a :: r=>by
  simp only [List.foldl_cons,lG,Int.zero_mul]
  exact BP r
theorem u4:∀ (L:List Int) (n m:Int),(0:Int)∈L->tC m L=0/\L.foldl lG n=0
 | [],n,m,h=>by simp at h
 | a :: r,n,m,h=>by
  by_cases ha:a=0
  ·subst ha
   simp only [tC,List.foldl_cons,lG,Int.mul_zero]
   exact ⟨yE r,BP r⟩
  ·have:(0:Int)∈r:=by
    rcases List.mem_cons.1 h with h | h
    ·exact absurd h.symm ha
    ·exact h
   simp only [tC,List.foldl_cons]
   exact u4 r _ _ this
theorem CO:∀ (L:List Int) (n:Int),0<=n->n<=1099511627776->(∀ a∈L,1<=a/\a<=4096)->n<=L.foldl lG n/\L.foldl lG n<=1099511627776
 | [],n,_,h,_=>⟨Int.le_refl _,h⟩
 | a :: r,n,h0,h1,h=>by
  obtain ⟨a1,a2⟩:=h a (by simp)
  obtain ⟨m1,m2⟩:=LW h0 h1 (by omega:0<=a) a2
  have hm:n<=n*a:=by
   have:=Int.mul_le_mul_of_nonneg_left a1 h0
   omega
  have hw:wr .i64 (n*a)=n*a:=aW (by omega) (by omega)
  simp only [List.foldl_cons]
  have hc:n<=lG n a/\lG n a<=1099511627776/\0<=lG n a:=by
   simp only [lG,hw]
   split<;>omega
  obtain ⟨q1,q2⟩:=CO r (lG n a) hc.2.2 hc.2.1 (fun x hx=>h x (List.mem_cons_of_mem _ hx))
  exact ⟨by omega,q2⟩
theorem H8:∀ (L:List Int) (n:Int),0<=n->n<=1099511627776->(∀ a∈L,1<=a/\a<=4096)->L.foldl lG n<=4096->tC n L=L.foldl lG n
 | [],n,_,_,_,_=>rfl
 | a :: r,n,h0,h1,h,hle=>by
  obtain ⟨a1,a2⟩:=h a (by simp)
  obtain ⟨m1,m2⟩:=LW h0 h1 (by omega:0<=a) a2
  have hw:wr .i64 (n*a)=n*a:=aW (by omega) (by omega)
  have hr:∀ x∈r,1<=x/\x<=4096:=fun x hx=>h x (List.mem_cons_of_mem _ hx)
  simp only [tC,List.foldl_cons] at hle ⊢
  by_cases hb:1099511627776 < n*a
  ·have:lG n a=1099511627776:=by simp only [lG,hw,hb,if_true]
   rw [this] at hle
   have:=(CO r 1099511627776 (by decide) (Int.le_refl _) hr).1
   omega
  ·have hm:lG n a=n*a:=by simp only [lG,hw,hb,if_false]
   rw [hm] at hle ⊢
   rw [hw]
   exact H8 r (n*a) m1 (by omega) hr hle
theorem LG {L:List Int} (h:∀ a∈L,0<=a/\a<=4096) (hle:L.foldl lG 1<=4096):tC 1 L=L.foldl lG 1:=by
 by_cases h0:(0:Int)∈L
 ·obtain ⟨a,b⟩:=u4 L 1 1 h0
  rw [a,b]
 ·refine H8 L 1 (by decide) (by decide) (fun a ha=>?_) hle
  have:=h a ha
  have:a ≠ 0:=fun e=>h0 (e ▸ ha)
  omega
def jE (ds:List Val) (l:Lin):Bool:=decide ((bL ds l).2=0)&&(decide (0<=(bL ds l).1)&&decide ((bL ds l).1<=4096))
def oI (ds:List Val) (t:Typ):List Int:=t.shape.dims.es.map fun l=>(bL ds l).1
def jB (ds:List Val) (t:Typ):Bool:=t.shape.dims.es.all (jE ds)&&decide ((oI ds t).foldl lG 1<=4096)
theorem xY (ds:List Val):∀ (ls:List Lin) (n:Int) (b:Bool),mG ds n b ls=(G8 n (ls.map fun l=>(bL ds l).1),b&&ls.all fun l=>decide (0<=(bL ds l).1)&&decide ((bL ds l).1<=4096))
 | [],n,b=>by simp [mG,G8]
 | l :: r,n,b=>by
  simp only [mG,xY ds r,G8,List.map_cons,List.foldl_cons,List.all_cons,Bool.and_assoc]
theorem DP {ds:List Val} {vars:List Str} (h:eqL cW ds vars=true) {t:Typ} (ho:bW t.shape.dims.es vars=true) :
  jB ds t=(eL ds t).2/\((eL ds t).2=true->tC 1 (oI ds t)=eC ds t/\0<=eC ds t/\eC ds t<=4096):=by
 have hev:=EQ h ho
 have h1:t.shape.dims.es.all (jE ds)=t.shape.dims.es.all fun l=>decide (0<=(bL ds l).1)&&decide ((bL ds l).1<=4096):=by
  rw [Bool.eq_iff_iff,List.all_eq_true,List.all_eq_true]
  constructor
  ·intro g l hl
   have:=g l hl
   simp only [jE,Bool.and_eq_true] at this ⊢
   exact this.2
  ·intro g l hl
   have:=g l hl
   simp only [jE,hev l hl,decide_true,Bool.true_and]
   exact this
 have h2:(eL ds t).2=(t.shape.dims.es.all (fun l=>decide (0<=(bL ds l).1)&&decide ((bL ds l).1<=4096))&&decide (G8 1 (oI ds t)<=4096)):=by
  simp only [eL,xY,Bool.true_and];rfl
 have h3:eC ds t=G8 1 (oI ds t):=by simp only [eC,eL,xY];rfl
 rw [jB,h1,h2]
 cases ha:t.shape.dims.es.all (fun l=>decide (0<=(bL ds l).1)&&decide ((bL ds l).1<=4096))
 ·exact ⟨rfl,fun h=>by simp at h⟩
 ·have hin:∀ a∈oI ds t,0<=a/\a<=4096:=by
   intro a hm
   simp only [oI,List.mem_map] at hm
   obtain ⟨l,hl,rfl⟩:=hm
   rw [List.all_eq_true] at ha
   have:=ha l hl
   simp only [Bool.and_eq_true,decide_eq_true_eq] at this
   exact this
  have hcm:=E4 (oI ds t) 1 (fun a ha=>(hin a ha).1)
  rw [hcm] at h3 ⊢
  refine ⟨rfl,fun hle=>?_⟩
  simp only [Bool.true_and,decide_eq_true_eq] at hle
  refine ⟨by rw [h3];exact LG hin hle,?_,by rw [h3];exact hle⟩
  rw [h3]
  by_cases h0:(0:Int)∈oI ds t
  ·rw [(u4 _ 1 1 h0).2];decide
  ·have:=(CO (oI ds t) 1 (by decide) (by decide) (fun a ha=>by
    have:=hin a ha
    have:a ≠ 0:=fun e=>h0 (e ▸ ha)
    omega)).1
   omega
theorem A9 {k:aA} (ok:jN k):bW k.wher.es k.vars.es=true/\∀ t∈k.values.es,bW t.shape.dims.es k.vars.es=true:=by
 have hso:=ok.out
 simp only [bC,Bool.and_eq_true,decide_eq_true_eq] at hso
 obtain ⟨_,⟨⟨⟨⟨⟨⟨_,hw⟩,_⟩,_⟩,_⟩,_⟩,_⟩,hty⟩:=hso
 refine ⟨hw,fun t ht=>?_⟩
 rw [List.all_eq_true] at hty
 have:=hty t ht
 simp only [eO,Bool.and_eq_true] at this
 exact this.2
end Go.Tev
end
section
namespace Go.Tev
theorem DM {k:aA} {ds:List Val} (h:¬ (cQ k).2=0):gX k ds = .tup [.sl true [] true,.int .i64 22]:=by
 have:eW k ds=22:=by rw [eW,if_neg h]
 rw [gX,this];rfl
theorem nA {k:aA} {ds:List Val} (h:(cQ k).2=0) (h1:eqL cW ds k.vars.es=false):gX k ds = .tup [.sl true [] true,.int .i64 1]:=by
 have:eW k ds=1:=by rw [eW,if_pos h,h1];rfl
 rw [gX,this];rfl
theorem DL {k:aA} {ds:List Val} (h:(cQ k).2=0) (h1:eqL cW ds k.vars.es=true) (h2:k.wher.es.all (fun l=>decide (0<=(bL ds l).1))=false):gX k ds = .tup [.sl true [] true,.int .i64 2]:=by
 have:eW k ds=2:=by rw [eW,if_pos h,h1,h2];rfl
 rw [gX,this];rfl
theorem zS {k:aA} {ds:List Val} (h:(cQ k).2=0) (h1:eqL cW ds k.vars.es=true) (h2:k.wher.es.all (fun l=>decide (0<=(bL ds l).1))=true) (h3:d7 (fun t=>(eL ds t).2) (aJ k) k.values.es=false):gX k ds = .tup [.sl true [] true,.int .i64 3]:=by
 have:eW k ds=3:=by rw [eW,if_pos h,h1,h2,h3];rfl
 rw [gX,this];rfl
theorem E1 {k:aA} {ds:List Val} (h:(cQ k).2=0) (h1:eqL cW ds k.vars.es=true) (h2:k.wher.es.all (fun l=>decide (0<=(bL ds l).1))=true) (h3:d7 (fun t=>(eL ds t).2) (aJ k) k.values.es=true):eW k ds=0:=by
 rw [eW,if_pos h,h1,h2,h3];rfl
theorem FU {k:aA} {ds:List Val} (h:(cQ k).2=0) (h1:eqL cW ds k.vars.es=true) (h2:k.wher.es.all (fun l=>decide (0<=(bL ds l).1))=true) (h3:d7 (fun t=>(eL ds t).2) (aJ k) k.values.es=true) :
  gX k ds = .tup [.sl false ((dK (eC ds) (aJ k) k.values.es).map aF) true,.int .i64 0]:=by
 rw [gX,if_pos (E1 h h1 h2 h3)]
def nH (ds:List Val) (t:Typ) (r:AV):Prop:=if jB ds t then ∃ nl cl,r = .tup [.sl nl ((oI ds t).map aF) cl,.int .i64 0] else r = .tup [.sl true [] true,.int .i64 3]
theorem tW {ds:List Val} {t:Typ} (h:jB ds t=false):nH ds t (.tup [.sl true [] true,.int .i64 3]):=by
 rw [nH,h];rfl
theorem PI {ds:List Val} {t:Typ} {r:AV} (h:jB ds t=true) (hr:∃ nl cl,r = .tup [.sl nl ((oI ds t).map aF) cl,.int .i64 0]):nH ds t r:=by
 rw [nH,h];exact hr
section
variable {pg:Pg}
theorem XP (hf:pg.fs 16=some cf16) (k:aA) (h9:bG pg 9 [k.av] (kL k)) (nl cl:Bool) (ds:List Val) (hb:ds.length<=big)
  (h32:∀ l:Lin,Ret pg 32 [l.av,.sl nl (ds.map Val.av) cl] (.tup [.int .i64 (bL ds l).1,.int .i64 (bL ds l).2])) (h33:∀ t:Typ,Ret pg 33 [t.av,.sl nl (ds.map Val.av) cl] (.tup [.int .i64 (eC ds t),.bool (eL ds t).2])) :
  Ret pg 16 [k.av,.sl nl (ds.map Val.av) cl] (gX k ds):=by
 obtain ⟨r9,hr9,hs9⟩:=h9
 refine Ret.ofX hf ?_
 unfold cf16
 simp only [aA.av,aA.cells,go_sem,seval]
 rcases jU (k:=k) with hc | hc
 ·have ok:=gB hc
  have hso:=ok.out
  simp only [bC,Bool.and_eq_true,decide_eq_true_eq] at hso
  obtain ⟨_,⟨⟨⟨⟨⟨⟨_,_⟩,hi0⟩,_⟩,hiV⟩,_⟩,_⟩,_⟩:=hso
  have hsl:=gI (k:=k) (by omega)
  have hVb:=k.values.ok
  have htr:treeL ((aJ k).map aU)=true:=bJ (f:=aU) (fun s=>by simp [aU,go_sem]) _
  rw [kL,if_pos hc] at hs9
  subst hs9
  refine aB hr9 (by simp only [aA.av,aA.cells,go_sem,seval]) (by first | rfl | (simp [AV.tree,htr])) ?_
  simp only [go_sem,seval]
  cases hl:decide ((ds.length:Int)=k.vars.es.length)
  case false=>
   simp only [hl,go_sem,seval]
   rw [nA hc (u7 hl)]
  case true=>
   have hlv:ds.length=k.vars.es.length:=by
    have:=of_decide_eq_true hl
    omega
   simp only [hl,go_sem,seval]
   refine aH ds (fun d r env hp=>env=cf16E0 (.sl nl (ds.map Val.av) cl) (.pt 1 0 0) (.sl false ((aJ k).map aU) false) (.sl nl (ds.map Val.av) cl) (.int .i64 ds.length) (.int .i64 d.length) /\
    hp.get 1=some (0,.blk k.cells 6 true true false)/\eqL cW ds k.vars.es=eqL cW r (k.vars.es.drop d.length)) ?_ ?_ ?_
   ·refine ⟨rfl,?_,rfl⟩
    simp only [go_sem,seval]
    rfl
   ·rintro env hp ⟨rfl,g1,hD⟩
    have hD':eqL cW ds k.vars.es=true:=by rw [hD,l8 hlv]
    have g1':=g1
    simp only [aA.cells,Sl.av] at g1
    simp only [cf16L0,cf16E0,g1,go_sem,seval]
    refine aH k.wher.es (fun d r env hp=>env=cf16E1 (.sl nl (ds.map Val.av) cl) (.pt 1 0 0) (.sl false ((aJ k).map aU) false) (.sl k.wher.nl (k.wher.es.map Lin.av) k.wher.cl) (.int .i64 k.wher.es.length) (.int .i64 d.length) /\
     hp.get 1=some (0,.blk k.cells 6 true true false)/\k.wher.es.all (fun l=>decide (0<=(bL ds l).1))=r.all (fun l=>decide (0<=(bL ds l).1))) ?_ ?_ ?_
    ·exact ⟨rfl,g1',rfl⟩
    ·clear g1 g1' hp
     rintro env hp ⟨rfl,g1,hW⟩
     have hW':k.wher.es.all (fun l=>decide (0<=(bL ds l).1))=true:=by rw [hW];rfl
     have g1':=g1
     simp only [aA.cells,Sl.av] at g1
     simp only [cf16L1,cf16E1,g1,go_sem,seval]
     have hV30:((k.values.es.length:Int)<=1073741824)=True:=eq_true (by simp only [big] at hVb;omega)
     generalize hE:hp.next 21=E
     simp only [hV30,go_sem,seval]
     refine aH (aJ k) (fun d r env hp=>env=cf16E2 (.sl nl (ds.map Val.av) cl) (.pt 1 0 0) (.rf 21 E 0 k.values.es.length k.values.es.length) (.sl false ((aJ k).map aU) false) (.int .i64 (aJ k).length) (.int .i64 d.length) /\
      hp.get 1=some (0,.blk k.cells 6 true true false)/\hp.get 21=some (E,.blk ((qF (eC ds) d k.values.es).map aF) 1 false true false)/\d7 (fun t=>(eL ds t).2) (aJ k) k.values.es=d7 (fun t=>(eL ds t).2) r (k.values.es.drop d.length)) ?_ ?_ ?_
     ·refine ⟨rfl,?_,?_,rfl⟩
      ·simp only [go_sem,seval]
       exact g1'
      ·simp only [go_sem,seval]
       simp [qF,dK,aF,hE]
     ·clear g1 g1' hE hp
      rintro env hp ⟨rfl,g1,g2,hS⟩
      have hS':d7 (fun t=>(eL ds t).2) (aJ k) k.values.es=true:=by rw [hS];rfl
      have hpl:qF (eC ds) (aJ k) k.values.es=dK (eC ds) (aJ k) k.values.es:=by simp [qF,hsl]
      rw [hpl] at g2
      have hsn:=KW g2 61
      rw [mF (eC ds) _ _ (by omega),hsl] at hsn
      simp only [cf16L2,cf16E2,go_sem,seval]
      simp only [Tev.conv,depth,dZ,bV,bA,↓hsn,go_sem]
      rw [FU hc hD' hW' hS']
     ·clear g1 g1' hE hp
      rintro d x r env hp hes ⟨rfl,g1,g2,hS⟩
      have hlt:d.length < k.values.es.length:=by rw [<- hsl,hes];simp
      obtain ⟨t,ht⟩:∃ t,k.values.es[d.length]?=some t:=⟨_,List.getElem?_eq_getElem hlt⟩
      have hget:(aJ k)[d.length]?=some x:=by rw [hes];simp
      have hSx:d7 (fun t=>(eL ds t).2) (aJ k) k.values.es=((decide (x.1 = -2)||(eL ds t).2)&&d7 (fun t=>(eL ds t).2) r (k.values.es.drop (d++[x]).length)):=by
       rw [hS,List.drop_eq_getElem_cons hlt,d7]
       rw [List.getElem?_eq_getElem hlt] at ht
       cases ht
       simp
      have hvl:((d.length:Int) < (k.values.es.length:Int))=True:=eq_true (by omega)
      have hsl2:((d.length:Int) < ((aJ k).length:Int))=True:=eq_true (by omega)
      have hsl3:decide ((d.length:Int) < ((aJ k).length:Int))=true:=by simp;omega
      have g1':=g1
      simp only [aA.cells,Sl.av] at g1
      have hsb:(d++x :: r).length<=big:=by rw [<- hes,hsl];exact hVb
      simp only [cf16L2,cf16E2,g1,hget,hsl2,hsl3,aU,go_sem,seval]
      cases b1:decide (x.1 = -2)
      case true=>
       simp only [b1,aL hsb,go_sem,seval]
       refine ⟨rfl,g1',?_,by rw [hSx,b1];rfl⟩
       rw [JD (eC ds) x d k.values.es t ht (of_decide_eq_true b1)]
       exact g2
      simp only [b1,ht,hvl,g1,go_sem,seval]
      refine aB (h33 t) (by simp only [go_sem,seval]) rfl ?_
      simp only [go_sem,seval]
      cases b2:(eL ds t).2
      case false=>
       simp only [go_sem,seval]
       rw [zS hc hD' hW' (by rw [hSx,b1,b2];rfl)]
      have b1':¬ x.1 = -2:=of_decide_eq_false b1
      have hpl:=LJ (eC ds) d k.values.es (by omega)
      have hle:(0+d.length*1+1<=(qF (eC ds) d k.values.es).length)=True:=eq_true (by rw [hpl];omega)
      have hst:List.take (0+d.length*1) ((qF (eC ds) d k.values.es).map aF)++[.int .i64 (eC ds t)]++List.drop (0+d.length*1+1) ((qF (eC ds) d k.values.es).map aF)=(qF (eC ds) (d++[x]) k.values.es).map aF:=by
       rw [LI (eC ds) x d k.values.es t ht b1',Nat.zero_add,Nat.mul_one]
      simp only [b2,aL hsb,g2,hvl,hle,hst,go_sem,seval]
      exact ⟨rfl,g1',by rw [hSx,b1,b2];rfl⟩
    ·clear g1 g1' hp
     rintro d x r env hp hes ⟨rfl,g1,hW⟩
     have hwb:=k.wher.ok
     obtain ⟨hget,x1,x2,xw⟩:=cC hes hwb
     have hr32:=h32 x
     simp only [cf16L1,cf16E1,hget,x1,x2,go_sem,seval]
     refine aB hr32 (by simp only [go_sem,seval]) rfl ?_
     simp only [go_sem,seval]
     cases b1:decide ((bL ds x).1 < 0)
     case true=>
      have b1':decide (0<=(bL ds x).1)=false:=by simp at b1 ⊢;omega
      simp only [b1,go_sem,seval]
      rw [DL hc hD' (by rw [hW,List.all_cons,b1'];rfl)]
     have b1':decide (0<=(bL ds x).1)=true:=by simp at b1 ⊢;omega
     simp only [b1,xw,go_sem,seval]
     exact ⟨rfl,g1,by rw [hW,List.all_cons,b1'];rfl⟩
   ·rintro d x r env hp hes ⟨rfl,g1,hD⟩
    obtain ⟨hget,x1,x2,xw⟩:=cC hes hb
    obtain ⟨y,hy,_,hvl,hq⟩:=A0 (q:=cW) hes hlv
    rw [hq] at hD
    have g1':=g1
    simp only [aA.cells,Sl.av] at g1
    simp only [cf16L0,cf16E0,g1,hy,hvl,hget,x1,x2,go_sem,seval]
    cases b1:decide (x.v.bs=y.bs)
    case false=>
     simp only [b1,go_sem,seval]
     exact ⟨by kernel_rfl,by rw [nA hc (by rw [hD,cW,b1];rfl)]⟩
    cases b2:decide (x.n < 0)
    case true=>
     simp only [b1,b2,go_sem,seval]
     exact ⟨by kernel_rfl,by rw [nA hc (by rw [hD,cW,b1,b2];rfl)]⟩
    cases b3:decide (4096 < x.n)
    case true=>
     simp only [b1,b2,b3,go_sem,seval]
     exact ⟨by kernel_rfl,by rw [nA hc (by rw [hD,cW,b1,b2,b3];rfl)]⟩
    simp only [b1,b2,b3,xw,go_sem,seval]
    exact ⟨by kernel_rfl,rfl,g1',by rw [hD,cW,b1,b2,b3];rfl⟩
 ·rw [kL,if_neg (by omega)] at hs9
  subst hs9
  refine aB hr9 (by simp only [aA.av,aA.cells,go_sem,seval]) rfl ?_
  simp only [go_sem,seval]
  rw [DM (by omega)]
theorem c35 (hf:pg.fs 35=some cf35) (h34:∀ (l:Lin) (nl cl:Bool) (ds:List Val),ds.length<=big->Ret pg 34 [l.av,.sl nl (ds.map Val.av) cl] (.tup [.int .i64 (bL ds l).1,.int .i64 (bL ds l).2])) (t:Typ) (nl cl:Bool) (ds:List Val) (hb:ds.length<=big) :
  bG pg 35 [t.av,.sl nl (ds.map Val.av) cl] (nH ds t):=by
 refine bG.ofX hf ?_
 unfold cf35
 have hlb:=t.shape.dims.ok
 have hlb':=hlb
 simp only [big] at hlb'
 simp only [go_sem,seval]
 refine aH t.shape.dims.es (fun d r env hp=>∃ v,env=cf35E0 (.sl nl (ds.map Val.av) cl) (.pt 1 0 0) v (.int .i64 1) (.int .i64 d.length)/\hp.get 1=some (0,.blk [.str t.elem.bs,.str t.shape.row.bs,.sl t.shape.dims.nl (t.shape.dims.es.map Lin.av) t.shape.dims.cl] 3 true true false) /\
  Own hp 9 1 false v ((d.map fun l=>(bL ds l).1).map aF)/\t.shape.dims.es.all (jE ds)=r.all (jE ds)) ?_ ?_ ?_
 ·exact ⟨_,rfl,rfl,Own.nil _ _ _ _ _ _ rfl,rfl⟩
 ·rintro env hp ⟨v,rfl,g1,ho,hI⟩
  have hI':t.shape.dims.es.all (jE ds)=true:=by rw [hI];rfl
  have ho':Own hp 9 1 false v ((oI ds t).map aF):=ho
  have hfl:=ho'.flen
  have hLb:(oI ds t).length<=big:=by simpa [oI] using hlb
  have hG:jB ds t=decide ((oI ds t).foldl lG 1<=4096):=by rw [jB,hI',Bool.true_and]
  obtain ⟨L,hL⟩:∃ L,oI ds t=L:=⟨_,rfl⟩
  rw [hL] at ho' hfl hLb hG
  simp only [cf35L0,cf35E0,g1,aX,go_sem,seval]
  clear ho
  refine aH L (fun d r env hp2=>∃ n:Int,env=cf35E1 v (.int .i64 n) (.int .i64 d.length)/\hp2=hp/\L.foldl lG 1=r.foldl lG n) ?_ ?_ ?_
  ·exact ⟨1,rfl,rfl,rfl⟩
  ·rintro env hp2 ⟨n,rfl,rfl,hJ⟩
   have hG2:jB ds t=decide (n<=4096):=by rw [hG,hJ];rfl
   have hle:decide (4096 < n) = !decide (n<=4096):=by rw [<- decide_not,decide_eq_decide];omega
   have hl0:(L.map aF).length=L.length:=by simp
   rw [hl0] at hfl
   cases hn:decide (n<=4096)
   ·rw [hn] at hle
    simp only [cf35L1,cf35E1,↓hfl,aX,hle,go_sem,seval]
    exact tW (by rw [hG2,hn])
   ·rw [hn] at hle
    simp only [cf35L1,cf35E1,↓hfl,aX,hle,go_sem,seval]
    have hfin:∀ r,(∃ nl cl,r = .tup [.sl nl (L.map aF) cl,.int .i64 0])->nH ds t r:=fun r hr=>PI (by rw [hG2,hn]) (by rw [hL];exact hr)
    obtain ⟨nl3,cl3,keys,hsn,_⟩:=ho'.snap (El.ints _) 61
    rcases ho' with ⟨he,nl',cl',rfl,_⟩ | ⟨e,cs,rfl,hg,hu⟩
    ·simp only [go_sem,seval]
     exact hfin _ ⟨nl',cl',by rw [he]⟩
    ·simp only [List.length_map] at hsn
     simp only [Tev.conv,depth,dZ,bV,bA,↓hsn,go_sem,List.length_map]
     exact hfin _ ⟨_,_,rfl⟩
  ·rintro d a r env hp2 hes ⟨n,rfl,rfl,hJ⟩
   obtain ⟨hget,e1,e2,ew⟩:=cC hes hLb
   have hl0:(L.map aF).length=L.length:=by simp
   rw [hl0] at hfl
   have hgm:(L.map aF)[d.length]?=some (.int .i64 a):=by rw [List.getElem?_map,hget];rfl
   rcases ho' with ⟨he,nl',cl',rfl,_⟩ | ⟨e,cs,rfl,hg,hu⟩
   ·have:L=[]:=by simpa using he
    rw [this] at hget;simp at hget
   ·rw [fH] at hu
    cases hu
    have e2':((d.length:Int) < ((L.map aF).length:Int))=True:=by rw [hl0];exact e2
    simp only [cf35L1,cf35E1,e1,e2,hg,hget,Nat.mul_one,Nat.zero_add,mn2,ew,go_sem,seval]
    exact ⟨_,rfl,hJ⟩
 ·rintro d x r env hp hes ⟨v,rfl,g1,ho,hI⟩
  obtain ⟨hget,e1,e2,ew⟩:=cC hes hlb
  have hdl:d.length<=t.shape.dims.es.length:=by rw [hes];simp
  rw [List.all_cons] at hI
  have hr34:=h34 x nl cl ds hb
  have hbad:jE ds x=false->jB ds t=false:=by
   intro h
   rw [jB,hI,h];rfl
  simp only [cf35L0,cf35E0,g1,hget,e1,e2,go_sem,seval]
  refine aB hr34 (by simp only [go_sem,seval]) rfl ?_
  cases b0:decide ((bL ds x).2=0)
  ·simp only [b0,go_sem,seval]
   exact tW (hbad (by simp [jE,b0]))
  cases b1:decide (0<=(bL ds x).1)
  ·have b1':decide ((bL ds x).1 < 0)=true:=by simp at b1 ⊢;omega
   simp only [b0,b1',go_sem,seval]
   exact tW (hbad (by simp [jE,b1]))
  have b1':decide ((bL ds x).1 < 0)=false:=by simp at b1 ⊢;omega
  cases b2:decide ((bL ds x).1<=4096)
  ·have b2':decide (4096 < (bL ds x).1)=true:=by simp at b2 ⊢;omega
   simp only [b0,b1',b2',go_sem,seval]
   exact tW (hbad (by simp [jE,b2]))
  have b2':decide (4096 < (bL ds x).1)=false:=by simp at b2 ⊢;omega
  simp only [b0,b1',b2',go_sem,seval]
  refine eK (kb:=0) (s:=9) ho (El.ints _) (xs:=[.int .i64 (bL ds x).1]) (by intro z hz;simp at hz;subst hz;exact El.int _) (by simp only [List.length_map,List.length_singleton];omega) (by decide) ?_
  intro v' rd pa ho2 hk2 _
  simp only [ew,go_sem,seval]
  refine ⟨v',rfl,?_,by simpa [aF] using ho2,?_⟩
  ·rw [hk2 1 (by omega)];exact g1
  ·rw [hI,jE,b0,b1,b2];rfl
end
end Go.Tev
end
section
namespace Go.Tev
section
variable {pg:Pg}
end
end Go.Tev
end
section
namespace Go.Tev
section
variable {pg:Pg}
end
end Go.Tev
end
section
namespace Go.Tev
def gW (k:aA) (ds:List Val) (r:AV):Prop:=
 if eW k ds=0 then ∃ nl cl,r = .tup [.sl nl ((dK (eC ds) (aJ k) k.values.es).map aF) cl,.int .i64 0] else r = .tup [.sl true [] true,.int .i64 (eW k ds)]
theorem QQ {k:aA} {ds:List Val} (h:¬ (cQ k).2=0):gW k ds (.tup [.sl true [] true,.int .i64 22]):=by
 have:eW k ds=22:=by rw [eW,if_neg h]
 rw [gW,this];rfl
theorem CB {k:aA} {ds:List Val} (h:(cQ k).2=0) (h1:eqL cW ds k.vars.es=false):gW k ds (.tup [.sl true [] true,.int .i64 1]):=by
 have:eW k ds=1:=by rw [eW,if_pos h,h1];rfl
 rw [gW,this];rfl
theorem QP {k:aA} {ds:List Val} (h:(cQ k).2=0) (h1:eqL cW ds k.vars.es=true) (h2:k.wher.es.all (fun l=>decide (0<=(bL ds l).1))=false):gW k ds (.tup [.sl true [] true,.int .i64 2]):=by
 have:eW k ds=2:=by rw [eW,if_pos h,h1,h2];rfl
 rw [gW,this];rfl
theorem K5 {k:aA} {ds:List Val} (h:(cQ k).2=0) (h1:eqL cW ds k.vars.es=true) (h2:k.wher.es.all (fun l=>decide (0<=(bL ds l).1))=true) (h3:d7 (fun t=>(eL ds t).2) (aJ k) k.values.es=false):gW k ds (.tup [.sl true [] true,.int .i64 3]):=by
 have:eW k ds=3:=by rw [eW,if_pos h,h1,h2,h3];rfl
 rw [gW,this];rfl
section
variable {pg:Pg}
set_option maxHeartbeats 1000000 in
theorem c17 (hf:pg.fs 17=some cf17) (k:aA) (h10:bG pg 10 [k.av] (gV k)) (nl cl:Bool) (ds:List Val) (hb:ds.length<=big)
  (h34:∀ l:Lin,Ret pg 34 [l.av,.sl nl (ds.map Val.av) cl] (.tup [.int .i64 (bL ds l).1,.int .i64 (bL ds l).2]))
  (h35:∀ t:Typ,bG pg 35 [t.av,.sl nl (ds.map Val.av) cl] (nH ds t)) :
  bG pg 17 [k.av,.sl nl (ds.map Val.av) cl] (gW k ds):=by
 obtain ⟨r9,hr9,hs9⟩:=h10
 simp only [aA.av,aA.cells,Sl.av] at hr9
 refine bG.ofX hf ?_
 unfold cf17
 simp only [aA.av,aA.cells,go_sem,seval]
 rcases jU (k:=k) with hc | hc
 ·have ok:=gB hc
  have hso:=ok.out
  simp only [bC,Bool.and_eq_true,decide_eq_true_eq] at hso
  obtain ⟨_,⟨⟨⟨⟨⟨⟨_,_⟩,hi0⟩,_⟩,hiV⟩,_⟩,_⟩,_⟩:=hso
  obtain ⟨hov,hot⟩:=A9 ok
  have hsl:=gI (k:=k) (by omega)
  have hVb:=k.values.ok
  have htr:treeL ((aJ k).map aU)=true:=bJ (f:=aU) (fun s=>by simp [aU,go_sem]) _
  rw [gV,if_pos hc] at hs9
  obtain ⟨nl9,cl9,rfl⟩:=hs9
  refine aB hr9 (by simp only [go_sem,seval]) (by first | rfl | (simp [AV.tree,htr])) ?_
  cases hl:decide ((ds.length:Int)=k.vars.es.length)
  case false=>
   simp only [hl,go_sem,seval]
   exact CB hc (u7 hl)
  case true=>
   have hlv:ds.length=k.vars.es.length:=by
    have:=of_decide_eq_true hl
    omega
   simp only [hl,go_sem,seval]
   refine aH ds (fun d r env hp=>env=cf17E0 (.sl nl (ds.map Val.av) cl) (.pt 1 0 0) (.sl nl9 ((aJ k).map aU) cl9) (.int .i64 d.length) /\
    hp.get 1=some (0,.blk (aV k) 6 true true false)/\eqL cW ds k.vars.es=eqL cW r (k.vars.es.drop d.length)) ?_ ?_ ?_
   ·refine ⟨rfl,?_,rfl⟩
    simp only [go_sem,seval]
    rfl
   ·rintro env hp ⟨rfl,g1,hD⟩
    have hD':eqL cW ds k.vars.es=true:=by rw [hD,l8 hlv]
    have hev:=EQ hD' hov
    simp only [cf17L0,cf17E0,aX,go_sem,seval]
    refine aH k.wher.es (fun d r env hp=>env=cf17E1 (.sl nl (ds.map Val.av) cl) (.pt 1 0 0) (.sl nl9 ((aJ k).map aU) cl9) (.int .i64 d.length) /\
     hp.get 1=some (0,.blk (aV k) 6 true true false)/\k.wher.es.all (fun l=>decide (0<=(bL ds l).1))=r.all (fun l=>decide (0<=(bL ds l).1))) ?_ ?_ ?_
    ·exact ⟨rfl,g1,rfl⟩
    ·clear g1 hp
     rintro env hp ⟨rfl,g1,hW⟩
     have hW':k.wher.es.all (fun l=>decide (0<=(bL ds l).1))=true:=by rw [hW];rfl
     have g1':=g1
     simp only [aV] at g1
     simp only [cf17L1,cf17E1,g1,aX,go_sem,seval]
     have hlb:(aJ k).length<=big:=by rw [hsl];exact hVb
     refine aH (aJ k) (fun d r env hp=>∃ w,env=cf17E3 (.sl nl (ds.map Val.av) cl) (.pt 1 0 0) (.sl nl9 ((aJ k).map aU) cl9) w (.int .i64 d.length) /\
      hp.get 1=some (0,.blk (aV k) 6 true true false)/\Own hp 17 1 false w ((dK (eC ds) d k.values.es).map aF) /\
      d7 (fun t=>(eL ds t).2) (aJ k) k.values.es=d7 (fun t=>(eL ds t).2) r (k.values.es.drop d.length)) ?_ ?_ ?_
     ·exact ⟨_,rfl,g1',Own.nil _ _ _ _ _ _ rfl,rfl⟩
     ·clear g1 g1' hp
      rintro env hp ⟨w,rfl,g1,ho,hS⟩
      have hS':d7 (fun t=>(eL ds t).2) (aJ k) k.values.es=true:=by rw [hS];rfl
      have hfin:∀ r,(∃ nl cl,r = .tup [.sl nl ((dK (eC ds) (aJ k) k.values.es).map aF) cl,.int .i64 0])->gW k ds r:=by
       intro r hr
       rw [gW,if_pos (E1 hc hD' hW' hS')]
       exact hr
      simp only [cf17L3,cf17E3,aX,go_sem,seval]
      obtain ⟨nl3,cl3,keys,hsn,_⟩:=ho.snap (El.ints _) 61
      rcases ho with ⟨he,nl',cl',rfl,_⟩ | ⟨e,cs,rfl,hg,hu⟩
      ·simp only [go_sem,seval]
       exact hfin _ ⟨nl',cl',by rw [he]⟩
      ·simp only [List.length_map] at hsn
       simp only [Tev.conv,depth,dZ,bV,bA,↓hsn,go_sem,List.length_map]
       exact hfin _ ⟨_,_,rfl⟩
     ·clear g1 g1' hp
      rintro d x r env hp hes ⟨w,rfl,g1,ho,hS⟩
      obtain ⟨hget,x1,x2,xw⟩:=cC hes hlb
      have hlt:d.length < k.values.es.length:=by rw [<- hsl,hes];simp
      obtain ⟨t,ht⟩:∃ t,k.values.es[d.length]?=some t:=⟨_,List.getElem?_eq_getElem hlt⟩
      have hvl:((d.length:Int) < (k.values.es.length:Int))=True:=eq_true (by omega)
      have hSx:d7 (fun t=>(eL ds t).2) (aJ k) k.values.es=((decide (x.1 = -2)||(eL ds t).2)&&d7 (fun t=>(eL ds t).2) r (k.values.es.drop (d++[x]).length)):=by
       rw [hS,List.drop_eq_getElem_cons hlt,d7]
       rw [List.getElem?_eq_getElem hlt] at ht
       cases ht
       simp
      have hsno:=m9 (eC ds) x d k.values.es t ht
      have hslen:=mF (eC ds) d k.values.es (by omega)
      have hfx:=wA ok (show x∈aJ k by rw [hes];simp)
      have hx0:aU x = .agg [.int .i64 x.1,.int .i64 x.2]:=rfl
      have h3:decide (-1<=x.1) = !decide (x.1 = -2):=by
       rw [<- decide_not,decide_eq_decide]
       rcases hfx with h | h<;>omega
      have g1':=g1
      simp only [aV] at g1
      simp only [big] at hVb
      cases b1:decide (x.1 = -2)
      case true=>
       rw [b1] at h3
       simp only [cf17L3,cf17E3,hget,x1,x2,hx0,h3,go_sem,seval]
       refine eK (kb:=0) (s:=17) ho (El.ints _) (xs:=[.int .i64 0]) (by intro z hz;simp at hz;subst hz;exact El.int _) (by simp only [List.length_map,List.length_singleton];omega) (by decide) ?_
       intro v' rd pa ho2 hk2 _
       simp only [xw,go_sem,seval]
       refine ⟨v',rfl,?_,?_,by rw [hSx,b1];rfl⟩
       ·rw [hk2 1 (by omega)];exact g1'
       ·rw [hsno,if_pos (of_decide_eq_true b1)];simpa [aF] using ho2
      case false=>
      rw [b1] at h3
      obtain ⟨r35,hr35,hs35⟩:=h35 t
      obtain ⟨q1,q2⟩:=DP hD' (hot t (List.mem_of_getElem? ht))
      rw [nH,q1] at hs35
      cases b2:(eL ds t).2
      case false=>
       rw [b2] at hs35
       simp only [Bool.false_eq_true,if_false] at hs35
       subst hs35
       simp only [cf17L3,cf17E3,hget,x1,x2,hx0,h3,g1,ht,hvl,go_sem,seval]
       refine aB hr35 (by simp only [go_sem,seval]) rfl ?_
       simp only [go_sem,seval]
       exact K5 hc hD' hW' (by rw [hSx,b1,b2];rfl)
      case true=>
      rw [b2] at hs35
      simp only [if_true] at hs35
      obtain ⟨nl5,cl5,rfl⟩:=hs35
      obtain ⟨q3,_,_⟩:=q2 b2
      simp only [cf17L3,cf17E3,hget,x1,x2,hx0,h3,g1,ht,hvl,go_sem,seval]
      refine aB hr35 (by simp only [go_sem,seval]) (by first | rfl | (simp [AV.tree,mQ])) ?_
      simp only [go_sem,seval]
      have hLb:(oI ds t).length<=big:=by
       have:=t.shape.dims.ok
       simpa [oI] using this
      have hq3:(oI ds t).foldl (fun n a=>wr .i64 (n*a)) 1=eC ds t:=q3
      generalize oI ds t=L at hLb hq3
      refine aH L (fun d3 r3 env hp3=>∃ n:Int,env=cf17E2 (.sl nl (ds.map Val.av) cl) (.pt 1 0 0) (.sl nl9 ((aJ k).map aU) cl9) w (.int .i64 d.length) (.int .i64 n) (.sl nl5 (L.map aF) cl5) (.int .i64 d3.length)/\hp3=hp/\L.foldl (fun n a=>wr .i64 (n*a)) 1=r3.foldl (fun n a=>wr .i64 (n*a)) n) ?_ ?_ ?_
      ·exact ⟨1,rfl,rfl,rfl⟩
      ·rintro env hp3 ⟨n,rfl,rfl,hJ⟩
       have hn:n=eC ds t:=by rw [<- hq3,hJ];rfl
       simp only [cf17L2,cf17E2,aX,go_sem,seval]
       refine eK (kb:=0) (s:=17) ho (El.ints _) (xs:=[.int .i64 n]) (by intro z hz;simp at hz;subst hz;exact El.int _) (by simp only [List.length_map,List.length_singleton];omega) (by decide) ?_
       intro v' rd pa ho2 hk2 _
       simp only [xw,go_sem,seval]
       refine ⟨v',rfl,?_,?_,by rw [hSx,b1,b2];rfl⟩
       ·rw [hk2 1 (by omega)];exact g1'
       ·rw [hsno,if_neg (of_decide_eq_false b1),<- hn];simpa [aF] using ho2
      ·rintro d3 a r3 env hp3 hes3 ⟨n,rfl,rfl,hJ⟩
       obtain ⟨hget3,f1,f2,fw⟩:=cC hes3 hLb
       simp only [cf17L2,cf17E2,hget3,f1,f2,fw,go_sem,seval]
       exact ⟨_,rfl,hJ⟩
    ·clear g1 hp
     rintro d x r env hp hes ⟨rfl,g1,hW⟩
     have hwb:=k.wher.ok
     obtain ⟨hget,x1,x2,xw⟩:=cC hes hwb
     have hr34:=h34 x
     rw [hev x (by rw [hes];simp)] at hr34
     have g1':=g1
     simp only [aV] at g1
     simp only [cf17L1,cf17E1,g1,hget,x1,x2,go_sem,seval]
     refine aB hr34 (by simp only [go_sem,seval]) rfl ?_
     simp only [go_sem,seval]
     cases b1:decide ((bL ds x).1 < 0)
     case true=>
      have b1':decide (0<=(bL ds x).1)=false:=by simp at b1 ⊢;omega
      simp only [b1,go_sem,seval]
      exact QP hc hD' (by rw [hW,List.all_cons,b1'];rfl)
     have b1':decide (0<=(bL ds x).1)=true:=by simp at b1 ⊢;omega
     simp only [b1,xw,go_sem,seval]
     refine ⟨rfl,?_,by rw [hW,List.all_cons,b1'];rfl⟩
     first | exact g1' | rfl
   ·rintro d x r env hp hes ⟨rfl,g1,hD⟩
    obtain ⟨hget,x1,x2,xw⟩:=cC hes hb
    obtain ⟨y,hy,_,hvl,hq⟩:=A0 (q:=cW) hes hlv
    rw [hq] at hD
    have g1':=g1
    simp only [aV] at g1
    simp only [cf17L0,cf17E0,g1,hy,hvl,hget,x1,x2,go_sem,seval]
    cases b1:decide (x.v.bs=y.bs)
    case false=>
     simp only [b1,go_sem,seval]
     exact ⟨by kernel_rfl,CB hc (by rw [hD,cW,b1];rfl)⟩
    cases b2:decide (x.n < 0)
    case true=>
     simp only [b1,b2,hget,x1,x2,go_sem,seval]
     exact ⟨by kernel_rfl,CB hc (by rw [hD,cW,b1,b2];rfl)⟩
    cases b3:decide (4096 < x.n)
    case true=>
     simp only [b1,b2,b3,hget,x1,x2,go_sem,seval]
     exact ⟨by kernel_rfl,CB hc (by rw [hD,cW,b1,b2,b3];rfl)⟩
    simp only [b1,b2,b3,hget,x1,x2,xw,go_sem,seval]
    exact ⟨by kernel_rfl,rfl,g1',by rw [hD,cW,b1,b2,b3];rfl⟩
 ·rw [gV,if_neg (by rw [hc];decide)] at hs9
  subst hs9
  refine aB hr9 (by simp only [go_sem,seval]) rfl ?_
  simp only [go_sem,seval]
  exact QQ (by rw [hc];decide)
end
end Go.Tev
end
section
namespace Go.Tev
theorem AG {ds:List Val} {vars:List Str} (hD:eqL cW ds vars=true):∀ (sp:List Sp) (vs:List Typ),(∀ t∈vs,bW t.shape.dims.es vars=true)->d7 (fun t=>(eL ds t).2) sp vs=true->∀ z∈dK (eC ds) sp vs,0<=z/\z<=4096
 | [],_,_,_,z,hz=>by simp [dK] at hz
 | _ :: _,[],_,_,z,hz=>by simp [dK] at hz
 | s :: r,t :: q,ht,hS,z,hz=>by
  simp only [d7,Bool.and_eq_true,Bool.or_eq_true,decide_eq_true_eq] at hS
  simp only [dK,List.mem_cons] at hz
  rcases hz with rfl | hz
  ·by_cases h:s.1 = -2
   ·rw [if_pos h];decide
   ·rw [if_neg h]
    rcases hS.1 with h2 | h2
    ·exact absurd h2 h
    ·exact ((DP hD (ht t (by simp))).2 h2).2
  ·exact AG hD r q (fun u hu=>ht u (List.mem_cons_of_mem _ hu)) hS.2 z hz
theorem iC {k:aA} {ds:List Val} (h:eW k ds=0):(cQ k).2=0/\eqL cW ds k.vars.es=true/\d7 (fun t=>(eL ds t).2) (aJ k) k.values.es=true:=by
 simp only [eW] at h
 split at h
 ·rename_i h1
  split at h
  ·rename_i h2
   split at h
   ·split at h
    ·rename_i h4
     exact ⟨h1,h2,h4⟩
    ·simp at h
   ·simp at h
  ·simp at h
 ·simp at h
section
variable {pg:Pg}
end
end Go.Tev
end
section
namespace Go.Tev
def frm (sp:List Sp) (n:Nat):Option Int:=sp[n]?.map (·.1)
theorem BA (sp:List Sp) (v x:Int) (n:Nat):frm (gG sp v x) n=frm sp n:=by
 simp only [frm,gG,List.getElem?_modify]
 cases sp[n]? with
 | none=>rfl
 | some s=>by_cases h:v.toNat=n<;>simp [h]
theorem u3 (i:Nat):∀ (l:List Int) (sp:List Sp) (n:Nat),frm (cT sp i l) n=frm sp n
 | [],_,_=>rfl
 | v :: r,sp,n=>by
  have:=u3 i r (gG sp v i) n
  rw [BA] at this
  exact this
theorem MO (sp:List Sp) (i:Nat) (q:aD) (n:Nat) (f:Int) (h:frm (jG sp i q) n=some f):frm sp n=some f\/(q.value.toNat=n/\f=i):=by
 rw [jG,u3,BA] at h
 split at h
 ·simp only [frm,fV,List.getElem?_modify] at h
  by_cases hv:q.value.toNat=n
  ·right
   refine ⟨hv,?_⟩
   cases hs:sp[n]? with
   | none=>rw [hs] at h;simp at h
   | some s=>rw [hs] at h;simp [hv] at h;omega
  ·left
   cases hs:sp[n]? with
   | none=>rw [hs] at h;simp at h
   | some s=>rw [hs] at h;simp [hv] at h;simp [frm,hs,h]
 ·exact .inl h
theorem H7:∀ (L:List aD) (sp:List Sp) (i n:Nat) (f:Int),frm (fJ sp i L) n=some f->frm sp n=some f\/∃ (j:Nat) (q:aD),L[j]?=some q/\q.value.toNat=n/\f=((i+j:Nat):Int)
 | [],_,_,_,_,h => .inl h
 | q :: r,sp,i,n,f,h=>by
  rcases H7 r (jG sp i q) (i+1) n f h with h | ⟨j,q',h1,h2,h3⟩
  ·rcases MO sp i q n f h with h | ⟨h1,h2⟩
   ·exact .inl h
   ·exact .inr ⟨0,q,rfl,h1,by simpa using h2⟩
  ·exact .inr ⟨j+1,q',h1,h2,by rw [h3];omega⟩
theorem JU {k:aA} {n:Nat} {f:Int} (h:frm (aJ k) n=some f):f = -2\/(f = -1/\n < k.inputs.toNat)\/∃ (j:Nat) (q:aD),k.list.es[j]?=some q/\q.value.toNat=n/\f=(j:Int):=by
 rw [aJ,show mD=fun sp n l=>cT sp n l from rfl] at h
 simp only at h
 rw [u3] at h
 rcases H7 _ _ _ _ _ h with h | ⟨j,q,h1,h2,h3⟩
 ·simp only [frm,cK,List.getElem?_append,List.length_replicate] at h
  split at h
  ·rename_i hn
   rw [List.getElem?_replicate,if_pos hn] at h
   simp at h
   exact .inr (.inl ⟨h.symm,hn⟩)
  ·rw [List.getElem?_replicate] at h
   split at h
   ·simp at h;exact .inl h.symm
   ·simp at h
 ·exact .inr (.inr ⟨j,q,h1,h2,by simpa using h3⟩)
def zQ (i:Int) (sp:List Sp):Prop:=∀ s∈sp,s.1<=s.2/\s.1<=i
theorem xT {i:Int} {sp:List Sp} (v:Int) {x:Int} (h:zQ i sp) (hx:i<=x):zQ i (gG sp v x):=by
 intro s hs
 simp only [gG] at hs
 obtain ⟨n,hn⟩:=List.mem_iff_getElem?.1 hs
 rw [List.getElem?_modify] at hn
 cases hg:sp[n]? with
 | none=>rw [hg] at hn;simp at hn
 | some t=>
  have ht:=h t (List.mem_of_getElem? hg)
  rw [hg] at hn
  by_cases hv:v.toNat=n
  ·simp [hv] at hn;subst hn;exact ⟨by simp only;omega,ht.2⟩
  ·simp [hv] at hn;subst hn;exact ht
theorem rW {i:Int} (x:Nat) (hx:i<=x):∀ (l:List Int) (sp:List Sp),zQ i sp->zQ i (cT sp x l)
 | [],_,h=>h
 | v :: r,sp,h=>rW x hx r (gG sp v x) (xT v h hx)
theorem AF {i j:Int} {sp:List Sp} (h:zQ i sp) (hij:i<=j):zQ j sp:=fun s hs=>⟨(h s hs).1,by have:=(h s hs).2;omega⟩
theorem I1 {sp:List Sp} (i:Nat) (q:aD) (h:zQ ((i:Int) - 1) sp):zQ i (jG sp i q):=by
 rw [jG]
 refine rW i (Int.le_refl _) _ _ ?_
 have h':=AF h (by omega:(i:Int) - 1<=i)
 split
 ·intro s hs
  simp only [gG,fV] at hs
  obtain ⟨n,hn⟩:=List.mem_iff_getElem?.1 hs
  rw [List.getElem?_modify,List.getElem?_modify] at hn
  cases hg:sp[n]? with
  | none=>rw [hg] at hn;simp at hn
  | some t=>
   have ht:=h' t (List.mem_of_getElem? hg)
   rw [hg] at hn
   by_cases hv:q.value.toNat=n
   ·simp [hv] at hn;subst hn;simp
   ·simp [hv] at hn;subst hn;exact ht
 ·exact xT _ h' (Int.le_refl _)
theorem DH:∀ (L:List aD) (sp:List Sp) (i:Nat),zQ ((i:Int) - 1) sp->zQ ((i+L.length:Nat) - 1:Int) (fJ sp i L)
 | [],sp,i,h=>by simpa [fJ] using h
 | q :: r,sp,i,h=>by
  have:=DH r (jG sp i q) (i+1) (by simpa using I1 i q h)
  rw [fJ]
  refine AF this ?_
  simp only [List.length_cons]
  omega
theorem FN (k:aA):∀ s∈aJ k,s.1<=s.2:=by
 have h0:zQ ((0:Nat) - 1:Int) (cK k.values.es.length k.inputs.toNat):=by
  intro s hs
  simp only [cK,List.mem_append,List.mem_replicate] at hs
  rcases hs with ⟨_,rfl⟩ | ⟨_,rfl⟩<;>simp
 have h1:=DH k.list.es _ 0 h0
 rw [aJ,show mD=fun sp n l=>cT sp n l from rfl]
 intro s hs
 exact (rW _ (by omega) _ _ h1 s hs).1
end Go.Tev
end
section
namespace Go.Tev
theorem BN {x y:bQ} (h:fA x y=true):x.v.bs=y.v.bs/\x.c=y.c:=by
 simpa [fA] using h
theorem xK:∀ (a b:List bQ) (p q:List bQ),eqL fA a b=true->(p.getLast?.map fun c=>c.v.bs)=(q.getLast?.map fun c=>c.v.bs)->jY p a=jY q b
 | [],[],_,_,_,_=>rfl
 | [],_ :: _,_,_,h,_=>by simp [eqL] at h
 | _ :: _,[],_,_,h,_=>by simp [eqL] at h
 | x :: r,y :: s,p,q,h,hp=>by
  simp only [eqL,Bool.and_eq_true] at h
  obtain ⟨h1,h2⟩:=BN h.1
  have ih:=xK r s (p++[x]) (q++[y]) h.2 (by simp [h1])
  simp only [jY,h1,h2,ih]
  cases hp1:p.getLast?<;>cases hq1:q.getLast?<;>rw [hp1,hq1] at hp
  all_goals first | rfl | (simp at hp;done) | (simp at hp;simp only [hp])
theorem zA (ds:List Val):∀ (a b:List bQ) (n:Int),eqL fA a b=true->jW ds n a=jW ds n b
 | [],[],_,_=>rfl
 | [],_ :: _,_,h=>by simp [eqL] at h
 | _ :: _,[],_,h=>by simp [eqL] at h
 | x :: r,y :: s,n,h=>by
  simp only [eqL,Bool.and_eq_true] at h
  obtain ⟨h1,h2⟩:=BN h.1
  simp only [jW,h1,h2]
  cases mB ds y.v.bs with
  | none=>rfl
  | some v=>
   simp only
   rw [zA ds r s _ h.2]
theorem GT (ds:List Val) {a b:Lin} (h:bH a b=true):bL ds a=bL ds b:=by
 simp only [bH,Bool.and_eq_true,decide_eq_true_eq] at h
 have hl:=tU h.2
 simp only [bL,dU,h.1,xK _ _ [] [] h.2 rfl,hl,zA ds _ _ _ h.2]
 rfl
theorem yS (f:Nat->Bool):∀ (n i:Nat),eS f i n = -1\/∃ v:Nat,eS f i n=v/\f v=true/\i<=v/\v < i+n
 | 0,i => .inl rfl
 | n+1,i=>by
  rw [eS]
  by_cases h:f i
  ·rw [if_pos h]
   exact .inr ⟨i,rfl,h,by omega,by omega⟩
  ·rw [if_neg h]
   rcases yS f n (i+1) with h | ⟨v,h1,h2,h3,h4⟩
   ·exact .inl h
   ·exact .inr ⟨v,h1,h2,by omega,by omega⟩
end Go.Tev
end
