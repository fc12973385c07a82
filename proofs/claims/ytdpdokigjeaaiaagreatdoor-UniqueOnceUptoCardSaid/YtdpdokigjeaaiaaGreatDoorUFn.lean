import Derived.Test.YtdpdokigjeaaiaaGreatDoorUCn
import Derived.Test.YtdpdokigjeaaiaaGreatDoorNFn
import Derived.Test.YtdpdokigjeaaiaaGreatDoorRDn
import Derived.Test.YtdpdokigjeaaiaaGreatDoorUAn
import Derived.Test.YtdpdokigjeaaiaaGreatDoorEvEn
set_option linter.all false
section
namespace Go.Tev
section
variable {pg:Pg}
theorem choicesU_len (k:Kernels):(choicesU k).length=k.list.es.length:=by simp [choicesU]
end
end Go.Tev
end
section
namespace Go.Tev
def valOf (ds:List Val) (v:List UInt8):Option Val:=ds.find? (fun x=>decide (x.v.bs=v))
def evalT (ds:List Val):Int→List Coef→Int × Int
 | n,[]=>(n,0)
 | n,c :: r=>match valOf ds c.v.bs with
  | none=>(0,7)
  | some v=>if decide (v.n < -1000000000)||decide (1000000000 < v.n) then (0,2) else evalT ds (wr .i64 (n+wr .i64 (c.c*v.n))) r
def evalL (ds:List Val) (l:Lin):Int × Int:=if linOK l then evalT ds l.c l.ts.es else (0,1)
theorem evalT_none {ds:List Val} {n:Int} {c:Coef} {r:List Coef} (h:valOf ds c.v.bs=none):evalT ds n (c :: r)=(0,7):=by
 simp only [evalT,h]
theorem evalT_some {ds:List Val} {n:Int} {c:Coef} {r:List Coef} {v:Val} (h:valOf ds c.v.bs=some v) :
  evalT ds n (c :: r)=(if decide (v.n < -1000000000)||decide (1000000000 < v.n) then (0,2) else evalT ds (wr .i64 (n+wr .i64 (c.c*v.n))) r):=by
 simp only [evalT,h]
section
variable {pg:Pg}
theorem c34x (hf:pg.fs 34=some cf34) (h54:∀ l:Lin,Ret pg 54 [l.av] (.bool (linOK l))) (l:Lin) (nl cl:Bool) (ds:List Val) (hb:ds.length≤big) :
  Ret pg 34 [l.av,.sl nl (ds.map Val.av) cl] (.tup [.int .i64 (evalL ds l).1,.int .i64 (evalL ds l).2]):=by
 refine Ret.ofX hf ?_
 unfold cf34
 have hlb:=l.ts.ok
 have a1:=h54 l
 rw [Lin.avc] at a1
 simp only [go_sem,seval]
 refine XO_tree a1 (by simp only [go_sem,seval]) rfl ?_
 cases hx:linOK l
 ·simp only [go_sem,seval]
  simp [evalL,hx]
 have hev:evalL ds l=evalT ds l.c l.ts.es:=by simp [evalL,hx]
 rw [hev]
 simp only [go_sem,seval]
 refine XX_list l.ts.es (fun d r env hp=>∃ n:Int,env=cf34E1 (.sl nl (ds.map Val.av) cl) (.pt 1 0 0) (.int .i64 n) (.int .i64 d.length)∧hp.get 1=some (0,.blk [.int .i64 l.c,.sl l.ts.nl (l.ts.es.map Coef.av) l.ts.cl] 2 true true false)∧evalT ds l.c l.ts.es=evalT ds n r) ?_ ?_ ?_
 ·exact ⟨_,rfl,rfl,rfl⟩
 ·rintro env hp ⟨n,rfl,g1,hI⟩
  rw [hI]
  simp only [cf34L1,cf34E1,g1,ltSelf,evalT,go_sem,seval]
 ·rintro d c r env hp hes ⟨n,rfl,g1,hI⟩
  obtain ⟨hget,e1,e2,ew⟩:=loopF hes hlb
  rw [hI]
  clear hI
  simp only [cf34L1,cf34E1,g1,e1,e2,go_sem,seval]
  refine XX_list ds (fun d2 r2 env hp=>env=cf34E0 (.sl nl (ds.map Val.av) cl) (.pt 1 0 0) (.int .i64 n) (.int .i64 d.length) (.int .i64 d2.length)∧hp.get 1=some (0,.blk [.int .i64 l.c,.sl l.ts.nl (l.ts.es.map Coef.av) l.ts.cl] 2 true true false)∧valOf ds c.v.bs=valOf r2 c.v.bs) ?_ ?_ ?_
  ·exact ⟨rfl,g1,rfl⟩
  ·rintro env hp2 ⟨rfl,q1,hI⟩
   have hn:valOf ds c.v.bs=none:=by rw [hI];rfl
   rw [evalT_none hn]
   simp only [cf34L0,cf34E0,ltSelf,go_sem,seval]
   show _=true
   kernel_rfl
  ·rintro d2 v r2 env hp2 hes2 ⟨rfl,q1,hI⟩
   obtain ⟨hget2,f1,f2,fw⟩:=loopF hes2 hb
   cases b0:decide (v.v.bs=c.v.bs)
   case false=>
    simp only [cf34L0,cf34E0,q1,hget,hget2,e1,e2,f1,f2,b0,fw,go_sem,seval]
    refine ⟨by kernel_rfl,rfl,?_⟩
    rw [hI];simp [valOf,b0]
   case true=>
    have hs:valOf ds c.v.bs=some v:=by rw [hI];simp [valOf,b0]
    have hne:decide ((d2.length:Int)=(ds.length:Int))=false:=by
     have:=of_decide_eq_true f1
     simp;omega
    rw [evalT_some hs]
    simp only [cf34L0,cf34E0,q1,hget,hget2,e1,e2,f1,f2,b0,go_sem,seval]
    refine And.intro (by kernel_rfl) ?_
    simp only [hne,hget2,f2,go_sem,seval]
    cases b2:decide (v.n < -1000000000)
    case true=>
     simp only [b2,go_sem,seval]
    cases b3:decide (1000000000 < v.n)
    case true=>
     simp only [b2,b3,go_sem,seval]
    simp only [b2,b3,q1,hget,e2,ew,go_sem,seval]
    exact ⟨_,rfl,rfl⟩
end
end Go.Tev
end
section
namespace Go.Tev
theorem coef_same {x y:Coef} (h:coefEq x y=true):x.v.bs=y.v.bs∧x.c=y.c:=by
 simpa [coefEq] using h
theorem terms_same:∀ (a b:List Coef) (p q:List Coef),eqL coefEq a b=true→(p.getLast?.map fun c=>c.v.bs)=(q.getLast?.map fun c=>c.v.bs)→termsOK p a=termsOK q b
 | [],[],_,_,_,_=>rfl
 | [],_ :: _,_,_,h,_=>by simp [eqL] at h
 | _ :: _,[],_,_,h,_=>by simp [eqL] at h
 | x :: r,y :: s,p,q,h,hp=>by
  simp only [eqL,Bool.and_eq_true] at h
  obtain ⟨h1,h2⟩:=coef_same h.1
  have ih:=terms_same r s (p++[x]) (q++[y]) h.2 (by simp [h1])
  simp only [termsOK,h1,h2,ih]
  cases hp1:p.getLast?<;>cases hq1:q.getLast?<;>rw [hp1,hq1] at hp
  all_goals first | rfl | (simp at hp;done) | (simp at hp;simp only [hp])
theorem evalT_same (ds:List Val):∀ (a b:List Coef) (n:Int),eqL coefEq a b=true→evalT ds n a=evalT ds n b
 | [],[],_,_=>rfl
 | [],_ :: _,_,h=>by simp [eqL] at h
 | _ :: _,[],_,h=>by simp [eqL] at h
 | x :: r,y :: s,n,h=>by
  simp only [eqL,Bool.and_eq_true] at h
  obtain ⟨h1,h2⟩:=coef_same h.1
  simp only [evalT,h1,h2]
  cases valOf ds y.v.bs with
  | none=>rfl
  | some v=>
   simp only
   rw [evalT_same ds r s _ h.2]
theorem evalL_same (ds:List Val) {a b:Lin} (h:linEq a b=true):evalL ds a=evalL ds b:=by
 simp only [linEq,Bool.and_eq_true,decide_eq_true_eq] at h
 have hl:=eqL_len h.2
 simp only [evalL,linOK,h.1,terms_same _ _ [] [] h.2 rfl,hl,evalT_same ds _ _ _ h.2]
 rfl
theorem may_parts {k:Kernels} {at_ v:Int} (h:mayU k at_ v=true):0≤at_∧0≤v∧∃ (q:Kernel) (a b:Typ),k.list.es[at_.toNat]?=some q∧k.values.es[v.toNat]?=some a∧k.values.es[q.value.toNat]?=some b ∧
  (spanAt k v).2=at_∧typEq a b=true:=by
 simp only [mayU] at h
 split at h
 ·rename_i q a hq ha
  split at h
  ·rename_i b hb
   simp only [Bool.and_eq_true,decide_eq_true_eq,mayQ] at h
   exact ⟨h.1.1,h.1.2,q,a,b,hq,ha,hb,h.2.1.2.2.2,h.2.2.1⟩
  ·cases h
 ·cases h
theorem may_once {k:Kernels} {a b v:Int} (ha:mayU k a v=true) (hb:mayU k b v=true):a=b:=by
 obtain ⟨_,_,_,_,_,_,_,_,h1,_⟩:=may_parts ha
 obtain ⟨_,_,_,_,_,_,_,_,h2,_⟩:=may_parts hb
 exact h1.symm.trans h2
theorem may_result {k:Kernels} (ok:FuseOK k) {at_ v:Int} (h:mayU k at_ v=true):v ∉ k.results.es:=by
 intro hv
 obtain ⟨h0,h1,q,a,b,hq,ha,_,hs,_⟩:=may_parts h
 obtain ⟨i0,i1⟩:=ok.inp
 have hsl:=spansK_len (k:=k) (by omega)
 have hlt:v.toNat < k.values.es.length:=(List.getElem?_eq_some_iff.1 ha).1
 have hql:at_.toNat < k.list.es.length:=(List.getElem?_eq_some_iff.1 hq).1
 obtain ⟨s,hg⟩:∃ s,(spansK k)[v.toNat]?=some s:=⟨_,List.getElem?_eq_getElem (by omega)⟩
 have S:=(spEnd i0 hg).res
 have:s.2=(k.list.es.length:Int):=S.2 (List.mem_map.2 ⟨v,hv,rfl⟩)
 simp only [spanAt,hg,Option.getD_some] at hs
 omega
theorem firstV_may (f:Nat→Bool):∀ (n i:Nat),firstV f i n = -1∨∃ v:Nat,firstV f i n=v∧f v=true∧i≤v∧v < i+n
 | 0,i => .inl rfl
 | n+1,i=>by
  rw [firstV]
  by_cases h:f i
  ·rw [if_pos h]
   exact .inr ⟨i,rfl,h,by omega,by omega⟩
  ·rw [if_neg h]
   rcases firstV_may f n (i+1) with h | ⟨v,h1,h2,h3,h4⟩
   ·exact .inl h
   ·exact .inr ⟨v,h1,h2,by omega,by omega⟩
theorem choice_may {k:Kernels} {i:Nat} {c:Int} (h:(choicesU k)[i]?=some c):c = -1∨(0≤c∧c < k.values.es.length∧mayU k i c=true):=by
 simp only [choicesU,List.getElem?_map,Option.map_eq_some_iff] at h
 obtain ⟨j,hj,rfl⟩:=h
 have hij:j=i:=by
  obtain ⟨h1,h2⟩:=List.getElem?_eq_some_iff.1 hj
  simpa using h2.symm
 subst hij
 rcases firstV_may (fun v=>mayU k (j:Int) (v:Int)) k.values.es.length 0 with h | ⟨v,h1,h2,_,h4⟩
 ·exact .inl h
 ·refine .inr ?_
  rw [h1]
  exact ⟨by omega,by omega,h2⟩
theorem choices_once {k:Kernels} {i j:Nat} {c:Int} (hi:(choicesU k)[i]?=some c) (hj:(choicesU k)[j]?=some c) (h0:0≤c):i=j:=by
 rcases choice_may hi with h | ⟨_,_,h1⟩
 ·omega
 rcases choice_may hj with h | ⟨_,_,h2⟩
 ·omega
 have:=may_once h1 h2
 omega
end Go.Tev
end
section
namespace Go.Tev
def setM (l:List Int):List (AV × AV):=l.map fun v=>(.int .i64 v,.bool true)
theorem setM_cons (v:Int) (l:List Int):setM (v :: l)=(.int .i64 v,.bool true) :: setM l:=rfl
theorem eq1_int (x v:Int):eq1 (.int .i64 x) (.int .i64 v)=some (decide (x=v)):=by simp [eq1]
theorem mapFind_set (x:Int):∀ l:List Int,mapFind (setM l) (.int .i64 x)=some (if x∈l then some (.bool true) else none)
 | []=>rfl
 | v :: r=>by
  have ih:=mapFind_set x r
  rw [setM_cons,mapFind,eq1_int]
  by_cases h:x=v
  ·simp [h]
  ·rw [decide_eq_false h]
   simp [ih,h]
theorem mapSet_set (x:Int):∀ l:List Int,mapSet (setM l) (.int .i64 x) (.bool true)=setM (if x∈l then l else l++[x])
 | []=>rfl
 | v :: r=>by
  have ih:=mapSet_set x r
  rw [setM_cons,mapSet,eq1_int]
  by_cases h:x=v
  ·simp [h,setM_cons]
  ·rw [decide_eq_false h]
   by_cases h2:x∈r<;>simp [ih,h,h2,setM_cons]
end Go.Tev
end
section
namespace Go.Tev
theorem mayF_of {k:Kernels} {a v:Int} (hc:(fuseV k).2=0) (h:mayU k a v=true):mayF k a v=true:=by simp [mayF,hc,h]
theorem eqL_get {α β : Type} {q : α → β → Bool}:∀ {a:List α} {b:List β},eqL q a b=true→∀ (i:Nat) (x : α),a[i]?=some x→∃ y,b[i]?=some y∧q x y=true
 | [],[],_,i,x,h=>by simp at h
 | [],_ :: _,h,_,_,_=>by simp [eqL] at h
 | _ :: _,[],h,_,_,_=>by simp [eqL] at h
 | u :: r,w :: s,h,i,x,hx=>by
  simp only [eqL,Bool.and_eq_true] at h
  cases i with
  | zero=>simp at hx;subst hx;exact ⟨w,rfl,h.1⟩
  | succ i=>
   obtain ⟨y,h1,h2⟩:=eqL_get h.2 i x (by simpa using hx)
   exact ⟨y,by simpa using h1,h2⟩
section
variable {pg:Pg}
set_option maxHeartbeats 8000000 in
theorem c256 (hf:pg.fs 256=some cf256) (h259:Ret pg 259 [] (.bool true)) (k:Kernels) (h8:Ret pg 8 [k.av] (.bool (few8 k))) (h262:RetP pg 262 [k.av] (choR k))
  (h264:∀ at_ v:Int,Ret pg 264 [k.av,.int .i64 at_,.int .i64 v] (.bool (mayF k at_ v))) (nl cl:Bool) (ds:List Val) (hb:ds.length≤big)
  (h34:∀ l:Lin,Ret pg 34 [l.av,.sl nl (ds.map Val.av) cl] (.tup [.int .i64 (evalL ds l).1,.int .i64 (evalL ds l).2])) :
  Ret pg 256 [k.av,.sl nl (ds.map Val.av) cl] (.bool true):=by
 rw [Kernels.avc] at h8 h262 h264
 obtain ⟨r1,hr1,hs1⟩:=h262
 have hlen:(choicesU k).length=k.list.es.length:=choicesU_len k
 have hlb:=k.list.ok
 have hrb:=k.results.ok
 refine Ret.ofX hf ?_
 unfold cf256
 simp only [go_sem,seval]
 refine XO_tree h259 rfl rfl ?_
 simp only [go_sem,seval]
 refine XO_tree h8 (by simp only [go_sem,seval]) rfl ?_
 cases b1:few8 k
 ·simp only [go_sem,seval]
  refine XO_tree h259 rfl rfl ?_
  simp only [go_sem,seval]
 cases b2:decide (13 < (ds.length:Int))
 case true=>
  simp only [b2,go_sem,seval]
  refine XO_tree h259 rfl rfl ?_
  simp only [go_sem,seval]
 rcases fuse_code (k:=k) with hc | hc
 case inr=>
  rw [choR,if_neg (by omega)] at hs1
  subst hs1
  simp only [b2,go_sem,seval]
  refine XO_tree hr1 (by simp only [go_sem,seval]) rfl ?_
  simp only [go_sem,seval]
 have ok:=fuseOK_of hc
 rw [choR,if_pos hc] at hs1
 obtain ⟨n1,c1,_,rfl⟩:=hs1
 simp only [b2,go_sem,seval]
 refine XO_tree hr1 (by simp only [go_sem,seval]) (by first | rfl | simp [AV.tree,go_sem]) ?_
 simp only [go_sem,seval]
 refine XX_list k.results.es (fun d r env hp=>env=cf256E0 (.sl nl (ds.map Val.av) cl) (.pt 1 0 0) (.sl n1 ((choicesU k).map intA) c1) (.mp 21 0) (.sl k.results.nl (k.results.es.map intA) k.results.cl) (.int .i64 k.results.es.length) (.int .i64 d.length) ∧
  hp.get 1=some (0,.blk k.cells 6 true true false)∧∃ S:List Int,hp.get 21=some (0,.mpo (setM S))∧∀ x∈S,x∈k.results.es) ?_ ?_ ?_
 ·refine ⟨rfl,?_,[],?_,by simp⟩
  ·simp only [go_sem,seval]
   rfl
  ·simp only [go_sem,seval]
   rfl
 rotate_left
 ·rintro d x r env hp hes ⟨rfl,g1,S,g2,hS⟩
  have hb2:(d++x :: r).length≤big:=by rw [← hes];exact hrb
  have hw:=wr_mid hb2
  have hget:k.results.es[d.length]?=some x:=by rw [hes];simp
  have hx:x∈k.results.es:=by rw [hes];simp
  have e1:decide ((d.length:Int) < (k.results.es.length:Int))=true:=by rw [hes];simp;omega
  simp only [cf256L0,cf256E0,e1,hget,g2,mapFind_set,mapSet_set,hw,go_sem,seval]
  refine ⟨rfl,g1,_,rfl,fun y hy=>?_⟩
  split at hy
  ·exact hS y hy
  ·rcases List.mem_append.1 hy with h | h
   ·exact hS y h
   ·simp at h;subst h;exact hx
 rintro env hp ⟨rfl,g1,S0,g2,hS0⟩
 simp only [cf256L0,cf256E0,go_sem,seval]
 refine XX_list (choicesU k) (fun d r env hp=>env=cf256E2 (.sl nl (ds.map Val.av) cl) (.pt 1 0 0) (.mp 21 0) (.sl n1 ((choicesU k).map intA) c1) (.int .i64 (choicesU k).length) (.int .i64 d.length) ∧
  hp.get 1=some (0,.blk k.cells 6 true true false)∧∃ S:List Int,hp.get 21=some (0,.mpo (setM S))∧∀ x∈S,x∈k.results.es∨∃ j,j < d.length∧(choicesU k)[j]?=some x) ?_ ?_ ?_
 ·exact ⟨rfl,g1,S0,g2,fun x hx => .inl (hS0 x hx)⟩
 ·clear g1 g2 hS0 S0 hp
  rintro env hp ⟨rfl,g1,S,g2,hS⟩
  simp only [cf256L2,cf256E2,go_sem,seval]
 clear g1 g2 hS0 S0 hp
 rintro d v r env hp hes ⟨rfl,g1,S,g2,hS⟩
 have hb2:(d++v :: r).length≤big:=by rw [← hes,hlen];exact hlb
 have hw:=wr_mid hb2
 have hget:(choicesU k)[d.length]?=some v:=by rw [hes];simp
 have e1:decide ((d.length:Int) < ((choicesU k).length:Int))=true:=by rw [hes];simp;omega
 have hS':∀ S':List Int,(∀ x∈S',x∈S∨x=v)→∀ x∈S',x∈k.results.es∨∃ j,j < (d++[v]).length∧(choicesU k)[j]?=some x:=by
  intro S' h x hx
  rcases h x hx with h | rfl
  ·rcases hS x h with h | ⟨j,h1,h2⟩
   ·exact .inl h
   ·exact .inr ⟨j,by simp;omega,h2⟩
  ·exact .inr ⟨d.length,by simp,hget⟩
 cases b3:decide (v < 0)
 case true=>
  simp only [cf256L2,cf256E2,e1,hget,b3,hw,go_sem,seval]
  exact ⟨rfl,g1,S,g2,hS' S (fun x h => .inl h)⟩
 have hv0:0≤v:=by simpa using b3
 rcases choice_may hget with h | ⟨_,hv1,hm⟩
 ·omega
 have b4:decide ((k.values.es.length:Int)≤v)=false:=by simp;omega
 have hns:(v∈S)=False:=by
  refine eq_false fun h=>?_
  rcases hS v h with h | ⟨j,h1,h2⟩
  ·exact may_result ok hm h
  ·have:=choices_once h2 hget hv0
   omega
 obtain ⟨_,_,q,a,b,hq,ha,hbb,_,hty⟩:=may_parts hm
 rw [Int.toNat_natCast] at hq
 have hsplit:k.list.es=k.list.es.take d.length++q :: k.list.es.drop (d.length+1):=by
  obtain ⟨h1,h2⟩:=List.getElem?_eq_some_iff.1 hq
  rw [← h2,← List.drop_eq_getElem_cons h1,List.take_append_drop]
 obtain ⟨w1,w2,_⟩:=kernelOK_in (ok.ker _ _ _ hsplit)
 have hq0:(0≤q.value)=True:=eq_true (by have:=ok.inp;omega)
 have hv0':(0≤v)=True:=eq_true hv0
 have heq:eqL linEq a.shape.dims.es b.shape.dims.es=true:=by
  simp only [typEq,shapeEq,Bool.and_eq_true] at hty
  first | exact hty.2 | exact hty.2.2 | exact hty.1.2
 have hll:=eqL_len heq
 have hdb:=a.shape.dims.ok
 have b5:decide ((a.shape.dims.es.length:Int)=(b.shape.dims.es.length:Int))=true:=by simp [hll]
 have a264:=h264 d.length v
 rw [mayF_of hc hm] at a264
 have g1':=g1
 simp only [Kernels.cells,Sl.av] at g1
 clear hes h264 hsplit hty hm hr1
 simp only [cf256L2,cf256E2,e1,hget,b3,b4,g1,g2,mapFind_set,hns,go_sem,seval]
 refine XO_tree a264 (by simp only [go_sem,seval]) rfl ?_
 simp only [g1,g2,mapFind_set,mapSet_set,hns,ha,hbb,hq,hv0',hq0,b5,go_sem,seval]
 refine And.intro (by kernel_rfl) ?_
 try simp only [g1,g2,mapFind_set,mapSet_set,hns,ha,hbb,hq,hv0',hq0,b5,go_sem,seval]
 refine XX_list a.shape.dims.es (fun d2 r2 env hp=>env=cf256E1 (.sl nl (ds.map Val.av) cl) (.pt 1 0 0) (.mp 21 0) (.sl a.shape.dims.nl (a.shape.dims.es.map Lin.av) a.shape.dims.cl) (.sl b.shape.dims.nl (b.shape.dims.es.map Lin.av) b.shape.dims.cl) (.sl n1 ((choicesU k).map intA) c1) (.int .i64 (choicesU k).length) (.int .i64 d.length) (.int .i64 a.shape.dims.es.length) (.int .i64 d2.length) ∧
  hp.get 1=some (0,.blk k.cells 6 true true false)∧hp.get 21=some (0,.mpo (setM (S++[v])))) ?_ ?_ ?_
 ·refine ⟨rfl,?_,?_⟩
  ·simp only [go_sem,seval]
   exact g1'
  ·simp only [go_sem,seval]
 ·clear g1 g1' g2 hp
  rintro env hp ⟨rfl,g1,g2⟩
  simp only [cf256L1,cf256E1,hw,go_sem,seval]
  exact ⟨rfl,g1,S++[v],g2,hS' _ (fun x hx=>by simpa using hx)⟩
 ·clear g1 g1' g2 hp
  rintro d2 x r2 env hp hes2 ⟨rfl,g1,g2⟩
  have hb3:(d2++x :: r2).length≤big:=by rw [← hes2];exact hdb
  have hw2:=wr_mid hb3
  have hgx:a.shape.dims.es[d2.length]?=some x:=by rw [hes2];simp
  obtain ⟨y,hgy,hxy⟩:=eqL_get heq _ x hgx
  have f1:decide ((d2.length:Int) < (a.shape.dims.es.length:Int))=true:=by rw [hes2];simp;omega
  have a34:=h34 x
  have b34:=h34 y
  rw [← evalL_same ds hxy] at b34
  clear hes2 heq
  simp only [cf256L1,cf256E1,f1,hgx,go_sem,seval]
  refine XO_tree a34 (by simp only [go_sem,seval]) rfl ?_
  simp only [hgy,go_sem,seval]
  refine XO_tree b34 (by simp only [go_sem,seval]) rfl ?_
  simp only [hw2,go_sem,seval]
  exact ⟨rfl,g1,g2⟩
end
end Go.Tev
end
section
namespace Go.Tev
section
variable {pg:Pg}
theorem kok_hk {k:Kernels} (hk:KOK k):∀ q∈k.list.es,q.body.ok∧q.index.ok∧q.body.sz+q.index.sz+1≤big:=fun q hq=>by
 obtain ⟨h1,h2,_,_⟩:=hk.ks q hq
 have:=hk.sz q hq
 exact ⟨h1,h2,by omega⟩
structure CodeOnce (pg:Pg):Prop where
 f34:pg.fs 34=some cf34
 f54:pg.fs 54=some cf54
 f77:pg.fs 77=some cf77
 f90:pg.fs 90=some cf90
 f114:pg.fs 114=some cf114
 f115:pg.fs 115=some cf115
 f256:pg.fs 256=some cf256
 f260:pg.fs 260=some cf260
 f262:pg.fs 262=some cf262
 f264:pg.fs 264=some cf264
 f272:pg.fs 272=some cf272
 f273:pg.fs 273=some cf273
 f274:pg.fs 274=some cf274
 f275:pg.fs 275=some cf275
 f292:pg.fs 292=some cf292
 f293:pg.fs 293=some cf293
 f316:pg.fs 316=some cf316
theorem all256 (C:Go.Tev.Code pg) (N:CodeOnce pg) (A:Ora pg) (h259:Ret pg 259 [] (.bool true)) (k:Kernels) (hk:KOK k) (nl cl:Bool) (ds:List Val) (hb:ds.length≤big):Ret pg 256 [k.av,.sl nl (ds.map Val.av) cl] (.bool true):=by
 have h9:=all9 C A k hk
 have h275:FuseOK k→∀ (nl cl:Bool) (at_ v:Nat),at_ < k.list.es.length→v < k.values.es.length→Ret pg 275 [k.av,.sl nl ((spansK k).map spAV) cl,.int .i64 at_,.int .i64 v] (.bool (mayU k at_ v)):=
  fun ok nl cl at_ v h1 h2=>c275 N.f275 (c65 C.f65 (c104 C.f104 C.f67 C.f142 C.f106)) (fun p hp hs=>c48 (baseS_of A) C.f48 C.f74 p hp hs) (fun nl cl es hb v=>c293 N.f293 N.f316 nl cl es hb v)
   (fun v rank p hp=>c260 A N.f260 N.f272 N.f273 N.f274 N.f292 C.f108 v rank p hp) k ok (kok_hk hk) nl cl at_ v h1 h2
 have h77:∀ s:Str,Ret pg 77 [.str s.bs] (.bool (nameU s.bs)):=fun s=>c77 N.f77 N.f114 N.f115 s.bs s.ok
 have h54:∀ l:Lin,Ret pg 54 [l.av] (.bool (linOK l)):=c54 N.f54 h77 N.f90
 exact c256 N.f256 h259 k (all8 C k hk) (c262 N.f262 k h9 h275) (fun at_ v=>c264 N.f264 k h9 h275 at_ v) nl cl ds hb (fun l=>c34x N.f34 h54 l nl cl ds hb)
end
end Go.Tev
end
