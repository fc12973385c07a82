import Derived.Test.YtdpdokigjeaaiaaGreatDoorNIm
import Derived.Test.YtdpdokigjeaaiaaGreatDoorNGm
import Derived.Test.YtdpdokigjeaaiaaGreatDoorUAm
set_option linter.all false
section
namespace Go.Tev
section
variable {pg:Pg}
theorem c53 (hf:pg.fs 53=some cf53) (c:Coef) (v:Val):Ret pg 53 [v.av,.fp c.av] (.bool (decide (v.v.bs=c.v.bs))):=by
 refine Ret.ofX hf ?_
 unfold cf53
 simp only [go_sem,seval]
end
end Go.Tev
end
section
namespace Go.Tev
section
variable {pg:Pg}
end
end Go.Tev
end
section
namespace Go.Tev
structure EndInv (ins:Nat) (m:Nat) (n:Nat) (s:Sp):Prop where
 inp:n < ins→s.1 = -1 ∧ -1≤s.2
 own:ins≤n→s.1 = -2∨(0≤s.1∧s.1 < (m:Int))
 lo : -2≤s.2
 hi:s.2 < (m:Int)
theorem endInv_run {ins V:Nat}:∀ (d:List Kernel) (n:Nat) (s:Sp),(spRun (spInit V ins) 0 d)[n]?=some s→EndInv ins d.length n s:=by
 intro d
 induction hn:d.length generalizing d with
 | zero=>
  obtain rfl:=List.length_eq_zero_iff.1 hn
  intro n s h
  rw [spRun] at h
  rcases spInit_get V ins n s h with ⟨h1,rfl⟩ | ⟨h1,rfl⟩
  ·exact ⟨fun _=>by simp,fun h=>by omega,by simp,by simp⟩
  ·exact ⟨fun h=>by omega,fun _ => .inl rfl,by simp,by simp⟩
 | succ m ih=>
  obtain ⟨d',q,rfl⟩:∃ d' q,d=d'++[q]:=by
   rcases List.eq_nil_or_concat d with h | ⟨d',q,h⟩
   ·subst h;simp at hn
   ·exact ⟨d',q,by simpa using h⟩
  have hl:d'.length=m:=by simpa using hn
  intro n s h
  rw [spRun_snoc,Nat.zero_add] at h
  have hlt:n < (spRun (spInit V ins) 0 d').length:=by
   have:=(List.getElem?_eq_some_iff.1 h).1
   rwa [spStep_len] at this
  obtain ⟨s',h1,h2,h3,h4⟩:=spStep_get (spRun (spInit V ins) 0 d') d'.length q n _ (List.getElem?_eq_getElem hlt)
  rw [h] at h1
  cases h1
  have I:=ih d' hl n _ (List.getElem?_eq_getElem hlt)
  generalize (spRun (spInit V ins) 0 d')[n]=s0 at *
  rw [hl] at h2 h3
  have hs2:s.2=(m:Int)∨s.2=s0.2:=by
   by_cases hu:uses q n
   ·exact .inl (h3 hu)
   ·exact .inr (h4 hu)
  obtain ⟨i1,i2,i3,i4⟩:=I
  refine ⟨fun h=>?_,fun h=>?_,?_,?_⟩
  ·obtain ⟨a,b⟩:=i1 h
   rw [if_neg (by rintro ⟨_,c⟩;omega)] at h2
   exact ⟨by omega,by rcases hs2 with e | e<;>omega⟩
  ·have:=i2 h
   split at h2<;>omega
  ·rcases hs2 with e | e<;>omega
  ·rcases hs2 with e | e<;>omega
structure SpEnd (k:Kernels) (n:Nat) (s:Sp):Prop where
 fst:s.1 = -2∨(-1≤s.1∧s.1 < (k.list.es.length:Int)+1)
 snd : -2≤s.2∧s.2≤(k.list.es.length:Int)
 inp:(s.1 ≠ -2∧s.1 ≤ -1 ∧ -1≤s.2)↔(n:Int) < k.inputs
 res:s.2=(k.list.es.length:Int)↔n∈k.results.es.map Int.toNat
theorem spEnd {k:Kernels} (h0:0≤k.inputs) {n:Nat} {s:Sp} (h:(spansK k)[n]?=some s):SpEnd k n s:=by
 rw [spansK_get,Option.map_eq_some_iff] at h
 obtain ⟨s0,h1,h2⟩:=h
 have I:=endInv_run k.list.es n s0 h1
 obtain ⟨i1,i2,i3,i4⟩:=I
 have hfst:s.1=s0.1:=by rw [← h2];split<;>rfl
 have hsnd:(n∈k.results.es.map Int.toNat∧s.2=(k.list.es.length:Int))∨(n ∉ k.results.es.map Int.toNat∧s.2=s0.2):=by
  rw [← h2]
  split
  ·rename_i hh;exact .inl ⟨hh,rfl⟩
  ·rename_i hh;exact .inr ⟨hh,rfl⟩
 refine ⟨?_,?_,?_,?_⟩
 ·rcases Nat.lt_or_ge n k.inputs.toNat with c | c
  ·have:=i1 c;omega
  ·have:=i2 c;omega
 ·rcases hsnd with ⟨_,e⟩ | ⟨_,e⟩<;>omega
 ·constructor
  ·rintro ⟨a,b,c⟩
   rcases Nat.lt_or_ge n k.inputs.toNat with d | d
   ·omega
   ·have:=i2 d;omega
  ·intro hn
   have:=i1 (by omega)
   rcases hsnd with ⟨_,e⟩ | ⟨_,e⟩<;>omega
 ·rcases hsnd with ⟨a,e⟩ | ⟨a,e⟩
  ·exact ⟨fun _=>a,fun _=>e⟩
  ·exact ⟨fun h=>by omega,fun h=>absurd h a⟩
end Go.Tev
end
section
namespace Go.Tev
theorem mayU_of {k:Kernels} {at_ v:Nat} {q:Kernel} {a b:Typ} (hq:k.list.es[at_]?=some q) (ha:k.values.es[v]?=some a) (hb:k.values.es[q.value.toNat]?=some b):mayU k at_ v=mayQ k at_ v q a b:=by
 have h1:decide (0≤(at_:Int))=true:=by simp
 have h2:decide (0≤(v:Int))=true:=by simp
 simp only [mayU,Int.toNat_natCast,hq,ha,hb,h1,h2,Bool.true_and]
theorem spanAt_of {k:Kernels} {v:Int} {s:Sp} (h:(spansK k)[v.toNat]?=some s):spanAt k v=s:=by simp [spanAt,h]
structure MayIn (k:Kernels) (at_ v:Nat) (q:Kernel) (a b:Typ) (s1 s2:Sp):Prop where
 hq:k.list.es[at_]?=some q
 ha:k.values.es[v]?=some a
 hb:k.values.es[q.value.toNat]?=some b
 h1:(spansK k)[q.value.toNat]?=some s1
 h2:(spansK k)[v]?=some s2
 q0:0≤q.value
 f2 : -2≤s2.1
 mem:q∈k.list.es
theorem mayIn {k:Kernels} (ok:FuseOK k) {at_ v:Nat} (ha:at_ < k.list.es.length) (hv:v < k.values.es.length):∃ q a b s1 s2,MayIn k at_ v q a b s1 s2:=by
 obtain ⟨i0,i1⟩:=ok.inp
 have hsl:=spansK_len (k:=k) (by omega)
 have hg:k.list.es[at_]?=some k.list.es[at_]:=List.getElem?_eq_getElem ha
 have hsplit:k.list.es=k.list.es.take at_++k.list.es[at_] :: k.list.es.drop (at_+1):=by
  rw [← List.drop_eq_getElem_cons ha,List.take_append_drop]
 obtain ⟨w1,w2,_⟩:=kernelOK_in (ok.ker _ _ _ hsplit)
 have hs2:(spansK k)[v]?=some (spansK k)[v]:=List.getElem?_eq_getElem (by omega)
 have hE:=(spEnd i0 hs2).fst
 exact ⟨_,_,_,_,_,hg,List.getElem?_eq_getElem hv,List.getElem?_eq_getElem (by omega),List.getElem?_eq_getElem (by omega),hs2,by omega,by omega,List.getElem_mem ha⟩
section
variable {pg:Pg}
set_option maxHeartbeats 4000000 in
theorem c275 (hf:pg.fs 275=some cf275) (h65:∀ x y:Typ,Ret pg 65 [x.av,y.av] (.bool (typEq x y))) (h48:∀ p:Pull,p.ok→p.sz≤big→RetP pg 48 [p.av] (IsSl 1 false ((readsV p).map intA)))
  (h293:∀ (nl cl:Bool) (es:List Int),es.length≤big→∀ v:Int,Ret pg 293 [.sl nl (es.map intA) cl,.int .i64 v] (.bool (es.contains v)))
  (h260:∀ (v rank:Int) (p:Pull),p.ok→Ret pg 260 [p.av,.int .i64 v,.int .i64 rank] (.bool (ownU v rank p))) (k:Kernels) (ok:FuseOK k)
  (hk:∀ q∈k.list.es,q.body.ok∧q.index.ok∧q.body.sz+q.index.sz+1≤big) (nl cl:Bool) (at_ v:Nat) (hat:at_ < k.list.es.length) (hv:v < k.values.es.length) :
  Ret pg 275 [k.av,.sl nl ((spansK k).map spAV) cl,.int .i64 at_,.int .i64 v] (.bool (mayU k at_ v)):=by
 obtain ⟨q,a,b,s1,s2,M⟩:=mayIn ok hat hv
 obtain ⟨m1,m2,m3,m4,m5,m6,m7,m8⟩:=M
 obtain ⟨k1,k2,k3⟩:=hk q m8
 rw [mayU_of m1 m2 m3]
 simp only [mayQ,spanAt_of m4,spanAt_of (v:=(v:Int)) (by simpa using m5)]
 have a65:=h65 a b
 have a48:=h48 q.body k1 (by omega)
 have b48:=h48 q.index k2 (by omega)
 have l1:=readsV_len q.body
 have l2:=readsV_len q.index
 have a260:=h260 v b.shape.dims.es.length q.body k1
 have m6':(0≤q.value)=True:=eq_true m6
 rw [Pull.avc] at a48 b48 a260
 clear h65 h48 h260 hk ok m7 m8 k1 k2
 refine Ret.ofX hf ?_
 unfold cf275
 cases b1:decide ((v:Int)=q.value)
 case true=>
  simp only [m1,m2,m3,m4,m5,m6',b1,spAV,go_sem,seval]
  first | kernel_rfl | (refine And.intro (by kernel_rfl) ?_;simp only [go_sem,seval])
 cases b2:decide (s1.1=(at_:Int))
 case false=>
  simp only [m1,m2,m3,m4,m5,m6',b1,b2,spAV,go_sem,seval]
  first | kernel_rfl | (refine And.intro (by kernel_rfl) ?_;simp only [go_sem,seval])
 cases b3:decide (s2.1 = -2)
 case true=>
  simp only [m1,m2,m3,m4,m5,m6',b1,b2,b3,spAV,go_sem,seval]
  first | kernel_rfl | (refine And.intro (by kernel_rfl) ?_;simp only [go_sem,seval])
 cases b4:decide (s2.2=(at_:Int))
 case false=>
  simp only [m1,m2,m3,m4,m5,m6',b1,b2,b3,b4,spAV,go_sem,seval]
  first | kernel_rfl | (refine And.intro (by kernel_rfl) ?_;simp only [go_sem,seval])
 simp only [m1,m2,m3,m4,m5,m6',b1,b2,b3,b4,spAV,go_sem,seval]
 refine XO_tree a65 (by simp only [go_sem,seval]) rfl ?_
 cases b5:typEq a b
 case false=>
  simp only [go_sem,seval]
  first | kernel_rfl | (refine And.intro (by kernel_rfl) ?_;simp only [go_sem,seval])
 simp only [go_sem,seval]
 refine And.intro (by kernel_rfl) ?_
 by_cases h6:q.kind=3
 ·have b6:decide (q.kind=3)=true:=decide_eq_true h6
  rw [if_pos h6]
  cases b7:decide ((v:Int)=q.source)
  case false=>
   simp only [b6,b7,go_sem,seval]
  simp only [b6,b7,go_sem,seval]
  refine XO_sl a48 (by simp only [go_sem,seval]) ?_
  intro nl1 cl1 _
  simp only [go_sem,seval]
  refine XO_tree (h293 nl1 cl1 _ (by omega) v) (by simp only [go_sem,seval]) rfl ?_
  cases b8:(readsV q.body).contains (v:Int)
  case true=>
   simp only [go_sem,seval]
  simp only [go_sem,seval]
  refine XO_sl b48 (by simp only [go_sem,seval]) ?_
  intro nl2 cl2 _
  simp only [go_sem,seval]
  refine XO_tree (h293 nl2 cl2 _ (by omega) v) (by simp only [go_sem,seval]) rfl ?_
  simp only [go_sem,seval]
 ·have b6:decide (q.kind=3)=false:=decide_eq_false h6
  rw [if_neg h6]
  simp only [b6,m3,m6',go_sem,seval]
  refine XO_tree a260 (by simp only [go_sem,seval]) rfl ?_
  simp only [go_sem,seval]
  first | kernel_rfl | (refine And.intro (by kernel_rfl) ?_;simp only [go_sem,seval])
set_option maxHeartbeats 4000000 in
theorem c276 (hf:pg.fs 276=some cf276) (h88:∀ x y:Typ,Ret pg 88 [x.av,y.av] (.bool (typEq x y))) (h294:∀ p:Pull,p.ok→p.sz≤big→∀ v:Int,Ret pg 294 [p.av,.int .i64 v] (.bool ((readsV p).contains v)))
  (h261:∀ (v rank:Int) (p:Pull),p.ok→Ret pg 261 [p.av,.int .i64 v,.int .i64 rank] (.bool (ownU v rank p))) (k:Kernels) (ok:FuseOK k)
  (hk:∀ q∈k.list.es,q.body.ok∧q.index.ok∧q.body.sz+q.index.sz+1≤big) (nl cl:Bool) (at_ v:Nat) (hat:at_ < k.list.es.length) (hv:v < k.values.es.length) :
  Ret pg 276 [k.av,.sl nl ((spansK k).map spAV) cl,.int .i64 at_,.int .i64 v] (.bool (mayU k at_ v)):=by
 obtain ⟨q,a,b,s1,s2,M⟩:=mayIn ok hat hv
 obtain ⟨m1,m2,m3,m4,m5,m6,m7,m8⟩:=M
 obtain ⟨k1,k2,k3⟩:=hk q m8
 rw [mayU_of m1 m2 m3]
 simp only [mayQ,spanAt_of m4,spanAt_of (v:=(v:Int)) (by simpa using m5)]
 have a88:=h88 a b
 have a294:=h294 q.body k1 (by omega) v
 have b294:=h294 q.index k2 (by omega) v
 have a261:=h261 v b.shape.dims.es.length q.body k1
 have m6':(0≤q.value)=True:=eq_true m6
 have b3':decide (s2.1 < -1)=decide (s2.1 = -2):=by rw [decide_eq_decide];omega
 rw [Pull.avc] at a294 b294 a261
 clear h88 h294 h261 hk ok m7 m8 k1 k2
 refine Ret.ofX hf ?_
 unfold cf276
 cases b1:decide ((v:Int)=q.value)
 case true=>
  simp only [m1,m2,m3,m4,m5,m6',b1,spAV,go_sem,seval]
 cases b2:decide (s1.1=(at_:Int))
 case false=>
  simp only [m1,m2,m3,m4,m5,m6',b1,b2,spAV,go_sem,seval]
 cases b3:decide (s2.1 = -2)
 case true=>
  rw [b3] at b3'
  simp only [m1,m2,m3,m4,m5,m6',b1,b2,b3',spAV,go_sem,seval]
 rw [b3] at b3'
 cases b4:decide (s2.2=(at_:Int))
 case false=>
  simp only [m1,m2,m3,m4,m5,m6',b1,b2,b3',b4,spAV,go_sem,seval]
 simp only [m1,m2,m3,m4,m5,m6',b1,b2,b3',b4,spAV,go_sem,seval]
 refine XO_tree a88 (by simp only [go_sem,seval]) rfl ?_
 cases b5:typEq a b
 case false=>
  simp only [go_sem,seval]
  first | kernel_rfl | (refine And.intro (by kernel_rfl) ?_;simp only [go_sem,seval])
 simp only [go_sem,seval]
 refine And.intro (by kernel_rfl) ?_
 by_cases h6:q.kind=3
 ·have b6:decide (q.kind=3)=true:=decide_eq_true h6
  rw [if_pos h6]
  cases b7:decide ((v:Int)=q.source)
  case false=>
   simp only [b6,b7,go_sem,seval]
  simp only [b6,b7,go_sem,seval]
  refine XO_tree a294 (by simp only [go_sem,seval]) rfl ?_
  cases b8:(readsV q.body).contains (v:Int)
  case true=>
   simp only [go_sem,seval]
  simp only [go_sem,seval]
  refine XO_tree b294 (by simp only [go_sem,seval]) rfl ?_
  simp only [go_sem,seval]
 ·have b6:decide (q.kind=3)=false:=decide_eq_false h6
  rw [if_neg h6]
  simp only [b6,m3,m6',go_sem,seval]
  refine XO_tree a261 (by simp only [go_sem,seval]) rfl ?_
  simp only [go_sem,seval]
  first | kernel_rfl | (refine And.intro (by kernel_rfl) ?_;simp only [go_sem,seval])
end
end Go.Tev
end
section
namespace Go.Tev
def mayF (k:Kernels) (at_ v:Int):Bool:=decide ((fuseV k).2=0)&&mayU k at_ v
theorem mayU_out {k:Kernels} {at_ v:Int} (h:¬ (0≤at_∧at_ < k.list.es.length∧0≤v∧v < k.values.es.length)):mayU k at_ v=false:=by
 cases hm:mayU k at_ v with
 | false=>rfl
 | true=>
  simp only [mayU] at hm
  split at hm
  ·rename_i q a hq ha
   split at hm
   ·simp only [Bool.and_eq_true,decide_eq_true_eq] at hm
    have h1:=(List.getElem?_eq_some_iff.1 hq).1
    have h2:=(List.getElem?_eq_some_iff.1 ha).1
    exact absurd ⟨hm.1.1,by omega,hm.1.2,by omega⟩ h
   ·cases hm
  ·cases hm
section
variable {pg:Pg}
theorem treeL_spans (l:List Sp):treeL (l.map spAV)=true:=treeL_map (f:=spAV) (fun s=>by simp [spAV,go_sem]) _
attribute [go_sem] treeL_spans
set_option maxHeartbeats 4000000 in
theorem c264 (hf:pg.fs 264=some cf264) (k:Kernels) (h9:RetP pg 9 [k.av] (spansR k))
  (h275:FuseOK k→∀ (nl cl:Bool) (at_ v:Nat),at_ < k.list.es.length→v < k.values.es.length→Ret pg 275 [k.av,.sl nl ((spansK k).map spAV) cl,.int .i64 at_,.int .i64 v] (.bool (mayU k at_ v)))
  (at_ v:Int):Ret pg 264 [k.av,.int .i64 at_,.int .i64 v] (.bool (mayF k at_ v)):=by
 obtain ⟨r9,hr9,hs9⟩:=h9
 rw [Kernels.avc] at hr9
 refine Ret.ofX hf ?_
 unfold cf264
 rcases fuse_code (k:=k) with hc | hc
 case inr=>
  rw [spansR,if_neg (by omega)] at hs9
  subst hs9
  have:mayF k at_ v=false:=by simp [mayF,hc]
  rw [this]
  simp only [go_sem,seval]
  refine XO_tree hr9 (by simp only [go_sem,seval]) rfl ?_
  simp only [go_sem,seval]
 have ok:=fuseOK_of hc
 rw [spansR,if_pos hc] at hs9
 subst hs9
 have hm:mayF k at_ v=mayU k at_ v:=by simp [mayF,hc]
 rw [hm]
 simp only [go_sem,seval]
 refine XO_tree hr9 (by simp only [go_sem,seval]) (by first | rfl | simp [AV.tree,treeL_spans]) ?_
 cases b1:decide (0≤at_)
 case false=>
  rw [mayU_out (by simp at b1;omega)]
  simp only [b1,go_sem,seval]
 cases b2:decide (at_ < (k.list.es.length:Int))
 case false=>
  rw [mayU_out (by simp at b2;omega)]
  simp only [b1,b2,go_sem,seval]
 cases b3:decide (0≤v)
 case false=>
  rw [mayU_out (by simp at b3;omega)]
  simp only [b1,b2,b3,go_sem,seval]
 cases b4:decide (v < (k.values.es.length:Int))
 case false=>
  rw [mayU_out (by simp at b4;omega)]
  simp only [b1,b2,b3,b4,go_sem,seval]
 obtain ⟨n,rfl⟩:∃ n:Nat,at_=n:=⟨at_.toNat,by simp at b1;omega⟩
 obtain ⟨m,rfl⟩:∃ m:Nat,v=m:=⟨v.toNat,by simp at b3;omega⟩
 have h:=h275 ok false false n m (by simp at b2;omega) (by simp at b4;omega)
 rw [Kernels.avc] at h
 simp only [b1,b2,b3,b4,go_sem,seval]
 refine XO_tree h (by simp only [go_sem,seval]) rfl ?_
 simp only [go_sem,seval]
set_option maxHeartbeats 4000000 in
theorem c265 (hf:pg.fs 265=some cf265) (k:Kernels) (h10:RetP pg 10 [k.av] (spansRR k))
  (h276:FuseOK k→∀ (nl cl:Bool) (at_ v:Nat),at_ < k.list.es.length→v < k.values.es.length→Ret pg 276 [k.av,.sl nl ((spansK k).map spAV) cl,.int .i64 at_,.int .i64 v] (.bool (mayU k at_ v)))
  (at_ v:Int):Ret pg 265 [k.av,.int .i64 at_,.int .i64 v] (.bool (mayF k at_ v)):=by
 obtain ⟨r10,hr10,hs10⟩:=h10
 rw [Kernels.avc] at hr10
 refine Ret.ofX hf ?_
 unfold cf265
 rcases fuse_code (k:=k) with hc | hc
 case inr=>
  rw [spansRR,if_neg (by omega)] at hs10
  subst hs10
  have:mayF k at_ v=false:=by simp [mayF,hc]
  rw [this]
  simp only [go_sem,seval]
  refine XO_tree hr10 (by simp only [go_sem,seval]) rfl ?_
  simp only [go_sem,seval]
 have ok:=fuseOK_of hc
 rw [spansRR,if_pos hc] at hs10
 obtain ⟨nl,cl,rfl⟩:=hs10
 have hm:mayF k at_ v=mayU k at_ v:=by simp [mayF,hc]
 rw [hm]
 simp only [go_sem,seval]
 refine XO_tree hr10 (by simp only [go_sem,seval]) (by first | rfl | simp [AV.tree,treeL_spans]) ?_
 cases b1:decide (0≤at_)
 case false=>
  rw [mayU_out (by simp at b1;omega)]
  simp only [b1,go_sem,seval]
 cases b2:decide (at_ < (k.list.es.length:Int))
 case false=>
  rw [mayU_out (by simp at b2;omega)]
  simp only [b1,b2,go_sem,seval]
 cases b3:decide (0≤v)
 case false=>
  rw [mayU_out (by simp at b3;omega)]
  simp only [b1,b2,b3,go_sem,seval]
 cases b4:decide (v < (k.values.es.length:Int))
 case false=>
  rw [mayU_out (by simp at b4;omega)]
  simp only [b1,b2,b3,b4,go_sem,seval]
 obtain ⟨n,rfl⟩:∃ n:Nat,at_=n:=⟨at_.toNat,by simp at b1;omega⟩
 obtain ⟨m,rfl⟩:∃ m:Nat,v=m:=⟨v.toNat,by simp at b3;omega⟩
 have h:=h276 ok nl cl n m (by simp at b2;omega) (by simp at b4;omega)
 rw [Kernels.avc] at h
 simp only [b1,b2,b3,b4,go_sem,seval]
 refine XO_tree h (by simp only [go_sem,seval]) rfl ?_
 simp only [go_sem,seval]
end
end Go.Tev
end
section
namespace Go.Tev
def choR (k:Kernels) (r:AV):Prop:=
 if (fuseV k).2=0 then ∃ nl cl,(nl=true→choicesU k=[])∧r = .tup [.sl nl ((choicesU k).map intA) cl,.int .i64 0] else r = .tup [.sl true [] true,.int .i64 22]
def choice (k:Kernels) (i:Nat):Int:=firstV (fun v=>mayU k (i:Int) (v:Int)) 0 k.values.es.length
def choices (k:Kernels) (n:Nat):List Int:=(List.range n).map (choice k)
theorem choices_eq (k:Kernels):choicesU k=choices k k.list.es.length:=rfl
theorem choices_snoc (k:Kernels) (n:Nat):choices k (n+1)=choices k n++[choice k n]:=by simp [choices,List.range_succ]
theorem choices_len (k:Kernels) (n:Nat):(choices k n).length=n:=by simp [choices]
section
variable {pg:Pg}
set_option maxHeartbeats 8000000 in
theorem c262 (hf:pg.fs 262=some cf262) (k:Kernels) (h9:RetP pg 9 [k.av] (spansR k))
  (h275:FuseOK k→∀ (nl cl:Bool) (at_ v:Nat),at_ < k.list.es.length→v < k.values.es.length→Ret pg 275 [k.av,.sl nl ((spansK k).map spAV) cl,.int .i64 at_,.int .i64 v] (.bool (mayU k at_ v))) :
  RetP pg 262 [k.av] (choR k):=by
 obtain ⟨r9,hr9,hs9⟩:=h9
 rw [Kernels.avc] at hr9
 refine RetP.ofX hf ?_
 unfold cf262
 rcases fuse_code (k:=k) with hc | hc
 case inr=>
  rw [spansR,if_neg (by omega)] at hs9
  subst hs9
  simp only [go_sem,seval]
  refine XO_tree hr9 (by simp only [go_sem,seval]) rfl ?_
  simp only [go_sem,seval]
  rw [choR,if_neg (by omega)]
 have ok:=fuseOK_of hc
 rw [spansR,if_pos hc] at hs9
 subst hs9
 have hlb:=k.list.ok
 have hvb:=k.values.ok
 simp only [go_sem,seval]
 refine XO_tree hr9 (by simp only [go_sem,seval]) (by first | rfl | simp [AV.tree,treeL_spans]) ?_
 simp only [go_sem,seval]
 refine XX_list k.list.es (fun d r env hp=>∃ v,env=cf262E1 (.pt 1 0 0) (.sl false ((spansK k).map spAV) false) v (.int .i64 k.list.es.length) (.int .i64 d.length) ∧
  hp.get 1=some (0,.blk k.cells 6 true true false)∧Own hp 13 1 false v ((choices k d.length).map intA)) ?_ ?_ ?_
 ·refine ⟨_,rfl,?_,Own.nil _ _ _ _ _ _ rfl⟩
  simp only [go_sem,seval]
  rfl
 ·rintro env hp ⟨v,rfl,g1,ho⟩
  simp only [cf262L1,cf262E1,go_sem,seval]
  rw [← choices_eq] at ho
  have hfin:∀ r,(∃ nl cl,(nl=true→choicesU k=[])∧r = .tup [.sl nl ((choicesU k).map intA) cl,.int .i64 0])→choR k r:=by
   intro r hr
   rw [choR,if_pos hc]
   exact hr
  obtain ⟨nl,cl,keys,hsn,hnl⟩:=ho.snap (El.ints _) 61
  rcases ho with ⟨he,nl',cl',rfl,_⟩ | ⟨e,cs,rfl,hg,hu⟩
  ·rw [List.map_eq_nil_iff] at he
   rw [he] at hfin
   simp only [go_sem,seval]
   exact hfin _ ⟨nl',cl',fun _=>rfl,rfl⟩
  ·simp only [List.length_map] at hsn
   simp only [Tev.conv,depth,snapX,mapS_nil,mapS_cons,↓hsn,go_sem,List.length_map]
   exact hfin _ ⟨_,_,fun h=>by simpa using hnl h,rfl⟩
 ·rintro d q r env hp hes ⟨v,rfl,g1,ho⟩
  have hlt:d.length < k.list.es.length:=by rw [hes];simp
  have hb2:(d++q :: r).length≤big:=by rw [← hes];exact hlb
  have hw:=wr_mid hb2
  have e1:decide ((d.length:Int) < (k.list.es.length:Int))=true:=by simp;omega
  have g1':=g1
  simp only [Kernels.cells,Sl.av] at g1
  have hdl:d.length+1≤1073741824:=by simp only [big] at hb2;simp at hb2;omega
  have hsno:=choices_snoc k d.length
  have h275':=h275 ok false false d.length
  rw [Kernels.avc] at h275'
  clear hes h275 hlb
  simp only [cf262L1,cf262E1,e1,g1,go_sem,seval]
  refine XX_list (List.range k.values.es.length) (fun d2 r2 env hp=>env=cf262E0 (.pt 1 0 0) (.sl false ((spansK k).map spAV) false) v (.int .i64 d.length) (.int .i64 (-1)) (.int .i64 k.list.es.length) (.int .i64 d.length) (.int .i64 k.values.es.length) (.int .i64 d2.length) ∧
   hp.get 1=some (0,.blk k.cells 6 true true false)∧Own hp 13 1 false v ((choices k d.length).map intA)∧choice k d.length=firstV (fun v=>mayU k (d.length:Int) (v:Int)) d2.length r2.length) ?_ ?_ ?_
  ·exact ⟨rfl,g1',ho,by rw [List.length_range];rfl⟩
  ·clear ho g1 g1' hp
   rintro env hp ⟨rfl,g1,ho,hI⟩
   rw [List.length_range]
   simp only [cf262L0,cf262E0,go_sem,seval]
   refine XO_own (kb:=0) (s:=13) ho (El.ints _) (xs:=[.int .i64 (-1)]) (by intro y hy;simp at hy;subst hy;exact ⟨rfl,rfl,rfl⟩) (by simp only [List.length_map,choices_len,List.length_singleton];omega) (by decide) ?_
   intro v' rd pa ho2 hk2 _
   simp only [hw,go_sem,seval]
   refine ⟨v',rfl,by rw [hk2 1 (by omega)];exact g1,?_⟩
   rw [List.length_append,List.length_singleton,hsno,hI]
   simpa [firstV,intA_eq] using ho2
  ·clear ho g1 g1' hp
   rintro d2 x r2 env hp hes2 ⟨rfl,g1,ho,hI⟩
   obtain ⟨rfl,hlt2⟩:=range_mid hes2
   have hb3:(d2++d2.length :: r2).length≤big:=by rw [← hes2];simp;omega
   have hw2:=wr_mid hb3
   have f1:decide ((d2.length:Int) < (k.values.es.length:Int))=true:=by simp;omega
   have g1':=g1
   simp only [Kernels.cells,Sl.av] at g1
   have a275:=h275' d2.length hlt hlt2
   have hcons:choice k d.length=if mayU k (d.length:Int) (d2.length:Int) then (d2.length:Int) else firstV (fun v=>mayU k (d.length:Int) (v:Int)) (d2.length+1) r2.length:=by
    rw [hI];rfl
   clear h275' hes2 hI
   simp only [cf262L0,cf262E0,f1,g1,go_sem,seval]
   refine XO_tree a275 (by simp only [go_sem,seval]) rfl ?_
   cases b1:mayU k (d.length:Int) (d2.length:Int)
   ·rw [b1] at hcons
    simp only [hw2,go_sem,seval]
    exact ⟨rfl,g1',ho,by simpa using hcons⟩
   ·rw [b1,if_pos rfl] at hcons
    simp only [go_sem,seval]
    refine XO_own (kb:=0) (s:=13) (ho.mono ?_) (El.ints _) (xs:=[.int .i64 d2.length]) (by intro y hy;simp at hy;subst hy;exact ⟨rfl,rfl,rfl⟩) (by simp only [List.length_map,choices_len,List.length_singleton];omega) (by decide) ?_
    ·simp only [go_sem,seval]
    intro v' rd pa ho2 hk2 _
    simp only [hw,go_sem,seval]
    refine ⟨v',rfl,?_,?_⟩
    ·rw [hk2 1 (by omega)]
     first | exact g1' | (simp only [go_sem,seval];exact g1')
    ·rw [List.length_append,List.length_singleton,hsno,hcons]
     simpa [intA_eq] using ho2
theorem lastDown_choice (k:Kernels) (i:Nat):lastDown (fun v=>mayU k (i:Int) (v:Int)) k.values.es.length (-1)=choice k i:=choice_eq _ _
set_option maxHeartbeats 8000000 in
theorem c263 (hf:pg.fs 263=some cf263) (k:Kernels) (h10:RetP pg 10 [k.av] (spansRR k))
  (h276:FuseOK k→∀ (nl cl:Bool) (at_ v:Nat),at_ < k.list.es.length→v < k.values.es.length→Ret pg 276 [k.av,.sl nl ((spansK k).map spAV) cl,.int .i64 at_,.int .i64 v] (.bool (mayU k at_ v))) :
  RetP pg 263 [k.av] (choR k):=by
 obtain ⟨r10,hr10,hs10⟩:=h10
 rw [Kernels.avc] at hr10
 refine RetP.ofX hf ?_
 unfold cf263
 rcases fuse_code (k:=k) with hc | hc
 case inr=>
  rw [spansRR,if_neg (by omega)] at hs10
  subst hs10
  simp only [go_sem,seval]
  refine XO_tree hr10 (by simp only [go_sem,seval]) rfl ?_
  simp only [go_sem,seval]
  rw [choR,if_neg (by omega)]
 have ok:=fuseOK_of hc
 rw [spansRR,if_pos hc] at hs10
 obtain ⟨nl0,cl0,rfl⟩:=hs10
 have hlb:=k.list.ok
 have hvb:=k.values.ok
 simp only [go_sem,seval]
 refine XO_tree hr10 (by simp only [go_sem,seval]) (by first | rfl | simp [AV.tree,treeL_spans]) ?_
 simp only [go_sem,seval]
 refine XX_list k.list.es (fun d r env hp=>∃ v,env=cf263E1 (.pt 1 0 0) (.sl nl0 ((spansK k).map spAV) cl0) v (.int .i64 d.length) ∧
  hp.get 1=some (0,.blk k.cells 6 true true false)∧Own hp 13 1 false v ((choices k d.length).map intA)) ?_ ?_ ?_
 ·refine ⟨_,rfl,?_,Own.nil _ _ _ _ _ _ rfl⟩
  simp only [go_sem,seval]
  rfl
 ·rintro env hp ⟨v,rfl,g1,ho⟩
  simp only [Kernels.cells,Sl.av] at g1
  simp only [cf263L1,cf263E1,g1,go_sem,seval]
  rw [← choices_eq] at ho
  have hfin:∀ r,(∃ nl cl,(nl=true→choicesU k=[])∧r = .tup [.sl nl ((choicesU k).map intA) cl,.int .i64 0])→choR k r:=by
   intro r hr
   rw [choR,if_pos hc]
   exact hr
  obtain ⟨nl,cl,keys,hsn,hnl⟩:=ho.snap (El.ints _) 61
  rcases ho with ⟨he,nl',cl',rfl,_⟩ | ⟨e,cs,rfl,hg,hu⟩
  ·rw [List.map_eq_nil_iff] at he
   rw [he] at hfin
   simp only [go_sem,seval]
   exact hfin _ ⟨nl',cl',fun _=>rfl,rfl⟩
  ·simp only [List.length_map] at hsn
   simp only [Tev.conv,depth,snapX,mapS_nil,mapS_cons,↓hsn,go_sem,List.length_map]
   exact hfin _ ⟨_,_,fun h=>by simpa using hnl h,rfl⟩
 ·rintro d q r env hp hes ⟨v,rfl,g1,ho⟩
  have hlt:d.length < k.list.es.length:=by rw [hes];simp
  have hb2:(d++q :: r).length≤big:=by rw [← hes];exact hlb
  have hw:=wr_mid hb2
  have e1:decide ((d.length:Int) < (k.list.es.length:Int))=true:=by simp;omega
  have g1':=g1
  simp only [Kernels.cells,Sl.av] at g1
  have hdl:d.length+1≤1073741824:=by simp only [big] at hb2;simp at hb2;omega
  have hsno:=choices_snoc k d.length
  have h276':=h276 ok nl0 cl0 d.length
  rw [Kernels.avc] at h276'
  have hs0:wr .i64 ((k.values.es.length:Int) - 1)=(k.values.es.length:Int) - 1:=wr_small (by omega) (by simp only [big] at hvb;omega)
  clear hes h276 hlb
  simp only [cf263L1,cf263E1,e1,g1,hs0,go_sem,seval]
  refine XX_list (List.range k.values.es.length) (fun d2 r2 env hp=>∃ c:Int,env=cf263E0 (.pt 1 0 0) (.sl nl0 ((spansK k).map spAV) cl0) v (.int .i64 d.length) (.int .i64 c) (.int .i64 ((k.values.es.length:Int) - 1 - d2.length)) ∧
   hp.get 1=some (0,.blk k.cells 6 true true false)∧Own hp 13 1 false v ((choices k d.length).map intA)∧choice k d.length=lastDown (fun v=>mayU k (d.length:Int) (v:Int)) r2.length c) ?_ ?_ ?_
  ·exact ⟨-1,by simp only [List.length_nil,Int.natCast_zero,Int.sub_zero];rfl,g1',ho,by rw [List.length_range,lastDown_choice]⟩
  ·clear ho g1 g1' hp
   rintro env hp ⟨c,rfl,g1,ho,hI⟩
   rw [List.length_range]
   have f1:decide (0≤(k.values.es.length:Int) - 1 - k.values.es.length)=false:=by simp;omega
   simp only [cf263L0,cf263E0,f1,go_sem,seval]
   refine XO_own (kb:=0) (s:=13) ho (El.ints _) (xs:=[.int .i64 c]) (by intro y hy;simp at hy;subst hy;exact ⟨rfl,rfl,rfl⟩) (by simp only [List.length_map,choices_len,List.length_singleton];omega) (by decide) ?_
   intro v' rd pa ho2 hk2 _
   simp only [hw,go_sem,seval]
   refine ⟨v',rfl,by rw [hk2 1 (by omega)];exact g1,?_⟩
   rw [List.length_append,List.length_singleton,hsno,hI]
   simpa [lastDown,intA_eq] using ho2
  ·clear ho g1 g1' hp
   rintro d2 x r2 env hp hes2 ⟨c,rfl,g1,ho,hI⟩
   obtain ⟨rfl,hlt2⟩:=range_mid hes2
   have hrl:r2.length+d2.length+1=k.values.es.length:=by have:=congrArg List.length hes2;simp at this;omega
   have f1:decide (0≤(k.values.es.length:Int) - 1 - d2.length)=true:=by simp;omega
   have hval:(k.values.es.length:Int) - 1 - d2.length=(r2.length:Int):=by omega
   have g1':=g1
   simp only [Kernels.cells,Sl.av] at g1
   have a276:=h276' r2.length hlt (by omega)
   have hcons:choice k d.length=lastDown (fun v=>mayU k (d.length:Int) (v:Int)) r2.length (if mayU k (d.length:Int) (r2.length:Int) then (r2.length:Int) else c):=by
    rw [hI];rfl
   have hs1:wr .i64 ((r2.length:Int) - 1)=(k.values.es.length:Int) - 1 - ((d2++[d2.length]).length:Int):=by
    rw [wr_small (by omega) (by simp only [big] at hvb;omega)]
    simp;omega
   rw [hval]
   rw [hval] at f1
   clear h276' hes2 hI
   simp only [cf263L0,cf263E0,f1,g1,go_sem,seval]
   refine XO_tree a276 (by simp only [go_sem,seval]) rfl ?_
   cases b1:mayU k (d.length:Int) (r2.length:Int)
   ·rw [b1] at hcons
    simp only [hs1,go_sem,seval]
    exact ⟨c,rfl,g1',ho,by simpa using hcons⟩
   ·rw [b1,if_pos rfl] at hcons
    simp only [hs1,go_sem,seval]
    exact ⟨r2.length,rfl,g1',ho,hcons⟩
end
end Go.Tev
end
