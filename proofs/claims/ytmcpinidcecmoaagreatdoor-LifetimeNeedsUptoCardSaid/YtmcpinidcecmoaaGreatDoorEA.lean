import Derived.Test.YtmcpinidcecmoaaGreatDoorNI
import Derived.Test.YtmcpinidcecmoaaGreatDoorNG
set_option linter.all false
section
namespace Go.Tev
section
variable {pg:Pg}
theorem c53 (hf:pg.fs 53=some cf53) (c:Coef) (v:Val):Ret pg 53 [v.av,.fp c.av] (.bool (decide (v.v.bs=c.v.bs))):=by
 refine Ret.ofX hf ?_
 unfold cf53
 simp only [go_sem,seval]
theorem mx2 (a b:Int):(foldA max2 (.int .i64 a) [.int .i64 b]).bind val=val (.int .i64 (if a < b then b else a)):=by simp [foldA,max2]
theorem mn2 (a b:Int):(foldA min2 (.int .i64 a) [.int .i64 b]).bind val=val (.int .i64 (if b < a then b else a)):=by simp [foldA,min2]
def capI (a n:Int):Int:=if 1099511627776 < wr .i64 (n*(if a < 0 then 0 else a)) then 1099511627776 else wr .i64 (n*(if a < 0 then 0 else a))
end
end Go.Tev
end
section
namespace Go.Tev
def sizesL (f:Typ→Int):List Sp→List Typ→List Int
 | s :: r,t :: q=>(if s.1 = -2 then 0 else f t) :: sizesL f r q
 | _,_=>[]
theorem snap_int {h:Hp} {k e:Nat} {l:List Int} {t:Bool} (hg:h.get k=some (e,.blk (l.map intA) 1 false t false)) (d:Nat):Tev.snap (d+2) h (.rf k e 0 l.length l.length)=some (.sl false (l.map intA) t,[k]):=by
 obtain ⟨cs',h1,h2,h3,h4⟩:=chunk_el (El.ints l)
 rw [unchunk_ints] at h1
 cases h1
 have h5:=h4 []
 rw [List.append_nil,List.length_map] at h5
 have h6:mapS (Tev.snap (d+1) h) (l.map intA)=some (l.map intA,[]):=mapS_tree d h (intA_treeL l)
 rw [snapX]
 simp [hg,h5,h6,AV.tree]
theorem sizesL_len (f:Typ→Int):∀ (d:List Sp) (vs:List Typ),d.length≤vs.length→(sizesL f d vs).length=d.length
 | [],_,_=>by simp [sizesL]
 | s :: r,t :: q,h=>by simp [sizesL,sizesL_len f r q (by simpa using h)]
 | s :: r,[],h=>by simp at h
theorem sizesL_snoc (f:Typ→Int) (s:Sp):∀ (d:List Sp) (vs:List Typ) (t:Typ),vs[d.length]?=some t→sizesL f (d++[s]) vs=sizesL f d vs++[if s.1 = -2 then 0 else f t]
 | [],[],_,h=>by simp at h
 | [],t' :: q,t,h=>by simp at h;subst h;simp [sizesL]
 | s' :: r,t' :: q,t,h=>by
  have:=sizesL_snoc f s r q t (by simpa using h)
  simp [sizesL,this]
 | _ :: _,[],_,h=>by simp at h
def padL (f:Typ→Int) (d:List Sp) (vs:List Typ):List Int:=sizesL f d vs++List.replicate (vs.length - d.length) 0
theorem padL_len (f:Typ→Int) (d:List Sp) (vs:List Typ) (h:d.length≤vs.length):(padL f d vs).length=vs.length:=by
 simp only [padL,List.length_append,List.length_replicate,sizesL_len f d vs h];omega
theorem padL_skip (f:Typ→Int) (s:Sp) (d:List Sp) (vs:List Typ) (t:Typ) (ht:vs[d.length]?=some t) (hs:s.1 = -2):padL f (d++[s]) vs=padL f d vs:=by
 have hl:=(List.getElem?_eq_some_iff.1 ht).1
 obtain ⟨m,hm⟩:∃ m,vs.length - d.length=m+1:=⟨vs.length - d.length - 1,by omega⟩
 have hm2:vs.length - (d++[s]).length=m:=by simp;omega
 simp only [padL,sizesL_snoc f s d vs t ht,hm,hm2,if_pos hs,List.append_assoc,List.replicate_succ,List.singleton_append]
theorem padL_set (f:Typ→Int) (s:Sp) (d:List Sp) (vs:List Typ) (t:Typ) (ht:vs[d.length]?=some t) (hs:¬ s.1 = -2) :
  (padL f (d++[s]) vs).map intA=List.take d.length ((padL f d vs).map intA)++[.int .i64 (f t)]++List.drop (d.length+1) ((padL f d vs).map intA):=by
 have hl:=(List.getElem?_eq_some_iff.1 ht).1
 obtain ⟨m,hm⟩:∃ m,vs.length - d.length=m+1:=⟨vs.length - d.length - 1,by omega⟩
 have hm2:vs.length - (d++[s]).length=m:=by simp;omega
 have hA:=sizesL_len f d vs (by omega)
 simp only [padL,sizesL_snoc f s d vs t ht,hm,hm2,if_neg hs,List.replicate_succ,List.map_append,List.map_cons,List.map_nil]
 rw [List.take_append_of_le_length (by simp [hA]),List.drop_append,List.take_of_length_le (by simp [hA]),List.drop_of_length_le (by simp [hA])]
 simp [hA,intA]
section
variable {pg:Pg}
end
end Go.Tev
end
section
namespace Go.Tev
structure EndInv (ins:Nat) (m:Nat) (n:Nat) (s:Sp):Prop where
 inp:n < ins→s.1 = -1 ∧ -1≤s.2
 own:ins≤n→s.1 = -2∨(0≤s.1∧s.1 < (m:Int))
 lo : -2≤s.2
 hi:s.2 < (m:Int)
theorem endInv_run {ins V:Nat}:∀ (d:List Kernel) (n:Nat) (s:Sp),(spRun (spInit V ins) 0 d)[n]?=some s→EndInv ins d.length n s:=by
 intro d
 induction hn:d.length generalizing d with
 | zero=>
  obtain rfl:=List.length_eq_zero_iff.1 hn
  intro n s h
  rw [spRun] at h
  rcases spInit_get V ins n s h with ⟨h1,rfl⟩ | ⟨h1,rfl⟩
  ·exact ⟨fun _=>by simp,fun h=>by omega,by simp,by simp⟩
  ·exact ⟨fun h=>by omega,fun _ => .inl rfl,by simp,by simp⟩
 | succ m ih=>
  obtain ⟨d',q,rfl⟩:∃ d' q,d=d'++[q]:=by
   rcases List.eq_nil_or_concat d with h | ⟨d',q,h⟩
   ·subst h;simp at hn
   ·exact ⟨d',q,by simpa using h⟩
  have hl:d'.length=m:=by simpa using hn
  intro n s h
  rw [spRun_snoc,Nat.zero_add] at h
  have hlt:n < (spRun (spInit V ins) 0 d').length:=by
   have:=(List.getElem?_eq_some_iff.1 h).1
   rwa [spStep_len] at this
  obtain ⟨s',h1,h2,h3,h4⟩:=spStep_get (spRun (spInit V ins) 0 d') d'.length q n _ (List.getElem?_eq_getElem hlt)
  rw [h] at h1
  cases h1
  have I:=ih d' hl n _ (List.getElem?_eq_getElem hlt)
  generalize (spRun (spInit V ins) 0 d')[n]=s0 at *
  rw [hl] at h2 h3
  have hs2:s.2=(m:Int)∨s.2=s0.2:=by
   by_cases hu:uses q n
   ·exact .inl (h3 hu)
   ·exact .inr (h4 hu)
  obtain ⟨i1,i2,i3,i4⟩:=I
  refine ⟨fun h=>?_,fun h=>?_,?_,?_⟩
  ·obtain ⟨a,b⟩:=i1 h
   rw [if_neg (by rintro ⟨_,c⟩;omega)] at h2
   exact ⟨by omega,by rcases hs2 with e | e<;>omega⟩
  ·have:=i2 h
   split at h2<;>omega
  ·rcases hs2 with e | e<;>omega
  ·rcases hs2 with e | e<;>omega
structure SpEnd (k:Kernels) (n:Nat) (s:Sp):Prop where
 fst:s.1 = -2∨(-1≤s.1∧s.1 < (k.list.es.length:Int)+1)
 snd : -2≤s.2∧s.2≤(k.list.es.length:Int)
 inp:(s.1 ≠ -2∧s.1 ≤ -1 ∧ -1≤s.2)↔(n:Int) < k.inputs
 res:s.2=(k.list.es.length:Int)↔n∈k.results.es.map Int.toNat
theorem spEnd {k:Kernels} (h0:0≤k.inputs) {n:Nat} {s:Sp} (h:(spansK k)[n]?=some s):SpEnd k n s:=by
 rw [spansK_get,Option.map_eq_some_iff] at h
 obtain ⟨s0,h1,h2⟩:=h
 have I:=endInv_run k.list.es n s0 h1
 obtain ⟨i1,i2,i3,i4⟩:=I
 have hfst:s.1=s0.1:=by rw [← h2];split<;>rfl
 have hsnd:(n∈k.results.es.map Int.toNat∧s.2=(k.list.es.length:Int))∨(n ∉ k.results.es.map Int.toNat∧s.2=s0.2):=by
  rw [← h2]
  split
  ·rename_i hh;exact .inl ⟨hh,rfl⟩
  ·rename_i hh;exact .inr ⟨hh,rfl⟩
 refine ⟨?_,?_,?_,?_⟩
 ·rcases Nat.lt_or_ge n k.inputs.toNat with c | c
  ·have:=i1 c;omega
  ·have:=i2 c;omega
 ·rcases hsnd with ⟨_,e⟩ | ⟨_,e⟩<;>omega
 ·constructor
  ·rintro ⟨a,b,c⟩
   rcases Nat.lt_or_ge n k.inputs.toNat with d | d
   ·omega
   ·have:=i2 d;omega
  ·intro hn
   have:=i1 (by omega)
   rcases hsnd with ⟨_,e⟩ | ⟨_,e⟩<;>omega
 ·rcases hsnd with ⟨a,e⟩ | ⟨a,e⟩
  ·exact ⟨fun _=>a,fun _=>e⟩
  ·exact ⟨fun h=>by omega,fun h=>absurd h a⟩
def addS (s:Sp) (n:Int) (i:Nat) (L:List Int):List Int:=L.mapIdx fun j a=>if s.1+1≤(j:Int)∧(j:Int) < s.1+1+i then wr .i64 (a+n) else a
def lenS (s:Sp):Nat:=if s.1 = -2 then 0 else (s.2 - s.1+1).toNat
def needZ (zs:List (Sp × Int)) (L:List Int):List Int:=zs.foldl (fun L p=>addS p.1 p.2 (lenS p.1) L) L
theorem needZ_snoc (d:List (Sp × Int)) (p:Sp × Int) (L:List Int):needZ (d++[p]) L=addS p.1 p.2 (lenS p.1) (needZ d L):=by simp [needZ]
theorem addS_len (s:Sp) (n:Int) (i:Nat) (L:List Int):(addS s n i L).length=L.length:=by simp [addS]
theorem needZ_len:∀ (d:List (Sp × Int)) (L:List Int),(needZ d L).length=L.length
 | [],L=>rfl
 | p :: r,L=>by
  have:=needZ_len r (addS p.1 p.2 (lenS p.1) L)
  rw [addS_len] at this
  simpa [needZ] using this
theorem addS_zero (s:Sp) (n:Int) (L:List Int):addS s n 0 L=L:=by
 apply List.ext_getElem?
 intro j
 simp only [addS,List.getElem?_mapIdx]
 cases L[j]? with
 | none=>rfl
 | some a=>simp;omega
theorem addS_at (s:Sp) (n:Int) (i:Nat) (L:List Int) {p:Nat} (hp:(p:Int)=s.1+1+i):(addS s n i L)[p]?=L[p]?:=by
 simp only [addS,List.getElem?_mapIdx]
 cases L[p]? with
 | none=>rfl
 | some a=>simp;omega
theorem addS_set (s:Sp) (n:Int) (i:Nat) (L:List Int) {p:Nat} {a:Int} (hp:(p:Int)=s.1+1+i) (ha:L[p]?=some a):(addS s n i L).set p (wr .i64 (a+n))=addS s n (i+1) L:=by
 apply List.ext_getElem?
 intro j
 have hl:=(List.getElem?_eq_some_iff.1 ha).1
 rw [List.getElem?_set]
 by_cases hj:p=j
 ·subst hj
  rw [if_pos rfl,if_pos (by rw [addS_len];exact hl)]
  simp only [addS,List.getElem?_mapIdx,ha,Option.map_some]
  rw [if_pos (by omega)]
 ·rw [if_neg hj]
  simp only [addS,List.getElem?_mapIdx]
  cases L[j]? with
  | none=>rfl
  | some b=>
   simp only [Option.map_some,Option.some.injEq]
   have:(s.1+1≤(j:Int)∧(j:Int) < s.1+1+i)↔(s.1+1≤(j:Int)∧(j:Int) < s.1+1+((i+1:Nat):Int)):=by omega
   simp only [this]
def sumAt (j:Nat):List (Sp × Int)→Int→Int
 | [],a=>a
 | p :: r,a=>sumAt j r (if isLive ((j:Int) - 1) p.1 then wr .i64 (a+p.2) else a)
theorem needZ_get (j:Nat):∀ (zs:List (Sp × Int)) (L:List Int) (a:Int),L[j]?=some a→(needZ zs L)[j]?=some (sumAt j zs a)
 | [],L,a,h=>h
 | p :: r,L,a,h=>by
  have h2:(addS p.1 p.2 (lenS p.1) L)[j]?=some (if isLive ((j:Int) - 1) p.1 then wr .i64 (a+p.2) else a):=by
   simp only [addS,List.getElem?_mapIdx,h,Option.map_some,Option.some.injEq]
   have:(p.1.1+1≤(j:Int)∧(j:Int) < p.1.1+1+(lenS p.1:Nat))↔isLive ((j:Int) - 1) p.1=true:=by
    simp only [isLive,lenS,Bool.and_eq_true,Bool.not_eq_true',decide_eq_true_eq,decide_eq_false_iff_not]
    split<;>omega
   simp only [this]
  have:=needZ_get j r _ _ h2
  simpa [needZ,sumAt] using this
end Go.Tev
end
section
namespace Go.Tev
def needsR (f:Typ→Int) (k:Kernels) (e:Int) (r:AV):Prop:=
 if e=0 then r = .tup [.sl false ((needZ ((spansK k).zip (sizesL f (spansK k) k.values.es)) (List.replicate (k.list.es.length+2) 0)).map intA) true,.int .i64 0] else r = .tup [.sl true [] true,.int .i64 e]
def sizesE (f:Typ→Int) (k:Kernels) (e:Int) (r:AV):Prop:=
 if e=0 then (fuseV k).2=0∧r = .tup [.sl false ((sizesL f (spansK k) k.values.es).map intA) true,.int .i64 0] else r = .tup [.sl true [] true,.int .i64 e]
section
variable {pg:Pg}
theorem c18 (hf:pg.fs 18=some cf18) (k:Kernels) (h9:RetP pg 9 [k.av] (spansR k)) (nl cl:Bool) (ds:List Val) (f:Typ→Int) (e:Int) (r16:AV)
  (h16:Ret pg 16 [k.av,.sl nl (ds.map Val.av) cl] r16) (hs16:sizesE f k e r16) :
  RetP pg 18 [k.av,.sl nl (ds.map Val.av) cl] (needsR f k e):=by
 obtain ⟨r9,hr9,hs9⟩:=h9
 refine RetP.ofX hf ?_
 unfold cf18
 simp only [Kernels.av,Kernels.cells,go_sem,seval]
 by_cases he:e=0
 ·subst he
  rw [sizesE,if_pos rfl] at hs16
  obtain ⟨hc,rfl⟩:=hs16
  have ok:=fuseOK_of hc
  have hso:=ok.out
  simp only [outsideOK,Bool.and_eq_true,decide_eq_true_eq] at hso
  obtain ⟨_,⟨⟨⟨⟨⟨⟨_,_⟩,hi0⟩,_⟩,hiV⟩,_⟩,_⟩,_⟩:=hso
  have hsl:=spansK_len (k:=k) (by omega)
  have hVb:=k.values.ok
  have hLb:=k.list.ok
  have htr:treeL ((spansK k).map spAV)=true:=treeL_map (f:=spAV) (fun s=>by simp [spAV,go_sem]) _
  have htr2:treeL ((sizesL f (spansK k) k.values.es).map intA)=true:=intA_treeL _
  have hEnd:∀ (n:Nat) (s:Sp),(spansK k)[n]?=some s→SpEnd k n s:=fun n s h=>spEnd hi0 h
  have hzl:=sizesL_len f (spansK k) k.values.es (by omega)
  obtain ⟨zs,hz,hz1,hz2⟩:∃ zs:List (Sp × Int),zs=(spansK k).zip (sizesL f (spansK k) k.values.es)∧spansK k=zs.map (·.1)∧sizesL f (spansK k) k.values.es=zs.map (·.2):=
   ⟨_,rfl,by rw [List.map_fst_zip (by omega)],by rw [List.map_snd_zip (by omega)]⟩
  rw [spansR,if_pos hc] at hs9
  subst hs9
  refine XO_tree h16 (by simp only [Kernels.av,Kernels.cells,go_sem,seval]) (by first | rfl | (simp [AV.tree,htr2])) ?_
  simp only [go_sem,seval]
  refine XO_tree hr9 (by simp only [Kernels.av,Kernels.cells,go_sem,seval]) (by first | rfl | (simp [AV.tree,htr])) ?_
  have hLb':k.list.es.length≤16777216:=hLb
  obtain ⟨m,hm⟩:∃ m:Nat,m=k.list.es.length+2:=⟨_,rfl⟩
  have hw2:wr .i64 ((k.list.es.length:Int)+2)=(m:Int):=by rw [wr_small (by omega) (by omega)];omega
  have hm30:((m:Int)≤1073741824)=True:=eq_true (by omega)
  have hm0:((m:Int) < 0)=False:=eq_false (by omega)
  have hL0:(List.replicate m [AV.int .i64 0]).flatten=(List.replicate m (0:Int)).map intA:=by simp [intA]
  simp only [hw2,hm30,hm0,hL0,go_sem,seval]
  have hspl:(spansK k).length=zs.length:=by rw [hz1,List.length_map]
  have hzsL:treeL (zs.map fun p=>spAV p.1)=true:=treeL_map (f:=fun p:Sp × Int=>spAV p.1) (fun s=>by simp [spAV,go_sem]) _
  have hfin:∀ r,r = .tup [.sl false ((needZ zs (List.replicate m 0)).map intA) true,.int .i64 0]→needsR f k 0 r:=by
   intro r hr
   rw [needsR,if_pos rfl,← hm,← hz]
   exact hr
  rw [hspl]
  have hsp2:(spansK k).map spAV=zs.map fun p=>spAV p.1:=by rw [hz1,List.map_map];rfl
  have hEnd2:∀ (n:Nat) (p:Sp × Int),zs[n]?=some p→SpEnd k n p.1:=fun n p h=>hEnd n p.1 (by rw [hz1,List.getElem?_map,h];rfl)
  have hsi2:(sizesL f (spansK k) k.values.es).map intA=zs.map fun p=>intA p.2:=by rw [hz2,List.map_map];rfl
  rw [hsp2,hsi2]
  refine XX_list zs (fun d r env hp=>env=cf18E1 (.sl false (zs.map fun p=>intA p.2) true) (.rf 13 0 0 m m) (.sl false (zs.map fun p=>spAV p.1) false) (.int .i64 zs.length) (.int .i64 d.length) ∧
   hp.get 13=some (0,.blk ((needZ d (List.replicate m 0)).map intA) 1 false true false)) ?_ ?_ ?_
  ·refine ⟨rfl,?_⟩
   simp only [go_sem,seval]
   rfl
  ·rintro env hp ⟨rfl,g2⟩
   have hsn:=snap_int g2 61
   rw [needZ_len,List.length_replicate] at hsn
   simp only [cf18L1,cf18E1,go_sem,seval]
   simp only [Tev.conv,depth,snapX,mapS_nil,mapS_cons,↓hsn,go_sem]
   exact hfin _ rfl
  ·rintro d x r env hp hes ⟨rfl,g2⟩
   have hsb:(d++x :: r).length≤big:=by rw [← hes,← hspl,hsl];exact hVb
   have hget:zs[d.length]?=some x:=by rw [hes];simp
   have hlt:d.length < zs.length:=by rw [hes];simp
   have S:=hEnd2 _ _ hget
   have e1:decide ((d.length:Int) < (zs.length:Int))=true:=by simp;omega
   have e2:((d.length:Int) < (zs.length:Int))=True:=eq_true (by omega)
   obtain ⟨L,hL⟩:∃ L,L=needZ d (List.replicate m 0):=⟨_,rfl⟩
   have hLl:L.length=m:=by rw [hL,needZ_len,List.length_replicate]
   rw [← hL] at g2
   simp only [cf18L1,cf18E1,e1,e2,hget,spAV,go_sem,seval]
   generalize hE:Hp.next hp 17=E
   refine XX_list (List.range (lenS x.1)) (fun d2 r2 env hp=>env=cf18E0 (.sl false (zs.map fun p=>intA p.2) true) (.rf 13 0 0 m m) (.int .i64 d.length) (.pt 17 E 0) (.int .i64 (x.1.1+d2.length)) (.sl false (zs.map fun p=>spAV p.1) false) (.int .i64 zs.length) (.int .i64 d.length) ∧
    hp.get 17=some (E,.blk [.int .i64 x.1.1,.int .i64 x.1.2] 2 true true false)∧hp.get 13=some (0,.blk ((addS x.1 x.2 d2.length L).map intA) 1 false true false)) ?_ ?_ ?_
   ·have e0:x.1.1+((([]:List Nat).length:Nat):Int)=x.1.1:=by simp
    refine ⟨?_,?_,?_⟩
    ·rw [e0];rfl
    ·simp only [go_sem,seval]
    ·simp only [go_sem,seval]
     rw [g2]
     simp [addS_zero]
   ·clear hE hp g2
    rintro env hp ⟨rfl,g1,g3⟩
    rw [List.length_range] at g3 ⊢
    have hex:x.1.1 = -2∨¬ (x.1.1+(lenS x.1:Nat)≤x.1.2):=by
     simp only [lenS];split<;>omega
    have hnz:needZ (d++[x]) (List.replicate m 0)=addS x.1 x.2 (lenS x.1) L:=by rw [needZ_snoc,hL]
    rw [hnz]
    simp only [cf18L0,cf18E0,g1,go_sem,seval]
    cases b1:decide (x.1.1+(lenS x.1:Nat)≤x.1.2)
    case false=>
     simp only [b1,wr_mid hsb,go_sem,seval]
     exact ⟨rfl,g3⟩
    case true=>
     have b2:decide (x.1.1 = -2)=true:=by
      have:=of_decide_eq_true b1
      rcases hex with h | h
      ·exact decide_eq_true h
      ·exact absurd this h
     simp only [b1,b2,g1,wr_mid hsb,go_sem,seval]
     exact ⟨rfl,g3⟩
   ·clear hE hp g2
    rintro d2 y r2 env hp hes2 ⟨rfl,g1,g3⟩
    have hd2:d2.length < lenS x.1:=by
     have:=congrArg List.length hes2
     simp at this;omega
    have hne:¬ x.1.1 = -2:=by intro h;simp [lenS,h] at hd2
    have hle:x.1.1+(d2.length:Int)≤x.1.2:=by simp only [lenS,if_neg hne] at hd2;omega
    have hf1:=S.fst
    have hs2:=S.snd
    obtain ⟨p,hp1⟩:∃ p:Nat,(p:Int)=x.1.1+1+d2.length:=⟨(x.1.1+1+d2.length).toNat,by omega⟩
    have hpm:p < m:=by omega
    obtain ⟨a,ha⟩:∃ a,L[p]?=some a:=⟨_,List.getElem?_eq_getElem (by omega)⟩
    have e9:x.1.1+((d2++[y]).length:Int)=(p:Int):=by simp;omega
    have hwr:wr .i64 (x.1.1+(d2.length:Int)+1)=(p:Int):=by rw [wr_small (by omega) (by omega)];omega
    have b1:decide (x.1.1+(d2.length:Int)≤x.1.2)=true:=decide_eq_true hle
    have b2:decide (x.1.1 = -2)=false:=decide_eq_false hne
    have hp2:((p:Int) < (m:Int))=True:=eq_true (by omega)
    have hp0:(0≤(p:Int))=True:=eq_true (by omega)
    have hld:(addS x.1 x.2 d2.length L)[0+p*1]?=some a:=by rw [Nat.zero_add,Nat.mul_one,addS_at _ _ _ _ hp1];exact ha
    have hal:(addS x.1 x.2 d2.length L).length=m:=by rw [addS_len,hLl]
    have hle2:(0+p*1+1≤(addS x.1 x.2 d2.length L).length)=True:=eq_true (by rw [hal];omega)
    have hst:List.take (0+p*1) ((addS x.1 x.2 d2.length L).map intA)++[.int .i64 (wr .i64 (a+x.2))]++List.drop (0+p*1+1) ((addS x.1 x.2 d2.length L).map intA)=(addS x.1 x.2 (d2++[y]).length L).map intA:=by
     have hd3:(d2++[y]).length=d2.length+1:=by simp
     rw [hd3,← addS_set x.1 x.2 d2.length L hp1 ha,Nat.zero_add,Nat.mul_one,set_at1 _ (by rw [List.length_map,hal];exact hpm),List.map_set]
     rfl
    rw [e9]
    simp only [cf18L0,cf18E0,g1,b1,b2,hwr,hp2,hp0,hld,g3,hget,e2,hle2,hst,go_sem,seval]
    exact ⟨by kernel_rfl,rfl⟩
 ·rw [sizesE,if_neg he] at hs16
  subst hs16
  refine XO_tree h16 (by simp only [Kernels.av,Kernels.cells,go_sem,seval]) rfl ?_
  have he':decide (e=0)=false:=decide_eq_false he
  simp only [he',go_sem,seval]
  rw [needsR,if_neg he]
end
end Go.Tev
end
section
namespace Go.Tev
theorem sumAt_snoc (j:Nat) (p:Sp × Int):∀ (d:List (Sp × Int)) (a:Int),sumAt j (d++[p]) a=if isLive ((j:Int) - 1) p.1 then wr .i64 (sumAt j d a+p.2) else sumAt j d a
 | [],a=>rfl
 | q :: r,a=>by simp only [List.cons_append,sumAt];exact sumAt_snoc j p r _
section
variable {pg:Pg}
end
end Go.Tev
end
