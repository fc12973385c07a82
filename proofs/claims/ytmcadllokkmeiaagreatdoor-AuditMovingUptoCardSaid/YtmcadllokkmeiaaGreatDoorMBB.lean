import Derived.Test.YtmcadllokkmeiaaGreatDoorMBA
import Derived.Test.YtmcadllokkmeiaaGreatDoorMAX
import Derived.Test.YtmcadllokkmeiaaGreatDoorMAT
set_option linter.all false
section
namespace Go.Tev
section
variable{pg:Pg}
end
end Go.Tev
end
section
namespace Go.Tev
section
variable{pg:Pg}
end
end Go.Tev
end
section
namespace Go.Tev
theorem vS(sp:List Sp)(v x:Int)(n:Nat):(gQ sp v x)[n]?=(sp[n]?).map (fun s=>if v.toNat=n then (s.1,x) else s):=by
 simp only[gQ,List.getElem?_modify]
 split<;>simp[*]
theorem rD(sp:List Sp)(v x:Int)(n:Nat):(gC sp v x)[n]?=(sp[n]?).map (fun s=>if v.toNat=n then (x,s.2) else s):=by
 simp only[gC,List.getElem?_modify]
 split<;>simp[*]
theorem lW(i:Nat):∀(l:List Int)(sp:List Sp)(n:Nat),(cU sp i l)[n]?=(sp[n]?).map (fun s=>if n∈l.map Int.toNat then (s.1,(i:Int)) else s)
 |[],sp,n=>by simp[cU]
 |v::r,sp,n=>by
  have h:=lW i r (gQ sp v i) n
  simp only[cU,List.foldl_cons]at h ⊢
  rw[h,vS,Option.map_map]
  congr 1
  funext s
  simp only[Function.comp,List.map_cons,List.mem_cons]
  by_cases h1:v.toNat=n
  ·subst h1;simp
  ·have h2:¬n=v.toNat:=fun h=>h1 h.symm
   simp[h1,h2]
def uses(q:aE)(n:Nat):Prop:=n=q.value.toNat\/n∈(cM q).map Int.toNat
theorem BF(sp:List Sp)(i:Nat)(q:aE)(n:Nat)(s:Sp)(h:sp[n]?=some s) :
  ∃s',(kD sp i q)[n]?=some s'/\(s'.1=if n=q.value.toNat/\s.1 = -2 then (i:Int) else s.1)/\(uses q n->s'.2=i)/\(¬uses q n->s'.2=s.2):=by
 have hf:jN sp q.value = -2/\n=q.value.toNat->s.1 = -2:=by
  rintro⟨h1,rfl⟩
  simpa[jN,h] using h1
 have hf2:n=q.value.toNat->s.1 = -2->jN sp q.value = -2:=by
  rintro rfl h1
  simpa[jN,h] using h1
 simp only[kD,lW,vS]
 by_cases hv:n=q.value.toNat
 ·have hv':q.value.toNat=n:=hv.symm
  by_cases h1:s.1 = -2
  ·have h2:=hf2 hv h1
   simp only[h2,decide_true,if_true,rD,h,Option.map_some,hv']
   refine⟨_,rfl,?_,?_,?_⟩
   ·split<;>simp[h1,hv]
   ·intro _;split<;>rfl
   ·intro hn;exact absurd (.inl hv) hn
  ·have h2:¬jN sp q.value = -2:=fun h=>h1 (hf ⟨h,hv⟩)
   simp only[h2,decide_false,Bool.false_eq_true,if_false,h,Option.map_some,hv',if_true]
   refine⟨_,rfl,?_,?_,?_⟩
   ·split<;>simp[h1]
   ·intro _;split<;>rfl
   ·intro hn;exact absurd (.inl hv) hn
 ·have hv':¬q.value.toNat=n:=fun h=>hv h.symm
  have e:(if decide (jN sp q.value = -2)=true then gC sp q.value i else sp)[n]?=some s:=by
   split
   ·rw[rD,h,Option.map_some,if_neg hv']
   ·exact h
  simp only[e,Option.map_some,hv',if_false]
  refine⟨_,rfl,?_,?_,?_⟩
  ·split<;>simp[hv]
  ·rintro(hu|hu)
   ·exact absurd hu hv
   ·rw[if_pos hu]
  ·intro hn
   rw[if_neg (fun h=>hn (.inr h))]
theorem BH(V i n:Nat)(s:Sp)(h:(bU V i)[n]?=some s):(n<i/\s=(-1,-1))\/(i<=n/\s=(-2,-2)):=by
 simp only[bU]at h
 rcases Nat.lt_or_ge n i with h1|h1
 ·rw[List.getElem?_append_left (by simpa using h1),List.getElem?_replicate,if_pos h1]at h
  exact .inl ⟨h1,by cases h;rfl⟩
 ·rw[List.getElem?_append_right (by simpa using h1),List.getElem?_replicate]at h
  split at h
  ·exact .inr ⟨h1,by cases h;rfl⟩
  ·cases h
theorem lN.inp{k:aA}(ok:lN k):0<=k.inputs/\k.inputs<=k.values.es.length:=by
 have h:=ok.out
 simp only[bO,Bool.and_eq_true,decide_eq_true_eq]at h
 omega
theorem BE{k:aA}(n:Nat):(aF k)[n]?=((eU (bU k.values.es.length k.inputs.toNat) 0 k.list.es)[n]?).map (fun s=>if n∈k.results.es.map Int.toNat then (s.1,(k.list.es.length:Int)) else s):=by
 rw[aF,show kK=fun sp n l=>cU sp n l from rfl]
 exact lW _ _ _ _
end Go.Tev
end
section
namespace Go.Tev
end Go.Tev
end
section
namespace Go.Tev
def P3(v:Int)(i:Int)(l:List Int)(s:Sp):Sp:=if l.any (fun w=>decide (w=v)) then (s.1,i) else s
def SH(v:Int)(i:Int)(q:aE)(s:Sp):Sp:=if decide (q.value=v) then (if decide (s.1 = -2) then i else s.1,i) else s
def zI(v:Int)(i:Int)(q:aE)(s:Sp):Sp:=P3 v i (P4 q) (SH v i q s)
section
variable{pg:Pg}
end
end Go.Tev
end
section
namespace Go.Tev
section
variable{pg:Pg}
end
end Go.Tev
end
