import Derived.Test.YtdpdokigjeaaiaaGreatDoorNGn
set_option linter.all false
section
namespace Go.Tev
def putI (x:Int):List Int→List Int
 | []=>[x]
 | y :: r=>if decide (y < x) then y :: putI x r else if decide (y=x) then y :: r else x :: y :: r
theorem mem_putI {x a:Int}:∀ l:List Int,a∈putI x l↔a=x∨a∈l
 | []=>by simp [putI]
 | y :: r=>by
  simp only [putI]
  split
  ·simp only [List.mem_cons,mem_putI r]
   constructor<;>(intro h;rcases h with h | h | h<;>simp [h])
  ·split
   ·rename_i h;simp at h;subst h;simp
   ·simp
theorem putI_len (x:Int):∀ l:List Int,(putI x l).length≤l.length+1
 | []=>by simp [putI]
 | y :: r=>by
  have:=putI_len x r
  simp only [putI]
  split
  ·simp;omega
  ·split<;>simp
def IsL (l:List Int) (r:AV):Prop:=(∃ nl cl,r = .sl nl (l.map intA) cl)∨r = .os (l.map intA) 1 false
theorem IsL.of {l:List Int} {r:AV} (h:IsSl 1 false (l.map intA) r):IsL l r:=by
 rcases h with ⟨he,nl,cl,rfl,_⟩ | h
 ·exact .inl ⟨nl,cl,by rw [he]⟩
 ·exact .inr h
section
variable {pg:Pg}
attribute [local go_sem] Nat.left_eq_add Nat.add_eq_left
end
end Go.Tev
end
section
namespace Go.Tev
def putsI (acc l:List Int):List Int:=l.foldl (fun a x=>putI x a) acc
mutual
def readsR:Pull→List Int
 | .mk op _ value _ _ _ _ _ _ kids _=>readsRs (if decide (op.bs=[114,101,97,100]) then putI value [] else []) kids
def readsRs:List Int→List Pull→List Int
 | acc,[]=>acc
 | acc,p :: r=>readsRs (putsI acc (readsR p)) r
end
theorem putsI_len:∀ (l acc:List Int),(putsI acc l).length≤acc.length+l.length
 | [],acc=>by simp [putsI]
 | x :: r,acc=>by
  have h1:=putsI_len r (putI x acc)
  have h2:=putI_len x acc
  simp only [putsI,List.foldl_cons,List.length_cons] at *
  omega
theorem mem_putsI {a:Int}:∀ (l acc:List Int),a∈putsI acc l↔a∈acc∨a∈l
 | [],acc=>by simp [putsI]
 | x :: r,acc=>by
  have h1:=mem_putsI (a:=a) r (putI x acc)
  simp only [putsI,List.foldl_cons] at *
  rw [h1,mem_putI,List.mem_cons]
  constructor
  ·rintro ((h | h) | h)<;>simp [h]
  ·rintro (h | h | h)<;>simp [h]
mutual
theorem readsR_len:∀ p:Pull,(readsR p).length≤p.sz
 | .mk op _ value _ _ _ _ _ _ kids _=>by
  have h:=readsRs_len kids (if decide (op.bs=[114,101,97,100]) then putI value [] else [])
  rw [readsR,Pull.sz]
  split at h<;>simp_all [putI]<;>omega
theorem readsRs_len:∀ (l:List Pull) (acc:List Int),(readsRs acc l).length≤acc.length+Pull.szL l
 | [],acc=>by simp [readsRs]
 | p :: r,acc=>by
  have h1:=readsR_len p
  have h2:=readsRs_len r (putsI acc (readsR p))
  have h3:=putsI_len (readsR p) acc
  simp only [readsRs,Pull.szL] at *
  omega
end
mutual
theorem mem_readsR (a:Int):∀ p:Pull,a∈readsR p↔a∈readsU p
 | .mk op _ value _ _ _ _ _ _ kids _=>by
  have h:=mem_readsRs a kids (if decide (op.bs=[114,101,97,100]) then putI value [] else [])
  rw [readsR,readsU,h,List.mem_append]
  cases decide (op.bs=[114,101,97,100])<;>simp [putI]
theorem mem_readsRs (a:Int):∀ (l:List Pull) (acc:List Int),a∈readsRs acc l↔a∈acc∨a∈readsL l
 | [],acc=>by simp [readsRs,readsL]
 | p :: r,acc=>by
  have h1:=mem_readsR a p
  have h2:=mem_readsRs a r (putsI acc (readsR p))
  rw [readsRs,h2,mem_putsI,h1,readsL,List.mem_append,or_assoc]
end
def refsR (q:Kernel):List Int:=
 if decide (q.kind=3) then
  (let l:=putsI (readsR q.body) (readsR q.index)
   if decide (q.source=q.value) then l else putI q.source l)
 else readsR q.body
section
variable {pg:Pg}
end
end Go.Tev
end
section
namespace Go.Tev
section
variable {pg:Pg}
end
end Go.Tev
end
section
namespace Go.Tev
end Go.Tev
end
