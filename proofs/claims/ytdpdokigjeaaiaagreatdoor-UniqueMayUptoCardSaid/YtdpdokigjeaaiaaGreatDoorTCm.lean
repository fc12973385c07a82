import Derived.Test.YtdpdokigjeaaiaaGreatDoorTAm
import Derived.Test.YtdpdokigjeaaiaaGreatDoorEvEm
set_option linter.all false
section
set_option maxRecDepth 100000
namespace Go.Proofs
open Go.Tev
abbrev Memo:=List (Nat × List AV × AV)
def memoL:Memo→Nat→List AV→Option AV
 | [],_,_=>none
 | (g,b,r) :: l,f,a=>bif f.beq g then (bif eqAL a b then some r else memoL l f a) else memoL l f a
theorem memoL_ok {l:Memo} {m:Nat} (h:∀ x∈l,x.2.2.tree=true∧callP (callN pgS m) x.1 x.2.1=some x.2.2):∀ f a r,memoL l f a=some r→r.tree=true∧callP (callN pgS m) f a=some r:=by
 induction l with
 | nil=>intro f a r hr;cases hr
 | cons x l ih=>
  intro f a r hr
  obtain ⟨g,b,q⟩:=x
  have ih':=ih (fun y hy=>h y (List.mem_cons_of_mem _ hy)) f a r
  simp only [memoL] at hr
  cases h1:f.beq g with
  | false=>rw [h1] at hr;exact ih' hr
  | true=>
   rw [h1] at hr
   cases h2:eqAL a b with
   | false=>rw [h2] at hr;exact ih' hr
   | true=>
    rw [h2] at hr
    cases hr
    have e1:=Nat.eq_of_beq_eq_true h1
    have e2:=eqAL_sound a b h2
    subst e1 e2
    exact h (f,a,r) (by simp)
theorem memo_run {l:Memo} {m:Nat} (h:∀ x∈l,x.2.2.tree=true∧callP (callN pgS m) x.1 x.2.1=some x.2.2) {n f:Nat} {a:List AV} {r:AV} (hr:callP (callE pgS (memoL l) n) f a=some r):callP (callN pgS (m+n)) f a=some r:=
 (callE_sub pgS (memoL_ok h) n).at0 _ _ _ hr
def mA0:List AV:=[.agg [.sl false [.str [110]] true,.sl true [] true,.int .i64 2,.sl false [.agg [.str [105,110,116],.str [],.sl false [.agg [.int .i64 0,.sl false [.agg [.str [110],.int .i64 1]] true]] true],.agg [.str [105,110,116],.str [],.sl false [.agg [.int .i64 0,.sl false [.agg [.str [110],.int .i64 1]] true]] true],.agg [.str [105,110,116],.str [],.sl false [.agg [.int .i64 0,.sl false [.agg [.str [110],.int .i64 1]] true]] true]] true,.sl false [.agg [.int .i64 1,.int .i64 2,.sl false [.agg [.int .i64 0,.sl false [.agg [.str [110],.int .i64 1]] true]] true,.str [97,100,100],.int .i64 0,.int .i64 0,.str [],.sl true [] true,.bool false,.int .i64 0,.sl true [] true,.sl false [.agg [.str [114,101,97,100],.int .i64 0,.int .i64 0,.str [],.sl false [.agg [.int .i64 0,.sl false [.agg [.str [105,48],.int .i64 1]] true]] true,.bool false,.int .i64 0,.sl true [] true,.sl true [] true],.agg [.str [114,101,97,100],.int .i64 0,.int .i64 1,.str [],.sl false [.agg [.int .i64 0,.sl false [.agg [.str [105,48],.int .i64 1]] true]] true,.bool false,.int .i64 0,.sl true [] true,.sl true [] true]] true,.sl true [] true,.int .i64 0,.str [],.int .i64 0,.int .i64 0,.str [],.sl true [] true,.bool false,.int .i64 0,.sl true [] true,.sl true [] true,.int .i64 0]] true,.sl false [.int .i64 2] true]]
def mR0:AV:=.tup [.int .i64 1,.int .i64 0]
def mA1:List AV:=[.agg [.sl false [.str [110]] true,.sl true [] true,.int .i64 2,.sl false [.agg [.str [105,110,116],.str [],.sl false [.agg [.int .i64 0,.sl false [.agg [.str [110],.int .i64 1]] true]] true],.agg [.str [105,110,116],.str [],.sl false [.agg [.int .i64 0,.sl false [.agg [.str [110],.int .i64 1]] true]] true],.agg [.str [105,110,116],.str [],.sl false [.agg [.int .i64 0,.sl false [.agg [.str [110],.int .i64 1]] true]] true]] true,.sl false [.agg [.int .i64 1,.int .i64 2,.sl false [.agg [.int .i64 0,.sl false [.agg [.str [110],.int .i64 1]] true]] true,.str [97,100,100],.int .i64 0,.int .i64 0,.str [],.sl true [] true,.bool false,.int .i64 0,.sl true [] true,.sl false [.agg [.str [114,101,97,100],.int .i64 0,.int .i64 0,.str [],.sl false [.agg [.int .i64 0,.sl false [.agg [.str [105,48],.int .i64 1]] true]] true,.bool false,.int .i64 0,.sl true [] true,.sl true [] true],.agg [.str [114,101,97,100],.int .i64 0,.int .i64 1,.str [],.sl false [.agg [.int .i64 0,.sl false [.agg [.str [105,48],.int .i64 1]] true]] true,.bool false,.int .i64 0,.sl true [] true,.sl true [] true]] true,.sl true [] true,.int .i64 0,.str [],.int .i64 0,.int .i64 0,.str [],.sl true [] true,.bool false,.int .i64 0,.sl true [] true,.sl true [] true,.int .i64 0]] true,.sl false [.int .i64 2] true]]
def mR1:AV:=.tup [.sl false [.agg [.int .i64 (-1),.int .i64 0],.agg [.int .i64 (-1),.int .i64 0],.agg [.int .i64 0,.int .i64 1]] false,.int .i64 0]
def mA2:List AV:=[.agg [.sl false [.str [110]] true,.sl true [] true,.int .i64 2,.sl false [.agg [.str [105,110,116],.str [],.sl false [.agg [.int .i64 0,.sl false [.agg [.str [110],.int .i64 1]] true]] true],.agg [.str [105,110,116],.str [],.sl false [.agg [.int .i64 0,.sl false [.agg [.str [110],.int .i64 1]] true]] true],.agg [.str [105,110,116],.str [],.sl false [.agg [.int .i64 0,.sl false [.agg [.str [110],.int .i64 1]] true]] true]] true,.sl false [.agg [.int .i64 1,.int .i64 2,.sl false [.agg [.int .i64 0,.sl false [.agg [.str [110],.int .i64 1]] true]] true,.str [114,101,97,100],.int .i64 0,.int .i64 0,.str [],.sl false [.agg [.int .i64 (-1),.sl false [.agg [.str [105,48],.int .i64 (-1)],.agg [.str [110],.int .i64 1]] true]] true,.bool false,.int .i64 0,.sl true [] true,.sl true [] true,.sl true [] true,.int .i64 0,.str [],.int .i64 0,.int .i64 0,.str [],.sl true [] true,.bool false,.int .i64 0,.sl true [] true,.sl true [] true,.int .i64 0]] true,.sl false [.int .i64 2] true]]
def mR2:AV:=.tup [.int .i64 1,.int .i64 0]
def mA3:List AV:=[.agg [.sl false [.str [110]] true,.sl true [] true,.int .i64 2,.sl false [.agg [.str [105,110,116],.str [],.sl false [.agg [.int .i64 0,.sl false [.agg [.str [110],.int .i64 1]] true]] true],.agg [.str [105,110,116],.str [],.sl false [.agg [.int .i64 0,.sl false [.agg [.str [110],.int .i64 1]] true]] true],.agg [.str [105,110,116],.str [],.sl false [.agg [.int .i64 0,.sl false [.agg [.str [110],.int .i64 1]] true]] true]] true,.sl false [.agg [.int .i64 1,.int .i64 2,.sl false [.agg [.int .i64 0,.sl false [.agg [.str [110],.int .i64 1]] true]] true,.str [114,101,97,100],.int .i64 0,.int .i64 0,.str [],.sl false [.agg [.int .i64 (-1),.sl false [.agg [.str [105,48],.int .i64 (-1)],.agg [.str [110],.int .i64 1]] true]] true,.bool false,.int .i64 0,.sl true [] true,.sl true [] true,.sl true [] true,.int .i64 0,.str [],.int .i64 0,.int .i64 0,.str [],.sl true [] true,.bool false,.int .i64 0,.sl true [] true,.sl true [] true,.int .i64 0]] true,.sl false [.int .i64 2] true]]
def mR3:AV:=.tup [.sl false [.agg [.int .i64 (-1),.int .i64 0],.agg [.int .i64 (-1),.int .i64 (-1)],.agg [.int .i64 0,.int .i64 1]] false,.int .i64 0]
def mA4:List AV:=[.agg [.str [97,100,100],.int .i64 0,.int .i64 0,.str [],.sl true [] true,.bool false,.int .i64 0,.sl true [] true,.sl false [.agg [.str [114,101,97,100],.int .i64 0,.int .i64 0,.str [],.sl false [.agg [.int .i64 0,.sl false [.agg [.str [105,48],.int .i64 1]] true]] true,.bool false,.int .i64 0,.sl true [] true,.sl true [] true],.agg [.str [114,101,97,100],.int .i64 0,.int .i64 1,.str [],.sl false [.agg [.int .i64 0,.sl false [.agg [.str [105,48],.int .i64 1]] true]] true,.bool false,.int .i64 0,.sl true [] true,.sl true [] true]] true],.sl false [.agg [.str [110],.int .i64 2],.agg [.str [105,48],.int .i64 0]] false,.sl false [.agg [.str [105,110,116],.sl false [.int .i64 2] true,.sl false [.int .i64 1,.int .i64 2] true],.agg [.str [105,110,116],.sl false [.int .i64 2] true,.sl false [.int .i64 30,.int .i64 40] true],.agg [.str [],.sl true [] true,.sl true [] true]] true]
def mR4:AV:=.tup [.int .i64 31,.agg [.int .i64 2,.int .i64 0,.int .i64 1,.int .i64 0],.sl true [] true,.int .i64 0]
def mA5:List AV:=[.agg [.str [97,100,100],.int .i64 0,.int .i64 0,.str [],.sl true [] true,.bool false,.int .i64 0,.sl true [] true,.sl false [.agg [.str [114,101,97,100],.int .i64 0,.int .i64 0,.str [],.sl false [.agg [.int .i64 0,.sl false [.agg [.str [105,48],.int .i64 1]] true]] true,.bool false,.int .i64 0,.sl true [] true,.sl true [] true],.agg [.str [114,101,97,100],.int .i64 0,.int .i64 1,.str [],.sl false [.agg [.int .i64 0,.sl false [.agg [.str [105,48],.int .i64 1]] true]] true,.bool false,.int .i64 0,.sl true [] true,.sl true [] true]] true],.sl false [.agg [.str [110],.int .i64 2],.agg [.str [105,48],.int .i64 1]] false,.sl false [.agg [.str [105,110,116],.sl false [.int .i64 2] true,.sl false [.int .i64 1,.int .i64 2] true],.agg [.str [105,110,116],.sl false [.int .i64 2] true,.sl false [.int .i64 30,.int .i64 40] true],.agg [.str [],.sl true [] true,.sl true [] true]] true]
def mR5:AV:=.tup [.int .i64 42,.agg [.int .i64 2,.int .i64 0,.int .i64 1,.int .i64 0],.sl true [] true,.int .i64 0]
def mA6:List AV:=[.agg [.sl false [.str [110]] true,.sl true [] true,.int .i64 2,.sl false [.agg [.str [105,110,116],.str [],.sl false [.agg [.int .i64 0,.sl false [.agg [.str [110],.int .i64 1]] true]] true],.agg [.str [105,110,116],.str [],.sl false [.agg [.int .i64 0,.sl false [.agg [.str [110],.int .i64 1]] true]] true],.agg [.str [105,110,116],.str [],.sl false [.agg [.int .i64 0,.sl false [.agg [.str [110],.int .i64 1]] true]] true]] true,.sl false [.agg [.int .i64 1,.int .i64 2,.sl false [.agg [.int .i64 0,.sl false [.agg [.str [110],.int .i64 1]] true]] true,.str [97,100,100],.int .i64 0,.int .i64 0,.str [],.sl true [] true,.bool false,.int .i64 0,.sl true [] true,.sl false [.agg [.str [114,101,97,100],.int .i64 0,.int .i64 0,.str [],.sl false [.agg [.int .i64 0,.sl false [.agg [.str [105,48],.int .i64 1]] true]] true,.bool false,.int .i64 0,.sl true [] true,.sl true [] true],.agg [.str [114,101,97,100],.int .i64 0,.int .i64 1,.str [],.sl false [.agg [.int .i64 0,.sl false [.agg [.str [105,48],.int .i64 1]] true]] true,.bool false,.int .i64 0,.sl true [] true,.sl true [] true]] true,.sl true [] true,.int .i64 0,.str [],.int .i64 0,.int .i64 0,.str [],.sl true [] true,.bool false,.int .i64 0,.sl true [] true,.sl true [] true,.int .i64 0]] true,.sl false [.int .i64 2] true],.sl false [.agg [.str [110],.int .i64 2]] true,.sl false [.agg [.str [105,110,116],.sl false [.int .i64 2] true,.sl false [.int .i64 1,.int .i64 2] true],.agg [.str [105,110,116],.sl false [.int .i64 2] true,.sl false [.int .i64 30,.int .i64 40] true]] true]
def mR6:AV:=.tup [.sl false [.agg [.str [105,110,116],.sl false [.int .i64 2] true,.sl false [.int .i64 1,.int .i64 2] true],.agg [.str [105,110,116],.sl false [.int .i64 2] true,.sl false [.int .i64 30,.int .i64 40] true],.agg [.str [105,110,116],.sl false [.int .i64 2] false,.sl false [.int .i64 31,.int .i64 42] false]] true,.sl true [] true,.int .i64 0]
def mA7:List AV:=[.agg [.str [97,100,100],.int .i64 0,.int .i64 0,.str [],.sl true [] true,.bool false,.int .i64 0,.sl true [] true,.sl false [.agg [.str [114,101,97,100],.int .i64 0,.int .i64 0,.str [],.sl false [.agg [.int .i64 0,.sl false [.agg [.str [105,48],.int .i64 1]] true]] true,.bool false,.int .i64 0,.sl true [] true,.sl true [] true],.agg [.str [114,101,97,100],.int .i64 0,.int .i64 1,.str [],.sl false [.agg [.int .i64 0,.sl false [.agg [.str [105,48],.int .i64 1]] true]] true,.bool false,.int .i64 0,.sl true [] true,.sl true [] true]] true],.sl false [.agg [.str [110],.int .i64 2],.agg [.str [105,48],.int .i64 0]] false,.sl false [.agg [.str [105,110,116],.sl false [.int .i64 2] true,.sl false [.int .i64 1,.int .i64 2] false],.agg [.str [105,110,116],.sl false [.int .i64 2] true,.sl false [.int .i64 30,.int .i64 40] false],.agg [.str [105,110,116],.sl false [.int .i64 2] true,.sl false [.int .i64 1,.int .i64 2] false]] true]
def mR7:AV:=.tup [.int .i64 31,.agg [.int .i64 2,.int .i64 0,.int .i64 1,.int .i64 0],.sl true [] true,.int .i64 0]
def mA8:List AV:=[.agg [.str [97,100,100],.int .i64 0,.int .i64 0,.str [],.sl true [] true,.bool false,.int .i64 0,.sl true [] true,.sl false [.agg [.str [114,101,97,100],.int .i64 0,.int .i64 0,.str [],.sl false [.agg [.int .i64 0,.sl false [.agg [.str [105,48],.int .i64 1]] true]] true,.bool false,.int .i64 0,.sl true [] true,.sl true [] true],.agg [.str [114,101,97,100],.int .i64 0,.int .i64 1,.str [],.sl false [.agg [.int .i64 0,.sl false [.agg [.str [105,48],.int .i64 1]] true]] true,.bool false,.int .i64 0,.sl true [] true,.sl true [] true]] true],.sl false [.agg [.str [110],.int .i64 2],.agg [.str [105,48],.int .i64 1]] false,.sl false [.agg [.str [105,110,116],.sl false [.int .i64 2] true,.sl false [.int .i64 31,.int .i64 2] false],.agg [.str [105,110,116],.sl false [.int .i64 2] true,.sl false [.int .i64 30,.int .i64 40] false],.agg [.str [105,110,116],.sl false [.int .i64 2] true,.sl false [.int .i64 31,.int .i64 2] false]] true]
def mR8:AV:=.tup [.int .i64 42,.agg [.int .i64 2,.int .i64 0,.int .i64 1,.int .i64 0],.sl true [] true,.int .i64 0]
theorem mE0:callP (callE pgS (memoL []) 400) 28 mA0=some mR0:=by kernel_rfl
theorem mE2:callP (callE pgS (memoL []) 400) 28 mA2=some mR2:=by kernel_rfl
theorem mE4:callP (callE pgS (memoL []) 400) 279 mA4=some mR4:=by kernel_rfl
theorem mE5:callP (callE pgS (memoL []) 400) 279 mA5=some mR5:=by kernel_rfl
theorem mE7:callP (callE pgS (memoL []) 400) 279 mA7=some mR7:=by kernel_rfl
theorem mE8:callP (callE pgS (memoL []) 400) 279 mA8=some mR8:=by kernel_rfl
def memo1:Memo:=[(28,mA0,mR0),(28,mA2,mR2),(279,mA4,mR4),(279,mA5,mR5),(279,mA7,mR7),(279,mA8,mR8)]
theorem memo1_ok:∀ x∈memo1,x.2.2.tree=true∧callP (callN pgS (0+400)) x.1 x.2.1=some x.2.2:=by
 intro x hx
 simp only [memo1,List.mem_cons,List.not_mem_nil,or_false] at hx
 rcases hx with rfl | rfl | rfl | rfl | rfl | rfl
 ·exact ⟨by kernel_rfl,memo_run (m:=0) (l:=[]) (fun _ h=>by cases h) mE0⟩
 ·exact ⟨by kernel_rfl,memo_run (m:=0) (l:=[]) (fun _ h=>by cases h) mE2⟩
 ·exact ⟨by kernel_rfl,memo_run (m:=0) (l:=[]) (fun _ h=>by cases h) mE4⟩
 ·exact ⟨by kernel_rfl,memo_run (m:=0) (l:=[]) (fun _ h=>by cases h) mE5⟩
 ·exact ⟨by kernel_rfl,memo_run (m:=0) (l:=[]) (fun _ h=>by cases h) mE7⟩
 ·exact ⟨by kernel_rfl,memo_run (m:=0) (l:=[]) (fun _ h=>by cases h) mE8⟩
theorem mE1:callP (callE pgS (memoL memo1) 400) 9 mA1=some mR1:=by kernel_rfl
theorem mE3:callP (callE pgS (memoL memo1) 400) 9 mA3=some mR3:=by kernel_rfl
theorem mE6:callP (callE pgS (memoL memo1) 400) 283 mA6=some mR6:=by kernel_rfl
def memo2:Memo:=memo1++[(9,mA1,mR1),(9,mA3,mR3),(283,mA6,mR6)]
theorem memo2_ok:∀ x∈memo2,x.2.2.tree=true∧callP (callN pgS (0+400+400)) x.1 x.2.1=some x.2.2:=by
 intro x hx
 rcases List.mem_append.1 hx with hx | hx
 ·obtain ⟨h1,h2⟩:=memo1_ok x hx
  exact ⟨h1,callP_mono (callN_mono pgS (by omega)) h2⟩
 ·simp only [List.mem_cons,List.not_mem_nil,or_false] at hx
  rcases hx with rfl | rfl | rfl
  ·exact ⟨by kernel_rfl,memo_run memo1_ok mE1⟩
  ·exact ⟨by kernel_rfl,memo_run memo1_ok mE3⟩
  ·exact ⟨by kernel_rfl,memo_run memo1_ok mE6⟩
theorem awake_run:callP (callE pgS (memoL memo2) 400) 259 []=some (.bool true):=by kernel_rfl
theorem awakeS:Ret pgS 259 [] (.bool true):=⟨0+400+400+400,memo_run memo2_ok awake_run⟩
end Go.Proofs
end
