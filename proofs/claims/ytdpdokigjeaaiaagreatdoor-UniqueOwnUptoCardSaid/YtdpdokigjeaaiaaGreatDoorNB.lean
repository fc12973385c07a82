import Derived.Test.YtdpdokigjeaaiaaGreatDoorNA
import Derived.Lib.AtoiAll
import Derived.Lib.AtoiAllCases
import Derived.Test.YtdpdokigjeaaiaaGreatDoorEvD
import Derived.Lib.SlicesCompact
import Derived.Lib.ItoaNum
import Derived.Lib.AtoiErrMem
import Derived.Sort.Grow
set_option linter.all false
section
namespace Go.Tev
def digs:Nat→Nat→List UInt8
 | 0,_=>[]
 | f+1,u=>if u < 10 then [UInt8.ofNat (48+u)] else digs f (u / 10)++[UInt8.ofNat (48+u % 10)]
end Go.Tev
end
section
namespace Go.Tev
def exAtoi (args:List AV) (_:Nat) (h:Hp):Option (AV × Hp):=
 match args with
 | [.str s]=>
  if s.length≤16777216 then
   match Lib.atoiAll s with
   | .ok v=>some (.tup [.int .i64 v,.nili],h)
   | .range=>some (.tup [.int .i64 (Lib.atoiSat s),.ifc .top],h)
   | _=>some (.tup [.int .i64 0,.ifc .top],h)
  else none
 | _=>none
def exItoa (args:List AV) (_:Nat) (h:Hp):Option (AV × Hp):=
 match args with
 | [.int .i64 n]=>if 0≤n∧n≤9223372036854775807 then some (.str (digs 20 n.toNat),h) else none
 | _=>none
def intsOf:List AV→Option (List Int)
 | []=>some []
 | .int .i64 n :: r=>(intsOf r).map (n :: ·)
 | _=>none
def exSort (args:List AV) (_:Nat) (h:Hp):Option (AV × Hp):=
 match args with
 | [.sl _ [] _]=>some (.tup [],h)
 | [.rf k e off len _]=>
  match h.get k with
  | some (e',.blk cs 1 false ti false)=>
   if e'=e∧off+len≤cs.length∧len≤16777216 then
    match intsOf ((cs.drop off).take len) with
    | some zs=>some (.tup [],h.put k e (.blk (writeA cs off ((sortI zs).map intA)) 1 false ti false))
    | none=>none
   else none
  | _=>none
 | _=>none
def exComp (args:List AV) (_:Nat) (h:Hp):Option (AV × Hp):=
 match args with
 | [.sl nl [] cl]=>some (.sl nl [] cl,h)
 | [.rf k e off len cap]=>
  match h.get k with
  | some (e',.blk cs 1 false ti false)=>
   if e'=e∧off+len≤cs.length∧len≤16777216 then
    match intsOf ((cs.drop off).take len) with
    | some zs=>some (.rf k e off (compI zs).length cap,h.put k e (.blk (writeA cs off ((compI zs++List.replicate (zs.length - (compI zs).length) 0).map intA)) 1 false ti false))
    | none=>none
   else none
  | _=>none
 | _=>none
structure Ora (pg:Pg):Prop where
 f92:pg.fs 92=none
 f93:pg.fs 93=none
 f75:pg.fs 75=none
 f76:pg.fs 76=none
 atoi:pg.ex 92=some exAtoi
 itoa:pg.ex 93=some exItoa
 sort:pg.ex 75=some exSort
 comp:pg.ex 76=some exComp
section
variable {pg:Pg}
theorem ret_ex {f:Nat} {g:List AV→Nat→Hp→Option (AV × Hp)} (hf:pg.fs f=none) (hx:pg.ex f=some g) {vs:List AV} {r:AV} (hg:g vs 0 []=some (r,[])) (hr:r.tree=true):Ret pg f vs r:=
 ⟨1,by simp only [callP,callN,hf,hx,hg,conv_tree hr]⟩
end
end Go.Tev
end
section
namespace Go.Tev
open Go.Sort
theorem insI_perm (x:Int):∀ l,(insI x l).Perm (x :: l)
 | []=>List.Perm.refl _
 | y :: r=>by
  simp only [insI]
  split
  ·exact List.Perm.refl _
  ·exact ((insI_perm x r).cons y).trans (List.Perm.swap x y r)
theorem sortI_perm:∀ l,(sortI l).Perm l
 | []=>List.Perm.refl _
 | x :: r=>(insI_perm x _).trans ((sortI_perm r).cons x)
theorem insI_sorted (x:Int):∀ l:List Int,l.Pairwise (· ≤ ·)→(insI x l).Pairwise (· ≤ ·)
 | [],_=>by simp [insI]
 | y :: r,h=>by
  simp only [insI]
  rw [List.pairwise_cons] at h
  split
  ·rename_i hxy
   rw [List.pairwise_cons]
   refine ⟨?_,List.pairwise_cons.2 h⟩
   intro a ha
   rcases List.mem_cons.1 ha with rfl | ha
   ·exact hxy
   ·exact Int.le_trans hxy (h.1 a ha)
  ·rename_i hxy
   rw [List.pairwise_cons]
   refine ⟨?_,insI_sorted x r h.2⟩
   intro a ha
   rcases (mem_insI x a r).1 ha with rfl | ha
   ·omega
   ·exact h.1 a ha
theorem sortI_sorted:∀ l:List Int,(sortI l).Pairwise (· ≤ ·)
 | []=>List.Pairwise.nil
 | x :: r=>insI_sorted x _ (sortI_sorted r)
theorem sorted_unique:∀ {a b:List Int},a.Perm b→a.Pairwise (· ≤ ·)→b.Pairwise (· ≤ ·)→a=b
 | [],b,h,_,_=>(List.Perm.nil_eq h)
 | x :: r,[],h,_,_=>absurd h.symm.nil_eq (by simp)
 | x :: r,y :: s,h,ha,hb=>by
  rw [List.pairwise_cons] at ha hb
  have h1:x≤y:=by
   have:y∈x :: r:=h.symm.subset (by simp)
   rcases List.mem_cons.1 this with rfl | hy
   ·exact Int.le_refl _
   ·exact ha.1 y hy
  have h2:y≤x:=by
   have:x∈y :: s:=h.subset (by simp)
   rcases List.mem_cons.1 this with rfl | hx
   ·exact Int.le_refl _
   ·exact hb.1 x hx
  obtain rfl:x=y:=by omega
  rw [sorted_unique (List.Perm.cons_inv h) ha.2 hb.2]
theorem sortI_eq (l:List Int):(l.mergeSort fun x y=>decide (x≤y))=sortI l:=by
 refine sorted_unique ((List.mergeSort_perm l _).trans (sortI_perm l).symm) ?_ (sortI_sorted l)
 have:=List.pairwise_mergeSort (le:=fun x y:Int=>decide (x≤y)) (by intro a b c h1 h2;simp at *;omega) (by intro a b;simp;omega) l
 exact this.imp (by intro a b h;simpa using h)
theorem compI_snoc (x:Int):∀ l:List Int,compI (l++[x])=compI l++(if l.getLast?=some x then [] else [x])
 | []=>by simp [compI]
 | [a]=>by
  simp only [List.cons_append,List.nil_append,compI,List.getLast?_singleton,Option.some.injEq]
  split<;>simp [*]
 | a :: b :: r=>by
  have ih:=compI_snoc x (b :: r)
  simp only [List.cons_append] at ih ⊢
  simp only [compI,ih,List.getLast?_cons_cons]
  split<;>simp
theorem compact_upTo (zs:List Int):∀ m,m≤zs.length→Lib.compactUpTo zs.toArray m=compI (zs.take m)
 | 0,_=>by simp [Lib.compactUpTo,compI]
 | m+1,h=>by
  have ih:=compact_upTo zs m (by omega)
  have hm:zs.toArray[m]! = zs[m]'(by omega):=by rw [getElem!_pos _ _ (by simp;omega)];simp
  rw [List.take_succ_eq_append_getElem (by omega),compI_snoc,← ih]
  simp only [Lib.compactUpTo,List.range_succ,List.filter_append,List.map_append]
  congr 1
  cases m with
  | zero=>
   simp [Lib.keeps,hm]
   rw [List.getElem?_eq_getElem (by omega)]
   rfl
  | succ k=>
   have hk:zs.toArray[k]! = zs[k]'(by omega):=by rw [getElem!_pos _ _ (by simp;omega)];simp
   have hl:(zs.take (k+1)).getLast?=some (zs[k]'(by omega)):=by
    rw [List.take_succ_eq_append_getElem (by omega)]
    exact List.getLast?_concat
   simp only [List.filter_cons,List.filter_nil,Lib.keeps,hm,hl]
   by_cases he:zs[k+1]'(by omega)=zs[k]'(by omega)
   ·simp [hk,he]
   ·have he':¬ zs[k]'(by omega)=zs[k+1]'(by omega):=fun h=>he h.symm
    simp [hk,he,he',hm]
    rw [List.getElem?_eq_getElem (by omega)]
    rfl
theorem compact_eq (zs:List Int):Lib.compact zs=compI zs:=by
 rw [Lib.compact,compact_upTo zs zs.length (Nat.le_refl _),List.take_length]
theorem decDigits_digs:∀ (f u:Nat),u < 10 ^ f→Lib.decDigits u=digs f u∨f=0
 | 0,u,_ => .inr rfl
 | f+1,u,h=>by
  left
  rw [digs,Lib.decDigits]
  by_cases h1:u < 10
  ·rw [dif_pos h1,if_pos h1]
  ·rw [dif_neg h1,if_neg h1]
   rcases decDigits_digs f (u / 10) (by rw [Nat.pow_succ] at h;omega) with h2 | h2
   ·rw [h2]
   ·subst h2;simp at h;omega
theorem itoa_digs {n:Int} (h0:0≤n) (h1:n≤9223372036854775807):Lib.itoa n=digs 20 n.toNat:=by
 rw [Lib.itoa,if_neg (by omega)]
 rcases decDigits_digs 20 n.toNat (by omega) with h | h
 ·exact h
 ·cases h
section
variable {P:Program} {num:Nat→Nat} {gl:Nat→Option AV} {gnum:Nat→Nat} {Fb:Nat→Prop} {B0:Nat} {ρ : Rho} {w w':World} {O:Nat→Prop} {h:Hp}
theorem below_evo (H:HpR num Fb B0 ρ w O h) (hb:RowKit.Below w.heap.size w w'):Evo ρ w O ρ w' O∧HpR num Fb B0 ρ w' O h:=by
 have ev:Evo ρ w O ρ w' O:=⟨hb.os,hb.tape,hb.output,hb.size,fun b h1 _=>hb.block b h1,fun _ _ h=>h,fun _ _ _ h=>h⟩
 exact ⟨ev,H.same ev (fun b hO=>hb.block b (H.own b hO).2)⟩
def FnOK (P:Program) (f:Nat):Prop:=∃ fn,P.funcs[f]?=some fn∧fn.body.isSome=true∧fn.name ≠ "runtime.NumGoroutine"
theorem all2_one {R:AV→Value→Prop} {x:AV} {vs:List Value} (h:All2 R [x] vs):∃ c,vs=[c]∧R x c:=by
 cases h with
 | cons h1 h2=>cases h2;exact ⟨_,rfl,h1⟩
theorem itoaOK (hfn:FnOK P (num 93)) (g:Nat) (hg:gl g=some (.agg (Lib.pow10Tab.map fun n => .int .u64 n)))
  (hc:∀ (n:Int),0≤n→n≤9223372036854775807→∀ w:World,(∃ T fr,w.heap[gnum g]?=some (.cells (Lib.pow10Tab.map fun z=>Value.int .u64 z).toArray T fr)) →
   Calls P (num 93) #[.int .i64 n] w fun e w'=>e = .returned (.string ⟨(Lib.itoa n).toArray⟩)∧RowKit.Below w.heap.size w w') :
  CallOK P num gl gnum (fun f' avs kb h=>if f'=93 then exItoa avs kb h else none):=by
 intro f avs kb h r h' hr
 dsimp only at hr
 split at hr
 case isFalse=>cases hr
 rename_i hf
 subst hf
 refine ⟨hfn,?_⟩
 intro Fb B0 ρ O w vs H hG hv
 unfold exItoa at hr
 split at hr
 case h_2=>cases hr
 rename_i n
 split at hr
 case isFalse=>cases hr
 rename_i hn
 cases hr
 obtain ⟨c,rfl,hrv⟩:=all2_one hv
 cases hrv
 have htab:∃ T fr,w.heap[gnum g]?=some (.cells (Lib.pow10Tab.map fun z=>Value.int .u64 z).toArray T fr):=by
  obtain ⟨⟨_,c,T,fr,h1,h2⟩,hp⟩:=hG g _ hg
  refine ⟨T,fr,?_⟩
  rw [h1]
  have hsz:c.size=Lib.pow10Tab.length:=by rw [h2];simp [AV.cells]
  have hce:c=(Lib.pow10Tab.map fun z=>Value.int .u64 z).toArray:=by
   apply Array.ext
   ·simp [hsz]
   ·intro i hi1 hi2
    obtain ⟨b,off,m,hx,hF,hb,hm,hr⟩:=hp.of_fp
    cases hx
    have hil:i < Lib.pow10Tab.length:=by omega
    have h3:=hm i (by simp only [AV.cells,List.length_map];exact hil)
    have h4:=hr i (.int .u64 (Lib.pow10Tab[i]'hil)) (by simp only [AV.cells,List.getElem?_map,List.getElem?_eq_getElem hil];rfl)
    rw [Nat.zero_add] at h3
    simp only [World.cell?,h1,Option.isSome_none,Bool.false_eq_true,if_false,Array.getElem?_eq_getElem hi1,Option.some.injEq] at h3
    rw [← h3] at h4
    have h5:=h4.of_int
    rw [h5]
    simp
  rw [hce]
 refine (hc n hn.1 hn.2 w htab).mono ?_
 rintro e w' ⟨rfl,hb⟩
 obtain ⟨ev,H'⟩:=below_evo H hb
 refine ⟨_,ρ,O,rfl,ev,H',?_⟩
 rw [itoa_digs hn.1 hn.2]
 exact .str _
theorem atoiOK (hfn:FnOK P (num 92)) (g1 g2:Nat) (hg1:gl g1=some (.ifc .top)) (hg2:gl g2=some (.ifc .top))
  (hok:∀ (s:List UInt8),s.length≤16777216→∀ v,Lib.atoiAll s = .ok v→∀ w:World,Calls P (num 92) #[.string ⟨s.toArray⟩] w fun e w'=>e = .returned (.tuple #[.int .i64 v,.nilIface])∧RowKit.Below w.heap.size w w')
  (hsy:∀ (s:List UInt8),s.length≤16777216→(∀ v,Lib.atoiAll s ≠ .ok v)→Lib.atoiAll s ≠ .range→∀ (w:World) (te:TypeId) (pe:Value),w.cell? ⟨gnum g1,0,none⟩=some (.iface te pe) →
   Calls P (num 92) #[.string ⟨s.toArray⟩] w fun e w'=>∃ t p,e = .returned (.tuple #[.int .i64 0,.iface t p])∧RowKit.Below w.heap.size w w')
  (hra:∀ (s:List UInt8),s.length≤16777216→Lib.atoiAll s = .range→∀ (w:World) (te:TypeId) (pe:Value),w.cell? ⟨gnum g2,0,none⟩=some (.iface te pe) →
   Calls P (num 92) #[.string ⟨s.toArray⟩] w fun e w'=>∃ t p,e = .returned (.tuple #[.int .i64 (Lib.atoiSat s),.iface t p])∧RowKit.Below w.heap.size w w') :
  CallOK P num gl gnum (fun f' avs kb h=>if f'=92 then exAtoi avs kb h else none):=by
 intro f avs kb h r h' hr
 dsimp only at hr
 split at hr
 case isFalse=>cases hr
 rename_i hf
 subst hf
 refine ⟨hfn,?_⟩
 intro Fb B0 ρ O w vs H hG hv
 have hcell:∀ g,gl g=some (.ifc .top)→∃ te pe,w.cell? ⟨gnum g,0,none⟩=some (.iface te pe):=by
  intro g hg
  obtain ⟨_,hp⟩:=hG g _ hg
  cases hp with
  | fp _ _ _ c hF hb hm hr=>
   have h1:=hm 0 (by simp [AV.cells])
   have h2:=hr 0 (.ifc .top) (by simp [AV.cells])
   simp only [Nat.add_zero] at h1
   rw [h1]
   generalize c 0=ci at h2 ⊢
   cases h2
   exact ⟨_,_,rfl⟩
 unfold exAtoi at hr
 split at hr
 case h_2=>cases hr
 rename_i s
 split at hr
 case isFalse=>cases hr
 rename_i hs
 obtain ⟨c,rfl,hrv⟩:=all2_one hv
 cases hrv
 split at hr
 ·rename_i v ha
  cases hr
  refine (hok s hs v ha w).mono ?_
  rintro e w' ⟨rfl,hb⟩
  obtain ⟨ev,H'⟩:=below_evo H hb
  refine ⟨_,ρ,O,rfl,ev,H',?_⟩
  refine .tup _ _ rfl ?_
  intro i x y hx hy
  match i,hx,hy with
  | 0,hx,hy=>simp at hx hy;subst hx;subst hy;exact .int _ _
  | 1,hx,hy=>simp at hx hy;subst hx;subst hy;exact .nili
  | i+2,hx,hy=>simp at hx
 ·rename_i ha
  cases hr
  obtain ⟨te,pe,hce⟩:=hcell g2 hg2
  refine (hra s hs ha w te pe hce).mono ?_
  rintro e w' ⟨t,p,rfl,hb⟩
  obtain ⟨ev,H'⟩:=below_evo H hb
  refine ⟨_,ρ,O,rfl,ev,H',?_⟩
  refine .tup _ _ rfl ?_
  intro i x y hx hy
  match i,hx,hy with
  | 0,hx,hy=>simp at hx hy;subst hx;subst hy;exact .int _ _
  | 1,hx,hy=>simp at hx hy;subst hx;subst hy;exact .ifc _ _ _ (.top _)
  | i+2,hx,hy=>simp at hx
 ·rename_i ha1 ha2
  cases hr
  obtain ⟨te,pe,hce⟩:=hcell g1 hg1
  refine (hsy s hs (fun v e=>ha1 v e) (fun e=>ha2 e) w te pe hce).mono ?_
  rintro e w' ⟨t,p,rfl,hb⟩
  obtain ⟨ev,H'⟩:=below_evo H hb
  refine ⟨_,ρ,O,rfl,ev,H',?_⟩
  refine .tup _ _ rfl ?_
  intro i x y hx hy
  match i,hx,hy with
  | 0,hx,hy=>simp at hx hy;subst hx;subst hy;exact .int _ _
  | 1,hx,hy=>simp at hx hy;subst hx;subst hy;exact .ifc _ _ _ (.top _)
  | i+2,hx,hy=>simp at hx
theorem intsOf_eq:∀ {cs:List AV} {zs:List Int},intsOf cs=some zs→cs=zs.map intA
 | [],zs,h=>by simp [intsOf] at h;subst h;rfl
 | x :: r,zs,h=>by
  cases x with
  | int k n=>
   cases k<;>simp only [intsOf] at h
   case i64=>
    simp only [Option.map_eq_some_iff] at h
    obtain ⟨l,h1,rfl⟩:=h
    rw [intsOf_eq h1];rfl
   all_goals cases h
  | _=>simp [intsOf] at h
end
end Go.Tev
end
section
namespace Go.Tev
open Go.Sort
section
variable {P:Program} {num:Nat→Nat} {gl:Nat→Option AV} {gnum:Nat→Nat} {Fb:Nat→Prop} {B0:Nat} {ρ : Rho} {w w':World} {O:Nat→Prop} {h:Hp}
theorem Rv.int_eq {F:Nat→Prop} {n:Int} {y:Value} (h:Rv num ρ w F (intA n) y):y = .int .i64 n:=by
 have h':Rv num ρ w F (.int .i64 n) y:=h
 cases h';rfl
theorem rowHolds {k e off len:Nat} {cs:List AV} {esz:Nat} {ag ti fz:Bool} {L:Loc} {zs:List Int} (H:HpR num Fb B0 ρ w O h) (hg:h.get k=some (e,.blk cs esz ag ti fz)) (hL : ρ k e=some L)
  (hz:(cs.drop off).take len=zs.map intA) (hl:off+len≤cs.length):Holds (Value.int .i64) w L.b (L.base+off) zs.toArray∧L.b < w.heap.size∧zs.length=len:=by
 obtain ⟨L0,c,T,h1,h2,h3,h4,h5,h6,h7,h8,h9,h10⟩:=H.blk _ _ _ _ _ _ _ hg
 rw [h1] at hL;cases hL
 have hzl:zs.length=len:=by
  have:=congrArg List.length hz
  simp at this;omega
 refine ⟨?_,?_,hzl⟩
 ·intro j hj
  have hj':j < zs.length:=by simpa using hj
  have hx:cs[off+j]?=some (intA (zs[j]'hj')):=by
   have:=congrArg (fun l:List AV=>l[j]?) hz
   simp only [List.getElem?_map,List.getElem?_take,List.getElem?_drop,List.getElem?_eq_getElem hj',Option.map_some] at this
   rw [if_pos (by omega)] at this
   exact this
  obtain ⟨y,hy,hr⟩:=h7 _ _ hx
  have hy2:=hr.int_eq
  subst hy2
  refine ⟨?_,?_⟩
  ·simp only [World.cell?,h4,Option.isSome_none,Bool.false_eq_true,if_false]
   rw [Nat.add_assoc,hy,getElem!_pos zs.toArray j hj]
   simp
  ·simp [World.frozen?,h4]
 ·by_cases hlt:L.b < w.heap.size
  ·exact hlt
  ·simp [Array.getElem?_eq_none (Nat.le_of_not_lt hlt)] at h4
theorem rowPut {k e off len n:Nat} {cs:List AV} {esz:Nat} {ag ti:Bool} {L:Loc} {zs:List Int} (H:HpR num Fb B0 ρ w O h) (hg:h.get k=some (e,.blk cs esz ag ti false)) (hL : ρ k e=some L)
  (hz:zs.length=len) (hl:off+len≤cs.length) :
  Evo ρ w O ρ (putRow (Value.int .i64) (Sort.ahead w n) L.b (L.base+off) zs.toArray) O∧HpR num Fb B0 ρ (putRow (Value.int .i64) (Sort.ahead w n) L.b (L.base+off) zs.toArray) O (h.put k e (.blk (writeA cs off (zs.map intA)) esz ag ti false)):=by
 obtain ⟨L0,c,T,h1,h2,h3,h4,h5,h6,h7,h8,h9,h10⟩:=H.blk _ _ _ _ _ _ _ hg
 rw [h1] at hL;cases hL
 have hget:∀ i,(putCells (Value.int .i64) (L.base+off) zs.toArray c)[i]?=(c[i]?).map fun x=>if L.base+off≤i∧i < L.base+off+zs.length then .int .i64 zs.toArray[i - (L.base+off)]! else x:=by
  intro i
  simp only [putCells,Array.getElem?_mapIdx,List.size_toArray]
 refine H.write (c':=putCells (Value.int .i64) (L.base+off) zs.toArray c) (T:=T) hg h1 ⟨rfl,rfl,rfl,?_,?_,?_⟩ ?_ ?_ ?_
 ·simp [putRow,mapBlock,Sort.ahead]
 ·simp only [putRow,mapBlock,Sort.ahead,Array.getElem?_modify,if_true,h4,Option.map_some,onCells]
 ·intro b hb
  simp only [putRow,mapBlock,Sort.ahead,Array.getElem?_modify]
  rw [if_neg (fun h=>hb h.symm)]
 ·simp only [putCells,Array.size_mapIdx];exact h5
 ·simp only [writeA,List.length_append,List.length_take,List.length_drop,List.length_map];omega
 ·intro i x hx
  rw [hget]
  simp only [writeA,List.append_assoc] at hx
  by_cases hi1:i < off
  ·rw [List.getElem?_append_left (by simp;omega),List.getElem?_take,if_pos hi1] at hx
   obtain ⟨y,hy,hr⟩:=h7 _ _ hx
   refine ⟨y,?_,hr⟩
   rw [hy,Option.map_some,if_neg (by omega)]
  ·rw [List.getElem?_append_right (by simp;omega)] at hx
   have htk:(cs.take off).length=off:=by simp;omega
   rw [htk] at hx
   by_cases hi2:i < off+len
   ·rw [List.getElem?_append_left (by simp;omega),List.getElem?_map] at hx
    have hlt:i - off < zs.length:=by omega
    rw [List.getElem?_eq_getElem hlt,Option.map_some] at hx
    cases hx
    have hcs:i < cs.length:=by omega
    obtain ⟨y,hy,_⟩:=h7 i _ (List.getElem?_eq_getElem hcs)
    refine ⟨_,by rw [hy,Option.map_some,if_pos (by omega)],?_⟩
    have e1:L.base+i - (L.base+off)=i - off:=by omega
    rw [e1,getElem!_pos zs.toArray (i - off) (by simpa using hlt)]
    simp only [List.getElem_toArray]
    exact .int _ _
   ·rw [List.getElem?_append_right (by simp;omega),List.getElem?_drop] at hx
    have e2:off+(zs.map intA).length+(i - off - (zs.map intA).length)=i:=by simp;omega
    rw [e2] at hx
    obtain ⟨y,hy,hr⟩:=h7 _ _ hx
    refine ⟨y,?_,hr⟩
    rw [hy,Option.map_some,if_neg (by omega)]
theorem grow_below (w:World) (os:Array Obj):RowKit.Below w.heap.size w (grow w os) where
 os:=rfl
 tape:=rfl
 output:=rfl
 size:=by simp [grow]
 block:=fun k hk=>by simp [grow,Array.getElem?_append_left hk]
theorem sortOK (hfn:FnOK P (num 75))
  (hc:∀ (blk off cap:Nat) (zs:List Int) (w:World),Holds (Value.int .i64) w blk off zs.toArray→blk < w.heap.size→zs.length≤16777216 →
   Calls P (num 75) #[.slice (some ⟨blk,off,none⟩) zs.length cap] w fun e w'=>e = .returned (.tuple #[])∧∃ n os,w'=grow (putRow (Value.int .i64) (Sort.ahead w n) blk off (sortI zs).toArray) os)
  (hn:∀ (p:Option Addr) (cap:Nat) (w:World),Calls P (num 75) #[.slice p 0 cap] w fun e w'=>e = .returned (.tuple #[])∧w'=w) :
  CallOK P num gl gnum (fun f' avs kb h=>if f'=75 then exSort avs kb h else none):=by
 intro f avs kb h r h' hr
 dsimp only at hr
 split at hr
 case isFalse=>cases hr
 rename_i hf
 subst hf
 refine ⟨hfn,?_⟩
 intro Fb B0 ρ O w vs H hG hv
 have htup:∀ {ρ : Rho} {w:World} {F:Nat→Prop},Rv num ρ w F (.tup []) (.tuple #[]):=.tup _ _ rfl (fun i x y hx=>by simp at hx)
 unfold exSort at hr
 split at hr
 ·cases hr
  obtain ⟨c,rfl,hrv⟩:=all2_one hv
  have:∃ p cap,c = .slice p 0 cap:=by cases hrv<;>exact ⟨_,_,rfl⟩
  obtain ⟨p,cap,rfl⟩:=this
  refine (hn p cap w).mono ?_
  rintro e w' ⟨rfl,rfl⟩
  exact ⟨_,ρ,O,rfl,Evo.refl _ _ _,H,htup⟩
 ·rename_i k e off len cap
  split at hr
  case h_2=>cases hr
  rename_i e' cs ti hg
  split at hr
  case isFalse=>cases hr
  rename_i hcond
  obtain ⟨rfl,hle,hbig⟩:=hcond
  split at hr
  case h_2=>cases hr
  rename_i zs hzs
  cases hr
  obtain ⟨c,rfl,hrv⟩:=all2_one hv
  cases hrv with
  | rf _ _ _ _ _ cap' L hL hlen hcap ht hroom=>
   obtain ⟨hH,hb,hzl⟩:=rowHolds H hg hL (intsOf_eq hzs) hle
   have hcall:=hc L.b (L.base+off) cap' zs w hH hb (by omega)
   rw [hzl] at hcall
   refine hcall.mono ?_
   rintro e w' ⟨rfl,n,os,rfl⟩
   obtain ⟨ev,H1⟩:=rowPut (n:=n) H hg hL (zs:=sortI zs) (by rw [sortI_len];exact hzl) hle
   obtain ⟨ev2,H2⟩:=below_evo H1 (grow_below _ os)
   exact ⟨_,ρ,O,rfl,ev.trans ev2,H2,htup⟩
 ·cases hr
theorem compOK (hfn:FnOK P (num 76))
  (hc:∀ (blk off cap:Nat) (zs:List Int) (w:World),Holds (Value.int .i64) w blk off zs.toArray→zs.length≤16777216→zs.length≤cap →
   Calls P (num 76) #[.slice (some ⟨blk,off,none⟩) zs.length cap] w fun e w'=>e = .returned (.slice (some ⟨blk,off,none⟩) (compI zs).length cap)∧∃ q,w'=putRow (Value.int .i64) (Sort.ahead w q) blk off (compI zs++List.replicate (zs.length - (compI zs).length) 0).toArray)
  (hn:∀ (p:Option Addr) (cap:Nat) (w:World),Calls P (num 76) #[.slice p 0 cap] w fun e w'=>e = .returned (.slice p 0 cap)∧w'=w) :
  CallOK P num gl gnum (fun f' avs kb h=>if f'=76 then exComp avs kb h else none):=by
 intro f avs kb h r h' hr
 dsimp only at hr
 split at hr
 case isFalse=>cases hr
 rename_i hf
 subst hf
 refine ⟨hfn,?_⟩
 intro Fb B0 ρ O w vs H hG hv
 unfold exComp at hr
 split at hr
 ·cases hr
  obtain ⟨c,rfl,hrv⟩:=all2_one hv
  have:∃ p cap,c = .slice p 0 cap:=by cases hrv<;>exact ⟨_,_,rfl⟩
  obtain ⟨p,cap,rfl⟩:=this
  refine (hn p cap w).mono ?_
  rintro e w' ⟨rfl,rfl⟩
  exact ⟨_,ρ,O,rfl,Evo.refl _ _ _,H,hrv⟩
 ·rename_i k e off len cap
  split at hr
  case h_2=>cases hr
  rename_i e' cs ti hg
  split at hr
  case isFalse=>cases hr
  rename_i hcond
  obtain ⟨rfl,hle,hbig⟩:=hcond
  split at hr
  case h_2=>cases hr
  rename_i zs hzs
  cases hr
  obtain ⟨c,rfl,hrv⟩:=all2_one hv
  cases hrv with
  | rf _ _ _ _ _ cap' L hL hlen hcap ht hroom=>
   obtain ⟨hH,hb,hzl⟩:=rowHolds H hg hL (intsOf_eq hzs) hle
   have hcl:=compI_len zs
   have hcall:=hc L.b (L.base+off) cap' zs w hH (by omega) (by omega)
   rw [hzl] at hcall
   refine hcall.mono ?_
   rintro e w' ⟨rfl,n,rfl⟩
   have hln:(compI zs++List.replicate (zs.length - (compI zs).length) 0).length=len:=by simp;omega
   obtain ⟨ev,H1⟩:=rowPut (n:=n) H hg hL hln hle
   rw [hzl] at ev H1 ⊢
   exact ⟨_,ρ,O,rfl,ev,H1,.rf _ _ _ _ _ cap' L hL (by omega) hcap ht hroom⟩
 ·cases hr
end
end Go.Tev
end
section
namespace Go.Tev
def isCmp (op:List UInt8):Bool:=decide (op=[108,116])||decide (op=[108,101])||decide (op=[103,116])||decide (op=[103,101])||decide (op=[101,113])||decide (op=[110,101])
def selU:List Bool→Bool
 | [_,b,c]=>b&&c
 | _=>false
def holdsU (op:List UInt8) (kids:List Bool):Bool:=
 if isCmp op then decide ((kids.length:Int)=2)
 else if decide (op=[115,101,108,101,99,116]) then selU kids
 else match primT op with
  | none=>false
  | some p=>decide (p.result=[98,111,111,108])&&decide ((p.params.length:Int)=(kids.length:Int)) && !kids.any (fun b=>b == false)
theorem treeL_bools (l:List Bool):Tev.treeL (l.map AV.bool)=true:=treeL_map (f:=AV.bool) (fun _=>rfl) l
theorem treeL_strs (l:List (List UInt8)):Tev.treeL (l.map AV.str)=true:=treeL_map (f:=AV.str) (fun _=>rfl) l
attribute [go_sem] treeL_bools treeL_strs
section
variable {pg:Pg}
def isConst (op:List UInt8):Bool:=decide (op=[99,111,110,115,116])||decide (op=[116,114,117,116,104])
def pickT (l:List Bool) (a:Int):Bool:=decide (0≤a)&&(decide (a < (l.length:Int))&&(l[a.toNat]?).getD false)
def stepT (l:List Bool) (s:Step):Bool:=if isConst s.op.bs then decide (s.num=0)||decide (s.num=1) else holdsU s.op.bs (s.args.es.map (pickT l))
def truthsL (l:List Bool):List Step→List Bool
 | []=>l
 | s :: r=>truthsL (l++[stepT l s]) r
def truthsU (code:List Step) (args:List Bool):Bool:=(truthsL args code).getLast?.getD false
def OwnS (h:Hp) (ks:List Nat) (v:AV) (es:List Bool):Prop:=∃ k∈ks,Own h k 1 false v (es.map AV.bool)
theorem OwnS.mono {h h':Hp} {ks:List Nat} {v:AV} {es:List Bool} (o:OwnS h ks v es) (hh:∀ k∈ks,h'.get k=h.get k):OwnS h' ks v es:=by
 obtain ⟨k,hk,o⟩:=o
 exact ⟨k,hk,o.mono (hh k hk)⟩
theorem unchunk_bools:∀ (l:List Bool),unchunk 1 false (l.map AV.bool)=some (l.map AV.bool)
 | []=>rfl
 | x :: r=>by
  have ih:=unchunk_bools r
  rw [List.map_cons,unchunk,ih];rfl
theorem OwnS.at {h:Hp} {ks:List Nat} {v:AV} {es:List Bool} (o:OwnS h ks v es) {n:Int} (h0:0≤n) (h1:n < es.length):∃ k e,v = .rf k e 0 es.length es.length∧h.get k=some (e,.blk (es.map AV.bool) 1 false false false)∧k∈ks:=by
 obtain ⟨k,hk,⟨he,nl,cl,rfl,hc⟩ | ⟨e,cs,rfl,hg,hu⟩⟩:=o
 ·have:es=[]:=by simpa using he
  subst this
  simp at h1;omega
 ·rw [unchunk_bools] at hu
  cases hu
  exact ⟨k,e,by simp,hg,hk⟩
theorem OwnS.len {h:Hp} {ks:List Nat} {v:AV} {es:List Bool} (o:OwnS h ks v es) (kb s:Nat) (h':Hp) (Q:AV→Eff→Prop) (t:Tok Q):XO pg kb (.len 1) s h' [v] Q t=Q (.int .i64 es.length) (.pat [] []):=by
 obtain ⟨k,hk,⟨he,nl,cl,rfl,hc⟩ | ⟨e,cs,rfl,hg,hu⟩⟩:=o
 ·have:es=[]:=by simpa using he
  subst this
  simp only [go_sem,seval]
 ·rw [List.length_map]
  simp only [go_sem,seval]
theorem OwnS.flen {h:Hp} {ks:List Nat} {v:AV} {es:List Bool} (o:OwnS h ks v es) (h':Hp):f_len h' 1 [v]=some (.int .i64 es.length,.pat [] []):=by
 obtain ⟨k,hk,⟨he,nl,cl,rfl,hc⟩ | ⟨e,cs,rfl,hg,hu⟩⟩:=o
 ·have:es=[]:=by simpa using he
  subst this
  rfl
 ·rw [List.length_map];rfl
end
end Go.Tev
end
section
namespace Go.Tev
def readT (vals:List Typ) (v:Int):Bool:=decide (0≤v)&&(decide (v < (vals.length:Int))&&((vals[v.toNat]?).map fun t=>decide (t.elem.bs=[98,111,111,108])).getD false)
def ifT:List Bool→Bool
 | [a,b]=>a&&b
 | _=>false
def redT (fn:List Step):List Bool→Bool
 | [a,b]=>a&&truthsU fn [true,b]
 | _=>false
def truthN (vals:List Typ) (op:List UInt8) (num value:Int) (fn:List Step) (kids:List Bool):Bool:=
 if decide (op=[99,111,110,115,116]) then decide (num=0)||decide (num=1)
 else if decide (op=[108,105,110,101,97,114]) then false
 else if decide (op=[114,101,97,100]) then readT vals value
 else if decide (op=[105,102]) then ifT kids
 else if decide (op=[114,101,100,117,99,101]) then redT fn kids
 else if decide (op=[99,111,100,101]) then truthsU fn kids
 else holdsU op kids
mutual
def truthPU (vals:List Typ):Pull→Bool
 | .mk op num value _ _ _ _ fn _ kids _=>truthN vals op.bs num value fn.es (truthPs vals kids)
def truthPs (vals:List Typ):List Pull→List Bool
 | []=>[]
 | p :: r=>truthPU vals p :: truthPs vals r
end
def chkC (k:Kernels) (nl cl:Bool) (there:List Bool) (m:Int):List AV:=
 [.sl k.vars.nl (k.vars.es.map Str.av) k.vars.cl,.sl k.wher.nl (k.wher.es.map Lin.av) k.wher.cl,.int .i64 k.inputs,.sl k.values.nl (k.values.es.map Typ.av) k.values.cl,.sl k.list.nl (k.list.es.map Kernel.av) k.list.cl,.sl k.results.nl (k.results.es.map intA) k.results.cl,
  .sl nl (there.map AV.bool) cl,.int .i64 m]
theorem Own.flen {h:Hp} {k esz:Nat} {ag:Bool} {v:AV} {es:List AV} (o:Own h k esz ag v es) (h':Hp):f_len h' 1 [v]=some (.int .i64 es.length,.pat [] []):=by
 rcases o with ⟨rfl,nl,cl,rfl,hc⟩ | ⟨e,cs,rfl,hg,hu⟩
 ·rfl
 ·rfl
section
variable {pg:Pg}
end
end Go.Tev
end
section
namespace Go.Tev
def zeroP:Pull:=.mk ⟨[],by decide⟩ 0 0 ⟨[],by decide⟩ ⟨true,[],true,by decide⟩ false 0 ⟨true,[],true,by decide⟩ true [] true
theorem readOK_in {p:Pull} {v:Int} (h:readOK p v=true):0≤p.value∧p.value < v:=by
 simp only [readOK,Bool.and_eq_true,decide_eq_true_eq] at h
 exact ⟨h.1.1.1.2,h.1.1.2⟩
theorem valid_reads (v:Int):∀ p:Pull,∀ vars,validU v p vars=true→∀ a∈readsU p,0≤a∧a < v:=by
 refine Pull.ind' fun p ih vars h=>?_
 rw [validU_eq] at h
 simp only [Bool.and_eq_true] at h
 obtain ⟨⟨h1,_⟩,h2⟩:=h
 have hk:∀ (l:List Pull),(∀ q∈l,q∈p.kids)→∀ i red,validKs v red p.name vars i l=true→∀ a∈readsL l,0≤a∧a < v:=by
  intro l
  induction l with
  | nil=>intro _ i red _ a ha;simp [readsL] at ha
  | cons q r ih2=>
   intro hm i red hv a ha
   simp only [validKs,Bool.and_eq_true] at hv
   simp only [readsL,List.mem_append] at ha
   rcases ha with ha | ha
   ·exact ih q (hm q (by simp)) _ hv.1 a ha
   ·exact ih2 (fun q hq=>hm q (by simp [hq])) _ red hv.2 a ha
 intro a ha
 rw [readsU_eq,List.mem_append] at ha
 rcases ha with ha | ha
 ·split at ha
  ·rename_i ho
   simp only [List.mem_singleton] at ha
   subst ha
   simp only [decide_eq_true_eq] at ho
   have e1:¬ (p.op.bs=[99,111,110,115,116]):=by rw [ho];decide
   have e2:¬ (p.op.bs=[108,105,110,101,97,114]):=by rw [ho];decide
   have:nodeOK p vars v=readOK p v:=by unfold nodeOK;rw [if_neg e1,if_neg e2,if_pos ho]
   rw [this] at h1
   exact readOK_in h1
  ·simp at ha
 ·exact hk p.kids (fun q hq=>hq) 0 _ h2 a ha
def thereB (there:List Bool) (v:Int):Bool:=(there[v.toNat]?).getD false
section
variable {pg:Pg}
def loopStr (i:Nat):Str:=⟨loopN' i,by simp [loopN',big]⟩
def withLoops (vars:List Str) (n:Nat):List Str:=vars++(List.range n).map loopStr
def readsOK (k:Kernels) (there:List Bool) (p:Pull) (n:Nat) (nt:Int):Bool:=
 pullOK p (withLoops k.vars.es n) k.values.es.length && !(readsV p).any (fun v => !thereB there v||decide (v=nt))
theorem range_mid {n x:Nat} {d r:List Nat} (h:List.range n=d++x :: r):x=d.length∧d.length < n:=by
 have h1:(List.range n)[d.length]?=some x:=by rw [h];simp
 have h2:=congrArg List.length h
 simp at h2
 rw [List.getElem?_range (by omega)] at h1
 cases h1
 exact ⟨rfl,by omega⟩
end
end Go.Tev
end
section
namespace Go.Tev
def kOut (k:Kernels) (q:Kernel):Bool:=decide (q.value < k.inputs)||decide ((k.values.es.length:Int)≤q.value)||decide (q.check < 0)
def kBool (vals:List Typ) (q:Kernel) (t:Typ):Bool:=
 decide (t.elem.bs=[98,111,111,108])&&(!truthPU vals q.body||(decide (q.kind=2) && !truthsU q.fn.es [true,true]))
def kOwn (k:Kernels) (q:Kernel) (i:Nat):Bool:=
 !decide (q.kind=3) || !decide (q.source=q.value)||decide ((i:Int)=0) ||
  (match k.list.es[((i:Int) - 1).toNat]? with | none=>true | some r => !decide (r.value=q.value) || !decide (r.kind=1))
def kScan (k:Kernels) (there:List Bool) (q:Kernel) (t:Typ):Bool:=
 decide ((t.shape.dims.es.length:Int)=0)||decide (0 < (q.fn.es.length:Int))||decide (q.source < 0)||decide ((k.values.es.length:Int)≤q.source) || !thereB there q.source ||
  (match k.values.es[q.source.toNat]? with | none=>true | some u => !typEq u t)
def kPlain (q:Kernel):Bool := !decide (q.source=0) || !decide (q.check=0) || !pullEq q.index zeroP
def kDims (q:Kernel) (t:Typ):List Lin:=if decide (q.kind=3) then t.shape.dims.es.dropLast else t.shape.dims.es
def kBody (k:Kernels) (there:List Bool) (q:Kernel) (n:Nat) (nt:Int):Bool:=
 if decide (q.kind=1) then decide ((q.fn.es.length:Int)=0)&&readsOK k there q.body n nt
 else if decide (q.kind=2) then decide (0 < (n:Int))&&codeOK q.fn.es 2&&readsOK k there q.body n nt
 else if decide (q.kind=3) then readsOK k there q.body n nt&&readsOK k there q.index n nt
 else false
def kernelOK (k:Kernels) (there:List Bool) (q:Kernel) (i:Nat):Bool:=
 !kOut k q&&(match k.values.es[q.value.toNat]? with
  | none=>false
  | some t => !kBool k.values.es q t && !(thereB there q.value&&kOwn k q i) && !(if decide (q.kind=3) then kScan k there q t else kPlain q) &&
   eqL linEq q.space.es (kDims q t)&&kBody k there q (kDims q t).length (if thereB there q.value then q.value else -1))
end Go.Tev
end
section
namespace Go.Tev
def inpT (k:Kernels):List Bool:=List.replicate k.inputs.toNat true++List.replicate (k.values.es.length - k.inputs.toNat) false
def setT (th:List Bool) (q:Kernel):List Bool:=th.set q.value.toNat true
def thereOf (th:List Bool) (d:List Kernel):List Bool:=d.foldl setT th
def runK (k:Kernels):List Bool→List Kernel→Nat→Option Nat
 | _,[],_=>none
 | th,q :: r,i=>if kernelOK k th q i then runK k (setT th q) r (i+1) else some i
def resBad (k:Kernels) (th:List Bool) (v:Int):Bool:=decide (v < 0)||decide ((k.values.es.length:Int)≤v) || !thereB th v
def resultsBad (k:Kernels) (th:List Bool):Bool:=
 decide ((k.results.es.length:Int) < 1)||decide (8 < (k.results.es.length:Int))||k.results.es.any (resBad k th)
def fuseV (k:Kernels):Int × Int:=
 if outsideOK k then
  (match runK k (inpT k) k.list.es 0 with
  | some i=>(i,22)
  | none=>if resultsBad k (thereOf (inpT k) k.list.es) then (k.list.es.length,22) else (k.list.es.length,0))
 else (-1,22)
theorem kernelOK_in {k:Kernels} {th:List Bool} {q:Kernel} {i:Nat} (h:kernelOK k th q i=true):k.inputs≤q.value∧q.value < k.values.es.length∧0≤q.check:=by
 simp only [kernelOK,kOut,Bool.and_eq_true,Bool.not_eq_true',Bool.or_eq_false_iff,decide_eq_false_iff_not] at h
 omega
section
variable {pg:Pg}
theorem c46 (hf:pg.fs 46=some cf46) (k:Kernels) (nl cl:Bool) (there:List Bool) (hth:there.length=k.values.es.length) (m v:Int) :
  Ret pg 46 [.int .i64 v,.fp (.agg k.cells),.fp (.fp (.agg (chkC k nl cl there m)))] (.bool (resBad k there v)):=by
 have h0:decide (v < 0)=false→(0≤v)=True:=fun h=>eq_true (by simpa using h)
 obtain ⟨b,hb⟩:∃ b,decide (v < 0)=false→decide ((k.values.es.length:Int)≤v)=false→there[v.toNat]?=some b:=by
  by_cases hh:v.toNat < there.length
  ·exact ⟨_,fun _ _=>List.getElem?_eq_getElem hh⟩
  ·exact ⟨true,fun x y=>by simp at x y;omega⟩
 have hb':decide (v < 0)=false→decide ((k.values.es.length:Int)≤v)=false→thereB there v=b:=fun x y=>by simp [thereB,hb x y]
 refine Ret.ofX hf ?_
 unfold cf46
 repeat' (first | simp only [chkC,Kernels.cells, *,go_sem,seval] | refine XG_split (fun _=>?_) (fun _=>?_) | refine XC_split (fun _=>?_) (fun _=>?_) | refine And.intro (by kernel_rfl) ?_)
 all_goals (simp_all [resBad])
 all_goals (intro h;omega)
end
end Go.Tev
end
section
namespace Go.Tev
section
variable {pg:Pg}
end
end Go.Tev
end
section
namespace Go.Tev
def few56 (l:Lin):Bool:=(l.ts.es.all fun c => !decide (35 < (c.v.bs.length:Int)))&&decide ((l.ts.es.length:Int)≤14)
def few42 (s:Shape):Bool:=(s.dims.es.all few56)&&(decide ((s.dims.es.length:Int)≤8)&&decide ((s.row.bs.length:Int)≤35))
def few26 (l:List Step):Bool:=(l.all fun s => !(decide (4 < (s.args.es.length:Int))||decide (20 < (s.op.bs.length:Int))))&&decide ((l.length:Int)≤10)
def pcell (p:Pull) (l:List Pull):List AV:=
 [.str p.op.bs,.int .i64 p.num,.int .i64 p.value,.str p.name.bs,.sl p.at_.nl (p.at_.es.map Lin.av) p.at_.cl,.bool p.dyn,.int .i64 p.check,.sl p.fn.nl (p.fn.es.map Step.av) p.fn.cl,.sl p.knl (l.map Pull.av) p.kcl]
mutual
def few41:Pull→Bool
 | .mk op _ _ name at_ _ _ fn _ kids _=>few41s kids&&(few42 ⟨⟨[],by decide⟩,at_⟩&&few26 fn.es&&decide ((name.bs.length:Int)≤35)&&decide ((op.bs.length:Int)≤20))
def few41s:List Pull→Bool
 | []=>true
 | p :: r=>few41 p&&few41s r
end
theorem few41s_eq:∀ l,few41s l=l.all few41
 | []=>by simp [few41s]
 | p :: r=>by simp [few41s,few41s_eq r]
theorem few41_eq (p:Pull):few41 p=(p.kids.all few41&&(few42 ⟨⟨[],by decide⟩,p.at_⟩&&few26 p.fn.es&&decide ((p.name.bs.length:Int)≤35)&&decide ((p.op.bs.length:Int)≤20))):=by
 cases p;rw [few41,few41s_eq];rfl
def few25 (p:Pull):Bool:=decide (nodesU p≤60)&&few41 p
section
variable {pg:Pg}
theorem c56 (hf:pg.fs 56=some cf56) (l:Lin):Ret pg 56 [l.av] (.bool (few56 l)):=by
 have hb:=l.ts.ok
 refine Ret.ofX hf ?_
 unfold cf56
 simp only [go_sem,seval]
 refine XX_listU l.ts.es (fun d e=>setD e (some 3) (.int .i64 d.length)) (fun d r hp=>hp.get 1=some (0,.blk [.int .i64 l.c,.sl l.ts.nl (l.ts.es.map Coef.av) l.ts.cl] 2 true true false)∧(l.ts.es.all fun c => !decide (35 < (c.v.bs.length:Int)))=(r.all fun c => !decide (35 < (c.v.bs.length:Int)))) rfl ?_ ?_ ?_
 ·simp only [go_sem,seval]
 ·rintro hp ⟨h1,hI⟩
  simp only [cf56L0,cf56M0,h1,go_sem,seval]
  simp [few56,hI]
 ·rintro d x r hp hes ⟨h1,hI⟩
  rw [hes] at hb hI h1
  have h0:=h1
  rw [hes]
  simp only [cf56L0,cf56M0,h1,go_sem,seval]
  cases hd:decide (35 < (x.v.bs.length:Int))
  ·simp only [wr_mid hb,go_sem,seval]
   exact ⟨h0,by simpa [hd] using hI⟩
  ·simp only [go_sem,seval]
   simp only [few56,hes,hI,List.all_cons,hd]
   rfl
theorem c42 (hf:pg.fs 42=some cf42) (h56:pg.fs 56=some cf56) (s:Shape):Ret pg 42 [s.av] (.bool (few42 s)):=by
 have hb:=s.dims.ok
 refine Ret.ofX hf ?_
 unfold cf42
 simp only [go_sem,seval]
 refine XX_listU s.dims.es (fun d e=>setD e (some 3) (.int .i64 d.length)) (fun d r hp=>hp.get 1=some (0,.blk [.str s.row.bs,.sl s.dims.nl (s.dims.es.map Lin.av) s.dims.cl] 2 true true false)∧(s.dims.es.all few56)=(r.all few56)) rfl ?_ ?_ ?_
 ·simp only [go_sem,seval]
 ·rintro hp ⟨h1,hI⟩
  repeat' (first | simp only [cf42L0,cf42M0,h1, *,go_sem,seval] | refine XG_split (fun _=>?_) (fun _=>?_) | refine XC_split (fun _=>?_) (fun _=>?_) | refine And.intro (by kernel_rfl) ?_)
  all_goals (simp_all [few42])
  all_goals (intro h;omega)
 ·rintro d x r hp hes ⟨h1,hI⟩
  have hx:=c56 h56 x
  rw [Lin.avc] at hx
  rw [hes] at hb hI h1
  have h0:=h1
  rw [hes]
  simp only [cf42L0,cf42M0,h1,go_sem,seval]
  refine XO_tree (hx) (by simp only [go_sem,seval]) rfl ?_
  cases hd:few56 x
  ·simp only [go_sem,seval]
   simp only [few42,hes,hI,List.all_cons,hd]
   rfl
  ·simp only [wr_mid hb,go_sem,seval]
   exact ⟨h0,by simpa [hd] using hI⟩
theorem c26 (hf:pg.fs 26=some cf26) (nl cl:Bool) (l:List Step) (hb:l.length≤big):Ret pg 26 [.sl nl (l.map Step.av) cl] (.bool (few26 l)):=by
 refine Ret.ofX hf ?_
 unfold cf26
 simp only [go_sem,seval]
 refine XX_listU l (fun d e=>setD e (some 3) (.int .i64 d.length)) (fun d r hp=>(l.all fun s => !(decide (4 < (s.args.es.length:Int))||decide (20 < (s.op.bs.length:Int))))=(r.all fun s => !(decide (4 < (s.args.es.length:Int))||decide (20 < (s.op.bs.length:Int))))) rfl ?_ ?_ ?_
 ·rfl
 ·rintro hp hI
  repeat' (first | simp only [cf26L0,cf26M0, *,go_sem,seval] | refine XG_split (fun _=>?_) (fun _=>?_) | refine XC_split (fun _=>?_) (fun _=>?_) | refine And.intro (by kernel_rfl) ?_)
  all_goals (simp_all [few26])
 ·rintro d x r hp hes hI
  rw [hes] at hb hI
  rw [hes]
  simp only [cf26L0,cf26M0,go_sem,seval]
  cases hd:decide (4 < (x.args.es.length:Int))
  ·simp only [go_sem,seval]
   cases hd2:decide (20 < (x.op.bs.length:Int))
   ·simp only [wr_mid hb,go_sem,seval]
    simpa [hd,hd2] using hI
   ·simp only [go_sem,seval]
    simp only [few26,hes,hI,List.all_cons,hd,hd2]
    rfl
  ·simp only [go_sem,seval]
   simp only [few26,hes,hI,List.all_cons,hd]
   rfl
theorem c40 (hf:pg.fs 40=some cf40):∀ p:Pull,p.ok→Ret pg 40 [p.av] (.int .i64 (nodesU p)):=by
 refine Pull.ind' fun p ih hp=>?_
 obtain ⟨hb,hk⟩:=(Pull.ok_iff p).1 hp
 refine Ret.ofX hf ?_
 unfold cf40
 simp only [go_sem,seval]
 refine XX_listU p.kids (fun d e=>setD (setD e (some 4) (.int .i64 d.length)) (some 3) (.int .i64 (nodesL 1 d))) (fun d r hp=>hp.get 1=some (0,.blk p.cells 9 true true false)) (by simp only [nodesL];rfl) ?_ ?_ ?_
 ·simp only [go_sem,seval]
  rfl
 ·rintro hp h1
  simp only [Pull.cells,Sl.av,Pull.kav] at h1
  simp only [cf40L0,cf40M0,h1,go_sem,seval]
  exact (nodesU_eq p).symm
 ·rintro d x r hp hes h1
  have h0:=h1
  simp only [Pull.cells,Sl.av,Pull.kav] at h1
  have hx:=ih x (by rw [hes];simp) (hk x (by rw [hes];simp))
  rw [hes] at hb h1
  rw [hes]
  have h2:hp.get 1=some (0,.blk [.str p.op.bs,.int .i64 p.num,.int .i64 p.value,.str p.name.bs,.sl p.at_.nl (p.at_.es.map Lin.av) p.at_.cl,.bool p.dyn,.int .i64 p.check,.sl p.fn.nl (p.fn.es.map Step.av) p.fn.cl,.sl p.knl ((d++x :: r).map Pull.av) p.kcl] 9 true true false):=h1
  simp only [cf40L0,cf40M0,h2,go_sem,seval]
  refine XO_tree (hx) (by simp only [go_sem,seval]) rfl ?_
  simp only [wr_mid hb,nodesL_snoc,go_sem,seval]
  exact h0
theorem c41 (hf:pg.fs 41=some cf41) (h42:pg.fs 42=some cf42) (h56:pg.fs 56=some cf56) (h26:pg.fs 26=some cf26):∀ p:Pull,p.ok→Ret pg 41 [p.av] (.bool (few41 p)):=by
 refine Pull.ind' fun p ih hp=>?_
 obtain ⟨hb,hk⟩:=(Pull.ok_iff p).1 hp
 have a1:=c42 h42 h56 ⟨⟨[],by decide⟩,p.at_⟩
 have a2:=c26 h26 p.fn.nl p.fn.cl p.fn.es p.fn.ok
 rw [Shape.avc] at a1
 refine Ret.ofX hf ?_
 unfold cf41
 simp only [go_sem,seval]
 refine XX_listU p.kids (fun d e=>setD e (some 3) (.int .i64 d.length)) (fun d r hp=>hp.get 1=some (0,.blk (pcell p p.kids) 9 true true false)∧p.kids.all few41=r.all few41) rfl ?_ ?_ ?_
 ·exact ⟨by simp only [go_sem,seval];rfl,rfl⟩
 ·rintro hp ⟨h1,hI⟩
  simp only [pcell] at h1
  repeat' (first | simp only [cf41L0,cf41M0, *,go_sem,seval] | refine XG_split (fun _=>?_) (fun _=>?_) | refine XC_split (fun _=>?_) (fun _=>?_) | (refine XO_tree a1 (by simp only [go_sem,seval]) rfl ?_) | (refine XO_tree a2 (by simp only [go_sem,seval]) rfl ?_) | refine And.intro (by kernel_rfl) ?_)
  all_goals (clear h1 a1 a2 hf h42 h56 h26 ih)
  all_goals (rw [few41_eq,hI])
  all_goals (simp_all)
  all_goals (try (intros;omega))
 ·rintro d x r hp hes ⟨h1,hI⟩
  have hx:=ih x (by rw [hes];simp) (hk x (by rw [hes];simp))
  have hI2:=hI
  rw [hes] at hb hI h1
  have h0:=h1
  simp only [pcell] at h1
  rw [hes]
  have hx':=hx
  rw [Pull.avc] at hx'
  simp only [cf41L0,cf41M0,h1,go_sem,seval]
  first | refine XO_tree hx (by simp only [go_sem,seval]) rfl ?_ | refine XO_tree hx' (by simp only [go_sem,seval]) rfl ?_
  cases hd:few41 x
  ·simp only [go_sem,seval]
   rw [few41_eq,hI2,List.all_cons,hd]
   rfl
  ·simp only [wr_mid hb,go_sem,seval]
   exact ⟨h0,by rw [hI,List.all_cons,hd];rfl⟩
theorem c25 (hf:pg.fs 25=some cf25) (h40:pg.fs 40=some cf40) (h41:pg.fs 41=some cf41) (h42:pg.fs 42=some cf42) (h56:pg.fs 56=some cf56) (h26:pg.fs 26=some cf26) (p:Pull) (hp:p.ok):Ret pg 25 [p.av] (.bool (few25 p)):=by
 have a1:=c40 h40 p hp
 have a2:=c41 h41 h42 h56 h26 p hp
 rw [Pull.avc] at a1 a2
 refine Ret.ofX hf ?_
 unfold cf25
 repeat' (first | simp only [*,go_sem,seval] | refine XG_split (fun _=>?_) (fun _=>?_) | refine XC_split (fun _=>?_) (fun _=>?_) | (refine XO_tree a1 (by simp only [go_sem,seval]) rfl ?_) | (refine XO_tree a2 (by simp only [go_sem,seval]) rfl ?_) | refine And.intro (by kernel_rfl) ?_)
 all_goals (simp_all [few25])
 all_goals (try (intros;omega))
end
end Go.Tev
end
section
namespace Go.Tev
def readsK (q:Kernel):List Int:=readsV q.body++if decide (q.kind=3) then readsV q.index++[q.source] else []
theorem readsV_len (p:Pull):(readsV p).length≤p.sz:=by
 have e1:=compI_len (sortI (readsU p))
 have e2:=sortI_len (readsU p)
 have e3:=readsU_len p
 simp only [readsV]
 omega
section
variable {pg:Pg} {kb:Nat}
end
section
variable {pg:Pg}
end
end Go.Tev
end
section
namespace Go.Tev
abbrev Sp:=Int × Int
def spAV (s:Sp):AV:=.agg [.int .i64 s.1,.int .i64 s.2]
def spCells:List Sp→List AV
 | []=>[]
 | s :: r => .int .i64 s.1 :: .int .i64 s.2 :: spCells r
theorem spCells_len:∀ l,(spCells l).length=l.length*2
 | []=>rfl
 | s :: r=>by simp only [spCells,List.length_cons,spCells_len r];omega
theorem spCells_un:∀ l,unchunk 2 true (l.map spAV)=some (spCells l)
 | []=>rfl
 | s :: r=>by
  simp [spAV,unchunk,spCells_un r,AV.fits,spCells,AV.cells]
  rfl
theorem spAV_el (l:List Sp):∀ x∈l.map spAV,El 2 true x:=by
 intro x hx
 obtain ⟨b,_,rfl⟩:=List.mem_map.1 hx
 exact ⟨rfl,rfl,rfl⟩
theorem spCells_0:∀ (l:List Sp) (v:Nat) (s:Sp),l[v]?=some s→(spCells l)[v*2]?=some (.int .i64 s.1)∧(spCells l)[v*2+1]?=some (.int .i64 s.2)
 | [],v,s,h=>by simp at h
 | t :: r,0,s,h=>by simp at h;subst h;exact ⟨rfl,rfl⟩
 | t :: r,v+1,s,h=>by
  have:=spCells_0 r v s (by simpa using h)
  rw [show (v+1)*2=v*2+1+1 from by omega]
  simpa [spCells] using this
theorem spCells_set:∀ (l:List Sp) (v:Nat) (a b:Int),((spCells l).set (v*2) (.int .i64 a)).set (v*2+1) (.int .i64 b)=spCells (l.set v (a,b))
 | [],v,a,b=>by simp [spCells]
 | t :: r,0,a,b=>rfl
 | t :: r,v+1,a,b=>by
  rw [show (v+1)*2=v*2+1+1 from by omega]
  simp only [spCells,List.set_cons_succ]
  rw [spCells_set r v a b]
theorem spCells_fst:∀ (l:List Sp) (v:Nat) (a:Int),(spCells l).set (v*2) (.int .i64 a)=spCells (l.modify v (fun s=>(a,s.2)))
 | [],v,a=>by simp [spCells]
 | t :: r,0,a=>rfl
 | t :: r,v+1,a=>by
  rw [show (v+1)*2=v*2+1+1 from by omega]
  simp only [spCells,List.set_cons_succ,List.modify_succ_cons]
  rw [spCells_fst r v a]
theorem spCells_snd:∀ (l:List Sp) (v:Nat) (a:Int),(spCells l).set (v*2+1) (.int .i64 a)=spCells (l.modify v (fun s=>(s.1,a)))
 | [],v,a=>by simp [spCells]
 | t :: r,0,a=>rfl
 | t :: r,v+1,a=>by
  rw [show (v+1)*2=v*2+1+1 from by omega]
  simp only [spCells,List.set_cons_succ,List.modify_succ_cons]
  rw [spCells_snd r v a]
theorem snap_sp {h:Hp} {e:Nat} {sp:List Sp} (hg:h.get 9=some (e,.blk (spCells sp) 2 true false false)) (d:Nat):Tev.snap (d+2) h (.rf 9 e 0 sp.length sp.length)=some (.sl false (sp.map spAV) false,[9]):=by
 obtain ⟨cs',h1,h2,h3,h4⟩:=chunk_el (spAV_el sp)
 rw [spCells_un] at h1
 cases h1
 have h5:=h4 []
 rw [List.append_nil,List.length_map] at h5
 have ht:treeL (sp.map spAV)=true:=treeL_map (f:=spAV) (fun s=>by simp [spAV,go_sem]) sp
 have h6:mapS (Tev.snap (d+1) h) (sp.map spAV)=some (sp.map spAV,[]):=mapS_tree d h ht
 rw [snapX]
 simp [hg,h5,h6,AV.tree]
def setTo (sp:List Sp) (v:Int) (x:Int):List Sp:=sp.modify v.toNat (fun s=>(s.1,x))
def setFrom (sp:List Sp) (v:Int) (x:Int):List Sp:=sp.modify v.toNat (fun s=>(x,s.2))
def fromOf (sp:List Sp) (v:Int):Int:=match sp[v.toNat]? with | some s=>s.1 | none=>0
def spInit (V i:Nat):List Sp:=List.replicate i (-1,-1)++List.replicate (V - i) (-2,-2)
def spReads (sp:List Sp) (i:Nat) (l:List Int):List Sp:=l.foldl (fun s v=>setTo s v i) sp
def spStep (sp:List Sp) (i:Nat) (q:Kernel):List Sp:=
 spReads (setTo (if decide (fromOf sp q.value = -2) then setFrom sp q.value i else sp) q.value i) i (readsK q)
def spRun:List Sp→Nat→List Kernel→List Sp
 | sp,_,[]=>sp
 | sp,i,q :: r=>spRun (spStep sp i q) (i+1) r
def spRes (sp:List Sp) (n:Nat) (l:List Int):List Sp:=l.foldl (fun s v=>setTo s v n) sp
def spansK (k:Kernels):List Sp:=spRes (spRun (spInit k.values.es.length k.inputs.toNat) 0 k.list.es) k.list.es.length k.results.es
theorem setTo_len (sp:List Sp) (v x:Int):(setTo sp v x).length=sp.length:=by simp [setTo]
theorem setFrom_len (sp:List Sp) (v x:Int):(setFrom sp v x).length=sp.length:=by simp [setFrom]
theorem spReads_len (i:Nat):∀ (l:List Int) (sp:List Sp),(spReads sp i l).length=sp.length
 | [],sp=>rfl
 | v :: r,sp=>by simp only [spReads,List.foldl_cons];exact (spReads_len i r _).trans (setTo_len _ _ _)
theorem spReads_snoc (sp:List Sp) (i:Nat) (d:List Int) (x:Int):spReads sp i (d++[x])=setTo (spReads sp i d) x i:=by simp [spReads]
theorem spStep_len (sp:List Sp) (i:Nat) (q:Kernel):(spStep sp i q).length=sp.length:=by
 simp only [spStep,spReads_len,setTo_len];split<;>simp [setFrom_len]
theorem spRun_len:∀ (l:List Kernel) (sp:List Sp) (i:Nat),(spRun sp i l).length=sp.length
 | [],sp,i=>rfl
 | q :: r,sp,i=>by rw [spRun,spRun_len r,spStep_len]
theorem spRun_snoc:∀ (d:List Kernel) (sp:List Sp) (i:Nat) (q:Kernel),spRun sp i (d++[q])=spStep (spRun sp i d) (i+d.length) q
 | [],sp,i,q=>rfl
 | x :: r,sp,i,q=>by
  simp only [List.cons_append,spRun,spRun_snoc r,List.length_cons]
  congr 1;omega
theorem spInit_len {V i:Nat} (h:i≤V):(spInit V i).length=V:=by simp [spInit];omega
theorem spInit_set {V i:Nat} (h:i < V):(spInit V i).set i (-1,-1)=spInit V (i+1):=by
 obtain ⟨m,rfl⟩:∃ m,V=i+(m+1):=⟨V - i - 1,by omega⟩
 simp only [spInit]
 rw [List.set_append_right _ _ (by simp)]
 have e1:i+(m+1) - i=m+1:=by omega
 have e2:i+(m+1) - (i+1)=m:=by omega
 rw [e1,e2,List.replicate_succ (n:=m),List.replicate_succ' (n:=i)]
 simp
theorem readsOK_mem {k:Kernels} {th:List Bool} {p:Pull} {n:Nat} {nt:Int} (h:readsOK k th p n nt=true):∀ a∈readsV p,0≤a∧a < k.values.es.length∧thereB th a=true∧a ≠ nt:=by
 intro a ha
 simp only [readsOK,pullOK,Bool.and_eq_true,Bool.not_eq_true'] at h
 have h2:=h.2
 rw [List.any_eq_false] at h2
 have h3:=h2 a ha
 simp only [Bool.or_eq_true,Bool.not_eq_true',decide_eq_true_eq,not_or,Bool.not_eq_false] at h3
 have ha':=ha
 simp only [readsV,mem_compI,mem_sortI] at ha'
 obtain ⟨h4,h5⟩:=valid_reads _ p _ h.1.2 a ha'
 exact ⟨h4,h5,h3.1,h3.2⟩
theorem kernelOK_reads {k:Kernels} {th:List Bool} {q:Kernel} {i:Nat} (h:kernelOK k th q i=true):∀ a∈readsK q,0≤a∧a < k.values.es.length∧thereB th a=true:=by
 intro a ha
 simp only [kernelOK,Bool.and_eq_true] at h
 obtain ⟨_,h⟩:=h
 split at h
 ·cases h
 rename_i t ht
 simp only [Bool.and_eq_true,Bool.not_eq_true'] at h
 obtain ⟨⟨⟨⟨_,_⟩,h3⟩,_⟩,h5⟩:=h
 simp only [readsK,List.mem_append] at ha
 simp only [kBody] at h5
 split at h5
 ·rename_i h6
  simp only [Bool.and_eq_true] at h5
  have h7:decide (q.kind=3)=false:=by simp at h6 ⊢;omega
  rw [h7] at ha
  rcases ha with ha | ha
  ·obtain ⟨x1,x2,x3,_⟩:=readsOK_mem h5.2 a ha;exact ⟨x1,x2,x3⟩
  ·simp at ha
 split at h5
 ·rename_i h6
  simp only [Bool.and_eq_true] at h5
  have h7:decide (q.kind=3)=false:=by simp at h6 ⊢;omega
  rw [h7] at ha
  rcases ha with ha | ha
  ·obtain ⟨x1,x2,x3,_⟩:=readsOK_mem h5.2 a ha;exact ⟨x1,x2,x3⟩
  ·simp at ha
 split at h5
 ·rename_i h6
  simp only [Bool.and_eq_true] at h5
  rw [if_pos h6] at h3 ha
  rcases ha with ha | ha
  ·obtain ⟨x1,x2,x3,_⟩:=readsOK_mem h5.1 a ha;exact ⟨x1,x2,x3⟩
  ·rw [List.mem_append] at ha
   rcases ha with ha | ha
   ·obtain ⟨x1,x2,x3,_⟩:=readsOK_mem h5.2 a ha;exact ⟨x1,x2,x3⟩
   ·simp only [List.mem_singleton] at ha
    subst ha
    simp only [kScan,Bool.or_eq_false_iff,decide_eq_false_iff_not,Bool.not_eq_false'] at h3
    exact ⟨by omega,by omega,h3.1.2⟩
 ·cases h5
theorem runK_none {k:Kernels}:∀ (l:List Kernel) (th:List Bool) (i:Nat),runK k th l i=none→∀ d q r,l=d++q :: r→kernelOK k (thereOf th d) q (i+d.length)=true
 | [],th,i,_,d,q,r,he=>by cases d<;>simp at he
 | x :: l,th,i,h,d,q,r,he=>by
  simp only [runK] at h
  split at h
  ·rename_i hx
   cases d with
   | nil=>simp at he;obtain ⟨rfl,rfl⟩:=he;exact hx
   | cons y d=>
    simp at he
    obtain ⟨rfl,rfl⟩:=he
    have:=runK_none _ _ _ h d q r rfl
    rw [List.length_cons,show i+(d.length+1)=i+1+d.length from by omega]
    exact this
  ·cases h
structure FuseOK (k:Kernels):Prop where
 out:outsideOK k=true
 ker:∀ d q r,k.list.es=d++q :: r→kernelOK k (thereOf (inpT k) d) q d.length=true
 res:∀ v∈k.results.es,0≤v∧v < k.values.es.length∧thereB (thereOf (inpT k) k.list.es) v=true
 one:0 < k.results.es.length
theorem fuseOK_of {k:Kernels} (h:(fuseV k).2=0):FuseOK k:=by
 simp only [fuseV] at h
 split at h
 ·rename_i ho
  split at h
  ·simp at h
  ·rename_i hr
   split at h
   ·simp at h
   ·rename_i hb
    simp only [resultsBad,Bool.or_eq_true,not_or,Bool.not_eq_true,decide_eq_true_eq,decide_eq_false_iff_not,List.any_eq_false] at hb
    obtain ⟨⟨h1,h2⟩,h3⟩:=hb
    refine ⟨ho,fun d q r he=>by simpa using runK_none _ _ _ hr d q r he,fun v hv=>?_,by omega⟩
    have h4:=h3 v hv
    simp only [resBad,Bool.or_eq_false_iff,decide_eq_false_iff_not,Bool.not_eq_false',not_or,Bool.not_eq_true,Bool.or_eq_true,decide_eq_true_eq] at h4
    obtain ⟨⟨x1,x2⟩,x3⟩:=h4
    exact ⟨by omega,by omega,by simpa using x3⟩
 ·simp at h
theorem fuse_code {k:Kernels}:(fuseV k).2=0∨(fuseV k).2=22:=by
 simp only [fuseV]
 split
 ·split
  ·exact .inr rfl
  ·split
   ·exact .inr rfl
   ·exact .inl rfl
 ·exact .inr rfl
end Go.Tev
end
section
namespace Go.Tev
def ascC:List AV:=(List.range 256).map fun i => .bool (decide (48≤i)&&decide (i≤57))
theorem ascC_get (c:UInt8):ascC[c.toNat]?=some (.bool (digit c)):=by
 have h:=UInt8.toNat_lt c
 simp only [ascC,List.getElem?_map]
 rw [List.getElem?_range h]
 rfl
section
variable {pg:Pg}
theorem c171 (hf:pg.fs 171=some cf171) (c:UInt8):Ret pg 171 [.fp (.agg ascC),.int .u8 c.toNat] (.bool (digit c)):=by
 have h:=UInt8.toNat_lt c
 have e1:(0≤(c.toNat:Int))=True:=eq_true (by omega)
 have e2:((c.toNat:Int) < ((256:Nat):Int))=True:=eq_true (by omega)
 have e3:((c.toNat:Int) < 256)=True:=eq_true (by omega)
 refine Ret.ofX hf ?_
 unfold cf171
 have hg:=ascC_get c
 simp only [e1,e2,e3,Nat.mul_one,hg,go_sem,seval]
end
end Go.Tev
end
