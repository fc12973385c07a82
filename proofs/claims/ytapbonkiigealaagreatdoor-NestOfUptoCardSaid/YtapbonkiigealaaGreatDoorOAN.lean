import Derived.Test.YtapbonkiigealaaGreatDoorOAM
import Derived.Lib.AtoiAllCases
import Derived.Test.YtapbonkiigealaaGreatDoorOAG
import Derived.Lib.SlicesCompact
import Derived.Lib.ItoaNum
import Derived.Lib.AtoiErrMem
import Derived.Sort.Grow
import Derived.KernelRfl
import Derived.Shelf.Strconv.Itoa3
import Derived.Shelf.LaysM
import Derived.Shelf.LaysC
import Derived.Shelf.Strconv.AtoiAll
import Derived.Shelf.Sort.Plain
import Derived.Shelf.Slices.CompactI
import Derived.Shelf.Slices.In.SortNone
import Derived.Ground.Names2Prog
import Derived.Test.YtapbonkiigealaaGreatDoorProg
import Derived.Test.YtapbonkiigealaaGreatDoorOAJ
import Derived.Lib.AppendIntMem
set_option linter.all false
section
namespace Go.Tev
def exAtoi (args:List AV) (_:Nat) (h:Hp):Option (AV × Hp):=
 match args with
 | [.str s]=>
  if s.length≤16777216 then
   match Lib.atoiAll s with
   | .ok v=>some (.tup [.int .i64 v,.nili],h)
   | .range=>some (.tup [.int .i64 (Lib.atoiSat s),.ifc .top],h)
   | _=>some (.tup [.int .i64 0,.ifc .top],h)
  else none
 | _=>none
def exItoa (args:List AV) (_:Nat) (h:Hp):Option (AV × Hp):=
 match args with
 | [.int .i64 n]=>if 0≤n∧n≤9223372036854775807 then some (.str (digs 20 n.toNat),h) else none
 | _=>none
def intsOf:List AV→Option (List Int)
 | []=>some []
 | .int .i64 n :: r=>(intsOf r).map (n :: ·)
 | _=>none
def exSort (args:List AV) (_:Nat) (h:Hp):Option (AV × Hp):=
 match args with
 | [.sl _ [] _]=>some (.tup [],h)
 | [.rf k e off len _]=>
  match h.get k with
  | some (e',.blk cs 1 false ti false)=>
   if e'=e∧off+len≤cs.length∧len≤16777216 then
    match intsOf ((cs.drop off).take len) with
    | some zs=>some (.tup [],h.put k e (.blk (writeA cs off ((sortI zs).map intA)) 1 false ti false))
    | none=>none
   else none
  | _=>none
 | _=>none
def exComp (args:List AV) (_:Nat) (h:Hp):Option (AV × Hp):=
 match args with
 | [.sl nl [] cl]=>some (.sl nl [] cl,h)
 | [.rf k e off len cap]=>
  match h.get k with
  | some (e',.blk cs 1 false ti false)=>
   if e'=e∧off+len≤cs.length∧len≤16777216 then
    match intsOf ((cs.drop off).take len) with
    | some zs=>some (.rf k e off (compI zs).length cap,h.put k e (.blk (writeA cs off ((compI zs++List.replicate (zs.length - (compI zs).length) 0).map intA)) 1 false ti false))
    | none=>none
   else none
  | _=>none
 | _=>none
structure Ora (pg:Pg):Prop where
 f92:pg.fs 92=none
 f93:pg.fs 93=none
 f75:pg.fs 75=none
 f76:pg.fs 76=none
 atoi:pg.ex 92=some exAtoi
 itoa:pg.ex 93=some exItoa
 sort:pg.ex 75=some exSort
 comp:pg.ex 76=some exComp
section
variable {pg:Pg}
theorem ret_ex {f:Nat} {g:List AV→Nat→Hp→Option (AV × Hp)} (hf:pg.fs f=none) (hx:pg.ex f=some g) {vs:List AV} {r:AV} (hg:g vs 0 []=some (r,[])) (hr:r.tree=true):Ret pg f vs r:=
 ⟨1,by simp only [callP,callN,hf,hx,hg,conv_tree hr]⟩
theorem c108 (A:Ora pg) (hf:pg.fs 108=some cf108) (i:Nat) (hi:i < 10):Ret pg 108 [.int .i64 i] (.str (loopN' i)):=by
 have h93:Ret pg 93 [.int .i64 (i:Int)] (.str [UInt8.ofNat (48+i)]):=by
  refine ret_ex A.f93 A.itoa ?_ rfl
  simp only [exItoa]
  rw [if_pos (by omega)]
  simp only [Int.toNat_natCast,digs]
  rw [if_pos hi]
 have h0:decide ((i:Int) < 0)=false:=by simp
 refine Ret.ofX hf ?_
 unfold cf108
 simp only [h0,go_sem,seval]
 refine XO_tree h93 (by simp only [go_sem,seval]) rfl ?_
 simp only [go_sem,seval]
 rfl
def nm:Bool→List UInt8→Bool
 | _,[]=>true
 | fst,c :: r=>(letter c||(!fst&&digit c))&&nm false r
theorem nm_all:∀ r,nm false r=r.all (fun x=>letter x||digit x)
 | []=>rfl
 | c :: r=>by simp [nm,nm_all r]
theorem nameU_plain {s:List UInt8} (h:s.head? ≠ some 95):nameU s=(nm true s&&(!decide (s=[])&&decide ((s.length:Int)≤30))):=by
 cases s with
 | nil=>rfl
 | cons c t=>
  have hc:c ≠ 95:=fun e=>h (by simp [e])
  simp only [nameU,if_neg hc,nm,nm_all]
  have:decide ((c :: t).length≤30)=decide (((c :: t).length:Int)≤30):=by
   rw [decide_eq_decide];omega
  rw [this]
  cases letter c<;>cases (t.all fun x=>letter x||digit x)<;>cases decide (((c :: t).length:Int)≤30)<;>rfl
theorem nameU_under (t:List UInt8):nameU (95 :: t)=atoiName t:=by
 rw [atoiName_eq]
 simp only [nameU,if_true,List.length_cons]
 cases h:decide (t.length+1≤10)
 ·simp
 ·have:t.length+1≤30:=by simp at h;omega
  simp [this]
set_option maxHeartbeats 8000000 in
theorem c57 (A:Ora pg) (hf:pg.fs 57=some cf57) (h91:pg.fs 91=some cf91) (h126:pg.fs 126=some cf126) (s:Str):Ret pg 57 [.str s.bs] (.bool (nameU s.bs)):=by
 obtain ⟨s,hb⟩:=s
 have a91:=c91 h91 h126 s [95]
 have hb':s.length≤16777216:=by simpa [big] using hb
 refine Ret.ofX hf ?_
 unfold cf57
 simp only [go_sem,seval]
 refine XO_tree a91 (by simp only [go_sem,seval]) rfl ?_
 cases hu:(decide ([(95:UInt8)].length≤s.length)&&decide (s.take [(95:UInt8)].length=[95]))
 case true=>
  obtain ⟨t,rfl⟩:∃ t,s=95 :: t:=by
   cases s with
   | nil=>simp at hu
   | cons c t=>simp at hu;exact ⟨t,by rw [hu]⟩
  have hlen:(((95:UInt8) :: t).length:Int)=(t.length:Int)+1:=by simp
  have hlen2:((t.length+1:Nat):Int)=(t.length:Int)+1:=by simp
  have hs1:∀ h,f_sls true false [.str (95 :: t),.int .i64 1]=some (.str t,.pat [] [])∧h=h:=fun (h:Hp)=>by
   refine ⟨?_,rfl⟩
   simp only [f_sls,optI,Bool.false_eq_true,if_false,if_true,Option.getD_none,Option.getD_some]
   rw [if_pos ⟨by omega,by simp;omega,by omega⟩]
   simp [val]
  have hs2:=(hs1 []).1
  have hn:nameU (95 :: t)=atoiName t:=nameU_under t
  have htl:t.length≤16777216:=by simp at hb';omega
  have hex:exAtoi [.str t] 0 []=(match Lib.atoiAll t with | .ok v=>some (.tup [.int .i64 v,.nili],[]) | .range=>some (.tup [.int .i64 (Lib.atoiSat t),.ifc .top],[]) | _=>some (.tup [.int .i64 0,.ifc .top],[])):=by
   simp only [exAtoi];rw [if_pos htl]
  rw [hn]
  simp only [↓hs2,go_sem,seval]
  cases hat:Lib.atoiAll t
  case range=>
   rw [hat] at hex
   refine XO_tree (ret_ex A.f92 A.atoi hex (by simp [AV.tree,treeL])) (by simp only [go_sem,seval]) rfl ?_
   simp only [go_sem,seval]
   refine And.intro (by kernel_rfl) ?_
   simp only [atoiName,hat]
  case ok v=>
   rw [hat] at hex
   refine XO_tree (ret_ex A.f92 A.atoi hex (by simp [AV.tree,treeL])) (by simp only [go_sem,seval]) rfl ?_
   have hres:atoiName t=(decide (0 < v)&&decide ((t.length:Int)+1≤10)&&decide (digs 20 v.toNat=t)):=by simp only [atoiName,hat]
   rw [hres]
   cases b1:decide (0 < v)
   case false=>
    simp only [b1,go_sem,seval]
    first | (refine And.intro (by kernel_rfl) ?_;rfl) | kernel_rfl
   have hv0:0 < v:=by simpa using b1
   have hvb:=Lib.atoiAll_bounds hat
   have hit:Ret pg 93 [.int .i64 v] (.str (digs 20 v.toNat)):=by
    refine ret_ex A.f93 A.itoa ?_ rfl
    simp only [exItoa]
    rw [if_pos (by omega)]
   cases b2:decide ((t.length:Int)+1≤10)
   case false=>
    simp only [b1,hlen,hlen2,b2,go_sem,seval]
    first | (refine And.intro (by kernel_rfl) ?_;rfl) | kernel_rfl
   simp only [b1,hlen,hlen2,b2,go_sem,seval]
   refine XO_tree hit (by simp only [go_sem,seval]) rfl ?_
   simp only [↓hs2,go_sem,seval]
   first | (refine And.intro (by kernel_rfl) ?_;rfl) | kernel_rfl
  rw [hat] at hex
  refine XO_tree (ret_ex A.f92 A.atoi hex (by simp [AV.tree,treeL])) (by simp only [go_sem,seval]) rfl ?_
  simp only [go_sem,seval]
  refine And.intro (by kernel_rfl) ?_
  simp only [atoiName,hat]
 case false=>
  have hh:s.head? ≠ some 95:=by
   intro he
   cases s with
   | nil=>simp at he
   | cons c t=>simp at he;subst he;simp at hu
  rw [nameU_plain hh]
  simp only [go_sem,seval]
  refine XX_listU s (fun d e=>setD e (some 36) (.int .i64 d.length)) (fun d r hp=>nm true s=nm d.isEmpty r) rfl ?_ ?_ ?_
  ·rfl
  ·rintro hp hI
   have:nm true s=true:=by rw [hI];simp [nm]
   rw [this]
   cases c1:decide (s=[])
   ·simp only [cf57L0,cf57M0,c1,go_sem,seval]
   ·simp only [cf57L0,cf57M0,c1,go_sem,seval]
  ·rintro d c r hp hes hI
   rw [hes] at hb hI
   have hw:=wr_mid hb
   rw [hes]
   have hnm:nm true (d++c :: r)=((letter c||(!d.isEmpty&&digit c))&&nm false r):=hI
   have hde:decide ((d.length:Int)=0)=d.isEmpty:=by
    cases d with
    | nil=>simp
    | cons x r=>simp;omega
   have happ:(d++[c]).isEmpty=false:=by simp
   have hlet:letter c=(!(decide ((c.toNat:Int) < 97)) && !(decide ((122:Int) < c.toNat))):=by
    simp only [letter]
    by_cases h1:97≤c.toNat<;>by_cases h2:c.toNat≤122<;>simp [h1,h2]<;>omega
   have hdig:digit c=(!(decide ((c.toNat:Int) < 48)) && !(decide ((57:Int) < c.toNat))):=by
    simp only [digit]
    by_cases h1:48≤c.toNat<;>by_cases h2:c.toNat≤57<;>simp [h1,h2]<;>omega
   rw [hlet,hdig] at hnm
   clear hlet hdig hI hes a91 hu hh hb'
   cases e1:decide ((c.toNat:Int) < 97)<;>cases e2:decide ((122:Int) < c.toNat)<;>cases e3:d.isEmpty<;>cases e4:decide ((c.toNat:Int) < 48)<;>cases e5:decide ((57:Int) < c.toNat)
   all_goals (rw [e1,e2,e3,e4,e5] at hnm)
   all_goals (rw [e3] at hde)
   all_goals (simp only [Bool.not_true,Bool.not_false,Bool.and_true,Bool.and_false,Bool.or_true,Bool.or_false,Bool.true_and,Bool.false_and] at hnm)
   all_goals (rw [hnm])
   all_goals (simp only [cf57L0,cf57M0,e1,e2,hde,e4,e5,hw,happ,go_sem,seval])
end
end Go.Tev
end
section
namespace Go.Tev
open Go.Sort
theorem insI_perm (x:Int):∀ l,(insI x l).Perm (x :: l)
 | []=>List.Perm.refl _
 | y :: r=>by
  simp only [insI]
  split
  ·exact List.Perm.refl _
  ·exact ((insI_perm x r).cons y).trans (List.Perm.swap x y r)
theorem sortI_perm:∀ l,(sortI l).Perm l
 | []=>List.Perm.refl _
 | x :: r=>(insI_perm x _).trans ((sortI_perm r).cons x)
theorem insI_sorted (x:Int):∀ l:List Int,l.Pairwise (· ≤ ·)→(insI x l).Pairwise (· ≤ ·)
 | [],_=>by simp [insI]
 | y :: r,h=>by
  simp only [insI]
  rw [List.pairwise_cons] at h
  split
  ·rename_i hxy
   rw [List.pairwise_cons]
   refine ⟨?_,List.pairwise_cons.2 h⟩
   intro a ha
   rcases List.mem_cons.1 ha with rfl | ha
   ·exact hxy
   ·exact Int.le_trans hxy (h.1 a ha)
  ·rename_i hxy
   rw [List.pairwise_cons]
   refine ⟨?_,insI_sorted x r h.2⟩
   intro a ha
   rcases (mem_insI x a r).1 ha with rfl | ha
   ·omega
   ·exact h.1 a ha
theorem sortI_sorted:∀ l:List Int,(sortI l).Pairwise (· ≤ ·)
 | []=>List.Pairwise.nil
 | x :: r=>insI_sorted x _ (sortI_sorted r)
theorem sorted_unique:∀ {a b:List Int},a.Perm b→a.Pairwise (· ≤ ·)→b.Pairwise (· ≤ ·)→a=b
 | [],b,h,_,_=>(List.Perm.nil_eq h)
 | x :: r,[],h,_,_=>absurd h.symm.nil_eq (by simp)
 | x :: r,y :: s,h,ha,hb=>by
  rw [List.pairwise_cons] at ha hb
  have h1:x≤y:=by
   have:y∈x :: r:=h.symm.subset (by simp)
   rcases List.mem_cons.1 this with rfl | hy
   ·exact Int.le_refl _
   ·exact ha.1 y hy
  have h2:y≤x:=by
   have:x∈y :: s:=h.subset (by simp)
   rcases List.mem_cons.1 this with rfl | hx
   ·exact Int.le_refl _
   ·exact hb.1 x hx
  obtain rfl:x=y:=by omega
  rw [sorted_unique (List.Perm.cons_inv h) ha.2 hb.2]
theorem sortI_eq (l:List Int):(l.mergeSort fun x y=>decide (x≤y))=sortI l:=by
 refine sorted_unique ((List.mergeSort_perm l _).trans (sortI_perm l).symm) ?_ (sortI_sorted l)
 have:=List.pairwise_mergeSort (le:=fun x y:Int=>decide (x≤y)) (by intro a b c h1 h2;simp at *;omega) (by intro a b;simp;omega) l
 exact this.imp (by intro a b h;simpa using h)
theorem compI_snoc (x:Int):∀ l:List Int,compI (l++[x])=compI l++(if l.getLast?=some x then [] else [x])
 | []=>by simp [compI]
 | [a]=>by
  simp only [List.cons_append,List.nil_append,compI,List.getLast?_singleton,Option.some.injEq]
  split<;>simp [*]
 | a :: b :: r=>by
  have ih:=compI_snoc x (b :: r)
  simp only [List.cons_append] at ih ⊢
  simp only [compI,ih,List.getLast?_cons_cons]
  split<;>simp
theorem compact_upTo (zs:List Int):∀ m,m≤zs.length→Lib.compactUpTo zs.toArray m=compI (zs.take m)
 | 0,_=>by simp [Lib.compactUpTo,compI]
 | m+1,h=>by
  have ih:=compact_upTo zs m (by omega)
  have hm:zs.toArray[m]! = zs[m]'(by omega):=by rw [getElem!_pos _ _ (by simp;omega)];simp
  rw [List.take_succ_eq_append_getElem (by omega),compI_snoc,← ih]
  simp only [Lib.compactUpTo,List.range_succ,List.filter_append,List.map_append]
  congr 1
  cases m with
  | zero=>
   simp [Lib.keeps,hm]
   rw [List.getElem?_eq_getElem (by omega)]
   rfl
  | succ k=>
   have hk:zs.toArray[k]! = zs[k]'(by omega):=by rw [getElem!_pos _ _ (by simp;omega)];simp
   have hl:(zs.take (k+1)).getLast?=some (zs[k]'(by omega)):=by
    rw [List.take_succ_eq_append_getElem (by omega)]
    exact List.getLast?_concat
   simp only [List.filter_cons,List.filter_nil,Lib.keeps,hm,hl]
   by_cases he:zs[k+1]'(by omega)=zs[k]'(by omega)
   ·simp [hk,he]
   ·have he':¬ zs[k]'(by omega)=zs[k+1]'(by omega):=fun h=>he h.symm
    simp [hk,he,he',hm]
    rw [List.getElem?_eq_getElem (by omega)]
    rfl
theorem compact_eq (zs:List Int):Lib.compact zs=compI zs:=by
 rw [Lib.compact,compact_upTo zs zs.length (Nat.le_refl _),List.take_length]
theorem decDigits_digs:∀ (f u:Nat),u < 10 ^ f→Lib.decDigits u=digs f u∨f=0
 | 0,u,_ => .inr rfl
 | f+1,u,h=>by
  left
  rw [digs,Lib.decDigits]
  by_cases h1:u < 10
  ·rw [dif_pos h1,if_pos h1]
  ·rw [dif_neg h1,if_neg h1]
   rcases decDigits_digs f (u / 10) (by rw [Nat.pow_succ] at h;omega) with h2 | h2
   ·rw [h2]
   ·subst h2;simp at h;omega
theorem itoa_digs {n:Int} (h0:0≤n) (h1:n≤9223372036854775807):Lib.itoa n=digs 20 n.toNat:=by
 rw [Lib.itoa,if_neg (by omega)]
 rcases decDigits_digs 20 n.toNat (by omega) with h | h
 ·exact h
 ·cases h
section
variable {P:Program} {num:Nm} {gl:Nat→Option AV} {gnum:Nat→Nat} {Fb:Nat→Prop} {B0:Nat} {ρ : Rho} {w w':World} {O:Nat→Prop} {h:Hp}
theorem below_evo (H:HpR num Fb B0 ρ w O h) (hb:RowKit.Below w.heap.size w w'):Evo ρ w O ρ w' O∧HpR num Fb B0 ρ w' O h:=by
 have ev:Evo ρ w O ρ w' O:=⟨hb.os,hb.tape,hb.output,hb.size,fun b h1 _=>hb.block b h1,fun _ _ h=>h,fun _ _ _ h=>h⟩
 exact ⟨ev,H.same ev (fun b hO=>hb.block b (H.own b hO).2)⟩
def FnOK (P:Program) (f:Nat):Prop:=∃ fn,P.funcs[f]?=some fn∧fn.body.isSome=true∧fn.name ≠ "runtime.NumGoroutine"
theorem all2_one {R:AV→Value→Prop} {x:AV} {vs:List Value} (h:All2 R [x] vs):∃ c,vs=[c]∧R x c:=by
 cases h with
 | cons h1 h2=>cases h2;exact ⟨_,rfl,h1⟩
theorem itoaOK (hfn:FnOK P (num 93)) (g:Nat) (hg:gl g=some (.agg (Lib.pow10Tab.map fun n => .int .u64 n)))
  (hc:∀ (n:Int),0≤n→n≤9223372036854775807→∀ w:World,(∃ T fr,w.heap[gnum g]?=some (.cells (Lib.pow10Tab.map fun z=>Value.int .u64 z).toArray T fr)) →
   Calls P (num 93) #[.int .i64 n] w fun e w'=>e = .returned (.string ⟨(Lib.itoa n).toArray⟩)∧RowKit.Below w.heap.size w w') :
  CallOK P num gl gnum ⟨fun f' avs kb h=>if f'=93 then exItoa avs kb h else none,fun _ _ _ _=>none⟩:=by
 intro f avs kb h r h' hr
 dsimp only at hr
 split at hr
 case isFalse=>cases hr
 rename_i hf
 subst hf
 refine ⟨hfn,?_⟩
 intro Fb B0 ρ O w vs H hG hv
 unfold exItoa at hr
 split at hr
 case h_2=>cases hr
 rename_i n
 split at hr
 case isFalse=>cases hr
 rename_i hn
 cases hr
 obtain ⟨c,rfl,hrv⟩:=all2_one hv
 cases hrv
 have htab:∃ T fr,w.heap[gnum g]?=some (.cells (Lib.pow10Tab.map fun z=>Value.int .u64 z).toArray T fr):=by
  obtain ⟨⟨_,c,T,fr,h1,h2⟩,hp⟩:=hG g _ hg
  refine ⟨T,fr,?_⟩
  rw [h1]
  have hsz:c.size=Lib.pow10Tab.length:=by rw [h2];simp [AV.cells]
  have hce:c=(Lib.pow10Tab.map fun z=>Value.int .u64 z).toArray:=by
   apply Array.ext
   ·simp [hsz]
   ·intro i hi1 hi2
    obtain ⟨b,off,m,hx,hF,hb,hm,hr⟩:=hp.of_fp
    cases hx
    have hil:i < Lib.pow10Tab.length:=by omega
    have h3:=hm i (by simp only [AV.cells,List.length_map];exact hil)
    have h4:=hr i (.int .u64 (Lib.pow10Tab[i]'hil)) (by simp only [AV.cells,List.getElem?_map,List.getElem?_eq_getElem hil];rfl)
    rw [Nat.zero_add] at h3
    simp only [World.cell?,h1,Option.isSome_none,Bool.false_eq_true,if_false,Array.getElem?_eq_getElem hi1,Option.some.injEq] at h3
    rw [← h3] at h4
    have h5:=h4.of_int
    rw [h5]
    simp
  rw [hce]
 refine (hc n hn.1 hn.2 w htab).mono ?_
 rintro e w' ⟨rfl,hb⟩
 obtain ⟨ev,H'⟩:=below_evo H hb
 refine ⟨_,ρ,O,rfl,ev,H',?_⟩
 rw [itoa_digs hn.1 hn.2]
 exact .str _
theorem atoiOK (hfn:FnOK P (num 92)) (g1 g2:Nat) (hg1:gl g1=some (.ifc .top)) (hg2:gl g2=some (.ifc .top))
  (hok:∀ (s:List UInt8),s.length≤16777216→∀ v,Lib.atoiAll s = .ok v→∀ w:World,Calls P (num 92) #[.string ⟨s.toArray⟩] w fun e w'=>e = .returned (.tuple #[.int .i64 v,.nilIface])∧RowKit.Below w.heap.size w w')
  (hsy:∀ (s:List UInt8),s.length≤16777216→(∀ v,Lib.atoiAll s ≠ .ok v)→Lib.atoiAll s ≠ .range→∀ (w:World) (te:TypeId) (pe:Value),w.cell? ⟨gnum g1,0,none⟩=some (.iface te pe) →
   Calls P (num 92) #[.string ⟨s.toArray⟩] w fun e w'=>∃ t p,e = .returned (.tuple #[.int .i64 0,.iface t p])∧RowKit.Below w.heap.size w w')
  (hra:∀ (s:List UInt8),s.length≤16777216→Lib.atoiAll s = .range→∀ (w:World) (te:TypeId) (pe:Value),w.cell? ⟨gnum g2,0,none⟩=some (.iface te pe) →
   Calls P (num 92) #[.string ⟨s.toArray⟩] w fun e w'=>∃ t p,e = .returned (.tuple #[.int .i64 (Lib.atoiSat s),.iface t p])∧RowKit.Below w.heap.size w w') :
  CallOK P num gl gnum ⟨fun f' avs kb h=>if f'=92 then exAtoi avs kb h else none,fun _ _ _ _=>none⟩:=by
 intro f avs kb h r h' hr
 dsimp only at hr
 split at hr
 case isFalse=>cases hr
 rename_i hf
 subst hf
 refine ⟨hfn,?_⟩
 intro Fb B0 ρ O w vs H hG hv
 have hcell:∀ g,gl g=some (.ifc .top)→∃ te pe,w.cell? ⟨gnum g,0,none⟩=some (.iface te pe):=by
  intro g hg
  obtain ⟨_,hp⟩:=hG g _ hg
  cases hp with
  | fp _ _ _ c hF hb hm hr=>
   have h1:=hm 0 (by simp [AV.cells])
   have h2:=hr 0 (.ifc .top) (by simp [AV.cells])
   simp only [Nat.add_zero] at h1
   rw [h1]
   generalize c 0=ci at h2 ⊢
   cases h2
   exact ⟨_,_,rfl⟩
 unfold exAtoi at hr
 split at hr
 case h_2=>cases hr
 rename_i s
 split at hr
 case isFalse=>cases hr
 rename_i hs
 obtain ⟨c,rfl,hrv⟩:=all2_one hv
 cases hrv
 split at hr
 ·rename_i v ha
  cases hr
  refine (hok s hs v ha w).mono ?_
  rintro e w' ⟨rfl,hb⟩
  obtain ⟨ev,H'⟩:=below_evo H hb
  refine ⟨_,ρ,O,rfl,ev,H',?_⟩
  refine .tup _ _ rfl ?_
  intro i x y hx hy
  match i,hx,hy with
  | 0,hx,hy=>simp at hx hy;subst hx;subst hy;exact .int _ _
  | 1,hx,hy=>simp at hx hy;subst hx;subst hy;exact .nili
  | i+2,hx,hy=>simp at hx
 ·rename_i ha
  cases hr
  obtain ⟨te,pe,hce⟩:=hcell g2 hg2
  refine (hra s hs ha w te pe hce).mono ?_
  rintro e w' ⟨t,p,rfl,hb⟩
  obtain ⟨ev,H'⟩:=below_evo H hb
  refine ⟨_,ρ,O,rfl,ev,H',?_⟩
  refine .tup _ _ rfl ?_
  intro i x y hx hy
  match i,hx,hy with
  | 0,hx,hy=>simp at hx hy;subst hx;subst hy;exact .int _ _
  | 1,hx,hy=>simp at hx hy;subst hx;subst hy;exact .ifc _ _ _ (.top _)
  | i+2,hx,hy=>simp at hx
 ·rename_i ha1 ha2
  cases hr
  obtain ⟨te,pe,hce⟩:=hcell g1 hg1
  refine (hsy s hs (fun v e=>ha1 v e) (fun e=>ha2 e) w te pe hce).mono ?_
  rintro e w' ⟨t,p,rfl,hb⟩
  obtain ⟨ev,H'⟩:=below_evo H hb
  refine ⟨_,ρ,O,rfl,ev,H',?_⟩
  refine .tup _ _ rfl ?_
  intro i x y hx hy
  match i,hx,hy with
  | 0,hx,hy=>simp at hx hy;subst hx;subst hy;exact .int _ _
  | 1,hx,hy=>simp at hx hy;subst hx;subst hy;exact .ifc _ _ _ (.top _)
  | i+2,hx,hy=>simp at hx
theorem intsOf_eq:∀ {cs:List AV} {zs:List Int},intsOf cs=some zs→cs=zs.map intA
 | [],zs,h=>by simp [intsOf] at h;subst h;rfl
 | x :: r,zs,h=>by
  cases x with
  | int k n=>
   cases k<;>simp only [intsOf] at h
   case i64=>
    simp only [Option.map_eq_some_iff] at h
    obtain ⟨l,h1,rfl⟩:=h
    rw [intsOf_eq h1];rfl
   all_goals cases h
  | _=>simp [intsOf] at h
end
end Go.Tev
end
section
namespace Go.Tev
open Go.Sort
section
variable {P:Program} {num:Nm} {gl:Nat→Option AV} {gnum:Nat→Nat} {Fb:Nat→Prop} {B0:Nat} {ρ : Rho} {w w':World} {O:Nat→Prop} {h:Hp}
theorem Rv.int_eq {F:Nat→Prop} {n:Int} {y:Value} (h:Rv num ρ w F (intA n) y):y = .int .i64 n:=by
 have h':Rv num ρ w F (.int .i64 n) y:=h
 cases h';rfl
theorem rowHolds {k e off len:Nat} {cs:List AV} {esz:Nat} {ag ti fz:Bool} {L:Loc} {zs:List Int} (H:HpR num Fb B0 ρ w O h) (hg:h.get k=some (e,.blk cs esz ag ti fz)) (hL : ρ k e=some L)
  (hz:(cs.drop off).take len=zs.map intA) (hl:off+len≤cs.length):Holds (Value.int .i64) w L.b (L.base+off) zs.toArray∧L.b < w.heap.size∧zs.length=len:=by
 obtain ⟨L0,c,T,h1,h2,h3,h4,h5,h6,h7,h8,h9,h10⟩:=H.blk _ _ _ _ _ _ _ hg
 rw [h1] at hL;cases hL
 have hzl:zs.length=len:=by
  have:=congrArg List.length hz
  simp at this;omega
 refine ⟨?_,?_,hzl⟩
 ·intro j hj
  have hj':j < zs.length:=by simpa using hj
  have hx:cs[off+j]?=some (intA (zs[j]'hj')):=by
   have:=congrArg (fun l:List AV=>l[j]?) hz
   simp only [List.getElem?_map,List.getElem?_take,List.getElem?_drop,List.getElem?_eq_getElem hj',Option.map_some] at this
   rw [if_pos (by omega)] at this
   exact this
  obtain ⟨y,hy,hr⟩:=h7 _ _ hx
  have hy2:=hr.int_eq
  subst hy2
  refine ⟨?_,?_⟩
  ·simp only [World.cell?,h4,Option.isSome_none,Bool.false_eq_true,if_false]
   rw [Nat.add_assoc,hy,getElem!_pos zs.toArray j hj]
   simp
  ·simp [World.frozen?,h4]
 ·by_cases hlt:L.b < w.heap.size
  ·exact hlt
  ·simp [Array.getElem?_eq_none (Nat.le_of_not_lt hlt)] at h4
theorem rowPut {k e off len n:Nat} {cs:List AV} {esz:Nat} {ag ti:Bool} {L:Loc} {zs:List Int} (H:HpR num Fb B0 ρ w O h) (hg:h.get k=some (e,.blk cs esz ag ti false)) (hL : ρ k e=some L)
  (hz:zs.length=len) (hl:off+len≤cs.length) :
  Evo ρ w O ρ (putRow (Value.int .i64) (Sort.ahead w n) L.b (L.base+off) zs.toArray) O∧HpR num Fb B0 ρ (putRow (Value.int .i64) (Sort.ahead w n) L.b (L.base+off) zs.toArray) O (h.put k e (.blk (writeA cs off (zs.map intA)) esz ag ti false)):=by
 obtain ⟨L0,c,T,h1,h2,h3,h4,h5,h6,h7,h8,h9,h10⟩:=H.blk _ _ _ _ _ _ _ hg
 rw [h1] at hL;cases hL
 have hget:∀ i,(putCells (Value.int .i64) (L.base+off) zs.toArray c)[i]?=(c[i]?).map fun x=>if L.base+off≤i∧i < L.base+off+zs.length then .int .i64 zs.toArray[i - (L.base+off)]! else x:=by
  intro i
  simp only [putCells,Array.getElem?_mapIdx,List.size_toArray]
 refine H.write (c':=putCells (Value.int .i64) (L.base+off) zs.toArray c) (T:=T) hg h1 ⟨rfl,rfl,rfl,?_,?_,?_⟩ ?_ ?_ ?_
 ·simp [putRow,mapBlock,Sort.ahead]
 ·simp only [putRow,mapBlock,Sort.ahead,Array.getElem?_modify,if_true,h4,Option.map_some,onCells]
 ·intro b hb
  simp only [putRow,mapBlock,Sort.ahead,Array.getElem?_modify]
  rw [if_neg (fun h=>hb h.symm)]
 ·simp only [putCells,Array.size_mapIdx];exact h5
 ·simp only [writeA,List.length_append,List.length_take,List.length_drop,List.length_map];omega
 ·intro i x hx
  rw [hget]
  simp only [writeA,List.append_assoc] at hx
  by_cases hi1:i < off
  ·rw [List.getElem?_append_left (by simp;omega),List.getElem?_take,if_pos hi1] at hx
   obtain ⟨y,hy,hr⟩:=h7 _ _ hx
   refine ⟨y,?_,hr⟩
   rw [hy,Option.map_some,if_neg (by omega)]
  ·rw [List.getElem?_append_right (by simp;omega)] at hx
   have htk:(cs.take off).length=off:=by simp;omega
   rw [htk] at hx
   by_cases hi2:i < off+len
   ·rw [List.getElem?_append_left (by simp;omega),List.getElem?_map] at hx
    have hlt:i - off < zs.length:=by omega
    rw [List.getElem?_eq_getElem hlt,Option.map_some] at hx
    cases hx
    have hcs:i < cs.length:=by omega
    obtain ⟨y,hy,_⟩:=h7 i _ (List.getElem?_eq_getElem hcs)
    refine ⟨_,by rw [hy,Option.map_some,if_pos (by omega)],?_⟩
    have e1:L.base+i - (L.base+off)=i - off:=by omega
    rw [e1,getElem!_pos zs.toArray (i - off) (by simpa using hlt)]
    simp only [List.getElem_toArray]
    exact .int _ _
   ·rw [List.getElem?_append_right (by simp;omega),List.getElem?_drop] at hx
    have e2:off+(zs.map intA).length+(i - off - (zs.map intA).length)=i:=by simp;omega
    rw [e2] at hx
    obtain ⟨y,hy,hr⟩:=h7 _ _ hx
    refine ⟨y,?_,hr⟩
    rw [hy,Option.map_some,if_neg (by omega)]
theorem grow_below (w:World) (os:Array Obj):RowKit.Below w.heap.size w (grow w os) where
 os:=rfl
 tape:=rfl
 output:=rfl
 size:=by simp [grow]
 block:=fun k hk=>by simp [grow,Array.getElem?_append_left hk]
theorem sortOK (hfn:FnOK P (num 75))
  (hc:∀ (blk off cap:Nat) (zs:List Int) (w:World),Holds (Value.int .i64) w blk off zs.toArray→blk < w.heap.size→zs.length≤16777216 →
   Calls P (num 75) #[.slice (some ⟨blk,off,none⟩) zs.length cap] w fun e w'=>e = .returned (.tuple #[])∧∃ n os,w'=grow (putRow (Value.int .i64) (Sort.ahead w n) blk off (sortI zs).toArray) os)
  (hn:∀ (p:Option Addr) (cap:Nat) (w:World),Calls P (num 75) #[.slice p 0 cap] w fun e w'=>e = .returned (.tuple #[])∧w'=w) :
  CallOK P num gl gnum ⟨fun f' avs kb h=>if f'=75 then exSort avs kb h else none,fun _ _ _ _=>none⟩:=by
 intro f avs kb h r h' hr
 dsimp only at hr
 split at hr
 case isFalse=>cases hr
 rename_i hf
 subst hf
 refine ⟨hfn,?_⟩
 intro Fb B0 ρ O w vs H hG hv
 have htup:∀ {ρ : Rho} {w:World} {F:Nat→Prop},Rv num ρ w F (.tup []) (.tuple #[]):=.tup _ _ rfl (fun i x y hx=>by simp at hx)
 unfold exSort at hr
 split at hr
 ·cases hr
  obtain ⟨c,rfl,hrv⟩:=all2_one hv
  have:∃ p cap,c = .slice p 0 cap:=by cases hrv<;>exact ⟨_,_,rfl⟩
  obtain ⟨p,cap,rfl⟩:=this
  refine (hn p cap w).mono ?_
  rintro e w' ⟨rfl,rfl⟩
  exact ⟨_,ρ,O,rfl,Evo.refl _ _ _,H,htup⟩
 ·rename_i k e off len cap
  split at hr
  case h_2=>cases hr
  rename_i e' cs ti hg
  split at hr
  case isFalse=>cases hr
  rename_i hcond
  obtain ⟨rfl,hle,hbig⟩:=hcond
  split at hr
  case h_2=>cases hr
  rename_i zs hzs
  cases hr
  obtain ⟨c,rfl,hrv⟩:=all2_one hv
  cases hrv with
  | rf _ _ _ _ _ cap' L hL hlen hcap ht hroom=>
   obtain ⟨hH,hb,hzl⟩:=rowHolds H hg hL (intsOf_eq hzs) hle
   have hcall:=hc L.b (L.base+off) cap' zs w hH hb (by omega)
   rw [hzl] at hcall
   refine hcall.mono ?_
   rintro e w' ⟨rfl,n,os,rfl⟩
   obtain ⟨ev,H1⟩:=rowPut (n:=n) H hg hL (zs:=sortI zs) (by rw [sortI_len];exact hzl) hle
   obtain ⟨ev2,H2⟩:=below_evo H1 (grow_below _ os)
   exact ⟨_,ρ,O,rfl,ev.trans ev2,H2,htup⟩
 ·cases hr
theorem compOK (hfn:FnOK P (num 76))
  (hc:∀ (blk off cap:Nat) (zs:List Int) (w:World),Holds (Value.int .i64) w blk off zs.toArray→zs.length≤16777216→zs.length≤cap →
   Calls P (num 76) #[.slice (some ⟨blk,off,none⟩) zs.length cap] w fun e w'=>e = .returned (.slice (some ⟨blk,off,none⟩) (compI zs).length cap)∧∃ q,w'=putRow (Value.int .i64) (Sort.ahead w q) blk off (compI zs++List.replicate (zs.length - (compI zs).length) 0).toArray)
  (hn:∀ (p:Option Addr) (cap:Nat) (w:World),Calls P (num 76) #[.slice p 0 cap] w fun e w'=>e = .returned (.slice p 0 cap)∧w'=w) :
  CallOK P num gl gnum ⟨fun f' avs kb h=>if f'=76 then exComp avs kb h else none,fun _ _ _ _=>none⟩:=by
 intro f avs kb h r h' hr
 dsimp only at hr
 split at hr
 case isFalse=>cases hr
 rename_i hf
 subst hf
 refine ⟨hfn,?_⟩
 intro Fb B0 ρ O w vs H hG hv
 unfold exComp at hr
 split at hr
 ·cases hr
  obtain ⟨c,rfl,hrv⟩:=all2_one hv
  have:∃ p cap,c = .slice p 0 cap:=by cases hrv<;>exact ⟨_,_,rfl⟩
  obtain ⟨p,cap,rfl⟩:=this
  refine (hn p cap w).mono ?_
  rintro e w' ⟨rfl,rfl⟩
  exact ⟨_,ρ,O,rfl,Evo.refl _ _ _,H,hrv⟩
 ·rename_i k e off len cap
  split at hr
  case h_2=>cases hr
  rename_i e' cs ti hg
  split at hr
  case isFalse=>cases hr
  rename_i hcond
  obtain ⟨rfl,hle,hbig⟩:=hcond
  split at hr
  case h_2=>cases hr
  rename_i zs hzs
  cases hr
  obtain ⟨c,rfl,hrv⟩:=all2_one hv
  cases hrv with
  | rf _ _ _ _ _ cap' L hL hlen hcap ht hroom=>
   obtain ⟨hH,hb,hzl⟩:=rowHolds H hg hL (intsOf_eq hzs) hle
   have hcl:=compI_len zs
   have hcall:=hc L.b (L.base+off) cap' zs w hH (by omega) (by omega)
   rw [hzl] at hcall
   refine hcall.mono ?_
   rintro e w' ⟨rfl,n,rfl⟩
   have hln:(compI zs++List.replicate (zs.length - (compI zs).length) 0).length=len:=by simp;omega
   obtain ⟨ev,H1⟩:=rowPut (n:=n) H hg hL hln hle
   rw [hzl] at ev H1 ⊢
   exact ⟨_,ρ,O,rfl,ev,H1,.rf _ _ _ _ _ cap' L hL (by omega) hcap ht hroom⟩
 ·cases hr
end
end Go.Tev
end
section
namespace Go.Proofs
open Go.Shelf
def Tryz.laysM171_ren:Go.Shelf.Ren:=⟨fun | 171=>92 | 243=>125 | 246=>157 | 283=>176 | 284=>177 | 285=>178 | 286=>179 | 129=>150 | 317=>194 | 318=>195 | 319=>196 | 320=>197 | 337=>201 | 338=>202 | n=>n,fun | 3=>3 | 9=>9 | 2=>2 | 4=>4 | 171=>226 | 0=>0 | 53=>193 | 37=>143 | 5=>5 | 173=>228 | 212=>247 | 51=>191 | 20=>20 | 213=>248 | 46=>165 | 232=>255 | 233=>256 | n=>n,fun | 17=>2 | 18=>3 | 19=>4 | n=>n⟩
theorem Tryz.laysM171:Go.Proofs.LaysM.n171 Tryz.prog Tryz.laysM171_ren:={
 mixed:=by kernel_rfl
 f129:=Tryz.func150.trans (congrArg some (by kernel_rfl))
 f171:=Tryz.func92.trans (congrArg some (by kernel_rfl))
 f243:=Tryz.func125.trans (congrArg some (by kernel_rfl))
 f246:=Tryz.func157.trans (congrArg some (by kernel_rfl))
 f283:=Tryz.func176.trans (congrArg some (by kernel_rfl))
 f284:=Tryz.func177.trans (congrArg some (by kernel_rfl))
 f285:=Tryz.func178.trans (congrArg some (by kernel_rfl))
 f286:=Tryz.func179.trans (congrArg some (by kernel_rfl))
 f317:=Tryz.func194.trans (congrArg some (by kernel_rfl))
 f318:=Tryz.func195.trans (congrArg some (by kernel_rfl))
 f319:=Tryz.func196.trans (congrArg some (by kernel_rfl))
 f320:=Tryz.func197.trans (congrArg some (by kernel_rfl))
 f337:=Tryz.func201.trans (congrArg some (by kernel_rfl))
 f338:=Tryz.func202.trans (congrArg some (by kernel_rfl))
 t0:=Tryz.underlying0
 a0:=Tryz.isAgg0
 z0:=Tryz.sizeOf0
 v0:=Tryz.zeroValue0
 t2:=Tryz.underlying2
 a2:=Tryz.isAgg2
 z2:=Tryz.sizeOf2
 v2:=Tryz.zeroValue2
 t3:=Tryz.underlying3
 a3:=Tryz.isAgg3
 z3:=Tryz.sizeOf3
 v3:=Tryz.zeroValue3
 t4:=Tryz.underlying4
 a4:=Tryz.isAgg4
 z4:=Tryz.sizeOf4
 v4:=Tryz.zeroValue4
 t5:=Tryz.underlying5
 a5:=Tryz.isAgg5
 z5:=Tryz.sizeOf5
 v5:=Tryz.zeroValue5
 t9:=Tryz.underlying9
 a9:=Tryz.isAgg9
 z9:=Tryz.sizeOf9
 v9:=Tryz.zeroValue9
 t20:=Tryz.underlying20
 a20:=Tryz.isAgg20
 z20:=Tryz.sizeOf20
 v20:=Tryz.zeroValue20
 t37:=Tryz.underlying143
 a37:=Tryz.isAgg143
 z37:=Tryz.sizeOf143
 v37:=Tryz.zeroValue143
 t46:=Tryz.underlying165
 a46:=Tryz.isAgg165
 z46:=Tryz.sizeOf165
 v46:=Tryz.zeroValue165
 t51:=Tryz.underlying191
 a51:=Tryz.isAgg191
 z51:=Tryz.sizeOf191
 v51:=Tryz.zeroValue191
 t53:=Tryz.underlying193
 a53:=Tryz.isAgg193
 z53:=Tryz.sizeOf193
 v53:=Tryz.zeroValue193
 t171:=Tryz.underlying226
 a171:=Tryz.isAgg226
 z171:=Tryz.sizeOf226
 v171:=Tryz.zeroValue226
 t173:=Tryz.underlying228
 a173:=Tryz.isAgg228
 z173:=Tryz.sizeOf228
 v173:=Tryz.zeroValue228
 t212:=Tryz.underlying247
 a212:=Tryz.isAgg247
 z212:=Tryz.sizeOf247
 v212:=Tryz.zeroValue247
 t213:=Tryz.underlying248
 a213:=Tryz.isAgg248
 z213:=Tryz.sizeOf248
 t232:=Tryz.underlying255
 a232:=Tryz.isAgg255
 z232:=Tryz.sizeOf255
 v232:=Tryz.zeroValue255
 t233:=Tryz.underlying256
 a233:=Tryz.isAgg256
 z233:=Tryz.sizeOf256
 v233:=Tryz.zeroValue256
 g17:=by kernel_rfl
 g18:=by kernel_rfl
 g19:=by kernel_rfl
 i0:=by kernel_rfl
 i2:=by kernel_rfl
 i3:=by kernel_rfl
 i4:=by kernel_rfl
 i5:=by kernel_rfl
 i9:=by kernel_rfl
 i20:=by kernel_rfl
 i37:=by kernel_rfl
 i46:=by kernel_rfl
 i51:=by kernel_rfl
 i53:=by kernel_rfl
 i171:=by kernel_rfl
 i173:=by kernel_rfl
 i212:=by kernel_rfl
 i232:=by kernel_rfl
 i233:=by kernel_rfl
 m17:=by kernel_rfl
 m18:=by kernel_rfl
 m19:=by kernel_rfl}
def Tryz.laysC172_ren:Go.Shelf.Ren:=⟨fun | 172=>91 | 244=>123 | 245=>124 | 247=>152 | 279=>153 | 280=>154 | 281=>155 | 282=>156 | 287=>173 | 316=>174 | 171=>92 | 205=>175 | 321=>192 | 322=>193 | 243=>125 | 246=>157 | 283=>176 | 284=>177 | 285=>178 | 286=>179 | 129=>150 | 317=>194 | 318=>195 | 319=>196 | 320=>197 | 337=>201 | 338=>202 | n=>n,fun | 9=>9 | 3=>3 | 75=>140 | 76=>141 | 4=>4 | 5=>5 | 167=>194 | 37=>143 | 0=>0 | 85=>195 | 2=>2 | 168=>197 | 53=>193 | 175=>220 | 46=>165 | 210=>224 | 127=>242 | 145=>245 | 143=>243 | 21=>21 | 171=>226 | 173=>228 | 212=>247 | 51=>191 | 20=>20 | 213=>248 | 232=>255 | 233=>256 | 80=>258 | n=>n,fun | 15=>0 | 16=>1 | 17=>2 | 18=>3 | 19=>4 | n=>n⟩
theorem Tryz.laysC172:Go.Proofs.LaysC.n172 Tryz.prog Tryz.laysC172_ren:={
 mixed:=by kernel_rfl
 f129:=Tryz.func150.trans (congrArg some (by kernel_rfl))
 f171:=Tryz.func92.trans (congrArg some (by kernel_rfl))
 f172:=Tryz.func91.trans (congrArg some (by kernel_rfl))
 f205:=Tryz.func175.trans (congrArg some (by kernel_rfl))
 f243:=Tryz.func125.trans (congrArg some (by kernel_rfl))
 f244:=Tryz.func123.trans (congrArg some (by kernel_rfl))
 f245:=Tryz.func124.trans (congrArg some (by kernel_rfl))
 f246:=Tryz.func157.trans (congrArg some (by kernel_rfl))
 f247:=Tryz.func152.trans (congrArg some (by kernel_rfl))
 f279:=Tryz.func153.trans (congrArg some (by kernel_rfl))
 f280:=Tryz.func154.trans (congrArg some (by kernel_rfl))
 f281:=Tryz.func155.trans (congrArg some (by kernel_rfl))
 f282:=Tryz.func156.trans (congrArg some (by kernel_rfl))
 f283:=Tryz.func176.trans (congrArg some (by kernel_rfl))
 f284:=Tryz.func177.trans (congrArg some (by kernel_rfl))
 f285:=Tryz.func178.trans (congrArg some (by kernel_rfl))
 f286:=Tryz.func179.trans (congrArg some (by kernel_rfl))
 f287:=Tryz.func173.trans (congrArg some (by kernel_rfl))
 f316:=Tryz.func174.trans (congrArg some (by kernel_rfl))
 f317:=Tryz.func194.trans (congrArg some (by kernel_rfl))
 f318:=Tryz.func195.trans (congrArg some (by kernel_rfl))
 f319:=Tryz.func196.trans (congrArg some (by kernel_rfl))
 f320:=Tryz.func197.trans (congrArg some (by kernel_rfl))
 f321:=Tryz.func192.trans (congrArg some (by kernel_rfl))
 f322:=Tryz.func193.trans (congrArg some (by kernel_rfl))
 f337:=Tryz.func201.trans (congrArg some (by kernel_rfl))
 f338:=Tryz.func202.trans (congrArg some (by kernel_rfl))
 t0:=Tryz.underlying0
 a0:=Tryz.isAgg0
 z0:=Tryz.sizeOf0
 v0:=Tryz.zeroValue0
 t2:=Tryz.underlying2
 a2:=Tryz.isAgg2
 z2:=Tryz.sizeOf2
 v2:=Tryz.zeroValue2
 t3:=Tryz.underlying3
 a3:=Tryz.isAgg3
 z3:=Tryz.sizeOf3
 v3:=Tryz.zeroValue3
 t4:=Tryz.underlying4
 a4:=Tryz.isAgg4
 z4:=Tryz.sizeOf4
 v4:=Tryz.zeroValue4
 t5:=Tryz.underlying5
 a5:=Tryz.isAgg5
 z5:=Tryz.sizeOf5
 v5:=Tryz.zeroValue5
 t9:=Tryz.underlying9
 a9:=Tryz.isAgg9
 z9:=Tryz.sizeOf9
 v9:=Tryz.zeroValue9
 t20:=Tryz.underlying20
 a20:=Tryz.isAgg20
 z20:=Tryz.sizeOf20
 v20:=Tryz.zeroValue20
 t21:=Tryz.underlying21
 a21:=Tryz.isAgg21
 z21:=Tryz.sizeOf21
 v21:=Tryz.zeroValue21
 t37:=Tryz.underlying143
 a37:=Tryz.isAgg143
 z37:=Tryz.sizeOf143
 v37:=Tryz.zeroValue143
 t46:=Tryz.underlying165
 a46:=Tryz.isAgg165
 z46:=Tryz.sizeOf165
 v46:=Tryz.zeroValue165
 t51:=Tryz.underlying191
 a51:=Tryz.isAgg191
 z51:=Tryz.sizeOf191
 v51:=Tryz.zeroValue191
 t53:=Tryz.underlying193
 a53:=Tryz.isAgg193
 z53:=Tryz.sizeOf193
 v53:=Tryz.zeroValue193
 t75:=Tryz.underlying140
 a75:=Tryz.isAgg140
 z75:=Tryz.sizeOf140
 v75:=Tryz.zeroValue140
 t76:=Tryz.underlying141
 a76:=Tryz.isAgg141
 z76:=Tryz.sizeOf141
 v76:=Tryz.zeroValue141
 t85:=Tryz.underlying195
 a85:=Tryz.isAgg195
 z85:=Tryz.sizeOf195
 v85:=Tryz.zeroValue195
 t127:=Tryz.underlying242
 a127:=Tryz.isAgg242
 z127:=Tryz.sizeOf242
 v127:=Tryz.zeroValue242
 t143:=Tryz.underlying243
 a143:=Tryz.isAgg243
 z143:=Tryz.sizeOf243
 v143:=Tryz.zeroValue243
 t145:=Tryz.underlying245
 a145:=Tryz.isAgg245
 z145:=Tryz.sizeOf245
 v145:=Tryz.zeroValue245
 t167:=Tryz.underlying194
 a167:=Tryz.isAgg194
 z167:=Tryz.sizeOf194
 v167:=Tryz.zeroValue194
 t168:=Tryz.underlying197
 a168:=Tryz.isAgg197
 z168:=Tryz.sizeOf197
 v168:=Tryz.zeroValue197
 t171:=Tryz.underlying226
 a171:=Tryz.isAgg226
 z171:=Tryz.sizeOf226
 v171:=Tryz.zeroValue226
 t173:=Tryz.underlying228
 a173:=Tryz.isAgg228
 z173:=Tryz.sizeOf228
 v173:=Tryz.zeroValue228
 t175:=Tryz.underlying220
 a175:=Tryz.isAgg220
 z175:=Tryz.sizeOf220
 v175:=Tryz.zeroValue220
 t210:=Tryz.underlying224
 a210:=Tryz.isAgg224
 z210:=Tryz.sizeOf224
 v210:=Tryz.zeroValue224
 t212:=Tryz.underlying247
 a212:=Tryz.isAgg247
 z212:=Tryz.sizeOf247
 v212:=Tryz.zeroValue247
 t213:=Tryz.underlying248
 a213:=Tryz.isAgg248
 z213:=Tryz.sizeOf248
 t232:=Tryz.underlying255
 a232:=Tryz.isAgg255
 z232:=Tryz.sizeOf255
 v232:=Tryz.zeroValue255
 t233:=Tryz.underlying256
 a233:=Tryz.isAgg256
 z233:=Tryz.sizeOf256
 v233:=Tryz.zeroValue256
 g15:=by kernel_rfl
 g16:=by kernel_rfl
 g17:=by kernel_rfl
 g18:=by kernel_rfl
 g19:=by kernel_rfl
 t80:=Tryz.underlying258
 a80:=Tryz.isAgg258
 z80:=Tryz.sizeOf258
 v80:=Tryz.zeroValue258
 i0:=by kernel_rfl
 i2:=by kernel_rfl
 i3:=by kernel_rfl
 i4:=by kernel_rfl
 i5:=by kernel_rfl
 i9:=by kernel_rfl
 i20:=by kernel_rfl
 i21:=by kernel_rfl
 i37:=by kernel_rfl
 i46:=by kernel_rfl
 i51:=by kernel_rfl
 i53:=by kernel_rfl
 i75:=by kernel_rfl
 i76:=by kernel_rfl
 i80:=by kernel_rfl
 i85:=by kernel_rfl
 i127:=by kernel_rfl
 i143:=by kernel_rfl
 i145:=by kernel_rfl
 i167:=by kernel_rfl
 i168:=by kernel_rfl
 i171:=by kernel_rfl
 i173:=by kernel_rfl
 i175:=by kernel_rfl
 i210:=by kernel_rfl
 i212:=by kernel_rfl
 i232:=by kernel_rfl
 i233:=by kernel_rfl
 m15:=by kernel_rfl
 m16:=by kernel_rfl
 m17:=by kernel_rfl
 m18:=by kernel_rfl
 m19:=by kernel_rfl
 c0:=by kernel_rfl
 c2:=by kernel_rfl
 c3:=by kernel_rfl
 c4:=by kernel_rfl
 c5:=by kernel_rfl
 c9:=by kernel_rfl
 c20:=by kernel_rfl
 c21:=by kernel_rfl
 c37:=by kernel_rfl
 c46:=by kernel_rfl
 c51:=by kernel_rfl
 c53:=by kernel_rfl
 c75:=by kernel_rfl
 c76:=by kernel_rfl
 c80:=by kernel_rfl
 c85:=by kernel_rfl
 c127:=by kernel_rfl
 c143:=by kernel_rfl
 c145:=by kernel_rfl
 c167:=by kernel_rfl
 c168:=by kernel_rfl
 c171:=by kernel_rfl
 c173:=by kernel_rfl
 c175:=by kernel_rfl
 c210:=by kernel_rfl
 c212:=by kernel_rfl
 c213:=by kernel_rfl
 c232:=by kernel_rfl
 c233:=by kernel_rfl}
def Tryz.lays189_ren:Go.Shelf.Ren:=⟨fun | 189=>87 | 125=>119 | 257=>118 | 128=>149 | 129=>150 | 294=>140 | 295=>141 | 296=>142 | 297=>143 | 298=>144 | 299=>145 | 216=>146 | 300=>147 | 301=>148 | 328=>167 | 329=>168 | 330=>169 | 331=>170 | 332=>171 | 215=>172 | 343=>191 | n=>n,fun | 28=>38 | 3=>3 | 46=>165 | 0=>0 | 51=>191 | 53=>193 | 4=>4 | 183=>183 | 182=>182 | 131=>188 | 5=>5 | 9=>9 | 218=>214 | 222=>218 | 228=>238 | 229=>239 | n=>n,fun | n=>n⟩
theorem Tryz.lays189:Go.Proofs.Lays.n189 Tryz.prog Tryz.lays189_ren:={
 mixed:=by kernel_rfl
 f125:=Tryz.func119.trans (congrArg some (by kernel_rfl))
 f128:=Tryz.func149.trans (congrArg some (by kernel_rfl))
 f129:=Tryz.func150.trans (congrArg some (by kernel_rfl))
 f189:=Tryz.func87.trans (congrArg some (by kernel_rfl))
 f215:=Tryz.func172.trans (congrArg some (by kernel_rfl))
 f216:=Tryz.func146.trans (congrArg some (by kernel_rfl))
 f257:=Tryz.func118.trans (congrArg some (by kernel_rfl))
 f294:=Tryz.func140.trans (congrArg some (by kernel_rfl))
 f295:=Tryz.func141.trans (congrArg some (by kernel_rfl))
 f296:=Tryz.func142.trans (congrArg some (by kernel_rfl))
 f297:=Tryz.func143.trans (congrArg some (by kernel_rfl))
 f298:=Tryz.func144.trans (congrArg some (by kernel_rfl))
 f299:=Tryz.func145.trans (congrArg some (by kernel_rfl))
 f300:=Tryz.func147.trans (congrArg some (by kernel_rfl))
 f301:=Tryz.func148.trans (congrArg some (by kernel_rfl))
 f328:=Tryz.func167.trans (congrArg some (by kernel_rfl))
 f329:=Tryz.func168.trans (congrArg some (by kernel_rfl))
 f330:=Tryz.func169.trans (congrArg some (by kernel_rfl))
 f331:=Tryz.func170.trans (congrArg some (by kernel_rfl))
 f332:=Tryz.func171.trans (congrArg some (by kernel_rfl))
 f343:=Tryz.func191.trans (congrArg some (by kernel_rfl))
 t0:=Tryz.underlying0
 a0:=Tryz.isAgg0
 z0:=Tryz.sizeOf0
 v0:=Tryz.zeroValue0
 t3:=Tryz.underlying3
 a3:=Tryz.isAgg3
 z3:=Tryz.sizeOf3
 v3:=Tryz.zeroValue3
 t4:=Tryz.underlying4
 a4:=Tryz.isAgg4
 z4:=Tryz.sizeOf4
 v4:=Tryz.zeroValue4
 t5:=Tryz.underlying5
 a5:=Tryz.isAgg5
 z5:=Tryz.sizeOf5
 v5:=Tryz.zeroValue5
 t9:=Tryz.underlying9
 a9:=Tryz.isAgg9
 z9:=Tryz.sizeOf9
 v9:=Tryz.zeroValue9
 t28:=Tryz.underlying38
 a28:=Tryz.isAgg38
 z28:=Tryz.sizeOf38
 v28:=Tryz.zeroValue38
 t46:=Tryz.underlying165
 a46:=Tryz.isAgg165
 z46:=Tryz.sizeOf165
 v46:=Tryz.zeroValue165
 t51:=Tryz.underlying191
 a51:=Tryz.isAgg191
 z51:=Tryz.sizeOf191
 v51:=Tryz.zeroValue191
 t53:=Tryz.underlying193
 a53:=Tryz.isAgg193
 z53:=Tryz.sizeOf193
 v53:=Tryz.zeroValue193
 t131:=Tryz.underlying188
 a131:=Tryz.isAgg188
 z131:=Tryz.sizeOf188
 v131:=Tryz.zeroValue188
 t182:=Tryz.underlying182
 a182:=Tryz.isAgg182
 z182:=Tryz.sizeOf182
 v182:=Tryz.zeroValue182
 t183:=Tryz.underlying183
 a183:=Tryz.isAgg183
 z183:=Tryz.sizeOf183
 v183:=Tryz.zeroValue183
 t218:=Tryz.underlying214
 a218:=Tryz.isAgg214
 z218:=Tryz.sizeOf214
 v218:=Tryz.zeroValue214
 t222:=Tryz.underlying218
 a222:=Tryz.isAgg218
 z222:=Tryz.sizeOf218
 v222:=Tryz.zeroValue218
 t228:=Tryz.underlying238
 a228:=Tryz.isAgg238
 z228:=Tryz.sizeOf238
 v228:=Tryz.zeroValue238
 t229:=Tryz.underlying239
 a229:=Tryz.isAgg239
 z229:=Tryz.sizeOf239
 v229:=Tryz.zeroValue239}
def Tryz.laysNm220_ren:Go.Shelf.Ren:=⟨fun | 20=>88 | n=>n,fun | 22=>38 | 3=>3 | 4=>4 | 0=>0 | n=>n,fun | n=>n⟩
theorem Tryz.laysNm220:Go.Proofs.Lays2.n20 Tryz.prog Tryz.laysNm220_ren:={
 mixed:=by kernel_rfl
 f20:=Tryz.func88.trans (congrArg some (by kernel_rfl))
 t0:=Tryz.underlying0
 a0:=Tryz.isAgg0
 z0:=Tryz.sizeOf0
 v0:=Tryz.zeroValue0
 t3:=Tryz.underlying3
 a3:=Tryz.isAgg3
 z3:=Tryz.sizeOf3
 v3:=Tryz.zeroValue3
 t4:=Tryz.underlying4
 a4:=Tryz.isAgg4
 z4:=Tryz.sizeOf4
 v4:=Tryz.zeroValue4
 t22:=Tryz.underlying38
 a22:=Tryz.isAgg38
 z22:=Tryz.sizeOf38
 v22:=Tryz.zeroValue38
 i3:=by kernel_rfl}
open Go.RowKit Go.Sort Go.Lib in
theorem Tryz.strconv_Itoa (n:Int) (h0 : -9223372036854775808≤n) (h1:n≤9223372036854775807) (w:World) {T:TypeId} {fr:Nat × Nat} (ht:w.heap[2]?=some (.cells (Lib.pow10Tab.map fun z=>Value.int .u64 z).toArray T fr)) :
  Calls Tryz.prog 92 #[.int .i64 n] w fun e w'=>e = .returned (.string ⟨(Lib.itoa n).toArray⟩)∧∃ k os,w'=grow (w.drewN k) os:=by
 refine Any.strconv_Itoa Tryz.laysM171 n h0 h1 w ?_
 unfold Lib.TabIs World.var?
 rw [show Tryz.prog.globalNamed _=some 2 by kernel_rfl,Option.bind_some,ht]
open Go.RowKit in
theorem Tryz.strconv_Atoi_ok (s:ByteArray) (hmax:s.size≤9223372036854775806) (v:Int) (h:Lib.atoiAll s.data.toList = .ok v) (w:World) :
  Calls Tryz.prog 91 #[.string s] w fun e w'=>e = .returned (.tuple #[.int .i64 v,.nilIface])∧(w'=w∨∃ t,w'=Lib.bytesWorld w 5 t):=Any.strconv_Atoi_ok Tryz.laysC172 s hmax v h w
open Go.RowKit in
theorem Tryz.strconv_Atoi_bad (s:ByteArray) (hlim:s.size≤281474976710656) (h1:∀ v,Lib.atoiAll s.data.toList ≠ .ok v) (h2:Lib.atoiAll s.data.toList ≠ .range) (ev:Value) (w:World) (hv:w.cell? ⟨0,0,none⟩=some ev) (hev:ev = .nilIface∨∃ te pe,ev = .iface te pe) :
  Calls Tryz.prog 91 #[.string s] w fun e w'=>∃ N,e = .returned (.tuple #[.int .i64 (0),.iface 197 (.pointer (some ⟨N,0,none⟩))])∧w.heap.size≤N∧w'.heap[N]?=some (.cells #[.string ⟨#[65,116,111,105]⟩,.string s,ev] 224 (0,0))∧Below w.heap.size w w':=by
 cases h:Lib.atoiAll s.data.toList
 case ok v=>exact absurd h (h1 v)
 case range=>exact absurd h h2
 exact Any.strconv_Atoi_syntax Tryz.laysC172 s hlim h ev w hv hev
open Go.RowKit in
theorem Tryz.strconv_Atoi_range (s:ByteArray) (hlim:s.size≤281474976710656) (h:Lib.atoiAll s.data.toList = .range) (ev:Value) (w:World) (hv:w.cell? ⟨1,0,none⟩=some ev) (hev:ev = .nilIface∨∃ te pe,ev = .iface te pe) :
  Calls Tryz.prog 91 #[.string s] w fun e w'=>∃ N,e = .returned (.tuple #[.int .i64 (Lib.atoiSat s.data.toList),.iface 197 (.pointer (some ⟨N,0,none⟩))])∧w.heap.size≤N∧w'.heap[N]?=some (.cells #[.string ⟨#[65,116,111,105]⟩,.string s,ev] 224 (0,0))∧Below w.heap.size w w':=Any.strconv_Atoi_range Tryz.laysC172 s hlim h ev w hv hev
open Go.Sort Go.RowKit in
theorem Tryz.slices_Sort_int (blk off cap:Nat) (zs:List Int) (w:World) (hH:Holds (Value.int .i64) w blk off zs.toArray) (hblk:blk < w.heap.size) (hsz:zs.length < 4611686018427387904) :
  Calls Tryz.prog 87 #[.slice (some ⟨blk,off,none⟩) zs.length cap] w fun e w'=>
   e = .returned (.tuple #[])∧∃ n os,w'=grow (putRow (Value.int .i64) (Sort.ahead w n) blk off (zs.mergeSort fun x y=>decide (x≤y)).toArray) os:=Any.slices_Sort_int Tryz.lays189 blk off cap zs w hH hblk hsz
open Go.RowKit Go.Lib Go.Sort in
theorem Tryz.slices_Compact_int (blk off cap:Nat) (zs:List Int) (w:World) (hH:Holds (Value.int .i64) w blk off zs.toArray) (hsz:zs.length≤9223372036854775807) (hcap:zs.length≤cap) :
  Calls Tryz.prog 88 #[.slice (some ⟨blk,off,none⟩) zs.length cap] w fun e w'=>e = .returned (.slice (some ⟨blk,off,none⟩) (Lib.compact zs).length cap)∧∃ q,w'=putRow (Value.int .i64) (Sort.ahead w q) blk off (Lib.compact zs++List.replicate (zs.length - (Lib.compact zs).length) 0).toArray:=Any.slices_Compact_int Tryz.laysNm220 blk off cap zs w hH hsz hcap
open Go.RowKit Go.Lib Go.Sort in
theorem Tryz.slices_Compact_int_empty (a:Option Addr) (cap:Nat) (w:World) :
  Calls Tryz.prog 88 #[.slice a 0 cap] w fun e w'=>e = .returned (.slice a 0 cap)∧w'=w:=Any.slices_Compact_int_empty Tryz.laysNm220 a cap w
open Go.RowKit Go.Sort in
theorem Tryz.slices_Sort_int_none (p:Option Addr) (cap:Nat) (w:World) :
  Calls Tryz.prog 87 #[.slice p 0 cap] w fun e w'=>e = .returned (.tuple #[])∧w'=w:=Any.slices_Sort_int_none Tryz.lays189 p cap w
end Go.Proofs
end
section
set_option maxRecDepth 100000
namespace Go.Proofs
open Go.Tev
def exB (f:Nat):Option (List AV→Nat→Hp→Option (AV × Hp)):=
 bif f.beq 92 then some exAtoi else bif f.beq 93 then some exItoa else bif f.beq 75 then some exSort else bif f.beq 76 then some exComp else none
def glS (g:Nat):Option AV:=
 bif g.beq 0 then some (.ifc .top) else bif g.beq 1 then some (.ifc .top) else bif g.beq 2 then some (.agg (Lib.pow10Tab.map fun n => .int .u64 n)) else none
def pgS:Pg:=⟨fun f=>tab.find f,glS,exB⟩
def nm:Nm:=nmOf Tryz.prog num gnum
theorem n75:nm.f 75=87:=by kernel_rfl
theorem n76:nm.f 76=88:=by kernel_rfl
theorem n92:nm.f 92=91:=by kernel_rfl
theorem n93:nm.f 93=92:=by kernel_rfl
theorem fn75:FnOK Tryz.prog (nm.f 75):=by rw [n75];exact ⟨Tryz.f87,Tryz.func87,by kernel_rfl,of_decide_eq_true (by kernel_rfl)⟩
theorem fn76:FnOK Tryz.prog (nm.f 76):=by rw [n76];exact ⟨Tryz.f88,Tryz.func88,by kernel_rfl,of_decide_eq_true (by kernel_rfl)⟩
theorem fn92:FnOK Tryz.prog (nm.f 92):=by rw [n92];exact ⟨Tryz.f91,Tryz.func91,by kernel_rfl,of_decide_eq_true (by kernel_rfl)⟩
theorem fn93:FnOK Tryz.prog (nm.f 93):=by rw [n93];exact ⟨Tryz.f92,Tryz.func92,by kernel_rfl,of_decide_eq_true (by kernel_rfl)⟩
theorem itoaS:CallOK Tryz.prog nm glS gnum ⟨fun f' avs kb h=>if f'=93 then exItoa avs kb h else none,fun _ _ _ _=>none⟩:=by
 refine itoaOK fn93 2 rfl ?_
 intro n h0 h1 w hw
 obtain ⟨T,fr,ht⟩:=hw
 have ht':w.heap[2]?=some (.cells (Lib.pow10Tab.map fun z=>Value.int .u64 z).toArray T fr):=ht
 rw [n93]
 refine (Tryz.strconv_Itoa n (by omega) h1 w ht').mono ?_
 rintro e w' ⟨rfl,k,os,rfl⟩
 exact ⟨rfl,Lib.below_grow _ w (Nat.le_refl _) k os⟩
theorem toBA (s:List UInt8):((⟨s.toArray⟩:ByteArray).data.toList)=s:=by simp
theorem szBA (s:List UInt8):(⟨s.toArray⟩:ByteArray).size=s.length:=by simp [ByteArray.size]
theorem atoiS:CallOK Tryz.prog nm glS gnum ⟨fun f' avs kb h=>if f'=92 then exAtoi avs kb h else none,fun _ _ _ _=>none⟩:=by
 refine atoiOK fn92 0 1 rfl rfl ?_ ?_ ?_
 ·intro s hs v hv w
  rw [n92]
  refine (Tryz.strconv_Atoi_ok ⟨s.toArray⟩ (by rw [szBA];omega) v (by rw [toBA];exact hv) w).mono ?_
  rintro e w' ⟨rfl,hw⟩
  refine ⟨rfl,?_⟩
  rcases hw with rfl | ⟨t,rfl⟩
  ·exact RowKit.Below.refl _ _
  ·exact Lib.bytesWorld_below _ _ _
 ·intro s hs hv1 hv2 w te pe hc
  rw [n92]
  refine (Tryz.strconv_Atoi_bad ⟨s.toArray⟩ (by rw [szBA];omega) (by rw [toBA];exact hv1) (by rw [toBA];exact hv2) _ w hc (.inr ⟨te,pe,rfl⟩)).mono ?_
  rintro e w' ⟨N,rfl,_,_,hb⟩
  exact ⟨_,_,rfl,hb⟩
 ·intro s hs hv w te pe hc
  rw [n92]
  refine (Tryz.strconv_Atoi_range ⟨s.toArray⟩ (by rw [szBA];omega) (by rw [toBA];exact hv) _ w hc (.inr ⟨te,pe,rfl⟩)).mono ?_
  rintro e w' ⟨N,rfl,_,_,hb⟩
  rw [toBA]
  exact ⟨_,_,rfl,hb⟩
theorem sortS:CallOK Tryz.prog nm glS gnum ⟨fun f' avs kb h=>if f'=75 then exSort avs kb h else none,fun _ _ _ _=>none⟩:=by
 refine sortOK fn75 ?_ ?_
 ·intro blk off cap zs w hH hb hz
  rw [n75]
  refine (Tryz.slices_Sort_int blk off cap zs w hH hb (by omega)).mono ?_
  rintro e w' ⟨rfl,n,os,rfl⟩
  exact ⟨rfl,n,os,by rw [sortI_eq]⟩
 ·intro p cap w
  rw [n75]
  exact Tryz.slices_Sort_int_none p cap w
theorem compS:CallOK Tryz.prog nm glS gnum ⟨fun f' avs kb h=>if f'=76 then exComp avs kb h else none,fun _ _ _ _=>none⟩:=by
 refine compOK fn76 ?_ ?_
 ·intro blk off cap zs w hH hz hc
  rw [n76]
  refine (Tryz.slices_Compact_int blk off cap zs w hH (by omega) hc).mono ?_
  rintro e w' ⟨rfl,q,rfl⟩
  rw [compact_eq]
  exact ⟨rfl,q,rfl⟩
 ·intro p cap w
  rw [n76]
  exact Tryz.slices_Compact_int_empty p cap w
theorem exS:∀ f g,exB f=some g→CallOK Tryz.prog nm glS gnum ⟨fun f' avs kb h=>if f'=f then g avs kb h else none,fun _ _ _ _=>none⟩:=by
 intro f g h
 unfold exB at h
 cases h1:f.beq 92 with
 | true=>rw [h1] at h;cases h;obtain rfl:=Nat.eq_of_beq_eq_true h1;exact atoiS
 | false=>
  cases h2:f.beq 93 with
  | true=>rw [h1,h2] at h;cases h;obtain rfl:=Nat.eq_of_beq_eq_true h2;exact itoaS
  | false=>
   cases h3:f.beq 75 with
   | true=>rw [h1,h2,h3] at h;cases h;obtain rfl:=Nat.eq_of_beq_eq_true h3;exact sortS
   | false=>
    cases h4:f.beq 76 with
    | true=>rw [h1,h2,h3,h4] at h;cases h;obtain rfl:=Nat.eq_of_beq_eq_true h4;exact compS
    | false=>rw [h1,h2,h3,h4] at h;cases h
theorem fitS:FitP Tryz.prog nm gnum pgS:=fitP_of fits exS (fun _ _ _ _=>Iff.rfl)
end Go.Proofs
end
section
namespace Go.Tev
def isCmp (op:List UInt8):Bool:=decide (op=[108,116])||decide (op=[108,101])||decide (op=[103,116])||decide (op=[103,101])||decide (op=[101,113])||decide (op=[110,101])
def selU:List Bool→Bool
 | [_,b,c]=>b&&c
 | _=>false
def holdsU (op:List UInt8) (kids:List Bool):Bool:=
 if isCmp op then decide ((kids.length:Int)=2)
 else if decide (op=[115,101,108,101,99,116]) then selU kids
 else match primT op with
  | none=>false
  | some p=>decide (p.result=[98,111,111,108])&&decide ((p.params.length:Int)=(kids.length:Int)) && !kids.any (fun b=>b == false)
theorem treeL_bools (l:List Bool):Tev.treeL (l.map AV.bool)=true:=treeL_map (f:=AV.bool) (fun _=>rfl) l
theorem treeL_strs (l:List (List UInt8)):Tev.treeL (l.map AV.str)=true:=treeL_map (f:=AV.str) (fun _=>rfl) l
attribute [go_sem] treeL_bools treeL_strs
section
variable {pg:Pg}
def isConst (op:List UInt8):Bool:=decide (op=[99,111,110,115,116])||decide (op=[116,114,117,116,104])
def pickT (l:List Bool) (a:Int):Bool:=decide (0≤a)&&(decide (a < (l.length:Int))&&(l[a.toNat]?).getD false)
def stepT (l:List Bool) (s:Step):Bool:=if isConst s.op.bs then decide (s.num=0)||decide (s.num=1) else holdsU s.op.bs (s.args.es.map (pickT l))
def truthsL (l:List Bool):List Step→List Bool
 | []=>l
 | s :: r=>truthsL (l++[stepT l s]) r
def truthsU (code:List Step) (args:List Bool):Bool:=(truthsL args code).getLast?.getD false
def OwnS (h:Hp) (ks:List Nat) (v:AV) (es:List Bool):Prop:=∃ k∈ks,Own h k 1 false v (es.map AV.bool)
theorem OwnS.mono {h h':Hp} {ks:List Nat} {v:AV} {es:List Bool} (o:OwnS h ks v es) (hh:∀ k∈ks,h'.get k=h.get k):OwnS h' ks v es:=by
 obtain ⟨k,hk,o⟩:=o
 exact ⟨k,hk,o.mono (hh k hk)⟩
theorem unchunk_bools:∀ (l:List Bool),unchunk 1 false (l.map AV.bool)=some (l.map AV.bool)
 | []=>rfl
 | x :: r=>by
  have ih:=unchunk_bools r
  rw [List.map_cons,unchunk,ih];rfl
theorem OwnS.at {h:Hp} {ks:List Nat} {v:AV} {es:List Bool} (o:OwnS h ks v es) {n:Int} (h0:0≤n) (h1:n < es.length):∃ k e,v = .rf k e 0 es.length es.length∧h.get k=some (e,.blk (es.map AV.bool) 1 false false false)∧k∈ks:=by
 obtain ⟨k,hk,⟨he,nl,cl,rfl,hc⟩ | ⟨e,cs,rfl,hg,hu⟩⟩:=o
 ·have:es=[]:=by simpa using he
  subst this
  simp at h1;omega
 ·rw [unchunk_bools] at hu
  cases hu
  exact ⟨k,e,by simp,hg,hk⟩
theorem OwnS.len {h:Hp} {ks:List Nat} {v:AV} {es:List Bool} (o:OwnS h ks v es) (kb s:Nat) (h':Hp) (Q:AV→Eff→Prop) (t:Tok Q):XO pg kb (.len 1) s h' [v] Q t=Q (.int .i64 es.length) (.pat [] []):=by
 obtain ⟨k,hk,⟨he,nl,cl,rfl,hc⟩ | ⟨e,cs,rfl,hg,hu⟩⟩:=o
 ·have:es=[]:=by simpa using he
  subst this
  simp only [go_sem,seval]
 ·rw [List.length_map]
  simp only [go_sem,seval]
theorem OwnS.flen {h:Hp} {ks:List Nat} {v:AV} {es:List Bool} (o:OwnS h ks v es) (h':Hp):f_len h' 1 [v]=some (.int .i64 es.length,.pat [] []):=by
 obtain ⟨k,hk,⟨he,nl,cl,rfl,hc⟩ | ⟨e,cs,rfl,hg,hu⟩⟩:=o
 ·have:es=[]:=by simpa using he
  subst this
  rfl
 ·rw [List.length_map];rfl
theorem mapS_two {h:Hp} {d:Nat} {a b b':AV} {keys:List Nat} (ha:a.tree=true) (hb:Tev.snap (d+1) h b=some (b',keys)):mapS (Tev.snap (d+1) h) [a,b]=some ([a,b'],keys):=by
 simp [mapS_cons,mapS_nil,snap_tr ha,hb]
end
end Go.Tev
end
section
namespace Go.Tev
def readT (vals:List Typ) (v:Int):Bool:=decide (0≤v)&&(decide (v < (vals.length:Int))&&((vals[v.toNat]?).map fun t=>decide (t.elem.bs=[98,111,111,108])).getD false)
def ifT:List Bool→Bool
 | [a,b]=>a&&b
 | _=>false
def redT (fn:List Step):List Bool→Bool
 | [a,b]=>a&&truthsU fn [true,b]
 | _=>false
def truthN (vals:List Typ) (op:List UInt8) (num value:Int) (fn:List Step) (kids:List Bool):Bool:=
 if decide (op=[99,111,110,115,116]) then decide (num=0)||decide (num=1)
 else if decide (op=[108,105,110,101,97,114]) then false
 else if decide (op=[114,101,97,100]) then readT vals value
 else if decide (op=[105,102]) then ifT kids
 else if decide (op=[114,101,100,117,99,101]) then redT fn kids
 else if decide (op=[99,111,100,101]) then truthsU fn kids
 else holdsU op kids
mutual
def truthPU (vals:List Typ):Pull→Bool
 | .mk op num value _ _ _ _ fn _ kids _=>truthN vals op.bs num value fn.es (truthPs vals kids)
def truthPs (vals:List Typ):List Pull→List Bool
 | []=>[]
 | p :: r=>truthPU vals p :: truthPs vals r
end
theorem Own.flen {h:Hp} {k esz:Nat} {ag:Bool} {v:AV} {es:List AV} (o:Own h k esz ag v es) (h':Hp):f_len h' 1 [v]=some (.int .i64 es.length,.pat [] []):=by
 rcases o with ⟨rfl,nl,cl,rfl,hc⟩ | ⟨e,cs,rfl,hg,hu⟩
 ·rfl
 ·rfl
section
variable {pg:Pg}
end
end Go.Tev
end
