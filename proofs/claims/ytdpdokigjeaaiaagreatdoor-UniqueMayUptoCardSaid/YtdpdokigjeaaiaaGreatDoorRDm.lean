import Derived.Test.YtdpdokigjeaaiaaGreatDoorNGm
import Derived.Test.YtdpdokigjeaaiaaGreatDoorNHm
import Derived.Test.YtdpdokigjeaaiaaGreatDoorRAm
set_option linter.all false
section
namespace Go.Tev
theorem eqL_refl {α : Type} {q : α → α → Bool} (h:∀ x,q x x=true):∀ l:List α,eqL q l l=true
 | []=>by simp [eqL]
 | x :: r=>by simp [eqL,h x,eqL_refl h r]
theorem eqL_refl' {α : Type} {q : α → α → Bool}:∀ l:List α,(∀ x∈l,q x x=true)→eqL q l l=true
 | [],_=>by simp [eqL]
 | x :: r,h=>by simp [eqL,h x (by simp),eqL_refl' r (fun y hy=>h y (by simp [hy]))]
theorem coefEq_refl (x:Coef):coefEq x x=true:=by simp [coefEq]
theorem linEq_refl (x:Lin):linEq x x=true:=by simp [linEq,eqL_refl coefEq_refl]
theorem stepEq_refl (x:Step):stepEq x x=true:=by simp [stepEq,eqL_refl]
theorem pullEq_refl:∀ p:Pull,pullEq p p=true:=
 Pull.ind' fun p ih=>by
  rw [pullEq_eq,pullEqs_eq,eqL_refl' p.kids ih,eqL_refl linEq_refl,eqL_refl stepEq_refl]
  simp
theorem eqL_nil {α β : Type} {q : α → β → Bool} (l:List α):eqL q l []=decide ((l.length:Int)=0):=by
 cases l with
 | nil=>simp [eqL]
 | cons x r=>simp [eqL];omega
def nilSl (α : Type):Sl α:=⟨true,[],true,by simp [big]⟩
def onlyK (x:Kernel):Kernel:=
 ⟨x.kind,x.value,x.space,x.body,if x.kind=2 then x.fn else nilSl Step,if x.kind=3 then x.source else 0,if x.kind=3 then x.index else zeroP,if x.kind=3 then x.check else 0⟩
def kernEq (a b:Kernel):Bool:=
 decide (a.kind=b.kind)&&decide (a.value=b.value)&&decide (a.source=b.source)&&decide (a.check=b.check)&&eqL linEq a.space.es b.space.es&&pullEq a.body b.body&&pullEq a.index b.index&&eqL stepEq a.fn.es b.fn.es
theorem kernEq_only (x:Kernel):kernEq x (onlyK x)=((if decide (x.kind=3) then true else !kPlain x)&&(decide (x.kind=2)||decide ((x.fn.es.length:Int)=0))):=by
 simp only [kernEq,onlyK,eqL_refl linEq_refl,pullEq_refl,kPlain]
 by_cases h3:x.kind=3
 ·have h2:¬ x.kind=2:=by omega
  simp [h3,pullEq_refl,nilSl,eqL_nil]
 ·by_cases h2:x.kind=2
  ·simp [h2,eqL_refl stepEq_refl]
  ·simp [h3,h2,nilSl,eqL_nil,Bool.and_assoc]
def refPulls (k:Kernels) (p:Pull) (n:Nat) (th:List Bool):Bool:=
 pullOK p (withLoops k.vars.es n) k.values.es.length&&(readsR p).all (fun v=>thereB th v)
def secondOf (k:Kernels) (q:Kernel) (i:Nat):Bool:=
 !decide ((i:Int)=0)&&(match k.list.es[((i:Int) - 1).toNat]? with | none=>false | some r=>decide (r.kind=1)&&decide (r.value=q.value))
def refRight (k:Kernels) (q:Kernel) (th:List Bool) (second:Bool):Bool:=
 !(decide (q.value < k.inputs)||decide ((k.values.es.length:Int)≤q.value))&&(kernEq q (onlyK q) &&
 (match k.values.es[q.value.toNat]? with
 | none=>false
 | some t=>
  !kBool k.values.es q t &&
  (if decide (q.kind=1) then !thereB th q.value&&(eqL linEq q.space.es t.shape.dims.es&&refPulls k q.body t.shape.dims.es.length th)
  else if decide (q.kind=2) then !thereB th q.value&&(decide (0 < (t.shape.dims.es.length:Int))&&(eqL linEq q.space.es t.shape.dims.es&&(refPulls k q.body t.shape.dims.es.length th&&codeOK q.fn.es 2)))
  else if decide (q.kind=3) then
   !decide ((t.shape.dims.es.length:Int)=0)&&(eqL linEq q.space.es t.shape.dims.es.dropLast&&(!decide (q.check < 0)&&(!decide (q.source < 0)&&(!decide ((k.values.es.length:Int)≤q.source)&&(thereB th q.source &&
   ((thereB th q.value == decide (q.source=q.value))&&(!(thereB th q.value && !second)&&((match k.values.es[q.source.toNat]? with | none=>false | some u=>typEq u t) &&
   (refPulls k q.body (t.shape.dims.es.length - 1) (th.set q.value.toNat false)&&refPulls k q.index (t.shape.dims.es.length - 1) (th.set q.value.toNat false))))))))))
  else false)))
theorem thereB_set {th:List Bool} {v a:Int} (hv:0≤v) (ha:0≤a):thereB (th.set v.toNat false) a=(thereB th a && !decide (a=v)):=by
 simp only [thereB,List.getElem?_set]
 by_cases h:a=v
 ·subst h
  by_cases h2:a.toNat < th.length
  ·simp [h2]
  ·simp [h2]
 ·have h1:¬ v.toNat=a.toNat:=by omega
  simp [h1,h]
theorem all_cond {l m:List Int} {p q:Int→Bool} (hm:∀ a,a∈l↔a∈m) (h:∀ a∈l,p a = !q a):l.all p = !m.any q:=by
 rw [Bool.eq_iff_iff]
 simp only [List.all_eq_true,Bool.not_eq_true',List.any_eq_false]
 constructor
 ·intro g a ha hq
  have:=g a ((hm a).2 ha)
  rw [h a ((hm a).2 ha),hq] at this
  cases this
 ·intro g a ha
  rw [h a ha]
  have:=g a ((hm a).1 ha)
  simpa using this
theorem refPulls_eq (k:Kernels) (p:Pull) (n:Nat) (th th':List Bool) (nt:Int) (h:∀ a,0≤a→thereB th' a=(thereB th a && !decide (a=nt))):refPulls k p n th'=readsOK k th p n nt:=by
 simp only [refPulls,readsOK]
 cases hp:pullOK p (withLoops k.vars.es n) k.values.es.length
 ·rfl
 ·simp only [Bool.true_and]
  simp only [pullOK,Bool.and_eq_true] at hp
  refine all_cond (fun a=>?_) (fun a ha=>?_)
  ·rw [mem_readsR,readsV,mem_compI,mem_sortI]
  ·rw [mem_readsR] at ha
   obtain ⟨h4,h5⟩:=valid_reads _ p _ hp.2 a ha
   rw [h a h4]
   cases thereB th a<;>simp
theorem kOwn_second (k:Kernels) (q:Kernel) (i:Nat):kOwn k q i=(!decide (q.kind=3) || !decide (q.source=q.value) || !secondOf k q i):=by
 simp only [kOwn,secondOf]
 cases h1:decide ((i:Int)=0)
 ·simp only [Bool.or_false,Bool.not_false,Bool.true_and]
  cases h2:k.list.es[((i:Int) - 1).toNat]? with
  | none=>simp
  | some r=>dsimp only;cases decide (r.kind=1)<;>cases decide (r.value=q.value)<;>simp
 ·simp
theorem refRight_eq (k:Kernels) (q:Kernel) (th:List Bool) (i:Nat) (hin:0≤k.inputs):refRight k q th (secondOf k q i)=kernelOK k th q i:=by
 simp only [refRight,kernelOK,kernEq_only,kOwn_second,kOut]
 cases o1:decide (q.value < k.inputs)
 case true=>simp
 cases o2:decide ((k.values.es.length:Int)≤q.value)
 case true=>simp
 have hv:0≤q.value:=by simp at o1;omega
 cases ht:k.values.es[q.value.toNat]? with
 | none=>simp
 | some t=>
 simp only [Bool.or_false,Bool.not_false,Bool.true_and,Bool.false_or]
 cases hb:kBool k.values.es q t
 case true=>simp
 simp only [Bool.not_false,Bool.true_and]
 have key:∀ p n,thereB th q.value=false→refPulls k p n th=readsOK k th p n (-1):=by
  intro p n _
  refine refPulls_eq k p n th th (-1) (fun a ha=>?_)
  have:¬ a = -1:=by omega
  simp [this]
 have key3:∀ p n,refPulls k p n (th.set q.value.toNat false)=readsOK k th p n (if thereB th q.value then q.value else -1):=by
  intro p n
  refine refPulls_eq k p n th _ _ (fun a ha=>?_)
  rw [thereB_set hv ha]
  cases hto:thereB th q.value
  ·by_cases hav:a=q.value
   ·subst hav
    simp [hto]
   ·have:¬ a = -1:=by omega
    simp [hav,this]
  ·simp
 by_cases h3:q.kind=3
 ·have h1:¬ q.kind=1:=by omega
  have h2:¬ q.kind=2:=by omega
  simp only [h1,h2,h3,decide_true,decide_false,if_true,if_false,Bool.true_and,Bool.false_or,Bool.not_true,kDims,kBody,kScan,key3,Bool.false_eq_true]
  simp only [show ∀ n:Nat,((n:Int)=0)=(n=0) from fun n=>by simp]
  have hfn:decide (0 < (q.fn.es.length:Int)) = !decide (q.fn.es.length=0):=by
   by_cases h:q.fn.es.length=0<;>simp [h];omega
  rw [hfn,List.length_dropLast]
  cases decide (q.fn.es.length=0)
  ·simp
  simp only [Bool.true_and,Bool.not_true,Bool.or_false]
  cases decide (t.shape.dims.es.length=0)
  case true=>simp
  cases hc:decide (q.check < 0)
  case true=>simp
  cases s1:decide (q.source < 0)
  case true=>simp
  cases s2:decide ((k.values.es.length:Int)≤q.source)
  case true=>simp
  cases s3:thereB th q.source
  case false=>simp
  simp only [Bool.not_false,Bool.true_and,Bool.or_false,Bool.not_true,Bool.false_or]
  cases hsv:decide (q.source=q.value)
  ·cases hto:thereB th q.value
   ·simp only [beq_self_eq_true,Bool.true_and,Bool.false_and,Bool.not_false,Bool.false_eq_true,if_false]
    cases k.values.es[q.source.toNat]? with
    | none=>simp
    | some u=>dsimp only;cases typEq u t<;>simp
   ·simp
  ·have hsv':q.source=q.value:=by simpa using hsv
   rw [hsv'] at s3 ⊢
   simp only [s3,beq_self_eq_true,Bool.true_and,Bool.not_true,Bool.false_or,if_true,ht]
   cases secondOf k q i<;>cases typEq t t<;>simp
 ·simp only [h3,decide_false,if_false,Bool.false_eq_true,Bool.not_false,Bool.true_or,Bool.and_true,kDims,kBody]
  cases hpl:kPlain q
  case true=>simp
  have hck:decide (q.check < 0)=false:=by
   simp only [kPlain,Bool.or_eq_false_iff,Bool.not_eq_false',decide_eq_true_eq] at hpl
   simp [hpl.1.2]
  simp only [hck,Bool.not_false,Bool.true_and]
  by_cases h1:q.kind=1
  ·have h2:¬ q.kind=2:=by omega
   simp only [h1,h2,decide_true,decide_false,if_true,Bool.false_or]
   cases hto:thereB th q.value
   ·rw [key _ _ hto]
    simp only [Bool.false_eq_true,if_false]
    cases decide ((q.fn.es.length:Int)=0)<;>simp
   ·simp
  ·by_cases h2:q.kind=2
   ·simp only [h1,h2,decide_true,decide_false,if_true,if_false,Bool.true_or,Bool.false_eq_true,Bool.true_and]
    cases hto:thereB th q.value
    ·rw [key _ _ hto]
     simp only [Bool.false_eq_true,if_false]
     cases decide (0 < (t.shape.dims.es.length:Int))<;>cases eqL linEq q.space.es t.shape.dims.es<;>cases codeOK q.fn.es 2<;>simp
    ·simp
   ·simp [h1,h2]
end Go.Tev
end
section
namespace Go.Tev
theorem loopF {α : Type} {es d r:List α} {x : α} (hes:es=d++x :: r) (hb:es.length≤big) :
  es[d.length]?=some x∧decide ((d.length:Int) < (es.length:Int))=true∧((d.length:Int) < (es.length:Int))=True∧wr .i64 ((d.length:Int)+1)=((d++[x]).length:Int):=by
 have h:d.length < es.length:=by rw [hes];simp
 refine ⟨by rw [hes];simp,by simp;omega,eq_true (by omega),wr_mid (r:=r) (by rw [← hes];exact hb)⟩
theorem ltSelf (n:Nat):decide ((n:Int) < (n:Int))=false:=by simp
theorem loopG {α β : Type} {q : α → β → Bool} {es d r:List α} {x : α} {es':List β} (hes:es=d++x :: r) (hl:es.length=es'.length) :
  ∃ y,es'[d.length]?=some y∧decide ((d.length:Int) < (es'.length:Int))=true∧((d.length:Int) < (es'.length:Int))=True∧eqL q (x :: r) (es'.drop d.length)=(q x y&&eqL q r (es'.drop (d++[x]).length)):=by
 have h:d.length < es'.length:=by rw [← hl,hes];simp
 refine ⟨es'[d.length],List.getElem?_eq_getElem h,by simp;omega,eq_true (by omega),?_⟩
 rw [List.drop_eq_getElem_cons h,eqL]
 simp
theorem loopG_end {α β : Type} {q : α → β → Bool} {es:List α} {es':List β} (hl:es.length=es'.length):eqL q [] (es'.drop es.length)=true:=by
 rw [hl,List.drop_length];simp [eqL]
theorem eqL_ne {α β : Type} {q : α → β → Bool} {a:List α} {b:List β} (h:decide ((a.length:Int)=(b.length:Int))=false):eqL q a b=false:=by
 cases he:eqL q a b
 ·rfl
 ·have:=eqL_len he
  simp [this] at h
theorem bytesLess_irrefl:∀ s:List UInt8,Op.bytesLess s s=false
 | []=>rfl
 | c :: r=>by
  simp only [Op.bytesLess,bytesLess_irrefl r,Bool.and_false,Bool.or_false,decide_eq_false_iff_not]
  exact UInt8.lt_irrefl c
section
variable {pg:Pg}
theorem c194 (hf:pg.fs 194=some cf194) (nl cl:Bool) (vars:List Str) (hb:vars.length≤big) (s:List UInt8):Ret pg 194 [.sl nl (vars.map Str.av) cl,.str s] (.bool (hasS vars s)):=by
 refine Ret.ofX hf ?_
 unfold cf194
 simp only [go_sem,seval]
 refine XX_list vars (fun d r env hp=>env=cf194E0 (.sl nl (vars.map Str.av) cl) (.str s) (.int .i64 d.length)∧hasS vars s=hasS r s) ?_ ?_ ?_
 ·exact ⟨rfl,rfl⟩
 ·rintro env hp ⟨rfl,hI⟩
  simp only [cf194L0,cf194E0,ltSelf,go_sem,seval]
  rw [hI];rfl
 ·rintro d x r env hp hes ⟨rfl,hI⟩
  obtain ⟨hget,e1,e2,ew⟩:=loopF hes hb
  have hsym:decide (x.bs=s)=decide (s=x.bs):=by rw [decide_eq_decide];exact eq_comm
  cases hx:decide (s=x.bs)
  ·simp only [cf194L0,cf194E0,e1,e2,hget,hsym,hx,ew,go_sem,seval]
   refine ⟨rfl,?_⟩
   rw [hI];simp [hasS,hx]
  ·simp only [cf194L0,cf194E0,e1,e2,hget,hsym,hx,go_sem,seval]
   rw [hI];simp [hasS,hx]
theorem c193 (hf:pg.fs 193=some cf193) (h54:∀ l:Lin,Ret pg 54 [l.av] (.bool (linOK l))) (h194:pg.fs 194=some cf194) (nl cl:Bool) (ls:List Lin) (hb:ls.length≤big) (nl' cl':Bool) (vars:List Str) (hb':vars.length≤big) :
  Ret pg 193 [.sl nl (ls.map Lin.av) cl,.sl nl' (vars.map Str.av) cl'] (.bool (overOK ls vars)):=by
 refine Ret.ofX hf ?_
 unfold cf193
 simp only [go_sem,seval]
 refine XX_list ls (fun d r env hp=>env=cf193E1 (.sl nl (ls.map Lin.av) cl) (.sl nl' (vars.map Str.av) cl') (.int .i64 d.length)∧overOK ls vars=overOK r vars) ?_ ?_ ?_
 ·exact ⟨rfl,rfl⟩
 ·rintro env hp ⟨rfl,hI⟩
  simp only [cf193L1,cf193E1,ltSelf,go_sem,seval]
  rw [hI];rfl
 ·rintro d l r env hp hes ⟨rfl,hI⟩
  rw [overOK_cons] at hI
  obtain ⟨hget,e1,e2,ew⟩:=loopF hes hb
  rw [hI]
  clear hI
  simp only [cf193L1,cf193E1,hget,e1,e2,go_sem,seval]
  refine XO_tree (h54 l) (by simp only [go_sem,seval]) rfl ?_
  simp only [go_sem,seval]
  cases hl:linOK l
  case false=>
   simp only [go_sem,seval]
  simp only [go_sem,seval]
  have hlb:=l.ts.ok
  refine XX_list l.ts.es (fun d2 r2 env hp=>env=cf193E0 (.sl nl (ls.map Lin.av) cl) (.sl nl' (vars.map Str.av) cl') (.int .i64 d.length) (.int .i64 d2.length)∧l.ts.es.all (fun x=>hasS vars x.v.bs)=r2.all (fun x=>hasS vars x.v.bs)) ?_ ?_ ?_
  ·exact ⟨rfl,rfl⟩
  ·rintro env hp ⟨rfl,hI⟩
   simp only [cf193L0,cf193E0,hget,e2,ltSelf,ew,go_sem,seval]
   refine ⟨rfl,?_⟩
   rw [hI];simp
  ·rintro d2 x r2 env hp he2 ⟨rfl,hI⟩
   obtain ⟨hget2,g1,g2,gw⟩:=loopF he2 hlb
   rw [hI]
   clear hI
   simp only [cf193L0,cf193E0,hget,e2,g1,g2,hget2,go_sem,seval]
   refine XO_tree (c194 h194 nl' cl' vars hb' x.v.bs) (by simp only [go_sem,seval]) rfl ?_
   simp only [go_sem,seval]
   cases hv:hasS vars x.v.bs
   ·simp only [hv,go_sem,seval]
   ·simp only [hv,gw,go_sem,seval]
    rfl
theorem c124i (hf:pg.fs 124=some cf124) (n:Int):Ret pg 124 [.str [105,110,116],.int .i64 n] (.bool (elemOKi n)):=by
 refine Ret.ofX hf ?_
 unfold cf124
 repeat' (first | simp only [*,go_sem,seval] | refine XG_split (fun _=>?_) (fun _=>?_) | refine XC_split (fun _=>?_) (fun _=>?_) | refine And.intro (by kernel_rfl) ?_)
 all_goals (simp_all [elemOKi])
 all_goals omega
theorem c124b (hf:pg.fs 124=some cf124) (n:Int):Ret pg 124 [.str [98,111,111,108],.int .i64 n] (.bool (elemOKb n)):=by
 refine Ret.ofX hf ?_
 unfold cf124
 repeat' (first | simp only [*,go_sem,seval] | refine XG_split (fun _=>?_) (fun _=>?_) | refine XC_split (fun _=>?_) (fun _=>?_) | refine And.intro (by kernel_rfl) ?_)
 all_goals (simp_all [elemOKb])
def cmpR (a b:Lin) (r:AV):Prop:=∃ c:Int,r = .int .i64 c∧decide (c=0)=linEq a b
theorem cmpR_of {a b:Lin} (c:Int) (h:decide (c=0)=linEq a b):cmpR a b (.int .i64 c):=⟨c,rfl,h⟩
theorem zip_mid {α β : Type} {a:List α} {b:List β} {d r:List (α × β)} {p : α × β} (h:a.zip b=d++p :: r) :
  a[d.length]?=some p.1∧b[d.length]?=some p.2∧d.length < a.length∧d.length < b.length:=by
 have h1:(a.zip b)[d.length]?=some p:=by rw [h];simp
 rw [List.getElem?_zip_eq_some] at h1
 obtain ⟨h2,h3⟩:=h1
 exact ⟨h2,h3,(List.getElem?_eq_some_iff.1 h2).1,(List.getElem?_eq_some_iff.1 h3).1⟩
theorem c191 (hf:pg.fs 191=some cf191) (a b:Lin):RetP pg 191 [a.av,b.av] (cmpR a b):=by
 refine RetP.ofX hf ?_
 unfold cf191
 simp only [go_sem,seval]
 have hab:=a.ts.ok
 have hbb:=b.ts.ok
 refine XX_list (a.ts.es.zip b.ts.es) (fun d r env hp=>hp.get 1=some (0,.blk [.int .i64 a.c,.sl a.ts.nl (a.ts.es.map Coef.av) a.ts.cl] 2 true true false)∧hp.get 5=some (0,.blk [.int .i64 b.c,.sl b.ts.nl (b.ts.es.map Coef.av) b.ts.cl] 2 true true false) ∧
  env=cf191E0 (.pt 1 0 0) (.pt 5 0 0) (.int .i64 d.length)∧eqL coefEq a.ts.es b.ts.es=eqL coefEq (a.ts.es.drop d.length) (b.ts.es.drop d.length)) ?_ ?_ ?_
 ·exact ⟨rfl,rfl,rfl,rfl⟩
 ·rintro env hp ⟨g1,g5,rfl,hI⟩
  rw [List.length_zip] at hI ⊢
  have hl:linEq a b=(decide (a.c=b.c)&&eqL coefEq (a.ts.es.drop (min a.ts.es.length b.ts.es.length)) (b.ts.es.drop (min a.ts.es.length b.ts.es.length))):=by rw [linEq,hI]
  clear hI
  generalize hm:min a.ts.es.length b.ts.es.length=m at hl ⊢
  rcases Nat.lt_trichotomy a.ts.es.length b.ts.es.length with h | h | h
  ·have hm':m=a.ts.es.length:=by omega
   subst hm'
   have f1:decide ((a.ts.es.length:Int) < (b.ts.es.length:Int))=true:=by simp;omega
   have hz:linEq a b=false:=by
    rw [hl,List.drop_length]
    have:(b.ts.es.drop a.ts.es.length) ≠ []:=by simp [List.drop_eq_nil_iff];omega
    cases hd:b.ts.es.drop a.ts.es.length with
    | nil=>exact absurd hd this
    | cons y s=>simp [eqL]
   simp only [cf191L0,cf191E0,g1,g5,ltSelf,f1,go_sem,seval]
   refine cmpR_of _ ?_
   rw [hz];rfl
  ·have hm':m=a.ts.es.length:=by omega
   subst hm'
   have f0:decide ((b.ts.es.length:Int) < (a.ts.es.length:Int))=false:=by simp;omega
   have f1:decide ((a.ts.es.length:Int) < (b.ts.es.length:Int))=false:=by simp;omega
   have f2:decide ((a.ts.es.length:Int)=(b.ts.es.length:Int))=true:=by simp;omega
   have hz:linEq a b=decide (a.c=b.c):=by
    rw [hl,List.drop_length,h,List.drop_length]
    simp [eqL]
   cases c1:decide (a.c < b.c)
   case true=>
    simp only [cf191L0,cf191E0,g1,g5,ltSelf,f0,f1,f2,c1,go_sem,seval]
    refine cmpR_of _ ?_
    have:¬ a.c=b.c:=by have:=of_decide_eq_true c1;omega
    rw [hz,decide_eq_false this];rfl
   case false=>
   cases c2:decide (b.c < a.c)
   case true=>
    simp only [cf191L0,cf191E0,g1,g5,ltSelf,f0,f1,f2,c1,c2,go_sem,seval]
    refine cmpR_of _ ?_
    have:¬ a.c=b.c:=by have:=of_decide_eq_true c2;omega
    rw [hz,decide_eq_false this];rfl
   case false=>
    simp only [cf191L0,cf191E0,g1,g5,ltSelf,f0,f1,f2,c1,c2,go_sem,seval]
    refine cmpR_of _ ?_
    have:a.c=b.c:=by have:=of_decide_eq_false c2;have:=of_decide_eq_false c1;omega
    rw [hz,decide_eq_true this];rfl
  ·have hm':m=b.ts.es.length:=by omega
   subst hm'
   have f0:decide ((b.ts.es.length:Int) < (a.ts.es.length:Int))=true:=by simp;omega
   have f1:decide ((a.ts.es.length:Int) < (b.ts.es.length:Int))=false:=by simp;omega
   have f2:decide ((a.ts.es.length:Int)=(b.ts.es.length:Int))=false:=by simp;omega
   have hz:linEq a b=false:=by
    rw [hl,List.drop_length]
    have:(a.ts.es.drop b.ts.es.length) ≠ []:=by simp [List.drop_eq_nil_iff];omega
    cases hd:a.ts.es.drop b.ts.es.length with
    | nil=>exact absurd hd this
    | cons y s=>simp [eqL]
   simp only [cf191L0,cf191E0,g1,g5,ltSelf,f0,f1,f2,go_sem,seval]
   refine cmpR_of _ ?_
   rw [hz];rfl
 ·rintro d ⟨x,y⟩ r env hp hes ⟨g1,g5,rfl,hI⟩
  obtain ⟨ga,gb,la,lb⟩:=zip_mid hes
  have e1:decide ((d.length:Int) < (a.ts.es.length:Int))=true:=by simp;omega
  have e2:((d.length:Int) < (a.ts.es.length:Int))=True:=eq_true (by omega)
  have e3:decide ((d.length:Int) < (b.ts.es.length:Int))=true:=by simp;omega
  have e4:((d.length:Int) < (b.ts.es.length:Int))=True:=eq_true (by omega)
  have ew:wr .i64 ((d.length:Int)+1)=((d++[(x,y)]).length:Int):=by
   simp only [big] at hab
   rw [wr_small (by omega) (by omega)];simp
  have hst:eqL coefEq a.ts.es b.ts.es=(coefEq x y&&eqL coefEq (a.ts.es.drop (d++[(x,y)]).length) (b.ts.es.drop (d++[(x,y)]).length)):=by
   rw [hI,List.drop_eq_getElem_cons la,List.drop_eq_getElem_cons lb,eqL]
   rw [List.getElem?_eq_getElem la] at ga
   rw [List.getElem?_eq_getElem lb] at gb
   cases ga;cases gb
   simp
  have hlin:coefEq x y=false→linEq a b=false:=by
   intro h
   rw [linEq,hst,h];simp
  clear hI
  cases c1:Op.bytesLess x.v.bs y.v.bs
  case true=>
   simp only [cf191L0,cf191E0,g1,g5,e1,e2,e3,e4,ga,gb,c1,go_sem,seval]
   refine And.intro (by kernel_rfl) ?_
   refine cmpR_of _ ?_
   have:¬ x.v.bs=y.v.bs:=by intro h;rw [h,bytesLess_irrefl] at c1;cases c1
   rw [hlin (by simp [coefEq,this])];rfl
  case false=>
  cases c2:decide (x.v.bs=y.v.bs)
  case false=>
   simp only [cf191L0,cf191E0,g1,g5,e1,e2,e3,e4,ga,gb,c1,c2,go_sem,seval]
   refine And.intro (by kernel_rfl) ?_
   refine cmpR_of _ ?_
   rw [hlin (by simp [coefEq,c2])];rfl
  case true=>
  cases c3:decide (x.c < y.c)
  case true=>
   simp only [cf191L0,cf191E0,g1,g5,e1,e2,e3,e4,ga,gb,c1,c2,c3,go_sem,seval]
   refine And.intro (by kernel_rfl) ?_
   refine cmpR_of _ ?_
   have:¬ x.c=y.c:=by have:=of_decide_eq_true c3;omega
   rw [hlin (by simp [coefEq,this])];rfl
  case false=>
  cases c4:decide (x.c=y.c)
  case false=>
   simp only [cf191L0,cf191E0,g1,g5,e1,e2,e3,e4,ga,gb,c1,c2,c3,c4,go_sem,seval]
   refine And.intro (by kernel_rfl) ?_
   refine cmpR_of _ ?_
   rw [hlin (by simp [coefEq,c4])];rfl
  case true=>
   simp only [cf191L0,cf191E0,g1,g5,e1,e2,e3,e4,ga,gb,c1,c2,c3,c4,go_sem,seval]
   rw [ew]
   refine ⟨by kernel_rfl,rfl,?_⟩
   rw [hst];simp [coefEq,c2,c4]
theorem c162 (hf:pg.fs 162=some cf162) (h191:pg.fs 191=some cf191) (a b:Lin):Ret pg 162 [a.av,b.av] (.bool (linEq a b)):=by
 obtain ⟨r,hr,c,rfl,hc⟩:=c191 h191 a b
 rw [Lin.avc,Lin.avc] at hr
 refine Ret.ofX hf ?_
 unfold cf162
 simp only [go_sem,seval]
 refine XO_tree (hr) (by simp only [go_sem,seval]) rfl ?_
 simp only [go_sem,seval]
 rw [← hc]
theorem c121 (hf:pg.fs 121=some cf121) (h162:pg.fs 162=some cf162) (h191:pg.fs 191=some cf191) (a b:Shape):Ret pg 121 [a.av,b.av] (.bool (shapeEq a b)):=by
 refine Ret.ofX hf ?_
 unfold cf121
 have hab:=a.dims.ok
 cases b1:decide (a.row.bs=b.row.bs)
 case false=>
  simp only [b1,go_sem,seval]
  simp [shapeEq,b1]
 case true=>
 cases b2:decide ((a.dims.es.length:Int)=(b.dims.es.length:Int))
 case false=>
  simp only [b1,b2,go_sem,seval]
  simp [shapeEq,b1,eqL_ne b2]
 case true=>
 have hl:a.dims.es.length=b.dims.es.length:=by have:=of_decide_eq_true b2;omega
 have hs:shapeEq a b=eqL linEq a.dims.es b.dims.es:=by simp [shapeEq,b1]
 rw [hs]
 simp only [b1,b2,go_sem,seval]
 refine XX_list a.dims.es (fun d r env hp=>hp.get 1=some (0,.blk [.str a.row.bs,.sl a.dims.nl (a.dims.es.map Lin.av) a.dims.cl] 2 true true false)∧hp.get 5=some (0,.blk [.str b.row.bs,.sl b.dims.nl (b.dims.es.map Lin.av) b.dims.cl] 2 true true false) ∧
  env=cf121E0 (.pt 1 0 0) (.pt 5 0 0) (.int .i64 d.length)∧eqL linEq a.dims.es b.dims.es=eqL linEq r (b.dims.es.drop d.length)) ?_ ?_ ?_
 ·exact ⟨rfl,rfl,rfl,rfl⟩
 ·rintro env hp ⟨g1,g5,rfl,hI⟩
  simp only [cf121L0,cf121E0,g1,ltSelf,go_sem,seval]
  rw [hI,loopG_end hl]
 ·rintro d x r env hp hes ⟨g1,g5,rfl,hI⟩
  obtain ⟨hget,e1,e2,ew⟩:=loopF hes hab
  obtain ⟨y,gy,f1,f2,hq⟩:=loopG (q:=linEq) hes hl
  rw [hq] at hI
  rw [hI]
  clear hI
  have a1:=c162 h162 h191 x y
  rw [Lin.avc,Lin.avc] at a1
  cases hxy:linEq x y
  ·simp only [cf121L0,cf121E0,g1,g5,hget,e1,e2,gy,f1,f2,go_sem,seval]
   refine XO_tree a1 (by simp only [go_sem,seval]) rfl ?_
   simp only [hxy,go_sem,seval]
   kernel_rfl
  ·simp only [cf121L0,cf121E0,g1,g5,hget,e1,e2,gy,f1,f2,go_sem,seval]
   refine XO_tree a1 (by simp only [go_sem,seval]) rfl ?_
   simp only [hxy,ew,go_sem,seval]
   exact ⟨by kernel_rfl,g1,g5,rfl⟩
end
end Go.Tev
end
section
namespace Go.Tev
def iEq (x y:Int):Bool:=decide (x=y)
section
variable {pg:Pg}
theorem c15g (hf:pg.fs 15=some cf15) (nl cl nl' cl':Bool) (a b:List Int) (hb:a.length≤big):Ret pg 15 [.sl nl (a.map intA) cl,.sl nl' (b.map intA) cl'] (.bool (eqL iEq a b)):=by
 refine Ret.ofX hf ?_
 unfold cf15
 cases b2:decide ((a.length:Int)=(b.length:Int))
 case false=>
  simp only [b2,go_sem,seval]
  rw [eqL_ne b2]
 case true=>
 have hl:a.length=b.length:=by have:=of_decide_eq_true b2;omega
 simp only [b2,go_sem,seval]
 refine XX_list a (fun d r env hp=>env=cf15E0 (.sl nl (a.map intA) cl) (.sl nl' (b.map intA) cl') (.int .i64 d.length)∧eqL iEq a b=eqL iEq r (b.drop d.length)) ?_ ?_ ?_
 ·exact ⟨rfl,rfl⟩
 ·rintro env hp ⟨rfl,hI⟩
  simp only [cf15L0,cf15E0,ltSelf,go_sem,seval]
  rw [hI,loopG_end hl]
 ·rintro d x r env hp hes ⟨rfl,hI⟩
  obtain ⟨hget,e1,e2,ew⟩:=loopF hes hb
  obtain ⟨y,gy,f1,f2,hq⟩:=loopG (q:=iEq) hes hl
  rw [hq] at hI
  rw [hI]
  clear hI
  cases hxy:decide (x=y)
  ·simp only [cf15L0,cf15E0,e1,e2,hget,gy,f1,f2,hxy,go_sem,seval]
   exact ⟨by kernel_rfl,by simp [iEq,hxy]⟩
  ·simp only [cf15L0,cf15E0,e1,e2,hget,gy,f1,f2,hxy,ew,go_sem,seval]
   exact ⟨by kernel_rfl,rfl,by simp [iEq,hxy]⟩
theorem c161 (hf:pg.fs 161=some cf161) (h15:pg.fs 15=some cf15) (nl cl nl' cl':Bool) (a b:List Step) (hb:a.length≤big):Ret pg 161 [.sl nl (a.map Step.av) cl,.sl nl' (b.map Step.av) cl'] (.bool (eqL stepEq a b)):=by
 refine Ret.ofX hf ?_
 unfold cf161
 cases b2:decide ((a.length:Int)=(b.length:Int))
 case false=>
  simp only [b2,go_sem,seval]
  rw [eqL_ne b2]
 case true=>
 have hl:a.length=b.length:=by have:=of_decide_eq_true b2;omega
 simp only [b2,go_sem,seval]
 refine XX_list a (fun d r env hp=>env=cf161E0 (.sl nl (a.map Step.av) cl) (.sl nl' (b.map Step.av) cl') (.int .i64 d.length)∧eqL stepEq a b=eqL stepEq r (b.drop d.length)) ?_ ?_ ?_
 ·exact ⟨rfl,rfl⟩
 ·rintro env hp ⟨rfl,hI⟩
  simp only [cf161L0,cf161E0,ltSelf,go_sem,seval]
  rw [hI,loopG_end hl]
 ·rintro d x r env hp hes ⟨rfl,hI⟩
  obtain ⟨hget,e1,e2,ew⟩:=loopF hes hb
  obtain ⟨y,gy,f1,f2,hq⟩:=loopG (q:=stepEq) hes hl
  rw [hq] at hI
  rw [hI]
  clear hI
  have hse:stepEq x y=(decide (x.op.bs=y.op.bs)&&decide (x.num=y.num)&&eqL iEq x.args.es y.args.es):=rfl
  cases c1:decide (x.op.bs=y.op.bs)
  case false=>
   simp only [cf161L0,cf161E0,e1,e2,hget,gy,f1,f2,c1,go_sem,seval]
   exact ⟨by kernel_rfl,by simp [hse,c1]⟩
  case true=>
  cases c2:decide (x.num=y.num)
  case false=>
   simp only [cf161L0,cf161E0,e1,e2,hget,gy,f1,f2,c1,c2,go_sem,seval]
   exact ⟨by kernel_rfl,by simp [hse,c2]⟩
  case true=>
  have a1:=c15g h15 x.args.nl x.args.cl y.args.nl y.args.cl x.args.es y.args.es x.args.ok
  simp only [cf161L0,cf161E0,e1,e2,hget,gy,f1,f2,c1,c2,go_sem,seval]
  refine XO_tree a1 (by simp only [go_sem,seval]) rfl ?_
  cases c3:eqL iEq x.args.es y.args.es
  ·simp only [go_sem,seval]
   exact ⟨by kernel_rfl,by simp [hse,c3]⟩
  ·simp only [ew,go_sem,seval]
   exact ⟨by kernel_rfl,rfl,by simp [hse,c1,c2,c3]⟩
def noStr:Str:=⟨[],by simp [big]⟩
set_option maxHeartbeats 1000000 in
theorem c118 (hf:pg.fs 118=some cf118) (h161:pg.fs 161=some cf161) (h15:pg.fs 15=some cf15) (h121:∀ a b:Shape,Ret pg 121 [a.av,b.av] (.bool (shapeEq a b))) :
  ∀ p:Pull,p.ok→∀ q:Pull,Ret pg 118 [p.av,q.av] (.bool (pullEq p q)):=by
 refine Pull.ind' fun p ih hp q=>?_
 obtain ⟨hk,hks⟩:=(Pull.ok_iff p).1 hp
 have a1:=c161 h161 h15 p.fn.nl p.fn.cl q.fn.nl q.fn.cl p.fn.es q.fn.es p.fn.ok
 have a2:=h121 ⟨noStr,p.at_⟩ ⟨noStr,q.at_⟩
 have hs2:shapeEq ⟨noStr,p.at_⟩ ⟨noStr,q.at_⟩=eqL linEq p.at_.es q.at_.es:=by simp [shapeEq,noStr]
 rw [hs2,Shape.avc,Shape.avc] at a2
 clear h121 h161 h15 hs2
 refine Ret.ofX hf ?_
 rw [pullEq_eq,pullEqs_eq]
 unfold cf118
 cases b1:decide (p.op.bs=q.op.bs)
 case false=>
  simp only [b1,go_sem,seval]
 case true=>
 cases b2:decide (p.num=q.num)
 case false=>
  simp only [b1,b2,go_sem,seval]
 case true=>
 cases b3:decide (p.value=q.value)
 case false=>
  simp only [b1,b2,b3,go_sem,seval]
 case true=>
 cases b4:decide (p.name.bs=q.name.bs)
 case false=>
  simp only [b1,b2,b3,b4,go_sem,seval]
 case true=>
 cases b5:(p.dyn == q.dyn)
 case false=>
  simp only [b1,b2,b3,b4,b5,go_sem,seval]
 case true=>
 cases b6:decide (p.check=q.check)
 case false=>
  simp only [b1,b2,b3,b4,b5,b6,go_sem,seval]
 case true=>
 cases b7:decide ((p.kids.length:Int)=(q.kids.length:Int))
 case false=>
  rw [eqL_ne b7]
  simp only [b1,b2,b3,b4,b5,b6,b7,go_sem,seval]
 case true=>
 simp only [b1,b2,b3,b4,b5,b6,b7,go_sem,seval]
 refine XO_tree a1 (by simp only [go_sem,seval]) rfl ?_
 cases b8:eqL stepEq p.fn.es q.fn.es
 case false=>
  simp only [go_sem,seval]
 case true=>
 simp only [go_sem,seval]
 refine XO_tree a2 (by simp only [go_sem,seval]) rfl ?_
 cases b9:eqL linEq p.at_.es q.at_.es
 case false=>
  simp only [go_sem,seval]
 case true=>
 have hl:p.kids.length=q.kids.length:=by have:=of_decide_eq_true b7;omega
 simp only [go_sem,seval]
 refine XX_list p.kids (fun d r env hp=>hp.get 1=some (0,.blk [.str p.op.bs,.int .i64 p.num,.int .i64 p.value,.str p.name.bs,.sl p.at_.nl (p.at_.es.map Lin.av) p.at_.cl,.bool p.dyn,.int .i64 p.check,.sl p.fn.nl (p.fn.es.map Step.av) p.fn.cl,.sl p.knl (p.kids.map Pull.av) p.kcl] 9 true true false) ∧
   hp.get 5=some (0,.blk [.str q.op.bs,.int .i64 q.num,.int .i64 q.value,.str q.name.bs,.sl q.at_.nl (q.at_.es.map Lin.av) q.at_.cl,.bool q.dyn,.int .i64 q.check,.sl q.fn.nl (q.fn.es.map Step.av) q.fn.cl,.sl q.knl (q.kids.map Pull.av) q.kcl] 9 true true false) ∧
   env=cf118E0 (.pt 1 0 0) (.pt 5 0 0) (.int .i64 d.length)∧eqL pullEq p.kids q.kids=eqL pullEq r (q.kids.drop d.length)) ?_ ?_ ?_
 ·exact ⟨rfl,rfl,rfl,rfl⟩
 ·rintro env hp ⟨g1,g5,rfl,hI⟩
  simp only [cf118L0,cf118E0,g1,ltSelf,go_sem,seval]
  rw [hI,loopG_end hl]
 ·rintro d x r env hp hes ⟨g1,g5,rfl,hI⟩
  obtain ⟨hget,e1,e2,ew⟩:=loopF hes hk
  obtain ⟨y,gy,f1,f2,hq⟩:=loopG (q:=pullEq) hes hl
  rw [hq] at hI
  rw [hI]
  clear hI a1 a2
  have hx:x∈p.kids:=by rw [hes];simp
  have a3:=ih x hx (hks x hx) y
  clear ih hks
  simp only [cf118L0,cf118E0,g1,g5,hget,e1,e2,gy,f1,f2,go_sem,seval]
  refine XO_tree a3 (by simp only [go_sem,seval]) rfl ?_
  cases hxy:pullEq x y
  ·simp only [go_sem,seval]
   kernel_rfl
  ·simp only [ew,go_sem,seval]
   exact ⟨by kernel_rfl,g1,g5,rfl⟩
theorem c85 (hf:pg.fs 85=some cf85) (h121:∀ a b:Shape,Ret pg 121 [a.av,b.av] (.bool (shapeEq a b))) (nl cl nl' cl':Bool) (a b:List Lin) (ha:a.length≤big) (hb:b.length≤big) :
  Ret pg 85 [.sl nl (a.map Lin.av) cl,.sl nl' (b.map Lin.av) cl'] (.bool (eqL linEq a b)):=by
 have a2:=h121 ⟨noStr,⟨nl,a,cl,ha⟩⟩ ⟨noStr,⟨nl',b,cl',hb⟩⟩
 have hs2:shapeEq ⟨noStr,⟨nl,a,cl,ha⟩⟩ ⟨noStr,⟨nl',b,cl',hb⟩⟩=eqL linEq a b:=by simp [shapeEq,noStr]
 rw [hs2,Shape.avc,Shape.avc] at a2
 refine Ret.ofX hf ?_
 unfold cf85
 simp only [go_sem,seval]
 refine XO_tree a2 (by simp only [go_sem,seval]) rfl ?_
 simp only [go_sem,seval]
def fnP (f:Sl Step):Pull:=.mk noStr 0 0 noStr (nilSl Lin) false 0 f true [] true
theorem fnP_ok (f:Sl Step):(fnP f).ok:=by simp [fnP,Pull.ok,Pull.oks]
theorem fnP_eq (f g:Sl Step):pullEq (fnP f) (fnP g)=eqL stepEq f.es g.es:=by
 rw [pullEq_eq,pullEqs_eq]
 simp [fnP,Pull.op,Pull.num,Pull.value,Pull.name,Pull.at_,Pull.dyn,Pull.check,Pull.fn,Pull.kids,nilSl,eqL]
theorem c119 (hf:pg.fs 119=some cf119) (h118:∀ p:Pull,p.ok→∀ q:Pull,Ret pg 118 [p.av,q.av] (.bool (pullEq p q))) (a b:Sl Step) :
  Ret pg 119 [.sl a.nl (a.es.map Step.av) a.cl,.sl b.nl (b.es.map Step.av) b.cl] (.bool (eqL stepEq a.es b.es)):=by
 have a2:=h118 (fnP a) (fnP_ok a) (fnP b)
 rw [fnP_eq,Pull.avc,Pull.avc] at a2
 refine Ret.ofX hf ?_
 unfold cf119
 simp only [go_sem,seval]
 refine XO_tree a2 (by simp only [go_sem,seval]) rfl ?_
 simp only [go_sem,seval]
theorem c88 (hf:pg.fs 88=some cf88) (h121:∀ a b:Shape,Ret pg 121 [a.av,b.av] (.bool (shapeEq a b))) (a b:Typ):Ret pg 88 [a.av,b.av] (.bool (typEq a b)):=by
 have a2:=h121 a.shape b.shape
 rw [Shape.avc,Shape.avc] at a2
 refine Ret.ofX hf ?_
 unfold cf88
 cases b1:decide (a.elem.bs=b.elem.bs)
 case false=>
  simp only [b1,go_sem,seval]
  simp [typEq,b1]
 case true=>
 simp only [b1,go_sem,seval]
 refine XO_tree a2 (by simp only [go_sem,seval]) rfl ?_
 simp only [go_sem,seval]
 simp [typEq,b1]
theorem c81 (hf:pg.fs 81=some cf81) (h85:pg.fs 85=some cf85) (h121:∀ a b:Shape,Ret pg 121 [a.av,b.av] (.bool (shapeEq a b))) (h118:∀ p:Pull,p.ok→∀ q:Pull,Ret pg 118 [p.av,q.av] (.bool (pullEq p q))) (h119:pg.fs 119=some cf119)
  (x y:Kernel) (hx:x.body.ok) (hi:x.index.ok):Ret pg 81 [x.av,y.av] (.bool (kernEq x y)):=by
 have a1:=c85 h85 h121 x.space.nl x.space.cl y.space.nl y.space.cl x.space.es y.space.es x.space.ok y.space.ok
 have a2:=h118 x.body hx y.body
 have a3:=h118 x.index hi y.index
 have a4:=c119 h119 h118 x.fn y.fn
 rw [Pull.avc,Pull.avc] at a2 a3
 clear h85 h121 h118 h119
 refine Ret.ofX hf ?_
 unfold cf81
 cases b1:decide (x.kind=y.kind)
 case false=>
  simp only [b1,kernEq,Kernel.av,Kernel.cells,Pull.cells,go_sem,seval]
 case true=>
 cases b2:decide (x.value=y.value)
 case false=>
  simp only [b1,b2,kernEq,go_sem,seval]
 case true=>
 cases b3:decide (x.source=y.source)
 case false=>
  simp only [b1,b2,b3,kernEq,go_sem,seval]
 case true=>
 cases b4:decide (x.check=y.check)
 case false=>
  simp only [b1,b2,b3,b4,kernEq,go_sem,seval]
 case true=>
 simp only [b1,b2,b3,b4,go_sem,seval]
 refine XO_tree a1 (by simp only [go_sem,seval]) rfl ?_
 cases b5:eqL linEq x.space.es y.space.es
 case false=>
  simp only [b1,b2,b3,b4,b5,kernEq,go_sem,seval]
 case true=>
 simp only [go_sem,seval]
 refine XO_tree a2 (by simp only [go_sem,seval]) rfl ?_
 cases b6:pullEq x.body y.body
 case false=>
  simp only [b1,b2,b3,b4,b5,b6,kernEq,go_sem,seval]
 case true=>
 simp only [go_sem,seval]
 refine XO_tree a3 (by simp only [go_sem,seval]) rfl ?_
 cases b7:pullEq x.index y.index
 case false=>
  simp only [b1,b2,b3,b4,b5,b6,b7,kernEq,go_sem,seval]
 case true=>
 simp only [go_sem,seval]
 refine XO_tree a4 (by simp only [go_sem,seval]) rfl ?_
 simp only [b1,b2,b3,b4,b5,b6,b7,kernEq,go_sem,seval]
theorem c82 (hf:pg.fs 82=some cf82) (x:Kernel):Ret pg 82 [x.av] (onlyK x).av:=by
 refine Ret.ofX hf ?_
 unfold cf82
 cases b2:decide (x.kind=2)
 case true=>
  have h2:x.kind=2:=of_decide_eq_true b2
  have h3:decide (x.kind=3)=false:=by simp [h2]
  simp only [b2,h3,go_sem,seval]
  simp [onlyK,h2]
  rfl
 case false=>
 cases b3:decide (x.kind=3)
 case true=>
  have h3:x.kind=3:=of_decide_eq_true b3
  simp only [b2,b3,go_sem,seval]
  refine And.intro (by kernel_rfl) ?_
  simp [onlyK,h3]
  rfl
 case false=>
  have h2:=of_decide_eq_false b2
  have h3:=of_decide_eq_false b3
  simp only [b2,b3,go_sem,seval]
  simp [onlyK,h2,h3]
  rfl
end
end Go.Tev
end
