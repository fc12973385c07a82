import Derived.Test.YtdpdokigjeaaiaaGreatDoorNC
import Derived.Test.YtdpdokigjeaaiaaGreatDoorNA
import Derived.Test.YtdpdokigjeaaiaaGreatDoorNB
set_option linter.all false
section
namespace Go.Tev
section
variable {pg:Pg}
end
end Go.Tev
end
section
namespace Go.Tev
section
variable {pg:Pg}
end
end Go.Tev
end
section
namespace Go.Tev
section
variable {pg:Pg}
end
end Go.Tev
end
section
namespace Go.Tev
end Go.Tev
end
section
namespace Go.Tev
theorem ltSelf (n:Nat):decide ((n:Int) < (n:Int))=false:=by simp
theorem bytesLess_irrefl:∀ s:List UInt8,Op.bytesLess s s=false
 | []=>rfl
 | c :: r=>by
  simp only [Op.bytesLess,bytesLess_irrefl r,Bool.and_false,Bool.or_false,decide_eq_false_iff_not]
  exact UInt8.lt_irrefl c
section
variable {pg:Pg}
def cmpR (a b:Lin) (r:AV):Prop:=∃ c:Int,r = .int .i64 c∧decide (c=0)=linEq a b
theorem cmpR_of {a b:Lin} (c:Int) (h:decide (c=0)=linEq a b):cmpR a b (.int .i64 c):=⟨c,rfl,h⟩
theorem zip_mid {α β : Type} {a:List α} {b:List β} {d r:List (α × β)} {p : α × β} (h:a.zip b=d++p :: r) :
  a[d.length]?=some p.1∧b[d.length]?=some p.2∧d.length < a.length∧d.length < b.length:=by
 have h1:(a.zip b)[d.length]?=some p:=by rw [h];simp
 rw [List.getElem?_zip_eq_some] at h1
 obtain ⟨h2,h3⟩:=h1
 exact ⟨h2,h3,(List.getElem?_eq_some_iff.1 h2).1,(List.getElem?_eq_some_iff.1 h3).1⟩
theorem c191 (hf:pg.fs 191=some cf191) (a b:Lin):RetP pg 191 [a.av,b.av] (cmpR a b):=by
 refine RetP.ofX hf ?_
 unfold cf191
 simp only [go_sem,seval]
 have hab:=a.ts.ok
 have hbb:=b.ts.ok
 refine XX_list (a.ts.es.zip b.ts.es) (fun d r env hp=>hp.get 1=some (0,.blk [.int .i64 a.c,.sl a.ts.nl (a.ts.es.map Coef.av) a.ts.cl] 2 true true false)∧hp.get 5=some (0,.blk [.int .i64 b.c,.sl b.ts.nl (b.ts.es.map Coef.av) b.ts.cl] 2 true true false) ∧
  env=cf191E0 (.pt 1 0 0) (.pt 5 0 0) (.int .i64 d.length)∧eqL coefEq a.ts.es b.ts.es=eqL coefEq (a.ts.es.drop d.length) (b.ts.es.drop d.length)) ?_ ?_ ?_
 ·exact ⟨rfl,rfl,rfl,rfl⟩
 ·rintro env hp ⟨g1,g5,rfl,hI⟩
  rw [List.length_zip] at hI ⊢
  have hl:linEq a b=(decide (a.c=b.c)&&eqL coefEq (a.ts.es.drop (min a.ts.es.length b.ts.es.length)) (b.ts.es.drop (min a.ts.es.length b.ts.es.length))):=by rw [linEq,hI]
  clear hI
  generalize hm:min a.ts.es.length b.ts.es.length=m at hl ⊢
  rcases Nat.lt_trichotomy a.ts.es.length b.ts.es.length with h | h | h
  ·have hm':m=a.ts.es.length:=by omega
   subst hm'
   have f1:decide ((a.ts.es.length:Int) < (b.ts.es.length:Int))=true:=by simp;omega
   have hz:linEq a b=false:=by
    rw [hl,List.drop_length]
    have:(b.ts.es.drop a.ts.es.length) ≠ []:=by simp [List.drop_eq_nil_iff];omega
    cases hd:b.ts.es.drop a.ts.es.length with
    | nil=>exact absurd hd this
    | cons y s=>simp [eqL]
   simp only [cf191L0,cf191E0,g1,g5,ltSelf,f1,go_sem,seval]
   refine cmpR_of _ ?_
   rw [hz];rfl
  ·have hm':m=a.ts.es.length:=by omega
   subst hm'
   have f0:decide ((b.ts.es.length:Int) < (a.ts.es.length:Int))=false:=by simp;omega
   have f1:decide ((a.ts.es.length:Int) < (b.ts.es.length:Int))=false:=by simp;omega
   have f2:decide ((a.ts.es.length:Int)=(b.ts.es.length:Int))=true:=by simp;omega
   have hz:linEq a b=decide (a.c=b.c):=by
    rw [hl,List.drop_length,h,List.drop_length]
    simp [eqL]
   cases c1:decide (a.c < b.c)
   case true=>
    simp only [cf191L0,cf191E0,g1,g5,ltSelf,f0,f1,f2,c1,go_sem,seval]
    refine cmpR_of _ ?_
    have:¬ a.c=b.c:=by have:=of_decide_eq_true c1;omega
    rw [hz,decide_eq_false this];rfl
   case false=>
   cases c2:decide (b.c < a.c)
   case true=>
    simp only [cf191L0,cf191E0,g1,g5,ltSelf,f0,f1,f2,c1,c2,go_sem,seval]
    refine cmpR_of _ ?_
    have:¬ a.c=b.c:=by have:=of_decide_eq_true c2;omega
    rw [hz,decide_eq_false this];rfl
   case false=>
    simp only [cf191L0,cf191E0,g1,g5,ltSelf,f0,f1,f2,c1,c2,go_sem,seval]
    refine cmpR_of _ ?_
    have:a.c=b.c:=by have:=of_decide_eq_false c2;have:=of_decide_eq_false c1;omega
    rw [hz,decide_eq_true this];rfl
  ·have hm':m=b.ts.es.length:=by omega
   subst hm'
   have f0:decide ((b.ts.es.length:Int) < (a.ts.es.length:Int))=true:=by simp;omega
   have f1:decide ((a.ts.es.length:Int) < (b.ts.es.length:Int))=false:=by simp;omega
   have f2:decide ((a.ts.es.length:Int)=(b.ts.es.length:Int))=false:=by simp;omega
   have hz:linEq a b=false:=by
    rw [hl,List.drop_length]
    have:(a.ts.es.drop b.ts.es.length) ≠ []:=by simp [List.drop_eq_nil_iff];omega
    cases hd:a.ts.es.drop b.ts.es.length with
    | nil=>exact absurd hd this
    | cons y s=>simp [eqL]
   simp only [cf191L0,cf191E0,g1,g5,ltSelf,f0,f1,f2,go_sem,seval]
   refine cmpR_of _ ?_
   rw [hz];rfl
 ·rintro d ⟨x,y⟩ r env hp hes ⟨g1,g5,rfl,hI⟩
  obtain ⟨ga,gb,la,lb⟩:=zip_mid hes
  have e1:decide ((d.length:Int) < (a.ts.es.length:Int))=true:=by simp;omega
  have e2:((d.length:Int) < (a.ts.es.length:Int))=True:=eq_true (by omega)
  have e3:decide ((d.length:Int) < (b.ts.es.length:Int))=true:=by simp;omega
  have e4:((d.length:Int) < (b.ts.es.length:Int))=True:=eq_true (by omega)
  have ew:wr .i64 ((d.length:Int)+1)=((d++[(x,y)]).length:Int):=by
   simp only [big] at hab
   rw [wr_small (by omega) (by omega)];simp
  have hst:eqL coefEq a.ts.es b.ts.es=(coefEq x y&&eqL coefEq (a.ts.es.drop (d++[(x,y)]).length) (b.ts.es.drop (d++[(x,y)]).length)):=by
   rw [hI,List.drop_eq_getElem_cons la,List.drop_eq_getElem_cons lb,eqL]
   rw [List.getElem?_eq_getElem la] at ga
   rw [List.getElem?_eq_getElem lb] at gb
   cases ga;cases gb
   simp
  have hlin:coefEq x y=false→linEq a b=false:=by
   intro h
   rw [linEq,hst,h];simp
  clear hI
  cases c1:Op.bytesLess x.v.bs y.v.bs
  case true=>
   simp only [cf191L0,cf191E0,g1,g5,e1,e2,e3,e4,ga,gb,c1,go_sem,seval]
   refine And.intro (by kernel_rfl) ?_
   refine cmpR_of _ ?_
   have:¬ x.v.bs=y.v.bs:=by intro h;rw [h,bytesLess_irrefl] at c1;cases c1
   rw [hlin (by simp [coefEq,this])];rfl
  case false=>
  cases c2:decide (x.v.bs=y.v.bs)
  case false=>
   simp only [cf191L0,cf191E0,g1,g5,e1,e2,e3,e4,ga,gb,c1,c2,go_sem,seval]
   refine And.intro (by kernel_rfl) ?_
   refine cmpR_of _ ?_
   rw [hlin (by simp [coefEq,c2])];rfl
  case true=>
  cases c3:decide (x.c < y.c)
  case true=>
   simp only [cf191L0,cf191E0,g1,g5,e1,e2,e3,e4,ga,gb,c1,c2,c3,go_sem,seval]
   refine And.intro (by kernel_rfl) ?_
   refine cmpR_of _ ?_
   have:¬ x.c=y.c:=by have:=of_decide_eq_true c3;omega
   rw [hlin (by simp [coefEq,this])];rfl
  case false=>
  cases c4:decide (x.c=y.c)
  case false=>
   simp only [cf191L0,cf191E0,g1,g5,e1,e2,e3,e4,ga,gb,c1,c2,c3,c4,go_sem,seval]
   refine And.intro (by kernel_rfl) ?_
   refine cmpR_of _ ?_
   rw [hlin (by simp [coefEq,c4])];rfl
  case true=>
   simp only [cf191L0,cf191E0,g1,g5,e1,e2,e3,e4,ga,gb,c1,c2,c3,c4,go_sem,seval]
   rw [ew]
   refine ⟨by kernel_rfl,rfl,?_⟩
   rw [hst];simp [coefEq,c2,c4]
theorem c162 (hf:pg.fs 162=some cf162) (h191:pg.fs 191=some cf191) (a b:Lin):Ret pg 162 [a.av,b.av] (.bool (linEq a b)):=by
 obtain ⟨r,hr,c,rfl,hc⟩:=c191 h191 a b
 rw [Lin.avc,Lin.avc] at hr
 refine Ret.ofX hf ?_
 unfold cf162
 simp only [go_sem,seval]
 refine XO_tree (hr) (by simp only [go_sem,seval]) rfl ?_
 simp only [go_sem,seval]
 rw [← hc]
end
end Go.Tev
end
section
namespace Go.Tev
section
variable {pg:Pg}
end
end Go.Tev
end
section
namespace Go.Tev
section
variable {pg:Pg}
end
end Go.Tev
end
section
namespace Go.Tev
section
variable {pg:Pg}
end
end Go.Tev
end
section
namespace Go.Tev
section
variable {pg:Pg}
end
end Go.Tev
end
section
namespace Go.Tev
section
variable {pg:Pg}
end
end Go.Tev
end
section
namespace Go.Tev
theorem b2s_one (h:Hp) (nl cl:Bool) (n:Nat) (hn:n < 256):f_b2s h [.sl nl [.int .u8 (n:Int)] cl]=some (.str [UInt8.ofNat n],.pat [] []):=by
 have h1:(0≤(n:Int)∧(n:Int)≤255):=by omega
 simp [f_b2s,srcCells,unchunk,bytesOf,AV.fits,AV.cells,allOne,AV.one,h1]
section
variable {pg:Pg}
end
end Go.Tev
end
section
namespace Go.Tev
section
variable {pg:Pg}
end
end Go.Tev
end
section
namespace Go.Tev
section
variable {pg:Pg}
end
end Go.Tev
end
section
namespace Go.Tev
section
variable {pg:Pg}
end
end Go.Tev
end
section
namespace Go.Tev
def sRead (v:Int) (i:Int) (l:List Int) (s:Sp):Sp:=if l.any (fun w=>decide (w=v)) then (s.1,i) else s
def sVal (v:Int) (i:Int) (q:Kernel) (s:Sp):Sp:=if decide (q.value=v) then (if decide (s.1 = -2) then i else s.1,i) else s
def sKer (v:Int) (i:Int) (q:Kernel) (s:Sp):Sp:=sRead v i (refsR q) (sVal v i q s)
def s0 (k:Kernels) (v:Int):Sp:=if decide (v < k.inputs) then (-1,-1) else (-2,-2)
section
variable {pg:Pg}
end
end Go.Tev
end
section
namespace Go.Tev
section
variable {pg:Pg}
end
end Go.Tev
end
section
namespace Go.Tev
section
variable {pg:Pg}
end
end Go.Tev
end
