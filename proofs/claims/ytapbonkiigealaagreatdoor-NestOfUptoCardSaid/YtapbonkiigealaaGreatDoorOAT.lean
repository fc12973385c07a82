import Derived.Test.YtapbonkiigealaaGreatDoorOAP
import Derived.Test.YtapbonkiigealaaGreatDoorOAO
set_option linter.all false
section
namespace Go.Tev
def putI (x:Int):List Int→List Int
 | []=>[x]
 | y :: r=>if decide (y < x) then y :: putI x r else if decide (y=x) then y :: r else x :: y :: r
theorem mem_putI {x a:Int}:∀ l:List Int,a∈putI x l↔a=x∨a∈l
 | []=>by simp [putI]
 | y :: r=>by
  simp only [putI]
  split
  ·simp only [List.mem_cons,mem_putI r]
   constructor<;>(intro h;rcases h with h | h | h<;>simp [h])
  ·split
   ·rename_i h;simp at h;subst h;simp
   ·simp
theorem putI_len (x:Int):∀ l:List Int,(putI x l).length≤l.length+1
 | []=>by simp [putI]
 | y :: r=>by
  have:=putI_len x r
  simp only [putI]
  split
  ·simp;omega
  ·split<;>simp
def IsL (l:List Int) (r:AV):Prop:=(∃ nl cl,r = .sl nl (l.map intA) cl)∨r = .os (l.map intA) 1 false
theorem IsL.of {l:List Int} {r:AV} (h:IsSl 1 false (l.map intA) r):IsL l r:=by
 rcases h with ⟨he,nl,cl,rfl,_⟩ | h
 ·exact .inl ⟨nl,cl,by rw [he]⟩
 ·exact .inr h
section
variable {pg:Pg}
attribute [local go_sem] Nat.left_eq_add Nat.add_eq_left
end
end Go.Tev
end
section
namespace Go.Tev
def putsI (acc l:List Int):List Int:=l.foldl (fun a x=>putI x a) acc
mutual
def readsR:Pull→List Int
 | .mk op _ value _ _ _ _ _ _ kids _=>readsRs (if decide (op.bs=[114,101,97,100]) then putI value [] else []) kids
def readsRs:List Int→List Pull→List Int
 | acc,[]=>acc
 | acc,p :: r=>readsRs (putsI acc (readsR p)) r
end
theorem putsI_len:∀ (l acc:List Int),(putsI acc l).length≤acc.length+l.length
 | [],acc=>by simp [putsI]
 | x :: r,acc=>by
  have h1:=putsI_len r (putI x acc)
  have h2:=putI_len x acc
  simp only [putsI,List.foldl_cons,List.length_cons] at *
  omega
theorem mem_putsI {a:Int}:∀ (l acc:List Int),a∈putsI acc l↔a∈acc∨a∈l
 | [],acc=>by simp [putsI]
 | x :: r,acc=>by
  have h1:=mem_putsI (a:=a) r (putI x acc)
  simp only [putsI,List.foldl_cons] at *
  rw [h1,mem_putI,List.mem_cons]
  constructor
  ·rintro ((h | h) | h)<;>simp [h]
  ·rintro (h | h | h)<;>simp [h]
mutual
theorem readsR_len:∀ p:Pull,(readsR p).length≤p.sz
 | .mk op _ value _ _ _ _ _ _ kids _=>by
  have h:=readsRs_len kids (if decide (op.bs=[114,101,97,100]) then putI value [] else [])
  rw [readsR,Pull.sz]
  split at h<;>simp_all [putI]<;>omega
theorem readsRs_len:∀ (l:List Pull) (acc:List Int),(readsRs acc l).length≤acc.length+Pull.szL l
 | [],acc=>by simp [readsRs]
 | p :: r,acc=>by
  have h1:=readsR_len p
  have h2:=readsRs_len r (putsI acc (readsR p))
  have h3:=putsI_len (readsR p) acc
  simp only [readsRs,Pull.szL] at *
  omega
end
mutual
theorem mem_readsR (a:Int):∀ p:Pull,a∈readsR p↔a∈readsU p
 | .mk op _ value _ _ _ _ _ _ kids _=>by
  have h:=mem_readsRs a kids (if decide (op.bs=[114,101,97,100]) then putI value [] else [])
  rw [readsR,readsU,h,List.mem_append]
  cases decide (op.bs=[114,101,97,100])<;>simp [putI]
theorem mem_readsRs (a:Int):∀ (l:List Pull) (acc:List Int),a∈readsRs acc l↔a∈acc∨a∈readsL l
 | [],acc=>by simp [readsRs,readsL]
 | p :: r,acc=>by
  have h1:=mem_readsR a p
  have h2:=mem_readsRs a r (putsI acc (readsR p))
  rw [readsRs,h2,mem_putsI,h1,readsL,List.mem_append,or_assoc]
end
def refsR (q:Kernel):List Int:=
 if decide (q.kind=3) then
  (let l:=putsI (readsR q.body) (readsR q.index)
   if decide (q.source=q.value) then l else putI q.source l)
 else readsR q.body
section
variable {pg:Pg}
end
end Go.Tev
end
section
namespace Go.Tev
section
variable {pg:Pg}
theorem c114 (hf:pg.fs 114=some cf114) (c:UInt8):Ret pg 114 [.int .u8 (c.toNat:Int)] (.bool (digit c)):=by
 refine Ret.ofX hf ?_
 unfold cf114
 cases b1:decide (48≤(c.toNat:Int))
 ·simp only [b1,go_sem,seval]
  have:¬ 48≤c.toNat:=by have:=of_decide_eq_false b1;omega
  simp [digit,this]
 ·simp only [b1,go_sem,seval]
  have:48≤c.toNat:=by have:=of_decide_eq_true b1;omega
  simp only [digit,this,decide_true,Bool.true_and]
  rw [decide_eq_decide];omega
theorem c115 (hf:pg.fs 115=some cf115) (c:UInt8):Ret pg 115 [.int .u8 (c.toNat:Int)] (.bool (letter c)):=by
 refine Ret.ofX hf ?_
 unfold cf115
 cases b1:decide (97≤(c.toNat:Int))
 ·simp only [b1,go_sem,seval]
  have:¬ 97≤c.toNat:=by have:=of_decide_eq_false b1;omega
  simp [letter,this]
 ·simp only [b1,go_sem,seval]
  have:97≤c.toNat:=by have:=of_decide_eq_true b1;omega
  simp only [letter,this,decide_true,Bool.true_and]
  rw [decide_eq_decide];omega
theorem c90 (hf:pg.fs 90=some cf90) (n:Int):Ret pg 90 [.int .i64 n] (.bool (coefOK n)):=by
 refine Ret.ofX hf ?_
 unfold cf90
 cases b1:decide (-1000000≤n)
 ·simp only [b1,go_sem,seval]
  simp [coefOK,b1]
 ·simp only [b1,go_sem,seval]
  simp [coefOK,b1]
theorem c77 (hf:pg.fs 77=some cf77) (h114:pg.fs 114=some cf114) (h115:pg.fs 115=some cf115) (s:List UInt8) (hb:s.length≤big):Ret pg 77 [.str s] (.bool (nameU s)):=by
 refine Ret.ofX hf ?_
 unfold cf77
 cases b0:decide ((s.length:Int)=0)
 case true=>
  have:s=[]:=List.eq_nil_of_length_eq_zero (by have:=of_decide_eq_true b0;omega)
  simp only [b0,go_sem,seval]
  subst this
  rfl
 case false=>
 obtain ⟨c,t,hs⟩:∃ c t,s=c :: t:=by
  cases s with
  | nil=>simp at b0
  | cons c t=>exact ⟨c,t,rfl⟩
 have hg0:s[0]?=some c:=by rw [hs];rfl
 have hlt:s.length=t.length+1:=by rw [hs];rfl
 have hnu:nameU s=(decide (s.length≤30)&&(if c=95 then decide (2≤s.length)&&decide (s.length≤10) && !decide (t.head?=some 48)&&t.all digit else letter c&&t.all (fun x=>letter x||digit x))):=by rw [hs];rfl
 cases b1:decide (30 < (s.length:Int))
 case true=>
  simp only [b0,b1,go_sem,seval]
  have:¬ s.length≤30:=by have:=of_decide_eq_true b1;omega
  simp [hnu,this]
 case false=>
 have h30:s.length≤30:=by have:=of_decide_eq_false b1;omega
 have hd30:decide (s.length≤30)=true:=decide_eq_true h30
 rw [hnu,hd30,Bool.true_and]
 clear hnu
 simp only [b0,b1,hg0,go_sem,seval]
 have hi0:∀ (d:List UInt8) (x:UInt8) (r:List UInt8),s=d++x :: r→s[d.length]?=some x∧decide ((d.length:Int) < (s.length:Int))=true∧wr .i64 ((d.length:Int)+1)=((d++[x]).length:Int):=by
  intro d x r he
  refine ⟨by rw [he];simp,by rw [he];simp;omega,?_⟩
  exact wr_mid (r:=r) (by rw [← he];exact hb)
 cases b2:decide ((c.toNat:Int)=95)
 case true=>
  have hc:c=95:=by
   have h:=of_decide_eq_true b2
   exact UInt8.toNat_inj.1 (by simpa using (show c.toNat=95 by omega))
  rw [if_pos hc]
  cases b3:decide ((s.length:Int) < 2)
  case true=>
   have:¬ 2≤s.length:=by have:=of_decide_eq_true b3;omega
   simp only [b3,go_sem,seval]
   simp [this]
  case false=>
  have h2:2≤s.length:=by have:=of_decide_eq_false b3;omega
  cases b4:decide (10 < (s.length:Int))
  case true=>
   have:¬ s.length≤10:=by have:=of_decide_eq_true b4;omega
   simp only [b3,b4,go_sem,seval]
   simp [this]
  case false=>
  have h10:s.length≤10:=by have:=of_decide_eq_false b4;omega
  obtain ⟨d,u,ht⟩:∃ d u,t=d :: u:=by
   cases t with
   | nil=>simp at hlt;omega
   | cons d u=>exact ⟨d,u,rfl⟩
  have hg1:s[1]?=some d:=by rw [hs,ht];rfl
  have hhd:t.head?=some d:=by rw [ht];rfl
  cases b5:decide ((d.toNat:Int)=48)
  case true=>
   have hd:d=48:=by
    have h:=of_decide_eq_true b5
    exact UInt8.toNat_inj.1 (by simpa using (show d.toNat=48 by omega))
   simp only [b3,b4,hg1,b5,go_sem,seval]
   simp [hhd,hd]
  case false=>
  have hd:¬ d=48:=by
   intro h;subst h
   exact absurd rfl (of_decide_eq_false b5)
  have hres:(decide (2≤s.length)&&decide (s.length≤10) && !decide (t.head?=some 48)&&t.all digit)=t.all digit:=by simp [h2,h10,hhd,hd]
  rw [hres]
  simp only [b3,b4,hg1,b5,go_sem,seval]
  refine XX_list t (fun e r env hp=>env=cf77E0 (.str s) (.int .i64 ((e.length+1:Nat):Int))∧t.all digit=r.all digit) ?_ ?_ ?_
  ·exact ⟨rfl,rfl⟩
  ·rintro env hp ⟨rfl,hI⟩
   have hex:decide (((t.length+1:Nat):Int) < (s.length:Int))=false:=by simp;omega
   simp only [cf77L0,cf77E0,hex,go_sem,seval]
   rw [hI];rfl
  ·rintro e x r env hp he ⟨rfl,hI⟩
   have hse:s=(c :: e)++x :: r:=by rw [hs,he];rfl
   obtain ⟨k1,k2,k3⟩:=hi0 _ _ _ hse
   have k0:(c :: e).length=e.length+1:=rfl
   have k4:((c :: e)++[x]).length=(e++[x]).length+1:=by simp
   rw [k0] at k1 k2 k3
   rw [k4] at k3
   simp only [cf77L0,cf77E0,k1,k2,go_sem,seval]
   refine XO_tree (c114 h114 x) rfl rfl ?_
   cases hx:digit x
   ·simp only [hx,go_sem,seval]
    rw [hI];simp [hx]
   ·simp only [hx,k3,go_sem,seval]
    refine ⟨rfl,?_⟩
    rw [hI];simp [hx]
 case false=>
  have hc:¬ c=95:=by
   intro h;subst h
   exact absurd rfl (of_decide_eq_false b2)
  rw [if_neg hc]
  simp only [b2,go_sem,seval]
  refine XX_list s (fun e r env hp=>env=cf77E1 (.str s) (.int .i64 e.length)∧(e=[]∨(letter c&&t.all (fun x=>letter x||digit x))=r.all (fun x=>letter x||digit x))) ?_ ?_ ?_
  ·exact ⟨rfl,.inl rfl⟩
  ·rintro env hp ⟨rfl,hI⟩
   have hex:decide ((s.length:Int) < (s.length:Int))=false:=by simp
   simp only [cf77L1,cf77E1,hex,go_sem,seval]
   rcases hI with h | h
   ·exact absurd h (by rw [hs];simp)
   ·rw [h];rfl
  ·rintro e x r env hp he ⟨rfl,hI⟩
   obtain ⟨k1,k2,k3⟩:=hi0 _ _ _ he
   have hI2:(letter c&&t.all (fun x=>letter x||digit x))=((if e=[] then letter x else (letter x||digit x))&&r.all (fun x=>letter x||digit x)):=by
    rcases hI with h | h
    ·subst h
     rw [hs] at he
     simp only [List.nil_append,List.cons.injEq] at he
     obtain ⟨rfl,rfl⟩:=he
     simp
    ·by_cases h0:e=[]
     ·subst h0
      rw [hs] at he
      simp only [List.nil_append,List.cons.injEq] at he
      obtain ⟨rfl,rfl⟩:=he
      simp
     ·rw [h,if_neg h0];simp
   rw [hI2]
   clear hI hI2
   simp only [cf77L1,cf77E1,k1,k2,go_sem,seval]
   refine XO_tree (c115 h115 x) rfl rfl ?_
   cases hx:letter x
   case true=>
    simp only [hx,k3,go_sem,seval]
    refine ⟨rfl,.inr ?_⟩
    split<;>simp
   case false=>
   by_cases h0:e=[]
   ·have h1:decide ((e.length:Int)=0)=true:=by simp [h0]
    simp only [hx,h1,go_sem,seval]
    simp [h0]
   ·have h1:decide ((e.length:Int)=0)=false:=by simp [h0]
    simp only [hx,h1,k1,go_sem,seval]
    refine XO_tree (c114 h114 x) rfl rfl ?_
    cases hy:digit x
    ·simp only [hx,hy,go_sem,seval]
     simp [h0]
    ·simp only [hx,hy,k3,go_sem,seval]
     refine ⟨rfl,.inr ?_⟩
     simp [h0]
theorem c54 (hf:pg.fs 54=some cf54) (h77:∀ s:Str,Ret pg 77 [.str s.bs] (.bool (nameU s.bs))) (h90:pg.fs 90=some cf90) (l:Lin):Ret pg 54 [l.av] (.bool (linOK l)):=by
 refine Ret.ofX hf ?_
 unfold cf54
 simp only [go_sem,seval]
 refine XO_tree (c90 h90 _) (by simp only [go_sem,seval]) rfl ?_
 simp only [go_sem,seval]
 cases h9:coefOK l.c
 case false=>
  simp only [go_sem,seval]
  simp [linOK,h9]
 cases h12:decide (12 < (l.ts.es.length:Int))
 case true=>
  simp only [h12,go_sem,seval]
  have:¬ (l.ts.es.length:Int)≤12:=by have:=of_decide_eq_true h12;omega
  simp [linOK,this]
 simp only [h12,go_sem,seval]
 have hlin:linOK l=termsOK [] l.ts.es:=by
  have:(l.ts.es.length:Int)≤12:=by have:=of_decide_eq_false h12;omega
  simp [linOK,h9,this]
 refine XX_list l.ts.es (fun d r env hp=>hp.get 1=some (0,.blk [.int .i64 l.c,.sl l.ts.nl (l.ts.es.map Coef.av) l.ts.cl] 2 true true false) ∧
  env=cf54E0 (.pt 1 0 0) (.int .i64 d.length)∧linOK l=termsOK d r) ?_ ?_ ?_
 ·exact ⟨rfl,rfl,hlin⟩
 ·rintro env hp ⟨h1,rfl,hq⟩
  simp only [cf54L0,cf54E0,h1,go_sem,seval]
  rw [hq];rfl
 ·rintro d x r env hp hes ⟨h1,rfl,hq⟩
  have hb:=l.ts.ok
  have hget:l.ts.es[d.length]?=some x:=by rw [hes];simp
  have e1:decide ((d.length:Int) < (l.ts.es.length:Int))=true:=by rw [hes];simp;omega
  have e2:((d.length:Int) < (l.ts.es.length:Int))=True:=eq_true (by rw [hes];simp;omega)
  have hsb:(d++x :: r).length≤big:=by rw [← hes];exact hb
  simp only [termsOK] at hq
  simp only [cf54L0,cf54E0,h1,hget,e1,e2,go_sem,seval]
  refine XO_tree (h77 x.v) (by simp only [go_sem,seval]) rfl ?_
  simp only [go_sem,seval]
  cases hn:nameU x.v.bs
  case false=>
   simp only [go_sem,seval]
   refine And.intro (by kernel_rfl) ?_
   simp [hq,hn]
  cases hc:decide (x.c=0)
  case true=>
   simp only [hc,go_sem,seval]
   refine And.intro (by kernel_rfl) ?_
   simp [hq,hc]
  simp only [hc,go_sem,seval]
  refine XO_tree (c90 h90 x.c) (by simp only [go_sem,seval]) rfl ?_
  simp only [go_sem,seval]
  cases hx9:coefOK x.c
  case false=>
   simp only [go_sem,seval]
   refine And.intro (by kernel_rfl) ?_
   simp [hq,hx9]
  rcases List.eq_nil_or_concat d with hd | ⟨d',q,hd⟩
  ·have e3:decide (0 < (d.length:Int))=false:=by simp [hd]
   simp only [hx9,e3,wr_mid hsb,go_sem,seval]
   refine And.intro (by kernel_rfl) ⟨h1,rfl,?_⟩
   subst hd
   simp [hq,hx9,hc,hn]
  ·have hd':d=d'++[q]:=by simpa using hd
   have e3:decide (0 < (d.length:Int))=true:=by simp [hd']
   have e4:wr .i64 ((d.length:Int) - 1)=(d'.length:Int):=by rw [wr_small (by simp only [hd',List.length_append,List.length_singleton];omega) (by simp only [big,List.length_append] at hsb;omega),hd',List.length_append,List.length_singleton];omega
   have e5:l.ts.es[d'.length]?=some q:=by rw [hes,hd'];simp
   have e6:((d'.length:Int) < (l.ts.es.length:Int))=True:=eq_true (by rw [hes,hd'];simp;omega)
   cases hl:Op.bytesLess q.v.bs x.v.bs
   ·simp only [hx9,e3,e4,e5,e6,h1,hl,go_sem,seval]
    refine And.intro (by kernel_rfl) ?_
    simp [hq,hd',hl]
   ·simp only [hx9,e3,e4,e5,e6,h1,hl,wr_mid hsb,go_sem,seval]
    refine And.intro (by kernel_rfl) ⟨rfl,?_⟩
    simp [hq,hx9,hc,hn,hd',hl]
end
end Go.Tev
end
section
namespace Go.Tev
section
variable {pg:Pg}
theorem overOK_cons (l:Lin) (r:List Lin) (vars:List Str):overOK (l :: r) vars=(linOK l&&(l.ts.es.all (fun x=>hasS vars x.v.bs)&&overOK r vars)):=by
 simp [overOK,Bool.and_assoc]
end
end Go.Tev
end
section
namespace Go.Tev
section
variable {pg:Pg}
end
end Go.Tev
end
section
namespace Go.Tev
theorem eqL_refl {α : Type} {q : α → α → Bool} (h:∀ x,q x x=true):∀ l:List α,eqL q l l=true
 | []=>by simp [eqL]
 | x :: r=>by simp [eqL,h x,eqL_refl h r]
theorem eqL_refl' {α : Type} {q : α → α → Bool}:∀ l:List α,(∀ x∈l,q x x=true)→eqL q l l=true
 | [],_=>by simp [eqL]
 | x :: r,h=>by simp [eqL,h x (by simp),eqL_refl' r (fun y hy=>h y (by simp [hy]))]
theorem coefEq_refl (x:Coef):coefEq x x=true:=by simp [coefEq]
theorem linEq_refl (x:Lin):linEq x x=true:=by simp [linEq,eqL_refl coefEq_refl]
theorem stepEq_refl (x:Step):stepEq x x=true:=by simp [stepEq,eqL_refl]
theorem pullEq_refl:∀ p:Pull,pullEq p p=true:=
 Pull.ind' fun p ih=>by
  rw [pullEq_eq,pullEqs_eq,eqL_refl' p.kids ih,eqL_refl linEq_refl,eqL_refl stepEq_refl]
  simp
theorem eqL_nil {α β : Type} {q : α → β → Bool} (l:List α):eqL q l []=decide ((l.length:Int)=0):=by
 cases l with
 | nil=>simp [eqL]
 | cons x r=>simp [eqL];omega
def nilSl (α : Type):Sl α:=⟨true,[],true,by simp [big]⟩
end Go.Tev
end
section
namespace Go.Tev
theorem loopF {α : Type} {es d r:List α} {x : α} (hes:es=d++x :: r) (hb:es.length≤big) :
  es[d.length]?=some x∧decide ((d.length:Int) < (es.length:Int))=true∧((d.length:Int) < (es.length:Int))=True∧wr .i64 ((d.length:Int)+1)=((d++[x]).length:Int):=by
 have h:d.length < es.length:=by rw [hes];simp
 refine ⟨by rw [hes];simp,by simp;omega,eq_true (by omega),wr_mid (r:=r) (by rw [← hes];exact hb)⟩
theorem ltSelf (n:Nat):decide ((n:Int) < (n:Int))=false:=by simp
theorem loopG {α β : Type} {q : α → β → Bool} {es d r:List α} {x : α} {es':List β} (hes:es=d++x :: r) (hl:es.length=es'.length) :
  ∃ y,es'[d.length]?=some y∧decide ((d.length:Int) < (es'.length:Int))=true∧((d.length:Int) < (es'.length:Int))=True∧eqL q (x :: r) (es'.drop d.length)=(q x y&&eqL q r (es'.drop (d++[x]).length)):=by
 have h:d.length < es'.length:=by rw [← hl,hes];simp
 refine ⟨es'[d.length],List.getElem?_eq_getElem h,by simp;omega,eq_true (by omega),?_⟩
 rw [List.drop_eq_getElem_cons h,eqL]
 simp
theorem loopG_end {α β : Type} {q : α → β → Bool} {es:List α} {es':List β} (hl:es.length=es'.length):eqL q [] (es'.drop es.length)=true:=by
 rw [hl,List.drop_length];simp [eqL]
theorem eqL_ne {α β : Type} {q : α → β → Bool} {a:List α} {b:List β} (h:decide ((a.length:Int)=(b.length:Int))=false):eqL q a b=false:=by
 cases he:eqL q a b
 ·rfl
 ·have:=eqL_len he
  simp [this] at h
theorem bytesLess_irrefl:∀ s:List UInt8,Op.bytesLess s s=false
 | []=>rfl
 | c :: r=>by
  simp only [Op.bytesLess,bytesLess_irrefl r,Bool.and_false,Bool.or_false,decide_eq_false_iff_not]
  exact UInt8.lt_irrefl c
section
variable {pg:Pg}
theorem c194 (hf:pg.fs 194=some cf194) (nl cl:Bool) (vars:List Str) (hb:vars.length≤big) (s:List UInt8):Ret pg 194 [.sl nl (vars.map Str.av) cl,.str s] (.bool (hasS vars s)):=by
 refine Ret.ofX hf ?_
 unfold cf194
 simp only [go_sem,seval]
 refine XX_list vars (fun d r env hp=>env=cf194E0 (.sl nl (vars.map Str.av) cl) (.str s) (.int .i64 d.length)∧hasS vars s=hasS r s) ?_ ?_ ?_
 ·exact ⟨rfl,rfl⟩
 ·rintro env hp ⟨rfl,hI⟩
  simp only [cf194L0,cf194E0,ltSelf,go_sem,seval]
  rw [hI];rfl
 ·rintro d x r env hp hes ⟨rfl,hI⟩
  obtain ⟨hget,e1,e2,ew⟩:=loopF hes hb
  have hsym:decide (x.bs=s)=decide (s=x.bs):=by rw [decide_eq_decide];exact eq_comm
  cases hx:decide (s=x.bs)
  ·simp only [cf194L0,cf194E0,e1,e2,hget,hsym,hx,ew,go_sem,seval]
   refine ⟨rfl,?_⟩
   rw [hI];simp [hasS,hx]
  ·simp only [cf194L0,cf194E0,e1,e2,hget,hsym,hx,go_sem,seval]
   rw [hI];simp [hasS,hx]
theorem c193 (hf:pg.fs 193=some cf193) (h54:∀ l:Lin,Ret pg 54 [l.av] (.bool (linOK l))) (h194:pg.fs 194=some cf194) (nl cl:Bool) (ls:List Lin) (hb:ls.length≤big) (nl' cl':Bool) (vars:List Str) (hb':vars.length≤big) :
  Ret pg 193 [.sl nl (ls.map Lin.av) cl,.sl nl' (vars.map Str.av) cl'] (.bool (overOK ls vars)):=by
 refine Ret.ofX hf ?_
 unfold cf193
 simp only [go_sem,seval]
 refine XX_list ls (fun d r env hp=>env=cf193E1 (.sl nl (ls.map Lin.av) cl) (.sl nl' (vars.map Str.av) cl') (.int .i64 d.length)∧overOK ls vars=overOK r vars) ?_ ?_ ?_
 ·exact ⟨rfl,rfl⟩
 ·rintro env hp ⟨rfl,hI⟩
  simp only [cf193L1,cf193E1,ltSelf,go_sem,seval]
  rw [hI];rfl
 ·rintro d l r env hp hes ⟨rfl,hI⟩
  rw [overOK_cons] at hI
  obtain ⟨hget,e1,e2,ew⟩:=loopF hes hb
  rw [hI]
  clear hI
  simp only [cf193L1,cf193E1,hget,e1,e2,go_sem,seval]
  refine XO_tree (h54 l) (by simp only [go_sem,seval]) rfl ?_
  simp only [go_sem,seval]
  cases hl:linOK l
  case false=>
   simp only [go_sem,seval]
  simp only [go_sem,seval]
  have hlb:=l.ts.ok
  refine XX_list l.ts.es (fun d2 r2 env hp=>env=cf193E0 (.sl nl (ls.map Lin.av) cl) (.sl nl' (vars.map Str.av) cl') (.int .i64 d.length) (.int .i64 d2.length)∧l.ts.es.all (fun x=>hasS vars x.v.bs)=r2.all (fun x=>hasS vars x.v.bs)) ?_ ?_ ?_
  ·exact ⟨rfl,rfl⟩
  ·rintro env hp ⟨rfl,hI⟩
   simp only [cf193L0,cf193E0,hget,e2,ltSelf,ew,go_sem,seval]
   refine ⟨rfl,?_⟩
   rw [hI];simp
  ·rintro d2 x r2 env hp he2 ⟨rfl,hI⟩
   obtain ⟨hget2,g1,g2,gw⟩:=loopF he2 hlb
   rw [hI]
   clear hI
   simp only [cf193L0,cf193E0,hget,e2,g1,g2,hget2,go_sem,seval]
   refine XO_tree (c194 h194 nl' cl' vars hb' x.v.bs) (by simp only [go_sem,seval]) rfl ?_
   simp only [go_sem,seval]
   cases hv:hasS vars x.v.bs
   ·simp only [hv,go_sem,seval]
   ·simp only [hv,gw,go_sem,seval]
    rfl
theorem c124i (hf:pg.fs 124=some cf124) (n:Int):Ret pg 124 [.str [105,110,116],.int .i64 n] (.bool (elemOKi n)):=by
 refine Ret.ofX hf ?_
 unfold cf124
 repeat' (first | simp only [*,go_sem,seval] | refine XG_split (fun _=>?_) (fun _=>?_) | refine XC_split (fun _=>?_) (fun _=>?_) | refine And.intro (by kernel_rfl) ?_)
 all_goals (simp_all [elemOKi])
 all_goals omega
theorem c124b (hf:pg.fs 124=some cf124) (n:Int):Ret pg 124 [.str [98,111,111,108],.int .i64 n] (.bool (elemOKb n)):=by
 refine Ret.ofX hf ?_
 unfold cf124
 repeat' (first | simp only [*,go_sem,seval] | refine XG_split (fun _=>?_) (fun _=>?_) | refine XC_split (fun _=>?_) (fun _=>?_) | refine And.intro (by kernel_rfl) ?_)
 all_goals (simp_all [elemOKb])
def cmpR (a b:Lin) (r:AV):Prop:=∃ c:Int,r = .int .i64 c∧decide (c=0)=linEq a b
theorem cmpR_of {a b:Lin} (c:Int) (h:decide (c=0)=linEq a b):cmpR a b (.int .i64 c):=⟨c,rfl,h⟩
theorem zip_mid {α β : Type} {a:List α} {b:List β} {d r:List (α × β)} {p : α × β} (h:a.zip b=d++p :: r) :
  a[d.length]?=some p.1∧b[d.length]?=some p.2∧d.length < a.length∧d.length < b.length:=by
 have h1:(a.zip b)[d.length]?=some p:=by rw [h];simp
 rw [List.getElem?_zip_eq_some] at h1
 obtain ⟨h2,h3⟩:=h1
 exact ⟨h2,h3,(List.getElem?_eq_some_iff.1 h2).1,(List.getElem?_eq_some_iff.1 h3).1⟩
theorem c191 (hf:pg.fs 191=some cf191) (a b:Lin):RetP pg 191 [a.av,b.av] (cmpR a b):=by
 refine RetP.ofX hf ?_
 unfold cf191
 simp only [go_sem,seval]
 have hab:=a.ts.ok
 have hbb:=b.ts.ok
 refine XX_list (a.ts.es.zip b.ts.es) (fun d r env hp=>hp.get 1=some (0,.blk [.int .i64 a.c,.sl a.ts.nl (a.ts.es.map Coef.av) a.ts.cl] 2 true true false)∧hp.get 5=some (0,.blk [.int .i64 b.c,.sl b.ts.nl (b.ts.es.map Coef.av) b.ts.cl] 2 true true false) ∧
  env=cf191E0 (.pt 1 0 0) (.pt 5 0 0) (.int .i64 d.length)∧eqL coefEq a.ts.es b.ts.es=eqL coefEq (a.ts.es.drop d.length) (b.ts.es.drop d.length)) ?_ ?_ ?_
 ·exact ⟨rfl,rfl,rfl,rfl⟩
 ·rintro env hp ⟨g1,g5,rfl,hI⟩
  rw [List.length_zip] at hI ⊢
  have hl:linEq a b=(decide (a.c=b.c)&&eqL coefEq (a.ts.es.drop (min a.ts.es.length b.ts.es.length)) (b.ts.es.drop (min a.ts.es.length b.ts.es.length))):=by rw [linEq,hI]
  clear hI
  generalize hm:min a.ts.es.length b.ts.es.length=m at hl ⊢
  rcases Nat.lt_trichotomy a.ts.es.length b.ts.es.length with h | h | h
  ·have hm':m=a.ts.es.length:=by omega
   subst hm'
   have f1:decide ((a.ts.es.length:Int) < (b.ts.es.length:Int))=true:=by simp;omega
   have hz:linEq a b=false:=by
    rw [hl,List.drop_length]
    have:(b.ts.es.drop a.ts.es.length) ≠ []:=by simp [List.drop_eq_nil_iff];omega
    cases hd:b.ts.es.drop a.ts.es.length with
    | nil=>exact absurd hd this
    | cons y s=>simp [eqL]
   simp only [cf191L0,cf191E0,g1,g5,ltSelf,f1,go_sem,seval]
   refine cmpR_of _ ?_
   rw [hz];rfl
  ·have hm':m=a.ts.es.length:=by omega
   subst hm'
   have f0:decide ((b.ts.es.length:Int) < (a.ts.es.length:Int))=false:=by simp;omega
   have f1:decide ((a.ts.es.length:Int) < (b.ts.es.length:Int))=false:=by simp;omega
   have f2:decide ((a.ts.es.length:Int)=(b.ts.es.length:Int))=true:=by simp;omega
   have hz:linEq a b=decide (a.c=b.c):=by
    rw [hl,List.drop_length,h,List.drop_length]
    simp [eqL]
   cases c1:decide (a.c < b.c)
   case true=>
    simp only [cf191L0,cf191E0,g1,g5,ltSelf,f0,f1,f2,c1,go_sem,seval]
    refine cmpR_of _ ?_
    have:¬ a.c=b.c:=by have:=of_decide_eq_true c1;omega
    rw [hz,decide_eq_false this];rfl
   case false=>
   cases c2:decide (b.c < a.c)
   case true=>
    simp only [cf191L0,cf191E0,g1,g5,ltSelf,f0,f1,f2,c1,c2,go_sem,seval]
    refine cmpR_of _ ?_
    have:¬ a.c=b.c:=by have:=of_decide_eq_true c2;omega
    rw [hz,decide_eq_false this];rfl
   case false=>
    simp only [cf191L0,cf191E0,g1,g5,ltSelf,f0,f1,f2,c1,c2,go_sem,seval]
    refine cmpR_of _ ?_
    have:a.c=b.c:=by have:=of_decide_eq_false c2;have:=of_decide_eq_false c1;omega
    rw [hz,decide_eq_true this];rfl
  ·have hm':m=b.ts.es.length:=by omega
   subst hm'
   have f0:decide ((b.ts.es.length:Int) < (a.ts.es.length:Int))=true:=by simp;omega
   have f1:decide ((a.ts.es.length:Int) < (b.ts.es.length:Int))=false:=by simp;omega
   have f2:decide ((a.ts.es.length:Int)=(b.ts.es.length:Int))=false:=by simp;omega
   have hz:linEq a b=false:=by
    rw [hl,List.drop_length]
    have:(a.ts.es.drop b.ts.es.length) ≠ []:=by simp [List.drop_eq_nil_iff];omega
    cases hd:a.ts.es.drop b.ts.es.length with
    | nil=>exact absurd hd this
    | cons y s=>simp [eqL]
   simp only [cf191L0,cf191E0,g1,g5,ltSelf,f0,f1,f2,go_sem,seval]
   refine cmpR_of _ ?_
   rw [hz];rfl
 ·rintro d ⟨x,y⟩ r env hp hes ⟨g1,g5,rfl,hI⟩
  obtain ⟨ga,gb,la,lb⟩:=zip_mid hes
  have e1:decide ((d.length:Int) < (a.ts.es.length:Int))=true:=by simp;omega
  have e2:((d.length:Int) < (a.ts.es.length:Int))=True:=eq_true (by omega)
  have e3:decide ((d.length:Int) < (b.ts.es.length:Int))=true:=by simp;omega
  have e4:((d.length:Int) < (b.ts.es.length:Int))=True:=eq_true (by omega)
  have ew:wr .i64 ((d.length:Int)+1)=((d++[(x,y)]).length:Int):=by
   simp only [big] at hab
   rw [wr_small (by omega) (by omega)];simp
  have hst:eqL coefEq a.ts.es b.ts.es=(coefEq x y&&eqL coefEq (a.ts.es.drop (d++[(x,y)]).length) (b.ts.es.drop (d++[(x,y)]).length)):=by
   rw [hI,List.drop_eq_getElem_cons la,List.drop_eq_getElem_cons lb,eqL]
   rw [List.getElem?_eq_getElem la] at ga
   rw [List.getElem?_eq_getElem lb] at gb
   cases ga;cases gb
   simp
  have hlin:coefEq x y=false→linEq a b=false:=by
   intro h
   rw [linEq,hst,h];simp
  clear hI
  cases c1:Op.bytesLess x.v.bs y.v.bs
  case true=>
   simp only [cf191L0,cf191E0,g1,g5,e1,e2,e3,e4,ga,gb,c1,go_sem,seval]
   refine And.intro (by kernel_rfl) ?_
   refine cmpR_of _ ?_
   have:¬ x.v.bs=y.v.bs:=by intro h;rw [h,bytesLess_irrefl] at c1;cases c1
   rw [hlin (by simp [coefEq,this])];rfl
  case false=>
  cases c2:decide (x.v.bs=y.v.bs)
  case false=>
   simp only [cf191L0,cf191E0,g1,g5,e1,e2,e3,e4,ga,gb,c1,c2,go_sem,seval]
   refine And.intro (by kernel_rfl) ?_
   refine cmpR_of _ ?_
   rw [hlin (by simp [coefEq,c2])];rfl
  case true=>
  cases c3:decide (x.c < y.c)
  case true=>
   simp only [cf191L0,cf191E0,g1,g5,e1,e2,e3,e4,ga,gb,c1,c2,c3,go_sem,seval]
   refine And.intro (by kernel_rfl) ?_
   refine cmpR_of _ ?_
   have:¬ x.c=y.c:=by have:=of_decide_eq_true c3;omega
   rw [hlin (by simp [coefEq,this])];rfl
  case false=>
  cases c4:decide (x.c=y.c)
  case false=>
   simp only [cf191L0,cf191E0,g1,g5,e1,e2,e3,e4,ga,gb,c1,c2,c3,c4,go_sem,seval]
   refine And.intro (by kernel_rfl) ?_
   refine cmpR_of _ ?_
   rw [hlin (by simp [coefEq,c4])];rfl
  case true=>
   simp only [cf191L0,cf191E0,g1,g5,e1,e2,e3,e4,ga,gb,c1,c2,c3,c4,go_sem,seval]
   rw [ew]
   refine ⟨by kernel_rfl,rfl,?_⟩
   rw [hst];simp [coefEq,c2,c4]
theorem c162 (hf:pg.fs 162=some cf162) (h191:pg.fs 191=some cf191) (a b:Lin):Ret pg 162 [a.av,b.av] (.bool (linEq a b)):=by
 obtain ⟨r,hr,c,rfl,hc⟩:=c191 h191 a b
 rw [Lin.avc,Lin.avc] at hr
 refine Ret.ofX hf ?_
 unfold cf162
 simp only [go_sem,seval]
 refine XO_tree (hr) (by simp only [go_sem,seval]) rfl ?_
 simp only [go_sem,seval]
 rw [← hc]
theorem c121 (hf:pg.fs 121=some cf121) (h162:pg.fs 162=some cf162) (h191:pg.fs 191=some cf191) (a b:Shape):Ret pg 121 [a.av,b.av] (.bool (shapeEq a b)):=by
 refine Ret.ofX hf ?_
 unfold cf121
 have hab:=a.dims.ok
 cases b1:decide (a.row.bs=b.row.bs)
 case false=>
  simp only [b1,go_sem,seval]
  simp [shapeEq,b1]
 case true=>
 cases b2:decide ((a.dims.es.length:Int)=(b.dims.es.length:Int))
 case false=>
  simp only [b1,b2,go_sem,seval]
  simp [shapeEq,b1,eqL_ne b2]
 case true=>
 have hl:a.dims.es.length=b.dims.es.length:=by have:=of_decide_eq_true b2;omega
 have hs:shapeEq a b=eqL linEq a.dims.es b.dims.es:=by simp [shapeEq,b1]
 rw [hs]
 simp only [b1,b2,go_sem,seval]
 refine XX_list a.dims.es (fun d r env hp=>hp.get 1=some (0,.blk [.str a.row.bs,.sl a.dims.nl (a.dims.es.map Lin.av) a.dims.cl] 2 true true false)∧hp.get 5=some (0,.blk [.str b.row.bs,.sl b.dims.nl (b.dims.es.map Lin.av) b.dims.cl] 2 true true false) ∧
  env=cf121E0 (.pt 1 0 0) (.pt 5 0 0) (.int .i64 d.length)∧eqL linEq a.dims.es b.dims.es=eqL linEq r (b.dims.es.drop d.length)) ?_ ?_ ?_
 ·exact ⟨rfl,rfl,rfl,rfl⟩
 ·rintro env hp ⟨g1,g5,rfl,hI⟩
  simp only [cf121L0,cf121E0,g1,ltSelf,go_sem,seval]
  rw [hI,loopG_end hl]
 ·rintro d x r env hp hes ⟨g1,g5,rfl,hI⟩
  obtain ⟨hget,e1,e2,ew⟩:=loopF hes hab
  obtain ⟨y,gy,f1,f2,hq⟩:=loopG (q:=linEq) hes hl
  rw [hq] at hI
  rw [hI]
  clear hI
  have a1:=c162 h162 h191 x y
  rw [Lin.avc,Lin.avc] at a1
  cases hxy:linEq x y
  ·simp only [cf121L0,cf121E0,g1,g5,hget,e1,e2,gy,f1,f2,go_sem,seval]
   refine XO_tree a1 (by simp only [go_sem,seval]) rfl ?_
   simp only [hxy,go_sem,seval]
   kernel_rfl
  ·simp only [cf121L0,cf121E0,g1,g5,hget,e1,e2,gy,f1,f2,go_sem,seval]
   refine XO_tree a1 (by simp only [go_sem,seval]) rfl ?_
   simp only [hxy,ew,go_sem,seval]
   exact ⟨by kernel_rfl,g1,g5,rfl⟩
end
end Go.Tev
end
