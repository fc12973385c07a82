import Derived.Test.YtdpdokigjeaaiaaGreatDoorNHm
set_option linter.all false
section
namespace Go.Tev
section
variable {pg:Pg}
theorem c114 (hf:pg.fs 114=some cf114) (c:UInt8):Ret pg 114 [.int .u8 (c.toNat:Int)] (.bool (digit c)):=by
 refine Ret.ofX hf ?_
 unfold cf114
 cases b1:decide (48≤(c.toNat:Int))
 ·simp only [b1,go_sem,seval]
  have:¬ 48≤c.toNat:=by have:=of_decide_eq_false b1;omega
  simp [digit,this]
 ·simp only [b1,go_sem,seval]
  have:48≤c.toNat:=by have:=of_decide_eq_true b1;omega
  simp only [digit,this,decide_true,Bool.true_and]
  rw [decide_eq_decide];omega
theorem c115 (hf:pg.fs 115=some cf115) (c:UInt8):Ret pg 115 [.int .u8 (c.toNat:Int)] (.bool (letter c)):=by
 refine Ret.ofX hf ?_
 unfold cf115
 cases b1:decide (97≤(c.toNat:Int))
 ·simp only [b1,go_sem,seval]
  have:¬ 97≤c.toNat:=by have:=of_decide_eq_false b1;omega
  simp [letter,this]
 ·simp only [b1,go_sem,seval]
  have:97≤c.toNat:=by have:=of_decide_eq_true b1;omega
  simp only [letter,this,decide_true,Bool.true_and]
  rw [decide_eq_decide];omega
theorem c90 (hf:pg.fs 90=some cf90) (n:Int):Ret pg 90 [.int .i64 n] (.bool (coefOK n)):=by
 refine Ret.ofX hf ?_
 unfold cf90
 cases b1:decide (-1000000≤n)
 ·simp only [b1,go_sem,seval]
  simp [coefOK,b1]
 ·simp only [b1,go_sem,seval]
  simp [coefOK,b1]
theorem c77 (hf:pg.fs 77=some cf77) (h114:pg.fs 114=some cf114) (h115:pg.fs 115=some cf115) (s:List UInt8) (hb:s.length≤big):Ret pg 77 [.str s] (.bool (nameU s)):=by
 refine Ret.ofX hf ?_
 unfold cf77
 cases b0:decide ((s.length:Int)=0)
 case true=>
  have:s=[]:=List.eq_nil_of_length_eq_zero (by have:=of_decide_eq_true b0;omega)
  simp only [b0,go_sem,seval]
  subst this
  rfl
 case false=>
 obtain ⟨c,t,hs⟩:∃ c t,s=c :: t:=by
  cases s with
  | nil=>simp at b0
  | cons c t=>exact ⟨c,t,rfl⟩
 have hg0:s[0]?=some c:=by rw [hs];rfl
 have hlt:s.length=t.length+1:=by rw [hs];rfl
 have hnu:nameU s=(decide (s.length≤30)&&(if c=95 then decide (2≤s.length)&&decide (s.length≤10) && !decide (t.head?=some 48)&&t.all digit else letter c&&t.all (fun x=>letter x||digit x))):=by rw [hs];rfl
 cases b1:decide (30 < (s.length:Int))
 case true=>
  simp only [b0,b1,go_sem,seval]
  have:¬ s.length≤30:=by have:=of_decide_eq_true b1;omega
  simp [hnu,this]
 case false=>
 have h30:s.length≤30:=by have:=of_decide_eq_false b1;omega
 have hd30:decide (s.length≤30)=true:=decide_eq_true h30
 rw [hnu,hd30,Bool.true_and]
 clear hnu
 simp only [b0,b1,hg0,go_sem,seval]
 have hi0:∀ (d:List UInt8) (x:UInt8) (r:List UInt8),s=d++x :: r→s[d.length]?=some x∧decide ((d.length:Int) < (s.length:Int))=true∧wr .i64 ((d.length:Int)+1)=((d++[x]).length:Int):=by
  intro d x r he
  refine ⟨by rw [he];simp,by rw [he];simp;omega,?_⟩
  exact wr_mid (r:=r) (by rw [← he];exact hb)
 cases b2:decide ((c.toNat:Int)=95)
 case true=>
  have hc:c=95:=by
   have h:=of_decide_eq_true b2
   exact UInt8.toNat_inj.1 (by simpa using (show c.toNat=95 by omega))
  rw [if_pos hc]
  cases b3:decide ((s.length:Int) < 2)
  case true=>
   have:¬ 2≤s.length:=by have:=of_decide_eq_true b3;omega
   simp only [b3,go_sem,seval]
   simp [this]
  case false=>
  have h2:2≤s.length:=by have:=of_decide_eq_false b3;omega
  cases b4:decide (10 < (s.length:Int))
  case true=>
   have:¬ s.length≤10:=by have:=of_decide_eq_true b4;omega
   simp only [b3,b4,go_sem,seval]
   simp [this]
  case false=>
  have h10:s.length≤10:=by have:=of_decide_eq_false b4;omega
  obtain ⟨d,u,ht⟩:∃ d u,t=d :: u:=by
   cases t with
   | nil=>simp at hlt;omega
   | cons d u=>exact ⟨d,u,rfl⟩
  have hg1:s[1]?=some d:=by rw [hs,ht];rfl
  have hhd:t.head?=some d:=by rw [ht];rfl
  cases b5:decide ((d.toNat:Int)=48)
  case true=>
   have hd:d=48:=by
    have h:=of_decide_eq_true b5
    exact UInt8.toNat_inj.1 (by simpa using (show d.toNat=48 by omega))
   simp only [b3,b4,hg1,b5,go_sem,seval]
   simp [hhd,hd]
  case false=>
  have hd:¬ d=48:=by
   intro h;subst h
   exact absurd rfl (of_decide_eq_false b5)
  have hres:(decide (2≤s.length)&&decide (s.length≤10) && !decide (t.head?=some 48)&&t.all digit)=t.all digit:=by simp [h2,h10,hhd,hd]
  rw [hres]
  simp only [b3,b4,hg1,b5,go_sem,seval]
  refine XX_list t (fun e r env hp=>env=cf77E0 (.str s) (.int .i64 ((e.length+1:Nat):Int))∧t.all digit=r.all digit) ?_ ?_ ?_
  ·exact ⟨rfl,rfl⟩
  ·rintro env hp ⟨rfl,hI⟩
   have hex:decide (((t.length+1:Nat):Int) < (s.length:Int))=false:=by simp;omega
   simp only [cf77L0,cf77E0,hex,go_sem,seval]
   rw [hI];rfl
  ·rintro e x r env hp he ⟨rfl,hI⟩
   have hse:s=(c :: e)++x :: r:=by rw [hs,he];rfl
   obtain ⟨k1,k2,k3⟩:=hi0 _ _ _ hse
   have k0:(c :: e).length=e.length+1:=rfl
   have k4:((c :: e)++[x]).length=(e++[x]).length+1:=by simp
   rw [k0] at k1 k2 k3
   rw [k4] at k3
   simp only [cf77L0,cf77E0,k1,k2,go_sem,seval]
   refine XO_tree (c114 h114 x) rfl rfl ?_
   cases hx:digit x
   ·simp only [hx,go_sem,seval]
    rw [hI];simp [hx]
   ·simp only [hx,k3,go_sem,seval]
    refine ⟨rfl,?_⟩
    rw [hI];simp [hx]
 case false=>
  have hc:¬ c=95:=by
   intro h;subst h
   exact absurd rfl (of_decide_eq_false b2)
  rw [if_neg hc]
  simp only [b2,go_sem,seval]
  refine XX_list s (fun e r env hp=>env=cf77E1 (.str s) (.int .i64 e.length)∧(e=[]∨(letter c&&t.all (fun x=>letter x||digit x))=r.all (fun x=>letter x||digit x))) ?_ ?_ ?_
  ·exact ⟨rfl,.inl rfl⟩
  ·rintro env hp ⟨rfl,hI⟩
   have hex:decide ((s.length:Int) < (s.length:Int))=false:=by simp
   simp only [cf77L1,cf77E1,hex,go_sem,seval]
   rcases hI with h | h
   ·exact absurd h (by rw [hs];simp)
   ·rw [h];rfl
  ·rintro e x r env hp he ⟨rfl,hI⟩
   obtain ⟨k1,k2,k3⟩:=hi0 _ _ _ he
   have hI2:(letter c&&t.all (fun x=>letter x||digit x))=((if e=[] then letter x else (letter x||digit x))&&r.all (fun x=>letter x||digit x)):=by
    rcases hI with h | h
    ·subst h
     rw [hs] at he
     simp only [List.nil_append,List.cons.injEq] at he
     obtain ⟨rfl,rfl⟩:=he
     simp
    ·by_cases h0:e=[]
     ·subst h0
      rw [hs] at he
      simp only [List.nil_append,List.cons.injEq] at he
      obtain ⟨rfl,rfl⟩:=he
      simp
     ·rw [h,if_neg h0];simp
   rw [hI2]
   clear hI hI2
   simp only [cf77L1,cf77E1,k1,k2,go_sem,seval]
   refine XO_tree (c115 h115 x) rfl rfl ?_
   cases hx:letter x
   case true=>
    simp only [hx,k3,go_sem,seval]
    refine ⟨rfl,.inr ?_⟩
    split<;>simp
   case false=>
   by_cases h0:e=[]
   ·have h1:decide ((e.length:Int)=0)=true:=by simp [h0]
    simp only [hx,h1,go_sem,seval]
    simp [h0]
   ·have h1:decide ((e.length:Int)=0)=false:=by simp [h0]
    simp only [hx,h1,k1,go_sem,seval]
    refine XO_tree (c114 h114 x) rfl rfl ?_
    cases hy:digit x
    ·simp only [hx,hy,go_sem,seval]
     simp [h0]
    ·simp only [hx,hy,k3,go_sem,seval]
     refine ⟨rfl,.inr ?_⟩
     simp [h0]
theorem c54 (hf:pg.fs 54=some cf54) (h77:∀ s:Str,Ret pg 77 [.str s.bs] (.bool (nameU s.bs))) (h90:pg.fs 90=some cf90) (l:Lin):Ret pg 54 [l.av] (.bool (linOK l)):=by
 refine Ret.ofX hf ?_
 unfold cf54
 simp only [go_sem,seval]
 refine XO_tree (c90 h90 _) (by simp only [go_sem,seval]) rfl ?_
 simp only [go_sem,seval]
 cases h9:coefOK l.c
 case false=>
  simp only [go_sem,seval]
  simp [linOK,h9]
 cases h12:decide (12 < (l.ts.es.length:Int))
 case true=>
  simp only [h12,go_sem,seval]
  have:¬ (l.ts.es.length:Int)≤12:=by have:=of_decide_eq_true h12;omega
  simp [linOK,this]
 simp only [h12,go_sem,seval]
 have hlin:linOK l=termsOK [] l.ts.es:=by
  have:(l.ts.es.length:Int)≤12:=by have:=of_decide_eq_false h12;omega
  simp [linOK,h9,this]
 refine XX_list l.ts.es (fun d r env hp=>hp.get 1=some (0,.blk [.int .i64 l.c,.sl l.ts.nl (l.ts.es.map Coef.av) l.ts.cl] 2 true true false) ∧
  env=cf54E0 (.pt 1 0 0) (.int .i64 d.length)∧linOK l=termsOK d r) ?_ ?_ ?_
 ·exact ⟨rfl,rfl,hlin⟩
 ·rintro env hp ⟨h1,rfl,hq⟩
  simp only [cf54L0,cf54E0,h1,go_sem,seval]
  rw [hq];rfl
 ·rintro d x r env hp hes ⟨h1,rfl,hq⟩
  have hb:=l.ts.ok
  have hget:l.ts.es[d.length]?=some x:=by rw [hes];simp
  have e1:decide ((d.length:Int) < (l.ts.es.length:Int))=true:=by rw [hes];simp;omega
  have e2:((d.length:Int) < (l.ts.es.length:Int))=True:=eq_true (by rw [hes];simp;omega)
  have hsb:(d++x :: r).length≤big:=by rw [← hes];exact hb
  simp only [termsOK] at hq
  simp only [cf54L0,cf54E0,h1,hget,e1,e2,go_sem,seval]
  refine XO_tree (h77 x.v) (by simp only [go_sem,seval]) rfl ?_
  simp only [go_sem,seval]
  cases hn:nameU x.v.bs
  case false=>
   simp only [go_sem,seval]
   refine And.intro (by kernel_rfl) ?_
   simp [hq,hn]
  cases hc:decide (x.c=0)
  case true=>
   simp only [hc,go_sem,seval]
   refine And.intro (by kernel_rfl) ?_
   simp [hq,hc]
  simp only [hc,go_sem,seval]
  refine XO_tree (c90 h90 x.c) (by simp only [go_sem,seval]) rfl ?_
  simp only [go_sem,seval]
  cases hx9:coefOK x.c
  case false=>
   simp only [go_sem,seval]
   refine And.intro (by kernel_rfl) ?_
   simp [hq,hx9]
  rcases List.eq_nil_or_concat d with hd | ⟨d',q,hd⟩
  ·have e3:decide (0 < (d.length:Int))=false:=by simp [hd]
   simp only [hx9,e3,wr_mid hsb,go_sem,seval]
   refine And.intro (by kernel_rfl) ⟨h1,rfl,?_⟩
   subst hd
   simp [hq,hx9,hc,hn]
  ·have hd':d=d'++[q]:=by simpa using hd
   have e3:decide (0 < (d.length:Int))=true:=by simp [hd']
   have e4:wr .i64 ((d.length:Int) - 1)=(d'.length:Int):=by rw [wr_small (by simp only [hd',List.length_append,List.length_singleton];omega) (by simp only [big,List.length_append] at hsb;omega),hd',List.length_append,List.length_singleton];omega
   have e5:l.ts.es[d'.length]?=some q:=by rw [hes,hd'];simp
   have e6:((d'.length:Int) < (l.ts.es.length:Int))=True:=eq_true (by rw [hes,hd'];simp;omega)
   cases hl:Op.bytesLess q.v.bs x.v.bs
   ·simp only [hx9,e3,e4,e5,e6,h1,hl,go_sem,seval]
    refine And.intro (by kernel_rfl) ?_
    simp [hq,hd',hl]
   ·simp only [hx9,e3,e4,e5,e6,h1,hl,wr_mid hsb,go_sem,seval]
    refine And.intro (by kernel_rfl) ⟨rfl,?_⟩
    simp [hq,hx9,hc,hn,hd',hl]
end
end Go.Tev
end
section
namespace Go.Tev
section
variable {pg:Pg}
theorem overOK_cons (l:Lin) (r:List Lin) (vars:List Str):overOK (l :: r) vars=(linOK l&&(l.ts.es.all (fun x=>hasS vars x.v.bs)&&overOK r vars)):=by
 simp [overOK,Bool.and_assoc]
theorem c80 (hf:pg.fs 80=some cf80) (h54:∀ l:Lin,Ret pg 54 [l.av] (.bool (linOK l))) (nl cl:Bool) (ls:List Lin) (hb:ls.length≤big) (nl' cl':Bool) (vars:List Str) (hb':vars.length≤big) :
  Ret pg 80 [.sl nl (ls.map Lin.av) cl,.sl nl' (vars.map Str.av) cl'] (.bool (overOK ls vars)):=by
 refine Ret.ofX hf ?_
 unfold cf80
 simp only [go_sem,seval]
 refine XX_list ls (fun d r env hp=>env=cf80E2 (.sl nl (ls.map Lin.av) cl) (.sl nl' (vars.map Str.av) cl') (.int .i64 d.length)∧overOK ls vars=overOK r vars) ?_ ?_ ?_
 ·exact ⟨rfl,rfl⟩
 ·rintro env hp ⟨rfl,hI⟩
  simp only [cf80L2,cf80E2,go_sem,seval]
  rw [hI];rfl
 ·rintro d l r env hp hes ⟨rfl,hI⟩
  rw [overOK_cons] at hI
  have hsb:(d++l :: r).length≤big:=by rw [← hes];exact hb
  have hget:ls[d.length]?=some l:=by rw [hes];simp
  have e1:decide ((d.length:Int) < (ls.length:Int))=true:=by rw [hes];simp;omega
  have e2:((d.length:Int) < (ls.length:Int))=True:=eq_true (by rw [hes];simp;omega)
  rw [hI]
  clear hI
  simp only [cf80L2,cf80E2,hget,e1,e2,go_sem,seval]
  refine XO_tree (h54 l) (by simp only [go_sem,seval]) rfl ?_
  simp only [go_sem,seval]
  cases hl:linOK l
  case false=>
   simp only [go_sem,seval]
  simp only [go_sem,seval]
  have hlb:=l.ts.ok
  refine XX_list l.ts.es (fun d2 r2 env hp=>env=cf80E1 (.sl nl (ls.map Lin.av) cl) (.sl nl' (vars.map Str.av) cl') (.int .i64 d.length) (.int .i64 d2.length)∧l.ts.es.all (fun x=>hasS vars x.v.bs)=r2.all (fun x=>hasS vars x.v.bs)) ?_ ?_ ?_
  ·exact ⟨rfl,rfl⟩
  ·rintro env hp ⟨rfl,hI⟩
   have f1:decide ((l.ts.es.length:Int) < (l.ts.es.length:Int))=false:=by simp
   simp only [cf80L1,cf80E1,hget,e2,f1,wr_mid hsb,go_sem,seval]
   refine ⟨rfl,?_⟩
   rw [hI];simp
  ·rintro d2 x r2 env hp he2 ⟨rfl,hI⟩
   have hsb2:(d2++x :: r2).length≤big:=by rw [← he2];exact hlb
   have hget2:l.ts.es[d2.length]?=some x:=by rw [he2];simp
   have g1:decide ((d2.length:Int) < (l.ts.es.length:Int))=true:=by rw [he2];simp;omega
   have g2:((d2.length:Int) < (l.ts.es.length:Int))=True:=eq_true (by rw [he2];simp;omega)
   rw [hI]
   clear hI
   simp only [cf80L1,cf80E1,hget,e2,g1,go_sem,seval]
   refine XX_list vars (fun d3 r3 env hp=>env=cf80E0 (.sl nl (ls.map Lin.av) cl) (.sl nl' (vars.map Str.av) cl') (.int .i64 d.length) (.int .i64 d2.length) (.bool (d3.any fun s=>decide (x.v.bs=s.bs))) (.int .i64 d3.length)) ?_ ?_ ?_
   ·rfl
   ·rintro env hp rfl
    simp only [cf80L0,cf80E0,go_sem,seval]
    have hh:(vars.any fun s=>decide (x.v.bs=s.bs))=hasS vars x.v.bs:=rfl
    rw [hh]
    cases hv:hasS vars x.v.bs
    case false=>
     simp only [go_sem,seval]
    case true=>
     simp only [wr_mid hsb2,go_sem,seval]
     rfl
   ·rintro d3 y r3 env hp he3 rfl
    have hsb3:(d3++y :: r3).length≤big:=by rw [← he3];exact hb'
    have hget3:vars[d3.length]?=some y:=by rw [he3];simp
    have k1:decide ((d3.length:Int) < (vars.length:Int))=true:=by rw [he3];simp;omega
    have k2:((d3.length:Int) < (vars.length:Int))=True:=eq_true (by rw [he3];simp;omega)
    have hany:((d3++[y]).any fun s=>decide (x.v.bs=s.bs))=((d3.any fun s=>decide (x.v.bs=s.bs))||decide (x.v.bs=y.bs)):=by simp
    rw [hany]
    cases hA:(d3.any fun s=>decide (x.v.bs=s.bs))
    case true=>
     simp only [cf80L0,cf80E0,k1,k2,hget3,wr_mid hsb3,go_sem,seval]
     exact ⟨by kernel_rfl,rfl⟩
    case false=>
     have hsym:decide (y.bs=x.v.bs)=decide (x.v.bs=y.bs):=by rw [decide_eq_decide];exact eq_comm
     simp only [cf80L0,cf80E0,k1,k2,hget3,hget,hget2,e2,g2,hsym,wr_mid hsb3,go_sem,seval]
     exact ⟨by kernel_rfl,rfl⟩
theorem c160 (hf:pg.fs 160=some cf160) (s:List UInt8) (hb:s.length≤big):Ret pg 160 [.str s] (.bool (elemVarU s)):=by
 refine Ret.ofX hf ?_
 unfold cf160
 cases b0:decide ((s.length:Int)=0)
 case true=>
  have:s=[]:=List.eq_nil_of_length_eq_zero (by have:=of_decide_eq_true b0;omega)
  have e1:decide (1 < ((0:Nat):Int))=false:=by decide
  simp only [go_sem,seval]
  refine XX_list ([]:List UInt8) (fun e r env hp=>env=cf160E0 (.str s) (.int .i64 1)) ?_ ?_ ?_
  ·rfl
  ·rintro env hp rfl
   subst this
   simp only [cf160L0,cf160E0,go_sem,seval]
   rfl
  ·rintro e x r env hp he _
   simp at he
 case false=>
 obtain ⟨c,t,hs⟩:∃ c t,s=c :: t:=by
  cases s with
  | nil=>simp at b0
  | cons c t=>exact ⟨c,t,rfl⟩
 have hg0:s[0]?=some c:=by rw [hs];rfl
 have hlt:s.length=t.length+1:=by rw [hs];rfl
 have hev:elemVarU s=(decide (s.length≤30)&&(decide (65≤c.toNat)&&decide (c.toNat≤90))&&t.all digit):=by rw [hs];rfl
 simp only [go_sem,seval]
 refine XX_list t (fun e r env hp=>env=cf160E0 (.str s) (.int .i64 ((e.length+1:Nat):Int))∧t.all digit=r.all digit) ?_ ?_ ?_
 ·exact ⟨rfl,rfl⟩
 ·rintro env hp ⟨rfl,hI⟩
  have hI':t.all digit=true:=by rw [hI];rfl
  rw [hev,hI',Bool.and_true]
  have hex:decide (((t.length+1:Nat):Int) < (s.length:Int))=false:=by simp;omega
  have f1:decide (1≤(s.length:Int))=true:=by simp;omega
  cases b1:decide ((s.length:Int)≤30)
  case false=>
   have:¬ s.length≤30:=by have:=of_decide_eq_false b1;omega
   simp only [cf160L0,cf160E0,hex,f1,b1,go_sem,seval]
   simp [this]
  case true=>
  have h30:s.length≤30:=by have:=of_decide_eq_true b1;omega
  cases b2:decide (65≤(c.toNat:Int))
  case false=>
   have:¬ 65≤c.toNat:=by have:=of_decide_eq_false b2;omega
   simp only [cf160L0,cf160E0,hex,f1,b1,hg0,b2,go_sem,seval]
   simp [this]
  case true=>
  have h65:65≤c.toNat:=by have:=of_decide_eq_true b2;omega
  have hc:decide ((c.toNat:Int)≤90)=decide (c.toNat≤90):=by rw [decide_eq_decide];omega
  simp only [cf160L0,cf160E0,hex,f1,b1,hg0,b2,hc,go_sem,seval]
  simp [h30,h65]
 ·rintro e x r env hp he ⟨rfl,hI⟩
  have hse:s=(c :: e)++x :: r:=by rw [hs,he];rfl
  have k1:s[e.length+1]?=some x:=by rw [hse];simp
  have k2:decide (((e.length+1:Nat):Int) < (s.length:Int))=true:=by rw [hse];simp;omega
  have k3:wr .i64 (((e.length+1:Nat):Int)+1)=(((e++[x]).length+1:Nat):Int):=by
   simp only [big] at hb
   rw [wr_small (by omega) (by rw [hse] at hb;simp at hb;omega)];simp
  cases b1:decide ((x.toNat:Int) < 48)
  case true=>
   have hx:digit x=false:=by
    have:¬ 48≤x.toNat:=by have:=of_decide_eq_true b1;omega
    simp [digit,this]
   simp only [cf160L0,cf160E0,k1,k2,b1,go_sem,seval]
   rw [hev,hI];simp [hx]
  case false=>
  cases b2:decide (57 < (x.toNat:Int))
  case true=>
   have hx:digit x=false:=by
    have:¬ x.toNat≤57:=by have:=of_decide_eq_true b2;omega
    simp [digit,this]
   simp only [cf160L0,cf160E0,k1,k2,b1,b2,go_sem,seval]
   rw [hev,hI];simp [hx]
  case false=>
  have hx:digit x=true:=by
   have h1:=of_decide_eq_false b1
   have h2:=of_decide_eq_false b2
   simp only [digit,Bool.and_eq_true,decide_eq_true_eq]
   omega
  simp only [cf160L0,cf160E0,k1,k2,b1,b2,k3,go_sem,seval]
  refine ⟨rfl,?_⟩
  rw [hI];simp [hx]
theorem c116 (hf:pg.fs 116=some cf116) (h160:pg.fs 160=some cf160) (s:Str):Ret pg 116 [.str s.bs] (.bool (decide (s.bs=[105,110,116])||decide (s.bs=[98,111,111,108])||elemVarU s.bs)):=by
 refine Ret.ofX hf ?_
 unfold cf116
 cases b1:decide (s.bs=[105,110,116])
 case true=>
  simp only [b1,go_sem,seval]
 case false=>
 cases b2:decide (s.bs=[98,111,111,108])
 case true=>
  simp only [b1,b2,go_sem,seval]
 case false=>
 simp only [b1,b2,go_sem,seval]
 refine XO_tree (c160 h160 s.bs s.ok) (by simp only [go_sem,seval]) rfl ?_
 simp only [go_sem,seval]
theorem c117 (hf:pg.fs 117=some cf117) (h54:∀ l:Lin,Ret pg 54 [l.av] (.bool (linOK l))) (h77:∀ s:Str,Ret pg 77 [.str s.bs] (.bool (nameU s.bs))) (sh:Shape):Ret pg 117 [sh.av] (.bool (shapeOK sh)):=by
 refine Ret.ofX hf ?_
 unfold cf117
 have hdb:=sh.dims.ok
 simp only [go_sem,seval]
 refine XX_list sh.dims.es (fun d r env hp=>hp.get 1=some (0,.blk [.str sh.row.bs,.sl sh.dims.nl (sh.dims.es.map Lin.av) sh.dims.cl] 2 true true false) ∧
  env=cf117E0 (.pt 1 0 0) (.int .i64 d.length)∧sh.dims.es.all linOK=r.all linOK) ?_ ?_ ?_
 ·exact ⟨rfl,rfl,rfl⟩
 ·rintro env hp ⟨h1,rfl,hq⟩
  have hq':sh.dims.es.all linOK=true:=by rw [hq];rfl
  have f1:decide ((sh.dims.es.length:Int) < (sh.dims.es.length:Int))=false:=by simp
  have hso:shapeOK sh=((decide (sh.row.bs=[])||nameU sh.row.bs)&&decide ((sh.dims.es.length:Int)≤6)):=by simp [shapeOK,hq']
  rw [hso]
  cases b1:decide ((sh.dims.es.length:Int)≤6)
  case false=>
   simp only [cf117L0,cf117E0,h1,f1,b1,go_sem,seval]
  case true=>
  cases b2:decide (sh.row.bs=[])
  case true=>
   simp only [cf117L0,cf117E0,h1,f1,b1,b2,go_sem,seval]
  case false=>
  simp only [cf117L0,cf117E0,h1,f1,b1,b2,go_sem,seval]
  refine XO_tree (h77 sh.row) (by simp only [go_sem,seval]) rfl ?_
  simp only [go_sem,seval]
 ·rintro d x r env hp hes ⟨h1,rfl,hq⟩
  have hsb:(d++x :: r).length≤big:=by rw [← hes];exact hdb
  have hget:sh.dims.es[d.length]?=some x:=by rw [hes];simp
  have e1:decide ((d.length:Int) < (sh.dims.es.length:Int))=true:=by rw [hes];simp;omega
  have e2:((d.length:Int) < (sh.dims.es.length:Int))=True:=eq_true (by rw [hes];simp;omega)
  simp only [cf117L0,cf117E0,h1,e1,e2,hget,go_sem,seval]
  refine XO_tree (h54 x) (by simp only [go_sem,seval]) rfl ?_
  simp only [go_sem,seval]
  cases hx:linOK x
  case false=>
   simp only [go_sem,seval]
   simp [shapeOK,hq,hx]
  case true=>
   simp only [wr_mid hsb,go_sem,seval]
   refine ⟨h1,rfl,?_⟩
   rw [hq];simp [hx]
theorem c79 (hf:pg.fs 79=some cf79) (h116:∀ s:Str,Ret pg 116 [.str s.bs] (.bool (decide (s.bs=[105,110,116])||decide (s.bs=[98,111,111,108])||elemVarU s.bs))) (h117:∀ sh:Shape,Ret pg 117 [sh.av] (.bool (shapeOK sh))) (t:Typ):Ret pg 79 [t.av] (.bool (typOK t)):=by
 refine Ret.ofX hf ?_
 unfold cf79
 simp only [go_sem,seval]
 refine XO_tree (h116 t.elem) (by simp only [go_sem,seval]) rfl ?_
 cases b1:(decide (t.elem.bs=[105,110,116])||decide (t.elem.bs=[98,111,111,108])||elemVarU t.elem.bs)
 case false=>
  simp only [b1,go_sem,seval]
  simp [typOK,b1]
 case true=>
  simp only [b1,go_sem,seval]
  have a:=h117 t.shape
  rw [Shape.avc] at a
  refine XO_tree (a) (by simp only [go_sem,seval]) rfl ?_
  simp only [go_sem,seval]
  simp [typOK,b1]
theorem c78 (hf:pg.fs 78=some cf78) (s:List UInt8) (hb:s.length≤big):Ret pg 78 [.str s] (.bool (resU s)):=by
 refine Ret.ofX hf ?_
 unfold cf78
 cases b0:decide ((s.length:Int)=0)
 case true=>
  have:s=[]:=List.eq_nil_of_length_eq_zero (by have:=of_decide_eq_true b0;omega)
  simp only [go_sem,seval]
  refine XX_list ([]:List UInt8) (fun e r env hp=>env=cf78E0 (.str s) (.int .i64 1)) ?_ ?_ ?_
  ·rfl
  ·rintro env hp rfl
   subst this
   simp only [cf78L0,cf78E0,go_sem,seval]
   rfl
  ·rintro e x r env hp he _
   simp at he
 case false=>
 obtain ⟨c,t,hs⟩:∃ c t,s=c :: t:=by
  cases s with
  | nil=>simp at b0
  | cons c t=>exact ⟨c,t,rfl⟩
 have hg0:s[0]?=some c:=by rw [hs];rfl
 have hlt:s.length=t.length+1:=by rw [hs];rfl
 have hev:resU s=(decide (0 < t.length)&&((decide ((c.toNat:Int)=105)||decide ((c.toNat:Int)=106))&&t.all digit)):=by
  rw [hs]
  cases t with
  | nil=>rfl
  | cons d u=>simp [resU]
 simp only [go_sem,seval]
 refine XX_list t (fun e r env hp=>env=cf78E0 (.str s) (.int .i64 ((e.length+1:Nat):Int))∧t.all digit=r.all digit) ?_ ?_ ?_
 ·exact ⟨rfl,rfl⟩
 ·rintro env hp ⟨rfl,hI⟩
  have hI':t.all digit=true:=by rw [hI];rfl
  rw [hev,hI',Bool.and_true]
  have hex:decide (((t.length+1:Nat):Int) < (s.length:Int))=false:=by simp;omega
  cases b1:decide (1 < (s.length:Int))
  case false=>
   have:¬ 0 < t.length:=by have:=of_decide_eq_false b1;omega
   have h0:decide (0 < t.length)=false:=decide_eq_false this
   rw [h0]
   simp only [cf78L0,cf78E0,hex,b1,go_sem,seval]
  case true=>
  have:0 < t.length:=by have:=of_decide_eq_true b1;omega
  have h0:decide (0 < t.length)=true:=decide_eq_true this
  rw [h0]
  cases b2:decide ((c.toNat:Int)=105)
  ·simp only [cf78L0,cf78E0,hex,b1,hg0,b2,go_sem,seval]
  ·simp only [cf78L0,cf78E0,hex,b1,hg0,b2,go_sem,seval]
 ·rintro e x r env hp he ⟨rfl,hI⟩
  have hse:s=(c :: e)++x :: r:=by rw [hs,he];rfl
  have k1:s[e.length+1]?=some x:=by rw [hse];simp
  have k2:decide (((e.length+1:Nat):Int) < (s.length:Int))=true:=by rw [hse];simp;omega
  have k3:wr .i64 (((e.length+1:Nat):Int)+1)=(((e++[x]).length+1:Nat):Int):=by
   simp only [big] at hb
   rw [wr_small (by omega) (by rw [hse] at hb;simp at hb;omega)];simp
  cases b1:decide ((x.toNat:Int) < 48)
  case true=>
   have hx:digit x=false:=by
    have:¬ 48≤x.toNat:=by have:=of_decide_eq_true b1;omega
    simp [digit,this]
   simp only [cf78L0,cf78E0,k1,k2,b1,go_sem,seval]
   rw [hev,hI];simp [hx]
  case false=>
  cases b2:decide (57 < (x.toNat:Int))
  case true=>
   have hx:digit x=false:=by
    have:¬ x.toNat≤57:=by have:=of_decide_eq_true b2;omega
    simp [digit,this]
   simp only [cf78L0,cf78E0,k1,k2,b1,b2,go_sem,seval]
   rw [hev,hI];simp [hx]
  case false=>
  have hx:digit x=true:=by
   have h1:=of_decide_eq_false b1
   have h2:=of_decide_eq_false b2
   simp only [digit,Bool.and_eq_true,decide_eq_true_eq]
   omega
  simp only [cf78L0,cf78E0,k1,k2,b1,b2,k3,go_sem,seval]
  refine ⟨rfl,?_⟩
  rw [hI];simp [hx]
end
end Go.Tev
end
section
namespace Go.Tev
section
variable {pg:Pg}
theorem c15 (hf:pg.fs 15=some cf15) (nl cl:Bool) (a:List Int) (hb:a.length≤big) (nl' cl':Bool) (b:List Int) (h:a=b):Ret pg 15 [.sl nl (a.map intA) cl,.sl nl' (b.map intA) cl'] (.bool true):=by
 subst h
 refine Ret.ofX hf ?_
 unfold cf15
 have e0:decide ((a.length:Int)=(a.length:Int))=true:=by simp
 simp only [e0,go_sem,seval]
 refine XX_list a (fun d r env hp=>env=cf15E0 (.sl nl (a.map intA) cl) (.sl nl' (a.map intA) cl') (.int .i64 d.length)) ?_ ?_ ?_
 ·rfl
 ·rintro env hp rfl
  have f1:decide ((a.length:Int) < (a.length:Int))=false:=by simp
  simp only [cf15L0,cf15E0,f1,go_sem,seval]
 ·rintro d x r env hp hes rfl
  have hsb:(d++x :: r).length≤big:=by rw [← hes];exact hb
  have hget:a[d.length]?=some x:=by rw [hes];simp
  have e1:decide ((d.length:Int) < (a.length:Int))=true:=by rw [hes];simp;omega
  have e2:((d.length:Int) < (a.length:Int))=True:=eq_true (by rw [hes];simp;omega)
  have e3:decide (x=x)=true:=by simp
  simp only [cf15L0,cf15E0,e1,e2,e3,hget,wr_mid hsb,go_sem,seval]
  exact ⟨by kernel_rfl,rfl⟩
end
end Go.Tev
end
