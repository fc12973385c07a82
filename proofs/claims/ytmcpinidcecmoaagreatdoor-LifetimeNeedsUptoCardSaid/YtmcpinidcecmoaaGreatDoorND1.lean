import Derived.Test.YtmcpinidcecmoaaGreatDoorEA
import Derived.Test.YtmcpinidcecmoaaGreatDoorRD
set_option linter.all false
section
namespace Go.Tev
def valOf (ds:List Val) (v:List UInt8):Option Val:=ds.find? (fun x=>decide (x.v.bs=v))
def evalT (ds:List Val):Int→List Coef→Int × Int
 | n,[]=>(n,0)
 | n,c :: r=>match valOf ds c.v.bs with
  | none=>(0,7)
  | some v=>if decide (v.n < -1000000000)||decide (1000000000 < v.n) then (0,2) else evalT ds (wr .i64 (n+wr .i64 (c.c*v.n))) r
def evalL (ds:List Val) (l:Lin):Int × Int:=if linOK l then evalT ds l.c l.ts.es else (0,1)
theorem evalT_none {ds:List Val} {n:Int} {c:Coef} {r:List Coef} (h:valOf ds c.v.bs=none):evalT ds n (c :: r)=(0,7):=by
 simp only [evalT,h]
theorem evalT_some {ds:List Val} {n:Int} {c:Coef} {r:List Coef} {v:Val} (h:valOf ds c.v.bs=some v) :
  evalT ds n (c :: r)=(if decide (v.n < -1000000000)||decide (1000000000 < v.n) then (0,2) else evalT ds (wr .i64 (n+wr .i64 (c.c*v.n))) r):=by
 simp only [evalT,h]
section
variable {pg:Pg}
theorem idxF_at {f:Nat} {esz:Nat} {ag:Bool} (hf:pg.fs f=some (idxF esz ag)) {α : Type} (enc : α → AV) (hfit:∀ x,(enc x).fits esz ag=true) (htree:∀ x,(enc x).tree=true)
  (nl cl:Bool) (es:List α) (hb:es.length≤big) (g:Nat) (cs:List AV) (hcs:treeL cs=true) (p : α → Bool) (hp:∀ x∈es,Ret pg g (enc x :: cs) (.bool (p x))) :
  RetP pg f [.sl nl (es.map enc) cl,.fn g cs] (fun r=>∃ i:Int,r = .int .i64 i∧((i < 0∧es.find? p=none)∨(0≤i∧∃ x,es[i.toNat]?=some x∧es.find? p=some x))):=by
 refine RetP.ofX hf ?_
 unfold idxF
 simp only [go_sem,seval]
 refine XX_listU es (fun d e=>setD e (some 8) (.int .i64 d.length)) (fun d r hp=>es.find? p=r.find? p) rfl ?_ ?_ ?_
 ·rfl
 ·intro hp' hI
  simp only [idxFL,idxFM,go_sem,seval]
  simp [hI]
 ·intro d x r hp' hes hI
  have hx0:(d++x :: r)[d.length]?=some x:=by simp
  subst hes
  simp only [idxFL,idxFM,hfit,go_sem,seval]
  refine XO_tree (hp x (by simp)) (by simp only [treeL,htree,hcs,List.cons_append,List.nil_append,Bool.and_true]) rfl ?_
  simp only [go_sem,seval]
  cases hx:p x
  ·simp only [wr_mid hb,go_sem,seval]
   rw [hI];simp [hx]
  ·simp only [go_sem,seval]
   exact .inr (by rw [hI];simp [hx])
theorem c52x (hf:pg.fs 52=some cf52) (h53:pg.fs 53=some cf53) (nl cl:Bool) (ds:List Val) (hb:ds.length≤big) (c:Coef) :
  RetP pg 52 [.sl nl (ds.map Val.av) cl,.fn 53 [.fp c.av]] (fun r=>∃ i:Int,r = .int .i64 i∧((i < 0∧valOf ds c.v.bs=none)∨(0≤i∧∃ x,ds[i.toNat]?=some x∧valOf ds c.v.bs=some x))):=
 idxF_at (f:=52) (esz:=2) (ag:=true) hf Val.av (fun _=>by simp only [go_sem,seval]) (fun _=>by simp only [go_sem,seval]) nl cl ds hb 53 [.fp c.av] (by simp only [go_sem,seval]) (fun v=>decide (v.v.bs=c.v.bs)) (fun v _=>c53 h53 c v)
theorem c32x (hf:pg.fs 32=some cf32) (h51:∀ l:Lin,Ret pg 51 [l.av] (.bool (linOK l))) (h52:pg.fs 52=some cf52) (h53:pg.fs 53=some cf53) (l:Lin) (nl cl:Bool) (ds:List Val) (hb:ds.length≤big) :
  Ret pg 32 [l.av,.sl nl (ds.map Val.av) cl] (.tup [.int .i64 (evalL ds l).1,.int .i64 (evalL ds l).2]):=by
 refine Ret.ofX hf ?_
 unfold cf32
 have hlb:=l.ts.ok
 simp only [go_sem,seval]
 refine XO_tree (h51 l) (by simp only [go_sem,seval]) rfl ?_
 simp only [go_sem,seval]
 cases hx:linOK l
 ·simp only [go_sem,seval]
  simp [evalL,hx]
 have hev:evalL ds l=evalT ds l.c l.ts.es:=by simp [evalL,hx]
 rw [hev]
 simp only [go_sem,seval]
 refine XX_list l.ts.es (fun d r env hp=>∃ n:Int,env=cf32E0 (.sl nl (ds.map Val.av) cl) (.int .i64 n) (.sl l.ts.nl (l.ts.es.map Coef.av) l.ts.cl) (.int .i64 l.ts.es.length) (.int .i64 d.length)∧evalT ds l.c l.ts.es=evalT ds n r) ?_ ?_ ?_
 ·exact ⟨_,rfl,rfl⟩
 ·rintro env hp ⟨n,rfl,hI⟩
  rw [hI]
  simp only [cf32L0,cf32E0,evalT,go_sem,seval]
 ·rintro d x r env hp hes ⟨n,rfl,hI⟩
  obtain ⟨hget,e1,e2,ew⟩:=loopF hes hlb
  rw [hI]
  obtain ⟨r52,hr52,i,rfl,hi⟩:=c52x h52 h53 nl cl ds hb x
  simp only [cf32L0,cf32E0,hget,e1,e2,go_sem,seval]
  refine XO_call (hr52) (by simp only [ Coef.avc,depth,mapS_nil,mapS_cons,snapX,go_sem,seval];rfl) (by first | rfl | simp only [receive]) ?_
  simp only [go_sem,seval]
  rcases hi with ⟨h1,h2⟩ | ⟨h1,v,hv,h2⟩
  ·have b1:decide (i < 0)=true:=by simpa using h1
   rw [evalT_none h2]
   simp only [b1,go_sem,seval]
  ·have b1:decide (i < 0)=false:=by simp;omega
   have h0t:(0≤i)=True:=eq_true h1
   rw [evalT_some h2]
   simp only [b1,hv,h0t,go_sem,seval]
   cases b2:decide (v.n < -1000000000)
   case true=>
    simp only [b2,go_sem,seval]
   cases b3:decide (1000000000 < v.n)
   case true=>
    simp only [b2,b3,go_sem,seval]
   simp only [b2,b3,hv,h0t,ew,go_sem,seval]
   exact ⟨by kernel_rfl,_,rfl,rfl⟩
def sizeS (ds:List Val):Int→Bool→List Lin→Int × Bool
 | n,b,[]=>(n,b)
 | n,b,l :: r=>sizeS ds (capI (evalL ds l).1 n) (b&&(decide (0≤(evalL ds l).1)&&decide ((evalL ds l).1≤4096))) r
def sizeP (ds:List Val) (t:Typ):Int × Bool:=((sizeS ds 1 true t.shape.dims.es).1,(sizeS ds 1 true t.shape.dims.es).2&&decide ((sizeS ds 1 true t.shape.dims.es).1≤4096))
theorem c33x (hf:pg.fs 33=some cf33) (h32:∀ (l:Lin) (nl cl:Bool) (ds:List Val),ds.length≤big→Ret pg 32 [l.av,.sl nl (ds.map Val.av) cl] (.tup [.int .i64 (evalL ds l).1,.int .i64 (evalL ds l).2])) (t:Typ) (nl cl:Bool) (ds:List Val) (hb:ds.length≤big) :
  Ret pg 33 [t.av,.sl nl (ds.map Val.av) cl] (.tup [.int .i64 (sizeP ds t).1,.bool (sizeP ds t).2]):=by
 refine Ret.ofX hf ?_
 unfold cf33
 have hlb:=t.shape.dims.ok
 simp only [go_sem,seval]
 refine XX_list t.shape.dims.es (fun d r env hp=>∃ (n:Int) (b:Bool),env=cf33E0 (.sl nl (ds.map Val.av) cl) (.int .i64 n) (.bool b) (.sl t.shape.dims.nl (t.shape.dims.es.map Lin.av) t.shape.dims.cl) (.int .i64 t.shape.dims.es.length) (.int .i64 d.length)∧sizeS ds 1 true t.shape.dims.es=sizeS ds n b r) ?_ ?_ ?_
 ·exact ⟨_,_,rfl,rfl⟩
 ·rintro env hp ⟨n,b,rfl,hI⟩
  have h1:sizeP ds t=(n,b&&decide (n≤4096)):=by simp only [sizeP,hI,sizeS]
  rw [h1]
  cases b
  ·simp only [cf33L0,cf33E0,go_sem,seval]
  ·simp only [cf33L0,cf33E0,go_sem,seval]
 ·rintro d x r env hp hes ⟨n,b,rfl,hI⟩
  obtain ⟨hget,e1,e2,ew⟩:=loopF hes hlb
  have hr32:=h32 x nl cl ds hb
  simp only [sizeS] at hI
  generalize (evalL ds x).1=a32 at hr32 hI
  generalize (evalL ds x).2=b32 at hr32
  rw [Lin.avc] at hr32
  simp only [cf33L0,cf33E0,hget,e1,e2,go_sem,seval]
  refine XO_tree hr32 (by simp only [go_sem,seval]) rfl ?_
  cases b
  ·simp only [ew,mx2,mn2,go_sem,seval]
   exact ⟨capI a32 n,false,rfl,by simpa using hI⟩
  ·cases b1:decide (0≤a32)
   ·simp only [b1,ew,mx2,mn2,go_sem,seval]
    exact ⟨capI a32 n,false,rfl,by simpa [b1] using hI⟩
   ·simp only [b1,ew,mx2,mn2,go_sem,seval]
    exact ⟨capI a32 n,decide (a32≤4096),rfl,by simpa [b1] using hI⟩
theorem c34x (hf:pg.fs 34=some cf34) (h54:∀ l:Lin,Ret pg 54 [l.av] (.bool (linOK l))) (l:Lin) (nl cl:Bool) (ds:List Val) (hb:ds.length≤big) :
  Ret pg 34 [l.av,.sl nl (ds.map Val.av) cl] (.tup [.int .i64 (evalL ds l).1,.int .i64 (evalL ds l).2]):=by
 refine Ret.ofX hf ?_
 unfold cf34
 have hlb:=l.ts.ok
 have a1:=h54 l
 rw [Lin.avc] at a1
 simp only [go_sem,seval]
 refine XO_tree a1 (by simp only [go_sem,seval]) rfl ?_
 cases hx:linOK l
 ·simp only [go_sem,seval]
  simp [evalL,hx]
 have hev:evalL ds l=evalT ds l.c l.ts.es:=by simp [evalL,hx]
 rw [hev]
 simp only [go_sem,seval]
 refine XX_list l.ts.es (fun d r env hp=>∃ n:Int,env=cf34E1 (.sl nl (ds.map Val.av) cl) (.pt 1 0 0) (.int .i64 n) (.int .i64 d.length)∧hp.get 1=some (0,.blk [.int .i64 l.c,.sl l.ts.nl (l.ts.es.map Coef.av) l.ts.cl] 2 true true false)∧evalT ds l.c l.ts.es=evalT ds n r) ?_ ?_ ?_
 ·exact ⟨_,rfl,rfl,rfl⟩
 ·rintro env hp ⟨n,rfl,g1,hI⟩
  rw [hI]
  simp only [cf34L1,cf34E1,g1,ltSelf,evalT,go_sem,seval]
 ·rintro d c r env hp hes ⟨n,rfl,g1,hI⟩
  obtain ⟨hget,e1,e2,ew⟩:=loopF hes hlb
  rw [hI]
  clear hI
  simp only [cf34L1,cf34E1,g1,e1,e2,go_sem,seval]
  refine XX_list ds (fun d2 r2 env hp=>env=cf34E0 (.sl nl (ds.map Val.av) cl) (.pt 1 0 0) (.int .i64 n) (.int .i64 d.length) (.int .i64 d2.length)∧hp.get 1=some (0,.blk [.int .i64 l.c,.sl l.ts.nl (l.ts.es.map Coef.av) l.ts.cl] 2 true true false)∧valOf ds c.v.bs=valOf r2 c.v.bs) ?_ ?_ ?_
  ·exact ⟨rfl,g1,rfl⟩
  ·rintro env hp2 ⟨rfl,q1,hI⟩
   have hn:valOf ds c.v.bs=none:=by rw [hI];rfl
   rw [evalT_none hn]
   simp only [cf34L0,cf34E0,ltSelf,go_sem,seval]
   show _=true
   kernel_rfl
  ·rintro d2 v r2 env hp2 hes2 ⟨rfl,q1,hI⟩
   obtain ⟨hget2,f1,f2,fw⟩:=loopF hes2 hb
   cases b0:decide (v.v.bs=c.v.bs)
   case false=>
    simp only [cf34L0,cf34E0,q1,hget,hget2,e1,e2,f1,f2,b0,fw,go_sem,seval]
    refine ⟨by kernel_rfl,rfl,?_⟩
    rw [hI];simp [valOf,b0]
   case true=>
    have hs:valOf ds c.v.bs=some v:=by rw [hI];simp [valOf,b0]
    have hne:decide ((d2.length:Int)=(ds.length:Int))=false:=by
     have:=of_decide_eq_true f1
     simp;omega
    rw [evalT_some hs]
    simp only [cf34L0,cf34E0,q1,hget,hget2,e1,e2,f1,f2,b0,go_sem,seval]
    refine And.intro (by kernel_rfl) ?_
    simp only [hne,hget2,f2,go_sem,seval]
    cases b2:decide (v.n < -1000000000)
    case true=>
     simp only [b2,go_sem,seval]
    cases b3:decide (1000000000 < v.n)
    case true=>
     simp only [b2,b3,go_sem,seval]
    simp only [b2,b3,q1,hget,e2,ew,go_sem,seval]
    exact ⟨_,rfl,rfl⟩
end
end Go.Tev
end
section
namespace Go.Tev
def dimOne (x:Val) (y:Str):Bool:=decide (x.v.bs=y.bs)&&(!decide (x.n < 0) && !decide (4096 < x.n))
def sizesOK (g:Typ→Bool):List Sp→List Typ→Bool
 | s :: r,t :: q=>(decide (s.1 = -2)||g t)&&sizesOK g r q
 | _,_=>true
def codeX (k:Kernels) (ds:List Val):Int:=
 if (fuseV k).2=0 then
  (if eqL dimOne ds k.vars.es then
   (if k.wher.es.all (fun l=>decide (0≤(evalL ds l).1)) then
    (if sizesOK (fun t=>(sizeP ds t).2) (spansK k) k.values.es then 0 else 3)
   else 2)
  else 1)
 else 22
def sizeF (ds:List Val) (t:Typ):Int:=(sizeP ds t).1
def sizesAV (k:Kernels) (ds:List Val):AV:=
 if codeX k ds=0 then .tup [.sl false ((sizesL (sizeF ds) (spansK k) k.values.es).map intA) true,.int .i64 0] else .tup [.sl true [] true,.int .i64 (codeX k ds)]
theorem val_of_fit:∀ (ds:List Val) (vars:List Str) (s:List UInt8),eqL dimOne ds vars=true→hasS vars s=true→∃ v,valOf ds s=some v∧0≤v.n∧v.n≤4096
 | [],[],s,_,h=>by simp [hasS] at h
 | [],_ :: _,s,h,_=>by simp [eqL] at h
 | _ :: _,[],s,h,_=>by simp [eqL] at h
 | x :: r,y :: q,s,h,hs=>by
  simp only [eqL,Bool.and_eq_true] at h
  obtain ⟨h1,h2⟩:=h
  simp only [dimOne,Bool.and_eq_true,decide_eq_true_eq,Bool.not_eq_true',decide_eq_false_iff_not] at h1
  by_cases he:x.v.bs=s
  ·exact ⟨x,by simp [valOf,he],by omega,by omega⟩
  ·have hq:hasS q s=true:=by
    simp only [hasS,List.any_cons,Bool.or_eq_true,decide_eq_true_eq] at hs
    rcases hs with h | h
    ·exact absurd (h1.1.trans h.symm) he
    ·simpa [hasS] using h
   obtain ⟨v,q1,q2⟩:=val_of_fit r q s h2 hq
   exact ⟨v,by simpa [valOf,he] using q1,q2⟩
theorem evalT_ok (ds:List Val) (vars:List Str) (h:eqL dimOne ds vars=true):∀ (ts:List Coef) (n:Int),(ts.all fun x=>hasS vars x.v.bs)=true→(evalT ds n ts).2=0
 | [],n,_=>rfl
 | c :: r,n,ht=>by
  simp only [List.all_cons,Bool.and_eq_true] at ht
  obtain ⟨v,q1,q2,q3⟩:=val_of_fit ds vars c.v.bs h ht.1
  have b1:decide (v.n < -1000000000)=false:=by simp;omega
  have b2:decide (1000000000 < v.n)=false:=by simp;omega
  simp only [evalT,q1,b1,b2,Bool.or_false,Bool.false_eq_true,if_false]
  exact evalT_ok ds vars h r _ ht.2
theorem evalL_ok {ds:List Val} {vars:List Str} (h:eqL dimOne ds vars=true) {ls:List Lin} (ho:overOK ls vars=true):∀ l∈ls,(evalL ds l).2=0:=by
 intro l hl
 simp only [overOK,List.all_eq_true,Bool.and_eq_true] at ho
 obtain ⟨h1,h2⟩:=ho l hl
 simp only [evalL,h1,if_true]
 exact evalT_ok ds vars h _ _ (by rw [List.all_eq_true];exact h2)
def capL (n:Int) (L:List Int):Int:=L.foldl (fun n a=>capI a n) n
def prodW (n:Int) (L:List Int):Int:=L.foldl (fun n a=>wr .i64 (n*a)) n
def mulC (n a:Int):Int:=if 1099511627776 < wr .i64 (n*a) then 1099511627776 else wr .i64 (n*a)
theorem capI_mul {a n:Int} (h:0≤a):capI a n=mulC n a:=by
 have:¬ a < 0:=by omega
 simp only [capI,mulC,this,if_false]
theorem capL_mul:∀ (L:List Int) (n:Int),(∀ a∈L,0≤a)→capL n L=L.foldl mulC n
 | [],n,_=>rfl
 | a :: r,n,h=>by
  simp only [capL,List.foldl_cons]
  rw [capI_mul (h a (by simp))]
  exact capL_mul r _ (fun x hx=>h x (List.mem_cons_of_mem _ hx))
theorem mul_in {n a:Int} (h0:0≤n) (h1:n≤1099511627776) (h2:0≤a) (h3:a≤4096):0≤n*a∧n*a≤4503599627370496:=by
 refine ⟨Int.mul_nonneg h0 h2,?_⟩
 exact Int.le_trans (Int.mul_le_mul h1 h3 h2 (by omega)) (by decide)
theorem prodW_zero:∀ L:List Int,prodW 0 L=0
 | []=>rfl
 | a :: r=>by
  simp only [prodW,List.foldl_cons,Int.zero_mul]
  exact prodW_zero r
theorem capL_zero:∀ L:List Int,L.foldl mulC 0=0
 | []=>rfl
 | a :: r=>by
  simp only [List.foldl_cons,mulC,Int.zero_mul]
  exact capL_zero r
theorem fold_has0:∀ (L:List Int) (n m:Int),(0:Int)∈L→prodW m L=0∧L.foldl mulC n=0
 | [],n,m,h=>by simp at h
 | a :: r,n,m,h=>by
  by_cases ha:a=0
  ·subst ha
   simp only [prodW,List.foldl_cons,mulC,Int.mul_zero]
   exact ⟨prodW_zero r,capL_zero r⟩
  ·have:(0:Int)∈r:=by
    rcases List.mem_cons.1 h with h | h
    ·exact absurd h.symm ha
    ·exact h
   simp only [prodW,List.foldl_cons]
   exact fold_has0 r _ _ this
theorem fold_ge:∀ (L:List Int) (n:Int),0≤n→n≤1099511627776→(∀ a∈L,1≤a∧a≤4096)→n≤L.foldl mulC n∧L.foldl mulC n≤1099511627776
 | [],n,_,h,_=>⟨Int.le_refl _,h⟩
 | a :: r,n,h0,h1,h=>by
  obtain ⟨a1,a2⟩:=h a (by simp)
  obtain ⟨m1,m2⟩:=mul_in h0 h1 (by omega:0≤a) a2
  have hm:n≤n*a:=by
   have:=Int.mul_le_mul_of_nonneg_left a1 h0
   omega
  have hw:wr .i64 (n*a)=n*a:=wr_small (by omega) (by omega)
  simp only [List.foldl_cons]
  have hc:n≤mulC n a∧mulC n a≤1099511627776∧0≤mulC n a:=by
   simp only [mulC,hw]
   split<;>omega
  obtain ⟨q1,q2⟩:=fold_ge r (mulC n a) hc.2.2 hc.2.1 (fun x hx=>h x (List.mem_cons_of_mem _ hx))
  exact ⟨by omega,q2⟩
theorem fold_eq:∀ (L:List Int) (n:Int),0≤n→n≤1099511627776→(∀ a∈L,1≤a∧a≤4096)→L.foldl mulC n≤4096→prodW n L=L.foldl mulC n
 | [],n,_,_,_,_=>rfl
 | a :: r,n,h0,h1,h,hle=>by
  obtain ⟨a1,a2⟩:=h a (by simp)
  obtain ⟨m1,m2⟩:=mul_in h0 h1 (by omega:0≤a) a2
  have hw:wr .i64 (n*a)=n*a:=wr_small (by omega) (by omega)
  have hr:∀ x∈r,1≤x∧x≤4096:=fun x hx=>h x (List.mem_cons_of_mem _ hx)
  simp only [prodW,List.foldl_cons] at hle ⊢
  by_cases hb:1099511627776 < n*a
  ·have:mulC n a=1099511627776:=by simp only [mulC,hw,hb,if_true]
   rw [this] at hle
   have:=(fold_ge r 1099511627776 (by decide) (Int.le_refl _) hr).1
   omega
  ·have hm:mulC n a=n*a:=by simp only [mulC,hw,hb,if_false]
   rw [hm] at hle ⊢
   rw [hw]
   exact fold_eq r (n*a) m1 (by omega) hr hle
theorem prod_cap {L:List Int} (h:∀ a∈L,0≤a∧a≤4096) (hle:L.foldl mulC 1≤4096):prodW 1 L=L.foldl mulC 1:=by
 by_cases h0:(0:Int)∈L
 ·obtain ⟨a,b⟩:=fold_has0 L 1 1 h0
  rw [a,b]
 ·refine fold_eq L 1 (by decide) (by decide) (fun a ha=>?_) hle
  have:=h a ha
  have:a ≠ 0:=fun e=>h0 (e ▸ ha)
  omega
def dimGood (ds:List Val) (l:Lin):Bool:=decide ((evalL ds l).2=0)&&(decide (0≤(evalL ds l).1)&&decide ((evalL ds l).1≤4096))
def dimL (ds:List Val) (t:Typ):List Int:=t.shape.dims.es.map fun l=>(evalL ds l).1
def dimsGood (ds:List Val) (t:Typ):Bool:=t.shape.dims.es.all (dimGood ds)&&decide ((dimL ds t).foldl mulC 1≤4096)
theorem sizeS_eq (ds:List Val):∀ (ls:List Lin) (n:Int) (b:Bool),sizeS ds n b ls=(capL n (ls.map fun l=>(evalL ds l).1),b&&ls.all fun l=>decide (0≤(evalL ds l).1)&&decide ((evalL ds l).1≤4096))
 | [],n,b=>by simp [sizeS,capL]
 | l :: r,n,b=>by
  simp only [sizeS,sizeS_eq ds r,capL,List.map_cons,List.foldl_cons,List.all_cons,Bool.and_assoc]
theorem size_ref {ds:List Val} {vars:List Str} (h:eqL dimOne ds vars=true) {t:Typ} (ho:overOK t.shape.dims.es vars=true) :
  dimsGood ds t=(sizeP ds t).2∧((sizeP ds t).2=true→prodW 1 (dimL ds t)=sizeF ds t∧0≤sizeF ds t∧sizeF ds t≤4096):=by
 have hev:=evalL_ok h ho
 have h1:t.shape.dims.es.all (dimGood ds)=t.shape.dims.es.all fun l=>decide (0≤(evalL ds l).1)&&decide ((evalL ds l).1≤4096):=by
  rw [Bool.eq_iff_iff,List.all_eq_true,List.all_eq_true]
  constructor
  ·intro g l hl
   have:=g l hl
   simp only [dimGood,Bool.and_eq_true] at this ⊢
   exact this.2
  ·intro g l hl
   have:=g l hl
   simp only [dimGood,hev l hl,decide_true,Bool.true_and]
   exact this
 have h2:(sizeP ds t).2=(t.shape.dims.es.all (fun l=>decide (0≤(evalL ds l).1)&&decide ((evalL ds l).1≤4096))&&decide (capL 1 (dimL ds t)≤4096)):=by
  simp only [sizeP,sizeS_eq,Bool.true_and];rfl
 have h3:sizeF ds t=capL 1 (dimL ds t):=by simp only [sizeF,sizeP,sizeS_eq];rfl
 rw [dimsGood,h1,h2]
 cases ha:t.shape.dims.es.all (fun l=>decide (0≤(evalL ds l).1)&&decide ((evalL ds l).1≤4096))
 ·exact ⟨rfl,fun h=>by simp at h⟩
 ·have hin:∀ a∈dimL ds t,0≤a∧a≤4096:=by
   intro a hm
   simp only [dimL,List.mem_map] at hm
   obtain ⟨l,hl,rfl⟩:=hm
   rw [List.all_eq_true] at ha
   have:=ha l hl
   simp only [Bool.and_eq_true,decide_eq_true_eq] at this
   exact this
  have hcm:=capL_mul (dimL ds t) 1 (fun a ha=>(hin a ha).1)
  rw [hcm] at h3 ⊢
  refine ⟨rfl,fun hle=>?_⟩
  simp only [Bool.true_and,decide_eq_true_eq] at hle
  refine ⟨by rw [h3];exact prod_cap hin hle,?_,by rw [h3];exact hle⟩
  rw [h3]
  by_cases h0:(0:Int)∈dimL ds t
  ·rw [(fold_has0 _ 1 1 h0).2];decide
  ·have:=(fold_ge (dimL ds t) 1 (by decide) (by decide) (fun a ha=>by
    have:=hin a ha
    have:a ≠ 0:=fun e=>h0 (e ▸ ha)
    omega)).1
   omega
theorem fuse_over {k:Kernels} (ok:FuseOK k):overOK k.wher.es k.vars.es=true∧∀ t∈k.values.es,overOK t.shape.dims.es k.vars.es=true:=by
 have hso:=ok.out
 simp only [outsideOK,Bool.and_eq_true,decide_eq_true_eq] at hso
 obtain ⟨_,⟨⟨⟨⟨⟨⟨_,hw⟩,_⟩,_⟩,_⟩,_⟩,_⟩,hty⟩:=hso
 refine ⟨hw,fun t ht=>?_⟩
 rw [List.all_eq_true] at hty
 have:=hty t ht
 simp only [typedOK,Bool.and_eq_true] at this
 exact this.2
end Go.Tev
end
section
namespace Go.Tev
theorem sizesAV_bad {k:Kernels} {ds:List Val} (h:¬ (fuseV k).2=0):sizesAV k ds = .tup [.sl true [] true,.int .i64 22]:=by
 have:codeX k ds=22:=by rw [codeX,if_neg h]
 rw [sizesAV,this];rfl
theorem sizesAV_one {k:Kernels} {ds:List Val} (h:(fuseV k).2=0) (h1:eqL dimOne ds k.vars.es=false):sizesAV k ds = .tup [.sl true [] true,.int .i64 1]:=by
 have:codeX k ds=1:=by rw [codeX,if_pos h,h1];rfl
 rw [sizesAV,this];rfl
theorem sizesAV_two {k:Kernels} {ds:List Val} (h:(fuseV k).2=0) (h1:eqL dimOne ds k.vars.es=true) (h2:k.wher.es.all (fun l=>decide (0≤(evalL ds l).1))=false):sizesAV k ds = .tup [.sl true [] true,.int .i64 2]:=by
 have:codeX k ds=2:=by rw [codeX,if_pos h,h1,h2];rfl
 rw [sizesAV,this];rfl
theorem sizesAV_three {k:Kernels} {ds:List Val} (h:(fuseV k).2=0) (h1:eqL dimOne ds k.vars.es=true) (h2:k.wher.es.all (fun l=>decide (0≤(evalL ds l).1))=true) (h3:sizesOK (fun t=>(sizeP ds t).2) (spansK k) k.values.es=false):sizesAV k ds = .tup [.sl true [] true,.int .i64 3]:=by
 have:codeX k ds=3:=by rw [codeX,if_pos h,h1,h2,h3];rfl
 rw [sizesAV,this];rfl
theorem codeX_ok {k:Kernels} {ds:List Val} (h:(fuseV k).2=0) (h1:eqL dimOne ds k.vars.es=true) (h2:k.wher.es.all (fun l=>decide (0≤(evalL ds l).1))=true) (h3:sizesOK (fun t=>(sizeP ds t).2) (spansK k) k.values.es=true):codeX k ds=0:=by
 rw [codeX,if_pos h,h1,h2,h3];rfl
theorem sizesAV_ok {k:Kernels} {ds:List Val} (h:(fuseV k).2=0) (h1:eqL dimOne ds k.vars.es=true) (h2:k.wher.es.all (fun l=>decide (0≤(evalL ds l).1))=true) (h3:sizesOK (fun t=>(sizeP ds t).2) (spansK k) k.values.es=true) :
  sizesAV k ds = .tup [.sl false ((sizesL (sizeF ds) (spansK k) k.values.es).map intA) true,.int .i64 0]:=by
 rw [sizesAV,if_pos (codeX_ok h h1 h2 h3)]
def dimsRes (ds:List Val) (t:Typ) (r:AV):Prop:=if dimsGood ds t then ∃ nl cl,r = .tup [.sl nl ((dimL ds t).map intA) cl,.int .i64 0] else r = .tup [.sl true [] true,.int .i64 3]
theorem dims_bad {ds:List Val} {t:Typ} (h:dimsGood ds t=false):dimsRes ds t (.tup [.sl true [] true,.int .i64 3]):=by
 rw [dimsRes,h];rfl
theorem dims_ok {ds:List Val} {t:Typ} {r:AV} (h:dimsGood ds t=true) (hr:∃ nl cl,r = .tup [.sl nl ((dimL ds t).map intA) cl,.int .i64 0]):dimsRes ds t r:=by
 rw [dimsRes,h];exact hr
section
variable {pg:Pg}
theorem c16x (hf:pg.fs 16=some cf16) (k:Kernels) (h9:RetP pg 9 [k.av] (spansR k)) (nl cl:Bool) (ds:List Val) (hb:ds.length≤big)
  (h32:∀ l:Lin,Ret pg 32 [l.av,.sl nl (ds.map Val.av) cl] (.tup [.int .i64 (evalL ds l).1,.int .i64 (evalL ds l).2])) (h33:∀ t:Typ,Ret pg 33 [t.av,.sl nl (ds.map Val.av) cl] (.tup [.int .i64 (sizeF ds t),.bool (sizeP ds t).2])) :
  Ret pg 16 [k.av,.sl nl (ds.map Val.av) cl] (sizesAV k ds):=by
 obtain ⟨r9,hr9,hs9⟩:=h9
 refine Ret.ofX hf ?_
 unfold cf16
 simp only [Kernels.av,Kernels.cells,go_sem,seval]
 rcases fuse_code (k:=k) with hc | hc
 ·have ok:=fuseOK_of hc
  have hso:=ok.out
  simp only [outsideOK,Bool.and_eq_true,decide_eq_true_eq] at hso
  obtain ⟨_,⟨⟨⟨⟨⟨⟨_,_⟩,hi0⟩,_⟩,hiV⟩,_⟩,_⟩,_⟩:=hso
  have hsl:=spansK_len (k:=k) (by omega)
  have hVb:=k.values.ok
  have htr:treeL ((spansK k).map spAV)=true:=treeL_map (f:=spAV) (fun s=>by simp [spAV,go_sem]) _
  rw [spansR,if_pos hc] at hs9
  subst hs9
  refine XO_tree hr9 (by simp only [Kernels.av,Kernels.cells,go_sem,seval]) (by first | rfl | (simp [AV.tree,htr])) ?_
  simp only [go_sem,seval]
  cases hl:decide ((ds.length:Int)=k.vars.es.length)
  case false=>
   simp only [hl,go_sem,seval]
   rw [sizesAV_one hc (eqL_ne hl)]
  case true=>
   have hlv:ds.length=k.vars.es.length:=by
    have:=of_decide_eq_true hl
    omega
   simp only [hl,go_sem,seval]
   refine XX_list ds (fun d r env hp=>env=cf16E0 (.sl nl (ds.map Val.av) cl) (.pt 1 0 0) (.sl false ((spansK k).map spAV) false) (.sl nl (ds.map Val.av) cl) (.int .i64 ds.length) (.int .i64 d.length) ∧
    hp.get 1=some (0,.blk k.cells 6 true true false)∧eqL dimOne ds k.vars.es=eqL dimOne r (k.vars.es.drop d.length)) ?_ ?_ ?_
   ·refine ⟨rfl,?_,rfl⟩
    simp only [go_sem,seval]
    rfl
   ·rintro env hp ⟨rfl,g1,hD⟩
    have hD':eqL dimOne ds k.vars.es=true:=by rw [hD,loopG_end hlv]
    have g1':=g1
    simp only [Kernels.cells,Sl.av] at g1
    simp only [cf16L0,cf16E0,g1,go_sem,seval]
    refine XX_list k.wher.es (fun d r env hp=>env=cf16E1 (.sl nl (ds.map Val.av) cl) (.pt 1 0 0) (.sl false ((spansK k).map spAV) false) (.sl k.wher.nl (k.wher.es.map Lin.av) k.wher.cl) (.int .i64 k.wher.es.length) (.int .i64 d.length) ∧
     hp.get 1=some (0,.blk k.cells 6 true true false)∧k.wher.es.all (fun l=>decide (0≤(evalL ds l).1))=r.all (fun l=>decide (0≤(evalL ds l).1))) ?_ ?_ ?_
    ·exact ⟨rfl,g1',rfl⟩
    ·clear g1 g1' hp
     rintro env hp ⟨rfl,g1,hW⟩
     have hW':k.wher.es.all (fun l=>decide (0≤(evalL ds l).1))=true:=by rw [hW];rfl
     have g1':=g1
     simp only [Kernels.cells,Sl.av] at g1
     simp only [cf16L1,cf16E1,g1,go_sem,seval]
     have hV30:((k.values.es.length:Int)≤1073741824)=True:=eq_true (by simp only [big] at hVb;omega)
     generalize hE:hp.next 21=E
     simp only [hV30,go_sem,seval]
     refine XX_list (spansK k) (fun d r env hp=>env=cf16E2 (.sl nl (ds.map Val.av) cl) (.pt 1 0 0) (.rf 21 E 0 k.values.es.length k.values.es.length) (.sl false ((spansK k).map spAV) false) (.int .i64 (spansK k).length) (.int .i64 d.length) ∧
      hp.get 1=some (0,.blk k.cells 6 true true false)∧hp.get 21=some (E,.blk ((padL (sizeF ds) d k.values.es).map intA) 1 false true false)∧sizesOK (fun t=>(sizeP ds t).2) (spansK k) k.values.es=sizesOK (fun t=>(sizeP ds t).2) r (k.values.es.drop d.length)) ?_ ?_ ?_
     ·refine ⟨rfl,?_,?_,rfl⟩
      ·simp only [go_sem,seval]
       exact g1'
      ·simp only [go_sem,seval]
       simp [padL,sizesL,intA,hE]
     ·clear g1 g1' hE hp
      rintro env hp ⟨rfl,g1,g2,hS⟩
      have hS':sizesOK (fun t=>(sizeP ds t).2) (spansK k) k.values.es=true:=by rw [hS];rfl
      have hpl:padL (sizeF ds) (spansK k) k.values.es=sizesL (sizeF ds) (spansK k) k.values.es:=by simp [padL,hsl]
      rw [hpl] at g2
      have hsn:=snap_int g2 61
      rw [sizesL_len (sizeF ds) _ _ (by omega),hsl] at hsn
      simp only [cf16L2,cf16E2,go_sem,seval]
      simp only [Tev.conv,depth,snapX,mapS_nil,mapS_cons,↓hsn,go_sem]
      rw [sizesAV_ok hc hD' hW' hS']
     ·clear g1 g1' hE hp
      rintro d x r env hp hes ⟨rfl,g1,g2,hS⟩
      have hlt:d.length < k.values.es.length:=by rw [← hsl,hes];simp
      obtain ⟨t,ht⟩:∃ t,k.values.es[d.length]?=some t:=⟨_,List.getElem?_eq_getElem hlt⟩
      have hget:(spansK k)[d.length]?=some x:=by rw [hes];simp
      have hSx:sizesOK (fun t=>(sizeP ds t).2) (spansK k) k.values.es=((decide (x.1 = -2)||(sizeP ds t).2)&&sizesOK (fun t=>(sizeP ds t).2) r (k.values.es.drop (d++[x]).length)):=by
       rw [hS,List.drop_eq_getElem_cons hlt,sizesOK]
       rw [List.getElem?_eq_getElem hlt] at ht
       cases ht
       simp
      have hvl:((d.length:Int) < (k.values.es.length:Int))=True:=eq_true (by omega)
      have hsl2:((d.length:Int) < ((spansK k).length:Int))=True:=eq_true (by omega)
      have hsl3:decide ((d.length:Int) < ((spansK k).length:Int))=true:=by simp;omega
      have g1':=g1
      simp only [Kernels.cells,Sl.av] at g1
      have hsb:(d++x :: r).length≤big:=by rw [← hes,hsl];exact hVb
      simp only [cf16L2,cf16E2,g1,hget,hsl2,hsl3,spAV,go_sem,seval]
      cases b1:decide (x.1 = -2)
      case true=>
       simp only [b1,wr_mid hsb,go_sem,seval]
       refine ⟨rfl,g1',?_,by rw [hSx,b1];rfl⟩
       rw [padL_skip (sizeF ds) x d k.values.es t ht (of_decide_eq_true b1)]
       exact g2
      simp only [b1,ht,hvl,g1,go_sem,seval]
      refine XO_tree (h33 t) (by simp only [go_sem,seval]) rfl ?_
      simp only [go_sem,seval]
      cases b2:(sizeP ds t).2
      case false=>
       simp only [go_sem,seval]
       rw [sizesAV_three hc hD' hW' (by rw [hSx,b1,b2];rfl)]
      have b1':¬ x.1 = -2:=of_decide_eq_false b1
      have hpl:=padL_len (sizeF ds) d k.values.es (by omega)
      have hle:(0+d.length*1+1≤(padL (sizeF ds) d k.values.es).length)=True:=eq_true (by rw [hpl];omega)
      have hst:List.take (0+d.length*1) ((padL (sizeF ds) d k.values.es).map intA)++[.int .i64 (sizeF ds t)]++List.drop (0+d.length*1+1) ((padL (sizeF ds) d k.values.es).map intA)=(padL (sizeF ds) (d++[x]) k.values.es).map intA:=by
       rw [padL_set (sizeF ds) x d k.values.es t ht b1',Nat.zero_add,Nat.mul_one]
      simp only [b2,wr_mid hsb,g2,hvl,hle,hst,go_sem,seval]
      exact ⟨rfl,g1',by rw [hSx,b1,b2];rfl⟩
    ·clear g1 g1' hp
     rintro d x r env hp hes ⟨rfl,g1,hW⟩
     have hwb:=k.wher.ok
     obtain ⟨hget,x1,x2,xw⟩:=loopF hes hwb
     have hr32:=h32 x
     simp only [cf16L1,cf16E1,hget,x1,x2,go_sem,seval]
     refine XO_tree hr32 (by simp only [go_sem,seval]) rfl ?_
     simp only [go_sem,seval]
     cases b1:decide ((evalL ds x).1 < 0)
     case true=>
      have b1':decide (0≤(evalL ds x).1)=false:=by simp at b1 ⊢;omega
      simp only [b1,go_sem,seval]
      rw [sizesAV_two hc hD' (by rw [hW,List.all_cons,b1'];rfl)]
     have b1':decide (0≤(evalL ds x).1)=true:=by simp at b1 ⊢;omega
     simp only [b1,xw,go_sem,seval]
     exact ⟨rfl,g1,by rw [hW,List.all_cons,b1'];rfl⟩
   ·rintro d x r env hp hes ⟨rfl,g1,hD⟩
    obtain ⟨hget,x1,x2,xw⟩:=loopF hes hb
    obtain ⟨y,hy,_,hvl,hq⟩:=loopG (q:=dimOne) hes hlv
    rw [hq] at hD
    have g1':=g1
    simp only [Kernels.cells,Sl.av] at g1
    simp only [cf16L0,cf16E0,g1,hy,hvl,hget,x1,x2,go_sem,seval]
    cases b1:decide (x.v.bs=y.bs)
    case false=>
     simp only [b1,go_sem,seval]
     exact ⟨by kernel_rfl,by rw [sizesAV_one hc (by rw [hD,dimOne,b1];rfl)]⟩
    cases b2:decide (x.n < 0)
    case true=>
     simp only [b1,b2,go_sem,seval]
     exact ⟨by kernel_rfl,by rw [sizesAV_one hc (by rw [hD,dimOne,b1,b2];rfl)]⟩
    cases b3:decide (4096 < x.n)
    case true=>
     simp only [b1,b2,b3,go_sem,seval]
     exact ⟨by kernel_rfl,by rw [sizesAV_one hc (by rw [hD,dimOne,b1,b2,b3];rfl)]⟩
    simp only [b1,b2,b3,xw,go_sem,seval]
    exact ⟨by kernel_rfl,rfl,g1',by rw [hD,dimOne,b1,b2,b3];rfl⟩
 ·rw [spansR,if_neg (by omega)] at hs9
  subst hs9
  refine XO_tree hr9 (by simp only [Kernels.av,Kernels.cells,go_sem,seval]) rfl ?_
  simp only [go_sem,seval]
  rw [sizesAV_bad (by omega)]
theorem c35 (hf:pg.fs 35=some cf35) (h34:∀ (l:Lin) (nl cl:Bool) (ds:List Val),ds.length≤big→Ret pg 34 [l.av,.sl nl (ds.map Val.av) cl] (.tup [.int .i64 (evalL ds l).1,.int .i64 (evalL ds l).2])) (t:Typ) (nl cl:Bool) (ds:List Val) (hb:ds.length≤big) :
  RetP pg 35 [t.av,.sl nl (ds.map Val.av) cl] (dimsRes ds t):=by
 refine RetP.ofX hf ?_
 unfold cf35
 have hlb:=t.shape.dims.ok
 have hlb':=hlb
 simp only [big] at hlb'
 simp only [go_sem,seval]
 refine XX_list t.shape.dims.es (fun d r env hp=>∃ v,env=cf35E0 (.sl nl (ds.map Val.av) cl) (.pt 1 0 0) v (.int .i64 1) (.int .i64 d.length)∧hp.get 1=some (0,.blk [.str t.elem.bs,.str t.shape.row.bs,.sl t.shape.dims.nl (t.shape.dims.es.map Lin.av) t.shape.dims.cl] 3 true true false) ∧
  Own hp 9 1 false v ((d.map fun l=>(evalL ds l).1).map intA)∧t.shape.dims.es.all (dimGood ds)=r.all (dimGood ds)) ?_ ?_ ?_
 ·exact ⟨_,rfl,rfl,Own.nil _ _ _ _ _ _ rfl,rfl⟩
 ·rintro env hp ⟨v,rfl,g1,ho,hI⟩
  have hI':t.shape.dims.es.all (dimGood ds)=true:=by rw [hI];rfl
  have ho':Own hp 9 1 false v ((dimL ds t).map intA):=ho
  have hfl:=ho'.flen
  have hLb:(dimL ds t).length≤big:=by simpa [dimL] using hlb
  have hG:dimsGood ds t=decide ((dimL ds t).foldl mulC 1≤4096):=by rw [dimsGood,hI',Bool.true_and]
  obtain ⟨L,hL⟩:∃ L,dimL ds t=L:=⟨_,rfl⟩
  rw [hL] at ho' hfl hLb hG
  simp only [cf35L0,cf35E0,g1,ltSelf,go_sem,seval]
  clear ho
  refine XX_list L (fun d r env hp2=>∃ n:Int,env=cf35E1 v (.int .i64 n) (.int .i64 d.length)∧hp2=hp∧L.foldl mulC 1=r.foldl mulC n) ?_ ?_ ?_
  ·exact ⟨1,rfl,rfl,rfl⟩
  ·rintro env hp2 ⟨n,rfl,rfl,hJ⟩
   have hG2:dimsGood ds t=decide (n≤4096):=by rw [hG,hJ];rfl
   have hle:decide (4096 < n) = !decide (n≤4096):=by rw [← decide_not,decide_eq_decide];omega
   have hl0:(L.map intA).length=L.length:=by simp
   rw [hl0] at hfl
   cases hn:decide (n≤4096)
   ·rw [hn] at hle
    simp only [cf35L1,cf35E1,↓hfl,ltSelf,hle,go_sem,seval]
    exact dims_bad (by rw [hG2,hn])
   ·rw [hn] at hle
    simp only [cf35L1,cf35E1,↓hfl,ltSelf,hle,go_sem,seval]
    have hfin:∀ r,(∃ nl cl,r = .tup [.sl nl (L.map intA) cl,.int .i64 0])→dimsRes ds t r:=fun r hr=>dims_ok (by rw [hG2,hn]) (by rw [hL];exact hr)
    obtain ⟨nl3,cl3,keys,hsn,_⟩:=ho'.snap (El.ints _) 61
    rcases ho' with ⟨he,nl',cl',rfl,_⟩ | ⟨e,cs,rfl,hg,hu⟩
    ·simp only [go_sem,seval]
     exact hfin _ ⟨nl',cl',by rw [he]⟩
    ·simp only [List.length_map] at hsn
     simp only [Tev.conv,depth,snapX,mapS_nil,mapS_cons,↓hsn,go_sem,List.length_map]
     exact hfin _ ⟨_,_,rfl⟩
  ·rintro d a r env hp2 hes ⟨n,rfl,rfl,hJ⟩
   obtain ⟨hget,e1,e2,ew⟩:=loopF hes hLb
   have hl0:(L.map intA).length=L.length:=by simp
   rw [hl0] at hfl
   have hgm:(L.map intA)[d.length]?=some (.int .i64 a):=by rw [List.getElem?_map,hget];rfl
   rcases ho' with ⟨he,nl',cl',rfl,_⟩ | ⟨e,cs,rfl,hg,hu⟩
   ·have:L=[]:=by simpa using he
    rw [this] at hget;simp at hget
   ·rw [unchunk_ints] at hu
    cases hu
    have e2':((d.length:Int) < ((L.map intA).length:Int))=True:=by rw [hl0];exact e2
    simp only [cf35L1,cf35E1,e1,e2,hg,hget,Nat.mul_one,Nat.zero_add,mn2,ew,go_sem,seval]
    exact ⟨_,rfl,hJ⟩
 ·rintro d x r env hp hes ⟨v,rfl,g1,ho,hI⟩
  obtain ⟨hget,e1,e2,ew⟩:=loopF hes hlb
  have hdl:d.length≤t.shape.dims.es.length:=by rw [hes];simp
  rw [List.all_cons] at hI
  have hr34:=h34 x nl cl ds hb
  have hbad:dimGood ds x=false→dimsGood ds t=false:=by
   intro h
   rw [dimsGood,hI,h];rfl
  simp only [cf35L0,cf35E0,g1,hget,e1,e2,go_sem,seval]
  refine XO_tree hr34 (by simp only [go_sem,seval]) rfl ?_
  cases b0:decide ((evalL ds x).2=0)
  ·simp only [b0,go_sem,seval]
   exact dims_bad (hbad (by simp [dimGood,b0]))
  cases b1:decide (0≤(evalL ds x).1)
  ·have b1':decide ((evalL ds x).1 < 0)=true:=by simp at b1 ⊢;omega
   simp only [b0,b1',go_sem,seval]
   exact dims_bad (hbad (by simp [dimGood,b1]))
  have b1':decide ((evalL ds x).1 < 0)=false:=by simp at b1 ⊢;omega
  cases b2:decide ((evalL ds x).1≤4096)
  ·have b2':decide (4096 < (evalL ds x).1)=true:=by simp at b2 ⊢;omega
   simp only [b0,b1',b2',go_sem,seval]
   exact dims_bad (hbad (by simp [dimGood,b2]))
  have b2':decide (4096 < (evalL ds x).1)=false:=by simp at b2 ⊢;omega
  simp only [b0,b1',b2',go_sem,seval]
  refine XO_own (kb:=0) (s:=9) ho (El.ints _) (xs:=[.int .i64 (evalL ds x).1]) (by intro z hz;simp at hz;subst hz;exact El.int _) (by simp only [List.length_map,List.length_singleton];omega) (by decide) ?_
  intro v' rd pa ho2 hk2 _
  simp only [ew,go_sem,seval]
  refine ⟨v',rfl,?_,by simpa [intA] using ho2,?_⟩
  ·rw [hk2 1 (by omega)];exact g1
  ·rw [hI,dimGood,b0,b1,b2];rfl
end
end Go.Tev
end
