import Derived.Test.YtdpdokigjeaaiaaGreatDoorDatam
import Derived.Test.YtdpdokigjeaaiaaGreatDoorTabCm
import Derived.Test.YtdpdokigjeaaiaaGreatDoorTabDm
set_option linter.all false
section
namespace Go.Tev
def idxFM:List Bool:=[true,true,false,false,false,false,false,true,true,false,false,false,false,false,false,false,false,false,false]
def idxFL (esz:Nat) (ag:Bool):C:=
 (.seq (.reg [⟨(some 9),(.bin .lss),[.t 8,.t 7],none,0,0⟩] false)
 (.seq (.cond (.t 9) .skip
  (.exit 0))
 (.seq (.block 1 (.seq (.reg [⟨(some 10),.mov,[.t 8],none,0,0⟩,
  ⟨(some 5),.mov,[.t 10],none,0,0⟩] false)
 (.seq (.reg [⟨(some 11),.mov,[.t 1],none,0,0⟩,
  ⟨(some 12),.mov,[.t 0],none,0,0⟩,
  ⟨(some 13),.mov,[.t 5],none,0,0⟩,
  ⟨(some 14),(.iad esz ag none),[.t 12,.t 13],none,0,0⟩,
  ⟨(some 15),(.load esz ag),[.t 14],none,0,0⟩,
  ⟨(some 16),(.callv false false),[.t 11,.t 15],none,0,1⟩] false)
 (.cond (.t 16) (.seq (.reg [⟨(some 17),.mov,[.t 5],none,0,0⟩,
   ⟨(some 4),.mov,[.t 17],none,0,0⟩] false)
  .ret)
  .skip))))
 (.reg [⟨(some 18),(.bin .add),[.t 8,.c (.int .i64 1)],none,0,0⟩,
  ⟨(some 8),.mov,[.t 18],none,0,0⟩] false))))
def idxF (esz:Nat) (ag:Bool):CF:=⟨2,19,[.inl 4],
 (.seq (.reg [⟨(some 4),.mov,[.c (.int .i64 0)],none,0,0⟩] false)
 (.seq (.seq (.reg [⟨(some 6),.mov,[.t 0],none,0,0⟩,
  ⟨(some 7),(.len 1),[.t 6],none,0,0⟩,
  ⟨(some 8),.mov,[.c (.int .i64 0)],none,0,0⟩] false)
 (.block 0 (.loop (idxFL esz ag) idxFM)))
 (.seq (.reg [⟨(some 4),.mov,[.c (.int .i64 (-1))],none,0,0⟩] false)
 .ret)))⟩
def conF (n:Nat):CF:=⟨2,9,[.inl 4],
 (.seq (.reg [⟨(some 4),.mov,[.c (.bool false)],none,0,0⟩] false)
 (.seq (.reg [⟨(some 5),.mov,[.t 0],none,0,0⟩,
  ⟨(some 6),.mov,[.t 1],none,0,0⟩,
  ⟨(some 7),(.call n false false),[.t 5,.t 6],none,0,1⟩,
  ⟨(some 8),(.bin .geq),[.t 7,.c (.int .i64 0)],none,0,0⟩,
  ⟨(some 4),.mov,[.t 8],none,0,0⟩] false)
 .ret))⟩
def idxVM:List Bool:=[true,true,false,false,false,false,false,true,true,false,false,false,false,false,false,false,false,false,false]
def idxVL (esz:Nat) (ag:Bool) (k:K):C:=
 (.seq (.reg [⟨(some 9),(.bin .lss),[.t 8,.t 7],none,0,0⟩] false)
 (.seq (.cond (.t 9) .skip
  (.exit 0))
 (.seq (.block 1 (.seq (.reg [⟨(some 10),.mov,[.t 8],none,0,0⟩,
  ⟨(some 5),.mov,[.t 10],none,0,0⟩] false)
 (.seq (.reg [⟨(some 11),.mov,[.t 1],none,0,0⟩,
  ⟨(some 12),.mov,[.t 0],none,0,0⟩,
  ⟨(some 13),.mov,[.t 5],none,0,0⟩,
  ⟨(some 14),(.iad esz ag none),[.t 12,.t 13],none,0,0⟩,
  ⟨(some 15),(.load esz ag),[.t 14],none,0,0⟩,
  ⟨(some 16),k,[.t 11,.t 15],none,0,0⟩] false)
 (.cond (.t 16) (.seq (.reg [⟨(some 17),.mov,[.t 5],none,0,0⟩,
   ⟨(some 4),.mov,[.t 17],none,0,0⟩] false)
  .ret)
  .skip))))
 (.reg [⟨(some 18),(.bin .add),[.t 8,.c (.int .i64 1)],none,0,0⟩,
  ⟨(some 8),.mov,[.t 18],none,0,0⟩] false))))
def idxV (esz:Nat) (ag:Bool) (k:K):CF:=⟨2,19,[.inl 4],
 (.seq (.reg [⟨(some 4),.mov,[.c (.int .i64 0)],none,0,0⟩] false)
 (.seq (.seq (.reg [⟨(some 6),.mov,[.t 0],none,0,0⟩,
  ⟨(some 7),(.len 1),[.t 6],none,0,0⟩,
  ⟨(some 8),.mov,[.c (.int .i64 0)],none,0,0⟩] false)
 (.block 0 (.loop (idxVL esz ag k) idxVM)))
 (.seq (.reg [⟨(some 4),.mov,[.c (.int .i64 (-1))],none,0,0⟩] false)
 .ret)))⟩
def eqFM:List Bool:=[false,true,true,false,false,false,false,false,false,false,false,false,false,false,false,true,true,true,false,false,false,false,false,false,false,false,false,false,false,false,false,false]
def eqFL (esz:Nat) (ag:Bool) (z:List AV):C:=
 (.seq (.reg [⟨(some 18),(.bin .lss),[.t 17,.t 16],none,0,0⟩] false)
 (.seq (.cond (.t 18) .skip
  (.exit 0))
 (.seq (.block 1 (.seq (.reg [⟨(some 19),.mov,[.t 17],none,0,0⟩,
  ⟨(some 20),(.iad esz ag none),[.t 15,.t 17],none,0,0⟩,
  ⟨(some 21),(.load esz ag),[.t 20],none,0,0⟩,
  ⟨(some 8),(.alloc z ag),[],none,0,1⟩,
  ⟨(some 7),.mov,[.t 19],none,0,0⟩,
  ⟨none,(.store esz ag),[.t 8,.t 21],none,0,0⟩] false)
 (.seq (.reg [⟨(some 22),.mov,[.t 1],none,0,0⟩,
  ⟨(some 23),.mov,[.t 7],none,0,0⟩,
  ⟨(some 24),(.iad esz ag none),[.t 22,.t 23],none,0,0⟩,
  ⟨(some 25),(.load esz ag),[.t 24],none,0,0⟩,
  ⟨(some 9),(.alloc z ag),[],none,0,5⟩,
  ⟨none,(.store esz ag),[.t 9,.t 25],none,0,0⟩] false)
 (.seq (.reg [⟨(some 26),.mov,[.t 2],none,0,0⟩,
  ⟨(some 27),(.load esz ag),[.t 8],none,0,0⟩,
  ⟨(some 28),(.load esz ag),[.t 9],none,0,0⟩,
  ⟨(some 29),(.callv false false),[.t 26,.t 27,.t 28],none,0,9⟩,
  ⟨(some 30),(.un .not),[.t 29],none,0,0⟩] false)
 (.cond (.t 30) (.seq (.reg [⟨(some 6),.mov,[.c (.bool false)],none,0,0⟩] false)
  .ret)
  .skip)))))
 (.reg [⟨(some 31),(.bin .add),[.t 17,.c (.int .i64 1)],none,0,0⟩,
  ⟨(some 17),.mov,[.t 31],none,0,0⟩] false))))
def eqF (esz:Nat) (ag:Bool) (z:List AV):CF:=⟨3,32,[.inl 6],
 (.seq (.reg [⟨(some 6),.mov,[.c (.bool false)],none,0,0⟩] false)
 (.seq (.seq (.reg [⟨(some 10),.mov,[.t 0],none,0,0⟩,
  ⟨(some 11),(.len 1),[.t 10],none,0,0⟩,
  ⟨(some 12),.mov,[.t 1],none,0,0⟩,
  ⟨(some 13),(.len 1),[.t 12],none,0,0⟩,
  ⟨(some 14),(.bin .neq),[.t 11,.t 13],none,0,0⟩] false)
 (.cond (.t 14) (.seq (.reg [⟨(some 6),.mov,[.c (.bool false)],none,0,0⟩] false)
  .ret)
  .skip))
 (.seq (.seq (.reg [⟨(some 15),.mov,[.t 0],none,0,0⟩,
  ⟨(some 16),(.len 1),[.t 15],none,0,0⟩,
  ⟨(some 17),.mov,[.c (.int .i64 0)],none,0,0⟩] false)
 (.block 0 (.loop (eqFL esz ag z) eqFM)))
 (.seq (.reg [⟨(some 6),.mov,[.c (.bool true)],none,0,0⟩] false)
 .ret))))⟩
def eqVM:List Bool:=[true,true,false,false,false,false,false,false,false,false,false,false,true,true,false,false,false,false,false,false,false,false,false,false,false,false]
def eqVL (esz:Nat) (ag:Bool) (k:K):C:=
 (.seq (.reg [⟨(some 14),(.bin .lss),[.t 13,.t 12],none,0,0⟩] false)
 (.seq (.cond (.t 14) .skip
  (.exit 0))
 (.seq (.block 1 (.seq (.reg [⟨(some 15),.mov,[.t 13],none,0,0⟩,
  ⟨(some 5),.mov,[.t 15],none,0,0⟩] false)
 (.seq (.reg [⟨(some 16),.mov,[.t 0],none,0,0⟩,
  ⟨(some 17),.mov,[.t 5],none,0,0⟩,
  ⟨(some 18),(.iad esz ag none),[.t 16,.t 17],none,3,0⟩,
  ⟨(some 19),(.load esz ag),[.t 18],none,7,0⟩,
  ⟨(some 20),.mov,[.t 1],none,0,0⟩,
  ⟨(some 21),.mov,[.t 5],none,0,0⟩,
  ⟨(some 22),(.iad esz ag none),[.t 20,.t 21],none,48,0⟩,
  ⟨(some 23),(.load esz ag),[.t 22],none,112,0⟩,
  ⟨(some 24),k,[.t 19,.t 23],none,255,0⟩] true)
 (.cond (.t 24) (.seq (.reg [⟨(some 4),.mov,[.c (.bool false)],none,0,0⟩] false)
  .ret)
  .skip))))
 (.reg [⟨(some 25),(.bin .add),[.t 13,.c (.int .i64 1)],none,0,0⟩,
  ⟨(some 13),.mov,[.t 25],none,0,0⟩] false))))
def eqV (esz:Nat) (ag:Bool) (k:K):CF:=⟨2,26,[.inl 4],
 (.seq (.reg [⟨(some 4),.mov,[.c (.bool false)],none,0,0⟩] false)
 (.seq (.seq (.reg [⟨(some 6),.mov,[.t 0],none,0,0⟩,
  ⟨(some 7),(.len 1),[.t 6],none,0,0⟩,
  ⟨(some 8),.mov,[.t 1],none,0,0⟩,
  ⟨(some 9),(.len 1),[.t 8],none,0,0⟩,
  ⟨(some 10),(.bin .neq),[.t 7,.t 9],none,0,0⟩] false)
 (.cond (.t 10) (.seq (.reg [⟨(some 4),.mov,[.c (.bool false)],none,0,0⟩] false)
  .ret)
  .skip))
 (.seq (.seq (.reg [⟨(some 11),.mov,[.t 0],none,0,0⟩,
  ⟨(some 12),(.len 1),[.t 11],none,0,0⟩,
  ⟨(some 13),.mov,[.c (.int .i64 0)],none,0,0⟩] false)
 (.block 0 (.loop (eqVL esz ag k) eqVM)))
 (.seq (.reg [⟨(some 4),.mov,[.c (.bool true)],none,0,0⟩] false)
 .ret))))⟩
def overFM:List Bool:=[false,false,false,true,false,false,false,true,true,true,false,false,false,false,false,false,false,false,false,false,false,false,false]
def overFL (g:Nat):C:=
 (.seq (.reg [⟨(some 10),(.bin .lss),[.t 9,.t 8],none,0,0⟩] false)
 (.seq (.cond (.t 10) .skip
  (.exit 0))
 (.seq (.block 1 (.seq (.reg [⟨(some 11),(.iad 2 true none),[.t 7,.t 9],none,0,0⟩,
  ⟨(some 12),(.load 2 true),[.t 11],none,0,0⟩,
  ⟨(some 6),(.alloc [(.int .i64 0),(.sl true [] true)] true),[],none,0,5⟩,
  ⟨none,(.store 2 true),[.t 6,.t 12],none,0,0⟩] false)
 (.seq (.reg [⟨(some 13),(.load 2 true),[.t 6],none,0,0⟩,
  ⟨(some 14),(.call 51 false false),[.t 13],none,0,9⟩,
  ⟨(some 15),(.un .not),[.t 14],none,0,0⟩,
  ⟨(some 16),.mov,[.t 15],none,0,0⟩,
  ⟨(some 17),(.load 2 true),[.t 6],(some (16,false)),0,0⟩,
  ⟨(some 18),(.call 96 false false),[.t 17],(some (16,false)),0,13⟩,
  ⟨(some 19),(.mkf g),[.t 3],(some (16,false)),0,0⟩,
  ⟨(some 20),(.call 95 false false),[.t 18,.t 19],(some (16,false)),0,17⟩,
  ⟨(some 21),.pick,[.t 16,.c (.bool true),.t 20],none,0,0⟩] false)
 (.cond (.t 21) (.seq (.reg [⟨(some 4),.mov,[.c (.bool false)],none,0,0⟩] false)
  .ret)
  .skip))))
 (.reg [⟨(some 22),(.bin .add),[.t 9,.c (.int .i64 1)],none,0,0⟩,
  ⟨(some 9),.mov,[.t 22],none,0,0⟩] false))))
def overF (g:Nat):CF:=⟨2,23,[.inl 4],
 (.seq (.reg [⟨(some 3),.box,[.t 1],none,0,1⟩,
  ⟨(some 4),.mov,[.c (.bool false)],none,0,0⟩] false)
 (.seq (.seq (.reg [⟨(some 7),.mov,[.t 0],none,0,0⟩,
  ⟨(some 8),(.len 1),[.t 7],none,0,0⟩,
  ⟨(some 9),.mov,[.c (.int .i64 0)],none,0,0⟩] false)
 (.block 0 (.loop (overFL g) overFM)))
 (.seq (.reg [⟨(some 4),.mov,[.c (.bool true)],none,0,0⟩] false)
 .ret)))⟩
section
variable {pg:Pg}
theorem idxF_ok {f:Nat} {esz:Nat} {ag:Bool} (hf:pg.fs f=some (idxF esz ag)) {α : Type} (enc : α → AV) (hfit:∀ x,(enc x).fits esz ag=true) (htree:∀ x,(enc x).tree=true)
  (nl cl:Bool) (es:List α) (hb:es.length≤big) (g:Nat) (cs:List AV) (hcs:treeL cs=true) (p : α → Bool) (hp:∀ x∈es,Ret pg g (enc x :: cs) (.bool (p x))) :
  RetP pg f [.sl nl (es.map enc) cl,.fn g cs] (fun r=>∃ i:Int,r = .int .i64 i∧decide (0≤i)=es.any p):=by
 refine RetP.ofX hf ?_
 unfold idxF
 simp only [go_sem,seval]
 refine XX_listU es (fun d e=>setD e (some 8) (.int .i64 d.length)) (fun d r hp=>es.any p=r.any p) rfl ?_ ?_ ?_
 ·rfl
 ·intro hp' hI
  simp only [idxFL,idxFM,go_sem,seval]
  simp [hI]
 ·intro d x r hp' hes hI
  subst hes
  simp only [idxFL,idxFM,hfit,go_sem,seval]
  refine XO_tree (hp x (by simp)) (by simp only [treeL,htree,hcs,List.cons_append,List.nil_append,Bool.and_true]) rfl ?_
  simp only [go_sem,seval]
  cases hx:p x
  ·simp only [wr_mid hb,go_sem,seval]
   simpa [hx] using hI
  ·simp only [go_sem,seval]
   simp [hx]
theorem conF_ok {f n:Nat} (hf:pg.fs f=some (conF n)) {a b:AV} {q:Bool} (ha:treeL [a,b]=true) (h:RetP pg n [a,b] (fun r=>∃ i:Int,r = .int .i64 i∧decide (0≤i)=q)) :
  Ret pg f [a,b] (.bool q):=by
 obtain ⟨_,h,i,rfl,hi⟩:=h
 refine Ret.ofX hf ?_
 unfold conF
 simp only [go_sem,seval]
 refine XO_tree h ha rfl ?_
 simp only [go_sem,seval]
 exact hi
theorem idxV_ok {f:Nat} {esz:Nat} {ag:Bool} {k:K} (hf:pg.fs f=some (idxV esz ag k)) {α : Type} (enc : α → AV) (hfit:∀ x,(enc x).fits esz ag=true)
  (nl cl:Bool) (es:List α) (hb:es.length≤big) (v:AV) (p : α → Bool) (hk:∀ (kb s:Nat) (h:Hp) (x : α) (Q:AV→Eff→Prop) (t:Tok Q),XO pg kb k s h [v,enc x] Q t=Q (.bool (p x)) (.pat [] [])) :
  RetP pg f [.sl nl (es.map enc) cl,v] (fun r=>∃ i:Int,r = .int .i64 i∧decide (0≤i)=es.any p):=by
 refine RetP.ofX hf ?_
 unfold idxV
 simp only [go_sem,seval]
 refine XX_listU es (fun d e=>setD e (some 8) (.int .i64 d.length)) (fun d r hp=>es.any p=r.any p) rfl ?_ ?_ ?_
 ·rfl
 ·intro hp' hI
  simp only [idxVL,idxVM,go_sem,seval]
  simp [hI]
 ·intro d x r hp' hes hI
  subst hes
  simp only [idxVL,idxVM,hfit,hk,go_sem,seval]
  cases hx:p x
  ·simp only [wr_mid hb,go_sem,seval]
   simpa [hx] using hI
  ·simp only [go_sem,seval]
   simp [hx]
def eqL {α β : Type} (q : α → β → Bool):List α → List β → Bool
 | [],[]=>true
 | x :: r,y :: s=>q x y&&eqL q r s
 | _,_=>false
theorem eqL_len {α β : Type} {q : α → β → Bool}:∀ {a:List α} {b:List β},eqL q a b=true→a.length=b.length
 | [],[],_=>rfl
 | x :: r,y :: s,h=>by simp only [eqL,Bool.and_eq_true] at h;simp [eqL_len h.2]
 | [],_ :: _,h=>by simp [eqL] at h
 | _ :: _,[],h=>by simp [eqL] at h
theorem eqF_ok {f:Nat} {esz:Nat} {ag:Bool} {z:List AV} (hz:z.length=esz) (hf:pg.fs f=some (eqF esz ag z)) {α : Type} (enc : α → AV) (cells : α → List AV) (henc:∀ x,enc x = .agg (cells x)) (hcl:∀ x,(cells x).length=esz) (hone:∀ x,allOne (cells x)=true) (hag:ag=true) (htree:∀ x,(enc x).tree=true)
  (nl cl nl' cl':Bool) (es es':List α) (hb:es.length≤big) (g:Nat) (q : α → α → Bool) (hq:∀ x∈es,∀ y∈es',Ret pg g [enc x,enc y] (.bool (q x y))) :
  Ret pg f [.sl nl (es.map enc) cl,.sl nl' (es'.map enc) cl',.fn g []] (.bool (eqL q es es')):=by
 have hfit:∀ x,(enc x).fits esz ag=true:=by intro x;rw [henc,hag];simp [AV.fits,hcl]
 have hcells:∀ x,(enc x).cells=cells x:=by intro x;rw [henc];rfl
 have hdr:List.drop esz z=[]:=by rw [← hz];simp
 have hpart:∀ x,partA (cells x) 0 esz ag=some (enc x):=by
  intro x
  rw [hag]
  have:=hcl x
  simp [partA,henc,← this]
 refine Ret.ofX hf ?_
 unfold eqF
 simp only [go_sem,seval]
 cases hl:decide ((es.length:Int)=es'.length)
 case false=>
  simp only [hl,go_sem,seval]
  cases he:eqL q es es'
  ·rfl
  ·exact absurd (congrArg Int.ofNat (eqL_len he)) (by simpa using hl)
 simp only [hl,go_sem,seval]
 have hl':es.length=es'.length:=by simp at hl;omega
 refine XX_listU es (fun d e=>setD e (some 17) (.int .i64 d.length)) (fun d r hp=>∃ d2 r2,es'=d2++r2∧d2.length=d.length∧eqL q es es'=eqL q r r2) rfl ?_ ?_ ?_
 ·exact ⟨[],es',rfl,rfl,rfl⟩
 ·rintro hp ⟨d2,r2,h1,h2,h3⟩
  simp only [eqFL,eqFM,go_sem,seval]
  rw [h3]
  have:r2=[]:=by
   have:=congrArg List.length h1
   simp at this
   exact List.eq_nil_of_length_eq_zero (by omega)
  subst this
  rfl
 ·rintro d x r hp hes ⟨d2,r2,h1,h2,h3⟩
  have hlen:r2.length=(x :: r).length:=by
   have e1:=congrArg List.length h1
   have e2:=congrArg List.length hes
   simp at e1 e2 ⊢
   omega
  obtain ⟨y,r2,rfl⟩:∃ y s,r2=y :: s:=by
   cases r2 with
   | nil=>simp at hlen
   | cons y s=>exact ⟨y,s,rfl⟩
  have hy:es'[d.length]?=some y:=by rw [h1,← h2];simp
  subst hes
  simp only [eqFL,eqFM,hfit,hcells,hz,hcl,hone,hpart,hy,hdr,Nat.zero_add,Nat.le_refl,List.append_nil,go_sem,seval]
  refine XO_tree (hq x (by simp) y (by rw [h1];simp)) (by simp only [treeL,htree,Bool.and_true,List.append_nil]) rfl ?_
  simp only [go_sem,seval]
  cases hx:q x y
  ·simp only [go_sem,seval]
   rw [h3]
   simp [eqL,hx]
  ·simp only [wr_mid hb,go_sem,seval]
   exact ⟨d2++[y],r2,by simp [h1],by simp [h2],by simpa [eqL,hx] using h3⟩
theorem eqV_ok {f:Nat} {esz:Nat} {ag:Bool} {k:K} (hf:pg.fs f=some (eqV esz ag k)) {α : Type} (enc : α → AV) (hfit:∀ x,(enc x).fits esz ag=true)
  (nl cl nl' cl':Bool) (es es':List α) (hb:es.length≤big) (q : α → α → Bool)
  (hk:∀ (kb s:Nat) (h:Hp) (x y : α) (Q:AV→Eff→Prop) (t:Tok Q),XO pg kb k s h [enc x,enc y] Q t=Q (.bool (!q x y)) (.pat [] [])) (hnc:k.isCall=false) :
  Ret pg f [.sl nl (es.map enc) cl,.sl nl' (es'.map enc) cl'] (.bool (eqL q es es')):=by
 refine Ret.ofX hf ?_
 unfold eqV
 simp only [go_sem,seval]
 cases hl:decide ((es.length:Int)=es'.length)
 case false=>
  simp only [hl,go_sem,seval]
  cases he:eqL q es es'
  ·rfl
  ·exact absurd (congrArg Int.ofNat (eqL_len he)) (by simpa using hl)
 simp only [hl,go_sem,seval]
 have hl':es.length=es'.length:=by simp at hl;omega
 refine XX_listU es (fun d e=>setD e (some 13) (.int .i64 d.length)) (fun d r hp=>∃ d2 r2,es'=d2++r2∧d2.length=d.length∧eqL q es es'=eqL q r r2) rfl ?_ ?_ ?_
 ·exact ⟨[],es',rfl,rfl,rfl⟩
 ·rintro hp ⟨d2,r2,h1,h2,h3⟩
  simp only [eqVL,eqVM,go_sem,seval]
  rw [h3]
  have:r2=[]:=by
   have:=congrArg List.length h1
   simp at this
   exact List.eq_nil_of_length_eq_zero (by omega)
  subst this
  rfl
 ·rintro d x r hp hes ⟨d2,r2,h1,h2,h3⟩
  have hlen:r2.length=(x :: r).length:=by
   have e1:=congrArg List.length h1
   have e2:=congrArg List.length hes
   simp at e1 e2 ⊢
   omega
  obtain ⟨y,r2,rfl⟩:∃ y s,r2=y :: s:=by
   cases r2 with
   | nil=>simp at hlen
   | cons y s=>exact ⟨y,s,rfl⟩
  have hy:es'[d.length]?=some y:=by rw [h1,← h2];simp
  subst hes
  simp only [eqVL,eqVM,hfit,hy,hk,go_sem,seval]
  refine And.intro (by kernel_rfl) ?_
  cases hx:q x y
  ·simp only [go_sem,seval]
   rw [h3]
   simp [eqL,hx]
  ·simp only [wr_mid hb,go_sem,seval]
   exact ⟨d2++[y],r2,by simp [h1],by simp [h2],by simpa [eqL,hx] using h3⟩
end
end Go.Tev
end
section
namespace Go.Tev
structure El (esz:Nat) (ag:Bool) (v:AV):Prop where
 fits:v.fits esz ag=true
 one:allOne v.cells=true
 tree:v.tree=true
theorem El.len {esz:Nat} {ag:Bool} {v:AV} (h:El esz ag v):v.cells.length=esz:=by
 have:=h.fits
 cases v<;>simp [AV.fits,AV.cells] at this ⊢ <;> first | exact this.2 | exact this.2.symm | omega
theorem El.isAgg {esz:Nat} {ag:Bool} {v:AV} (h:El esz ag v):v.isAgg=ag:=by
 have:=h.fits
 cases v<;>cases ag<;>simp [AV.fits,AV.isAgg] at this ⊢
theorem chunk_el {esz:Nat} {ag:Bool}:∀ {es:List AV},(∀ x∈es,El esz ag x)→∃ cs,unchunk esz ag es=some cs∧cs.length=es.length*esz∧allOne cs=true∧∀ tl,chunk esz ag es.length (cs++tl)=some es
 | [],_=>⟨[],rfl,by simp,rfl,fun _=>rfl⟩
 | x :: r,h=>by
  obtain ⟨cs,h1,h2,h3,h4⟩:=chunk_el (fun y hy=>h y (List.mem_cons_of_mem _ hy))
  have hx:=h x (by simp)
  have hl:=hx.len
  refine ⟨x.cells++cs,?_,?_,?_,?_⟩
  ·simp [unchunk,hx.fits,hx.one,h1]
  ·simp [h2,hl,Nat.add_mul];omega
  ·have happ:∀ (p q:List AV),allOne p=true→allOne q=true→allOne (p++q)=true:=by
    intro p q hp hq
    induction p with
    | nil=>exact hq
    | cons y s ih=>simp only [allOne,Bool.and_eq_true,List.cons_append] at hp ⊢;exact ⟨hp.1,ih hp.2⟩
   exact happ _ _ hx.one h3
  ·intro tl
   have hag:=hx.isAgg
   cases ag with
   | true=>
    obtain ⟨c,rfl⟩:∃ c,x = .agg c:=by cases x<;>simp [AV.isAgg] at hag;exact ⟨_,rfl⟩
    simp only [AV.cells] at hl
    simp only [List.length_cons,chunk,AV.cells,if_true,List.append_assoc]
    rw [if_neg (by simp [hl])]
    rw [← hl]
    simp only [List.drop_left,List.take_left]
    rw [hl,h4 tl];rfl
   | false=>
    have hc:x.cells=[x]:=by cases x<;>simp [AV.isAgg] at hag<;>rfl
    have he:esz=1:=by rw [hc] at hl;simpa using hl.symm
    subst he
    simp only [List.length_cons,chunk,hc,Bool.false_eq_true,if_false,List.cons_append,List.nil_append,hag,h4 tl]
    rfl
theorem snaps_el {h:Hp} {esz:Nat} {ag:Bool} {es:List AV} (he:∀ x∈es,El esz ag x):mapS (snap depth h) es=some (es,[]):=by
 refine mapS_tree 63 h ?_
 induction es with
 | nil=>rfl
 | cons x r ih=>simp only [treeL,Bool.and_eq_true];exact ⟨(he x (by simp)).tree,ih (fun y hy=>he y (List.mem_cons_of_mem _ hy))⟩
def Own (h:Hp) (k0 esz:Nat) (ag:Bool) (v:AV) (es:List AV):Prop:=
 (es=[]∧∃ nl cl,v = .sl nl [] cl∧(nl||cl)=true) ∨
 (∃ e cs,v = .rf k0 e 0 es.length es.length∧h.get k0=some (e,.blk cs esz ag false false)∧unchunk esz ag es=some cs)
theorem Own.mono {h h':Hp} {k0 esz:Nat} {ag:Bool} {v:AV} {es:List AV} (o:Own h k0 esz ag v es) (hh:h'.get k0=h.get k0):Own h' k0 esz ag v es:=by
 rcases o with o | ⟨e,cs,h2,h3,h4⟩
 ·exact .inl o
 ·exact .inr ⟨e,cs,h2,by rw [hh];exact h3,h4⟩
theorem Own.nil (h:Hp) (k0 esz:Nat) (ag:Bool) (nl cl:Bool) (hc:(nl||cl)=true):Own h k0 esz ag (.sl nl [] cl) []:=.inl ⟨rfl,nl,cl,rfl,hc⟩
def IsSl (esz:Nat) (ag:Bool) (es:List AV) (r:AV):Prop:=
 (es=[]∧∃ nl cl,r = .sl nl [] cl∧(nl||cl)=true)∨r = .os es esz ag
theorem Own.conv {h:Hp} {k0 esz:Nat} {ag:Bool} {v:AV} {es:List AV} (o:Own h k0 esz ag v es) (he:∀ x∈es,El esz ag x):∃ r,Tev.conv h v=some r∧IsSl esz ag es r:=by
 rcases o with ⟨rfl,nl,cl,rfl,hc⟩ | ⟨e,cs,rfl,hg,hu⟩
 ·exact ⟨.sl nl [] cl,conv_tree rfl,.inl ⟨rfl,nl,cl,rfl,hc⟩⟩
 ·obtain ⟨cs',h1,h2,h3,h4⟩:=chunk_el he
  rw [hu] at h1
  cases h1
  have h5:=h4 []
  rw [List.append_nil] at h5
  refine ⟨.os es esz ag,?_,.inr rfl⟩
  simp [Tev.conv,hg,h5,snaps_el he]
theorem unchunk_append {esz:Nat} {ag:Bool}:∀ {a b:List AV} {c d:List AV},unchunk esz ag a=some c→unchunk esz ag b=some d→unchunk esz ag (a++b)=some (c++d)
 | [],b,c,d,h1,h2=>by cases h1;exact h2
 | x :: r,b,c,d,h1,h2=>by
  simp only [unchunk] at h1
  split at h1
  ·rename_i hc
   simp only [Option.map_eq_some_iff] at h1
   obtain ⟨c',h3,rfl⟩:=h1
   simp [unchunk,hc,unchunk_append h3 h2]
  ·cases h1
section
variable {pg:Pg} {kb:Nat}
theorem XO_own {esz bytes s:Nat} {ag:Bool} {h:Hp} {v:AV} {es xs:List AV} {nl cl:Bool} {Q:AV→Eff→Prop} {t:Tok Q} (o:Own h (kb+s) esz ag v es) (he:∀ x∈es,El esz ag x) (hx:∀ x∈xs,El esz ag x)
  (hl:es.length+xs.length≤1073741824) (hb:bytes≤65536)
  (q:∀ v' rd pa,Own (Eff.app h (.pat rd pa)) (kb+s) esz ag v' (es++xs)→(∀ k,k ≠ kb+s→(Eff.app h (.pat rd pa)).get k=h.get k)→(∀ x∈pa,x.k=kb+s)→Q v' (.pat rd pa)) :
  XO pg kb (.app esz ag bytes) s h [v,.sl nl xs cl] Q t:=by
 rw [XO_app]
 obtain ⟨ds,d1,d2,d3,_⟩:=chunk_el hx
 simp only [f_app,srcCells,d1,Option.map_some]
 by_cases hxs:xs=[]
 ·subst hxs
  cases d1
  rcases o with ⟨rfl,nl',cl',rfl,hc⟩ | ⟨e,cs,rfl,hg,hu⟩
  ·simp only [appA,List.length_nil,if_true]
   exact q _ _ _ (.inl ⟨rfl,nl',cl',rfl,hc⟩) (fun _ _=>rfl) (by simp)
  ·obtain ⟨cs',c1,c2,_,_⟩:=chunk_el he
   rw [hu] at c1;cases c1
   simp only [appA,hg,List.length_nil,if_true,true_and,Nat.zero_add]
   rw [if_pos (by omega)]
   exact q _ _ _ (.inr ⟨e,cs,by simp,by simpa [Eff.app,putAll] using hg,by simpa using hu⟩) (fun _ _=>rfl) (by simp)
 ·have hn:xs.length ≠ 0:=by simpa using hxs
  rcases o with ⟨rfl,nl',cl',rfl,hc⟩ | ⟨e,cs,rfl,hg,hu⟩
  ·simp only [appA,hn,if_false,hc,List.length_nil,Nat.zero_add,Bool.true_and]
   have hlx:xs.length≤1073741824:=by simpa using hl
   simp only [hlx,hb,decide_true,Bool.and_self,if_true,unchunk,List.nil_append]
   refine q _ _ _ (.inr ⟨_,ds,rfl,?_,by simpa using d1⟩) ?_ (by simp)
   ·rw [app_one,get_put,if_pos rfl]
   ·intro k hk
    rw [app_one,get_put,if_neg (Ne.symm hk)]
  ·obtain ⟨cs',c1,c2,_,_⟩:=chunk_el he
   rw [hu] at c1;cases c1
   have h1:¬ (es.length+xs.length≤es.length):=by omega
   simp only [appA,hg,hn,if_false,true_and,Nat.zero_add]
   rw [if_pos (by omega)]
   simp only [h1,if_false,hl,hb,decide_true,Bool.true_and,beq_self_eq_true,Bool.not_true,Bool.and_false,Bool.false_eq_true,Bool.not_false,if_true]
   refine q _ _ _ (.inr ⟨e+1,cs++ds,by simp,?_,unchunk_append hu d1⟩) ?_ (by simp)
   ·rw [app_one,get_put,if_pos rfl]
    simp [← c2]
   ·intro k hk
    rw [app_one,get_put,if_neg (Ne.symm hk)]
theorem XO_own2 {esz bytes s k1:Nat} {ag:Bool} {h:Hp} {v:AV} {es xs:List AV} {nl cl:Bool} {Q:AV→Eff→Prop} {t:Tok Q} (o:Own h k1 esz ag v es) (hk1:k1 ≠ kb+s) (he:∀ x∈es,El esz ag x) (hx:∀ x∈xs,El esz ag x)
  (hl:es.length+xs.length≤1073741824) (hb:bytes≤65536)
  (q1:xs=[]→∀ rd,Q v (.pat rd []))
  (q2:xs ≠ []→∀ v' rd pa,Own (Eff.app h (.pat rd pa)) (kb+s) esz ag v' (es++xs)→(∀ k,k ≠ kb+s→k ≠ k1→(Eff.app h (.pat rd pa)).get k=h.get k)→Q v' (.pat rd pa)) :
  XO pg kb (.app esz ag bytes) s h [v,.sl nl xs cl] Q t:=by
 rw [XO_app]
 obtain ⟨ds,d1,d2,d3,_⟩:=chunk_el hx
 simp only [f_app,srcCells,d1,Option.map_some]
 by_cases hxs:xs=[]
 ·subst hxs
  cases d1
  rcases o with ⟨rfl,nl',cl',rfl,hc⟩ | ⟨e,cs,rfl,hg,hu⟩
  ·simp only [appA,List.length_nil,if_true]
   exact q1 rfl _
  ·obtain ⟨cs',c1,c2,_,_⟩:=chunk_el he
   rw [hu] at c1;cases c1
   simp only [appA,hg,List.length_nil,if_true,true_and,Nat.zero_add]
   rw [if_pos (by omega)]
   exact q1 rfl _
 ·have hn:xs.length ≠ 0:=by simpa using hxs
  rcases o with ⟨rfl,nl',cl',rfl,hc⟩ | ⟨e,cs,rfl,hg,hu⟩
  ·simp only [appA,hn,if_false,hc,List.length_nil,Nat.zero_add,Bool.true_and]
   have hlx:xs.length≤1073741824:=by simpa using hl
   simp only [hlx,hb,decide_true,Bool.and_self,if_true,unchunk,List.nil_append]
   refine q2 hxs _ _ _ (.inr ⟨_,ds,rfl,?_,by simpa using d1⟩) ?_
   ·rw [app_one,get_put,if_pos rfl]
   ·intro k hk _
    rw [app_one,get_put,if_neg (Ne.symm hk)]
  ·obtain ⟨cs',c1,c2,_,_⟩:=chunk_el he
   rw [hu] at c1;cases c1
   have h1:¬ (es.length+xs.length≤es.length):=by omega
   have h2:(k1 == kb+s)=false:=by simpa using hk1
   simp only [appA,hg,hn,if_false,true_and,Nat.zero_add]
   rw [if_pos (by omega)]
   simp only [h1,if_false,hl,hb,decide_true,Bool.true_and,h2,Bool.not_false,if_true,Bool.false_eq_true]
   refine q2 hxs _ _ _ (.inr ⟨h.next (kb+s),cs++ds,by simp,?_,unchunk_append hu d1⟩) ?_
   ·rw [app_two,get_put,if_pos rfl]
    simp [← c2]
   ·intro k hk hk2
    rw [app_two,get_put,if_neg (Ne.symm hk),get_put,if_neg (Ne.symm hk2)]
theorem XO_sl {f s esz:Nat} {ag:Bool} {h:Hp} {vs es:List AV} {Q:AV→Eff→Prop} {t:Tok Q} (hr:RetP pg f vs (IsSl esz ag es)) (hm:treeL vs=true)
  (q:∀ nl cl,(nl=true→es=[])→Q (.sl nl es cl) (.pat [kb+s] [])):XO pg kb (.call f false false) s h vs Q t:=by
 obtain ⟨r,hr,⟨rfl,nl,cl,rfl,hc⟩ | rfl⟩:=hr
 ·exact XO_tree hr hm rfl (q nl cl (fun _=>rfl))
 ·refine XO_call hr (mapS_tree 63 h hm) (v:=.sl false es false) (pa:=[]) rfl ?_
  have:(if (AV.os es esz ag).flat then ([]:List Ent) else freezeK h [])++[]=[]:=by split<;>rfl
  rw [this]
  exact q false false (fun h=>by cases h)
theorem XO_slO {f s esz:Nat} {ag:Bool} {h:Hp} {vs es:List AV} {Q:AV→Eff→Prop} {t:Tok Q} (hr:RetP pg f vs (IsSl esz ag es)) (hm:treeL vs=true) (he:∀ x∈es,El esz ag x)
  (q:∀ v rd pa,Own (Eff.app h (.pat rd pa)) (kb+s) esz ag v es→(∀ k,k ≠ kb+s→(Eff.app h (.pat rd pa)).get k=h.get k)→(∀ x∈pa,x.k=kb+s)→Q v (.pat rd pa)):XO pg kb (.call f true false) s h vs Q t:=by
 obtain ⟨r,hr,⟨rfl,nl,cl,rfl,hc⟩ | rfl⟩:=hr
 ·exact XO_tree hr hm rfl (q _ _ _ (Own.nil _ _ _ _ _ _ hc) (fun _ _=>rfl) (by simp))
 ·obtain ⟨cs,c1,c2,_,_⟩:=chunk_el he
  refine XO_call hr (mapS_tree 63 h hm) (v:=.rf (kb+s) (h.next (kb+s)) 0 es.length es.length) (pa:=[⟨kb+s,h.next (kb+s),.blk cs esz ag false false⟩]) (by simp [receive,c1]) ?_
  have:(if (AV.os es esz ag).flat then ([]:List Ent) else freezeK h [])=[]:=by split<;>rfl
  rw [this,List.nil_append]
  refine q _ _ _ (.inr ⟨_,cs,rfl,?_,c1⟩) ?_ (by simp)
  ·rw [app_one,get_put,if_pos rfl]
  ·intro k hk
   rw [app_one,get_put,if_neg (Ne.symm hk)]
theorem XO_slO' {f s esz:Nat} {ag:Bool} {h:Hp} {vs es:List AV} {Q:AV→Eff→Prop} {t:Tok Q} (hr:RetP pg f vs (IsSl esz ag es)) (hm:treeL vs=true) (he:∀ x∈es,El esz ag x)
  (q1:es=[]→∀ nl cl,(nl||cl)=true→Q (.sl nl [] cl) (.pat [kb+s] []))
  (q2:∀ cs,unchunk esz ag es=some cs→chunk esz ag es.length cs=some es→Q (.rf (kb+s) (h.next (kb+s)) 0 es.length es.length) (.pat [kb+s] [⟨kb+s,h.next (kb+s),.blk cs esz ag false false⟩])):XO pg kb (.call f true false) s h vs Q t:=by
 obtain ⟨r,hr,⟨rfl,nl,cl,rfl,hc⟩ | rfl⟩:=hr
 ·exact XO_tree hr hm rfl (q1 rfl nl cl hc)
 ·obtain ⟨cs,c1,c2,_,c4⟩:=chunk_el he
  refine XO_call hr (mapS_tree 63 h hm) (v:=.rf (kb+s) (h.next (kb+s)) 0 es.length es.length) (pa:=[⟨kb+s,h.next (kb+s),.blk cs esz ag false false⟩]) (by simp [receive,c1]) ?_
  have:(if (AV.os es esz ag).flat then ([]:List Ent) else freezeK h [])=[]:=by split<;>rfl
  rw [this,List.nil_append]
  exact q2 cs c1 (by simpa using c4 [])
end
end Go.Tev
end
section
namespace Go.Tev
def digit (c:UInt8):Bool:=decide (48≤c.toNat)&&decide (c.toNat≤57)
def letter (c:UInt8):Bool:=decide (97≤c.toNat)&&decide (c.toNat≤122)
def nameU (s:List UInt8):Bool:=
 match s with
 | []=>false
 | c :: t=>decide (s.length≤30)&&(if c=95 then decide (2≤s.length)&&decide (s.length≤10) && !decide (t.head?=some 48)&&t.all digit else letter c&&t.all (fun x=>letter x||digit x))
def elemVarU (s:List UInt8):Bool:=
 match s with
 | []=>false
 | c :: t=>decide (s.length≤30)&&(decide (65≤c.toNat)&&decide (c.toNat≤90))&&t.all digit
def loopN' (i:Nat):List UInt8:=[105,UInt8.ofNat (48+i)]
def coefOK (n:Int):Bool:=decide (-1000000≤n)&&decide (n≤1000000)
def termsOK (p:List Coef):List Coef→Bool
 | []=>true
 | x :: r=>nameU x.v.bs && !decide (x.c=0)&&coefOK x.c&&(match p.getLast? with | none=>true | some q=>Op.bytesLess q.v.bs x.v.bs)&&termsOK (p++[x]) r
def linOK (l:Lin):Bool:=termsOK [] l.ts.es&&coefOK l.c&&decide ((l.ts.es.length:Int)≤12)
section
variable {pg:Pg}
theorem c89 (hf:pg.fs 89=some cf89) (n:Int):Ret pg 89 [.int .i64 n] (.bool (coefOK n)):=by
 refine Ret.ofX hf ?_
 unfold cf89
 repeat' (first | simp only [*,go_sem,seval] | refine XG_split (fun _=>?_) (fun _=>?_) | refine XC_split (fun _=>?_) (fun _=>?_) | refine And.intro (by kernel_rfl) ?_)
 all_goals simp [coefOK, *]
theorem c126 (hf:pg.fs 126=some cf126) (s p:List UInt8):Ret pg 126 [.str s,.str p] (.bool (decide (p.length≤s.length)&&decide (s.take p.length=p))):=by
 refine Ret.ofX hf ?_
 unfold cf126
 simp only [go_sem,seval]
 cases h:decide (p.length≤s.length)
 ·have h':decide ((p.length:Int)≤s.length)=false:=by simp at h ⊢;omega
  simp only [h',go_sem,seval]
 ·have h':decide ((p.length:Int)≤s.length)=true:=by simp at h ⊢;omega
  simp only [h',go_sem,seval]
  have h2:(0:Int)≤p.length∧(p.length:Int)≤s.length:=by simp at h;omega
  simp [optI,h2,val,XV,optQ]
  simp only [h',h2,go_sem,seval]
theorem c91 (hf:pg.fs 91=some cf91) (h126:pg.fs 126=some cf126) (s p:List UInt8):Ret pg 91 [.str s,.str p] (.bool (decide (p.length≤s.length)&&decide (s.take p.length=p))):=by
 refine Ret.ofX hf ?_
 unfold cf91
 simp only [go_sem,seval]
 refine XO_tree (c126 h126 s p) (by simp only [go_sem,seval]) rfl ?_
 simp only [go_sem,seval]
theorem c51 (hf:pg.fs 51=some cf51) (h89:pg.fs 89=some cf89) (h57:∀ s:Str,Ret pg 57 [.str s.bs] (.bool (nameU s.bs))) (l:Lin):Ret pg 51 [l.av] (.bool (linOK l)):=by
 refine Ret.ofX hf ?_
 unfold cf51
 simp only [go_sem,seval]
 refine XX_list l.ts.es (fun d r env hp=>hp.get 1=some (0,.blk [.int .i64 l.c,.sl l.ts.nl (l.ts.es.map Coef.av) l.ts.cl] 2 true true false) ∧
  env=cf51E0 (.pt 1 0 0) (.sl l.ts.nl (l.ts.es.map Coef.av) l.ts.cl) (.int .i64 l.ts.es.length) (.int .i64 d.length)∧linOK l=(termsOK d r&&coefOK l.c&&decide ((l.ts.es.length:Int)≤12))) ?_ ?_ ?_
 ·exact ⟨rfl,rfl,rfl⟩
 ·rintro env hp ⟨h1,rfl,hq⟩
  unfold cf51L0 cf51E0
  simp only [Int.lt_irrefl,h1,go_sem,seval]
  refine XO_tree (c89 h89 _) (by simp only [go_sem,seval]) rfl ?_
  simp only [h1,go_sem,seval]
  simp only [termsOK] at hq
  cases h9:coefOK l.c
  ·simp only [go_sem,seval]
   simp [hq,h9]
  ·simp only [h1,go_sem,seval]
   simp [hq,h9]
 ·rintro d x r env hp hes ⟨h1,rfl,hq⟩
  have hb:=l.ts.ok
  rw [hes] at hb h1 hq ⊢
  unfold cf51L0 cf51E0
  simp only [go_sem,seval]
  refine XO_tree (h57 x.v) (by simp only [go_sem,seval]) rfl ?_
  simp only [termsOK] at hq
  simp only [go_sem,seval]
  cases hn:nameU x.v.bs
  ·simp only [go_sem,seval]
   refine And.intro (by kernel_rfl) ?_
   simp [hq,hn]
  cases hc:decide (x.c=0)
  case true=>
   simp only [hc,go_sem,seval]
   refine And.intro (by kernel_rfl) ?_
   simp [hq,hc]
  simp only [hc,go_sem,seval]
  refine XO_tree (c89 h89 x.c) (by simp only [go_sem,seval]) rfl ?_
  simp only [go_sem,seval]
  cases h9:coefOK x.c
  ·simp only [go_sem,seval]
   refine And.intro (by kernel_rfl) ?_
   simp [hq,h9]
  cases hd:decide (0 < (d.length:Int))
  ·simp only [hd,wr_mid hb,go_sem,seval]
   refine And.intro (by kernel_rfl) ⟨h1,rfl,?_⟩
   have:d=[]:=by cases d<;>simp_all<;>omega
   subst this
   simp [hq,h9,hc,hn]
  ·obtain ⟨d',y,rfl⟩:∃ d' y,d=d'++[y]:=by
    rcases List.eq_nil_or_concat d with rfl | ⟨d',y,h⟩
    ·simp at hd
    ·exact ⟨d',y,by simpa using h⟩
   have hy:(d'++[y]++x :: r)[(wr .i64 (((d'++[y]).length:Int) - 1)).toNat]?=some y:=by
    have:wr .i64 (((d'++[y]).length:Int) - 1)=(d'.length:Int):=by
     simp only [List.length_append,List.length_cons,List.length_nil,big] at *
     rw [wr_small (by omega) (by omega)];omega
    rw [this];simp
   have hy0:(0≤wr .i64 (((d'++[y]).length:Int) - 1))=True:=by
    have:wr .i64 (((d'++[y]).length:Int) - 1)=(d'.length:Int):=by
     simp only [List.length_append,List.length_cons,List.length_nil,big] at *
     rw [wr_small (by omega) (by omega)];omega
    rw [this];simp
   simp only [hd,h1,hy,hy0,go_sem,seval]
   cases hl:Op.bytesLess y.v.bs x.v.bs
   ·simp only [go_sem,seval]
    refine And.intro (by kernel_rfl) ?_
    simp [hq,hl]
   ·simp only [wr_mid hb,go_sem,seval]
    refine And.intro (by kernel_rfl) ⟨h1,rfl,?_⟩
    simp [hq,h9,hc,hn,hl]
theorem El.str (s:List UInt8):El 1 false (.str s):=⟨rfl,rfl,rfl⟩
theorem El.int (n:Int):El 1 false (.int .i64 n):=⟨rfl,rfl,rfl⟩
theorem El.bool (b:Bool):El 1 false (.bool b):=⟨rfl,rfl,rfl⟩
theorem c96 (hf:pg.fs 96=some cf96) (l:Lin):RetP pg 96 [l.av] (IsSl 1 false (l.ts.es.map fun x => .str x.v.bs)):=by
 refine RetP.ofX hf ?_
 have hb:=l.ts.ok
 have hel:∀ d:List Coef,∀ x∈d.map (fun x:Coef=>AV.str x.v.bs),El 1 false x:=by
  intro d x hx
  simp only [List.mem_map] at hx
  obtain ⟨y,_,rfl⟩:=hx
  exact El.str _
 unfold cf96
 simp only [go_sem,seval]
 refine XX_list l.ts.es (fun d r env hp=>∃ v,env=cf96E0 v (.sl l.ts.nl (l.ts.es.map Coef.av) l.ts.cl) (.int .i64 l.ts.es.length) (.int .i64 d.length)∧Own hp 9 1 false v (d.map fun x => .str x.v.bs)) ?_ ?_ ?_
 ·exact ⟨_,rfl,Own.nil _ _ _ _ _ _ rfl⟩
 ·rintro env hp ⟨v,rfl,ho⟩
  simp only [cf96L0,cf96E0,go_sem,seval]
  exact ho.conv (hel _)
 ·rintro d x r env hp hes ⟨v,rfl,ho⟩
  rw [hes] at hb ⊢
  simp only [cf96L0,cf96E0,go_sem,seval]
  refine XO_own (kb:=0) (s:=9) (bytes:=16) (es:=d.map fun x => .str x.v.bs) (ho.mono ?_) (hel _) (xs:=[.str x.v.bs]) (by intro y hy;simp at hy;subst hy;exact El.str _) ?_ (by decide) ?_
  ·simp only [go_sem,seval]
  ·simp only [List.length_append,List.length_cons,List.length_nil,List.length_map,big] at *;omega
  ·intro v' rd pa ho' hk hpa
   simp only [wr_mid hb,go_sem,seval]
   exact ⟨v',rfl,by simpa using ho'⟩
theorem c138 (hf:pg.fs 138=some cf138) (nl cl:Bool) (es:List Str) (hb:es.length≤big) (v:List UInt8) :
  RetP pg 138 [.sl nl (es.map Str.av) cl,.str v] (fun r=>∃ i:Int,r = .int .i64 i∧decide (0≤i)=es.any (fun s=>decide (v=s.bs))):=
 idxV_ok (f:=138) (k:=.bin .eql) hf Str.av (fun _=>rfl) nl cl es hb (.str v) (fun s=>decide (v=s.bs)) (by intro kb s h x Q t;simp only [go_sem,seval])
theorem c98 (hf:pg.fs 98=some cf98) (h138:pg.fs 138=some cf138) (nl cl:Bool) (es:List Str) (hb:es.length≤big) (v:List UInt8) :
  Ret pg 98 [.sl nl (es.map Str.av) cl,.str v] (.bool (es.any (fun s=>decide (v=s.bs)))):=
 conF_ok (n:=138) hf (by simp only [go_sem,seval]) (c138 h138 nl cl es hb v)
def hasS (vars:List Str) (v:List UInt8):Bool:=vars.any (fun s=>decide (v=s.bs))
def overOK (ls:List Lin) (vars:List Str):Bool:=ls.all fun l=>linOK l&&l.ts.es.all fun x=>hasS vars x.v.bs
theorem c97 {f:Nat} (hf:pg.fs f=some cf97) (h98:pg.fs 98=some cf98) (h138:pg.fs 138=some cf138) (nl cl:Bool) (es:List Str) (hb:es.length≤big) (v:List UInt8) :
  Ret pg f [.str v,.fp (.sl nl (es.map Str.av) cl)] (.bool (!hasS es v)):=by
 refine Ret.ofX hf ?_
 unfold cf97
 simp only [go_sem,seval]
 refine XO_tree (c98 h98 h138 nl cl es hb v) (by simp only [go_sem,seval]) rfl ?_
 simp only [go_sem,seval]
 rfl
theorem c137 (hf:pg.fs 137=some cf137) (nl cl:Bool) (es:List Str) (hb:es.length≤big) (g:Nat) (cs:List AV) (hcs:treeL cs=true) (p:Str→Bool) (hp:∀ x∈es,Ret pg g (x.av :: cs) (.bool (p x))) :
  RetP pg 137 [.sl nl (es.map Str.av) cl,.fn g cs] (fun r=>∃ i:Int,r = .int .i64 i∧decide (0≤i)=es.any p):=
 idxF_ok (f:=137) (esz:=1) (ag:=false) hf Str.av (fun _=>rfl) (fun _=>rfl) nl cl es hb g cs hcs p hp
theorem c95 (hf:pg.fs 95=some cf95) (h137:pg.fs 137=some cf137) (nl cl:Bool) (es:List Str) (hb:es.length≤big) (g:Nat) (cs:List AV) (hcs:treeL cs=true) (p:Str→Bool) (hp:∀ x∈es,Ret pg g (x.av :: cs) (.bool (p x))) :
  Ret pg 95 [.sl nl (es.map Str.av) cl,.fn g cs] (.bool (es.any p)):=
 conF_ok (n:=137) hf (by simp only [treeL,tree_sl,tree_fn,hcs,Str.treeL,Bool.and_true]) (c137 h137 nl cl es hb g cs hcs p hp)
theorem overF_ok {f g:Nat} (hf:pg.fs f=some (overF g)) (h51:∀ l:Lin,Ret pg 51 [l.av] (.bool (linOK l))) (h96:pg.fs 96=some cf96) (h95:pg.fs 95=some cf95) (h137:pg.fs 137=some cf137) (h97:pg.fs g=some cf97) (h98:pg.fs 98=some cf98) (h138:pg.fs 138=some cf138)
  (nl cl:Bool) (ls:List Lin) (hb:ls.length≤big) (nl' cl':Bool) (vars:List Str) (hb':vars.length≤big):Ret pg f [.sl nl (ls.map Lin.av) cl,.sl nl' (vars.map Str.av) cl'] (.bool (overOK ls vars)):=by
 refine Ret.ofX hf ?_
 unfold overF
 simp only [go_sem,seval]
 refine XX_listU ls (fun d e=>setD e (some 9) (.int .i64 d.length)) (fun d r hp=>(∃ fz,hp.get 1=some (0,.blk [.sl nl' (vars.map Str.av) cl'] 1 false true fz))∧overOK ls vars=overOK r vars) rfl ?_ ?_ ?_
 ·exact ⟨⟨_,rfl⟩,rfl⟩
 ·rintro hp ⟨⟨fz,h1⟩,hI⟩
  simp only [overFL,overFM,go_sem,seval]
  rw [hI];rfl
 ·rintro d x r hp hes ⟨⟨fz,h1⟩,hI⟩
  subst hes
  simp only [overFL,overFM,go_sem,seval]
  refine XO_tree (h51 x) (by simp only [go_sem,seval]) rfl ?_
  simp only [go_sem,seval]
  cases hx:linOK x
  ·simp only [go_sem,seval]
   rw [hI];simp [overOK,hx]
  simp only [go_sem,seval]
  refine XO_sl (c96 h96 x) (by simp only [go_sem,seval]) ?_
  intro nl2 cl2 hnl
  simp only [go_sem,seval]
  have hv:∀ y∈x.ts.es.map (fun c=>c.v),Ret pg g (y.av :: [.fp (.sl nl' (vars.map Str.av) cl')]) (.bool (!hasS vars y.bs)):=fun y _=>c97 h97 h98 h138 nl' cl' vars hb' y.bs
  have h9:=c95 h95 h137 nl2 cl2 (x.ts.es.map fun c=>c.v) (by have:=x.ts.ok;simpa using this) g [.fp (.sl nl' (vars.map Str.av) cl')] (by simp only [go_sem,seval]) (fun y => !hasS vars y.bs) hv
  have hm:List.map (fun x=>AV.str x.v.bs) x.ts.es=List.map Str.av (x.ts.es.map fun c=>c.v):=by simp [Str.av]
  rw [hm]
  refine XO_call (h9) (by simp only [ h1,depth,mapS_nil,mapS_cons,snapX,go_sem,seval];rfl) (by first | rfl | simp only [receive]) ?_
  simp only [go_sem,seval]
  have hany:(List.map (fun c=>c.v) x.ts.es).any (fun y => !hasS vars y.bs) = !(x.ts.es.all fun c=>hasS vars c.v.bs):=by
   simp [List.any_map,List.not_all_eq_any_not];rfl
  rw [hany]
  cases hy:x.ts.es.all fun c=>hasS vars c.v.bs
  ·simp only [go_sem,seval]
   rw [hI];simp [overOK,hx,hy]
  ·simp only [h1,wr_mid hb,go_sem,seval]
   exact ⟨⟨fz,rfl⟩,by simpa [overOK,hx,hy] using hI⟩
def coefEq (x y:Coef):Bool:=decide (x.v.bs=y.v.bs)&&decide (x.c=y.c)
def linEq (a b:Lin):Bool:=decide (a.c=b.c)&&eqL coefEq a.ts.es b.ts.es
def shapeEq (a b:Shape):Bool:=decide (a.row.bs=b.row.bs)&&eqL linEq a.dims.es b.dims.es
def typEq (a b:Typ):Bool:=decide (a.elem.bs=b.elem.bs)&&shapeEq a.shape b.shape
theorem c106 (hf:pg.fs 106=some cf106) (nl cl nl' cl':Bool) (es es':List Coef) (hb:es.length≤big):Ret pg 106 [.sl nl (es.map Coef.av) cl,.sl nl' (es'.map Coef.av) cl'] (.bool (eqL coefEq es es')):=
 eqV_ok (f:=106) (k:=.eqs true [1,0]) hf Coef.av (fun _=>by simp only [go_sem,seval]) nl cl nl' cl' es es' hb coefEq (by intro kb s h x y Q t;simp only [go_sem,seval];simp [coefEq]) rfl
theorem c142 (hf:pg.fs 142=some cf142) (h106:pg.fs 106=some cf106) (a b:Lin):Ret pg 142 [a.av,b.av] (.bool (linEq a b)):=by
 refine Ret.ofX hf ?_
 unfold cf142
 simp only [go_sem,seval]
 cases h:decide (a.c=b.c)
 ·simp only [go_sem,seval]
  simp [linEq,h]
 ·simp only [go_sem,seval]
  refine XO_tree (c106 h106 _ _ _ _ a.ts.es b.ts.es a.ts.ok) (by simp only [go_sem,seval]) rfl ?_
  simp only [go_sem,seval]
  simp [linEq,h]
theorem c68 (hf:pg.fs 68=some cf68) (h106:pg.fs 106=some cf106) (a b:Lin):Ret pg 68 [a.av,b.av] (.bool (linEq a b)):=by
 refine Ret.ofX hf ?_
 unfold cf68
 simp only [go_sem,seval]
 cases h:decide (a.c=b.c)
 ·simp only [go_sem,seval]
  simp [linEq,h]
 ·simp only [go_sem,seval]
  refine XO_tree (c106 h106 _ _ _ _ a.ts.es b.ts.es a.ts.ok) (by simp only [go_sem,seval]) rfl ?_
  simp only [go_sem,seval]
  simp [linEq,h]
theorem c143 (hf:pg.fs 143=some cf143) (h106:pg.fs 106=some cf106) (a b:Lin):Ret pg 143 [a.av,b.av] (.bool (linEq a b)):=by
 refine Ret.ofX hf ?_
 unfold cf143
 simp only [go_sem,seval]
 cases h:decide (a.c=b.c)
 ·simp only [go_sem,seval]
  simp [linEq,h]
 ·simp only [go_sem,seval]
  refine XO_tree (c106 h106 _ _ _ _ a.ts.es b.ts.es a.ts.ok) (by simp only [go_sem,seval]) rfl ?_
  simp only [go_sem,seval]
  simp [linEq,h]
theorem c67 (hf:pg.fs 67=some cf67) (g:Nat) (hg:∀ a b:Lin,Ret pg g [a.av,b.av] (.bool (linEq a b))) (nl cl nl' cl':Bool) (es es':List Lin) (hb:es.length≤big) :
  Ret pg 67 [.sl nl (es.map Lin.av) cl,.sl nl' (es'.map Lin.av) cl',.fn g []] (.bool (eqL linEq es es')):=
 eqF_ok (f:=67) (esz:=2) (ag:=true) rfl hf Lin.av (fun x=>[.int .i64 x.c,x.ts.av Coef.av]) (fun _=>rfl) (fun _=>rfl) (fun _=>rfl) rfl (fun x=>by simp only [go_sem,seval]) nl cl nl' cl' es es' hb g linEq (fun x _ y _=>hg x y)
theorem c104 (hf:pg.fs 104=some cf104) (h67:pg.fs 67=some cf67) (h142:pg.fs 142=some cf142) (h106:pg.fs 106=some cf106) (a b:Shape):Ret pg 104 [a.av,b.av] (.bool (shapeEq a b)):=by
 refine Ret.ofX hf ?_
 unfold cf104
 simp only [go_sem,seval]
 cases h:decide (a.row.bs=b.row.bs)
 ·simp only [go_sem,seval]
  simp [shapeEq,h]
 ·simp only [go_sem,seval]
  refine XO_tree (c67 h67 142 (c142 h142 h106) _ _ _ _ a.dims.es b.dims.es a.dims.ok) (by simp only [go_sem,seval]) rfl ?_
  simp only [go_sem,seval]
  simp [shapeEq,h]
theorem c65 (hf:pg.fs 65=some cf65) (h104:∀ a b:Shape,Ret pg 104 [a.av,b.av] (.bool (shapeEq a b))) (a b:Typ):Ret pg 65 [a.av,b.av] (.bool (typEq a b)):=by
 refine Ret.ofX hf ?_
 unfold cf65
 simp only [go_sem,seval]
 cases h:decide (a.elem.bs=b.elem.bs)
 ·simp only [go_sem,seval]
  simp [typEq,h]
 ·simp only [go_sem,seval]
  refine XO_tree (h104 a.shape b.shape) (by simp only [go_sem,seval]) rfl ?_
  simp only [go_sem,seval]
  simp [typEq,h]
end
end Go.Tev
end
section
namespace Go.Tev
def sInt:List UInt8:=[105,110,116]
def sBool:List UInt8:=[98,111,111,108]
def sA:List UInt8:=[65]
structure Prim where
 op:List UInt8
 params:List (List UInt8)
 result:List UInt8
def primRows:List Prim:=[
 ⟨[97,100,100],[sInt,sInt],sInt⟩,⟨[115,117,98],[sInt,sInt],sInt⟩,⟨[109,117,108],[sInt,sInt],sInt⟩,⟨[100,105,118],[sInt,sInt],sInt⟩,⟨[109,111,100],[sInt,sInt],sInt⟩,
 ⟨[109,105,110],[sInt,sInt],sInt⟩,⟨[109,97,120],[sInt,sInt],sInt⟩,⟨[110,101,103],[sInt],sInt⟩,⟨[97,98,115],[sInt],sInt⟩,⟨[115,105,103,110],[sInt],sInt⟩,
 ⟨[108,116],[sInt,sInt],sBool⟩,⟨[108,101],[sInt,sInt],sBool⟩,⟨[103,116],[sInt,sInt],sBool⟩,⟨[103,101],[sInt,sInt],sBool⟩,⟨[101,113],[sA,sA],sBool⟩,⟨[110,101],[sA,sA],sBool⟩,
 ⟨[97,110,100],[sBool,sBool],sBool⟩,⟨[111,114],[sBool,sBool],sBool⟩,⟨[120,111,114],[sBool,sBool],sBool⟩,⟨[110,111,116],[sBool],sBool⟩,
 ⟨[115,101,108,101,99,116],[sBool,sA,sA],sA⟩,⟨[116,111,105,110,116],[sBool],sInt⟩]
def Prim.cells (r:Prim):List AV:=[.str r.op,.sl false (r.params.map .str) true,.str r.result]
def rowsAV:AV:=.agg (primRows.flatMap Prim.cells)
def primT (op:List UInt8):Option Prim:=primRows.find? fun r=>decide (r.op=op)
section
variable {pg:Pg}
theorem c107 (hf:pg.fs 107=some cf107) (nl cl:Bool) (es:List AV) (hel:∀ x∈es,El 1 false x) (hb:es.length≤big) (hnl:nl=true→es=[]):RetP pg 107 [.sl nl es cl] (IsSl 1 false es):=by
 refine RetP.ofX hf ?_
 unfold cf107
 simp only [go_sem,seval]
 cases nl
 ·simp only [go_sem,seval]
  refine XO_own (kb:=0) (s:=1) (bytes:=16) (es:=[]) (xs:=es) (Own.nil _ _ _ _ _ _ rfl) (by simp) hel ?_ (by decide) ?_
  ·simp only [List.length_nil,big] at *;omega
  ·intro v' rd pa ho hk hpa
   simp only [go_sem,seval]
   exact ho.conv (by simpa using hel)
 ·simp only [go_sem,seval]
  exact .inl ⟨hnl rfl,true,true,rfl,rfl⟩
theorem c177 (hf:pg.fs 177=some cf177):Ret pg 177 [] rowsAV:=
 Ret.closed (.n 177 cf177 .e .e) (by intro f cf h;have:=BT.All.find (p:=fun f cf=>pg.fs f=some cf) (t:=.n 177 cf177 .e .e) ⟨hf,trivial,trivial⟩ h;exact this) 2 (by kernel_rfl)
theorem row_at (d:List Prim) (x:Prim) (r:List Prim):partA ((d++x :: r).flatMap Prim.cells) (d.length*3) 3 true=some (.agg x.cells):=by
 have hl:∀ l:List Prim,(l.flatMap Prim.cells).length=l.length*3:=by
  intro l
  induction l with
  | nil=>rfl
  | cons y s ih=>simp [Prim.cells,ih];omega
 rw [partA_agg,if_pos (by rw [hl];simp;omega)]
 rw [List.flatMap_append,List.drop_append_of_le_length (by rw [hl];omega),List.drop_eq_nil_of_le (by rw [hl];omega),List.nil_append]
 rw [List.flatMap_cons]
 have:x.cells.length=3:=rfl
 rw [← this,List.take_left]
def PrimR (op:List UInt8) (r:AV):Prop:=
 match primT op with
 | none=>r = .tup [.sl true [] true,.str [],.bool false]
 | some p=>∃ nl cl,r = .tup [.sl nl (p.params.map .str) cl,.str p.result,.bool true]
theorem c140 (hf:pg.fs 140=some cf140) (h177:pg.fs 177=some cf177) (h107:pg.fs 107=some cf107) (op:List UInt8):RetP pg 140 [.str op] (PrimR op):=by
 refine RetP.ofX hf ?_
 unfold cf140
 simp only [go_sem,seval]
 refine XO_tree (c177 h177) (by simp only [go_sem,seval]) rfl ?_
 simp only [go_sem,seval]
 have h22:(22:Int)=primRows.length:=rfl
 refine XX_listU primRows (fun d e=>setD e (some 8) (.int .i64 d.length)) (fun d r hp=>primT op=r.find? fun x=>decide (x.op=op)) rfl ?_ ?_ ?_
 ·rfl
 ·intro hp hI
  simp only [cf140L0,cf140M0,← h22,go_sem,seval]
  simp [PrimR,hI]
 ·intro d x r hp hes hI
  have hlt:decide ((d.length:Int) < 22)=true:=by rw [h22,hes];exact ltMid d x r
  have hlt':((d.length:Int) < 22)=True:=by simpa using hlt
  have hpa:partA (primRows.flatMap Prim.cells) (d.length*3) 3 true=some (.agg x.cells):=by rw [hes];exact row_at d x r
  have hb:(d++x :: r).length≤big:=by rw [← hes];decide
  have hlt'':((d.length:Int) < ((22:Nat):Int))=True:=by simpa using hlt
  simp only [cf140L0,cf140M0,rowsAV,hlt,hlt',hlt'',hpa,Prim.cells,go_sem,seval]
  cases hx:decide (x.op=op)
  ·simp only [wr_mid hb,go_sem,seval]
   simpa [List.find?_cons,hx] using hI
  ·simp only [go_sem,seval]
   have hel:∀ y∈x.params.map AV.str,El 1 false y:=by
    intro y hy
    simp only [List.mem_map] at hy
    obtain ⟨z,_,rfl⟩:=hy
    exact El.str z
   have hI':primT op=some x:=by simpa [List.find?_cons,hx] using hI
   refine XO_slO' (c107 h107 false true (x.params.map .str) hel ?_ (by simp)) ?_ hel ?_ ?_
   ·have:∀ y∈primRows,y.params.length≤big:=by decide
    simpa using this x (by rw [hes];simp)
   ·simp only [treeL,tree_sl,Bool.and_true]
    exact treeL_map (f:=AV.str) (fun _=>rfl) x.params
   ·intro hnil nl cl _
    simp only [go_sem,seval]
    refine And.intro (by kernel_rfl) ?_
    simp only [PrimR,hI']
    exact ⟨nl,cl,by rw [hnil]⟩
   ·intro cs hcs hch
    simp only [go_sem,seval]
    refine And.intro (by kernel_rfl) ?_
    have htr:treeL (x.params.map AV.str)=true:=treeL_map (f:=AV.str) (fun _=>rfl) x.params
    have hms:∀ h,mapS (snap 62 h) (x.params.map AV.str)=some (x.params.map AV.str,[]):=fun h=>mapS_tree 61 h htr
    have hch':chunk 1 false x.params.length cs=some (x.params.map AV.str):=by simpa using hch
    simp only [hms,hch',PrimR,hI',conv,depth,snapX,mapS_nil,mapS_cons,go_sem,seval]
    exact ⟨false,_,rfl⟩
def elemOKi (n:Int):Bool:=decide (-2147483648≤n)&&decide (n≤2147483647)
def elemOKb (n:Int):Bool:=decide (n=0)||decide (n=1)
theorem c148i (hf:pg.fs 148=some cf148) (n:Int):Ret pg 148 [.str [105,110,116],.int .i64 n] (.bool (elemOKi n)):=by
 refine Ret.ofX hf ?_
 unfold cf148
 repeat' (first | simp only [*,go_sem,seval] | refine XG_split (fun _=>?_) (fun _=>?_) | refine XC_split (fun _=>?_) (fun _=>?_) | refine And.intro (by kernel_rfl) ?_)
 all_goals simp [elemOKi, *]
theorem c148b (hf:pg.fs 148=some cf148) (n:Int):Ret pg 148 [.str [98,111,111,108],.int .i64 n] (.bool (elemOKb n)):=by
 refine Ret.ofX hf ?_
 unfold cf148
 simp only [go_sem,seval]
 simp only [show decide (([98,111,111,108]:List UInt8)=[105,110,116])=false by decide]
 repeat' (first | simp only [*,go_sem,seval] | refine XG_split (fun _=>?_) (fun _=>?_) | refine XC_split (fun _=>?_) (fun _=>?_) | refine And.intro (by kernel_rfl) ?_)
 all_goals simp [elemOKb, *]
def argsOK (l:List Int) (n:Int):Bool:=l.all fun a=>decide (0≤a)&&decide (a < n)
def stepOK (s:Step) (n:Int):Bool:=
 if s.op.bs=[99,111,110,115,116] then decide ((s.args.es.length:Int)=0)&&elemOKi s.num
 else if s.op.bs=[116,114,117,116,104] then decide ((s.args.es.length:Int)=0)&&elemOKb s.num
 else match primT s.op.bs with
  | none=>false
  | some p=>argsOK s.args.es n&&decide (s.num=0)&&decide ((s.args.es.length:Int)=(p.params.length:Int))
theorem c111 (hf:pg.fs 111=some cf111) (h148:pg.fs 148=some cf148) (h140:∀ op,RetP pg 140 [.str op] (PrimR op)) (s:Step) (n:Int):Ret pg 111 [s.av,.int .i64 n] (.bool (stepOK s n)):=by
 refine Ret.ofX hf ?_
 have hb:=s.args.ok
 unfold cf111
 simp only [go_sem,seval]
 cases h1:decide (s.op.bs=[99,111,110,115,116])
 case true=>
  simp only [go_sem,seval]
  cases h2:decide ((s.args.es.length:Int)=0)
  ·simp only [h2,go_sem,seval]
   simp at h1 h2
   simp [stepOK,h1,h2]
  ·simp only [h2,go_sem,seval]
   refine XO_tree (c148i h148 s.num) (by simp only [go_sem,seval]) rfl ?_
   simp only [go_sem,seval]
   simp at h1 h2
   simp [stepOK,h1,h2]
 simp only [go_sem,seval]
 cases h3:decide (s.op.bs=[116,114,117,116,104])
 case true=>
  simp only [go_sem,seval]
  cases h2:decide ((s.args.es.length:Int)=0)
  ·simp only [h2,go_sem,seval]
   simp at h1 h2 h3
   simp [stepOK,h1,h2,h3]
  ·simp only [h2,go_sem,seval]
   refine XO_tree (c148b h148 s.num) (by simp only [go_sem,seval]) rfl ?_
   simp only [go_sem,seval]
   simp at h1 h2 h3
   simp [stepOK,h1,h2,h3]
 simp only [go_sem,seval]
 obtain ⟨r,hr,hP⟩:=h140 s.op.bs
 have hspec:stepOK s n=match primT s.op.bs with
  | none=>false
  | some p=>argsOK s.args.es n&&decide (s.num=0)&&decide ((s.args.es.length:Int)=(p.params.length:Int)):=by
  simp at h1 h3
  simp [stepOK,h1,h3]
 generalize stepOK s n=res at hspec ⊢
 obtain ⟨nl,cl,ps,rs,ok,rfl,hres⟩:∃ nl cl,∃ ps:List (List UInt8),∃ rs ok,r = .tup [.sl nl (ps.map .str) cl,.str rs,.bool ok]∧res=(ok&&argsOK s.args.es n&&decide (s.num=0)&&decide ((s.args.es.length:Int)=(ps.length:Int))):=by
  unfold PrimR at hP
  cases hp:primT s.op.bs with
  | none=>
   rw [hp] at hP hspec
   exact ⟨_,_,[],_,_,hP,by simp [hspec]⟩
  | some p=>
   rw [hp] at hP hspec
   obtain ⟨nl,cl,hP⟩:=hP
   exact ⟨_,_,p.params,_,_,hP,by simp [hspec]⟩
 refine XO_tree hr (by simp only [go_sem,seval]) rfl ?_
 simp only [go_sem,seval]
 refine XX_listU s.args.es (fun d e=>setD (setD e (some 44) (.int .i64 d.length)) (some 7) (.bool (ok&&argsOK d n))) (fun d r hp=>(∃ fz,hp.get 1=some (0,.blk [.str s.op.bs,.int .i64 s.num,.sl s.args.nl (s.args.es.map intA) s.args.cl] 3 true true fz)))
  (by have h0:(ok&&argsOK [] n)=ok:=by simp [argsOK]
      rw [h0];rfl) ?_ ?_ ?_
 ·exact ⟨_,rfl⟩
 ·rintro hp ⟨fz,h1⟩
  simp only [cf111L0,cf111M0,go_sem,seval]
  cases h4:ok&&argsOK s.args.es n
  ·simp only [h4,h1,go_sem,seval]
   simp [hres,h4]
  cases h5:decide (s.num=0)
  ·simp only [h1,h5,go_sem,seval]
   simp [hres,h4,h5]
  simp only [h1,h5,go_sem,seval]
  simp [hres,h4,h5]
 ·rintro d x r hp hes ⟨fz,h1⟩
  rw [hes] at hb h1 ⊢
  have hx:(ok&&argsOK (d++[x]) n)=((ok&&argsOK d n)&&(decide (0≤x)&&decide (x < n))):=by simp [argsOK,Bool.and_assoc]
  rw [hx]
  cases hA:(ok&&argsOK d n)<;>cases hB:decide (0≤x)<;>cases hC:decide (x < n)
  all_goals simp only [cf111L0,cf111M0,hA,hB,hC,wr_mid hb,go_sem,seval]
  all_goals exact ⟨fz,h1⟩
end
end Go.Tev
end
