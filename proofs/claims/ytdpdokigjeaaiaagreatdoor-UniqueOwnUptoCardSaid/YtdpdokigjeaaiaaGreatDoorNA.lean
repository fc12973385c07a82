import Derived.Test.YtdpdokigjeaaiaaGreatDoorData
import Derived.Test.YtdpdokigjeaaiaaGreatDoorTabC
import Derived.Test.YtdpdokigjeaaiaaGreatDoorTabD
set_option linter.all false
section
namespace Go.Tev
def idxFM:List Bool:=[true,true,false,false,false,false,false,true,true,false,false,false,false,false,false,false,false,false,false]
def idxFL (esz:Nat) (ag:Bool):C:=
 (.seq (.reg [⟨(some 9),(.bin .lss),[.t 8,.t 7],none,0,0⟩] false)
 (.seq (.cond (.t 9) .skip
  (.exit 0))
 (.seq (.block 1 (.seq (.reg [⟨(some 10),.mov,[.t 8],none,0,0⟩,
  ⟨(some 5),.mov,[.t 10],none,0,0⟩] false)
 (.seq (.reg [⟨(some 11),.mov,[.t 1],none,0,0⟩,
  ⟨(some 12),.mov,[.t 0],none,0,0⟩,
  ⟨(some 13),.mov,[.t 5],none,0,0⟩,
  ⟨(some 14),(.iad esz ag none),[.t 12,.t 13],none,0,0⟩,
  ⟨(some 15),(.load esz ag),[.t 14],none,0,0⟩,
  ⟨(some 16),(.callv false false),[.t 11,.t 15],none,0,1⟩] false)
 (.cond (.t 16) (.seq (.reg [⟨(some 17),.mov,[.t 5],none,0,0⟩,
   ⟨(some 4),.mov,[.t 17],none,0,0⟩] false)
  .ret)
  .skip))))
 (.reg [⟨(some 18),(.bin .add),[.t 8,.c (.int .i64 1)],none,0,0⟩,
  ⟨(some 8),.mov,[.t 18],none,0,0⟩] false))))
def idxF (esz:Nat) (ag:Bool):CF:=⟨2,19,[.inl 4],
 (.seq (.reg [⟨(some 4),.mov,[.c (.int .i64 0)],none,0,0⟩] false)
 (.seq (.seq (.reg [⟨(some 6),.mov,[.t 0],none,0,0⟩,
  ⟨(some 7),(.len 1),[.t 6],none,0,0⟩,
  ⟨(some 8),.mov,[.c (.int .i64 0)],none,0,0⟩] false)
 (.block 0 (.loop (idxFL esz ag) idxFM)))
 (.seq (.reg [⟨(some 4),.mov,[.c (.int .i64 (-1))],none,0,0⟩] false)
 .ret)))⟩
def conF (n:Nat):CF:=⟨2,9,[.inl 4],
 (.seq (.reg [⟨(some 4),.mov,[.c (.bool false)],none,0,0⟩] false)
 (.seq (.reg [⟨(some 5),.mov,[.t 0],none,0,0⟩,
  ⟨(some 6),.mov,[.t 1],none,0,0⟩,
  ⟨(some 7),(.call n false false),[.t 5,.t 6],none,0,1⟩,
  ⟨(some 8),(.bin .geq),[.t 7,.c (.int .i64 0)],none,0,0⟩,
  ⟨(some 4),.mov,[.t 8],none,0,0⟩] false)
 .ret))⟩
def eqVM:List Bool:=[true,true,false,false,false,false,false,false,false,false,false,false,true,true,false,false,false,false,false,false,false,false,false,false,false,false]
def eqVL (esz:Nat) (ag:Bool) (k:K):C:=
 (.seq (.reg [⟨(some 14),(.bin .lss),[.t 13,.t 12],none,0,0⟩] false)
 (.seq (.cond (.t 14) .skip
  (.exit 0))
 (.seq (.block 1 (.seq (.reg [⟨(some 15),.mov,[.t 13],none,0,0⟩,
  ⟨(some 5),.mov,[.t 15],none,0,0⟩] false)
 (.seq (.reg [⟨(some 16),.mov,[.t 0],none,0,0⟩,
  ⟨(some 17),.mov,[.t 5],none,0,0⟩,
  ⟨(some 18),(.iad esz ag none),[.t 16,.t 17],none,3,0⟩,
  ⟨(some 19),(.load esz ag),[.t 18],none,7,0⟩,
  ⟨(some 20),.mov,[.t 1],none,0,0⟩,
  ⟨(some 21),.mov,[.t 5],none,0,0⟩,
  ⟨(some 22),(.iad esz ag none),[.t 20,.t 21],none,48,0⟩,
  ⟨(some 23),(.load esz ag),[.t 22],none,112,0⟩,
  ⟨(some 24),k,[.t 19,.t 23],none,255,0⟩] true)
 (.cond (.t 24) (.seq (.reg [⟨(some 4),.mov,[.c (.bool false)],none,0,0⟩] false)
  .ret)
  .skip))))
 (.reg [⟨(some 25),(.bin .add),[.t 13,.c (.int .i64 1)],none,0,0⟩,
  ⟨(some 13),.mov,[.t 25],none,0,0⟩] false))))
def eqV (esz:Nat) (ag:Bool) (k:K):CF:=⟨2,26,[.inl 4],
 (.seq (.reg [⟨(some 4),.mov,[.c (.bool false)],none,0,0⟩] false)
 (.seq (.seq (.reg [⟨(some 6),.mov,[.t 0],none,0,0⟩,
  ⟨(some 7),(.len 1),[.t 6],none,0,0⟩,
  ⟨(some 8),.mov,[.t 1],none,0,0⟩,
  ⟨(some 9),(.len 1),[.t 8],none,0,0⟩,
  ⟨(some 10),(.bin .neq),[.t 7,.t 9],none,0,0⟩] false)
 (.cond (.t 10) (.seq (.reg [⟨(some 4),.mov,[.c (.bool false)],none,0,0⟩] false)
  .ret)
  .skip))
 (.seq (.seq (.reg [⟨(some 11),.mov,[.t 0],none,0,0⟩,
  ⟨(some 12),(.len 1),[.t 11],none,0,0⟩,
  ⟨(some 13),.mov,[.c (.int .i64 0)],none,0,0⟩] false)
 (.block 0 (.loop (eqVL esz ag k) eqVM)))
 (.seq (.reg [⟨(some 4),.mov,[.c (.bool true)],none,0,0⟩] false)
 .ret))))⟩
section
variable {pg:Pg}
theorem idxF_ok {f:Nat} {esz:Nat} {ag:Bool} (hf:pg.fs f=some (idxF esz ag)) {α : Type} (enc : α → AV) (hfit:∀ x,(enc x).fits esz ag=true) (htree:∀ x,(enc x).tree=true)
  (nl cl:Bool) (es:List α) (hb:es.length≤big) (g:Nat) (cs:List AV) (hcs:treeL cs=true) (p : α → Bool) (hp:∀ x∈es,Ret pg g (enc x :: cs) (.bool (p x))) :
  RetP pg f [.sl nl (es.map enc) cl,.fn g cs] (fun r=>∃ i:Int,r = .int .i64 i∧decide (0≤i)=es.any p):=by
 refine RetP.ofX hf ?_
 unfold idxF
 simp only [go_sem,seval]
 refine XX_listU es (fun d e=>setD e (some 8) (.int .i64 d.length)) (fun d r hp=>es.any p=r.any p) rfl ?_ ?_ ?_
 ·rfl
 ·intro hp' hI
  simp only [idxFL,idxFM,go_sem,seval]
  simp [hI]
 ·intro d x r hp' hes hI
  subst hes
  simp only [idxFL,idxFM,hfit,go_sem,seval]
  refine XO_tree (hp x (by simp)) (by simp only [treeL,htree,hcs,List.cons_append,List.nil_append,Bool.and_true]) rfl ?_
  simp only [go_sem,seval]
  cases hx:p x
  ·simp only [wr_mid hb,go_sem,seval]
   simpa [hx] using hI
  ·simp only [go_sem,seval]
   simp [hx]
theorem conF_ok {f n:Nat} (hf:pg.fs f=some (conF n)) {a b:AV} {q:Bool} (ha:treeL [a,b]=true) (h:RetP pg n [a,b] (fun r=>∃ i:Int,r = .int .i64 i∧decide (0≤i)=q)) :
  Ret pg f [a,b] (.bool q):=by
 obtain ⟨_,h,i,rfl,hi⟩:=h
 refine Ret.ofX hf ?_
 unfold conF
 simp only [go_sem,seval]
 refine XO_tree h ha rfl ?_
 simp only [go_sem,seval]
 exact hi
def eqL {α β : Type} (q : α → β → Bool):List α → List β → Bool
 | [],[]=>true
 | x :: r,y :: s=>q x y&&eqL q r s
 | _,_=>false
theorem eqL_len {α β : Type} {q : α → β → Bool}:∀ {a:List α} {b:List β},eqL q a b=true→a.length=b.length
 | [],[],_=>rfl
 | x :: r,y :: s,h=>by simp only [eqL,Bool.and_eq_true] at h;simp [eqL_len h.2]
 | [],_ :: _,h=>by simp [eqL] at h
 | _ :: _,[],h=>by simp [eqL] at h
theorem eqV_ok {f:Nat} {esz:Nat} {ag:Bool} {k:K} (hf:pg.fs f=some (eqV esz ag k)) {α : Type} (enc : α → AV) (hfit:∀ x,(enc x).fits esz ag=true)
  (nl cl nl' cl':Bool) (es es':List α) (hb:es.length≤big) (q : α → α → Bool)
  (hk:∀ (kb s:Nat) (h:Hp) (x y : α) (Q:AV→Eff→Prop) (t:Tok Q),XO pg kb k s h [enc x,enc y] Q t=Q (.bool (!q x y)) (.pat [] [])) (hnc:k.isCall=false) :
  Ret pg f [.sl nl (es.map enc) cl,.sl nl' (es'.map enc) cl'] (.bool (eqL q es es')):=by
 refine Ret.ofX hf ?_
 unfold eqV
 simp only [go_sem,seval]
 cases hl:decide ((es.length:Int)=es'.length)
 case false=>
  simp only [hl,go_sem,seval]
  cases he:eqL q es es'
  ·rfl
  ·exact absurd (congrArg Int.ofNat (eqL_len he)) (by simpa using hl)
 simp only [hl,go_sem,seval]
 have hl':es.length=es'.length:=by simp at hl;omega
 refine XX_listU es (fun d e=>setD e (some 13) (.int .i64 d.length)) (fun d r hp=>∃ d2 r2,es'=d2++r2∧d2.length=d.length∧eqL q es es'=eqL q r r2) rfl ?_ ?_ ?_
 ·exact ⟨[],es',rfl,rfl,rfl⟩
 ·rintro hp ⟨d2,r2,h1,h2,h3⟩
  simp only [eqVL,eqVM,go_sem,seval]
  rw [h3]
  have:r2=[]:=by
   have:=congrArg List.length h1
   simp at this
   exact List.eq_nil_of_length_eq_zero (by omega)
  subst this
  rfl
 ·rintro d x r hp hes ⟨d2,r2,h1,h2,h3⟩
  have hlen:r2.length=(x :: r).length:=by
   have e1:=congrArg List.length h1
   have e2:=congrArg List.length hes
   simp at e1 e2 ⊢
   omega
  obtain ⟨y,r2,rfl⟩:∃ y s,r2=y :: s:=by
   cases r2 with
   | nil=>simp at hlen
   | cons y s=>exact ⟨y,s,rfl⟩
  have hy:es'[d.length]?=some y:=by rw [h1,← h2];simp
  subst hes
  simp only [eqVL,eqVM,hfit,hy,hk,go_sem,seval]
  refine And.intro (by kernel_rfl) ?_
  cases hx:q x y
  ·simp only [go_sem,seval]
   rw [h3]
   simp [eqL,hx]
  ·simp only [wr_mid hb,go_sem,seval]
   exact ⟨d2++[y],r2,by simp [h1],by simp [h2],by simpa [eqL,hx] using h3⟩
end
end Go.Tev
end
section
namespace Go.Tev
structure El (esz:Nat) (ag:Bool) (v:AV):Prop where
 fits:v.fits esz ag=true
 one:allOne v.cells=true
 tree:v.tree=true
theorem El.len {esz:Nat} {ag:Bool} {v:AV} (h:El esz ag v):v.cells.length=esz:=by
 have:=h.fits
 cases v<;>simp [AV.fits,AV.cells] at this ⊢ <;> first | exact this.2 | exact this.2.symm | omega
theorem El.isAgg {esz:Nat} {ag:Bool} {v:AV} (h:El esz ag v):v.isAgg=ag:=by
 have:=h.fits
 cases v<;>cases ag<;>simp [AV.fits,AV.isAgg] at this ⊢
theorem chunk_el {esz:Nat} {ag:Bool}:∀ {es:List AV},(∀ x∈es,El esz ag x)→∃ cs,unchunk esz ag es=some cs∧cs.length=es.length*esz∧allOne cs=true∧∀ tl,chunk esz ag es.length (cs++tl)=some es
 | [],_=>⟨[],rfl,by simp,rfl,fun _=>rfl⟩
 | x :: r,h=>by
  obtain ⟨cs,h1,h2,h3,h4⟩:=chunk_el (fun y hy=>h y (List.mem_cons_of_mem _ hy))
  have hx:=h x (by simp)
  have hl:=hx.len
  refine ⟨x.cells++cs,?_,?_,?_,?_⟩
  ·simp [unchunk,hx.fits,hx.one,h1]
  ·simp [h2,hl,Nat.add_mul];omega
  ·have happ:∀ (p q:List AV),allOne p=true→allOne q=true→allOne (p++q)=true:=by
    intro p q hp hq
    induction p with
    | nil=>exact hq
    | cons y s ih=>simp only [allOne,Bool.and_eq_true,List.cons_append] at hp ⊢;exact ⟨hp.1,ih hp.2⟩
   exact happ _ _ hx.one h3
  ·intro tl
   have hag:=hx.isAgg
   cases ag with
   | true=>
    obtain ⟨c,rfl⟩:∃ c,x = .agg c:=by cases x<;>simp [AV.isAgg] at hag;exact ⟨_,rfl⟩
    simp only [AV.cells] at hl
    simp only [List.length_cons,chunk,AV.cells,if_true,List.append_assoc]
    rw [if_neg (by simp [hl])]
    rw [← hl]
    simp only [List.drop_left,List.take_left]
    rw [hl,h4 tl];rfl
   | false=>
    have hc:x.cells=[x]:=by cases x<;>simp [AV.isAgg] at hag<;>rfl
    have he:esz=1:=by rw [hc] at hl;simpa using hl.symm
    subst he
    simp only [List.length_cons,chunk,hc,Bool.false_eq_true,if_false,List.cons_append,List.nil_append,hag,h4 tl]
    rfl
theorem snaps_el {h:Hp} {esz:Nat} {ag:Bool} {es:List AV} (he:∀ x∈es,El esz ag x):mapS (snap depth h) es=some (es,[]):=by
 refine mapS_tree 63 h ?_
 induction es with
 | nil=>rfl
 | cons x r ih=>simp only [treeL,Bool.and_eq_true];exact ⟨(he x (by simp)).tree,ih (fun y hy=>he y (List.mem_cons_of_mem _ hy))⟩
def Own (h:Hp) (k0 esz:Nat) (ag:Bool) (v:AV) (es:List AV):Prop:=
 (es=[]∧∃ nl cl,v = .sl nl [] cl∧(nl||cl)=true) ∨
 (∃ e cs,v = .rf k0 e 0 es.length es.length∧h.get k0=some (e,.blk cs esz ag false false)∧unchunk esz ag es=some cs)
theorem Own.mono {h h':Hp} {k0 esz:Nat} {ag:Bool} {v:AV} {es:List AV} (o:Own h k0 esz ag v es) (hh:h'.get k0=h.get k0):Own h' k0 esz ag v es:=by
 rcases o with o | ⟨e,cs,h2,h3,h4⟩
 ·exact .inl o
 ·exact .inr ⟨e,cs,h2,by rw [hh];exact h3,h4⟩
theorem Own.nil (h:Hp) (k0 esz:Nat) (ag:Bool) (nl cl:Bool) (hc:(nl||cl)=true):Own h k0 esz ag (.sl nl [] cl) []:=.inl ⟨rfl,nl,cl,rfl,hc⟩
def IsSl (esz:Nat) (ag:Bool) (es:List AV) (r:AV):Prop:=
 (es=[]∧∃ nl cl,r = .sl nl [] cl∧(nl||cl)=true)∨r = .os es esz ag
theorem Own.conv {h:Hp} {k0 esz:Nat} {ag:Bool} {v:AV} {es:List AV} (o:Own h k0 esz ag v es) (he:∀ x∈es,El esz ag x):∃ r,Tev.conv h v=some r∧IsSl esz ag es r:=by
 rcases o with ⟨rfl,nl,cl,rfl,hc⟩ | ⟨e,cs,rfl,hg,hu⟩
 ·exact ⟨.sl nl [] cl,conv_tree rfl,.inl ⟨rfl,nl,cl,rfl,hc⟩⟩
 ·obtain ⟨cs',h1,h2,h3,h4⟩:=chunk_el he
  rw [hu] at h1
  cases h1
  have h5:=h4 []
  rw [List.append_nil] at h5
  refine ⟨.os es esz ag,?_,.inr rfl⟩
  simp [Tev.conv,hg,h5,snaps_el he]
section
variable {pg:Pg} {kb:Nat}
theorem XO_sl {f s esz:Nat} {ag:Bool} {h:Hp} {vs es:List AV} {Q:AV→Eff→Prop} {t:Tok Q} (hr:RetP pg f vs (IsSl esz ag es)) (hm:treeL vs=true)
  (q:∀ nl cl,(nl=true→es=[])→Q (.sl nl es cl) (.pat [kb+s] [])):XO pg kb (.call f false false) s h vs Q t:=by
 obtain ⟨r,hr,⟨rfl,nl,cl,rfl,hc⟩ | rfl⟩:=hr
 ·exact XO_tree hr hm rfl (q nl cl (fun _=>rfl))
 ·refine XO_call hr (mapS_tree 63 h hm) (v:=.sl false es false) (pa:=[]) rfl ?_
  have:(if (AV.os es esz ag).flat then ([]:List Ent) else freezeK h [])++[]=[]:=by split<;>rfl
  rw [this]
  exact q false false (fun h=>by cases h)
theorem XO_slO' {f s esz:Nat} {ag:Bool} {h:Hp} {vs es:List AV} {Q:AV→Eff→Prop} {t:Tok Q} (hr:RetP pg f vs (IsSl esz ag es)) (hm:treeL vs=true) (he:∀ x∈es,El esz ag x)
  (q1:es=[]→∀ nl cl,(nl||cl)=true→Q (.sl nl [] cl) (.pat [kb+s] []))
  (q2:∀ cs,unchunk esz ag es=some cs→chunk esz ag es.length cs=some es→Q (.rf (kb+s) (h.next (kb+s)) 0 es.length es.length) (.pat [kb+s] [⟨kb+s,h.next (kb+s),.blk cs esz ag false false⟩])):XO pg kb (.call f true false) s h vs Q t:=by
 obtain ⟨r,hr,⟨rfl,nl,cl,rfl,hc⟩ | rfl⟩:=hr
 ·exact XO_tree hr hm rfl (q1 rfl nl cl hc)
 ·obtain ⟨cs,c1,c2,_,c4⟩:=chunk_el he
  refine XO_call hr (mapS_tree 63 h hm) (v:=.rf (kb+s) (h.next (kb+s)) 0 es.length es.length) (pa:=[⟨kb+s,h.next (kb+s),.blk cs esz ag false false⟩]) (by simp [receive,c1]) ?_
  have:(if (AV.os es esz ag).flat then ([]:List Ent) else freezeK h [])=[]:=by split<;>rfl
  rw [this,List.nil_append]
  exact q2 cs c1 (by simpa using c4 [])
end
end Go.Tev
end
section
namespace Go.Tev
def digit (c:UInt8):Bool:=decide (48≤c.toNat)&&decide (c.toNat≤57)
def letter (c:UInt8):Bool:=decide (97≤c.toNat)&&decide (c.toNat≤122)
def nameU (s:List UInt8):Bool:=
 match s with
 | []=>false
 | c :: t=>decide (s.length≤30)&&(if c=95 then decide (2≤s.length)&&decide (s.length≤10) && !decide (t.head?=some 48)&&t.all digit else letter c&&t.all (fun x=>letter x||digit x))
def elemVarU (s:List UInt8):Bool:=
 match s with
 | []=>false
 | c :: t=>decide (s.length≤30)&&(decide (65≤c.toNat)&&decide (c.toNat≤90))&&t.all digit
def loopN' (i:Nat):List UInt8:=[105,UInt8.ofNat (48+i)]
def coefOK (n:Int):Bool:=decide (-1000000≤n)&&decide (n≤1000000)
def termsOK (p:List Coef):List Coef→Bool
 | []=>true
 | x :: r=>nameU x.v.bs && !decide (x.c=0)&&coefOK x.c&&(match p.getLast? with | none=>true | some q=>Op.bytesLess q.v.bs x.v.bs)&&termsOK (p++[x]) r
def linOK (l:Lin):Bool:=termsOK [] l.ts.es&&coefOK l.c&&decide ((l.ts.es.length:Int)≤12)
section
variable {pg:Pg}
theorem c89 (hf:pg.fs 89=some cf89) (n:Int):Ret pg 89 [.int .i64 n] (.bool (coefOK n)):=by
 refine Ret.ofX hf ?_
 unfold cf89
 repeat' (first | simp only [*,go_sem,seval] | refine XG_split (fun _=>?_) (fun _=>?_) | refine XC_split (fun _=>?_) (fun _=>?_) | refine And.intro (by kernel_rfl) ?_)
 all_goals simp [coefOK, *]
theorem c51 (hf:pg.fs 51=some cf51) (h89:pg.fs 89=some cf89) (h57:∀ s:Str,Ret pg 57 [.str s.bs] (.bool (nameU s.bs))) (l:Lin):Ret pg 51 [l.av] (.bool (linOK l)):=by
 refine Ret.ofX hf ?_
 unfold cf51
 simp only [go_sem,seval]
 refine XX_list l.ts.es (fun d r env hp=>hp.get 1=some (0,.blk [.int .i64 l.c,.sl l.ts.nl (l.ts.es.map Coef.av) l.ts.cl] 2 true true false) ∧
  env=cf51E0 (.pt 1 0 0) (.sl l.ts.nl (l.ts.es.map Coef.av) l.ts.cl) (.int .i64 l.ts.es.length) (.int .i64 d.length)∧linOK l=(termsOK d r&&coefOK l.c&&decide ((l.ts.es.length:Int)≤12))) ?_ ?_ ?_
 ·exact ⟨rfl,rfl,rfl⟩
 ·rintro env hp ⟨h1,rfl,hq⟩
  unfold cf51L0 cf51E0
  simp only [Int.lt_irrefl,h1,go_sem,seval]
  refine XO_tree (c89 h89 _) (by simp only [go_sem,seval]) rfl ?_
  simp only [h1,go_sem,seval]
  simp only [termsOK] at hq
  cases h9:coefOK l.c
  ·simp only [go_sem,seval]
   simp [hq,h9]
  ·simp only [h1,go_sem,seval]
   simp [hq,h9]
 ·rintro d x r env hp hes ⟨h1,rfl,hq⟩
  have hb:=l.ts.ok
  rw [hes] at hb h1 hq ⊢
  unfold cf51L0 cf51E0
  simp only [go_sem,seval]
  refine XO_tree (h57 x.v) (by simp only [go_sem,seval]) rfl ?_
  simp only [termsOK] at hq
  simp only [go_sem,seval]
  cases hn:nameU x.v.bs
  ·simp only [go_sem,seval]
   refine And.intro (by kernel_rfl) ?_
   simp [hq,hn]
  cases hc:decide (x.c=0)
  case true=>
   simp only [hc,go_sem,seval]
   refine And.intro (by kernel_rfl) ?_
   simp [hq,hc]
  simp only [hc,go_sem,seval]
  refine XO_tree (c89 h89 x.c) (by simp only [go_sem,seval]) rfl ?_
  simp only [go_sem,seval]
  cases h9:coefOK x.c
  ·simp only [go_sem,seval]
   refine And.intro (by kernel_rfl) ?_
   simp [hq,h9]
  cases hd:decide (0 < (d.length:Int))
  ·simp only [hd,wr_mid hb,go_sem,seval]
   refine And.intro (by kernel_rfl) ⟨h1,rfl,?_⟩
   have:d=[]:=by cases d<;>simp_all<;>omega
   subst this
   simp [hq,h9,hc,hn]
  ·obtain ⟨d',y,rfl⟩:∃ d' y,d=d'++[y]:=by
    rcases List.eq_nil_or_concat d with rfl | ⟨d',y,h⟩
    ·simp at hd
    ·exact ⟨d',y,by simpa using h⟩
   have hy:(d'++[y]++x :: r)[(wr .i64 (((d'++[y]).length:Int) - 1)).toNat]?=some y:=by
    have:wr .i64 (((d'++[y]).length:Int) - 1)=(d'.length:Int):=by
     simp only [List.length_append,List.length_cons,List.length_nil,big] at *
     rw [wr_small (by omega) (by omega)];omega
    rw [this];simp
   have hy0:(0≤wr .i64 (((d'++[y]).length:Int) - 1))=True:=by
    have:wr .i64 (((d'++[y]).length:Int) - 1)=(d'.length:Int):=by
     simp only [List.length_append,List.length_cons,List.length_nil,big] at *
     rw [wr_small (by omega) (by omega)];omega
    rw [this];simp
   simp only [hd,h1,hy,hy0,go_sem,seval]
   cases hl:Op.bytesLess y.v.bs x.v.bs
   ·simp only [go_sem,seval]
    refine And.intro (by kernel_rfl) ?_
    simp [hq,hl]
   ·simp only [wr_mid hb,go_sem,seval]
    refine And.intro (by kernel_rfl) ⟨h1,rfl,?_⟩
    simp [hq,h9,hc,hn,hl]
theorem El.str (s:List UInt8):El 1 false (.str s):=⟨rfl,rfl,rfl⟩
theorem El.int (n:Int):El 1 false (.int .i64 n):=⟨rfl,rfl,rfl⟩
theorem El.bool (b:Bool):El 1 false (.bool b):=⟨rfl,rfl,rfl⟩
def hasS (vars:List Str) (v:List UInt8):Bool:=vars.any (fun s=>decide (v=s.bs))
def overOK (ls:List Lin) (vars:List Str):Bool:=ls.all fun l=>linOK l&&l.ts.es.all fun x=>hasS vars x.v.bs
def coefEq (x y:Coef):Bool:=decide (x.v.bs=y.v.bs)&&decide (x.c=y.c)
def linEq (a b:Lin):Bool:=decide (a.c=b.c)&&eqL coefEq a.ts.es b.ts.es
def shapeEq (a b:Shape):Bool:=decide (a.row.bs=b.row.bs)&&eqL linEq a.dims.es b.dims.es
def typEq (a b:Typ):Bool:=decide (a.elem.bs=b.elem.bs)&&shapeEq a.shape b.shape
theorem c106 (hf:pg.fs 106=some cf106) (nl cl nl' cl':Bool) (es es':List Coef) (hb:es.length≤big):Ret pg 106 [.sl nl (es.map Coef.av) cl,.sl nl' (es'.map Coef.av) cl'] (.bool (eqL coefEq es es')):=
 eqV_ok (f:=106) (k:=.eqs true [1,0]) hf Coef.av (fun _=>by simp only [go_sem,seval]) nl cl nl' cl' es es' hb coefEq (by intro kb s h x y Q t;simp only [go_sem,seval];simp [coefEq]) rfl
theorem c143 (hf:pg.fs 143=some cf143) (h106:pg.fs 106=some cf106) (a b:Lin):Ret pg 143 [a.av,b.av] (.bool (linEq a b)):=by
 refine Ret.ofX hf ?_
 unfold cf143
 simp only [go_sem,seval]
 cases h:decide (a.c=b.c)
 ·simp only [go_sem,seval]
  simp [linEq,h]
 ·simp only [go_sem,seval]
  refine XO_tree (c106 h106 _ _ _ _ a.ts.es b.ts.es a.ts.ok) (by simp only [go_sem,seval]) rfl ?_
  simp only [go_sem,seval]
  simp [linEq,h]
end
end Go.Tev
end
section
namespace Go.Tev
def sInt:List UInt8:=[105,110,116]
def sBool:List UInt8:=[98,111,111,108]
def sA:List UInt8:=[65]
structure Prim where
 op:List UInt8
 params:List (List UInt8)
 result:List UInt8
def primRows:List Prim:=[
 ⟨[97,100,100],[sInt,sInt],sInt⟩,⟨[115,117,98],[sInt,sInt],sInt⟩,⟨[109,117,108],[sInt,sInt],sInt⟩,⟨[100,105,118],[sInt,sInt],sInt⟩,⟨[109,111,100],[sInt,sInt],sInt⟩,
 ⟨[109,105,110],[sInt,sInt],sInt⟩,⟨[109,97,120],[sInt,sInt],sInt⟩,⟨[110,101,103],[sInt],sInt⟩,⟨[97,98,115],[sInt],sInt⟩,⟨[115,105,103,110],[sInt],sInt⟩,
 ⟨[108,116],[sInt,sInt],sBool⟩,⟨[108,101],[sInt,sInt],sBool⟩,⟨[103,116],[sInt,sInt],sBool⟩,⟨[103,101],[sInt,sInt],sBool⟩,⟨[101,113],[sA,sA],sBool⟩,⟨[110,101],[sA,sA],sBool⟩,
 ⟨[97,110,100],[sBool,sBool],sBool⟩,⟨[111,114],[sBool,sBool],sBool⟩,⟨[120,111,114],[sBool,sBool],sBool⟩,⟨[110,111,116],[sBool],sBool⟩,
 ⟨[115,101,108,101,99,116],[sBool,sA,sA],sA⟩,⟨[116,111,105,110,116],[sBool],sInt⟩]
def Prim.cells (r:Prim):List AV:=[.str r.op,.sl false (r.params.map .str) true,.str r.result]
def primT (op:List UInt8):Option Prim:=primRows.find? fun r=>decide (r.op=op)
section
variable {pg:Pg}
def elemOKi (n:Int):Bool:=decide (-2147483648≤n)&&decide (n≤2147483647)
def elemOKb (n:Int):Bool:=decide (n=0)||decide (n=1)
def argsOK (l:List Int) (n:Int):Bool:=l.all fun a=>decide (0≤a)&&decide (a < n)
def stepOK (s:Step) (n:Int):Bool:=
 if s.op.bs=[99,111,110,115,116] then decide ((s.args.es.length:Int)=0)&&elemOKi s.num
 else if s.op.bs=[116,114,117,116,104] then decide ((s.args.es.length:Int)=0)&&elemOKb s.num
 else match primT s.op.bs with
  | none=>false
  | some p=>argsOK s.args.es n&&decide (s.num=0)&&decide ((s.args.es.length:Int)=(p.params.length:Int))
end
end Go.Tev
end
section
namespace Go.Tev
def resU (s:List UInt8):Bool:=
 match s with
 | c :: d :: t=>(decide ((c.toNat:Int)=105)||decide ((c.toNat:Int)=106))&&(d :: t).all digit
 | _=>false
def shapeOK (s:Shape):Bool:=(decide (s.row.bs=[])||nameU s.row.bs)&&decide ((s.dims.es.length:Int)≤6)&&s.dims.es.all linOK
def typOK (t:Typ):Bool:=(decide (t.elem.bs=[105,110,116])||decide (t.elem.bs=[98,111,111,108])||elemVarU t.elem.bs)&&shapeOK t.shape
def typedOK (t:Typ) (vars:List Str):Bool:=typOK t && !elemVarU t.elem.bs&&decide (t.shape.row.bs=[])&&overOK t.shape.dims.es vars
def varsOK (p:List Str):List Str→Bool
 | []=>true
 | x :: r=>nameU x.bs && !resU x.bs&&(match p.getLast? with | none=>true | some q=>Op.bytesLess q.bs x.bs)&&varsOK (p++[x]) r
section
variable {pg:Pg}
theorem c205 (hf:pg.fs 205=some cf205) (nl cl:Bool) (es:List Lin) (hb:es.length≤big) (g:Nat) (cs:List AV) (hcs:treeL cs=true) (p:Lin→Bool) (hp:∀ x∈es,Ret pg g (x.av :: cs) (.bool (p x))) :
  RetP pg 205 [.sl nl (es.map Lin.av) cl,.fn g cs] (fun r=>∃ i:Int,r = .int .i64 i∧decide (0≤i)=es.any p):=
 idxF_ok (f:=205) (esz:=2) (ag:=true) hf Lin.av (fun _=>by simp only [go_sem,seval]) (fun _=>by simp only [go_sem,seval]) nl cl es hb g cs hcs p hp
theorem c175 (hf:pg.fs 175=some cf175) (h205:pg.fs 205=some cf205) (nl cl:Bool) (es:List Lin) (hb:es.length≤big) (g:Nat) (cs:List AV) (hcs:treeL cs=true) (p:Lin→Bool) (hp:∀ x∈es,Ret pg g (x.av :: cs) (.bool (p x))) :
  Ret pg 175 [.sl nl (es.map Lin.av) cl,.fn g cs] (.bool (es.any p)):=
 conF_ok (n:=205) hf (by simp only [treeL,tree_sl,tree_fn,hcs,Lin.treeL_av,Bool.and_true]) (c205 h205 nl cl es hb g cs hcs p hp)
def outsideOK (k:Kernels):Bool:=
 varsOK [] k.vars.es&&(decide ((k.vars.es.length:Int)≤12)&&overOK k.wher.es k.vars.es&&decide (0≤k.inputs)&&decide (k.inputs≤8)&&decide (k.inputs≤k.values.es.length)&&decide ((k.values.es.length:Int)≤k.inputs+400) &&
  decide ((k.list.es.length:Int)≤400)&&k.values.es.all fun t=>typedOK t k.vars.es)
end
end Go.Tev
end
section
namespace Go.Tev
def stepsOK (n:Int):List Step→Bool
 | []=>true
 | s :: r=>stepOK s n&&stepsOK (n+1) r
def codeOK (fn:List Step) (n:Int):Bool:=decide (0≤n)&&decide (n≤20)&&decide ((fn.length:Int)≤60) && !decide (n+fn.length=0)&&stepsOK n fn
def bareOK (p:Pull) (a b c d e f:Bool):Bool:=
 (a||decide (p.num=0))&&(b||decide (p.value=0))&&(c||decide (p.name.bs=[]))&&(d||decide ((p.at_.es.length:Int)=0))&&(e || !p.dyn&&decide (p.check=0))&&(f||decide ((p.fn.es.length:Int)=0))
def readOK (p:Pull) (values:Int):Bool:=
 bareOK p false true false true true false&&decide (0≤p.value)&&decide (p.value < values)&&decide (0≤p.check) &&
  (if p.dyn then decide ((p.at_.es.length:Int)≤5)&&decide ((p.kids.length:Int)=1) else decide ((p.at_.es.length:Int)≤6)&&decide ((p.kids.length:Int)=0)&&decide (p.check=0))
section
variable {pg:Pg}
end
end Go.Tev
end
section
namespace Go.Tev
mutual
theorem Pull.ind' {P:Pull→Prop} (h:∀ p:Pull,(∀ q∈p.kids,P q)→P p):∀ p,P p
 | .mk op num value name at_ dyn check fn knl kids kcl=>h _ (Pull.inds h kids)
theorem Pull.inds {P:Pull→Prop} (h:∀ p:Pull,(∀ q∈p.kids,P q)→P p):∀ l:List Pull,∀ q∈l,P q
 | []=>by simp
 | x :: r=>List.forall_mem_cons.2 ⟨Pull.ind' h x,Pull.inds h r⟩
end
mutual
def nodesU:Pull→Int
 | .mk _ _ _ _ _ _ _ _ _ kids _=>nodesL 1 kids
def nodesL (a:Int):List Pull→Int
 | []=>a
 | p :: r=>nodesL (wr .i64 (a+nodesU p)) r
end
theorem nodesU_eq (p:Pull):nodesU p=nodesL 1 p.kids:=by cases p;rw [nodesU];rfl
theorem nodesL_snoc:∀ (d:List Pull) (a:Int) (x:Pull),nodesL a (d++[x])=wr .i64 (nodesL a d+nodesU x)
 | [],a,x=>by simp [nodesL]
 | y :: d,a,x=>by simp only [List.cons_append,nodesL];exact nodesL_snoc d _ x
section
variable {pg:Pg}
end
end Go.Tev
end
section
namespace Go.Tev
def nodeOK (p:Pull) (vars:List Str) (values:Int):Bool:=
 if p.op.bs=[99,111,110,115,116] then bareOK p true false false false false false&&decide ((p.kids.length:Int)=0)&&elemOKi p.num
 else if p.op.bs=[108,105,110,101,97,114] then bareOK p false false false true false false&&decide ((p.kids.length:Int)=0)&&decide ((p.at_.es.length:Int)=1)
 else if p.op.bs=[114,101,97,100] then readOK p values
 else if p.op.bs=[105,102] then bareOK p false false false true false false&&decide ((p.kids.length:Int)=2)&&decide ((p.at_.es.length:Int)=1)
 else if p.op.bs=[114,101,100,117,99,101] then bareOK p false false true true false true&&decide ((p.kids.length:Int)=2)&&decide ((p.at_.es.length:Int)=1)&&nameU p.name.bs && !hasS vars p.name.bs&&codeOK p.fn.es 2
 else if p.op.bs=[99,111,100,101] then bareOK p false false false false false true&&codeOK p.fn.es p.kids.length
 else match primT p.op.bs with
  | none=>false
  | some q=>bareOK p false false false false false false&&decide ((p.kids.length:Int)=(q.params.length:Int))
section
variable {pg:Pg}
end
end Go.Tev
end
section
namespace Go.Tev
mutual
def Pull.sz:Pull→Nat
 | .mk _ _ _ _ _ _ _ _ _ kids _=>1+Pull.szL kids
def Pull.szL:List Pull→Nat
 | []=>0
 | p :: r=>p.sz+Pull.szL r
end
theorem Pull.sz_eq (p:Pull):p.sz=1+Pull.szL p.kids:=by cases p;rw [Pull.sz];rfl
mutual
def validU (values:Int):Pull→List Str→Bool
 | .mk op num value name at_ dyn check fn knl kids kcl,vars=>
  nodeOK (.mk op num value name at_ dyn check fn knl kids kcl) vars values&&overOK at_.es vars&&validKs values (decide (op.bs=[114,101,100,117,99,101])) name vars 0 kids
def validKs (values:Int) (red:Bool) (name:Str) (vars:List Str):Nat→List Pull→Bool
 | _,[]=>true
 | i,k :: r=>validU values k (if red&&decide ((i:Int)=1) then vars++[name] else vars)&&validKs values red name vars (i+1) r
end
theorem validU_eq (values:Int) (p:Pull) (vars:List Str):validU values p vars=(nodeOK p vars values&&overOK p.at_.es vars&&validKs values (decide (p.op.bs=[114,101,100,117,99,101])) p.name vars 0 p.kids):=by
 cases p;rw [validU];rfl
theorem Own.snap {h:Hp} {k0 esz:Nat} {ag:Bool} {v:AV} {es:List AV} (o:Own h k0 esz ag v es) (he:∀ x∈es,El esz ag x) (d:Nat):∃ nl cl keys,Tev.snap (d+2) h v=some (.sl nl es cl,keys)∧(nl=true→es=[]):=by
 rcases o with ⟨rfl,nl,cl,rfl,hc⟩ | ⟨e,cs,rfl,hg,hu⟩
 ·exact ⟨nl,cl,[],by rw [snapX];rfl,fun _=>rfl⟩
 ·obtain ⟨cs',h1,h2,h3,h4⟩:=chunk_el he
  rw [hu] at h1;cases h1
  have h5:=h4 []
  rw [List.append_nil] at h5
  have ht:treeL es=true:=by
   clear h2 h4 h5 hu hg
   induction es with
   | nil=>rfl
   | cons x r ih=>simp only [treeL,Bool.and_eq_true];exact ⟨(he x (by simp)).tree,ih (fun y hy=>he y (List.mem_cons_of_mem _ hy))⟩
  have h6:mapS (Tev.snap (d+1) h) es=some (es,[]):=mapS_tree d h ht
  exact ⟨false,false,[k0],by rw [snapX];simp [hg,h5,h6,AV.tree],fun h=>by cases h⟩
section
variable {pg:Pg}
def pullOK (p:Pull) (vars:List Str) (v:Int):Bool:=decide (nodesU p≤4000)&&validU v p vars
def stepEq (a b:Step):Bool:=decide (a.op.bs=b.op.bs)&&decide (a.num=b.num)&&eqL (fun x y=>decide (x=y)) a.args.es b.args.es
mutual
def pullEq:Pull→Pull→Bool
 | .mk op num value name at_ dyn check fn knl kids kcl,q=>
  decide (op.bs=q.op.bs)&&decide (num=q.num)&&decide (value=q.value)&&decide (name.bs=q.name.bs)&&(dyn == q.dyn)&&decide (check=q.check)&&eqL linEq at_.es q.at_.es&&eqL stepEq fn.es q.fn.es&&pullEqs kids q.kids
def pullEqs:List Pull→List Pull→Bool
 | [],l=>l.isEmpty
 | p :: r,l=>match l with | []=>false | q :: s=>pullEq p q&&pullEqs r s
end
end
end Go.Tev
end
section
namespace Go.Tev
mutual
def readsU:Pull→List Int
 | .mk op _ value _ _ _ _ _ _ kids _=>(if decide (op.bs=[114,101,97,100]) then [value] else [])++readsL kids
def readsL:List Pull→List Int
 | []=>[]
 | p :: r=>readsU p++readsL r
end
theorem readsU_eq (p:Pull):readsU p=(if decide (p.op.bs=[114,101,97,100]) then [p.value] else [])++readsL p.kids:=by cases p;rw [readsU];rfl
mutual
theorem readsU_len:∀ p:Pull,(readsU p).length≤p.sz
 | .mk op num value name at_ dyn check fn knl kids kcl=>by
  have:=readsL_len kids
  rw [readsU,Pull.sz,List.length_append]
  split<;>simp<;>omega
theorem readsL_len:∀ l:List Pull,(readsL l).length≤Pull.szL l
 | []=>by simp [readsL,Pull.szL]
 | p :: r=>by
  have h1:=readsU_len p
  have h2:=readsL_len r
  simp only [readsL,Pull.szL,List.length_append];omega
end
def RetHP (pg:Pg) (f:Nat) (vs:List AV) (kb:Nat) (h:Hp) (P:AV→Hp→Prop):Prop:=∃ r h',RetH pg f vs kb h r h'∧P r h'
def endHP (res:List (Sum Nat (Nat × Nat × Bool))) (P:AV→Hp→Prop) (ex:Ex) (st:St):Prop:=
 match ex with
 | .ext _=>False
 | _=>∃ v,result st res=some v∧P v st.hp
theorem endHP_nor (res:List (Sum Nat (Nat × Nat × Bool))) (P:AV→Hp→Prop) (st:St):endHP res P .nor st=∃ v,result st res=some v∧P v st.hp:=rfl
theorem endHP_ret (res:List (Sum Nat (Nat × Nat × Bool))) (P:AV→Hp→Prop) (st:St):endHP res P .ret st=∃ v,result st res=some v∧P v st.hp:=rfl
attribute [go_sem ↓] endHP_nor endHP_ret
section
variable {pg:Pg} {kb:Nat}
theorem RetHP.ofX {f:Nat} {cf:CF} {vs:List AV} {h:Hp} {P:AV→Hp→Prop} (hf:pg.fs f=some cf) (hw:XX pg kb cf.body ⟨enter cf vs,h⟩ (endHP cf.res P) ⟨⟩):RetHP pg f vs kb h P:=by
 obtain ⟨n,ex,st,h1,h2⟩:=hw
 cases ex with
 | ext i=>exact h2.elim
 | nor=>obtain ⟨v,h3,h4⟩:=h2;exact ⟨v,st.hp,RetH.of hf ⟨n,.nor,st,h1,trivial,h3,rfl⟩,h4⟩
 | ret=>obtain ⟨v,h3,h4⟩:=h2;exact ⟨v,st.hp,RetH.of hf ⟨n,.ret,st,h1,trivial,h3,rfl⟩,h4⟩
def Out (h:Hp) (v:AV) (es:List Int):Prop:=∃ k,Own h k 1 false v (es.map intA)∧65536≤k∧k % 65536=5
theorem Out.put {h:Hp} {v:AV} {es:List Int} (o:Out h v es) {q e:Nat} {ob:Ob} (hq:q < 65536∨q % 65536 ≠ 5):Out (h.put q e ob) v es:=by
 obtain ⟨k,o,h1,h2⟩:=o
 refine ⟨k,o.mono ?_,h1,h2⟩
 rw [get_put,if_neg (by intro h;subst h;omega)]
theorem Own.one {h:Hp} {k0 esz:Nat} {ag:Bool} {v:AV} {es:List AV} (o:Own h k0 esz ag v es):v.fits 1 false=true∧v.one=true∧v.cells=[v]:=by
 rcases o with ⟨rfl,nl,cl,rfl,hc⟩ | ⟨e,cs,rfl,hg,hu⟩
 ·exact ⟨rfl,rfl,rfl⟩
 ·exact ⟨rfl,rfl,rfl⟩
end
end Go.Tev
end
section
namespace Go.Tev
def insI (x:Int):List Int→List Int
 | []=>[x]
 | y :: r=>if x≤y then x :: y :: r else y :: insI x r
def sortI:List Int→List Int
 | []=>[]
 | x :: r=>insI x (sortI r)
def compI:List Int→List Int
 | []=>[]
 | [x]=>[x]
 | x :: y :: r=>if x=y then compI (y :: r) else x :: compI (y :: r)
theorem insI_len (x:Int):∀ l,(insI x l).length=l.length+1
 | []=>rfl
 | y :: r=>by simp only [insI];split<;>simp [insI_len x r]
theorem sortI_len:∀ l,(sortI l).length=l.length
 | []=>rfl
 | x :: r=>by simp [sortI,insI_len,sortI_len r]
theorem compI_len:∀ l:List Int,(compI l).length≤l.length
 | []=>by simp [compI]
 | [x]=>by simp [compI]
 | x :: y :: r=>by
  have:=compI_len (y :: r)
  simp only [compI];split<;>simp at * <;> omega
theorem mem_insI (x a:Int):∀ l,a∈insI x l↔a=x∨a∈l
 | []=>by simp [insI]
 | y :: r=>by
  simp only [insI]
  split
  ·simp
  ·simp [mem_insI x a r]
   constructor<;>intro h<;>rcases h with h | h | h<;>simp [h]
theorem mem_sortI (a:Int):∀ l,a∈sortI l↔a∈l
 | []=>by simp [sortI]
 | x :: r=>by simp [sortI,mem_insI,mem_sortI a r]
theorem mem_compI (a:Int):∀ l:List Int,a∈compI l↔a∈l
 | []=>by simp [compI]
 | [x]=>by simp [compI]
 | x :: y :: r=>by
  have:=mem_compI a (y :: r)
  simp only [compI]
  split
  ·rename_i h
   subst h
   simp [this]
  ·simp [this]
def readsV (p:Pull):List Int:=compI (sortI (readsU p))
section
variable {pg:Pg}
theorem RetHP.mono {f:Nat} {vs:List AV} {kb:Nat} {h:Hp} {P P':AV→Hp→Prop} (hr:RetHP pg f vs kb h P) (hP:∀ r h',P r h'→P' r h'):RetHP pg f vs kb h P':=by
 obtain ⟨r,h',a,b⟩:=hr
 exact ⟨r,h',a,hP r h' b⟩
end
end Go.Tev
end
