import Derived.Test.YtdpdokigjeaaiaaGreatDoorNBm
set_option linter.all false
section
namespace Go.Tev
mutual
def Pull.sz:Pull→Nat
 | .mk _ _ _ _ _ _ _ _ _ kids _=>1+Pull.szL kids
def Pull.szL:List Pull→Nat
 | []=>0
 | p :: r=>p.sz+Pull.szL r
end
theorem Pull.sz_eq (p:Pull):p.sz=1+Pull.szL p.kids:=by cases p;rw [Pull.sz];rfl
theorem Pull.szL_mem:∀ {l:List Pull} {q:Pull},q∈l→q.sz≤Pull.szL l
 | x :: r,q,h=>by
  rcases List.mem_cons.1 h with rfl | h
  ·rw [Pull.szL];omega
  ·have:=Pull.szL_mem h;rw [Pull.szL];omega
mutual
def validU (values:Int):Pull→List Str→Bool
 | .mk op num value name at_ dyn check fn knl kids kcl,vars=>
  nodeOK (.mk op num value name at_ dyn check fn knl kids kcl) vars values&&overOK at_.es vars&&validKs values (decide (op.bs=[114,101,100,117,99,101])) name vars 0 kids
def validKs (values:Int) (red:Bool) (name:Str) (vars:List Str):Nat→List Pull→Bool
 | _,[]=>true
 | i,k :: r=>validU values k (if red&&decide ((i:Int)=1) then vars++[name] else vars)&&validKs values red name vars (i+1) r
end
theorem validU_eq (values:Int) (p:Pull) (vars:List Str):validU values p vars=(nodeOK p vars values&&overOK p.at_.es vars&&validKs values (decide (p.op.bs=[114,101,100,117,99,101])) p.name vars 0 p.kids):=by
 cases p;rw [validU];rfl
theorem Own.snap {h:Hp} {k0 esz:Nat} {ag:Bool} {v:AV} {es:List AV} (o:Own h k0 esz ag v es) (he:∀ x∈es,El esz ag x) (d:Nat):∃ nl cl keys,Tev.snap (d+2) h v=some (.sl nl es cl,keys)∧(nl=true→es=[]):=by
 rcases o with ⟨rfl,nl,cl,rfl,hc⟩ | ⟨e,cs,rfl,hg,hu⟩
 ·exact ⟨nl,cl,[],by rw [snapX];rfl,fun _=>rfl⟩
 ·obtain ⟨cs',h1,h2,h3,h4⟩:=chunk_el he
  rw [hu] at h1;cases h1
  have h5:=h4 []
  rw [List.append_nil] at h5
  have ht:treeL es=true:=by
   clear h2 h4 h5 hu hg
   induction es with
   | nil=>rfl
   | cons x r ih=>simp only [treeL,Bool.and_eq_true];exact ⟨(he x (by simp)).tree,ih (fun y hy=>he y (List.mem_cons_of_mem _ hy))⟩
  have h6:mapS (Tev.snap (d+1) h) es=some (es,[]):=mapS_tree d h ht
  exact ⟨false,false,[k0],by rw [snapX];simp [hg,h5,h6,AV.tree],fun h=>by cases h⟩
theorem snap_tr {h:Hp} {d:Nat} {a:AV} (ha:a.tree=true):Tev.snap (d+1) h a=some (a,[]):=by rw [snapX,if_pos ha]
theorem mapS_three {h:Hp} {d:Nat} {a b c b':AV} {keys:List Nat} (ha:a.tree=true) (hb:Tev.snap (d+1) h b=some (b',keys)) (hc:c.tree=true):mapS (Tev.snap (d+1) h) [a,b,c]=some ([a,b',c],keys):=by
 simp [mapS_cons,mapS_nil,snap_tr ha,snap_tr hc,hb]
section
variable {pg:Pg}
theorem c147 (hf:pg.fs 147=some cf147) (h182:∀ (p:Pull),p.kids.length≤big→∀ (nl cl:Bool) (vars:List Str),vars.length≤big→∀ v:Int,Ret pg 182 [p.av,.sl nl (vars.map Str.av) cl,.int .i64 v] (.bool (nodeOK p vars v)))
  (h183:∀ (nl cl:Bool) (ls:List Lin),ls.length≤big→∀ (nl' cl':Bool) (vars:List Str),vars.length≤big→Ret pg 183 [.sl nl (ls.map Lin.av) cl,.sl nl' (vars.map Str.av) cl'] (.bool (overOK ls vars)))
  (h184:pg.fs 184=some cf184) (h209:pg.fs 209=some cf209) (v:Int) :
  ∀ p:Pull,p.ok→∀ (nl cl:Bool) (vars:List Str),vars.length+p.sz≤big→Ret pg 147 [p.av,.sl nl (vars.map Str.av) cl,.int .i64 v] (.bool (validU v p vars)):=by
 refine Pull.ind' fun p ih hp nl cl vars hb=>?_
 obtain ⟨hk,hks⟩:=(Pull.ok_iff p).1 hp
 have hsz:=Pull.sz_eq p
 have a1:=h182 p hk nl cl vars (by omega) v
 have a2:=h183 p.at_.nl p.at_.cl p.at_.es p.at_.ok nl cl vars (by omega)
 rw [Pull.avc] at a1
 clear h182 h183
 refine Ret.ofX hf ?_
 unfold cf147
 simp only [go_sem,seval]
 refine XO_tree (a1) (by simp only [go_sem,seval]) rfl ?_
 simp only [go_sem,seval]
 cases b1:nodeOK p vars v
 ·simp only [go_sem,seval]
  rw [validU_eq,b1];rfl
 simp only [go_sem,seval]
 refine XO_tree (a2) (by simp only [go_sem,seval]) rfl ?_
 simp only [go_sem,seval]
 cases b2:overOK p.at_.es vars
 ·simp only [go_sem,seval]
  rw [validU_eq,b1,b2];rfl
 simp only [go_sem,seval]
 generalize hred:decide (p.op.bs=[114,101,100,117,99,101])=red
 have hspec:validU v p vars=validKs v red p.name vars 0 p.kids:=by rw [validU_eq,b1,b2,hred];rfl
 rw [hspec]
 refine XX_listU p.kids (fun d e=>setD e (some 25) (.int .i64 d.length)) (fun d r hp=>hp.get 1=some (0,.blk [.str p.op.bs,.int .i64 p.num,.int .i64 p.value,.str p.name.bs,.sl p.at_.nl (p.at_.es.map Lin.av) p.at_.cl,.bool p.dyn,.int .i64 p.check,.sl p.fn.nl (p.fn.es.map Step.av) p.fn.cl,.sl p.knl (p.kids.map Pull.av) p.kcl] 9 true true false)∧validKs v red p.name vars 0 p.kids=validKs v red p.name vars d.length r) rfl ?_ ?_ ?_
 ·exact ⟨rfl,rfl⟩
 ·rintro hp ⟨h1,hI⟩
  simp only [cf147L0,cf147M0,go_sem,seval]
  rw [hI];rfl
 ·rintro d x r hp hes ⟨h1,hI⟩
  have hxm:x∈p.kids:=by rw [hes];simp
  have hxs:x.sz≤Pull.szL p.kids:=Pull.szL_mem hxm
  have hx:=ih x hxm (hks x hxm)
  simp only [validKs] at hI
  have hb2:(d++x :: r).length≤big:=by rw [← hes];exact hk
  have hlast:∀ own:List Str,∀ hp2:Hp,hp2.get 1=hp.get 1→validU v x own=validU v x (if red&&decide ((d.length:Int)=1) then vars++[p.name] else vars)→True:=fun _ _ _ _=>trivial
  have h0:=h1
  rw [hes] at h1 ⊢
  simp only [cf147L0,cf147M0,h1,hred,go_sem,seval]
  cases c1:red
  ·simp only [go_sem,seval]
   have hx1:=hx nl cl vars (by omega)
   rw [Pull.avc] at hx1
   refine XO_tree (hx1) (by simp only [go_sem,seval]) rfl ?_
   rw [c1] at hI
   simp only [go_sem,seval]
   cases b3:validU v x vars
   ·simp only [go_sem,seval]
    rw [← hes,hI];simp [b3]
   ·simp only [wr_mid hb2,go_sem,seval]
    rw [← hes]
    exact ⟨h0,by simpa [b3] using hI⟩
  simp only [go_sem,seval]
  cases c2:decide ((d.length:Int)=1)
  ·simp only [c2,go_sem,seval]
   have hx1:=hx nl cl vars (by omega)
   rw [Pull.avc] at hx1
   refine XO_tree (hx1) (by simp only [go_sem,seval]) rfl ?_
   rw [c1,c2] at hI
   simp only [go_sem,seval]
   cases b3:validU v x vars
   ·simp only [go_sem,seval]
    rw [← hes,hI];simp [b3]
   ·simp only [wr_mid hb2,go_sem,seval]
    rw [← hes]
    exact ⟨h0,by simpa [b3] using hI⟩
  ·simp only [c2,h1,go_sem,seval]
   refine XO_slO (c184 h184 h209 nl cl vars p.name (by omega)) (by simp only [go_sem,seval]) (El.strs (vars++[p.name])) ?_
   intro v' rd pa ho hkk hpa
   simp only [hkk,go_sem,seval]
   obtain ⟨nl2,cl2,keys,hsn,hnl⟩:=ho.snap (El.strs (vars++[p.name])) 62
   have hx2:=hx nl2 cl2 (vars++[p.name]) (by simp;omega)
   rw [Pull.avc] at hx2
   refine XO_call hx2 (mapS_three (by simp only [go_sem,seval]) hsn (by simp only [go_sem,seval])) (v:=.bool (validU v x (vars++[p.name]))) (pa:=[]) rfl ?_
   rw [c1,c2] at hI
   simp only [hkk,go_sem,seval]
   cases b3:validU v x (vars++[p.name])
   ·simp only [go_sem,seval]
    rw [← hes,hI];simp [b3]
   ·simp only [wr_mid hb2,hkk,go_sem,seval]
    rw [← hes]
    exact ⟨h0,by simpa [b3] using hI⟩
def pullOK (p:Pull) (vars:List Str) (v:Int):Bool:=decide (nodesU p≤4000)&&validU v p vars
theorem c109 (hf:pg.fs 109=some cf109) (h146:pg.fs 146=some cf146) (h147:∀ p:Pull,p.ok→∀ (nl cl:Bool) (vars:List Str),vars.length+p.sz≤big→∀ v:Int,Ret pg 147 [p.av,.sl nl (vars.map Str.av) cl,.int .i64 v] (.bool (validU v p vars)))
  (p:Pull) (hp:p.ok) (nl cl:Bool) (vars:List Str) (hb:vars.length+p.sz≤big) (v:Int):Ret pg 109 [p.av,.sl nl (vars.map Str.av) cl,.int .i64 v] (.bool (pullOK p vars v)):=by
 have a1:=c146 h146 p hp
 have a2:=h147 p hp nl cl vars hb v
 rw [Pull.avc] at a1 a2
 refine Ret.ofX hf ?_
 clear h146 h147
 unfold cf109
 repeat' (first | simp only [*,go_sem,seval] | refine XG_split (fun _=>?_) (fun _=>?_) | refine XC_split (fun _=>?_) (fun _=>?_) | (refine XO_tree a1 (by simp only [go_sem,seval]) rfl ?_) | (refine XO_tree a2 (by simp only [go_sem,seval]) rfl ?_) | refine And.intro (by kernel_rfl) ?_)
 all_goals (clear a1 a2)
 all_goals (simp_all [pullOK])
 all_goals (intro h;exfalso;omega)
def stepEq (a b:Step):Bool:=decide (a.op.bs=b.op.bs)&&decide (a.num=b.num)&&eqL (fun x y=>decide (x=y)) a.args.es b.args.es
mutual
def pullEq:Pull→Pull→Bool
 | .mk op num value name at_ dyn check fn knl kids kcl,q=>
  decide (op.bs=q.op.bs)&&decide (num=q.num)&&decide (value=q.value)&&decide (name.bs=q.name.bs)&&(dyn == q.dyn)&&decide (check=q.check)&&eqL linEq at_.es q.at_.es&&eqL stepEq fn.es q.fn.es&&pullEqs kids q.kids
def pullEqs:List Pull→List Pull→Bool
 | [],l=>l.isEmpty
 | p :: r,l=>match l with | []=>false | q :: s=>pullEq p q&&pullEqs r s
end
theorem pullEq_eq (p q:Pull):pullEq p q=(decide (p.op.bs=q.op.bs)&&decide (p.num=q.num)&&decide (p.value=q.value)&&decide (p.name.bs=q.name.bs)&&(p.dyn == q.dyn)&&decide (p.check=q.check)&&eqL linEq p.at_.es q.at_.es&&eqL stepEq p.fn.es q.fn.es&&pullEqs p.kids q.kids):=by
 cases p;rw [pullEq];rfl
theorem pullEqs_eq:∀ a b:List Pull,pullEqs a b=eqL pullEq a b
 | [],[]=>by simp [pullEqs,eqL]
 | [],_ :: _=>by simp [pullEqs,eqL]
 | _ :: _,[]=>by simp [pullEqs,eqL]
 | p :: r,q :: s=>by simp [pullEqs,eqL,pullEqs_eq r s]
theorem c181 (hf:pg.fs 181=some cf181) (nl cl nl' cl':Bool) (es es':List Int) (hb:es.length≤big):Ret pg 181 [.sl nl (es.map intA) cl,.sl nl' (es'.map intA) cl'] (.bool (eqL (fun x y=>decide (x=y)) es es')):=
 eqV_ok (f:=181) (k:=.bin .neq) hf intA (fun _=>rfl) nl cl nl' cl' es es' hb _ (by intro kb s h x y Q t;simp only [go_sem,seval]) rfl
theorem c180 (hf:pg.fs 180=some cf180) (h181:pg.fs 181=some cf181) (a b:Step):Ret pg 180 [a.av,b.av] (.bool (stepEq a b)):=by
 have k:=c181 h181 a.args.nl a.args.cl b.args.nl b.args.cl a.args.es b.args.es a.args.ok
 refine Ret.ofX hf ?_
 unfold cf180
 repeat' (first | simp only [*,go_sem,seval] | refine XG_split (fun _=>?_) (fun _=>?_) | refine XC_split (fun _=>?_) (fun _=>?_) | (refine XO_tree k (by simp only [go_sem,seval]) rfl ?_) | refine And.intro (by kernel_rfl) ?_)
 all_goals (clear k)
 all_goals (simp_all [stepEq])
theorem c179 (hf:pg.fs 179=some cf179) (h180:∀ a b:Step,Ret pg 180 [a.av,b.av] (.bool (stepEq a b))) (nl cl nl' cl':Bool) (es es':List Step) (hb:es.length≤big) :
  Ret pg 179 [.sl nl (es.map Step.av) cl,.sl nl' (es'.map Step.av) cl',.fn 180 []] (.bool (eqL stepEq es es')):=
 eqF_ok (f:=179) (esz:=3) (ag:=true) rfl hf Step.av (fun x=>[.str x.op.bs,.int .i64 x.num,x.args.av intA]) (fun _=>rfl) (fun _=>rfl) (fun _=>rfl) rfl (fun x=>by simp only [go_sem,seval]) nl cl nl' cl' es es' hb 180 stepEq (fun x _ y _=>h180 x y)
theorem c144 (hf:pg.fs 144=some cf144) (h179:∀ (nl cl nl' cl':Bool) (es es':List Step),es.length≤big→Ret pg 179 [.sl nl (es.map Step.av) cl,.sl nl' (es'.map Step.av) cl',.fn 180 []] (.bool (eqL stepEq es es')))
  (nl cl nl' cl':Bool) (es es':List Step) (hb:es.length≤big):Ret pg 144 [.sl nl (es.map Step.av) cl,.sl nl' (es'.map Step.av) cl'] (.bool (eqL stepEq es es')):=by
 have k:=h179 nl cl nl' cl' es es' hb
 refine Ret.ofX hf ?_
 clear h179
 unfold cf144
 repeat' (first | simp only [*,go_sem,seval] | refine XG_split (fun _=>?_) (fun _=>?_) | refine XC_split (fun _=>?_) (fun _=>?_) | (refine XO_tree k (by simp only [go_sem,seval]) rfl ?_) | refine And.intro (by kernel_rfl) ?_)
theorem Pull.one_cells (x:Pull):allOne x.cells=true:=rfl
theorem c105 (hf:pg.fs 105=some cf105) (h67:∀ (nl cl nl' cl':Bool) (es es':List Lin),es.length≤big→Ret pg 67 [.sl nl (es.map Lin.av) cl,.sl nl' (es'.map Lin.av) cl',.fn 143 []] (.bool (eqL linEq es es')))
  (h144:∀ (nl cl nl' cl':Bool) (es es':List Step),es.length≤big→Ret pg 144 [.sl nl (es.map Step.av) cl,.sl nl' (es'.map Step.av) cl'] (.bool (eqL stepEq es es'))) (h145:pg.fs 145=some cf145) :
  ∀ p:Pull,p.ok→∀ q:Pull,Ret pg 105 [p.av,q.av] (.bool (pullEq p q)):=by
 refine Pull.ind' fun p ih hp q=>?_
 obtain ⟨hk,hks⟩:=(Pull.ok_iff p).1 hp
 have a1:=h67 p.at_.nl p.at_.cl q.at_.nl q.at_.cl p.at_.es q.at_.es p.at_.ok
 have a2:=h144 p.fn.nl p.fn.cl q.fn.nl q.fn.cl p.fn.es q.fn.es p.fn.ok
 have a3:Ret pg 145 [.sl p.knl (p.kids.map Pull.av) p.kcl,.sl q.knl (q.kids.map Pull.av) q.kcl,.fn 105 []] (.bool (eqL pullEq p.kids q.kids)):=
  eqF_ok (f:=145) (esz:=9) (ag:=true) rfl h145 Pull.av Pull.cells Pull.av_eq (fun _=>rfl) Pull.one_cells rfl Pull.tree_av p.knl p.kcl q.knl q.kcl p.kids q.kids hk 105 pullEq (fun x hx y _=>ih x hx (hks x hx) y)
 refine Ret.ofX hf ?_
 clear h67 h144 ih hks
 unfold cf105
 repeat' (first | simp only [*,go_sem,seval] | refine XG_split (fun _=>?_) (fun _=>?_) | refine XC_split (fun _=>?_) (fun _=>?_) | (refine XO_tree a1 (by simp only [go_sem,seval]) rfl ?_) | (refine XO_tree a2 (by simp only [go_sem,seval]) rfl ?_) | (refine XO_tree a3 (by simp only [go_sem,seval]) rfl ?_) | refine And.intro (by kernel_rfl) ?_)
 all_goals (clear a1 a2 a3)
 all_goals (rw [pullEq_eq,pullEqs_eq])
 all_goals (simp_all)
end
end Go.Tev
end
section
namespace Go.Tev
mutual
def readsU:Pull→List Int
 | .mk op _ value _ _ _ _ _ _ kids _=>(if decide (op.bs=[114,101,97,100]) then [value] else [])++readsL kids
def readsL:List Pull→List Int
 | []=>[]
 | p :: r=>readsU p++readsL r
end
theorem readsU_eq (p:Pull):readsU p=(if decide (p.op.bs=[114,101,97,100]) then [p.value] else [])++readsL p.kids:=by cases p;rw [readsU];rfl
theorem readsL_snoc:∀ (d:List Pull) (x:Pull),readsL (d++[x])=readsL d++readsU x
 | [],x=>by simp [readsL]
 | y :: d,x=>by simp [readsL,readsL_snoc d x]
mutual
theorem readsU_len:∀ p:Pull,(readsU p).length≤p.sz
 | .mk op num value name at_ dyn check fn knl kids kcl=>by
  have:=readsL_len kids
  rw [readsU,Pull.sz,List.length_append]
  split<;>simp<;>omega
theorem readsL_len:∀ l:List Pull,(readsL l).length≤Pull.szL l
 | []=>by simp [readsL,Pull.szL]
 | p :: r=>by
  have h1:=readsU_len p
  have h2:=readsL_len r
  simp only [readsL,Pull.szL,List.length_append];omega
end
def RetHP (pg:Pg) (f:Nat) (vs:List AV) (kb:Nat) (h:Hp) (P:AV→Hp→Prop):Prop:=∃ r h',RetH pg f vs kb h r h'∧P r h'
def endHP (res:List (Sum Nat (Nat × Nat × Bool))) (P:AV→Hp→Prop) (ex:Ex) (st:St):Prop:=
 match ex with
 | .ext _=>False
 | _=>∃ v,result st res=some v∧P v st.hp
theorem endHP_nor (res:List (Sum Nat (Nat × Nat × Bool))) (P:AV→Hp→Prop) (st:St):endHP res P .nor st=∃ v,result st res=some v∧P v st.hp:=rfl
theorem endHP_ret (res:List (Sum Nat (Nat × Nat × Bool))) (P:AV→Hp→Prop) (st:St):endHP res P .ret st=∃ v,result st res=some v∧P v st.hp:=rfl
attribute [go_sem ↓] endHP_nor endHP_ret
section
variable {pg:Pg} {kb:Nat}
theorem RetHP.ofX {f:Nat} {cf:CF} {vs:List AV} {h:Hp} {P:AV→Hp→Prop} (hf:pg.fs f=some cf) (hw:XX pg kb cf.body ⟨enter cf vs,h⟩ (endHP cf.res P) ⟨⟩):RetHP pg f vs kb h P:=by
 obtain ⟨n,ex,st,h1,h2⟩:=hw
 cases ex with
 | ext i=>exact h2.elim
 | nor=>obtain ⟨v,h3,h4⟩:=h2;exact ⟨v,st.hp,RetH.of hf ⟨n,.nor,st,h1,trivial,h3,rfl⟩,h4⟩
 | ret=>obtain ⟨v,h3,h4⟩:=h2;exact ⟨v,st.hp,RetH.of hf ⟨n,.ret,st,h1,trivial,h3,rfl⟩,h4⟩
theorem XO_callHP {f s:Nat} {th im:Bool} {h:Hp} {vs:List AV} {P:AV→Hp→Prop} {Q:AV→Eff→Prop} {t:Tok Q} (hm:im=true∨mapS (snap depth h) vs=none) {B:Nat} (hB:baseOf kb s vs=B) (hr:RetHP pg f vs B h P)
   (hq:∀ r h',P r h'→Q r (.whole h')):XO pg kb (.call f th im) s h vs Q t:=by
 obtain ⟨r,h',h1,h2⟩:=hr
 exact XO_callH hm hB h1 (hq r h' h2)
theorem XO_own3 {esz bytes s k1:Nat} {ag:Bool} {h:Hp} {v:AV} {es xs:List AV} {nl cl:Bool} {Q:AV→Eff→Prop} {t:Tok Q} (o:Own h k1 esz ag v es) (he:∀ x∈es,El esz ag x) (hx:∀ x∈xs,El esz ag x) (hxs:xs ≠ [])
  (hl:es.length+xs.length≤1073741824) (hb:bytes≤65536)
  (q2:∀ v' rd pa,Own (Eff.app h (.pat rd pa)) (kb+s) esz ag v' (es++xs)→(∀ k,k ≠ kb+s→k ≠ k1→(Eff.app h (.pat rd pa)).get k=h.get k)→Q v' (.pat rd pa)) :
  XO pg kb (.app esz ag bytes) s h [v,.sl nl xs cl] Q t:=by
 by_cases hk:k1=kb+s
 ·subst hk
  exact XO_own o he hx hl hb (fun v' rd pa h1 h2 _=>q2 v' rd pa h1 (fun k h3 _=>h2 k h3))
 ·exact XO_own2 o hk he hx hl hb (fun h=>absurd h hxs) (fun _ v' rd pa h1 h2=>q2 v' rd pa h1 h2)
theorem mapS_none {f:AV→Option (AV × List Nat)}:∀ {l:List AV} {x:AV},x∈l→f x=none→mapS f l=none
 | y :: r,x,h,hf=>by
  rcases List.mem_cons.1 h with rfl | h
  ·simp [mapS_cons,hf]
  ·rw [mapS_cons]
   cases f y with
   | none=>rfl
   | some p=>simp [mapS_none h hf]
theorem snap_cycle {h:Hp} {f kw ew:Nat} {cs:List AV} {ti fz:Bool} (hg:h.get kw=some (ew,.blk [.fn f cs] 1 false ti fz)) (hm:AV.pt kw ew 0∈cs):∀ d,snap d h (.pt kw ew 0)=none
 | 0=>rfl
 | 1=>by
  rw [snapX]
  simp [AV.tree,hg,mapS_cons,snap]
 | d+2=>by
  have ih:=snap_cycle hg hm d
  have hms:=mapS_none hm ih
  have ht:treeL cs=false:=by
   clear hms ih hg
   induction cs with
   | nil=>cases hm
   | cons x r ih2=>
    simp only [treeL]
    rcases List.mem_cons.1 hm with rfl | hm
    ·simp [AV.tree]
    ·simp [ih2 hm]
  rw [snapX]
  simp [AV.tree,hg,mapS_cons,snapX,ht,hms]
def Out (h:Hp) (v:AV) (es:List Int):Prop:=∃ k,Own h k 1 false v (es.map intA)∧65536≤k∧k % 65536=5
theorem El.ints (l:List Int):∀ x∈l.map intA,El 1 false x:=by
 intro x hx
 simp only [List.mem_map] at hx
 obtain ⟨y,_,rfl⟩:=hx
 exact ⟨rfl,rfl,rfl⟩
theorem Pull.szL_append:∀ (a b:List Pull),Pull.szL (a++b)=Pull.szL a+Pull.szL b
 | [],b=>by simp [Pull.szL]
 | x :: r,b=>by simp [Pull.szL,Pull.szL_append r b];omega
def Keeps (h h':Hp) (kb:Nat):Prop:=∀ q,q ≠ 5→q % 65536 ≠ 5→q < kb→h'.get q=h.get q
def walkP (eo:Nat) (h:Hp) (kb:Nat) (es:List Int) (r:AV) (h':Hp):Prop:=r = .tup []∧(∃ v',h'.get 5=some (eo,.blk [v'] 1 false true false)∧Out h' v' es)∧Keeps h h' kb
theorem Out.put {h:Hp} {v:AV} {es:List Int} (o:Out h v es) {q e:Nat} {ob:Ob} (hq:q < 65536∨q % 65536 ≠ 5):Out (h.put q e ob) v es:=by
 obtain ⟨k,o,h1,h2⟩:=o
 refine ⟨k,o.mono ?_,h1,h2⟩
 rw [get_put,if_neg (by intro h;subst h;omega)]
theorem Own.one {h:Hp} {k0 esz:Nat} {ag:Bool} {v:AV} {es:List AV} (o:Own h k0 esz ag v es):v.fits 1 false=true∧v.one=true∧v.cells=[v]:=by
 rcases o with ⟨rfl,nl,cl,rfl,hc⟩ | ⟨e,cs,rfl,hg,hu⟩
 ·exact ⟨rfl,rfl,rfl⟩
 ·exact ⟨rfl,rfl,rfl⟩
theorem c74_loop (p:Pull) (hks:∀ q∈p.kids,q.ok) (hk:p.kids.length≤big) (kb eo ew:Nat) (h:Hp) (hkb:65536≤kb) (hkb2:kb % 65536=0) (es:List Int) (hsz:es.length+Pull.szL p.kids≤big)
  (ih:∀ q∈p.kids,q.ok→∀ (kb:Nat) (h:Hp) (v:AV) (es:List Int) (eo ew:Nat),65536≤kb→kb % 65536=0→es.length+q.sz≤big →
   h.get 5=some (eo,.blk [v] 1 false true false)→h.get 9=some (ew,.blk [.fn 74 [.pt 5 eo 0,.pt 9 ew 0]] 1 false true false)→Out h v es →
   RetHP pg 74 [q.av,.pt 5 eo 0,.pt 9 ew 0] kb h (walkP eo h kb (es++readsU q)))
  (v:AV) (hp:Hp) (h5:hp.get 5=some (eo,.blk [v] 1 false true false)) (h9:hp.get 9=some (ew,.blk [.fn 74 [.pt 5 eo 0,.pt 9 ew 0]] 1 false true false)) (ho:Out hp v es) (hkeep:Keeps h hp kb) (env:List AV)
  (henv:clear cf74M0 env=cf74E0 (.pt 9 ew 0) (.sl p.knl (p.kids.map Pull.av) p.kcl) (.int .i64 p.kids.length) (.int .i64 0)) :
  XX pg kb (.loop cf74L0 cf74M0) ⟨env,hp⟩ (blockQ 0 (endHP [] (walkP eo h kb (es++readsL p.kids)))) ⟨⟩:=by
 refine XX_list p.kids (fun d r env hp=>env=cf74E0 (.pt 9 ew 0) (.sl p.knl (p.kids.map Pull.av) p.kcl) (.int .i64 p.kids.length) (.int .i64 d.length) ∧
  ∃ v,hp.get 5=some (eo,.blk [v] 1 false true false)∧hp.get 9=some (ew,.blk [.fn 74 [.pt 5 eo 0,.pt 9 ew 0]] 1 false true false)∧Out hp v (es++readsL d)∧Keeps h hp kb) ?_ ?_ ?_
 ·exact ⟨henv,v,h5,h9,by simpa [readsL] using ho,hkeep⟩
 ·rintro env hp ⟨rfl,v,h5,h9,ho,hkeep⟩
  simp only [cf74L0,cf74E0,go_sem,seval]
  exact ⟨rfl,⟨v,h5,ho⟩,hkeep⟩
 ·rintro d x r env hp hes ⟨rfl,v,h5,h9,ho,hkeep⟩
  have hxm:x∈p.kids:=by rw [hes];simp
  have hb2:(d++x :: r).length≤big:=by rw [← hes];exact hk
  have hsd:Pull.szL p.kids=Pull.szL d+x.sz+Pull.szL r:=by rw [hes,Pull.szL_append];simp [Pull.szL];omega
  have hrd:=readsL_len d
  have n1:(kb+9=5)=False:=eq_false (by omega)
  have n2:(kb+9=9)=False:=eq_false (by omega)
  have n3:(kb+5=9)=False:=eq_false (by omega)
  rw [hes]
  simp only [cf74L0,cf74E0,n1,n2,n3,h9,go_sem,seval]
  generalize hO1:Ob.blk [AV.str [],AV.int IntKind.i64 0,AV.int IntKind.i64 0,AV.str [],AV.sl true [] true,AV.bool false,AV.int IntKind.i64 0,AV.sl true [] true,AV.sl true [] true] 9 true true false=O1
  have g5:∀ o1 o2,((hp.put (kb+9) (hp.next (kb+9)) o1).put (kb+9) (hp.next (kb+9)) o2).get 5=hp.get 5:=by
   intro o1 o2;rw [get_put,if_neg (by omega),get_put,if_neg (by omega)]
  have g9:∀ o1 o2,((hp.put (kb+9) (hp.next (kb+9)) o1).put (kb+9) (hp.next (kb+9)) o2).get 9=hp.get 9:=by
   intro o1 o2;rw [get_put,if_neg (by omega),get_put,if_neg (by omega)]
  refine XO_callHP (P:=walkP eo ((hp.put (kb+9) (hp.next (kb+9)) O1).put (kb+9) (hp.next (kb+9)) (Ob.blk
    [AV.str x.op.bs,AV.int IntKind.i64 x.num,AV.int IntKind.i64 x.value,AV.str x.name.bs,
     AV.sl x.at_.nl (List.map Lin.av x.at_.es) x.at_.cl,AV.bool x.dyn,AV.int IntKind.i64 x.check,
     AV.sl x.fn.nl (List.map Step.av x.fn.es) x.fn.cl,AV.sl x.knl (List.map Pull.av x.kids) x.kcl]
    9 true true false)) ((kb+13+1)*65536) (es++readsL d++readsU x)) (.inr ?_) (B:=(kb+13+1)*65536) rfl ?_ ?_
  ·refine mapS_none (x:=.pt 9 ew 0) (by simp) (snap_cycle (f:=74) (cs:=[.pt 5 eo 0,.pt 9 ew 0]) (ti:=true) (fz:=false) ?_ (by simp) _)
   rw [g9];exact h9
  ·rw [← Pull.avc]
   refine ih x hxm (hks x hxm) _ _ v _ eo ew (by omega) (by omega) (by simp;omega) (by rw [g5];exact h5) (by rw [g9];exact h9) ?_
   exact (ho.put (.inr (by omega))).put (.inr (by omega))
  ·rintro r' h' ⟨rfl,⟨v2,q5,q6⟩,q7⟩
   have q9:h'.get 9=hp.get 9:=by rw [q7 9 (by omega) (by omega) (by omega),g9]
   simp only [wr_mid hb2,go_sem,seval]
   refine ⟨rfl,v2,q5,by rw [q9];exact h9,by rw [readsL_snoc,← List.append_assoc];exact q6,?_⟩
   intro q c1 c2 c3
   rw [q7 q c1 c2 (by omega),get_put,if_neg (by omega),get_put,if_neg (by omega)]
   exact hkeep q c1 c2 c3
theorem c74 (hf:pg.fs 74=some cf74):∀ p:Pull,p.ok→∀ (kb:Nat) (h:Hp) (v:AV) (es:List Int) (eo ew:Nat),65536≤kb→kb % 65536=0→es.length+p.sz≤big →
  h.get 5=some (eo,.blk [v] 1 false true false)→h.get 9=some (ew,.blk [.fn 74 [.pt 5 eo 0,.pt 9 ew 0]] 1 false true false)→Out h v es →
  RetHP pg 74 [p.av,.pt 5 eo 0,.pt 9 ew 0] kb h (walkP eo h kb (es++readsU p)):=by
 refine Pull.ind' fun p ih hp kb h v es eo ew hkb hkb2 hsz h5 h9 hout=>?_
 obtain ⟨hk,hks⟩:=(Pull.ok_iff p).1 hp
 have hps:=Pull.sz_eq p
 refine RetHP.ofX hf ?_
 rw [readsU_eq,← List.append_assoc]
 unfold cf74
 have k1:(kb+1=5)=False:=eq_false (by omega)
 have k2:(kb+1=9)=False:=eq_false (by omega)
 have k3:(kb+5=5)=False:=eq_false (by omega)
 simp only [h5,k1,go_sem,seval]
 cases ho:decide (p.op.bs=[114,101,97,100])
 ·simp only [go_sem,seval]
  refine c74_loop p hks hk kb eo ew h hkb hkb2 _ (by simp;omega) ih v _ (by rw [get_put,if_neg (by omega)];exact h5) (by rw [get_put,if_neg (by omega)];exact h9) ?_ ?_ _ rfl
  ·simpa using hout.put (.inr (by omega))
  ·intro q q1 q2 q3
   rw [get_put,if_neg (by omega)]
 ·simp only [h5,k1,go_sem,seval]
  obtain ⟨k,ho1,hk1,hk2⟩:=hout
  refine XO_own3 (k1:=k) (ho1.mono (by rw [get_put,if_neg (by omega)])) (El.ints es) (El.ints [p.value]) (by simp) (by simp [big] at *;omega) (by omega) ?_
  intro v' rd pa ho2 hkeep
  have m1:(5=kb+5)=False:=eq_false (by omega)
  have m2:(5=k)=False:=eq_false (by omega)
  have m3:(9=kb+5)=False:=eq_false (by omega)
  have m4:(9=k)=False:=eq_false (by omega)
  have m5:(kb=4)=False:=eq_false (by omega)
  have m6:(kb+1=k)=False:=eq_false (by omega)
  have m7:(kb+1=kb+5)=False:=eq_false (by omega)
  have hg5:=(hkeep 5 (by omega) (by omega)).trans ((by rw [get_put,if_neg (by omega)]:_=h.get 5).trans h5)
  have hg9:=(hkeep 9 (by omega) (by omega)).trans ((by rw [get_put,if_neg (by omega)]:_=h.get 9).trans h9)
  obtain ⟨f1,f2,f3⟩:=ho2.one
  simp only [hg5,k1,k3,f1,f2,f3,hkeep,m1,m2,m5,m6,m7,Nat.zero_add,go_sem,seval]
  refine c74_loop p hks hk kb eo ew h hkb hkb2 (es++[p.value]) (by rw [List.length_append,List.length_singleton];omega) ih v' _ ?_ ?_ ?_ ?_ _ ?_
  rotate_right
  ·rfl
  ·rw [get_put,if_pos rfl]
  ·rw [get_put,if_neg (by omega)];exact hg9
  ·refine Out.put ⟨kb+5,by rw [List.map_append];exact ho2,by omega,by omega⟩ (.inl (by omega))
  ·intro q q1 q2 q3
   rw [get_put,if_neg (Ne.symm q1),hkeep q (by omega) (by intro h;subst h;omega),get_put,if_neg (by omega)]
end
end Go.Tev
end
section
namespace Go.Tev
def insI (x:Int):List Int→List Int
 | []=>[x]
 | y :: r=>if x≤y then x :: y :: r else y :: insI x r
def sortI:List Int→List Int
 | []=>[]
 | x :: r=>insI x (sortI r)
def compI:List Int→List Int
 | []=>[]
 | [x]=>[x]
 | x :: y :: r=>if x=y then compI (y :: r) else x :: compI (y :: r)
theorem insI_len (x:Int):∀ l,(insI x l).length=l.length+1
 | []=>rfl
 | y :: r=>by simp only [insI];split<;>simp [insI_len x r]
theorem sortI_len:∀ l,(sortI l).length=l.length
 | []=>rfl
 | x :: r=>by simp [sortI,insI_len,sortI_len r]
theorem compI_len:∀ l:List Int,(compI l).length≤l.length
 | []=>by simp [compI]
 | [x]=>by simp [compI]
 | x :: y :: r=>by
  have:=compI_len (y :: r)
  simp only [compI];split<;>simp at * <;> omega
theorem mem_insI (x a:Int):∀ l,a∈insI x l↔a=x∨a∈l
 | []=>by simp [insI]
 | y :: r=>by
  simp only [insI]
  split
  ·simp
  ·simp [mem_insI x a r]
   constructor<;>intro h<;>rcases h with h | h | h<;>simp [h]
theorem mem_sortI (a:Int):∀ l,a∈sortI l↔a∈l
 | []=>by simp [sortI]
 | x :: r=>by simp [sortI,mem_insI,mem_sortI a r]
theorem mem_compI (a:Int):∀ l:List Int,a∈compI l↔a∈l
 | []=>by simp [compI]
 | [x]=>by simp [compI]
 | x :: y :: r=>by
  have:=mem_compI a (y :: r)
  simp only [compI]
  split
  ·rename_i h
   subst h
   simp [this]
  ·simp [this]
structure BaseS (pg:Pg):Prop where
 sort:∀ (kb:Nat) (h:Hp) (k e:Nat) (l:List Int),h.get k=some (e,.blk (l.map intA) 1 false false false)→l.length≤big→RetH pg 75 [.rf k e 0 l.length l.length] kb h (.tup []) (h.put k e (.blk ((sortI l).map intA) 1 false false false))
 sortN:∀ (kb:Nat) (h:Hp) (nl cl:Bool),RetH pg 75 [.sl nl [] cl] kb h (.tup []) h
 comp:∀ (kb:Nat) (h:Hp) (k e:Nat) (l:List Int),h.get k=some (e,.blk (l.map intA) 1 false false false)→l.length≤big →
  ∃ tl,RetH pg 76 [.rf k e 0 l.length l.length] kb h (.rf k e 0 (compI l).length l.length) (h.put k e (.blk ((compI l).map intA++tl) 1 false false false))
 compN:∀ (kb:Nat) (h:Hp) (nl cl:Bool),RetH pg 76 [.sl nl [] cl] kb h (.sl nl [] cl) h
def readsV (p:Pull):List Int:=compI (sortI (readsU p))
theorem unchunk_ints:∀ (l:List Int),unchunk 1 false (l.map intA)=some (l.map intA)
 | []=>rfl
 | x :: r=>by
  have ih:=unchunk_ints r
  rw [List.map_cons,unchunk,ih];rfl
section
variable {pg:Pg}
theorem RetHP.mono {f:Nat} {vs:List AV} {kb:Nat} {h:Hp} {P P':AV→Hp→Prop} (hr:RetHP pg f vs kb h P) (hP:∀ r h',P r h'→P' r h'):RetHP pg f vs kb h P':=by
 obtain ⟨r,h',a,b⟩:=hr
 exact ⟨r,h',a,hP r h' b⟩
theorem c48 (S:BaseS pg) (hf:pg.fs 48=some cf48) (h74:pg.fs 74=some cf74) (p:Pull) (hp:p.ok) (hsz:p.sz≤big):RetP pg 48 [p.av] (IsSl 1 false ((readsV p).map intA)):=by
 refine RetP.ofX hf ?_
 unfold cf48
 simp only [go_sem,seval]
 refine XO_callHP (P:=fun r h'=>r = .tup []∧∃ v',h'.get 5=some (0,.blk [v'] 1 false true false)∧Out h' v' ([]++readsU p)) (.inr ?_) (B:=(0+13+1)*65536) rfl ?_ ?_
 ·refine mapS_none (x:=.pt 9 0 0) (by simp) (snap_cycle (f:=74) (cs:=[.pt 5 0 0,.pt 9 0 0]) (ti:=true) (fz:=false) ?_ (by simp) _)
  simp only [go_sem,seval]
 ·rw [← Pull.avc]
  refine RetHP.mono (c74 h74 p hp ((0+13+1)*65536) _ (.sl true [] true) [] 0 0 (by omega) (by omega) (by simpa using hsz) ?_ ?_ ?_) ?_
  ·simp only [go_sem,seval]
  ·simp only [go_sem,seval]
  ·exact ⟨65536+5,Own.nil _ _ _ _ _ _ rfl,by omega,by omega⟩
  ·rintro r h' ⟨q1,q2,_⟩
   exact ⟨q1,q2.elim fun v' hv=>⟨v',hv.1,hv.2⟩⟩
 ·rintro r h' ⟨rfl,v,h5,k,ho,hk1,hk2⟩
  rw [List.nil_append] at ho
  have hlen:(readsU p).length≤big:=Nat.le_trans (readsU_len p) hsz
  simp only [h5,go_sem,seval]
  rcases ho with ⟨hnil,nl,cl,rfl,hc⟩ | ⟨e,cs,rfl,hg,hu⟩
  ·refine XO_callH (.inl rfl) rfl (S.sortN _ _ nl cl) ?_
   simp only [h5,go_sem,seval]
   refine XO_callH (.inl rfl) rfl (S.compN _ _ nl cl) ?_
   simp only [go_sem,seval]
   have hn:readsU p=[]:=by simpa using hnil
   exact .inl ⟨by simp [readsV,hn,sortI,compI],nl,cl,rfl,hc⟩
  ·rw [unchunk_ints] at hu
   cases hu
   have e1:((readsU p).map intA).length=(readsU p).length:=by simp
   rw [e1]
   refine XO_callH (.inl rfl) rfl (S.sort _ h' k e (readsU p) hg hlen) ?_
   have n5:(k=5)=False:=eq_false (by omega)
   have n5':(5=k)=False:=eq_false (by omega)
   simp only [h5,n5,go_sem,seval]
   have hc:=S.comp (baseOf 0 21 [.rf k e 0 (readsU p).length (readsU p).length]) (h'.put k e (.blk ((sortI (readsU p)).map intA) 1 false false false)) k e (sortI (readsU p)) (by rw [get_put,if_pos rfl]) (by rw [sortI_len];exact hlen)
   rw [sortI_len] at hc
   obtain ⟨tl,hc⟩:=hc
   refine XO_callH (.inl rfl) rfl hc ?_
   obtain ⟨cs,q1,q2,q3,q4⟩:=chunk_el (El.ints (readsV p))
   rw [unchunk_ints] at q1
   cases q1
   have hl:((readsV p).map intA).length=(compI (sortI (readsU p))).length:=by simp [readsV]
   have hq:=q4 tl
   rw [hl] at hq
   have hsn:∀ h,mapS (snap 64 h) ((readsV p).map intA)=some ((readsV p).map intA,[]):=fun h=>mapS_tree 63 h (intA_treeL _)
   simp only [conv,go_sem,seval]
   simp only [show List.map intA (compI (sortI (readsU p)))=List.map intA (readsV p) from rfl,hq,depth,hsn]
   exact ⟨_,by simp,.inr rfl⟩
end
end Go.Tev
end
