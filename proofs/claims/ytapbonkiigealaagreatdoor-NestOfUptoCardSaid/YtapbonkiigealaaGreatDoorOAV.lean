import Derived.Test.YtapbonkiigealaaGreatDoorOAU
import Derived.Test.YtapbonkiigealaaGreatDoorOAN
set_option linter.all false
section
namespace Go.Tev
section
variable {pg:Pg}
theorem XO_appNil {kb esz bytes s:Nat} {ag:Bool} {h:Hp} {xs:List AV} {nl cl nl0:Bool} {Q:AV→Eff→Prop} {t:Tok Q} (hx:∀ x∈xs,El esz ag x) (hl:xs.length≤1073741824) (hb:bytes≤65536)
  (q1:xs=[]→Q (.sl nl0 [] true) (.pat [] []))
  (q2:xs ≠ []→∀ cs,unchunk esz ag xs=some cs→Q (.rf (kb+s) (h.next (kb+s)) 0 xs.length xs.length) (.pat [kb+s] [⟨kb+s,h.next (kb+s),.blk cs esz ag false false⟩])) :
  XO pg kb (.app esz ag bytes) s h [.sl nl0 [] true,.sl nl xs cl] Q t:=by
 rw [XO_app]
 obtain ⟨ds,d1,d2,d3,_⟩:=chunk_el hx
 simp only [f_app,srcCells,d1,Option.map_some]
 by_cases hxs:xs=[]
 ·subst hxs
  cases d1
  simp only [appA,List.length_nil,if_true]
  exact q1 rfl
 ·have hn:xs.length ≠ 0:=by simpa using hxs
  simp only [appA,hn,if_false,List.length_nil,Nat.zero_add,Bool.or_true,Bool.true_and,hl,hb,decide_true,Bool.and_self,if_true,unchunk,List.nil_append]
  exact q2 hxs ds d1
theorem XO_appOwn {kb esz bytes s k e n:Nat} {ag:Bool} {h:Hp} {cs:List AV} {es xs:List AV} {nl cl:Bool} {Q:AV→Eff→Prop} {t:Tok Q}
  (hne:n=es.length) (hg:h.get k=some (e,.blk cs esz ag false false)) (hu:unchunk esz ag es=some cs) (hk:(k == kb+s)=false) (he:∀ x∈es,El esz ag x) (hx:∀ x∈xs,El esz ag x) (hxs:xs ≠ [])
  (hl:es.length+xs.length≤1073741824) (hb:bytes≤65536)
  (q2:∀ cs',unchunk esz ag (es++xs)=some cs'→Q (.rf (kb+s) (h.next (kb+s)) 0 (n+xs.length) (n+xs.length)) (.pat [kb+s,k] [⟨k,e,.dead⟩,⟨kb+s,h.next (kb+s),.blk cs' esz ag false false⟩])) :
  XO pg kb (.app esz ag bytes) s h [.rf k e 0 n n,.sl nl xs cl] Q t:=by
 subst hne
 rw [XO_app]
 obtain ⟨ds,d1,d2,d3,_⟩:=chunk_el hx
 simp only [f_app,srcCells,d1,Option.map_some]
 have hn:xs.length ≠ 0:=by simpa using hxs
 obtain ⟨cs',c1,c2,_,_⟩:=chunk_el he
 rw [hu] at c1
 cases c1
 have h1:¬ (es.length+xs.length≤es.length):=by omega
 simp only [appA,hg,hn,if_false,true_and,Nat.zero_add]
 rw [if_pos (by omega)]
 simp only [h1,if_false,hl,hb,decide_true,Bool.true_and,hk,Bool.not_false,if_true,Bool.false_eq_true]
 have h3:(List.drop 0 cs).take (es.length*esz)++ds=cs++ds:=by simp [← c2]
 rw [h3]
 exact q2 _ (unchunk_append hu d1)
def ivOK (hp:Hp) (nl cl:Bool) (vars:List Str) (name:Str) (red:Bool) (iv:AV):Prop:=
 (red=false∧iv = .sl nl (vars.map Str.av) cl)∨(red=true∧∃ k,Own hp k 1 false iv ((vars++[name]).map Str.av))
set_option maxHeartbeats 1000000 in
theorem c164_loop (v:Int) (p:Pull) (nl cl:Bool) (vars:List Str) (hk:p.kids.length≤big) (hks:∀ q∈p.kids,q.ok) (hb:vars.length+1+Pull.szL p.kids≤big)
  (ih:∀ q∈p.kids,q.ok→∀ (nl cl:Bool) (vars:List Str),vars.length+q.sz≤big→Ret pg 164 [q.av,.sl nl (vars.map Str.av) cl,.int .i64 v] (.bool (validU v q vars)))
  (iv:AV) (red b R:Bool) (env:List AV) (hp:Hp)
  (henv:clear cf164M0 env=cf164E0 (.sl nl (vars.map Str.av) cl) (.int .i64 v) (.pt 1 0 0) (.bool b) iv (.int .i64 0))
  (g1:hp.get 1=some (0,.blk [.str p.op.bs,.int .i64 p.num,.int .i64 p.value,.str p.name.bs,.sl p.at_.nl (p.at_.es.map Lin.av) p.at_.cl,.bool p.dyn,.int .i64 p.check,.sl p.fn.nl (p.fn.es.map Step.av) p.fn.cl,.sl p.knl (p.kids.map Pull.av) p.kcl] 9 true true false))
  (hiv:ivOK hp nl cl vars p.name red iv) (hR:R=(b&&validKs v red p.name vars 0 p.kids)) :
  XX pg 0 (.loop cf164L0 cf164M0) ⟨env,hp⟩
   (blockQ 1 (thenQ (fun st'=>XX pg 0 (.seq (.reg [⟨some 110,.mov,[.t 8],none,0,0⟩,⟨some 6,.mov,[.t 110],none,0,0⟩] false) .ret) st' (endQ [.inl 6] (.bool R)) ⟨⟩) (endQ [.inl 6] (.bool R)))) ⟨⟩:=by
 refine XX_list p.kids (fun d r env hp=>∃ ok:Bool,env=cf164E0 (.sl nl (vars.map Str.av) cl) (.int .i64 v) (.pt 1 0 0) (.bool ok) iv (.int .i64 d.length) ∧
  hp.get 1=some (0,.blk [.str p.op.bs,.int .i64 p.num,.int .i64 p.value,.str p.name.bs,.sl p.at_.nl (p.at_.es.map Lin.av) p.at_.cl,.bool p.dyn,.int .i64 p.check,.sl p.fn.nl (p.fn.es.map Step.av) p.fn.cl,.sl p.knl (p.kids.map Pull.av) p.kcl] 9 true true false) ∧
  ivOK hp nl cl vars p.name red iv∧R=(ok&&validKs v red p.name vars d.length r)) ?_ ?_ ?_
 ·exact ⟨b,henv,g1,hiv,hR⟩
 ·clear hiv g1 henv hR hp env
  rintro env hp ⟨ok,rfl,g1,hiv,hR⟩
  simp only [cf164L0,cf164E0,g1,ltSelf,go_sem,seval]
  rw [hR];simp [validKs]
 ·clear hiv g1 henv hR hp env
  rintro d x r env hp hes ⟨ok,rfl,g1,hiv,hR⟩
  obtain ⟨hget,e1,e2,ew⟩:=loopF hes hk
  have hxm:x∈p.kids:=by rw [hes];simp
  have hxs:x.sz≤Pull.szL p.kids:=Pull.szL_mem hxm
  have hx:=ih x hxm (hks x hxm)
  clear ih hks
  cases ok
  case false=>
   simp only [cf164L0,cf164E0,g1,e1,go_sem,seval]
   rw [hR];simp
  case true=>
  simp only [validKs,Bool.true_and] at hR
  have hd1:validKs v red p.name vars (d++[x]).length r=validKs v red p.name vars (d.length+1) r:=by simp
  cases c2:decide ((d.length:Int)=1)
  case false=>
   have a1:=hx nl cl vars (by omega)
   simp only [cf164L0,cf164E0,g1,e1,e2,hget,c2,go_sem,seval]
   refine XO_tree a1 (by simp only [go_sem,seval]) rfl ?_
   simp only [ew,go_sem,seval]
   refine ⟨_,rfl,g1,hiv,?_⟩
   rw [hR,c2,hd1];simp
  case true=>
  rcases hiv with ⟨hr,hv⟩ | ⟨hr,kk,ho⟩
  ·have a1:=hx nl cl vars (by omega)
   subst hv
   simp only [cf164L0,cf164E0,g1,e1,e2,hget,c2,go_sem,seval]
   refine XO_tree a1 (by simp only [go_sem,seval]) rfl ?_
   simp only [ew,go_sem,seval]
   refine ⟨_,rfl,g1,.inl ⟨hr,rfl⟩,?_⟩
   rw [hR,c2,hd1,hr];simp
  ·obtain ⟨nl2,cl2,keys,hsn,hnl⟩:=ho.snap (El.strs (vars++[p.name])) 62
   have a1:=hx nl2 cl2 (vars++[p.name]) (by simp;omega)
   simp only [cf164L0,cf164E0,g1,e1,e2,hget,c2,go_sem,seval]
   refine XO_call a1 (mapS_three (by simp only [go_sem,seval]) hsn (by simp only [go_sem,seval])) (v:=.bool (validU v x (vars++[p.name]))) (pa:=[]) rfl ?_
   simp only [ew,go_sem,seval]
   refine ⟨_,rfl,g1,.inr ⟨hr,kk,ho⟩,?_⟩
   rw [hR,c2,hd1,hr];simp
set_option maxHeartbeats 2000000 in
theorem c164 (hf:pg.fs 164=some cf164) (h192:∀ p:Pull,Ret pg 192 [p.av] (.tup [(onlyP p).av,.bool (onlyB p)]))
  (h118:∀ p:Pull,p.ok→∀ q:Pull,Ret pg 118 [p.av,q.av] (.bool (pullEq p q)))
  (h193:∀ (nl cl:Bool) (ls:List Lin),ls.length≤big→∀ (nl' cl':Bool) (vars:List Str),vars.length≤big→Ret pg 193 [.sl nl (ls.map Lin.av) cl,.sl nl' (vars.map Str.av) cl'] (.bool (overOK ls vars)))
  (h124:pg.fs 124=some cf124) (h77:∀ s:Str,Ret pg 77 [.str s.bs] (.bool (nameU s.bs))) (h194:pg.fs 194=some cf194)
  (h87:∀ (nl cl:Bool) (fn:List Step),fn.length≤big→∀ n:Int,Ret pg 87 [.sl nl (fn.map Step.av) cl,.int .i64 n] (.bool (codeOK fn n))) (v:Int) :
  ∀ p:Pull,p.ok→∀ (nl cl:Bool) (vars:List Str),vars.length+p.sz≤big→Ret pg 164 [p.av,.sl nl (vars.map Str.av) cl,.int .i64 v] (.bool (validU v p vars)):=by
 refine Pull.ind' fun p ih hp nl cl vars hb=>?_
 obtain ⟨hk,hks⟩:=(Pull.ok_iff p).1 hp
 have hsz:=Pull.sz_eq p
 have a1:=h192 p
 have a2:=h118 p hp (onlyP p)
 rw [Pull.avc p] at a1 a2
 have a2':=a2
 rw [Pull.avc (onlyP p)] at a2'
 have a3:=h193 p.at_.nl p.at_.cl p.at_.es p.at_.ok nl cl vars (by omega)
 have a4:=c124i h124 p.num
 have a5:=h77 p.name
 have a6:=c194 h194 nl cl vars (by omega) p.name.bs
 have a7:=h87 p.fn.nl p.fn.cl p.fn.es p.fn.ok 2
 have a8:=h87 p.fn.nl p.fn.cl p.fn.es p.fn.ok p.kids.length
 clear h192 h118 h193 h124 h77 h194 h87
 have hspec:validU v p vars=(onlyB p&&(pullEq p (onlyP p)&&(overOK p.at_.es vars&&(refOwn p vars v&&validKs v (decide (p.op.bs=[114,101,100,117,99,101])) p.name vars 0 p.kids)))):=by
  rw [validU_eq,← refNode_eq]
  (refine Bool.eq_iff_iff.2 ?_;simp only [Bool.and_eq_true];constructor<;>(intro h;simp only [h,and_self]))
 rw [hspec]
 refine Ret.ofX hf ?_
 unfold cf164
 simp only [go_sem,seval]
 refine XO_tree a1 (by simp only [go_sem,seval]) (by rfl) ?_
 have hro:refOwn p vars v=(if p.op.bs=[99,111,110,115,116] then elemOKi p.num
  else if p.op.bs=[114,101,97,100] then decide (0≤p.value)&&decide (p.value < v)&&decide (0≤p.check)
  else if p.op.bs=[114,101,100,117,99,101] then nameU p.name.bs && !hasS vars p.name.bs&&codeOK p.fn.es 2
  else if p.op.bs=[99,111,100,101] then codeOK p.fn.es p.kids.length
  else true):=rfl
 generalize hob:onlyB p=ob at *
 cases ob
 case false=>
  simp only [go_sem,seval]
 case true=>
 simp only [go_sem,seval]
 refine XO_tree a2' (by simp only [go_sem,seval]) rfl ?_
 generalize hpe:pullEq p (onlyP p)=pe at *
 cases pe
 case false=>
  simp only [go_sem,seval]
 case true=>
 simp only [go_sem,seval]
 refine XO_tree a3 (by simp only [go_sem,seval]) rfl ?_
 generalize hov:overOK p.at_.es vars=ov at *
 cases ov
 case false=>
  simp only [go_sem,seval]
 case true=>
 simp only [go_sem,seval]
 have hL:=fun iv b R env hp h1 h2 h3 h4=>c164_loop v p nl cl vars hk hks (by omega) ih iv (decide (p.op.bs=[114,101,100,117,99,101])) b R env hp h1 h2 h3 h4
 clear ih hks a1 a2 a2' a3
 cases o1:decide (p.op.bs=[99,111,110,115,116])
 case true=>
  have h:=of_decide_eq_true o1
  have hr:decide (p.op.bs=[114,101,100,117,99,101])=false:=by rw [h];decide
  rw [hro,if_pos h]
  simp only [go_sem,seval]
  refine XO_tree a4 (by simp only [go_sem,seval]) rfl ?_
  simp only [go_sem,seval]
  exact hL _ _ _ _ _ rfl rfl (.inl ⟨hr,rfl⟩) rfl
 case false=>
 rw [hro,if_neg (of_decide_eq_false o1)]
 simp only [go_sem,seval]
 cases o2:decide (p.op.bs=[114,101,97,100])
 case true=>
  have h:=of_decide_eq_true o2
  have hr:decide (p.op.bs=[114,101,100,117,99,101])=false:=by rw [h];decide
  rw [if_pos h]
  cases q1:decide (0≤p.value)
  case false=>
   simp only [q1,go_sem,seval]
   exact hL _ _ _ _ _ rfl rfl (.inl ⟨hr,rfl⟩) rfl
  case true=>
  cases q2:decide (p.value < v)
  case false=>
   simp only [q1,q2,go_sem,seval]
   exact hL _ _ _ _ _ rfl rfl (.inl ⟨hr,rfl⟩) rfl
  case true=>
   simp only [q1,q2,go_sem,seval]
   exact hL _ _ _ _ _ rfl rfl (.inl ⟨hr,rfl⟩) rfl
 case false=>
 rw [if_neg (of_decide_eq_false o2)]
 simp only [go_sem,seval]
 cases o3:decide (p.op.bs=[114,101,100,117,99,101])
 case true=>
  have h:=of_decide_eq_true o3
  rw [if_pos h]
  simp only [go_sem,seval]
  refine XO_tree a5 (by simp only [go_sem,seval]) rfl ?_
  have hvl:vars.length+1≤1073741824:=by simp only [big] at hb;omega
  have hS:∀ x∈[AV.str p.name.bs],El 1 false x:=by intro x hx;simp at hx;subst hx;exact ⟨rfl,rfl,rfl⟩
  cases nm:nameU p.name.bs
  case false=>
   simp only [go_sem,seval]
   refine XO_appNil (El.strs vars) (by simp;omega) (by decide) (fun he=>?_) (fun he cs hcs=>?_)
   ·have hv:vars=[]:=by simpa using he
    simp only [go_sem,seval]
    refine XO_appNil hS (by simp) (by decide) (fun h=>by cases h) (fun _ cs2 hcs2=>?_)
    cases hcs2
    simp only [go_sem,seval]
    refine And.intro (by kernel_rfl) ?_
    exact hL _ _ _ _ _ rfl rfl (.inr ⟨o3,41,.inr ⟨_,_,by rw [hv];rfl,rfl,by rw [hv];rfl⟩⟩) (by rw [o3];rfl)
   ·simp only [go_sem,seval]
    refine XO_appOwn (es:=vars.map Str.av) (by simp) rfl hcs rfl (El.strs vars) hS (by simp) (by simp;omega) (by decide) (fun cs2 hcs2=>?_)
    simp only [go_sem,seval]
    refine And.intro (by kernel_rfl) ?_
    exact hL _ _ _ _ _ rfl rfl (.inr ⟨o3,41,.inr ⟨_,_,by simp,rfl,by rw [List.map_append];exact hcs2⟩⟩) (by rw [o3];rfl)
  case true=>
  simp only [go_sem,seval]
  refine XO_tree a6 (by simp only [go_sem,seval]) rfl ?_
  cases hs:hasS vars p.name.bs
  case true=>
   simp only [go_sem,seval]
   refine XO_appNil (El.strs vars) (by simp;omega) (by decide) (fun he=>?_) (fun he cs hcs=>?_)
   ·have hv:vars=[]:=by simpa using he
    simp only [go_sem,seval]
    refine XO_appNil hS (by simp) (by decide) (fun h=>by cases h) (fun _ cs2 hcs2=>?_)
    cases hcs2
    simp only [go_sem,seval]
    refine And.intro (by kernel_rfl) ?_
    exact hL _ _ _ _ _ rfl rfl (.inr ⟨o3,41,.inr ⟨_,_,by rw [hv];rfl,rfl,by rw [hv];rfl⟩⟩) (by rw [o3];rfl)
   ·simp only [go_sem,seval]
    refine XO_appOwn (es:=vars.map Str.av) (by simp) rfl hcs rfl (El.strs vars) hS (by simp) (by simp;omega) (by decide) (fun cs2 hcs2=>?_)
    simp only [go_sem,seval]
    refine And.intro (by kernel_rfl) ?_
    exact hL _ _ _ _ _ rfl rfl (.inr ⟨o3,41,.inr ⟨_,_,by simp,rfl,by rw [List.map_append];exact hcs2⟩⟩) (by rw [o3];rfl)
  case false=>
  simp only [go_sem,seval]
  refine XO_tree a7 (by simp only [go_sem,seval]) rfl ?_
  simp only [go_sem,seval]
  refine XO_appNil (El.strs vars) (by simp;omega) (by decide) (fun he=>?_) (fun he cs hcs=>?_)
  ·have hv:vars=[]:=by simpa using he
   simp only [go_sem,seval]
   refine XO_appNil hS (by simp) (by decide) (fun h=>by cases h) (fun _ cs2 hcs2=>?_)
   cases hcs2
   simp only [go_sem,seval]
   refine And.intro (by kernel_rfl) ?_
   exact hL _ _ _ _ _ rfl rfl (.inr ⟨o3,41,.inr ⟨_,_,by rw [hv];rfl,rfl,by rw [hv];rfl⟩⟩) (by rw [o3];rfl)
  ·simp only [go_sem,seval]
   refine XO_appOwn (es:=vars.map Str.av) (by simp) rfl hcs rfl (El.strs vars) hS (by simp) (by simp;omega) (by decide) (fun cs2 hcs2=>?_)
   simp only [go_sem,seval]
   refine And.intro (by kernel_rfl) ?_
   exact hL _ _ _ _ _ rfl rfl (.inr ⟨o3,41,.inr ⟨_,_,by simp,rfl,by rw [List.map_append];exact hcs2⟩⟩) (by rw [o3];rfl)
 case false=>
 rw [if_neg (of_decide_eq_false o3)]
 simp only [go_sem,seval]
 cases o4:decide (p.op.bs=[99,111,100,101])
 case true=>
  have h:=of_decide_eq_true o4
  rw [if_pos h]
  simp only [go_sem,seval]
  refine XO_tree a8 (by simp only [go_sem,seval]) rfl ?_
  simp only [go_sem,seval]
  exact hL _ _ _ _ _ rfl rfl (.inl ⟨o3,rfl⟩) (by rw [o3];rfl)
 case false=>
  rw [if_neg (of_decide_eq_false o4)]
  simp only [go_sem,seval]
  exact hL _ _ _ _ _ rfl rfl (.inl ⟨o3,rfl⟩) (by rw [o3];rfl)
end
end Go.Tev
end
section
namespace Go.Tev
section
variable {pg:Pg}
theorem c123 (hf:pg.fs 123=some cf123) (h40:pg.fs 40=some cf40) (h164:∀ v:Int,∀ p:Pull,p.ok→∀ (nl cl:Bool) (vars:List Str),vars.length+p.sz≤big→Ret pg 164 [p.av,.sl nl (vars.map Str.av) cl,.int .i64 v] (.bool (validU v p vars)))
  (p:Pull) (hp:p.ok) (nl cl:Bool) (vars:List Str) (hb:vars.length+p.sz≤big) (v:Int):Ret pg 123 [p.av,.sl nl (vars.map Str.av) cl,.int .i64 v] (.bool (pullOK p vars v)):=by
 have a1:=c40 h40 p hp
 have a2:=h164 v p hp nl cl vars hb
 rw [Pull.avc] at a1 a2
 refine Ret.ofX hf ?_
 clear h40 h164
 unfold cf123
 simp only [go_sem,seval]
 refine XO_tree a1 (by simp only [go_sem,seval]) rfl ?_
 cases c1:decide (nodesU p≤4000)
 ·simp only [c1,go_sem,seval]
  simp [pullOK,c1]
 ·simp only [c1,go_sem,seval]
  refine XO_tree a2 (by simp only [go_sem,seval]) rfl ?_
  simp only [go_sem,seval]
  simp [pullOK,c1]
end
end Go.Tev
end
section
namespace Go.Tev
section
variable {pg:Pg}
theorem c572 (hf:pg.fs 572=some cf572) (nl cl:Bool) (vars:List Str) (hb:vars.length≤big) (s:List UInt8):Ret pg 572 [.sl nl (vars.map Str.av) cl,.str s] (.bool (hasS vars s)):=by
 refine Ret.ofX hf ?_
 unfold cf572
 simp only [go_sem,seval]
 refine XX_list vars (fun d r env hp=>env=cf572E0 (.sl nl (vars.map Str.av) cl) (.str s) (.int .i64 d.length)∧hasS vars s=hasS r s) ?_ ?_ ?_
 ·exact ⟨rfl,rfl⟩
 ·rintro env hp ⟨rfl,hI⟩
  simp only [cf572L0,cf572E0,ltSelf,go_sem,seval]
  rw [hI];rfl
 ·rintro d x r env hp hes ⟨rfl,hI⟩
  obtain ⟨hget,e1,e2,ew⟩:=loopF hes hb
  have hsym:decide (x.bs=s)=decide (s=x.bs):=by rw [decide_eq_decide];exact eq_comm
  cases hx:decide (s=x.bs)
  ·simp only [cf572L0,cf572E0,e1,e2,hget,hsym,hx,ew,go_sem,seval]
   refine ⟨rfl,?_⟩
   rw [hI];simp [hasS,hx]
  ·simp only [cf572L0,cf572E0,e1,e2,hget,hsym,hx,go_sem,seval]
   rw [hI];simp [hasS,hx]
theorem c595 (hf:pg.fs 595=some cf595) (l:Lin):RetP pg 595 [l.av] (IsSl 1 false (l.ts.es.map fun x => .str x.v.bs)):=by
 refine RetP.ofX hf ?_
 have hb:=l.ts.ok
 have hel:∀ d:List Coef,∀ x∈d.map (fun x:Coef=>AV.str x.v.bs),El 1 false x:=by
  intro d x hx
  simp only [List.mem_map] at hx
  obtain ⟨y,_,rfl⟩:=hx
  exact El.str _
 unfold cf595
 simp only [go_sem,seval]
 refine XX_list l.ts.es (fun d r env hp=>∃ v,env=cf595E0 (.pt 1 0 0) v (.int .i64 d.length)∧hp.get 1=some (0,.blk [.int .i64 l.c,.sl l.ts.nl (l.ts.es.map Coef.av) l.ts.cl] 2 true true false)∧Own hp 5 1 false v (d.map fun x => .str x.v.bs)) ?_ ?_ ?_
 ·exact ⟨_,rfl,rfl,Own.nil _ _ _ _ _ _ rfl⟩
 ·rintro env hp ⟨v,rfl,h1,ho⟩
  simp only [cf595L0,cf595E0,h1,ltSelf,go_sem,seval]
  exact ho.conv (hel _)
 ·rintro d x r env hp hes ⟨v,rfl,h1,ho⟩
  obtain ⟨hget,e1,e2,ew⟩:=loopF hes hb
  simp only [cf595L0,cf595E0,h1,e1,e2,hget,go_sem,seval]
  refine XO_own (kb:=0) (s:=5) (bytes:=16) (es:=d.map fun x => .str x.v.bs) ho (hel _) (xs:=[.str x.v.bs]) (by intro y hy;simp at hy;subst hy;exact El.str _) ?_ (by decide) ?_
  ·have:l.ts.es.length=d.length+(r.length+1):=by rw [hes];simp
   simp [big] at hb ⊢;omega
  ·intro v' rd pa ho' hk hpa
   simp only [ew,go_sem,seval]
   exact ⟨v',rfl,by rw [hk 1 (by omega)];exact h1,by simpa using ho'⟩
theorem c573 (hf:pg.fs 573=some cf573) (h54:∀ l:Lin,Ret pg 54 [l.av] (.bool (linOK l))) (h595:pg.fs 595=some cf595) (h572:pg.fs 572=some cf572) (l:Lin) (nl cl:Bool) (vars:List Str) (hb:vars.length≤big) :
  Ret pg 573 [l.av,.sl nl (vars.map Str.av) cl] (.bool (linIn vars l)):=by
 have a1:=h54 l
 have a2:=c595 h595 l
 rw [Lin.avc] at a1 a2
 refine Ret.ofX hf ?_
 unfold cf573
 simp only [go_sem,seval]
 refine XO_tree (a1) (by simp only [go_sem,seval]) rfl ?_
 cases b1:linOK l
 ·simp only [go_sem,seval]
  simp [linIn,b1]
 simp only [go_sem,seval]
 refine XO_sl a2 (by simp only [go_sem,seval]) ?_
 intro nl2 cl2 _
 simp only [go_sem,seval]
 have hlb:=l.ts.ok
 refine XX_list l.ts.es (fun d r env hp=>env=cf573E0 (.sl nl (vars.map Str.av) cl) (.sl nl2 (l.ts.es.map fun x => .str x.v.bs) cl2) (.int .i64 d.length)∧l.ts.es.all (fun x=>hasS vars x.v.bs)=r.all (fun x=>hasS vars x.v.bs)) ?_ ?_ ?_
 ·exact ⟨rfl,rfl⟩
 ·rintro env hp ⟨rfl,hI⟩
  simp only [cf573L0,cf573E0,ltSelf,go_sem,seval]
  simp [linIn,b1,hI]
 ·rintro d x r env hp hes ⟨rfl,hI⟩
  obtain ⟨hget,e1,e2,ew⟩:=loopF hes hlb
  simp only [cf573L0,cf573E0,e1,e2,hget,go_sem,seval]
  refine XO_tree (c572 h572 nl cl vars hb x.v.bs) (by simp only [go_sem,seval]) rfl ?_
  cases hv:hasS vars x.v.bs
  ·simp only [go_sem,seval]
   simp [linIn,b1,hI,hv]
  ·simp only [ew,go_sem,seval]
   exact ⟨rfl,by rw [hI];simp [hv]⟩
theorem c574 (hf:pg.fs 574=some cf574) (h118:∀ p q:Pull,p.ok→Ret pg 118 [p.av,q.av] (.bool (pullEq p q))) (p:Pull) (hp:p.ok):Ret pg 574 [p.av] (.bool (pullEq p zeroP)):=by
 have a4:=h118 p zeroP hp
 rw [Pull.avc] at a4
 have z4:zeroP.av=_:=Pull.avc zeroP
 refine Ret.ofX hf ?_
 unfold cf574
 simp only [go_sem,seval]
 refine XO_tree a4 (by simp only [go_sem,seval]) rfl ?_
 simp only [go_sem,seval]
theorem overOK_cons' (x:Lin) (r:List Lin) (vars:List Str):overOK (x :: r) vars=(linIn vars x&&overOK r vars):=by simp [overOK,linIn]
end
end Go.Tev
end
