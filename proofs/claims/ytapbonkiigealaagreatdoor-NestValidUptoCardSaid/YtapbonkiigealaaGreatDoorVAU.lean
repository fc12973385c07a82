import Derived.Test.YtapbonkiigealaaGreatDoorVAS
import Derived.Test.YtapbonkiigealaaGreatDoorVAM
import Derived.Test.YtapbonkiigealaaGreatDoorVAT
import Derived.Test.YtapbonkiigealaaGreatDoorVAN
import Derived.Test.YtapbonkiigealaaGreatDoorVAO
set_option linter.all false
section
namespace Go.Tev
def loopOK (x:Loop) (all:List Str):Bool:=
 nameU x.v.bs && !hasS all x.v.bs&&(!decide ((x.hi.es.length:Int) < 1) && !decide (4 < (x.hi.es.length:Int)) && !decide (x.step < 1) && !decide (4096 < x.step))&&(overOK x.hi.es all&&overOK [x.lo] all)
def loopsOK:List Loop→List Str→Bool
 | [],_=>true
 | x :: r,all=>loopOK x all&&loopsOK r (all++[x.v])
def loopedR (l:List Loop) (vars:List Str) (r:AV):Prop:=
 if loopsOK l vars=true then ∃ nl cl,(nl=true→vars++l.map (·.v)=[])∧r = .tup [.sl nl ((vars++l.map (·.v)).map Str.av) cl,.bool (decide ((l.length:Int)≤12))]
 else r = .tup [.sl true [] true,.bool false]
theorem conv_two {h:Hp} {v t w:AV} {keys:List Nat} (hw:w.tree=true) (hs:snap 63 h v=some (t,keys)):conv h (.tup [v,w])=some (.tup [t,w]):=by
 show (snap depth h (.tup [v,w])).map (·.1)=_
 have e2:snap 63 h w=some (w,[]):=by unfold snap;rw [if_pos hw]
 show (snap 64 h (.tup [v,w])).map (·.1)=_
 unfold snap
 split
 ·rename_i ht
  have hv:v.tree=true:=by simp only [AV.tree,treeL,Bool.and_eq_true] at ht;exact ht.1
  have e1:snap 63 h v=some (v,[]):=by unfold snap;rw [if_pos hv]
  rw [e1] at hs
  cases hs
  rfl
 ·simp only [mapS,hs,e2,Option.map_some,Option.map]
section
variable {pg:Pg}
theorem c607 (hf:pg.fs 607=some cf607) (nl cl:Bool) (es:List Coef) (hb:es.length≤big) (g:Nat) (cs:List AV) (hcs:treeL cs=true) (p:Coef→Bool) (hp:∀ x∈es,Ret pg g (x.av :: cs) (.bool (p x))) :
  RetP pg 607 [.sl nl (es.map Coef.av) cl,.fn g cs] (fun r=>∃ i:Int,r = .int .i64 i∧decide (0≤i)=es.any p):=
 idxF_ok (f:=607) (esz:=2) (ag:=true) hf Coef.av Coef.fits_av Coef.tree_av nl cl es hb g cs hcs p hp
theorem c593 (hf:pg.fs 593=some cf593) (h607:pg.fs 607=some cf607) (nl cl:Bool) (es:List Coef) (hb:es.length≤big) (g:Nat) (cs:List AV) (hcs:treeL cs=true) (p:Coef→Bool) (hp:∀ x∈es,Ret pg g (x.av :: cs) (.bool (p x))) :
  Ret pg 593 [.sl nl (es.map Coef.av) cl,.fn g cs] (.bool (es.any p)):=
 conF_ok (n:=607) hf (by simp only [treeL,tree_sl,tree_fn,hcs,Coef.treeL_av,Bool.and_true]) (c607 h607 nl cl es hb g cs hcs p hp)
theorem c594 (hf:pg.fs 594=some cf594) (h98:pg.fs 98=some cf98) (h138:pg.fs 138=some cf138) (nl cl:Bool) (es:List Str) (hb:es.length≤big) (x:Coef) :
  Ret pg 594 [x.av,.fp (.sl nl (es.map Str.av) cl)] (.bool (!hasS es x.v.bs)):=by
 refine Ret.ofX hf ?_
 unfold cf594
 simp only [go_sem,seval]
 refine XO_tree (c98 h98 h138 nl cl es hb x.v.bs) (by simp only [go_sem,seval]) rfl ?_
 simp only [go_sem,seval]
 rfl
def linIn (vars:List Str) (l:Lin):Bool:=linOK l&&l.ts.es.all fun x=>hasS vars x.v.bs
theorem c592 (hf:pg.fs 592=some cf592) (h51:∀ l:Lin,Ret pg 51 [l.av] (.bool (linOK l))) (h593:pg.fs 593=some cf593) (h607:pg.fs 607=some cf607) (h594:pg.fs 594=some cf594) (h98:pg.fs 98=some cf98) (h138:pg.fs 138=some cf138)
  (nl cl:Bool) (es:List Str) (hb:es.length≤big) (l:Lin):Ret pg 592 [l.av,.fp (.sl nl (es.map Str.av) cl)] (.bool (!linIn es l)):=by
 have a1:=h51 l
 have a2:=c593 h593 h607 l.ts.nl l.ts.cl l.ts.es l.ts.ok 594 [.fp (.sl nl (es.map Str.av) cl)] (by simp only [go_sem,seval]) (fun x => !hasS es x.v.bs) (fun x _=>c594 h594 h98 h138 nl cl es hb x)
 rw [Lin.avc] at a1
 have hany:(l.ts.es.any fun x => !hasS es x.v.bs) = !(l.ts.es.all fun x=>hasS es x.v.bs):=by simp [List.not_all_eq_any_not]
 rw [hany] at a2
 refine Ret.ofX hf ?_
 unfold cf592
 simp only [go_sem,seval]
 refine XO_tree (a1) (by simp only [go_sem,seval]) rfl ?_
 cases b1:linOK l
 ·simp only [go_sem,seval]
  simp [linIn,b1]
 ·simp only [go_sem,seval]
  refine XO_tree (a2) (by simp only [go_sem,seval]) rfl ?_
  simp only [go_sem,seval]
  simp [linIn,b1]
theorem c571 (hf:pg.fs 571=some cf571) (h175:pg.fs 175=some cf175) (h205:pg.fs 205=some cf205) (h592:∀ (nl cl:Bool) (es:List Str),es.length≤big→∀ l:Lin,Ret pg 592 [l.av,.fp (.sl nl (es.map Str.av) cl)] (.bool (!linIn es l)))
  (nl cl:Bool) (ls:List Lin) (hb:ls.length≤big) (nl' cl':Bool) (vars:List Str) (hb':vars.length≤big):Ret pg 571 [.sl nl (ls.map Lin.av) cl,.sl nl' (vars.map Str.av) cl'] (.bool (overOK ls vars)):=by
 have a2:=c175 h175 h205 nl cl ls hb 592 [.fp (.sl nl' (vars.map Str.av) cl')] (by simp only [go_sem,seval]) (fun l => !linIn vars l) (fun l _=>h592 nl' cl' vars hb' l)
 have hany:(ls.any fun l => !linIn vars l) = !overOK ls vars:=by simp only [overOK];rw [List.not_all_eq_any_not];rfl
 rw [hany] at a2
 refine Ret.ofX hf ?_
 unfold cf571
 simp only [go_sem,seval]
 refine XO_call a2 (by simp only [depth,mapS_nil,mapS_cons,snapX,go_sem,seval];rfl) (by rfl) ?_
 simp only [go_sem,seval]
 simp
theorem c570 (hf:pg.fs 570=some cf570) (h107:pg.fs 107=some cf107) (h57:∀ s:Str,Ret pg 57 [.str s.bs] (.bool (nameU s.bs))) (h98:pg.fs 98=some cf98) (h138:pg.fs 138=some cf138)
  (h571:∀ (nl cl:Bool) (ls:List Lin),ls.length≤big→∀ (nl' cl':Bool) (vars:List Str),vars.length≤big→Ret pg 571 [.sl nl (ls.map Lin.av) cl,.sl nl' (vars.map Str.av) cl'] (.bool (overOK ls vars)))
  (nl cl:Bool) (l:List Loop) (nl' cl':Bool) (vars:List Str) (hnl':nl'=true→vars=[]) (hb:vars.length+l.length≤big) :
  RetP pg 570 [.sl nl (l.map Loop.av) cl,.sl nl' (vars.map Str.av) cl'] (loopedR l vars):=by
 refine RetP.ofX hf ?_
 unfold cf570
 simp only [go_sem,seval]
 refine XO_slO (c107 h107 nl' cl' (vars.map Str.av) (El.strs vars) (by simp;omega) (by intro h;simp [hnl' h])) (by simp only [go_sem,seval]) (El.strs _) ?_
 intro v0 rd pa ho0 hk0 _
 simp only [go_sem,seval]
 clear hk0
 generalize hH:Eff.app _ (Eff.pat rd pa)=H at ho0 ⊢
 clear hH
 refine XX_list l (fun d r env hp=>∃ v kk,env=cf570E0 (.sl nl (l.map Loop.av) cl) v (.sl nl (l.map Loop.av) cl) (.int .i64 l.length) (.int .i64 d.length)∧(kk=1∨kk=25)∧Own hp kk 1 false v ((vars++d.map (·.v)).map Str.av)∧loopsOK l vars=loopsOK r (vars++d.map (·.v))) ?_ ?_ ?_
 ·exact ⟨v0,1,rfl,.inl rfl,by simpa using ho0,by simp⟩
 ·rintro env hp ⟨v,kk,rfl,hkk,ho,hI⟩
  obtain ⟨nl8,cl8,keys,hsn,hnl8⟩:=ho.snap (El.strs _) 61
  simp only [cf570L0,cf570E0,Int.lt_irrefl,go_sem,seval]
  refine ⟨_,conv_two rfl hsn,?_⟩
  rw [loopedR,hI,loopsOK,if_pos rfl]
  exact ⟨nl8,cl8,fun h=>by simpa using hnl8 h,rfl⟩
 ·rintro d x r env hp hes ⟨v,kk,rfl,hkk,ho,hI⟩
  have hb2:(d++x :: r).length≤big:=by rw [← hes];omega
  obtain ⟨hget,e1,e2,ew⟩:=loopF hes (by rw [hes];exact hb2)
  have a57:=h57 x.v
  have a98:=c98 h98 h138
  have hI2:loopsOK l vars=(loopOK x (vars++d.map (·.v))&&loopsOK r (vars++(d++[x]).map (·.v))):=by rw [hI,loopsOK];simp
  have hbad:loopOK x (vars++d.map (·.v))=false→loopedR l vars (.tup [.sl true [] true,.bool false]):=by
   intro h
   rw [loopedR,hI2,h]
   rfl
  clear hI
  have hl1:(vars++d.map (·.v)).length≤big:=by
   have:l.length=d.length+(r.length+1):=by rw [hes];simp
   simp;omega
  have hl2:(vars++d.map (·.v)).length+1≤big:=by
   have:l.length=d.length+(r.length+1):=by rw [hes];simp
   simp;omega
  generalize hall:vars++d.map (·.v)=all at *
  simp only [cf570L0,cf570E0,e1,e2,hget,go_sem,seval]
  refine XO_tree (a57) (by simp only [go_sem,seval]) rfl ?_
  cases b1:nameU x.v.bs
  case false=>
   simp only [go_sem,seval]
   exact hbad (by simp [loopOK,b1])
  simp only [go_sem,seval]
  generalize hH2:Hp.put (Hp.put hp 5 (hp.next 5) _) 5 (hp.next 5) _=H2
  have q5:H2.get 5=some (hp.next 5,.blk [AV.str x.v.bs,AV.int IntKind.i64 x.lo.c,AV.sl x.lo.ts.nl (List.map Coef.av x.lo.ts.es) x.lo.ts.cl,AV.sl x.hi.nl (List.map Lin.av x.hi.es) x.hi.cl,AV.int IntKind.i64 x.step] 5 true true false):=by
   rw [← hH2,get_put,if_pos rfl]
  have hot:∀ k,k ≠ 5→H2.get k=hp.get k:=fun k hk=>by rw [← hH2,get_put,if_neg (Ne.symm hk),get_put,if_neg (Ne.symm hk)]
  have ho2:=ho.mono (hot kk (by omega))
  clear hH2 hot ho
  obtain ⟨nl8,cl8,keys,hsn,_⟩:=ho2.snap (El.strs _) 62
  refine XO_call (a98 nl8 cl8 all hl1 x.v.bs) (mapS_two' hsn rfl) (v:=.bool (hasS all x.v.bs)) (pa:=[]) rfl ?_
  have a3:=h571 x.hi.nl x.hi.cl x.hi.es x.hi.ok nl8 cl8 all hl1
  have a4:=h571 false true [x.lo] (by simp [big]) nl8 cl8 all hl1
  simp only [List.map_cons,List.map_nil,Lin.avc] at a4
  cases b2:hasS all x.v.bs
  case true=>
   simp only [go_sem,seval]
   exact hbad (by simp [loopOK,b2])
  cases b3:decide ((x.hi.es.length:Int) < 1)
  case true=>
   simp only [q5,b3,go_sem,seval]
   exact hbad (by simp [loopOK,b3])
  cases b4:decide (4 < (x.hi.es.length:Int))
  case true=>
   simp only [q5,b3,b4,go_sem,seval]
   exact hbad (by simp [loopOK,b4])
  cases b5:decide (x.step < 1)
  case true=>
   simp only [q5,b3,b4,b5,go_sem,seval]
   exact hbad (by simp [loopOK,b5])
  cases b6:decide (4096 < x.step)
  case true=>
   simp only [q5,b3,b4,b5,b6,go_sem,seval]
   exact hbad (by simp [loopOK,b6])
  simp only [q5,b3,b4,b5,b6,go_sem,seval]
  refine XO_call a3 (mapS_two (by simp only [go_sem,seval]) hsn) (v:=.bool (overOK x.hi.es all)) (pa:=[]) rfl ?_
  cases b7:overOK x.hi.es all
  case false=>
   simp only [go_sem,seval]
   exact hbad (by simp [loopOK,b7])
  simp only [q5,go_sem,seval]
  refine XO_call a4 (mapS_two (by simp only [go_sem,seval]) hsn) (v:=.bool (overOK [x.lo] all)) (pa:=[]) rfl ?_
  cases b8:overOK [x.lo] all
  case false=>
   simp only [go_sem,seval]
   exact hbad (by simp [loopOK,b8])
  simp only [q5,go_sem,seval]
  refine XO_own3 (kb:=0) (s:=25) (k1:=kk) ho2 (El.strs _) (xs:=[.str x.v.bs]) (by intro y hy;simp at hy;subst hy;exact El.str _) (by simp) (by simp [big] at hl2 ⊢;omega) (by omega) ?_
  intro v' rd' pa' ho3 _
  simp only [wr_mid hb2,go_sem,seval]
  refine ⟨v',25,rfl,.inr rfl,?_,?_⟩
  ·subst hall
   simpa [Str.av] using ho3
  ·rw [hI2]
   have:loopOK x all=true:=by simp [loopOK,b1,b2,b3,b4,b5,b6,b7,b8]
   rw [this,Bool.true_and]
end
end Go.Tev
end
section
namespace Go.Tev
def allV (n:Nest) (vars:List Str):List Str:=vars++n.loops.es.map (·.v)
def mostAt (n:Nest):Int:=if n.dyn then 5 else 6
def nestOK (n:Nest) (vars:List Str) (values:Int):Bool:=
 loopsOK n.loops.es vars&&decide ((n.loops.es.length:Int)≤12) && !decide (n.value < 0) && !decide (values≤n.value) && !decide (mostAt n < (n.at_.es.length:Int))&&overOK n.at_.es (allV n vars)&&pullOK n.body (allV n vars) values &&
 (if n.dyn=true then pullOK n.index (allV n vars) values&&decide (0≤n.check) else pullEq n.index zeroP&&decide (n.check=0))
structure NestSz (n:Nest) (vars:List Str):Prop where
 body:n.body.ok
 index:n.index.ok
 szb:vars.length+n.loops.es.length+n.body.sz≤big
 szi:vars.length+n.loops.es.length+n.index.sz≤big
section
variable {pg:Pg}
theorem c557 (hf:pg.fs 557=some cf557)
  (h570:∀ (nl cl:Bool) (l:List Loop) (nl' cl':Bool) (vars:List Str),(nl'=true→vars=[])→vars.length+l.length≤big→RetP pg 570 [.sl nl (l.map Loop.av) cl,.sl nl' (vars.map Str.av) cl'] (loopedR l vars))
  (h571:∀ (nl cl:Bool) (ls:List Lin),ls.length≤big→∀ (nl' cl':Bool) (vars:List Str),vars.length≤big→Ret pg 571 [.sl nl (ls.map Lin.av) cl,.sl nl' (vars.map Str.av) cl'] (.bool (overOK ls vars)))
  (h109:∀ p:Pull,p.ok→∀ (nl cl:Bool) (vars:List Str),vars.length+p.sz≤big→∀ v:Int,Ret pg 109 [p.av,.sl nl (vars.map Str.av) cl,.int .i64 v] (.bool (pullOK p vars v)))
  (h105:∀ p q:Pull,p.ok→Ret pg 105 [p.av,q.av] (.bool (pullEq p q)))
  (n:Nest) (nl cl:Bool) (vars:List Str) (hnl:nl=true→vars=[]) (hsz:NestSz n vars) (values:Int) :
  Ret pg 557 [n.av,.sl nl (vars.map Str.av) cl,.int .i64 values] (.bool (nestOK n vars values)):=by
 obtain ⟨r,hr,hs⟩:=h570 n.loops.nl n.loops.cl n.loops.es nl cl vars hnl (by have:=hsz.szb;omega)
 refine Ret.ofX hf ?_
 unfold cf557
 cases b1:loopsOK n.loops.es vars
 case false=>
  rw [loopedR,b1,if_neg (by simp)] at hs
  subst hs
  simp only [go_sem,seval]
  refine XO_tree (hr) (by simp only [go_sem,seval]) rfl ?_
  cases b2:n.dyn<;>(simp only [b2,go_sem,seval];simp [nestOK,b1])
 rw [loopedR,b1,if_pos rfl] at hs
 obtain ⟨nl2,cl2,hnl2,rfl⟩:=hs
 have hall:(allV n vars).length≤big:=by simp [allV];have:=hsz.szb;omega
 have a1:=h571 n.at_.nl n.at_.cl n.at_.es n.at_.ok nl2 cl2 (allV n vars) hall
 have a2:=h109 n.body hsz.body nl2 cl2 (allV n vars) (by simp [allV];have:=hsz.szb;omega) values
 have a3:=h109 n.index hsz.index nl2 cl2 (allV n vars) (by simp [allV];have:=hsz.szi;omega) values
 have a4:=h105 n.index zeroP hsz.index
 rw [Pull.avc] at a2 a3 a4
 have hd:nestOK n vars values=(decide ((n.loops.es.length:Int)≤12) && !decide (n.value < 0) && !decide (values≤n.value) && !decide (mostAt n < (n.at_.es.length:Int))&&overOK n.at_.es (allV n vars)&&pullOK n.body (allV n vars) values &&
  (if n.dyn=true then pullOK n.index (allV n vars) values&&decide (0≤n.check) else pullEq n.index zeroP&&decide (n.check=0))):=by simp [nestOK,b1]
 rw [hd]
 clear hd
 change Ret pg 570 _ (.tup [.sl nl2 ((allV n vars).map Str.av) cl2,_]) at hr
 generalize allV n vars=all at *
 have z4:zeroP.av=_:=Pull.avc zeroP
 have w5:wr .i64 5=5:=rfl
 simp only [go_sem,seval]
 refine XO_tree hr (by simp only [go_sem,seval]) (by first | rfl | simp [AV.tree,go_sem]) ?_
 cases b2:decide ((n.loops.es.length:Int)≤12)
 case false=>cases b0:n.dyn<;>(simp only [b0,go_sem,seval];try simp)
 cases b3:decide (n.value < 0)
 case true=>cases b0:n.dyn<;>(simp only [b0,b3,go_sem,seval];try simp)
 cases b4:decide (values≤n.value)
 case true=>cases b0:n.dyn<;>(simp only [b0,b3,b4,go_sem,seval];try simp)
 cases b5:decide (mostAt n < (n.at_.es.length:Int))
 case true=>
  cases b0:n.dyn
  ·have b6:decide (6 < (n.at_.es.length:Int))=true:=by simpa [mostAt,b0] using b5
   simp only [b0,b3,b4,b6,w5,go_sem,seval]
   try simp
  ·have b6:decide (5 < (n.at_.es.length:Int))=true:=by simpa [mostAt,b0] using b5
   simp only [b0,b3,b4,b6,w5,go_sem,seval]
   try simp
 cases b0:n.dyn
 ·have b6:decide (6 < (n.at_.es.length:Int))=false:=by simpa [mostAt,b0] using b5
  simp only [b0,b3,b4,b6,w5,go_sem,seval]
  refine XO_tree a1 (by simp only [go_sem,seval]) rfl ?_
  cases b7:overOK n.at_.es all
  ·simp only [go_sem,seval]
   try simp
  simp only [go_sem,seval]
  refine XO_tree a2 (by simp only [go_sem,seval]) rfl ?_
  cases b8:pullOK n.body all values
  ·simp only [go_sem,seval]
   try simp
  simp only [b0,go_sem,seval]
  refine XO_tree a4 (by simp only [go_sem,seval]) rfl ?_
  cases b9:pullEq n.index zeroP<;>(simp only [go_sem,seval];try simp)
 ·have b6:decide (5 < (n.at_.es.length:Int))=false:=by simpa [mostAt,b0] using b5
  simp only [b0,b3,b4,b6,w5,go_sem,seval]
  refine XO_tree a1 (by simp only [go_sem,seval]) rfl ?_
  cases b7:overOK n.at_.es all
  ·simp only [go_sem,seval]
   try simp
  simp only [go_sem,seval]
  refine XO_tree a2 (by simp only [go_sem,seval]) rfl ?_
  cases b8:pullOK n.body all values
  ·simp only [go_sem,seval]
   try simp
  simp only [b0,go_sem,seval]
  refine XO_tree a3 (by simp only [go_sem,seval]) rfl ?_
  cases b9:pullOK n.index all values<;>(simp only [go_sem,seval];try simp)
end
end Go.Tev
end
section
namespace Go.Tev
def iEq (x y:Int):Bool:=decide (x=y)
section
variable {pg:Pg}
theorem c15g (hf:pg.fs 15=some cf15) (nl cl nl' cl':Bool) (a b:List Int) (hb:a.length≤big):Ret pg 15 [.sl nl (a.map intA) cl,.sl nl' (b.map intA) cl'] (.bool (eqL iEq a b)):=by
 refine Ret.ofX hf ?_
 unfold cf15
 cases b2:decide ((a.length:Int)=(b.length:Int))
 case false=>
  simp only [b2,go_sem,seval]
  rw [eqL_ne b2]
 case true=>
 have hl:a.length=b.length:=by have:=of_decide_eq_true b2;omega
 simp only [b2,go_sem,seval]
 refine XX_list a (fun d r env hp=>env=cf15E0 (.sl nl (a.map intA) cl) (.sl nl' (b.map intA) cl') (.int .i64 d.length)∧eqL iEq a b=eqL iEq r (b.drop d.length)) ?_ ?_ ?_
 ·exact ⟨rfl,rfl⟩
 ·rintro env hp ⟨rfl,hI⟩
  simp only [cf15L0,cf15E0,ltSelf,go_sem,seval]
  rw [hI,loopG_end hl]
 ·rintro d x r env hp hes ⟨rfl,hI⟩
  obtain ⟨hget,e1,e2,ew⟩:=loopF hes hb
  obtain ⟨y,gy,f1,f2,hq⟩:=loopG (q:=iEq) hes hl
  rw [hq] at hI
  rw [hI]
  clear hI
  cases hxy:decide (x=y)
  ·simp only [cf15L0,cf15E0,e1,e2,hget,gy,f1,f2,hxy,go_sem,seval]
   exact ⟨by kernel_rfl,by simp [iEq,hxy]⟩
  ·simp only [cf15L0,cf15E0,e1,e2,hget,gy,f1,f2,hxy,ew,go_sem,seval]
   exact ⟨by kernel_rfl,rfl,by simp [iEq,hxy]⟩
theorem c161 (hf:pg.fs 161=some cf161) (h15:pg.fs 15=some cf15) (nl cl nl' cl':Bool) (a b:List Step) (hb:a.length≤big):Ret pg 161 [.sl nl (a.map Step.av) cl,.sl nl' (b.map Step.av) cl'] (.bool (eqL stepEq a b)):=by
 refine Ret.ofX hf ?_
 unfold cf161
 cases b2:decide ((a.length:Int)=(b.length:Int))
 case false=>
  simp only [b2,go_sem,seval]
  rw [eqL_ne b2]
 case true=>
 have hl:a.length=b.length:=by have:=of_decide_eq_true b2;omega
 simp only [b2,go_sem,seval]
 refine XX_list a (fun d r env hp=>env=cf161E0 (.sl nl (a.map Step.av) cl) (.sl nl' (b.map Step.av) cl') (.int .i64 d.length)∧eqL stepEq a b=eqL stepEq r (b.drop d.length)) ?_ ?_ ?_
 ·exact ⟨rfl,rfl⟩
 ·rintro env hp ⟨rfl,hI⟩
  simp only [cf161L0,cf161E0,ltSelf,go_sem,seval]
  rw [hI,loopG_end hl]
 ·rintro d x r env hp hes ⟨rfl,hI⟩
  obtain ⟨hget,e1,e2,ew⟩:=loopF hes hb
  obtain ⟨y,gy,f1,f2,hq⟩:=loopG (q:=stepEq) hes hl
  rw [hq] at hI
  rw [hI]
  clear hI
  have hse:stepEq x y=(decide (x.op.bs=y.op.bs)&&decide (x.num=y.num)&&eqL iEq x.args.es y.args.es):=rfl
  cases c1:decide (x.op.bs=y.op.bs)
  case false=>
   simp only [cf161L0,cf161E0,e1,e2,hget,gy,f1,f2,c1,go_sem,seval]
   exact ⟨by kernel_rfl,by simp [hse,c1]⟩
  case true=>
  cases c2:decide (x.num=y.num)
  case false=>
   simp only [cf161L0,cf161E0,e1,e2,hget,gy,f1,f2,c1,c2,go_sem,seval]
   exact ⟨by kernel_rfl,by simp [hse,c2]⟩
  case true=>
  have a1:=c15g h15 x.args.nl x.args.cl y.args.nl y.args.cl x.args.es y.args.es x.args.ok
  simp only [cf161L0,cf161E0,e1,e2,hget,gy,f1,f2,c1,c2,go_sem,seval]
  refine XO_tree a1 (by simp only [go_sem,seval]) rfl ?_
  cases c3:eqL iEq x.args.es y.args.es
  ·simp only [go_sem,seval]
   exact ⟨by kernel_rfl,by simp [hse,c3]⟩
  ·simp only [ew,go_sem,seval]
   exact ⟨by kernel_rfl,rfl,by simp [hse,c1,c2,c3]⟩
def noStr:Str:=⟨[],by simp [big]⟩
set_option maxHeartbeats 1000000 in
theorem c118 (hf:pg.fs 118=some cf118) (h161:pg.fs 161=some cf161) (h15:pg.fs 15=some cf15) (h121:∀ a b:Shape,Ret pg 121 [a.av,b.av] (.bool (shapeEq a b))) :
  ∀ p:Pull,p.ok→∀ q:Pull,Ret pg 118 [p.av,q.av] (.bool (pullEq p q)):=by
 refine Pull.ind' fun p ih hp q=>?_
 obtain ⟨hk,hks⟩:=(Pull.ok_iff p).1 hp
 have a1:=c161 h161 h15 p.fn.nl p.fn.cl q.fn.nl q.fn.cl p.fn.es q.fn.es p.fn.ok
 have a2:=h121 ⟨noStr,p.at_⟩ ⟨noStr,q.at_⟩
 have hs2:shapeEq ⟨noStr,p.at_⟩ ⟨noStr,q.at_⟩=eqL linEq p.at_.es q.at_.es:=by simp [shapeEq,noStr]
 rw [hs2,Shape.avc,Shape.avc] at a2
 clear h121 h161 h15 hs2
 refine Ret.ofX hf ?_
 rw [pullEq_eq,pullEqs_eq]
 unfold cf118
 cases b1:decide (p.op.bs=q.op.bs)
 case false=>
  simp only [b1,go_sem,seval]
 case true=>
 cases b2:decide (p.num=q.num)
 case false=>
  simp only [b1,b2,go_sem,seval]
 case true=>
 cases b3:decide (p.value=q.value)
 case false=>
  simp only [b1,b2,b3,go_sem,seval]
 case true=>
 cases b4:decide (p.name.bs=q.name.bs)
 case false=>
  simp only [b1,b2,b3,b4,go_sem,seval]
 case true=>
 cases b5:(p.dyn == q.dyn)
 case false=>
  simp only [b1,b2,b3,b4,b5,go_sem,seval]
 case true=>
 cases b6:decide (p.check=q.check)
 case false=>
  simp only [b1,b2,b3,b4,b5,b6,go_sem,seval]
 case true=>
 cases b7:decide ((p.kids.length:Int)=(q.kids.length:Int))
 case false=>
  rw [eqL_ne b7]
  simp only [b1,b2,b3,b4,b5,b6,b7,go_sem,seval]
 case true=>
 simp only [b1,b2,b3,b4,b5,b6,b7,go_sem,seval]
 refine XO_tree a1 (by simp only [go_sem,seval]) rfl ?_
 cases b8:eqL stepEq p.fn.es q.fn.es
 case false=>
  simp only [go_sem,seval]
 case true=>
 simp only [go_sem,seval]
 refine XO_tree a2 (by simp only [go_sem,seval]) rfl ?_
 cases b9:eqL linEq p.at_.es q.at_.es
 case false=>
  simp only [go_sem,seval]
 case true=>
 have hl:p.kids.length=q.kids.length:=by have:=of_decide_eq_true b7;omega
 simp only [go_sem,seval]
 refine XX_list p.kids (fun d r env hp=>hp.get 1=some (0,.blk [.str p.op.bs,.int .i64 p.num,.int .i64 p.value,.str p.name.bs,.sl p.at_.nl (p.at_.es.map Lin.av) p.at_.cl,.bool p.dyn,.int .i64 p.check,.sl p.fn.nl (p.fn.es.map Step.av) p.fn.cl,.sl p.knl (p.kids.map Pull.av) p.kcl] 9 true true false) ∧
   hp.get 5=some (0,.blk [.str q.op.bs,.int .i64 q.num,.int .i64 q.value,.str q.name.bs,.sl q.at_.nl (q.at_.es.map Lin.av) q.at_.cl,.bool q.dyn,.int .i64 q.check,.sl q.fn.nl (q.fn.es.map Step.av) q.fn.cl,.sl q.knl (q.kids.map Pull.av) q.kcl] 9 true true false) ∧
   env=cf118E0 (.pt 1 0 0) (.pt 5 0 0) (.int .i64 d.length)∧eqL pullEq p.kids q.kids=eqL pullEq r (q.kids.drop d.length)) ?_ ?_ ?_
 ·exact ⟨rfl,rfl,rfl,rfl⟩
 ·rintro env hp ⟨g1,g5,rfl,hI⟩
  simp only [cf118L0,cf118E0,g1,ltSelf,go_sem,seval]
  rw [hI,loopG_end hl]
 ·rintro d x r env hp hes ⟨g1,g5,rfl,hI⟩
  obtain ⟨hget,e1,e2,ew⟩:=loopF hes hk
  obtain ⟨y,gy,f1,f2,hq⟩:=loopG (q:=pullEq) hes hl
  rw [hq] at hI
  rw [hI]
  clear hI a1 a2
  have hx:x∈p.kids:=by rw [hes];simp
  have a3:=ih x hx (hks x hx) y
  clear ih hks
  simp only [cf118L0,cf118E0,g1,g5,hget,e1,e2,gy,f1,f2,go_sem,seval]
  refine XO_tree a3 (by simp only [go_sem,seval]) rfl ?_
  cases hxy:pullEq x y
  ·simp only [go_sem,seval]
   kernel_rfl
  ·simp only [ew,go_sem,seval]
   exact ⟨by kernel_rfl,g1,g5,rfl⟩
end
end Go.Tev
end
section
namespace Go.Tev
theorem primR_some {op:List UInt8} {p:Prim} {r:AV} (h:primT op=some p) (hr:∃ nl cl,r = .tup [.sl nl (p.params.map .str) cl,.str p.result,.bool true]):PrimR op r:=by
 simp only [PrimR,h];exact hr
theorem primR_none {op:List UInt8} {r:AV} (h:primT op=none) (hr:r = .tup [.sl true [] true,.str [],.bool false]):PrimR op r:=by
 simp only [PrimR,h];exact hr
section
variable {pg:Pg}
theorem c125 (hf:pg.fs 125=some cf125) (op:List UInt8):RetP pg 125 [.str op] (PrimR op):=by
 refine RetP.ofX hf ?_
 unfold cf125
 cases b0:decide (op=[97,100,100])
 case true=>
  have hop:op=[97,100,100]:=of_decide_eq_true b0
  simp only [b0,go_sem,seval]
  subst hop
  exact primR_some rfl ⟨_,_,rfl⟩
 case false=>
 cases b1:decide (op=[115,117,98])
 case true=>
  have hop:op=[115,117,98]:=of_decide_eq_true b1
  simp only [b0,b1,go_sem,seval]
  subst hop
  exact primR_some rfl ⟨_,_,rfl⟩
 case false=>
 cases b2:decide (op=[109,117,108])
 case true=>
  have hop:op=[109,117,108]:=of_decide_eq_true b2
  simp only [b0,b1,b2,go_sem,seval]
  subst hop
  exact primR_some rfl ⟨_,_,rfl⟩
 case false=>
 cases b3:decide (op=[100,105,118])
 case true=>
  have hop:op=[100,105,118]:=of_decide_eq_true b3
  simp only [b0,b1,b2,b3,go_sem,seval]
  subst hop
  exact primR_some rfl ⟨_,_,rfl⟩
 case false=>
 cases b4:decide (op=[109,111,100])
 case true=>
  have hop:op=[109,111,100]:=of_decide_eq_true b4
  simp only [b0,b1,b2,b3,b4,go_sem,seval]
  subst hop
  exact primR_some rfl ⟨_,_,rfl⟩
 case false=>
 cases b5:decide (op=[109,105,110])
 case true=>
  have hop:op=[109,105,110]:=of_decide_eq_true b5
  simp only [b0,b1,b2,b3,b4,b5,go_sem,seval]
  subst hop
  exact primR_some rfl ⟨_,_,rfl⟩
 case false=>
 cases b6:decide (op=[109,97,120])
 case true=>
  have hop:op=[109,97,120]:=of_decide_eq_true b6
  simp only [b0,b1,b2,b3,b4,b5,b6,go_sem,seval]
  subst hop
  exact primR_some rfl ⟨_,_,rfl⟩
 case false=>
 cases b7:decide (op=[110,101,103])
 case true=>
  have hop:op=[110,101,103]:=of_decide_eq_true b7
  simp only [b0,b1,b2,b3,b4,b5,b6,b7,go_sem,seval]
  subst hop
  exact primR_some rfl ⟨_,_,rfl⟩
 case false=>
 cases b8:decide (op=[97,98,115])
 case true=>
  have hop:op=[97,98,115]:=of_decide_eq_true b8
  simp only [b0,b1,b2,b3,b4,b5,b6,b7,b8,go_sem,seval]
  subst hop
  exact primR_some rfl ⟨_,_,rfl⟩
 case false=>
 cases b9:decide (op=[115,105,103,110])
 case true=>
  have hop:op=[115,105,103,110]:=of_decide_eq_true b9
  simp only [b0,b1,b2,b3,b4,b5,b6,b7,b8,b9,go_sem,seval]
  subst hop
  exact primR_some rfl ⟨_,_,rfl⟩
 case false=>
 cases b10:decide (op=[108,116])
 case true=>
  have hop:op=[108,116]:=of_decide_eq_true b10
  simp only [b0,b1,b2,b3,b4,b5,b6,b7,b8,b9,b10,go_sem,seval]
  subst hop
  exact primR_some rfl ⟨_,_,rfl⟩
 case false=>
 cases b11:decide (op=[108,101])
 case true=>
  have hop:op=[108,101]:=of_decide_eq_true b11
  simp only [b0,b1,b2,b3,b4,b5,b6,b7,b8,b9,b10,b11,go_sem,seval]
  subst hop
  exact primR_some rfl ⟨_,_,rfl⟩
 case false=>
 cases b12:decide (op=[103,116])
 case true=>
  have hop:op=[103,116]:=of_decide_eq_true b12
  simp only [b0,b1,b2,b3,b4,b5,b6,b7,b8,b9,b10,b11,b12,go_sem,seval]
  subst hop
  exact primR_some rfl ⟨_,_,rfl⟩
 case false=>
 cases b13:decide (op=[103,101])
 case true=>
  have hop:op=[103,101]:=of_decide_eq_true b13
  simp only [b0,b1,b2,b3,b4,b5,b6,b7,b8,b9,b10,b11,b12,b13,go_sem,seval]
  subst hop
  exact primR_some rfl ⟨_,_,rfl⟩
 case false=>
 cases b14:decide (op=[101,113])
 case true=>
  have hop:op=[101,113]:=of_decide_eq_true b14
  simp only [b0,b1,b2,b3,b4,b5,b6,b7,b8,b9,b10,b11,b12,b13,b14,go_sem,seval]
  subst hop
  exact primR_some rfl ⟨_,_,rfl⟩
 case false=>
 cases b15:decide (op=[110,101])
 case true=>
  have hop:op=[110,101]:=of_decide_eq_true b15
  simp only [b0,b1,b2,b3,b4,b5,b6,b7,b8,b9,b10,b11,b12,b13,b14,b15,go_sem,seval]
  subst hop
  exact primR_some rfl ⟨_,_,rfl⟩
 case false=>
 cases b16:decide (op=[97,110,100])
 case true=>
  have hop:op=[97,110,100]:=of_decide_eq_true b16
  simp only [b0,b1,b2,b3,b4,b5,b6,b7,b8,b9,b10,b11,b12,b13,b14,b15,b16,go_sem,seval]
  subst hop
  exact primR_some rfl ⟨_,_,rfl⟩
 case false=>
 cases b17:decide (op=[111,114])
 case true=>
  have hop:op=[111,114]:=of_decide_eq_true b17
  simp only [b0,b1,b2,b3,b4,b5,b6,b7,b8,b9,b10,b11,b12,b13,b14,b15,b16,b17,go_sem,seval]
  subst hop
  exact primR_some rfl ⟨_,_,rfl⟩
 case false=>
 cases b18:decide (op=[120,111,114])
 case true=>
  have hop:op=[120,111,114]:=of_decide_eq_true b18
  simp only [b0,b1,b2,b3,b4,b5,b6,b7,b8,b9,b10,b11,b12,b13,b14,b15,b16,b17,b18,go_sem,seval]
  subst hop
  exact primR_some rfl ⟨_,_,rfl⟩
 case false=>
 cases b19:decide (op=[110,111,116])
 case true=>
  have hop:op=[110,111,116]:=of_decide_eq_true b19
  simp only [b0,b1,b2,b3,b4,b5,b6,b7,b8,b9,b10,b11,b12,b13,b14,b15,b16,b17,b18,b19,go_sem,seval]
  subst hop
  exact primR_some rfl ⟨_,_,rfl⟩
 case false=>
 cases b20:decide (op=[115,101,108,101,99,116])
 case true=>
  have hop:op=[115,101,108,101,99,116]:=of_decide_eq_true b20
  simp only [b0,b1,b2,b3,b4,b5,b6,b7,b8,b9,b10,b11,b12,b13,b14,b15,b16,b17,b18,b19,b20,go_sem,seval]
  subst hop
  exact primR_some rfl ⟨_,_,rfl⟩
 case false=>
 cases b21:decide (op=[116,111,105,110,116])
 case true=>
  have hop:op=[116,111,105,110,116]:=of_decide_eq_true b21
  simp only [b0,b1,b2,b3,b4,b5,b6,b7,b8,b9,b10,b11,b12,b13,b14,b15,b16,b17,b18,b19,b20,b21,go_sem,seval]
  subst hop
  exact primR_some rfl ⟨_,_,rfl⟩
 case false=>
 simp only [b0,b1,b2,b3,b4,b5,b6,b7,b8,b9,b10,b11,b12,b13,b14,b15,b16,b17,b18,b19,b20,b21,go_sem,seval]
 refine primR_none ?_ rfl
 have n0:decide ([97,100,100]=op)=false:=by rw [← b0,decide_eq_decide];exact eq_comm
 have n1:decide ([115,117,98]=op)=false:=by rw [← b1,decide_eq_decide];exact eq_comm
 have n2:decide ([109,117,108]=op)=false:=by rw [← b2,decide_eq_decide];exact eq_comm
 have n3:decide ([100,105,118]=op)=false:=by rw [← b3,decide_eq_decide];exact eq_comm
 have n4:decide ([109,111,100]=op)=false:=by rw [← b4,decide_eq_decide];exact eq_comm
 have n5:decide ([109,105,110]=op)=false:=by rw [← b5,decide_eq_decide];exact eq_comm
 have n6:decide ([109,97,120]=op)=false:=by rw [← b6,decide_eq_decide];exact eq_comm
 have n7:decide ([110,101,103]=op)=false:=by rw [← b7,decide_eq_decide];exact eq_comm
 have n8:decide ([97,98,115]=op)=false:=by rw [← b8,decide_eq_decide];exact eq_comm
 have n9:decide ([115,105,103,110]=op)=false:=by rw [← b9,decide_eq_decide];exact eq_comm
 have n10:decide ([108,116]=op)=false:=by rw [← b10,decide_eq_decide];exact eq_comm
 have n11:decide ([108,101]=op)=false:=by rw [← b11,decide_eq_decide];exact eq_comm
 have n12:decide ([103,116]=op)=false:=by rw [← b12,decide_eq_decide];exact eq_comm
 have n13:decide ([103,101]=op)=false:=by rw [← b13,decide_eq_decide];exact eq_comm
 have n14:decide ([101,113]=op)=false:=by rw [← b14,decide_eq_decide];exact eq_comm
 have n15:decide ([110,101]=op)=false:=by rw [← b15,decide_eq_decide];exact eq_comm
 have n16:decide ([97,110,100]=op)=false:=by rw [← b16,decide_eq_decide];exact eq_comm
 have n17:decide ([111,114]=op)=false:=by rw [← b17,decide_eq_decide];exact eq_comm
 have n18:decide ([120,111,114]=op)=false:=by rw [← b18,decide_eq_decide];exact eq_comm
 have n19:decide ([110,111,116]=op)=false:=by rw [← b19,decide_eq_decide];exact eq_comm
 have n20:decide ([115,101,108,101,99,116]=op)=false:=by rw [← b20,decide_eq_decide];exact eq_comm
 have n21:decide ([116,111,105,110,116]=op)=false:=by rw [← b21,decide_eq_decide];exact eq_comm
 simp only [primT,primRows,List.find?_cons,List.find?_nil,n0,n1,n2,n3,n4,n5,n6,n7,n8,n9,n10,n11,n12,n13,n14,n15,n16,n17,n18,n19,n20,n21]
theorem stepOK_cons (n:Int) (s:Step) (r:List Step):stepsOK n (s :: r)=(stepOK s n&&stepsOK (n+1) r):=rfl
set_option maxHeartbeats 1000000 in
theorem c87_step (h124:pg.fs 124=some cf124) (h125:∀ op,RetP pg 125 [.str op] (PrimR op)) (nl cl:Bool) (fn:List Step) (hb:fn.length≤big) (n:Int) (g1:0≤n) (g2:n≤20) (g3:(fn.length:Int)≤60)
  (d:List Step) (x:Step) (r:List Step) (hp:Hp) (hes:fn=d++x :: r) (hI:stepsOK n fn=stepsOK (n+d.length) (x :: r)) :
  XX pg 0 cf87L1 ⟨cf87E1 (.sl nl (fn.map Step.av) cl) (.int .i64 n) (.int .i64 d.length),hp⟩
   (thenQ (fun st'=>clear cf87M1 st'.env=cf87E1 (.sl nl (fn.map Step.av) cl) (.int .i64 n) (.int .i64 (d++[x]).length)∧stepsOK n fn=stepsOK (n+(d++[x]).length) r)
    (blockQ 0 (thenQ (fun st'=>XX pg 0 (.seq (.reg [⟨some 4,.mov,[.c (.bool true)],none,0,0⟩] false) .ret) st' (endQ [.inl 4] (.bool (stepsOK n fn))) ⟨⟩) (endQ [.inl 4] (.bool (stepsOK n fn)))))) ⟨⟩:=by
 obtain ⟨hget,e1,e2,ew⟩:=loopF hes hb
 rw [stepOK_cons] at hI
 have en:n+((d++[x]).length:Int)=n+d.length+1:=by simp;omega
 have hdl:d.length < fn.length:=by rw [hes];simp
 have hw:wr .i64 (n+(d.length:Int))=n+d.length:=wr_small (by omega) (by omega)
 rw [en]
 rw [hI]
 clear hI
 cases o1:decide (x.op.bs=[99,111,110,115,116])
 case true=>
  have hs:stepOK x (n+d.length)=(decide ((x.args.es.length:Int)=0)&&elemOKi x.num):=by simp [stepOK,of_decide_eq_true o1]
  rw [hs]
  cases o2:decide ((x.args.es.length:Int)=0)
  case false=>
   simp only [cf87L1,cf87E1,e1,e2,hget,o1,o2,go_sem,seval]
  case true=>
   simp only [cf87L1,cf87E1,e1,e2,hget,o1,o2,go_sem,seval]
   refine XO_tree (c124i h124 x.num) (by simp only [go_sem,seval]) rfl ?_
   cases o3:elemOKi x.num
   ·simp only [go_sem,seval]
   ·simp only [ew,go_sem,seval]
    rfl
 case false=>
 cases o2:decide (x.op.bs=[116,114,117,116,104])
 case true=>
  have hs:stepOK x (n+d.length)=(decide ((x.args.es.length:Int)=0)&&elemOKb x.num):=by
   have h1:=of_decide_eq_true o2
   simp [stepOK,h1]
  rw [hs]
  cases o3:decide ((x.args.es.length:Int)=0)
  case false=>
   simp only [cf87L1,cf87E1,e1,e2,hget,o1,o2,o3,go_sem,seval]
  case true=>
   simp only [cf87L1,cf87E1,e1,e2,hget,o1,o2,o3,go_sem,seval]
   refine XO_tree (c124b h124 x.num) (by simp only [go_sem,seval]) rfl ?_
   cases o4:elemOKb x.num
   ·simp only [go_sem,seval]
   ·simp only [ew,go_sem,seval]
    rfl
 case false=>
 obtain ⟨rr,hr,hP⟩:=h125 x.op.bs
 have hs:stepOK x (n+d.length)=(match primT x.op.bs with
  | none=>false
  | some p=>argsOK x.args.es (n+d.length)&&decide (x.num=0)&&decide ((x.args.es.length:Int)=(p.params.length:Int))):=by
  have h1:=of_decide_eq_false o1
  have h2:=of_decide_eq_false o2
  simp only [stepOK,h1,h2,if_false]
  rfl
 rw [hs]
 clear hs
 simp only [PrimR] at hP
 cases hpt:primT x.op.bs with
 | none=>
  rw [hpt] at hP
  dsimp only at hP
  subst hP
  simp only [cf87L1,cf87E1,e1,e2,hget,o1,o2,go_sem,seval]
  refine XO_tree hr (by simp only [go_sem,seval]) rfl ?_
  simp only [go_sem,seval]
 | some p=>
  rw [hpt] at hP
  dsimp only at hP
  obtain ⟨nl2,cl2,rfl⟩:=hP
  dsimp only
  simp only [cf87L1,cf87E1,e1,e2,hget,o1,o2,go_sem,seval]
  refine XO_tree hr (by simp only [go_sem,seval]) rfl ?_
  cases o3:decide ((x.args.es.length:Int)=(p.params.length:Int))
  case false=>
   simp only [o3,go_sem,seval]
  case true=>
  cases o4:decide (x.num=0)
  case false=>
   simp only [o3,o4,go_sem,seval]
  case true=>
  simp only [o3,o4,go_sem,seval]
  have hab:=x.args.ok
  refine XX_list x.args.es (fun d2 r2 env hp2=>env=cf87E0 (.sl nl (fn.map Step.av) cl) (.int .i64 n) (.int .i64 d.length) (.pt 1 (hp.next 1) 0) (.int .i64 d2.length) ∧
   hp2.get 1=some (hp.next 1,.blk [.str x.op.bs,.int .i64 x.num,.sl x.args.nl (x.args.es.map intA) x.args.cl] 3 true true false)∧argsOK x.args.es (n+d.length)=argsOK r2 (n+d.length)) ?_ ?_ ?_
  ·refine ⟨rfl,?_,rfl⟩
   simp only [go_sem,seval]
  ·rintro env hp2 ⟨rfl,h1,hI⟩
   simp only [cf87L0,cf87E0,h1,ltSelf,ew,go_sem,seval]
   refine ⟨rfl,?_⟩
   rw [hI];simp [argsOK]
  ·rintro d2 a r2 env hp2 he2 ⟨rfl,h1,hI⟩
   obtain ⟨hget2,f1,f2,fw⟩:=loopF he2 hab
   have hI2:argsOK x.args.es (n+d.length)=((decide (0≤a)&&decide (a < n+d.length))&&argsOK r2 (n+d.length)):=by rw [hI];simp [argsOK]
   rw [hI2]
   clear hI hI2
   cases q1:decide (a < 0)
   case true=>
    have:decide (0≤a)=false:=by simp at q1 ⊢;omega
    simp only [cf87L0,cf87E0,h1,f1,f2,hget2,q1,this,go_sem,seval]
   case false=>
   cases q2:decide (n+(d.length:Int)≤a)
   case true=>
    have:decide (a < n+d.length)=false:=by simp at q2 ⊢;omega
    simp only [cf87L0,cf87E0,h1,f1,f2,hget2,q1,hw,q2,this,go_sem,seval]
   case false=>
    have h3:decide (0≤a)=true:=by simp at q1 ⊢;omega
    have h4:decide (a < n+d.length)=true:=by simp at q2 ⊢;omega
    simp only [cf87L0,cf87E0,h1,f1,f2,hget2,q1,hw,q2,h3,h4,fw,go_sem,seval]
    rfl
set_option maxHeartbeats 1000000 in
theorem c87 (hf:pg.fs 87=some cf87) (h124:pg.fs 124=some cf124) (h125:∀ op,RetP pg 125 [.str op] (PrimR op)) (nl cl:Bool) (fn:List Step) (hb:fn.length≤big) (n:Int) :
  Ret pg 87 [.sl nl (fn.map Step.av) cl,.int .i64 n] (.bool (codeOK fn n)):=by
 refine Ret.ofX hf ?_
 unfold cf87
 cases h1:decide (n < 0)
 case true=>
  simp only [h1,go_sem,seval]
  have:decide (0≤n)=false:=by simp at h1 ⊢;omega
  simp [codeOK,this]
 case false=>
 cases h2:decide (20 < n)
 case true=>
  simp only [h1,h2,go_sem,seval]
  have:decide (n≤20)=false:=by simp at h2 ⊢;omega
  simp [codeOK,this]
 case false=>
 cases h3:decide (60 < (fn.length:Int))
 case true=>
  simp only [h1,h2,h3,go_sem,seval]
  have:decide ((fn.length:Int)≤60)=false:=by simp at h3 ⊢;omega
  simp [codeOK,this]
 case false=>
 have g1:=of_decide_eq_false h1
 have g2:=of_decide_eq_false h2
 have g3:=of_decide_eq_false h3
 have hspec:decide (n+(fn.length:Int)=0)=false→codeOK fn n=stepsOK n fn:=by
  intro h4
  have e1:decide (0≤n)=true:=by simp;omega
  have e2:decide (n≤20)=true:=by simp;omega
  have e3:decide ((fn.length:Int)≤60)=true:=by simp;omega
  simp [codeOK,h4,e1,e2,e3]
 cases h4:decide (n=0)
 case true=>
  cases h5:decide ((fn.length:Int)=0)
  case true=>
   simp only [h1,h2,h3,h4,h5,go_sem,seval]
   have:decide (n+(fn.length:Int)=0)=true:=by simp at h4 h5 ⊢;simp [h4,h5]
   simp [codeOK,this]
  case false=>
   have hs:=hspec (by simp at h4 h5 ⊢;subst h4;simpa using h5)
   rw [hs]
   clear hs hspec
   simp only [h1,h2,h3,h4,h5,go_sem,seval]
   refine XX_list fn (fun d r env hp=>env=cf87E1 (.sl nl (fn.map Step.av) cl) (.int .i64 n) (.int .i64 d.length)∧stepsOK n fn=stepsOK (n+d.length) r) ?_ ?_ ?_
   ·exact ⟨rfl,by simp⟩
   ·rintro env hp ⟨rfl,hI⟩
    simp only [cf87L1,cf87E1,ltSelf,go_sem,seval]
    rw [hI];rfl
   ·rintro d x r env hp hes ⟨rfl,hI⟩
    exact c87_step h124 h125 nl cl fn hb n (by omega) (by omega) (by omega) d x r hp hes hI
 case false=>
  have hs:=hspec (by simp at h4 ⊢;omega)
  rw [hs]
  clear hs hspec
  simp only [h1,h2,h3,h4,go_sem,seval]
  refine XX_list fn (fun d r env hp=>env=cf87E1 (.sl nl (fn.map Step.av) cl) (.int .i64 n) (.int .i64 d.length)∧stepsOK n fn=stepsOK (n+d.length) r) ?_ ?_ ?_
  ·exact ⟨rfl,by simp⟩
  ·rintro env hp ⟨rfl,hI⟩
   simp only [cf87L1,cf87E1,ltSelf,go_sem,seval]
   rw [hI];rfl
  ·rintro d x r env hp hes ⟨rfl,hI⟩
   exact c87_step h124 h125 nl cl fn hb n (by omega) (by omega) (by omega) d x r hp hes hI
end
end Go.Tev
end
section
namespace Go.Tev
def nodeP (p:Pull) (num value:Int) (name:Str) (at_:Sl Lin) (dyn:Bool) (check:Int) (fn:Sl Step):Pull:=.mk p.op num value name at_ dyn check fn p.knl p.kids p.kcl
theorem nodeP_op (p:Pull) (num value:Int) (name:Str) (at_:Sl Lin) (dyn:Bool) (check:Int) (fn:Sl Step):(nodeP p num value name at_ dyn check fn).op=p.op:=rfl
theorem nodeP_num (p:Pull) (num value:Int) (name:Str) (at_:Sl Lin) (dyn:Bool) (check:Int) (fn:Sl Step):(nodeP p num value name at_ dyn check fn).num=num:=rfl
theorem nodeP_value (p:Pull) (num value:Int) (name:Str) (at_:Sl Lin) (dyn:Bool) (check:Int) (fn:Sl Step):(nodeP p num value name at_ dyn check fn).value=value:=rfl
theorem nodeP_name (p:Pull) (num value:Int) (name:Str) (at_:Sl Lin) (dyn:Bool) (check:Int) (fn:Sl Step):(nodeP p num value name at_ dyn check fn).name=name:=rfl
theorem nodeP_at_ (p:Pull) (num value:Int) (name:Str) (at_:Sl Lin) (dyn:Bool) (check:Int) (fn:Sl Step):(nodeP p num value name at_ dyn check fn).at_=at_:=rfl
theorem nodeP_dyn (p:Pull) (num value:Int) (name:Str) (at_:Sl Lin) (dyn:Bool) (check:Int) (fn:Sl Step):(nodeP p num value name at_ dyn check fn).dyn=dyn:=rfl
theorem nodeP_check (p:Pull) (num value:Int) (name:Str) (at_:Sl Lin) (dyn:Bool) (check:Int) (fn:Sl Step):(nodeP p num value name at_ dyn check fn).check=check:=rfl
theorem nodeP_fn (p:Pull) (num value:Int) (name:Str) (at_:Sl Lin) (dyn:Bool) (check:Int) (fn:Sl Step):(nodeP p num value name at_ dyn check fn).fn=fn:=rfl
theorem nodeP_kids (p:Pull) (num value:Int) (name:Str) (at_:Sl Lin) (dyn:Bool) (check:Int) (fn:Sl Step):(nodeP p num value name at_ dyn check fn).kids=p.kids:=rfl
theorem nodeP_knl (p:Pull) (num value:Int) (name:Str) (at_:Sl Lin) (dyn:Bool) (check:Int) (fn:Sl Step):(nodeP p num value name at_ dyn check fn).knl=p.knl:=rfl
theorem nodeP_kcl (p:Pull) (num value:Int) (name:Str) (at_:Sl Lin) (dyn:Bool) (check:Int) (fn:Sl Step):(nodeP p num value name at_ dyn check fn).kcl=p.kcl:=rfl
theorem nodeP_eq (p:Pull) (num value:Int) (name:Str) (at_:Sl Lin) (dyn:Bool) (check:Int) (fn:Sl Step) :
  pullEq p (nodeP p num value name at_ dyn check fn)=(decide (p.num=num)&&decide (p.value=value)&&decide (p.name.bs=name.bs)&&(p.dyn == dyn)&&decide (p.check=check)&&eqL linEq p.at_.es at_.es&&eqL stepEq p.fn.es fn.es):=by
 rw [pullEq_eq,pullEqs_eq]
 simp only [nodeP_op,nodeP_num,nodeP_value,nodeP_name,nodeP_at_,nodeP_dyn,nodeP_check,nodeP_fn,nodeP_kids]
 rw [eqL_refl pullEq_refl]
 simp
 rfl
theorem bq1:(true == false)=false:=rfl
theorem bq2:(false == false)=true:=rfl
theorem bq3:(true == true)=true:=rfl
def onlyP (p:Pull):Pull:=
 if p.op.bs=[99,111,110,115,116] then nodeP p p.num 0 noStr (nilSl Lin) false 0 (nilSl Step)
 else if p.op.bs=[108,105,110,101,97,114] then nodeP p 0 0 noStr p.at_ false 0 (nilSl Step)
 else if p.op.bs=[114,101,97,100] then nodeP p 0 p.value noStr p.at_ p.dyn (if p.dyn then p.check else 0) (nilSl Step)
 else if p.op.bs=[105,102] then nodeP p 0 0 noStr p.at_ false 0 (nilSl Step)
 else if p.op.bs=[114,101,100,117,99,101] then nodeP p 0 0 p.name p.at_ false 0 p.fn
 else if p.op.bs=[99,111,100,101] then nodeP p 0 0 noStr (nilSl Lin) false 0 p.fn
 else nodeP p 0 0 noStr (nilSl Lin) false 0 (nilSl Step)
def onlyB (p:Pull):Bool:=
 if p.op.bs=[99,111,110,115,116] then decide ((p.kids.length:Int)=0)&&decide ((p.at_.es.length:Int)=0)
 else if p.op.bs=[108,105,110,101,97,114] then decide ((p.kids.length:Int)=0)&&decide ((p.at_.es.length:Int)=1)
 else if p.op.bs=[114,101,97,100] then
  (if p.dyn then decide ((p.kids.length:Int)=1)&&decide ((p.at_.es.length:Int)≤5) else decide ((p.kids.length:Int)=0)&&decide ((p.at_.es.length:Int)≤6))
 else if p.op.bs=[105,102] then decide ((p.kids.length:Int)=2)&&decide ((p.at_.es.length:Int)=1)
 else if p.op.bs=[114,101,100,117,99,101] then decide ((p.kids.length:Int)=2)&&decide ((p.at_.es.length:Int)=1)
 else if p.op.bs=[99,111,100,101] then decide ((p.kids.length:Int)≤20)&&decide ((p.at_.es.length:Int)=0)
 else match primT p.op.bs with
  | none=>false
  | some q=>decide ((p.kids.length:Int)=(q.params.length:Int))&&decide ((p.at_.es.length:Int)=0)
def refOwn (p:Pull) (vars:List Str) (v:Int):Bool:=
 if p.op.bs=[99,111,110,115,116] then elemOKi p.num
 else if p.op.bs=[114,101,97,100] then decide (0≤p.value)&&decide (p.value < v)&&decide (0≤p.check)
 else if p.op.bs=[114,101,100,117,99,101] then nameU p.name.bs && !hasS vars p.name.bs&&codeOK p.fn.es 2
 else if p.op.bs=[99,111,100,101] then codeOK p.fn.es p.kids.length
 else true
theorem refNode_eq (p:Pull) (vars:List Str) (v:Int):(onlyB p&&pullEq p (onlyP p)&&refOwn p vars v)=nodeOK p vars v:=by
 by_cases o1:p.op.bs=[99,111,110,115,116]
 ·simp only [onlyB,onlyP,refOwn,nodeOK,o1,if_true,nodeP_eq,nilSl,noStr,eqL_nil,bareOK]
  cases p.dyn<;>simp only [bq1,bq2,bq3,Bool.not_true,Bool.not_false,Bool.false_or,Bool.true_or,Bool.false_and,Bool.and_false,Bool.true_and,Bool.and_true,decide_true]
  (refine Bool.eq_iff_iff.2 ?_;simp only [Bool.and_eq_true];constructor<;>(intro h;simp only [h,and_self]))
 by_cases o2:p.op.bs=[108,105,110,101,97,114]
 ·have n1:¬ p.op.bs=[114,101,97,100]:=by rw [o2];decide
  have n2:¬ p.op.bs=[114,101,100,117,99,101]:=by rw [o2];decide
  have n3:¬ p.op.bs=[99,111,100,101]:=by rw [o2];decide
  simp only [onlyB,onlyP,refOwn,nodeOK,o1,n1,n2,n3,if_false]
  simp only [o2,if_true,nodeP_eq,nilSl,noStr,eqL_nil,bareOK,eqL_refl linEq_refl]
  cases p.dyn<;>simp only [bq1,bq2,bq3,Bool.not_true,Bool.not_false,Bool.false_or,Bool.true_or,Bool.false_and,Bool.and_false,Bool.true_and,Bool.and_true]
  (refine Bool.eq_iff_iff.2 ?_;simp only [Bool.and_eq_true];constructor<;>(intro h;simp only [h,and_self]))
 by_cases o3:p.op.bs=[114,101,97,100]
 ·simp only [onlyB,onlyP,refOwn,nodeOK,o1,o2,if_false]
  simp only [o3,if_true,nodeP_eq,nilSl,noStr,eqL_nil,bareOK,eqL_refl linEq_refl,readOK]
  cases p.dyn<;>simp only [bq1,bq2,bq3,Bool.not_true,Bool.not_false,Bool.false_or,Bool.true_or,Bool.false_and,Bool.and_false,Bool.true_and,Bool.and_true,Bool.false_eq_true,if_true,if_false,decide_true]
  ·cases h:decide (p.check=0)
   ·simp
   ·have:decide (0≤p.check)=true:=by simp at h ⊢;omega
    simp only [this,Bool.and_true,Bool.true_and]
    (refine Bool.eq_iff_iff.2 ?_;simp only [Bool.and_eq_true];constructor<;>(intro h;simp only [h,and_self]))
  ·(refine Bool.eq_iff_iff.2 ?_;simp only [Bool.and_eq_true];constructor<;>(intro h;simp only [h,and_self]))
 by_cases o4:p.op.bs=[105,102]
 ·have n2:¬ p.op.bs=[114,101,100,117,99,101]:=by rw [o4];decide
  have n3:¬ p.op.bs=[99,111,100,101]:=by rw [o4];decide
  simp only [onlyB,onlyP,refOwn,nodeOK,o1,o2,o3,n2,n3,if_false]
  simp only [o4,if_true,nodeP_eq,nilSl,noStr,eqL_nil,bareOK,eqL_refl linEq_refl]
  cases p.dyn<;>simp only [bq1,bq2,bq3,Bool.not_true,Bool.not_false,Bool.false_or,Bool.true_or,Bool.false_and,Bool.and_false,Bool.true_and,Bool.and_true]
  (refine Bool.eq_iff_iff.2 ?_;simp only [Bool.and_eq_true];constructor<;>(intro h;simp only [h,and_self]))
 by_cases o5:p.op.bs=[114,101,100,117,99,101]
 ·simp only [onlyB,onlyP,refOwn,nodeOK,o1,o2,o3,o4,if_false]
  simp only [o5,if_true,nodeP_eq,nilSl,noStr,bareOK,eqL_refl linEq_refl,eqL_refl stepEq_refl]
  cases p.dyn<;>simp only [bq1,bq2,bq3,Bool.not_true,Bool.not_false,Bool.false_or,Bool.true_or,Bool.false_and,Bool.and_false,Bool.true_and,Bool.and_true,decide_true]
  (refine Bool.eq_iff_iff.2 ?_;simp only [Bool.and_eq_true];constructor<;>(intro h;simp only [h,and_self]))
 by_cases o6:p.op.bs=[99,111,100,101]
 ·simp only [onlyB,onlyP,refOwn,nodeOK,o1,o2,o3,o4,o5,if_false]
  simp only [o6,if_true,nodeP_eq,nilSl,noStr,bareOK,eqL_nil,eqL_refl stepEq_refl]
  have hc:(decide ((p.kids.length:Int)≤20)&&codeOK p.fn.es p.kids.length)=codeOK p.fn.es p.kids.length:=by
   simp only [codeOK]
   cases decide ((p.kids.length:Int)≤20)<;>simp
  rw [← hc]
  cases p.dyn<;>simp only [bq1,bq2,bq3,Bool.not_true,Bool.not_false,Bool.false_or,Bool.true_or,Bool.false_and,Bool.and_false,Bool.true_and,Bool.and_true,decide_true]
  cases decide ((p.kids.length:Int)≤20)<;>simp only [Bool.false_and,Bool.true_and,Bool.and_false]
  (refine Bool.eq_iff_iff.2 ?_;simp only [Bool.and_eq_true];constructor<;>(intro h;simp only [h,and_self]))
 ·simp only [onlyB,onlyP,refOwn,nodeOK,o1,o2,o3,o4,o5,o6,if_false]
  cases hpt:primT p.op.bs with
  | none=>simp
  | some q=>
   simp only [nodeP_eq,nilSl,noStr,bareOK,eqL_nil]
   cases p.dyn<;>simp only [bq1,bq2,bq3,Bool.not_true,Bool.not_false,Bool.false_or,Bool.true_or,Bool.false_and,Bool.and_false,Bool.true_and,Bool.and_true,decide_true]
   (refine Bool.eq_iff_iff.2 ?_;simp only [Bool.and_eq_true];constructor<;>(intro h;simp only [h,and_self]))
theorem mnA (a b:Int):(foldA min2 (.int .i64 a) [.int .i64 b]).bind val=val (.int .i64 (if b < a then b else a)):=by simp [foldA,min2]
theorem min_eq (n m:Int):decide (n=if m < n then m else n)=decide (n≤m):=by
 rw [decide_eq_decide];split<;>omega
section
variable {pg:Pg}
set_option maxHeartbeats 1000000 in
theorem c192 (hf:pg.fs 192=some cf192) (h125:∀ op,RetP pg 125 [.str op] (PrimR op)) (p:Pull):Ret pg 192 [p.av] (.tup [(onlyP p).av,.bool (onlyB p)]):=by
 refine Ret.ofX hf ?_
 unfold cf192
 cases o0:decide (p.op.bs=[99,111,110,115,116])
 case true=>
  have h0:=of_decide_eq_true o0
  have hP:(onlyP p).av = .agg [.str p.op.bs,.int .i64 p.num,.int .i64 0,.str [],.sl true [] true,.bool false,.int .i64 0,.sl true [] true,.sl p.knl (p.kids.map Pull.av) p.kcl]:=by rw [Pull.avc];simp only [onlyP];simp only [h0,if_true,if_false,nodeP_op,nodeP_num,nodeP_value,nodeP_name,nodeP_at_,nodeP_dyn,nodeP_check,nodeP_fn,nodeP_kids,nodeP_knl,nodeP_kcl,noStr,nilSl,List.map_nil]
  have hB:onlyB p=(decide ((p.kids.length:Int)=0)&&decide ((p.at_.es.length:Int)=0)):=by simp only [onlyB];simp only [h0,if_true,if_false]
  rw [hP,hB]
  clear hP hB h125
  cases k1:decide ((p.kids.length:Int)=0)
  ·simp only [o0,k1,go_sem,seval]
   show _=true
   kernel_rfl
  cases k2:decide ((p.at_.es.length:Int)=0)
  ·simp only [o0,k1,k2,go_sem,seval]
   show _=true
   kernel_rfl
  ·simp only [o0,k1,k2,go_sem,seval]
   show _=true
   kernel_rfl
 case false=>
 have h0:=of_decide_eq_false o0
 cases o1:decide (p.op.bs=[108,105,110,101,97,114])
 case true=>
  have h1:=of_decide_eq_true o1
  have hP:(onlyP p).av = .agg [.str p.op.bs,.int .i64 0,.int .i64 0,.str [],.sl p.at_.nl (p.at_.es.map Lin.av) p.at_.cl,.bool false,.int .i64 0,.sl true [] true,.sl p.knl (p.kids.map Pull.av) p.kcl]:=by rw [Pull.avc];simp only [onlyP,h0,if_false];simp only [h1,if_true,if_false,nodeP_op,nodeP_num,nodeP_value,nodeP_name,nodeP_at_,nodeP_dyn,nodeP_check,nodeP_fn,nodeP_kids,nodeP_knl,nodeP_kcl,noStr,nilSl,List.map_nil]
  have hB:onlyB p=(decide ((p.kids.length:Int)=0)&&decide ((p.at_.es.length:Int)=1)):=by simp only [onlyB,h0,if_false];simp only [h1,if_true,if_false]
  rw [hP,hB]
  clear hP hB h125
  cases k1:decide ((p.kids.length:Int)=0)
  ·simp only [o0,o1,k1,go_sem,seval]
   show _=true
   kernel_rfl
  cases k2:decide ((p.at_.es.length:Int)=1)
  ·simp only [o0,o1,k1,k2,go_sem,seval]
   show _=true
   kernel_rfl
  ·simp only [o0,o1,k1,k2,go_sem,seval]
   show _=true
   kernel_rfl
 case false=>
 have h1:=of_decide_eq_false o1
 cases o2:decide (p.op.bs=[114,101,97,100])
 case true=>
  have h2:=of_decide_eq_true o2
  cases hd:p.dyn
  case true=>
   have hP:(onlyP p).av = .agg [.str p.op.bs,.int .i64 0,.int .i64 p.value,.str [],.sl p.at_.nl (p.at_.es.map Lin.av) p.at_.cl,.bool true,.int .i64 p.check,.sl true [] true,.sl p.knl (p.kids.map Pull.av) p.kcl]:=by rw [Pull.avc];simp only [onlyP,h0,h1,if_false];simp only [hd,h2,if_true,if_false,nodeP_op,nodeP_num,nodeP_value,nodeP_name,nodeP_at_,nodeP_dyn,nodeP_check,nodeP_fn,nodeP_kids,nodeP_knl,nodeP_kcl,noStr,nilSl,List.map_nil]
   have hB:onlyB p=(decide ((p.kids.length:Int)=1)&&decide ((p.at_.es.length:Int)≤5)):=by simp only [onlyB,h0,h1,if_false];simp only [hd,h2,if_true,if_false]
   rw [hP,hB]
   clear hP hB h125
   cases k1:decide ((p.kids.length:Int)=1)
   ·repeat (first | simp only [o0,o1,o2,hd,mnA,min_eq,k1,go_sem,seval] | refine And.intro (by kernel_rfl) ?_)
    show _=true
    kernel_rfl
   cases k2:decide ((p.at_.es.length:Int)≤5)
   ·repeat (first | simp only [o0,o1,o2,hd,mnA,min_eq,k1,k2,go_sem,seval] | refine And.intro (by kernel_rfl) ?_)
    show _=true
    kernel_rfl
   ·repeat (first | simp only [o0,o1,o2,hd,mnA,min_eq,k1,k2,go_sem,seval] | refine And.intro (by kernel_rfl) ?_)
    show _=true
    kernel_rfl
  case false=>
   have hP:(onlyP p).av = .agg [.str p.op.bs,.int .i64 0,.int .i64 p.value,.str [],.sl p.at_.nl (p.at_.es.map Lin.av) p.at_.cl,.bool false,.int .i64 0,.sl true [] true,.sl p.knl (p.kids.map Pull.av) p.kcl]:=by rw [Pull.avc];simp only [onlyP,h0,h1,if_false];simp only [hd,Bool.false_eq_true,h2,if_true,if_false,nodeP_op,nodeP_num,nodeP_value,nodeP_name,nodeP_at_,nodeP_dyn,nodeP_check,nodeP_fn,nodeP_kids,nodeP_knl,nodeP_kcl,noStr,nilSl,List.map_nil]
   have hB:onlyB p=(decide ((p.kids.length:Int)=0)&&decide ((p.at_.es.length:Int)≤6)):=by simp only [onlyB,h0,h1,if_false];simp only [hd,Bool.false_eq_true,h2,if_true,if_false]
   rw [hP,hB]
   clear hP hB h125
   cases k1:decide ((p.kids.length:Int)=0)
   ·repeat (first | simp only [o0,o1,o2,hd,mnA,min_eq,k1,go_sem,seval] | refine And.intro (by kernel_rfl) ?_)
    show _=true
    kernel_rfl
   cases k2:decide ((p.at_.es.length:Int)≤6)
   ·repeat (first | simp only [o0,o1,o2,hd,mnA,min_eq,k1,k2,go_sem,seval] | refine And.intro (by kernel_rfl) ?_)
    show _=true
    kernel_rfl
   ·repeat (first | simp only [o0,o1,o2,hd,mnA,min_eq,k1,k2,go_sem,seval] | refine And.intro (by kernel_rfl) ?_)
    show _=true
    kernel_rfl
 case false=>
 have h2:=of_decide_eq_false o2
 cases o3:decide (p.op.bs=[105,102])
 case true=>
  have h3:=of_decide_eq_true o3
  have hP:(onlyP p).av = .agg [.str p.op.bs,.int .i64 0,.int .i64 0,.str [],.sl p.at_.nl (p.at_.es.map Lin.av) p.at_.cl,.bool false,.int .i64 0,.sl true [] true,.sl p.knl (p.kids.map Pull.av) p.kcl]:=by rw [Pull.avc];simp only [onlyP,h0,h1,h2,if_false];simp only [h3,if_true,if_false,nodeP_op,nodeP_num,nodeP_value,nodeP_name,nodeP_at_,nodeP_dyn,nodeP_check,nodeP_fn,nodeP_kids,nodeP_knl,nodeP_kcl,noStr,nilSl,List.map_nil]
  have hB:onlyB p=(decide ((p.kids.length:Int)=2)&&decide ((p.at_.es.length:Int)=1)):=by simp only [onlyB,h0,h1,h2,if_false];simp only [h3,if_true,if_false]
  rw [hP,hB]
  clear hP hB h125
  cases k1:decide ((p.kids.length:Int)=2)
  ·simp only [o0,o1,o2,o3,k1,go_sem,seval]
   show _=true
   kernel_rfl
  cases k2:decide ((p.at_.es.length:Int)=1)
  ·simp only [o0,o1,o2,o3,k1,k2,go_sem,seval]
   show _=true
   kernel_rfl
  ·simp only [o0,o1,o2,o3,k1,k2,go_sem,seval]
   show _=true
   kernel_rfl
 case false=>
 have h3:=of_decide_eq_false o3
 cases o4:decide (p.op.bs=[114,101,100,117,99,101])
 case true=>
  have h4:=of_decide_eq_true o4
  have hP:(onlyP p).av = .agg [.str p.op.bs,.int .i64 0,.int .i64 0,.str p.name.bs,.sl p.at_.nl (p.at_.es.map Lin.av) p.at_.cl,.bool false,.int .i64 0,.sl p.fn.nl (p.fn.es.map Step.av) p.fn.cl,.sl p.knl (p.kids.map Pull.av) p.kcl]:=by rw [Pull.avc];simp only [onlyP,h0,h1,h2,h3,if_false];simp only [h4,if_true,if_false,nodeP_op,nodeP_num,nodeP_value,nodeP_name,nodeP_at_,nodeP_dyn,nodeP_check,nodeP_fn,nodeP_kids,nodeP_knl,nodeP_kcl,noStr,nilSl,List.map_nil]
  have hB:onlyB p=(decide ((p.kids.length:Int)=2)&&decide ((p.at_.es.length:Int)=1)):=by simp only [onlyB,h0,h1,h2,h3,if_false];simp only [h4,if_true,if_false]
  rw [hP,hB]
  clear hP hB h125
  cases k1:decide ((p.kids.length:Int)=2)
  ·repeat (first | simp only [o0,o1,o2,o3,o4,k1,go_sem,seval] | refine And.intro (by kernel_rfl) ?_)
   show _=true
   kernel_rfl
  cases k2:decide ((p.at_.es.length:Int)=1)
  ·repeat (first | simp only [o0,o1,o2,o3,o4,k1,k2,go_sem,seval] | refine And.intro (by kernel_rfl) ?_)
   show _=true
   kernel_rfl
  ·repeat (first | simp only [o0,o1,o2,o3,o4,k1,k2,go_sem,seval] | refine And.intro (by kernel_rfl) ?_)
   show _=true
   kernel_rfl
 case false=>
 have h4:=of_decide_eq_false o4
 cases o5:decide (p.op.bs=[99,111,100,101])
 case true=>
  have h5:=of_decide_eq_true o5
  have hP:(onlyP p).av = .agg [.str p.op.bs,.int .i64 0,.int .i64 0,.str [],.sl true [] true,.bool false,.int .i64 0,.sl p.fn.nl (p.fn.es.map Step.av) p.fn.cl,.sl p.knl (p.kids.map Pull.av) p.kcl]:=by rw [Pull.avc];simp only [onlyP,h0,h1,h2,h3,h4,if_false];simp only [h5,if_true,if_false,nodeP_op,nodeP_num,nodeP_value,nodeP_name,nodeP_at_,nodeP_dyn,nodeP_check,nodeP_fn,nodeP_kids,nodeP_knl,nodeP_kcl,noStr,nilSl,List.map_nil]
  have hB:onlyB p=(decide ((p.kids.length:Int)≤20)&&decide ((p.at_.es.length:Int)=0)):=by simp only [onlyB,h0,h1,h2,h3,h4,if_false];simp only [h5,if_true,if_false]
  rw [hP,hB]
  clear hP hB h125
  cases k1:decide ((p.kids.length:Int)≤20)
  ·repeat (first | simp only [o0,o1,o2,o3,o4,o5,mnA,min_eq,k1,go_sem,seval] | refine And.intro (by kernel_rfl) ?_)
   show _=true
   kernel_rfl
  cases k2:decide ((p.at_.es.length:Int)=0)
  ·repeat (first | simp only [o0,o1,o2,o3,o4,o5,mnA,min_eq,k1,k2,go_sem,seval] | refine And.intro (by kernel_rfl) ?_)
   show _=true
   kernel_rfl
  ·repeat (first | simp only [o0,o1,o2,o3,o4,o5,mnA,min_eq,k1,k2,go_sem,seval] | refine And.intro (by kernel_rfl) ?_)
   show _=true
   kernel_rfl
 case false=>
 have h5:=of_decide_eq_false o5
 have hP:(onlyP p).av = .agg [.str p.op.bs,.int .i64 0,.int .i64 0,.str [],.sl true [] true,.bool false,.int .i64 0,.sl true [] true,.sl p.knl (p.kids.map Pull.av) p.kcl]:=by rw [Pull.avc];simp only [onlyP,h0,h1,h2,h3,h4,h5,if_false,nodeP_op,nodeP_num,nodeP_value,nodeP_name,nodeP_at_,nodeP_dyn,nodeP_check,nodeP_fn,nodeP_kids,nodeP_knl,nodeP_kcl,noStr,nilSl,List.map_nil]
 have hB:onlyB p=(match primT p.op.bs with
  | none=>false
  | some q=>decide ((p.kids.length:Int)=(q.params.length:Int))&&decide ((p.at_.es.length:Int)=0)):=by simp only [onlyB,h0,h1,h2,h3,h4,h5,if_false]
 rw [hP,hB]
 clear hP hB
 obtain ⟨rr,hr,hR⟩:=h125 p.op.bs
 simp only [PrimR] at hR
 cases hpt:primT p.op.bs with
 | none=>
  rw [hpt] at hR
  dsimp only at hR
  subst hR
  simp only [o0,o1,o2,o3,o4,o5,go_sem,seval]
  refine XO_tree hr (by simp only [go_sem,seval]) rfl ?_
  simp only [go_sem,seval]
 | some q=>
  rw [hpt] at hR
  dsimp only at hR
  obtain ⟨nl2,cl2,rfl⟩:=hR
  dsimp only
  simp only [o0,o1,o2,o3,o4,o5,go_sem,seval]
  refine XO_tree hr (by simp only [go_sem,seval]) rfl ?_
  cases k1:decide ((p.kids.length:Int)=(q.params.length:Int))
  ·simp only [k1,go_sem,seval]
   show _=true
   kernel_rfl
  cases k2:decide ((p.at_.es.length:Int)=0)
  ·simp only [k1,k2,go_sem,seval]
   show _=true
   kernel_rfl
  ·simp only [k1,k2,go_sem,seval]
   show _=true
   kernel_rfl
end
end Go.Tev
end
section
namespace Go.Tev
section
variable {pg:Pg}
theorem XO_appNil {kb esz bytes s:Nat} {ag:Bool} {h:Hp} {xs:List AV} {nl cl nl0:Bool} {Q:AV→Eff→Prop} {t:Tok Q} (hx:∀ x∈xs,El esz ag x) (hl:xs.length≤1073741824) (hb:bytes≤65536)
  (q1:xs=[]→Q (.sl nl0 [] true) (.pat [] []))
  (q2:xs ≠ []→∀ cs,unchunk esz ag xs=some cs→Q (.rf (kb+s) (h.next (kb+s)) 0 xs.length xs.length) (.pat [kb+s] [⟨kb+s,h.next (kb+s),.blk cs esz ag false false⟩])) :
  XO pg kb (.app esz ag bytes) s h [.sl nl0 [] true,.sl nl xs cl] Q t:=by
 rw [XO_app]
 obtain ⟨ds,d1,d2,d3,_⟩:=chunk_el hx
 simp only [f_app,srcCells,d1,Option.map_some]
 by_cases hxs:xs=[]
 ·subst hxs
  cases d1
  simp only [appA,List.length_nil,if_true]
  exact q1 rfl
 ·have hn:xs.length ≠ 0:=by simpa using hxs
  simp only [appA,hn,if_false,List.length_nil,Nat.zero_add,Bool.or_true,Bool.true_and,hl,hb,decide_true,Bool.and_self,if_true,unchunk,List.nil_append]
  exact q2 hxs ds d1
theorem XO_appOwn {kb esz bytes s k e n:Nat} {ag:Bool} {h:Hp} {cs:List AV} {es xs:List AV} {nl cl:Bool} {Q:AV→Eff→Prop} {t:Tok Q}
  (hne:n=es.length) (hg:h.get k=some (e,.blk cs esz ag false false)) (hu:unchunk esz ag es=some cs) (hk:(k == kb+s)=false) (he:∀ x∈es,El esz ag x) (hx:∀ x∈xs,El esz ag x) (hxs:xs ≠ [])
  (hl:es.length+xs.length≤1073741824) (hb:bytes≤65536)
  (q2:∀ cs',unchunk esz ag (es++xs)=some cs'→Q (.rf (kb+s) (h.next (kb+s)) 0 (n+xs.length) (n+xs.length)) (.pat [kb+s,k] [⟨k,e,.dead⟩,⟨kb+s,h.next (kb+s),.blk cs' esz ag false false⟩])) :
  XO pg kb (.app esz ag bytes) s h [.rf k e 0 n n,.sl nl xs cl] Q t:=by
 subst hne
 rw [XO_app]
 obtain ⟨ds,d1,d2,d3,_⟩:=chunk_el hx
 simp only [f_app,srcCells,d1,Option.map_some]
 have hn:xs.length ≠ 0:=by simpa using hxs
 obtain ⟨cs',c1,c2,_,_⟩:=chunk_el he
 rw [hu] at c1
 cases c1
 have h1:¬ (es.length+xs.length≤es.length):=by omega
 simp only [appA,hg,hn,if_false,true_and,Nat.zero_add]
 rw [if_pos (by omega)]
 simp only [h1,if_false,hl,hb,decide_true,Bool.true_and,hk,Bool.not_false,if_true,Bool.false_eq_true]
 have h3:(List.drop 0 cs).take (es.length*esz)++ds=cs++ds:=by simp [← c2]
 rw [h3]
 exact q2 _ (unchunk_append hu d1)
def ivOK (hp:Hp) (nl cl:Bool) (vars:List Str) (name:Str) (red:Bool) (iv:AV):Prop:=
 (red=false∧iv = .sl nl (vars.map Str.av) cl)∨(red=true∧∃ k,Own hp k 1 false iv ((vars++[name]).map Str.av))
set_option maxHeartbeats 1000000 in
theorem c164_loop (v:Int) (p:Pull) (nl cl:Bool) (vars:List Str) (hk:p.kids.length≤big) (hks:∀ q∈p.kids,q.ok) (hb:vars.length+1+Pull.szL p.kids≤big)
  (ih:∀ q∈p.kids,q.ok→∀ (nl cl:Bool) (vars:List Str),vars.length+q.sz≤big→Ret pg 164 [q.av,.sl nl (vars.map Str.av) cl,.int .i64 v] (.bool (validU v q vars)))
  (iv:AV) (red b R:Bool) (env:List AV) (hp:Hp)
  (henv:clear cf164M0 env=cf164E0 (.sl nl (vars.map Str.av) cl) (.int .i64 v) (.pt 1 0 0) (.bool b) iv (.int .i64 0))
  (g1:hp.get 1=some (0,.blk [.str p.op.bs,.int .i64 p.num,.int .i64 p.value,.str p.name.bs,.sl p.at_.nl (p.at_.es.map Lin.av) p.at_.cl,.bool p.dyn,.int .i64 p.check,.sl p.fn.nl (p.fn.es.map Step.av) p.fn.cl,.sl p.knl (p.kids.map Pull.av) p.kcl] 9 true true false))
  (hiv:ivOK hp nl cl vars p.name red iv) (hR:R=(b&&validKs v red p.name vars 0 p.kids)) :
  XX pg 0 (.loop cf164L0 cf164M0) ⟨env,hp⟩
   (blockQ 1 (thenQ (fun st'=>XX pg 0 (.seq (.reg [⟨some 110,.mov,[.t 8],none,0,0⟩,⟨some 6,.mov,[.t 110],none,0,0⟩] false) .ret) st' (endQ [.inl 6] (.bool R)) ⟨⟩) (endQ [.inl 6] (.bool R)))) ⟨⟩:=by
 refine XX_list p.kids (fun d r env hp=>∃ ok:Bool,env=cf164E0 (.sl nl (vars.map Str.av) cl) (.int .i64 v) (.pt 1 0 0) (.bool ok) iv (.int .i64 d.length) ∧
  hp.get 1=some (0,.blk [.str p.op.bs,.int .i64 p.num,.int .i64 p.value,.str p.name.bs,.sl p.at_.nl (p.at_.es.map Lin.av) p.at_.cl,.bool p.dyn,.int .i64 p.check,.sl p.fn.nl (p.fn.es.map Step.av) p.fn.cl,.sl p.knl (p.kids.map Pull.av) p.kcl] 9 true true false) ∧
  ivOK hp nl cl vars p.name red iv∧R=(ok&&validKs v red p.name vars d.length r)) ?_ ?_ ?_
 ·exact ⟨b,henv,g1,hiv,hR⟩
 ·clear hiv g1 henv hR hp env
  rintro env hp ⟨ok,rfl,g1,hiv,hR⟩
  simp only [cf164L0,cf164E0,g1,ltSelf,go_sem,seval]
  rw [hR];simp [validKs]
 ·clear hiv g1 henv hR hp env
  rintro d x r env hp hes ⟨ok,rfl,g1,hiv,hR⟩
  obtain ⟨hget,e1,e2,ew⟩:=loopF hes hk
  have hxm:x∈p.kids:=by rw [hes];simp
  have hxs:x.sz≤Pull.szL p.kids:=Pull.szL_mem hxm
  have hx:=ih x hxm (hks x hxm)
  clear ih hks
  cases ok
  case false=>
   simp only [cf164L0,cf164E0,g1,e1,go_sem,seval]
   rw [hR];simp
  case true=>
  simp only [validKs,Bool.true_and] at hR
  have hd1:validKs v red p.name vars (d++[x]).length r=validKs v red p.name vars (d.length+1) r:=by simp
  cases c2:decide ((d.length:Int)=1)
  case false=>
   have a1:=hx nl cl vars (by omega)
   simp only [cf164L0,cf164E0,g1,e1,e2,hget,c2,go_sem,seval]
   refine XO_tree a1 (by simp only [go_sem,seval]) rfl ?_
   simp only [ew,go_sem,seval]
   refine ⟨_,rfl,g1,hiv,?_⟩
   rw [hR,c2,hd1];simp
  case true=>
  rcases hiv with ⟨hr,hv⟩ | ⟨hr,kk,ho⟩
  ·have a1:=hx nl cl vars (by omega)
   subst hv
   simp only [cf164L0,cf164E0,g1,e1,e2,hget,c2,go_sem,seval]
   refine XO_tree a1 (by simp only [go_sem,seval]) rfl ?_
   simp only [ew,go_sem,seval]
   refine ⟨_,rfl,g1,.inl ⟨hr,rfl⟩,?_⟩
   rw [hR,c2,hd1,hr];simp
  ·obtain ⟨nl2,cl2,keys,hsn,hnl⟩:=ho.snap (El.strs (vars++[p.name])) 62
   have a1:=hx nl2 cl2 (vars++[p.name]) (by simp;omega)
   simp only [cf164L0,cf164E0,g1,e1,e2,hget,c2,go_sem,seval]
   refine XO_call a1 (mapS_three (by simp only [go_sem,seval]) hsn (by simp only [go_sem,seval])) (v:=.bool (validU v x (vars++[p.name]))) (pa:=[]) rfl ?_
   simp only [ew,go_sem,seval]
   refine ⟨_,rfl,g1,.inr ⟨hr,kk,ho⟩,?_⟩
   rw [hR,c2,hd1,hr];simp
set_option maxHeartbeats 2000000 in
theorem c164 (hf:pg.fs 164=some cf164) (h192:∀ p:Pull,Ret pg 192 [p.av] (.tup [(onlyP p).av,.bool (onlyB p)]))
  (h118:∀ p:Pull,p.ok→∀ q:Pull,Ret pg 118 [p.av,q.av] (.bool (pullEq p q)))
  (h193:∀ (nl cl:Bool) (ls:List Lin),ls.length≤big→∀ (nl' cl':Bool) (vars:List Str),vars.length≤big→Ret pg 193 [.sl nl (ls.map Lin.av) cl,.sl nl' (vars.map Str.av) cl'] (.bool (overOK ls vars)))
  (h124:pg.fs 124=some cf124) (h77:∀ s:Str,Ret pg 77 [.str s.bs] (.bool (nameU s.bs))) (h194:pg.fs 194=some cf194)
  (h87:∀ (nl cl:Bool) (fn:List Step),fn.length≤big→∀ n:Int,Ret pg 87 [.sl nl (fn.map Step.av) cl,.int .i64 n] (.bool (codeOK fn n))) (v:Int) :
  ∀ p:Pull,p.ok→∀ (nl cl:Bool) (vars:List Str),vars.length+p.sz≤big→Ret pg 164 [p.av,.sl nl (vars.map Str.av) cl,.int .i64 v] (.bool (validU v p vars)):=by
 refine Pull.ind' fun p ih hp nl cl vars hb=>?_
 obtain ⟨hk,hks⟩:=(Pull.ok_iff p).1 hp
 have hsz:=Pull.sz_eq p
 have a1:=h192 p
 have a2:=h118 p hp (onlyP p)
 rw [Pull.avc p] at a1 a2
 have a2':=a2
 rw [Pull.avc (onlyP p)] at a2'
 have a3:=h193 p.at_.nl p.at_.cl p.at_.es p.at_.ok nl cl vars (by omega)
 have a4:=c124i h124 p.num
 have a5:=h77 p.name
 have a6:=c194 h194 nl cl vars (by omega) p.name.bs
 have a7:=h87 p.fn.nl p.fn.cl p.fn.es p.fn.ok 2
 have a8:=h87 p.fn.nl p.fn.cl p.fn.es p.fn.ok p.kids.length
 clear h192 h118 h193 h124 h77 h194 h87
 have hspec:validU v p vars=(onlyB p&&(pullEq p (onlyP p)&&(overOK p.at_.es vars&&(refOwn p vars v&&validKs v (decide (p.op.bs=[114,101,100,117,99,101])) p.name vars 0 p.kids)))):=by
  rw [validU_eq,← refNode_eq]
  (refine Bool.eq_iff_iff.2 ?_;simp only [Bool.and_eq_true];constructor<;>(intro h;simp only [h,and_self]))
 rw [hspec]
 refine Ret.ofX hf ?_
 unfold cf164
 simp only [go_sem,seval]
 refine XO_tree a1 (by simp only [go_sem,seval]) (by rfl) ?_
 have hro:refOwn p vars v=(if p.op.bs=[99,111,110,115,116] then elemOKi p.num
  else if p.op.bs=[114,101,97,100] then decide (0≤p.value)&&decide (p.value < v)&&decide (0≤p.check)
  else if p.op.bs=[114,101,100,117,99,101] then nameU p.name.bs && !hasS vars p.name.bs&&codeOK p.fn.es 2
  else if p.op.bs=[99,111,100,101] then codeOK p.fn.es p.kids.length
  else true):=rfl
 generalize hob:onlyB p=ob at *
 cases ob
 case false=>
  simp only [go_sem,seval]
 case true=>
 simp only [go_sem,seval]
 refine XO_tree a2' (by simp only [go_sem,seval]) rfl ?_
 generalize hpe:pullEq p (onlyP p)=pe at *
 cases pe
 case false=>
  simp only [go_sem,seval]
 case true=>
 simp only [go_sem,seval]
 refine XO_tree a3 (by simp only [go_sem,seval]) rfl ?_
 generalize hov:overOK p.at_.es vars=ov at *
 cases ov
 case false=>
  simp only [go_sem,seval]
 case true=>
 simp only [go_sem,seval]
 have hL:=fun iv b R env hp h1 h2 h3 h4=>c164_loop v p nl cl vars hk hks (by omega) ih iv (decide (p.op.bs=[114,101,100,117,99,101])) b R env hp h1 h2 h3 h4
 clear ih hks a1 a2 a2' a3
 cases o1:decide (p.op.bs=[99,111,110,115,116])
 case true=>
  have h:=of_decide_eq_true o1
  have hr:decide (p.op.bs=[114,101,100,117,99,101])=false:=by rw [h];decide
  rw [hro,if_pos h]
  simp only [go_sem,seval]
  refine XO_tree a4 (by simp only [go_sem,seval]) rfl ?_
  simp only [go_sem,seval]
  exact hL _ _ _ _ _ rfl rfl (.inl ⟨hr,rfl⟩) rfl
 case false=>
 rw [hro,if_neg (of_decide_eq_false o1)]
 simp only [go_sem,seval]
 cases o2:decide (p.op.bs=[114,101,97,100])
 case true=>
  have h:=of_decide_eq_true o2
  have hr:decide (p.op.bs=[114,101,100,117,99,101])=false:=by rw [h];decide
  rw [if_pos h]
  cases q1:decide (0≤p.value)
  case false=>
   simp only [q1,go_sem,seval]
   exact hL _ _ _ _ _ rfl rfl (.inl ⟨hr,rfl⟩) rfl
  case true=>
  cases q2:decide (p.value < v)
  case false=>
   simp only [q1,q2,go_sem,seval]
   exact hL _ _ _ _ _ rfl rfl (.inl ⟨hr,rfl⟩) rfl
  case true=>
   simp only [q1,q2,go_sem,seval]
   exact hL _ _ _ _ _ rfl rfl (.inl ⟨hr,rfl⟩) rfl
 case false=>
 rw [if_neg (of_decide_eq_false o2)]
 simp only [go_sem,seval]
 cases o3:decide (p.op.bs=[114,101,100,117,99,101])
 case true=>
  have h:=of_decide_eq_true o3
  rw [if_pos h]
  simp only [go_sem,seval]
  refine XO_tree a5 (by simp only [go_sem,seval]) rfl ?_
  have hvl:vars.length+1≤1073741824:=by simp only [big] at hb;omega
  have hS:∀ x∈[AV.str p.name.bs],El 1 false x:=by intro x hx;simp at hx;subst hx;exact ⟨rfl,rfl,rfl⟩
  cases nm:nameU p.name.bs
  case false=>
   simp only [go_sem,seval]
   refine XO_appNil (El.strs vars) (by simp;omega) (by decide) (fun he=>?_) (fun he cs hcs=>?_)
   ·have hv:vars=[]:=by simpa using he
    simp only [go_sem,seval]
    refine XO_appNil hS (by simp) (by decide) (fun h=>by cases h) (fun _ cs2 hcs2=>?_)
    cases hcs2
    simp only [go_sem,seval]
    refine And.intro (by kernel_rfl) ?_
    exact hL _ _ _ _ _ rfl rfl (.inr ⟨o3,41,.inr ⟨_,_,by rw [hv];rfl,rfl,by rw [hv];rfl⟩⟩) (by rw [o3];rfl)
   ·simp only [go_sem,seval]
    refine XO_appOwn (es:=vars.map Str.av) (by simp) rfl hcs rfl (El.strs vars) hS (by simp) (by simp;omega) (by decide) (fun cs2 hcs2=>?_)
    simp only [go_sem,seval]
    refine And.intro (by kernel_rfl) ?_
    exact hL _ _ _ _ _ rfl rfl (.inr ⟨o3,41,.inr ⟨_,_,by simp,rfl,by rw [List.map_append];exact hcs2⟩⟩) (by rw [o3];rfl)
  case true=>
  simp only [go_sem,seval]
  refine XO_tree a6 (by simp only [go_sem,seval]) rfl ?_
  cases hs:hasS vars p.name.bs
  case true=>
   simp only [go_sem,seval]
   refine XO_appNil (El.strs vars) (by simp;omega) (by decide) (fun he=>?_) (fun he cs hcs=>?_)
   ·have hv:vars=[]:=by simpa using he
    simp only [go_sem,seval]
    refine XO_appNil hS (by simp) (by decide) (fun h=>by cases h) (fun _ cs2 hcs2=>?_)
    cases hcs2
    simp only [go_sem,seval]
    refine And.intro (by kernel_rfl) ?_
    exact hL _ _ _ _ _ rfl rfl (.inr ⟨o3,41,.inr ⟨_,_,by rw [hv];rfl,rfl,by rw [hv];rfl⟩⟩) (by rw [o3];rfl)
   ·simp only [go_sem,seval]
    refine XO_appOwn (es:=vars.map Str.av) (by simp) rfl hcs rfl (El.strs vars) hS (by simp) (by simp;omega) (by decide) (fun cs2 hcs2=>?_)
    simp only [go_sem,seval]
    refine And.intro (by kernel_rfl) ?_
    exact hL _ _ _ _ _ rfl rfl (.inr ⟨o3,41,.inr ⟨_,_,by simp,rfl,by rw [List.map_append];exact hcs2⟩⟩) (by rw [o3];rfl)
  case false=>
  simp only [go_sem,seval]
  refine XO_tree a7 (by simp only [go_sem,seval]) rfl ?_
  simp only [go_sem,seval]
  refine XO_appNil (El.strs vars) (by simp;omega) (by decide) (fun he=>?_) (fun he cs hcs=>?_)
  ·have hv:vars=[]:=by simpa using he
   simp only [go_sem,seval]
   refine XO_appNil hS (by simp) (by decide) (fun h=>by cases h) (fun _ cs2 hcs2=>?_)
   cases hcs2
   simp only [go_sem,seval]
   refine And.intro (by kernel_rfl) ?_
   exact hL _ _ _ _ _ rfl rfl (.inr ⟨o3,41,.inr ⟨_,_,by rw [hv];rfl,rfl,by rw [hv];rfl⟩⟩) (by rw [o3];rfl)
  ·simp only [go_sem,seval]
   refine XO_appOwn (es:=vars.map Str.av) (by simp) rfl hcs rfl (El.strs vars) hS (by simp) (by simp;omega) (by decide) (fun cs2 hcs2=>?_)
   simp only [go_sem,seval]
   refine And.intro (by kernel_rfl) ?_
   exact hL _ _ _ _ _ rfl rfl (.inr ⟨o3,41,.inr ⟨_,_,by simp,rfl,by rw [List.map_append];exact hcs2⟩⟩) (by rw [o3];rfl)
 case false=>
 rw [if_neg (of_decide_eq_false o3)]
 simp only [go_sem,seval]
 cases o4:decide (p.op.bs=[99,111,100,101])
 case true=>
  have h:=of_decide_eq_true o4
  rw [if_pos h]
  simp only [go_sem,seval]
  refine XO_tree a8 (by simp only [go_sem,seval]) rfl ?_
  simp only [go_sem,seval]
  exact hL _ _ _ _ _ rfl rfl (.inl ⟨o3,rfl⟩) (by rw [o3];rfl)
 case false=>
  rw [if_neg (of_decide_eq_false o4)]
  simp only [go_sem,seval]
  exact hL _ _ _ _ _ rfl rfl (.inl ⟨o3,rfl⟩) (by rw [o3];rfl)
end
end Go.Tev
end
