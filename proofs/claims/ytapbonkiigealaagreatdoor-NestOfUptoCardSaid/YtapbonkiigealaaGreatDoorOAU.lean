import Derived.Test.YtapbonkiigealaaGreatDoorOAS
import Derived.Test.YtapbonkiigealaaGreatDoorOAM
import Derived.Test.YtapbonkiigealaaGreatDoorOAT
import Derived.Test.YtapbonkiigealaaGreatDoorOAN
import Derived.Test.YtapbonkiigealaaGreatDoorOAO
set_option linter.all false
section
namespace Go.Tev
def loopOK (x:Loop) (all:List Str):Bool:=
 nameU x.v.bs && !hasS all x.v.bs&&(!decide ((x.hi.es.length:Int) < 1) && !decide (4 < (x.hi.es.length:Int)) && !decide (x.step < 1) && !decide (4096 < x.step))&&(overOK x.hi.es all&&overOK [x.lo] all)
def loopsOK:List Loop→List Str→Bool
 | [],_=>true
 | x :: r,all=>loopOK x all&&loopsOK r (all++[x.v])
def loopedR (l:List Loop) (vars:List Str) (r:AV):Prop:=
 if loopsOK l vars=true then ∃ nl cl,(nl=true→vars++l.map (·.v)=[])∧r = .tup [.sl nl ((vars++l.map (·.v)).map Str.av) cl,.bool (decide ((l.length:Int)≤12))]
 else r = .tup [.sl true [] true,.bool false]
theorem conv_two {h:Hp} {v t w:AV} {keys:List Nat} (hw:w.tree=true) (hs:snap 63 h v=some (t,keys)):conv h (.tup [v,w])=some (.tup [t,w]):=by
 show (snap depth h (.tup [v,w])).map (·.1)=_
 have e2:snap 63 h w=some (w,[]):=by unfold snap;rw [if_pos hw]
 show (snap 64 h (.tup [v,w])).map (·.1)=_
 unfold snap
 split
 ·rename_i ht
  have hv:v.tree=true:=by simp only [AV.tree,treeL,Bool.and_eq_true] at ht;exact ht.1
  have e1:snap 63 h v=some (v,[]):=by unfold snap;rw [if_pos hv]
  rw [e1] at hs
  cases hs
  rfl
 ·simp only [mapS,hs,e2,Option.map_some,Option.map]
section
variable {pg:Pg}
theorem c607 (hf:pg.fs 607=some cf607) (nl cl:Bool) (es:List Coef) (hb:es.length≤big) (g:Nat) (cs:List AV) (hcs:treeL cs=true) (p:Coef→Bool) (hp:∀ x∈es,Ret pg g (x.av :: cs) (.bool (p x))) :
  RetP pg 607 [.sl nl (es.map Coef.av) cl,.fn g cs] (fun r=>∃ i:Int,r = .int .i64 i∧decide (0≤i)=es.any p):=
 idxF_ok (f:=607) (esz:=2) (ag:=true) hf Coef.av Coef.fits_av Coef.tree_av nl cl es hb g cs hcs p hp
theorem c593 (hf:pg.fs 593=some cf593) (h607:pg.fs 607=some cf607) (nl cl:Bool) (es:List Coef) (hb:es.length≤big) (g:Nat) (cs:List AV) (hcs:treeL cs=true) (p:Coef→Bool) (hp:∀ x∈es,Ret pg g (x.av :: cs) (.bool (p x))) :
  Ret pg 593 [.sl nl (es.map Coef.av) cl,.fn g cs] (.bool (es.any p)):=
 conF_ok (n:=607) hf (by simp only [treeL,tree_sl,tree_fn,hcs,Coef.treeL_av,Bool.and_true]) (c607 h607 nl cl es hb g cs hcs p hp)
theorem c594 (hf:pg.fs 594=some cf594) (h98:pg.fs 98=some cf98) (h138:pg.fs 138=some cf138) (nl cl:Bool) (es:List Str) (hb:es.length≤big) (x:Coef) :
  Ret pg 594 [x.av,.fp (.sl nl (es.map Str.av) cl)] (.bool (!hasS es x.v.bs)):=by
 refine Ret.ofX hf ?_
 unfold cf594
 simp only [go_sem,seval]
 refine XO_tree (c98 h98 h138 nl cl es hb x.v.bs) (by simp only [go_sem,seval]) rfl ?_
 simp only [go_sem,seval]
 rfl
def linIn (vars:List Str) (l:Lin):Bool:=linOK l&&l.ts.es.all fun x=>hasS vars x.v.bs
theorem c592 (hf:pg.fs 592=some cf592) (h51:∀ l:Lin,Ret pg 51 [l.av] (.bool (linOK l))) (h593:pg.fs 593=some cf593) (h607:pg.fs 607=some cf607) (h594:pg.fs 594=some cf594) (h98:pg.fs 98=some cf98) (h138:pg.fs 138=some cf138)
  (nl cl:Bool) (es:List Str) (hb:es.length≤big) (l:Lin):Ret pg 592 [l.av,.fp (.sl nl (es.map Str.av) cl)] (.bool (!linIn es l)):=by
 have a1:=h51 l
 have a2:=c593 h593 h607 l.ts.nl l.ts.cl l.ts.es l.ts.ok 594 [.fp (.sl nl (es.map Str.av) cl)] (by simp only [go_sem,seval]) (fun x => !hasS es x.v.bs) (fun x _=>c594 h594 h98 h138 nl cl es hb x)
 rw [Lin.avc] at a1
 have hany:(l.ts.es.any fun x => !hasS es x.v.bs) = !(l.ts.es.all fun x=>hasS es x.v.bs):=by simp [List.not_all_eq_any_not]
 rw [hany] at a2
 refine Ret.ofX hf ?_
 unfold cf592
 simp only [go_sem,seval]
 refine XO_tree (a1) (by simp only [go_sem,seval]) rfl ?_
 cases b1:linOK l
 ·simp only [go_sem,seval]
  simp [linIn,b1]
 ·simp only [go_sem,seval]
  refine XO_tree (a2) (by simp only [go_sem,seval]) rfl ?_
  simp only [go_sem,seval]
  simp [linIn,b1]
theorem c571 (hf:pg.fs 571=some cf571) (h175:pg.fs 175=some cf175) (h205:pg.fs 205=some cf205) (h592:∀ (nl cl:Bool) (es:List Str),es.length≤big→∀ l:Lin,Ret pg 592 [l.av,.fp (.sl nl (es.map Str.av) cl)] (.bool (!linIn es l)))
  (nl cl:Bool) (ls:List Lin) (hb:ls.length≤big) (nl' cl':Bool) (vars:List Str) (hb':vars.length≤big):Ret pg 571 [.sl nl (ls.map Lin.av) cl,.sl nl' (vars.map Str.av) cl'] (.bool (overOK ls vars)):=by
 have a2:=c175 h175 h205 nl cl ls hb 592 [.fp (.sl nl' (vars.map Str.av) cl')] (by simp only [go_sem,seval]) (fun l => !linIn vars l) (fun l _=>h592 nl' cl' vars hb' l)
 have hany:(ls.any fun l => !linIn vars l) = !overOK ls vars:=by simp only [overOK];rw [List.not_all_eq_any_not];rfl
 rw [hany] at a2
 refine Ret.ofX hf ?_
 unfold cf571
 simp only [go_sem,seval]
 refine XO_call a2 (by simp only [depth,mapS_nil,mapS_cons,snapX,go_sem,seval];rfl) (by rfl) ?_
 simp only [go_sem,seval]
 simp
theorem c570 (hf:pg.fs 570=some cf570) (h107:pg.fs 107=some cf107) (h57:∀ s:Str,Ret pg 57 [.str s.bs] (.bool (nameU s.bs))) (h98:pg.fs 98=some cf98) (h138:pg.fs 138=some cf138)
  (h571:∀ (nl cl:Bool) (ls:List Lin),ls.length≤big→∀ (nl' cl':Bool) (vars:List Str),vars.length≤big→Ret pg 571 [.sl nl (ls.map Lin.av) cl,.sl nl' (vars.map Str.av) cl'] (.bool (overOK ls vars)))
  (nl cl:Bool) (l:List Loop) (nl' cl':Bool) (vars:List Str) (hnl':nl'=true→vars=[]) (hb:vars.length+l.length≤big) :
  RetP pg 570 [.sl nl (l.map Loop.av) cl,.sl nl' (vars.map Str.av) cl'] (loopedR l vars):=by
 refine RetP.ofX hf ?_
 unfold cf570
 simp only [go_sem,seval]
 refine XO_slO (c107 h107 nl' cl' (vars.map Str.av) (El.strs vars) (by simp;omega) (by intro h;simp [hnl' h])) (by simp only [go_sem,seval]) (El.strs _) ?_
 intro v0 rd pa ho0 hk0 _
 simp only [go_sem,seval]
 clear hk0
 generalize hH:Eff.app _ (Eff.pat rd pa)=H at ho0 ⊢
 clear hH
 refine XX_list l (fun d r env hp=>∃ v kk,env=cf570E0 (.sl nl (l.map Loop.av) cl) v (.sl nl (l.map Loop.av) cl) (.int .i64 l.length) (.int .i64 d.length)∧(kk=1∨kk=25)∧Own hp kk 1 false v ((vars++d.map (·.v)).map Str.av)∧loopsOK l vars=loopsOK r (vars++d.map (·.v))) ?_ ?_ ?_
 ·exact ⟨v0,1,rfl,.inl rfl,by simpa using ho0,by simp⟩
 ·rintro env hp ⟨v,kk,rfl,hkk,ho,hI⟩
  obtain ⟨nl8,cl8,keys,hsn,hnl8⟩:=ho.snap (El.strs _) 61
  simp only [cf570L0,cf570E0,Int.lt_irrefl,go_sem,seval]
  refine ⟨_,conv_two rfl hsn,?_⟩
  rw [loopedR,hI,loopsOK,if_pos rfl]
  exact ⟨nl8,cl8,fun h=>by simpa using hnl8 h,rfl⟩
 ·rintro d x r env hp hes ⟨v,kk,rfl,hkk,ho,hI⟩
  have hb2:(d++x :: r).length≤big:=by rw [← hes];omega
  obtain ⟨hget,e1,e2,ew⟩:=loopF hes (by rw [hes];exact hb2)
  have a57:=h57 x.v
  have a98:=c98 h98 h138
  have hI2:loopsOK l vars=(loopOK x (vars++d.map (·.v))&&loopsOK r (vars++(d++[x]).map (·.v))):=by rw [hI,loopsOK];simp
  have hbad:loopOK x (vars++d.map (·.v))=false→loopedR l vars (.tup [.sl true [] true,.bool false]):=by
   intro h
   rw [loopedR,hI2,h]
   rfl
  clear hI
  have hl1:(vars++d.map (·.v)).length≤big:=by
   have:l.length=d.length+(r.length+1):=by rw [hes];simp
   simp;omega
  have hl2:(vars++d.map (·.v)).length+1≤big:=by
   have:l.length=d.length+(r.length+1):=by rw [hes];simp
   simp;omega
  generalize hall:vars++d.map (·.v)=all at *
  simp only [cf570L0,cf570E0,e1,e2,hget,go_sem,seval]
  refine XO_tree (a57) (by simp only [go_sem,seval]) rfl ?_
  cases b1:nameU x.v.bs
  case false=>
   simp only [go_sem,seval]
   exact hbad (by simp [loopOK,b1])
  simp only [go_sem,seval]
  generalize hH2:Hp.put (Hp.put hp 5 (hp.next 5) _) 5 (hp.next 5) _=H2
  have q5:H2.get 5=some (hp.next 5,.blk [AV.str x.v.bs,AV.int IntKind.i64 x.lo.c,AV.sl x.lo.ts.nl (List.map Coef.av x.lo.ts.es) x.lo.ts.cl,AV.sl x.hi.nl (List.map Lin.av x.hi.es) x.hi.cl,AV.int IntKind.i64 x.step] 5 true true false):=by
   rw [← hH2,get_put,if_pos rfl]
  have hot:∀ k,k ≠ 5→H2.get k=hp.get k:=fun k hk=>by rw [← hH2,get_put,if_neg (Ne.symm hk),get_put,if_neg (Ne.symm hk)]
  have ho2:=ho.mono (hot kk (by omega))
  clear hH2 hot ho
  obtain ⟨nl8,cl8,keys,hsn,_⟩:=ho2.snap (El.strs _) 62
  refine XO_call (a98 nl8 cl8 all hl1 x.v.bs) (mapS_two' hsn rfl) (v:=.bool (hasS all x.v.bs)) (pa:=[]) rfl ?_
  have a3:=h571 x.hi.nl x.hi.cl x.hi.es x.hi.ok nl8 cl8 all hl1
  have a4:=h571 false true [x.lo] (by simp [big]) nl8 cl8 all hl1
  simp only [List.map_cons,List.map_nil,Lin.avc] at a4
  cases b2:hasS all x.v.bs
  case true=>
   simp only [go_sem,seval]
   exact hbad (by simp [loopOK,b2])
  cases b3:decide ((x.hi.es.length:Int) < 1)
  case true=>
   simp only [q5,b3,go_sem,seval]
   exact hbad (by simp [loopOK,b3])
  cases b4:decide (4 < (x.hi.es.length:Int))
  case true=>
   simp only [q5,b3,b4,go_sem,seval]
   exact hbad (by simp [loopOK,b4])
  cases b5:decide (x.step < 1)
  case true=>
   simp only [q5,b3,b4,b5,go_sem,seval]
   exact hbad (by simp [loopOK,b5])
  cases b6:decide (4096 < x.step)
  case true=>
   simp only [q5,b3,b4,b5,b6,go_sem,seval]
   exact hbad (by simp [loopOK,b6])
  simp only [q5,b3,b4,b5,b6,go_sem,seval]
  refine XO_call a3 (mapS_two (by simp only [go_sem,seval]) hsn) (v:=.bool (overOK x.hi.es all)) (pa:=[]) rfl ?_
  cases b7:overOK x.hi.es all
  case false=>
   simp only [go_sem,seval]
   exact hbad (by simp [loopOK,b7])
  simp only [q5,go_sem,seval]
  refine XO_call a4 (mapS_two (by simp only [go_sem,seval]) hsn) (v:=.bool (overOK [x.lo] all)) (pa:=[]) rfl ?_
  cases b8:overOK [x.lo] all
  case false=>
   simp only [go_sem,seval]
   exact hbad (by simp [loopOK,b8])
  simp only [q5,go_sem,seval]
  refine XO_own3 (kb:=0) (s:=25) (k1:=kk) ho2 (El.strs _) (xs:=[.str x.v.bs]) (by intro y hy;simp at hy;subst hy;exact El.str _) (by simp) (by simp [big] at hl2 ⊢;omega) (by omega) ?_
  intro v' rd' pa' ho3 _
  simp only [wr_mid hb2,go_sem,seval]
  refine ⟨v',25,rfl,.inr rfl,?_,?_⟩
  ·subst hall
   simpa [Str.av] using ho3
  ·rw [hI2]
   have:loopOK x all=true:=by simp [loopOK,b1,b2,b3,b4,b5,b6,b7,b8]
   rw [this,Bool.true_and]
end
end Go.Tev
end
section
namespace Go.Tev
def allV (n:Nest) (vars:List Str):List Str:=vars++n.loops.es.map (·.v)
def mostAt (n:Nest):Int:=if n.dyn then 5 else 6
def nestOK (n:Nest) (vars:List Str) (values:Int):Bool:=
 loopsOK n.loops.es vars&&decide ((n.loops.es.length:Int)≤12) && !decide (n.value < 0) && !decide (values≤n.value) && !decide (mostAt n < (n.at_.es.length:Int))&&overOK n.at_.es (allV n vars)&&pullOK n.body (allV n vars) values &&
 (if n.dyn=true then pullOK n.index (allV n vars) values&&decide (0≤n.check) else pullEq n.index zeroP&&decide (n.check=0))
structure NestSz (n:Nest) (vars:List Str):Prop where
 body:n.body.ok
 index:n.index.ok
 szb:vars.length+n.loops.es.length+n.body.sz≤big
 szi:vars.length+n.loops.es.length+n.index.sz≤big
structure NestOK (n:Nest) (vars:List Str):Prop where
 body:n.body.ok
 index:n.index.ok
 sz:vars.length+n.loops.es.length+n.body.sz+n.index.sz≤big
theorem NestOK.sz' {n:Nest} {vars:List Str} (h:NestOK n vars):NestSz n vars:=⟨h.body,h.index,by have:=h.sz;omega,by have:=h.sz;omega⟩
section
variable {pg:Pg}
theorem c557 (hf:pg.fs 557=some cf557)
  (h570:∀ (nl cl:Bool) (l:List Loop) (nl' cl':Bool) (vars:List Str),(nl'=true→vars=[])→vars.length+l.length≤big→RetP pg 570 [.sl nl (l.map Loop.av) cl,.sl nl' (vars.map Str.av) cl'] (loopedR l vars))
  (h571:∀ (nl cl:Bool) (ls:List Lin),ls.length≤big→∀ (nl' cl':Bool) (vars:List Str),vars.length≤big→Ret pg 571 [.sl nl (ls.map Lin.av) cl,.sl nl' (vars.map Str.av) cl'] (.bool (overOK ls vars)))
  (h109:∀ p:Pull,p.ok→∀ (nl cl:Bool) (vars:List Str),vars.length+p.sz≤big→∀ v:Int,Ret pg 109 [p.av,.sl nl (vars.map Str.av) cl,.int .i64 v] (.bool (pullOK p vars v)))
  (h105:∀ p q:Pull,p.ok→Ret pg 105 [p.av,q.av] (.bool (pullEq p q)))
  (n:Nest) (nl cl:Bool) (vars:List Str) (hnl:nl=true→vars=[]) (hsz:NestSz n vars) (values:Int) :
  Ret pg 557 [n.av,.sl nl (vars.map Str.av) cl,.int .i64 values] (.bool (nestOK n vars values)):=by
 obtain ⟨r,hr,hs⟩:=h570 n.loops.nl n.loops.cl n.loops.es nl cl vars hnl (by have:=hsz.szb;omega)
 refine Ret.ofX hf ?_
 unfold cf557
 cases b1:loopsOK n.loops.es vars
 case false=>
  rw [loopedR,b1,if_neg (by simp)] at hs
  subst hs
  simp only [go_sem,seval]
  refine XO_tree (hr) (by simp only [go_sem,seval]) rfl ?_
  cases b2:n.dyn<;>(simp only [b2,go_sem,seval];simp [nestOK,b1])
 rw [loopedR,b1,if_pos rfl] at hs
 obtain ⟨nl2,cl2,hnl2,rfl⟩:=hs
 have hall:(allV n vars).length≤big:=by simp [allV];have:=hsz.szb;omega
 have a1:=h571 n.at_.nl n.at_.cl n.at_.es n.at_.ok nl2 cl2 (allV n vars) hall
 have a2:=h109 n.body hsz.body nl2 cl2 (allV n vars) (by simp [allV];have:=hsz.szb;omega) values
 have a3:=h109 n.index hsz.index nl2 cl2 (allV n vars) (by simp [allV];have:=hsz.szi;omega) values
 have a4:=h105 n.index zeroP hsz.index
 rw [Pull.avc] at a2 a3 a4
 have hd:nestOK n vars values=(decide ((n.loops.es.length:Int)≤12) && !decide (n.value < 0) && !decide (values≤n.value) && !decide (mostAt n < (n.at_.es.length:Int))&&overOK n.at_.es (allV n vars)&&pullOK n.body (allV n vars) values &&
  (if n.dyn=true then pullOK n.index (allV n vars) values&&decide (0≤n.check) else pullEq n.index zeroP&&decide (n.check=0))):=by simp [nestOK,b1]
 rw [hd]
 clear hd
 change Ret pg 570 _ (.tup [.sl nl2 ((allV n vars).map Str.av) cl2,_]) at hr
 generalize allV n vars=all at *
 have z4:zeroP.av=_:=Pull.avc zeroP
 have w5:wr .i64 5=5:=rfl
 simp only [go_sem,seval]
 refine XO_tree hr (by simp only [go_sem,seval]) (by first | rfl | simp [AV.tree,go_sem]) ?_
 cases b2:decide ((n.loops.es.length:Int)≤12)
 case false=>cases b0:n.dyn<;>(simp only [b0,go_sem,seval];try simp)
 cases b3:decide (n.value < 0)
 case true=>cases b0:n.dyn<;>(simp only [b0,b3,go_sem,seval];try simp)
 cases b4:decide (values≤n.value)
 case true=>cases b0:n.dyn<;>(simp only [b0,b3,b4,go_sem,seval];try simp)
 cases b5:decide (mostAt n < (n.at_.es.length:Int))
 case true=>
  cases b0:n.dyn
  ·have b6:decide (6 < (n.at_.es.length:Int))=true:=by simpa [mostAt,b0] using b5
   simp only [b0,b3,b4,b6,w5,go_sem,seval]
   try simp
  ·have b6:decide (5 < (n.at_.es.length:Int))=true:=by simpa [mostAt,b0] using b5
   simp only [b0,b3,b4,b6,w5,go_sem,seval]
   try simp
 cases b0:n.dyn
 ·have b6:decide (6 < (n.at_.es.length:Int))=false:=by simpa [mostAt,b0] using b5
  simp only [b0,b3,b4,b6,w5,go_sem,seval]
  refine XO_tree a1 (by simp only [go_sem,seval]) rfl ?_
  cases b7:overOK n.at_.es all
  ·simp only [go_sem,seval]
   try simp
  simp only [go_sem,seval]
  refine XO_tree a2 (by simp only [go_sem,seval]) rfl ?_
  cases b8:pullOK n.body all values
  ·simp only [go_sem,seval]
   try simp
  simp only [b0,go_sem,seval]
  refine XO_tree a4 (by simp only [go_sem,seval]) rfl ?_
  cases b9:pullEq n.index zeroP<;>(simp only [go_sem,seval];try simp)
 ·have b6:decide (5 < (n.at_.es.length:Int))=false:=by simpa [mostAt,b0] using b5
  simp only [b0,b3,b4,b6,w5,go_sem,seval]
  refine XO_tree a1 (by simp only [go_sem,seval]) rfl ?_
  cases b7:overOK n.at_.es all
  ·simp only [go_sem,seval]
   try simp
  simp only [go_sem,seval]
  refine XO_tree a2 (by simp only [go_sem,seval]) rfl ?_
  cases b8:pullOK n.body all values
  ·simp only [go_sem,seval]
   try simp
  simp only [b0,go_sem,seval]
  refine XO_tree a3 (by simp only [go_sem,seval]) rfl ?_
  cases b9:pullOK n.index all values<;>(simp only [go_sem,seval];try simp)
end
end Go.Tev
end
section
namespace Go.Tev
def Lin.strip (l:Lin):Lin:=⟨l.c,⟨false,l.ts.es,false,l.ts.ok⟩⟩
def Step.strip (s:Step):Step:=⟨s.op,s.num,⟨false,s.args.es,false,s.args.ok⟩⟩
def Sl.mapS {α : Type} (f : α → α) (s:Sl α):Sl α:=⟨false,s.es.map f,false,by simpa using s.ok⟩
mutual
def Pull.strip:Pull→Pull
 | .mk op num value name at_ dyn check fn _ kids _ => .mk op num value name (at_.mapS Lin.strip) dyn check (fn.mapS Step.strip) false (Pull.strips kids) false
def Pull.strips:List Pull→List Pull
 | []=>[]
 | p :: r=>p.strip :: Pull.strips r
end
theorem Pull.strips_eq:∀ l:List Pull,Pull.strips l=l.map Pull.strip
 | []=>by simp [Pull.strips]
 | p :: r=>by simp [Pull.strips,Pull.strips_eq r]
theorem Pull.strip_eq (p:Pull):p.strip = .mk p.op p.num p.value p.name (p.at_.mapS Lin.strip) p.dyn p.check (p.fn.mapS Step.strip) false (p.kids.map Pull.strip) false:=by
 cases p;rw [Pull.strip,Pull.strips_eq];rfl
theorem Pull.strip_kids (p:Pull):p.strip.kids=p.kids.map Pull.strip:=by cases p;rw [Pull.strip,Pull.strips_eq];rfl
theorem Pull.strip_f (p:Pull):p.strip.op=p.op∧p.strip.num=p.num∧p.strip.value=p.value∧p.strip.name=p.name∧p.strip.at_=p.at_.mapS Lin.strip∧p.strip.dyn=p.dyn∧p.strip.check=p.check∧p.strip.fn=p.fn.mapS Step.strip:=by
 cases p;rw [Pull.strip];exact ⟨rfl,rfl,rfl,rfl,rfl,rfl,rfl,rfl⟩
def Loop.strip (x:Loop):Loop:=⟨x.v,x.lo.strip,x.hi.mapS Lin.strip,x.step⟩
def Nest.strip (n:Nest):Nest:=⟨n.loops.mapS Loop.strip,n.value,n.at_.mapS Lin.strip,n.dyn,n.index.strip,n.check,n.body.strip⟩
theorem overOK_strip (ls:List Lin) (vars:List Str):overOK (ls.map Lin.strip) vars=overOK ls vars:=by
 simp only [overOK,List.all_map];rfl
theorem stepsOK_strip:∀ (fn:List Step) (n:Int),stepsOK n (fn.map Step.strip)=stepsOK n fn
 | [],_=>rfl
 | s :: r,n=>by
  rw [List.map_cons,stepsOK,stepsOK,stepsOK_strip r]
  rfl
theorem codeOK_strip (fn:List Step) (n:Int):codeOK (fn.map Step.strip) n=codeOK fn n:=by
 rw [codeOK,codeOK,stepsOK_strip,List.length_map]
theorem bareOK_strip (p:Pull) (a b c d e f:Bool):bareOK p.strip a b c d e f=bareOK p a b c d e f:=by
 rw [Pull.strip_eq]
 simp only [bareOK,Pull.num,Pull.value,Pull.name,Pull.at_,Pull.dyn,Pull.check,Pull.fn,Sl.mapS,List.length_map]
 cases p;rfl
theorem nodeOK_strip (p:Pull) (vars:List Str) (v:Int):nodeOK p.strip vars v=nodeOK p vars v:=by
 have h1:readOK p.strip v=readOK p v:=by
  simp only [readOK,bareOK_strip]
  rw [Pull.strip_eq]
  simp only [Pull.value,Pull.at_,Pull.dyn,Pull.check,Pull.kids,Sl.mapS,List.length_map]
  cases p;rfl
 simp only [nodeOK,bareOK_strip,h1]
 rw [Pull.strip_eq]
 simp only [Pull.op,Pull.num,Pull.name,Pull.at_,Pull.kids,Pull.fn,Sl.mapS,List.length_map,codeOK_strip]
 cases p;rfl
mutual
theorem validU_strip (v:Int):∀ (p:Pull) (vars:List Str),validU v p.strip vars=validU v p vars
 | .mk op num value name at_ dyn check fn knl kids kcl,vars=>by
  have h:=nodeOK_strip (.mk op num value name at_ dyn check fn knl kids kcl) vars v
  rw [Pull.strip] at h ⊢
  rw [validU,validU,h,validKs_strip v _ _ _ kids]
  simp only [Sl.mapS,overOK_strip]
theorem validKs_strip (v:Int) (red:Bool) (name:Str) (vars:List Str):∀ (kids:List Pull) (i:Nat),validKs v red name vars i (Pull.strips kids)=validKs v red name vars i kids
 | [],i=>by rw [Pull.strips]
 | k :: r,i=>by rw [Pull.strips,validKs,validKs,validU_strip v k,validKs_strip v red name vars r]
end
mutual
theorem nodesU_strip:∀ p:Pull,nodesU p.strip=nodesU p
 | .mk op num value name at_ dyn check fn knl kids kcl=>by rw [Pull.strip,nodesU,nodesU,nodesL_strip kids]
theorem nodesL_strip:∀ (l:List Pull) (a:Int),nodesL a (Pull.strips l)=nodesL a l
 | [],a=>by rw [Pull.strips]
 | p :: r,a=>by rw [Pull.strips,nodesL,nodesL,nodesU_strip p,nodesL_strip r]
end
theorem pullOK_strip (p:Pull) (vars:List Str) (v:Int):pullOK p.strip vars v=pullOK p vars v:=by rw [pullOK,pullOK,nodesU_strip,validU_strip]
theorem eqL_mapl {α β : Type} {q : α → β → Bool} {f : α → α} (h:∀ x y,q (f x) y=q x y):∀ (l:List α) (m:List β),eqL q (l.map f) m=eqL q l m
 | [],m=>rfl
 | x :: r,[]=>rfl
 | x :: r,y :: s=>by rw [List.map_cons,eqL,eqL,h,eqL_mapl h]
theorem eqL_mapr {α β : Type} {q : α → β → Bool} {f : β → β} (h:∀ x y,q x (f y)=q x y):∀ (l:List α) (m:List β),eqL q l (m.map f)=eqL q l m
 | [],[]=>rfl
 | [],y :: s=>rfl
 | x :: r,[]=>rfl
 | x :: r,y :: s=>by rw [List.map_cons,eqL,eqL,h,eqL_mapr h]
theorem linEq_sl (x y:Lin):linEq x.strip y=linEq x y:=rfl
theorem linEq_sr (x y:Lin):linEq x y.strip=linEq x y:=rfl
theorem stepEq_sl (x y:Step):stepEq x.strip y=stepEq x y:=rfl
theorem stepEq_sr (x y:Step):stepEq x y.strip=stepEq x y:=rfl
theorem eqL_mapl' {α β : Type} {q : α → β → Bool} {f : α → α}:∀ (l:List α) (m:List β),(∀ x∈l,∀ y,q (f x) y=q x y)→eqL q (l.map f) m=eqL q l m
 | [],m,_=>rfl
 | x :: r,[],_=>rfl
 | x :: r,y :: s,h=>by rw [List.map_cons,eqL,eqL,h x (by simp),eqL_mapl' r s (fun z hz=>h z (by simp [hz]))]
theorem pullEq_sl:∀ (p q:Pull),pullEq p.strip q=pullEq p q:=
 fun p=>by
  refine Pull.ind' (P:=fun p=>∀ q,pullEq p.strip q=pullEq p q) (fun p ih q=>?_) p
  rw [pullEq_eq,pullEq_eq,pullEqs_eq,pullEqs_eq]
  obtain ⟨e1,e2,e3,e4,e5,e6,e7,e8⟩:=Pull.strip_f p
  rw [e1,e2,e3,e4,e5,e6,e7,e8,Pull.strip_kids]
  simp only [Sl.mapS]
  rw [eqL_mapl linEq_sl,eqL_mapl stepEq_sl,eqL_mapl' _ _ (fun x hx y=>ih x hx y)]
theorem eqL_mapr' {α β : Type} {q : α → β → Bool} {f : β → β}:∀ (l:List α) (m:List β),(∀ x∈l,∀ y,q x (f y)=q x y)→eqL q l (m.map f)=eqL q l m
 | [],[],_=>rfl
 | [],y :: s,_=>rfl
 | x :: r,[],_=>rfl
 | x :: r,y :: s,h=>by rw [List.map_cons,eqL,eqL,h x (by simp),eqL_mapr' r s (fun z hz=>h z (by simp [hz]))]
theorem pullEq_sr:∀ (p q:Pull),pullEq p q.strip=pullEq p q:=
 fun p=>by
  refine Pull.ind' (P:=fun p=>∀ q,pullEq p q.strip=pullEq p q) (fun p ih q=>?_) p
  rw [pullEq_eq,pullEq_eq,pullEqs_eq,pullEqs_eq]
  obtain ⟨e1,e2,e3,e4,e5,e6,e7,e8⟩:=Pull.strip_f q
  rw [e1,e2,e3,e4,e5,e6,e7,e8,Pull.strip_kids]
  simp only [Sl.mapS]
  rw [eqL_mapr linEq_sr,eqL_mapr stepEq_sr,eqL_mapr' _ _ (fun x hx y=>ih x hx y)]
theorem loopsOK_strip:∀ (l:List Loop) (vars:List Str),loopsOK (l.map Loop.strip) vars=loopsOK l vars
 | [],_=>rfl
 | x :: r,vars=>by
  have h:loopOK x.strip vars=loopOK x vars:=by
   simp only [loopOK,Loop.strip,Sl.mapS,List.length_map,overOK_strip]
   rfl
  rw [List.map_cons,loopsOK,loopsOK,h,loopsOK_strip r]
  rfl
theorem nestOK_strip (n:Nest) (vars:List Str) (v:Int):nestOK n.strip vars v=nestOK n vars v:=by
 have hall:allV n.strip vars=allV n vars:=by
  simp only [allV,Nest.strip,Sl.mapS,List.map_map];rfl
 simp only [nestOK,hall]
 simp only [Nest.strip,Sl.mapS,mostAt,List.length_map,loopsOK_strip,overOK_strip,pullOK_strip,pullEq_sl]
 rfl
mutual
theorem Pull.strip_strip:∀ p:Pull,p.strip.strip=p.strip
 | .mk op num value name at_ dyn check fn knl kids kcl=>by
  rw [Pull.strip,Pull.strip,Pull.strips_strips kids]
  simp only [Sl.mapS,List.map_map]
  rfl
theorem Pull.strips_strips:∀ l:List Pull,Pull.strips (Pull.strips l)=Pull.strips l
 | []=>by rw [Pull.strips,Pull.strips]
 | p :: r=>by rw [Pull.strips,Pull.strips,Pull.strip_strip p,Pull.strips_strips r]
end
mutual
theorem Pull.ok_strip:∀ p:Pull,p.strip.ok↔p.ok
 | .mk op num value name at_ dyn check fn knl kids kcl=>by
  rw [Pull.strip,Pull.ok,Pull.ok,Pull.oks_strip kids,Pull.strips_eq,List.length_map]
theorem Pull.oks_strip:∀ l:List Pull,Pull.oks (Pull.strips l)↔Pull.oks l
 | []=>by rw [Pull.strips]
 | p :: r=>by rw [Pull.strips,Pull.oks,Pull.oks,Pull.ok_strip p,Pull.oks_strip r]
end
mutual
theorem Pull.sz_strip:∀ p:Pull,p.strip.sz=p.sz
 | .mk op num value name at_ dyn check fn knl kids kcl=>by rw [Pull.strip,Pull.sz,Pull.sz,Pull.szL_strip kids]
theorem Pull.szL_strip:∀ l:List Pull,Pull.szL (Pull.strips l)=Pull.szL l
 | []=>by rw [Pull.strips]
 | p :: r=>by rw [Pull.strips,Pull.szL,Pull.szL,Pull.sz_strip p,Pull.szL_strip r]
end
def loopEq (x y:Loop):Bool := !(!decide (x.v.bs=y.v.bs) || !decide (x.step=y.step) || !linEq x.lo y.lo || !eqL linEq x.hi.es y.hi.es)
def nestEq (a b:Nest):Bool:=
 decide ((a.loops.es.length:Int)=(b.loops.es.length:Int))&&decide (a.value=b.value)&&(a.dyn == b.dyn)&&decide (a.check=b.check)&&eqL linEq a.at_.es b.at_.es&&pullEq a.index b.index&&pullEq a.body b.body&&eqL loopEq a.loops.es b.loops.es
theorem loopEq_sl (x y:Loop):loopEq x.strip y=loopEq x y:=by
 simp only [loopEq,Loop.strip,Sl.mapS,eqL_mapl linEq_sl];rfl
theorem loopEq_sr (x y:Loop):loopEq x y.strip=loopEq x y:=by
 simp only [loopEq,Loop.strip,Sl.mapS,eqL_mapr linEq_sr];rfl
theorem loopEq_refl (x:Loop):loopEq x x=true:=by simp [loopEq,linEq_refl,eqL_refl linEq_refl]
theorem nestEq_sl (a b:Nest):nestEq a.strip b=nestEq a b:=by
 simp only [nestEq,Nest.strip,Sl.mapS,List.length_map,eqL_mapl linEq_sl,pullEq_sl,eqL_mapl loopEq_sl]
 rfl
theorem nestEq_sr (a b:Nest):nestEq a b.strip=nestEq a b:=by
 simp only [nestEq,Nest.strip,Sl.mapS,List.length_map,eqL_mapr linEq_sr,pullEq_sr,eqL_mapr loopEq_sr]
 rfl
theorem nestEq_refl (a:Nest):nestEq a a=true:=by simp [nestEq,eqL_refl linEq_refl,pullEq_refl,eqL_refl loopEq_refl]
theorem nestEq_of_strip {a b:Nest} (h:a.strip=b.strip):nestEq a b=true:=by
 rw [← nestEq_sl,← nestEq_sr,h];exact nestEq_refl _
end Go.Tev
end
section
namespace Go.Tev
def iEq (x y:Int):Bool:=decide (x=y)
section
variable {pg:Pg}
theorem c15g (hf:pg.fs 15=some cf15) (nl cl nl' cl':Bool) (a b:List Int) (hb:a.length≤big):Ret pg 15 [.sl nl (a.map intA) cl,.sl nl' (b.map intA) cl'] (.bool (eqL iEq a b)):=by
 refine Ret.ofX hf ?_
 unfold cf15
 cases b2:decide ((a.length:Int)=(b.length:Int))
 case false=>
  simp only [b2,go_sem,seval]
  rw [eqL_ne b2]
 case true=>
 have hl:a.length=b.length:=by have:=of_decide_eq_true b2;omega
 simp only [b2,go_sem,seval]
 refine XX_list a (fun d r env hp=>env=cf15E0 (.sl nl (a.map intA) cl) (.sl nl' (b.map intA) cl') (.int .i64 d.length)∧eqL iEq a b=eqL iEq r (b.drop d.length)) ?_ ?_ ?_
 ·exact ⟨rfl,rfl⟩
 ·rintro env hp ⟨rfl,hI⟩
  simp only [cf15L0,cf15E0,ltSelf,go_sem,seval]
  rw [hI,loopG_end hl]
 ·rintro d x r env hp hes ⟨rfl,hI⟩
  obtain ⟨hget,e1,e2,ew⟩:=loopF hes hb
  obtain ⟨y,gy,f1,f2,hq⟩:=loopG (q:=iEq) hes hl
  rw [hq] at hI
  rw [hI]
  clear hI
  cases hxy:decide (x=y)
  ·simp only [cf15L0,cf15E0,e1,e2,hget,gy,f1,f2,hxy,go_sem,seval]
   exact ⟨by kernel_rfl,by simp [iEq,hxy]⟩
  ·simp only [cf15L0,cf15E0,e1,e2,hget,gy,f1,f2,hxy,ew,go_sem,seval]
   exact ⟨by kernel_rfl,rfl,by simp [iEq,hxy]⟩
theorem c161 (hf:pg.fs 161=some cf161) (h15:pg.fs 15=some cf15) (nl cl nl' cl':Bool) (a b:List Step) (hb:a.length≤big):Ret pg 161 [.sl nl (a.map Step.av) cl,.sl nl' (b.map Step.av) cl'] (.bool (eqL stepEq a b)):=by
 refine Ret.ofX hf ?_
 unfold cf161
 cases b2:decide ((a.length:Int)=(b.length:Int))
 case false=>
  simp only [b2,go_sem,seval]
  rw [eqL_ne b2]
 case true=>
 have hl:a.length=b.length:=by have:=of_decide_eq_true b2;omega
 simp only [b2,go_sem,seval]
 refine XX_list a (fun d r env hp=>env=cf161E0 (.sl nl (a.map Step.av) cl) (.sl nl' (b.map Step.av) cl') (.int .i64 d.length)∧eqL stepEq a b=eqL stepEq r (b.drop d.length)) ?_ ?_ ?_
 ·exact ⟨rfl,rfl⟩
 ·rintro env hp ⟨rfl,hI⟩
  simp only [cf161L0,cf161E0,ltSelf,go_sem,seval]
  rw [hI,loopG_end hl]
 ·rintro d x r env hp hes ⟨rfl,hI⟩
  obtain ⟨hget,e1,e2,ew⟩:=loopF hes hb
  obtain ⟨y,gy,f1,f2,hq⟩:=loopG (q:=stepEq) hes hl
  rw [hq] at hI
  rw [hI]
  clear hI
  have hse:stepEq x y=(decide (x.op.bs=y.op.bs)&&decide (x.num=y.num)&&eqL iEq x.args.es y.args.es):=rfl
  cases c1:decide (x.op.bs=y.op.bs)
  case false=>
   simp only [cf161L0,cf161E0,e1,e2,hget,gy,f1,f2,c1,go_sem,seval]
   exact ⟨by kernel_rfl,by simp [hse,c1]⟩
  case true=>
  cases c2:decide (x.num=y.num)
  case false=>
   simp only [cf161L0,cf161E0,e1,e2,hget,gy,f1,f2,c1,c2,go_sem,seval]
   exact ⟨by kernel_rfl,by simp [hse,c2]⟩
  case true=>
  have a1:=c15g h15 x.args.nl x.args.cl y.args.nl y.args.cl x.args.es y.args.es x.args.ok
  simp only [cf161L0,cf161E0,e1,e2,hget,gy,f1,f2,c1,c2,go_sem,seval]
  refine XO_tree a1 (by simp only [go_sem,seval]) rfl ?_
  cases c3:eqL iEq x.args.es y.args.es
  ·simp only [go_sem,seval]
   exact ⟨by kernel_rfl,by simp [hse,c3]⟩
  ·simp only [ew,go_sem,seval]
   exact ⟨by kernel_rfl,rfl,by simp [hse,c1,c2,c3]⟩
def noStr:Str:=⟨[],by simp [big]⟩
set_option maxHeartbeats 1000000 in
theorem c118 (hf:pg.fs 118=some cf118) (h161:pg.fs 161=some cf161) (h15:pg.fs 15=some cf15) (h121:∀ a b:Shape,Ret pg 121 [a.av,b.av] (.bool (shapeEq a b))) :
  ∀ p:Pull,p.ok→∀ q:Pull,Ret pg 118 [p.av,q.av] (.bool (pullEq p q)):=by
 refine Pull.ind' fun p ih hp q=>?_
 obtain ⟨hk,hks⟩:=(Pull.ok_iff p).1 hp
 have a1:=c161 h161 h15 p.fn.nl p.fn.cl q.fn.nl q.fn.cl p.fn.es q.fn.es p.fn.ok
 have a2:=h121 ⟨noStr,p.at_⟩ ⟨noStr,q.at_⟩
 have hs2:shapeEq ⟨noStr,p.at_⟩ ⟨noStr,q.at_⟩=eqL linEq p.at_.es q.at_.es:=by simp [shapeEq,noStr]
 rw [hs2,Shape.avc,Shape.avc] at a2
 clear h121 h161 h15 hs2
 refine Ret.ofX hf ?_
 rw [pullEq_eq,pullEqs_eq]
 unfold cf118
 cases b1:decide (p.op.bs=q.op.bs)
 case false=>
  simp only [b1,go_sem,seval]
 case true=>
 cases b2:decide (p.num=q.num)
 case false=>
  simp only [b1,b2,go_sem,seval]
 case true=>
 cases b3:decide (p.value=q.value)
 case false=>
  simp only [b1,b2,b3,go_sem,seval]
 case true=>
 cases b4:decide (p.name.bs=q.name.bs)
 case false=>
  simp only [b1,b2,b3,b4,go_sem,seval]
 case true=>
 cases b5:(p.dyn == q.dyn)
 case false=>
  simp only [b1,b2,b3,b4,b5,go_sem,seval]
 case true=>
 cases b6:decide (p.check=q.check)
 case false=>
  simp only [b1,b2,b3,b4,b5,b6,go_sem,seval]
 case true=>
 cases b7:decide ((p.kids.length:Int)=(q.kids.length:Int))
 case false=>
  rw [eqL_ne b7]
  simp only [b1,b2,b3,b4,b5,b6,b7,go_sem,seval]
 case true=>
 simp only [b1,b2,b3,b4,b5,b6,b7,go_sem,seval]
 refine XO_tree a1 (by simp only [go_sem,seval]) rfl ?_
 cases b8:eqL stepEq p.fn.es q.fn.es
 case false=>
  simp only [go_sem,seval]
 case true=>
 simp only [go_sem,seval]
 refine XO_tree a2 (by simp only [go_sem,seval]) rfl ?_
 cases b9:eqL linEq p.at_.es q.at_.es
 case false=>
  simp only [go_sem,seval]
 case true=>
 have hl:p.kids.length=q.kids.length:=by have:=of_decide_eq_true b7;omega
 simp only [go_sem,seval]
 refine XX_list p.kids (fun d r env hp=>hp.get 1=some (0,.blk [.str p.op.bs,.int .i64 p.num,.int .i64 p.value,.str p.name.bs,.sl p.at_.nl (p.at_.es.map Lin.av) p.at_.cl,.bool p.dyn,.int .i64 p.check,.sl p.fn.nl (p.fn.es.map Step.av) p.fn.cl,.sl p.knl (p.kids.map Pull.av) p.kcl] 9 true true false) ∧
   hp.get 5=some (0,.blk [.str q.op.bs,.int .i64 q.num,.int .i64 q.value,.str q.name.bs,.sl q.at_.nl (q.at_.es.map Lin.av) q.at_.cl,.bool q.dyn,.int .i64 q.check,.sl q.fn.nl (q.fn.es.map Step.av) q.fn.cl,.sl q.knl (q.kids.map Pull.av) q.kcl] 9 true true false) ∧
   env=cf118E0 (.pt 1 0 0) (.pt 5 0 0) (.int .i64 d.length)∧eqL pullEq p.kids q.kids=eqL pullEq r (q.kids.drop d.length)) ?_ ?_ ?_
 ·exact ⟨rfl,rfl,rfl,rfl⟩
 ·rintro env hp ⟨g1,g5,rfl,hI⟩
  simp only [cf118L0,cf118E0,g1,ltSelf,go_sem,seval]
  rw [hI,loopG_end hl]
 ·rintro d x r env hp hes ⟨g1,g5,rfl,hI⟩
  obtain ⟨hget,e1,e2,ew⟩:=loopF hes hk
  obtain ⟨y,gy,f1,f2,hq⟩:=loopG (q:=pullEq) hes hl
  rw [hq] at hI
  rw [hI]
  clear hI a1 a2
  have hx:x∈p.kids:=by rw [hes];simp
  have a3:=ih x hx (hks x hx) y
  clear ih hks
  simp only [cf118L0,cf118E0,g1,g5,hget,e1,e2,gy,f1,f2,go_sem,seval]
  refine XO_tree a3 (by simp only [go_sem,seval]) rfl ?_
  cases hxy:pullEq x y
  ·simp only [go_sem,seval]
   kernel_rfl
  ·simp only [ew,go_sem,seval]
   exact ⟨by kernel_rfl,g1,g5,rfl⟩
end
end Go.Tev
end
section
namespace Go.Tev
theorem primR_some {op:List UInt8} {p:Prim} {r:AV} (h:primT op=some p) (hr:∃ nl cl,r = .tup [.sl nl (p.params.map .str) cl,.str p.result,.bool true]):PrimR op r:=by
 simp only [PrimR,h];exact hr
theorem primR_none {op:List UInt8} {r:AV} (h:primT op=none) (hr:r = .tup [.sl true [] true,.str [],.bool false]):PrimR op r:=by
 simp only [PrimR,h];exact hr
section
variable {pg:Pg}
theorem c125 (hf:pg.fs 125=some cf125) (op:List UInt8):RetP pg 125 [.str op] (PrimR op):=by
 refine RetP.ofX hf ?_
 unfold cf125
 cases b0:decide (op=[97,100,100])
 case true=>
  have hop:op=[97,100,100]:=of_decide_eq_true b0
  simp only [b0,go_sem,seval]
  subst hop
  exact primR_some rfl ⟨_,_,rfl⟩
 case false=>
 cases b1:decide (op=[115,117,98])
 case true=>
  have hop:op=[115,117,98]:=of_decide_eq_true b1
  simp only [b0,b1,go_sem,seval]
  subst hop
  exact primR_some rfl ⟨_,_,rfl⟩
 case false=>
 cases b2:decide (op=[109,117,108])
 case true=>
  have hop:op=[109,117,108]:=of_decide_eq_true b2
  simp only [b0,b1,b2,go_sem,seval]
  subst hop
  exact primR_some rfl ⟨_,_,rfl⟩
 case false=>
 cases b3:decide (op=[100,105,118])
 case true=>
  have hop:op=[100,105,118]:=of_decide_eq_true b3
  simp only [b0,b1,b2,b3,go_sem,seval]
  subst hop
  exact primR_some rfl ⟨_,_,rfl⟩
 case false=>
 cases b4:decide (op=[109,111,100])
 case true=>
  have hop:op=[109,111,100]:=of_decide_eq_true b4
  simp only [b0,b1,b2,b3,b4,go_sem,seval]
  subst hop
  exact primR_some rfl ⟨_,_,rfl⟩
 case false=>
 cases b5:decide (op=[109,105,110])
 case true=>
  have hop:op=[109,105,110]:=of_decide_eq_true b5
  simp only [b0,b1,b2,b3,b4,b5,go_sem,seval]
  subst hop
  exact primR_some rfl ⟨_,_,rfl⟩
 case false=>
 cases b6:decide (op=[109,97,120])
 case true=>
  have hop:op=[109,97,120]:=of_decide_eq_true b6
  simp only [b0,b1,b2,b3,b4,b5,b6,go_sem,seval]
  subst hop
  exact primR_some rfl ⟨_,_,rfl⟩
 case false=>
 cases b7:decide (op=[110,101,103])
 case true=>
  have hop:op=[110,101,103]:=of_decide_eq_true b7
  simp only [b0,b1,b2,b3,b4,b5,b6,b7,go_sem,seval]
  subst hop
  exact primR_some rfl ⟨_,_,rfl⟩
 case false=>
 cases b8:decide (op=[97,98,115])
 case true=>
  have hop:op=[97,98,115]:=of_decide_eq_true b8
  simp only [b0,b1,b2,b3,b4,b5,b6,b7,b8,go_sem,seval]
  subst hop
  exact primR_some rfl ⟨_,_,rfl⟩
 case false=>
 cases b9:decide (op=[115,105,103,110])
 case true=>
  have hop:op=[115,105,103,110]:=of_decide_eq_true b9
  simp only [b0,b1,b2,b3,b4,b5,b6,b7,b8,b9,go_sem,seval]
  subst hop
  exact primR_some rfl ⟨_,_,rfl⟩
 case false=>
 cases b10:decide (op=[108,116])
 case true=>
  have hop:op=[108,116]:=of_decide_eq_true b10
  simp only [b0,b1,b2,b3,b4,b5,b6,b7,b8,b9,b10,go_sem,seval]
  subst hop
  exact primR_some rfl ⟨_,_,rfl⟩
 case false=>
 cases b11:decide (op=[108,101])
 case true=>
  have hop:op=[108,101]:=of_decide_eq_true b11
  simp only [b0,b1,b2,b3,b4,b5,b6,b7,b8,b9,b10,b11,go_sem,seval]
  subst hop
  exact primR_some rfl ⟨_,_,rfl⟩
 case false=>
 cases b12:decide (op=[103,116])
 case true=>
  have hop:op=[103,116]:=of_decide_eq_true b12
  simp only [b0,b1,b2,b3,b4,b5,b6,b7,b8,b9,b10,b11,b12,go_sem,seval]
  subst hop
  exact primR_some rfl ⟨_,_,rfl⟩
 case false=>
 cases b13:decide (op=[103,101])
 case true=>
  have hop:op=[103,101]:=of_decide_eq_true b13
  simp only [b0,b1,b2,b3,b4,b5,b6,b7,b8,b9,b10,b11,b12,b13,go_sem,seval]
  subst hop
  exact primR_some rfl ⟨_,_,rfl⟩
 case false=>
 cases b14:decide (op=[101,113])
 case true=>
  have hop:op=[101,113]:=of_decide_eq_true b14
  simp only [b0,b1,b2,b3,b4,b5,b6,b7,b8,b9,b10,b11,b12,b13,b14,go_sem,seval]
  subst hop
  exact primR_some rfl ⟨_,_,rfl⟩
 case false=>
 cases b15:decide (op=[110,101])
 case true=>
  have hop:op=[110,101]:=of_decide_eq_true b15
  simp only [b0,b1,b2,b3,b4,b5,b6,b7,b8,b9,b10,b11,b12,b13,b14,b15,go_sem,seval]
  subst hop
  exact primR_some rfl ⟨_,_,rfl⟩
 case false=>
 cases b16:decide (op=[97,110,100])
 case true=>
  have hop:op=[97,110,100]:=of_decide_eq_true b16
  simp only [b0,b1,b2,b3,b4,b5,b6,b7,b8,b9,b10,b11,b12,b13,b14,b15,b16,go_sem,seval]
  subst hop
  exact primR_some rfl ⟨_,_,rfl⟩
 case false=>
 cases b17:decide (op=[111,114])
 case true=>
  have hop:op=[111,114]:=of_decide_eq_true b17
  simp only [b0,b1,b2,b3,b4,b5,b6,b7,b8,b9,b10,b11,b12,b13,b14,b15,b16,b17,go_sem,seval]
  subst hop
  exact primR_some rfl ⟨_,_,rfl⟩
 case false=>
 cases b18:decide (op=[120,111,114])
 case true=>
  have hop:op=[120,111,114]:=of_decide_eq_true b18
  simp only [b0,b1,b2,b3,b4,b5,b6,b7,b8,b9,b10,b11,b12,b13,b14,b15,b16,b17,b18,go_sem,seval]
  subst hop
  exact primR_some rfl ⟨_,_,rfl⟩
 case false=>
 cases b19:decide (op=[110,111,116])
 case true=>
  have hop:op=[110,111,116]:=of_decide_eq_true b19
  simp only [b0,b1,b2,b3,b4,b5,b6,b7,b8,b9,b10,b11,b12,b13,b14,b15,b16,b17,b18,b19,go_sem,seval]
  subst hop
  exact primR_some rfl ⟨_,_,rfl⟩
 case false=>
 cases b20:decide (op=[115,101,108,101,99,116])
 case true=>
  have hop:op=[115,101,108,101,99,116]:=of_decide_eq_true b20
  simp only [b0,b1,b2,b3,b4,b5,b6,b7,b8,b9,b10,b11,b12,b13,b14,b15,b16,b17,b18,b19,b20,go_sem,seval]
  subst hop
  exact primR_some rfl ⟨_,_,rfl⟩
 case false=>
 cases b21:decide (op=[116,111,105,110,116])
 case true=>
  have hop:op=[116,111,105,110,116]:=of_decide_eq_true b21
  simp only [b0,b1,b2,b3,b4,b5,b6,b7,b8,b9,b10,b11,b12,b13,b14,b15,b16,b17,b18,b19,b20,b21,go_sem,seval]
  subst hop
  exact primR_some rfl ⟨_,_,rfl⟩
 case false=>
 simp only [b0,b1,b2,b3,b4,b5,b6,b7,b8,b9,b10,b11,b12,b13,b14,b15,b16,b17,b18,b19,b20,b21,go_sem,seval]
 refine primR_none ?_ rfl
 have n0:decide ([97,100,100]=op)=false:=by rw [← b0,decide_eq_decide];exact eq_comm
 have n1:decide ([115,117,98]=op)=false:=by rw [← b1,decide_eq_decide];exact eq_comm
 have n2:decide ([109,117,108]=op)=false:=by rw [← b2,decide_eq_decide];exact eq_comm
 have n3:decide ([100,105,118]=op)=false:=by rw [← b3,decide_eq_decide];exact eq_comm
 have n4:decide ([109,111,100]=op)=false:=by rw [← b4,decide_eq_decide];exact eq_comm
 have n5:decide ([109,105,110]=op)=false:=by rw [← b5,decide_eq_decide];exact eq_comm
 have n6:decide ([109,97,120]=op)=false:=by rw [← b6,decide_eq_decide];exact eq_comm
 have n7:decide ([110,101,103]=op)=false:=by rw [← b7,decide_eq_decide];exact eq_comm
 have n8:decide ([97,98,115]=op)=false:=by rw [← b8,decide_eq_decide];exact eq_comm
 have n9:decide ([115,105,103,110]=op)=false:=by rw [← b9,decide_eq_decide];exact eq_comm
 have n10:decide ([108,116]=op)=false:=by rw [← b10,decide_eq_decide];exact eq_comm
 have n11:decide ([108,101]=op)=false:=by rw [← b11,decide_eq_decide];exact eq_comm
 have n12:decide ([103,116]=op)=false:=by rw [← b12,decide_eq_decide];exact eq_comm
 have n13:decide ([103,101]=op)=false:=by rw [← b13,decide_eq_decide];exact eq_comm
 have n14:decide ([101,113]=op)=false:=by rw [← b14,decide_eq_decide];exact eq_comm
 have n15:decide ([110,101]=op)=false:=by rw [← b15,decide_eq_decide];exact eq_comm
 have n16:decide ([97,110,100]=op)=false:=by rw [← b16,decide_eq_decide];exact eq_comm
 have n17:decide ([111,114]=op)=false:=by rw [← b17,decide_eq_decide];exact eq_comm
 have n18:decide ([120,111,114]=op)=false:=by rw [← b18,decide_eq_decide];exact eq_comm
 have n19:decide ([110,111,116]=op)=false:=by rw [← b19,decide_eq_decide];exact eq_comm
 have n20:decide ([115,101,108,101,99,116]=op)=false:=by rw [← b20,decide_eq_decide];exact eq_comm
 have n21:decide ([116,111,105,110,116]=op)=false:=by rw [← b21,decide_eq_decide];exact eq_comm
 simp only [primT,primRows,List.find?_cons,List.find?_nil,n0,n1,n2,n3,n4,n5,n6,n7,n8,n9,n10,n11,n12,n13,n14,n15,n16,n17,n18,n19,n20,n21]
theorem stepOK_cons (n:Int) (s:Step) (r:List Step):stepsOK n (s :: r)=(stepOK s n&&stepsOK (n+1) r):=rfl
set_option maxHeartbeats 1000000 in
theorem c87_step (h124:pg.fs 124=some cf124) (h125:∀ op,RetP pg 125 [.str op] (PrimR op)) (nl cl:Bool) (fn:List Step) (hb:fn.length≤big) (n:Int) (g1:0≤n) (g2:n≤20) (g3:(fn.length:Int)≤60)
  (d:List Step) (x:Step) (r:List Step) (hp:Hp) (hes:fn=d++x :: r) (hI:stepsOK n fn=stepsOK (n+d.length) (x :: r)) :
  XX pg 0 cf87L1 ⟨cf87E1 (.sl nl (fn.map Step.av) cl) (.int .i64 n) (.int .i64 d.length),hp⟩
   (thenQ (fun st'=>clear cf87M1 st'.env=cf87E1 (.sl nl (fn.map Step.av) cl) (.int .i64 n) (.int .i64 (d++[x]).length)∧stepsOK n fn=stepsOK (n+(d++[x]).length) r)
    (blockQ 0 (thenQ (fun st'=>XX pg 0 (.seq (.reg [⟨some 4,.mov,[.c (.bool true)],none,0,0⟩] false) .ret) st' (endQ [.inl 4] (.bool (stepsOK n fn))) ⟨⟩) (endQ [.inl 4] (.bool (stepsOK n fn)))))) ⟨⟩:=by
 obtain ⟨hget,e1,e2,ew⟩:=loopF hes hb
 rw [stepOK_cons] at hI
 have en:n+((d++[x]).length:Int)=n+d.length+1:=by simp;omega
 have hdl:d.length < fn.length:=by rw [hes];simp
 have hw:wr .i64 (n+(d.length:Int))=n+d.length:=wr_small (by omega) (by omega)
 rw [en]
 rw [hI]
 clear hI
 cases o1:decide (x.op.bs=[99,111,110,115,116])
 case true=>
  have hs:stepOK x (n+d.length)=(decide ((x.args.es.length:Int)=0)&&elemOKi x.num):=by simp [stepOK,of_decide_eq_true o1]
  rw [hs]
  cases o2:decide ((x.args.es.length:Int)=0)
  case false=>
   simp only [cf87L1,cf87E1,e1,e2,hget,o1,o2,go_sem,seval]
  case true=>
   simp only [cf87L1,cf87E1,e1,e2,hget,o1,o2,go_sem,seval]
   refine XO_tree (c124i h124 x.num) (by simp only [go_sem,seval]) rfl ?_
   cases o3:elemOKi x.num
   ·simp only [go_sem,seval]
   ·simp only [ew,go_sem,seval]
    rfl
 case false=>
 cases o2:decide (x.op.bs=[116,114,117,116,104])
 case true=>
  have hs:stepOK x (n+d.length)=(decide ((x.args.es.length:Int)=0)&&elemOKb x.num):=by
   have h1:=of_decide_eq_true o2
   simp [stepOK,h1]
  rw [hs]
  cases o3:decide ((x.args.es.length:Int)=0)
  case false=>
   simp only [cf87L1,cf87E1,e1,e2,hget,o1,o2,o3,go_sem,seval]
  case true=>
   simp only [cf87L1,cf87E1,e1,e2,hget,o1,o2,o3,go_sem,seval]
   refine XO_tree (c124b h124 x.num) (by simp only [go_sem,seval]) rfl ?_
   cases o4:elemOKb x.num
   ·simp only [go_sem,seval]
   ·simp only [ew,go_sem,seval]
    rfl
 case false=>
 obtain ⟨rr,hr,hP⟩:=h125 x.op.bs
 have hs:stepOK x (n+d.length)=(match primT x.op.bs with
  | none=>false
  | some p=>argsOK x.args.es (n+d.length)&&decide (x.num=0)&&decide ((x.args.es.length:Int)=(p.params.length:Int))):=by
  have h1:=of_decide_eq_false o1
  have h2:=of_decide_eq_false o2
  simp only [stepOK,h1,h2,if_false]
  rfl
 rw [hs]
 clear hs
 simp only [PrimR] at hP
 cases hpt:primT x.op.bs with
 | none=>
  rw [hpt] at hP
  dsimp only at hP
  subst hP
  simp only [cf87L1,cf87E1,e1,e2,hget,o1,o2,go_sem,seval]
  refine XO_tree hr (by simp only [go_sem,seval]) rfl ?_
  simp only [go_sem,seval]
 | some p=>
  rw [hpt] at hP
  dsimp only at hP
  obtain ⟨nl2,cl2,rfl⟩:=hP
  dsimp only
  simp only [cf87L1,cf87E1,e1,e2,hget,o1,o2,go_sem,seval]
  refine XO_tree hr (by simp only [go_sem,seval]) rfl ?_
  cases o3:decide ((x.args.es.length:Int)=(p.params.length:Int))
  case false=>
   simp only [o3,go_sem,seval]
  case true=>
  cases o4:decide (x.num=0)
  case false=>
   simp only [o3,o4,go_sem,seval]
  case true=>
  simp only [o3,o4,go_sem,seval]
  have hab:=x.args.ok
  refine XX_list x.args.es (fun d2 r2 env hp2=>env=cf87E0 (.sl nl (fn.map Step.av) cl) (.int .i64 n) (.int .i64 d.length) (.pt 1 (hp.next 1) 0) (.int .i64 d2.length) ∧
   hp2.get 1=some (hp.next 1,.blk [.str x.op.bs,.int .i64 x.num,.sl x.args.nl (x.args.es.map intA) x.args.cl] 3 true true false)∧argsOK x.args.es (n+d.length)=argsOK r2 (n+d.length)) ?_ ?_ ?_
  ·refine ⟨rfl,?_,rfl⟩
   simp only [go_sem,seval]
  ·rintro env hp2 ⟨rfl,h1,hI⟩
   simp only [cf87L0,cf87E0,h1,ltSelf,ew,go_sem,seval]
   refine ⟨rfl,?_⟩
   rw [hI];simp [argsOK]
  ·rintro d2 a r2 env hp2 he2 ⟨rfl,h1,hI⟩
   obtain ⟨hget2,f1,f2,fw⟩:=loopF he2 hab
   have hI2:argsOK x.args.es (n+d.length)=((decide (0≤a)&&decide (a < n+d.length))&&argsOK r2 (n+d.length)):=by rw [hI];simp [argsOK]
   rw [hI2]
   clear hI hI2
   cases q1:decide (a < 0)
   case true=>
    have:decide (0≤a)=false:=by simp at q1 ⊢;omega
    simp only [cf87L0,cf87E0,h1,f1,f2,hget2,q1,this,go_sem,seval]
   case false=>
   cases q2:decide (n+(d.length:Int)≤a)
   case true=>
    have:decide (a < n+d.length)=false:=by simp at q2 ⊢;omega
    simp only [cf87L0,cf87E0,h1,f1,f2,hget2,q1,hw,q2,this,go_sem,seval]
   case false=>
    have h3:decide (0≤a)=true:=by simp at q1 ⊢;omega
    have h4:decide (a < n+d.length)=true:=by simp at q2 ⊢;omega
    simp only [cf87L0,cf87E0,h1,f1,f2,hget2,q1,hw,q2,h3,h4,fw,go_sem,seval]
    rfl
set_option maxHeartbeats 1000000 in
theorem c87 (hf:pg.fs 87=some cf87) (h124:pg.fs 124=some cf124) (h125:∀ op,RetP pg 125 [.str op] (PrimR op)) (nl cl:Bool) (fn:List Step) (hb:fn.length≤big) (n:Int) :
  Ret pg 87 [.sl nl (fn.map Step.av) cl,.int .i64 n] (.bool (codeOK fn n)):=by
 refine Ret.ofX hf ?_
 unfold cf87
 cases h1:decide (n < 0)
 case true=>
  simp only [h1,go_sem,seval]
  have:decide (0≤n)=false:=by simp at h1 ⊢;omega
  simp [codeOK,this]
 case false=>
 cases h2:decide (20 < n)
 case true=>
  simp only [h1,h2,go_sem,seval]
  have:decide (n≤20)=false:=by simp at h2 ⊢;omega
  simp [codeOK,this]
 case false=>
 cases h3:decide (60 < (fn.length:Int))
 case true=>
  simp only [h1,h2,h3,go_sem,seval]
  have:decide ((fn.length:Int)≤60)=false:=by simp at h3 ⊢;omega
  simp [codeOK,this]
 case false=>
 have g1:=of_decide_eq_false h1
 have g2:=of_decide_eq_false h2
 have g3:=of_decide_eq_false h3
 have hspec:decide (n+(fn.length:Int)=0)=false→codeOK fn n=stepsOK n fn:=by
  intro h4
  have e1:decide (0≤n)=true:=by simp;omega
  have e2:decide (n≤20)=true:=by simp;omega
  have e3:decide ((fn.length:Int)≤60)=true:=by simp;omega
  simp [codeOK,h4,e1,e2,e3]
 cases h4:decide (n=0)
 case true=>
  cases h5:decide ((fn.length:Int)=0)
  case true=>
   simp only [h1,h2,h3,h4,h5,go_sem,seval]
   have:decide (n+(fn.length:Int)=0)=true:=by simp at h4 h5 ⊢;simp [h4,h5]
   simp [codeOK,this]
  case false=>
   have hs:=hspec (by simp at h4 h5 ⊢;subst h4;simpa using h5)
   rw [hs]
   clear hs hspec
   simp only [h1,h2,h3,h4,h5,go_sem,seval]
   refine XX_list fn (fun d r env hp=>env=cf87E1 (.sl nl (fn.map Step.av) cl) (.int .i64 n) (.int .i64 d.length)∧stepsOK n fn=stepsOK (n+d.length) r) ?_ ?_ ?_
   ·exact ⟨rfl,by simp⟩
   ·rintro env hp ⟨rfl,hI⟩
    simp only [cf87L1,cf87E1,ltSelf,go_sem,seval]
    rw [hI];rfl
   ·rintro d x r env hp hes ⟨rfl,hI⟩
    exact c87_step h124 h125 nl cl fn hb n (by omega) (by omega) (by omega) d x r hp hes hI
 case false=>
  have hs:=hspec (by simp at h4 ⊢;omega)
  rw [hs]
  clear hs hspec
  simp only [h1,h2,h3,h4,go_sem,seval]
  refine XX_list fn (fun d r env hp=>env=cf87E1 (.sl nl (fn.map Step.av) cl) (.int .i64 n) (.int .i64 d.length)∧stepsOK n fn=stepsOK (n+d.length) r) ?_ ?_ ?_
  ·exact ⟨rfl,by simp⟩
  ·rintro env hp ⟨rfl,hI⟩
   simp only [cf87L1,cf87E1,ltSelf,go_sem,seval]
   rw [hI];rfl
  ·rintro d x r env hp hes ⟨rfl,hI⟩
   exact c87_step h124 h125 nl cl fn hb n (by omega) (by omega) (by omega) d x r hp hes hI
end
end Go.Tev
end
section
namespace Go.Tev
def nodeP (p:Pull) (num value:Int) (name:Str) (at_:Sl Lin) (dyn:Bool) (check:Int) (fn:Sl Step):Pull:=.mk p.op num value name at_ dyn check fn p.knl p.kids p.kcl
theorem nodeP_op (p:Pull) (num value:Int) (name:Str) (at_:Sl Lin) (dyn:Bool) (check:Int) (fn:Sl Step):(nodeP p num value name at_ dyn check fn).op=p.op:=rfl
theorem nodeP_num (p:Pull) (num value:Int) (name:Str) (at_:Sl Lin) (dyn:Bool) (check:Int) (fn:Sl Step):(nodeP p num value name at_ dyn check fn).num=num:=rfl
theorem nodeP_value (p:Pull) (num value:Int) (name:Str) (at_:Sl Lin) (dyn:Bool) (check:Int) (fn:Sl Step):(nodeP p num value name at_ dyn check fn).value=value:=rfl
theorem nodeP_name (p:Pull) (num value:Int) (name:Str) (at_:Sl Lin) (dyn:Bool) (check:Int) (fn:Sl Step):(nodeP p num value name at_ dyn check fn).name=name:=rfl
theorem nodeP_at_ (p:Pull) (num value:Int) (name:Str) (at_:Sl Lin) (dyn:Bool) (check:Int) (fn:Sl Step):(nodeP p num value name at_ dyn check fn).at_=at_:=rfl
theorem nodeP_dyn (p:Pull) (num value:Int) (name:Str) (at_:Sl Lin) (dyn:Bool) (check:Int) (fn:Sl Step):(nodeP p num value name at_ dyn check fn).dyn=dyn:=rfl
theorem nodeP_check (p:Pull) (num value:Int) (name:Str) (at_:Sl Lin) (dyn:Bool) (check:Int) (fn:Sl Step):(nodeP p num value name at_ dyn check fn).check=check:=rfl
theorem nodeP_fn (p:Pull) (num value:Int) (name:Str) (at_:Sl Lin) (dyn:Bool) (check:Int) (fn:Sl Step):(nodeP p num value name at_ dyn check fn).fn=fn:=rfl
theorem nodeP_kids (p:Pull) (num value:Int) (name:Str) (at_:Sl Lin) (dyn:Bool) (check:Int) (fn:Sl Step):(nodeP p num value name at_ dyn check fn).kids=p.kids:=rfl
theorem nodeP_knl (p:Pull) (num value:Int) (name:Str) (at_:Sl Lin) (dyn:Bool) (check:Int) (fn:Sl Step):(nodeP p num value name at_ dyn check fn).knl=p.knl:=rfl
theorem nodeP_kcl (p:Pull) (num value:Int) (name:Str) (at_:Sl Lin) (dyn:Bool) (check:Int) (fn:Sl Step):(nodeP p num value name at_ dyn check fn).kcl=p.kcl:=rfl
theorem nodeP_eq (p:Pull) (num value:Int) (name:Str) (at_:Sl Lin) (dyn:Bool) (check:Int) (fn:Sl Step) :
  pullEq p (nodeP p num value name at_ dyn check fn)=(decide (p.num=num)&&decide (p.value=value)&&decide (p.name.bs=name.bs)&&(p.dyn == dyn)&&decide (p.check=check)&&eqL linEq p.at_.es at_.es&&eqL stepEq p.fn.es fn.es):=by
 rw [pullEq_eq,pullEqs_eq]
 simp only [nodeP_op,nodeP_num,nodeP_value,nodeP_name,nodeP_at_,nodeP_dyn,nodeP_check,nodeP_fn,nodeP_kids]
 rw [eqL_refl pullEq_refl]
 simp
 rfl
theorem bq1:(true == false)=false:=rfl
theorem bq2:(false == false)=true:=rfl
theorem bq3:(true == true)=true:=rfl
def onlyP (p:Pull):Pull:=
 if p.op.bs=[99,111,110,115,116] then nodeP p p.num 0 noStr (nilSl Lin) false 0 (nilSl Step)
 else if p.op.bs=[108,105,110,101,97,114] then nodeP p 0 0 noStr p.at_ false 0 (nilSl Step)
 else if p.op.bs=[114,101,97,100] then nodeP p 0 p.value noStr p.at_ p.dyn (if p.dyn then p.check else 0) (nilSl Step)
 else if p.op.bs=[105,102] then nodeP p 0 0 noStr p.at_ false 0 (nilSl Step)
 else if p.op.bs=[114,101,100,117,99,101] then nodeP p 0 0 p.name p.at_ false 0 p.fn
 else if p.op.bs=[99,111,100,101] then nodeP p 0 0 noStr (nilSl Lin) false 0 p.fn
 else nodeP p 0 0 noStr (nilSl Lin) false 0 (nilSl Step)
def onlyB (p:Pull):Bool:=
 if p.op.bs=[99,111,110,115,116] then decide ((p.kids.length:Int)=0)&&decide ((p.at_.es.length:Int)=0)
 else if p.op.bs=[108,105,110,101,97,114] then decide ((p.kids.length:Int)=0)&&decide ((p.at_.es.length:Int)=1)
 else if p.op.bs=[114,101,97,100] then
  (if p.dyn then decide ((p.kids.length:Int)=1)&&decide ((p.at_.es.length:Int)≤5) else decide ((p.kids.length:Int)=0)&&decide ((p.at_.es.length:Int)≤6))
 else if p.op.bs=[105,102] then decide ((p.kids.length:Int)=2)&&decide ((p.at_.es.length:Int)=1)
 else if p.op.bs=[114,101,100,117,99,101] then decide ((p.kids.length:Int)=2)&&decide ((p.at_.es.length:Int)=1)
 else if p.op.bs=[99,111,100,101] then decide ((p.kids.length:Int)≤20)&&decide ((p.at_.es.length:Int)=0)
 else match primT p.op.bs with
  | none=>false
  | some q=>decide ((p.kids.length:Int)=(q.params.length:Int))&&decide ((p.at_.es.length:Int)=0)
def refOwn (p:Pull) (vars:List Str) (v:Int):Bool:=
 if p.op.bs=[99,111,110,115,116] then elemOKi p.num
 else if p.op.bs=[114,101,97,100] then decide (0≤p.value)&&decide (p.value < v)&&decide (0≤p.check)
 else if p.op.bs=[114,101,100,117,99,101] then nameU p.name.bs && !hasS vars p.name.bs&&codeOK p.fn.es 2
 else if p.op.bs=[99,111,100,101] then codeOK p.fn.es p.kids.length
 else true
theorem refNode_eq (p:Pull) (vars:List Str) (v:Int):(onlyB p&&pullEq p (onlyP p)&&refOwn p vars v)=nodeOK p vars v:=by
 by_cases o1:p.op.bs=[99,111,110,115,116]
 ·simp only [onlyB,onlyP,refOwn,nodeOK,o1,if_true,nodeP_eq,nilSl,noStr,eqL_nil,bareOK]
  cases p.dyn<;>simp only [bq1,bq2,bq3,Bool.not_true,Bool.not_false,Bool.false_or,Bool.true_or,Bool.false_and,Bool.and_false,Bool.true_and,Bool.and_true,decide_true]
  (refine Bool.eq_iff_iff.2 ?_;simp only [Bool.and_eq_true];constructor<;>(intro h;simp only [h,and_self]))
 by_cases o2:p.op.bs=[108,105,110,101,97,114]
 ·have n1:¬ p.op.bs=[114,101,97,100]:=by rw [o2];decide
  have n2:¬ p.op.bs=[114,101,100,117,99,101]:=by rw [o2];decide
  have n3:¬ p.op.bs=[99,111,100,101]:=by rw [o2];decide
  simp only [onlyB,onlyP,refOwn,nodeOK,o1,n1,n2,n3,if_false]
  simp only [o2,if_true,nodeP_eq,nilSl,noStr,eqL_nil,bareOK,eqL_refl linEq_refl]
  cases p.dyn<;>simp only [bq1,bq2,bq3,Bool.not_true,Bool.not_false,Bool.false_or,Bool.true_or,Bool.false_and,Bool.and_false,Bool.true_and,Bool.and_true]
  (refine Bool.eq_iff_iff.2 ?_;simp only [Bool.and_eq_true];constructor<;>(intro h;simp only [h,and_self]))
 by_cases o3:p.op.bs=[114,101,97,100]
 ·simp only [onlyB,onlyP,refOwn,nodeOK,o1,o2,if_false]
  simp only [o3,if_true,nodeP_eq,nilSl,noStr,eqL_nil,bareOK,eqL_refl linEq_refl,readOK]
  cases p.dyn<;>simp only [bq1,bq2,bq3,Bool.not_true,Bool.not_false,Bool.false_or,Bool.true_or,Bool.false_and,Bool.and_false,Bool.true_and,Bool.and_true,Bool.false_eq_true,if_true,if_false,decide_true]
  ·cases h:decide (p.check=0)
   ·simp
   ·have:decide (0≤p.check)=true:=by simp at h ⊢;omega
    simp only [this,Bool.and_true,Bool.true_and]
    (refine Bool.eq_iff_iff.2 ?_;simp only [Bool.and_eq_true];constructor<;>(intro h;simp only [h,and_self]))
  ·(refine Bool.eq_iff_iff.2 ?_;simp only [Bool.and_eq_true];constructor<;>(intro h;simp only [h,and_self]))
 by_cases o4:p.op.bs=[105,102]
 ·have n2:¬ p.op.bs=[114,101,100,117,99,101]:=by rw [o4];decide
  have n3:¬ p.op.bs=[99,111,100,101]:=by rw [o4];decide
  simp only [onlyB,onlyP,refOwn,nodeOK,o1,o2,o3,n2,n3,if_false]
  simp only [o4,if_true,nodeP_eq,nilSl,noStr,eqL_nil,bareOK,eqL_refl linEq_refl]
  cases p.dyn<;>simp only [bq1,bq2,bq3,Bool.not_true,Bool.not_false,Bool.false_or,Bool.true_or,Bool.false_and,Bool.and_false,Bool.true_and,Bool.and_true]
  (refine Bool.eq_iff_iff.2 ?_;simp only [Bool.and_eq_true];constructor<;>(intro h;simp only [h,and_self]))
 by_cases o5:p.op.bs=[114,101,100,117,99,101]
 ·simp only [onlyB,onlyP,refOwn,nodeOK,o1,o2,o3,o4,if_false]
  simp only [o5,if_true,nodeP_eq,nilSl,noStr,bareOK,eqL_refl linEq_refl,eqL_refl stepEq_refl]
  cases p.dyn<;>simp only [bq1,bq2,bq3,Bool.not_true,Bool.not_false,Bool.false_or,Bool.true_or,Bool.false_and,Bool.and_false,Bool.true_and,Bool.and_true,decide_true]
  (refine Bool.eq_iff_iff.2 ?_;simp only [Bool.and_eq_true];constructor<;>(intro h;simp only [h,and_self]))
 by_cases o6:p.op.bs=[99,111,100,101]
 ·simp only [onlyB,onlyP,refOwn,nodeOK,o1,o2,o3,o4,o5,if_false]
  simp only [o6,if_true,nodeP_eq,nilSl,noStr,bareOK,eqL_nil,eqL_refl stepEq_refl]
  have hc:(decide ((p.kids.length:Int)≤20)&&codeOK p.fn.es p.kids.length)=codeOK p.fn.es p.kids.length:=by
   simp only [codeOK]
   cases decide ((p.kids.length:Int)≤20)<;>simp
  rw [← hc]
  cases p.dyn<;>simp only [bq1,bq2,bq3,Bool.not_true,Bool.not_false,Bool.false_or,Bool.true_or,Bool.false_and,Bool.and_false,Bool.true_and,Bool.and_true,decide_true]
  cases decide ((p.kids.length:Int)≤20)<;>simp only [Bool.false_and,Bool.true_and,Bool.and_false]
  (refine Bool.eq_iff_iff.2 ?_;simp only [Bool.and_eq_true];constructor<;>(intro h;simp only [h,and_self]))
 ·simp only [onlyB,onlyP,refOwn,nodeOK,o1,o2,o3,o4,o5,o6,if_false]
  cases hpt:primT p.op.bs with
  | none=>simp
  | some q=>
   simp only [nodeP_eq,nilSl,noStr,bareOK,eqL_nil]
   cases p.dyn<;>simp only [bq1,bq2,bq3,Bool.not_true,Bool.not_false,Bool.false_or,Bool.true_or,Bool.false_and,Bool.and_false,Bool.true_and,Bool.and_true,decide_true]
   (refine Bool.eq_iff_iff.2 ?_;simp only [Bool.and_eq_true];constructor<;>(intro h;simp only [h,and_self]))
theorem mnA (a b:Int):(foldA min2 (.int .i64 a) [.int .i64 b]).bind val=val (.int .i64 (if b < a then b else a)):=by simp [foldA,min2]
theorem min_eq (n m:Int):decide (n=if m < n then m else n)=decide (n≤m):=by
 rw [decide_eq_decide];split<;>omega
section
variable {pg:Pg}
set_option maxHeartbeats 1000000 in
theorem c192 (hf:pg.fs 192=some cf192) (h125:∀ op,RetP pg 125 [.str op] (PrimR op)) (p:Pull):Ret pg 192 [p.av] (.tup [(onlyP p).av,.bool (onlyB p)]):=by
 refine Ret.ofX hf ?_
 unfold cf192
 cases o0:decide (p.op.bs=[99,111,110,115,116])
 case true=>
  have h0:=of_decide_eq_true o0
  have hP:(onlyP p).av = .agg [.str p.op.bs,.int .i64 p.num,.int .i64 0,.str [],.sl true [] true,.bool false,.int .i64 0,.sl true [] true,.sl p.knl (p.kids.map Pull.av) p.kcl]:=by rw [Pull.avc];simp only [onlyP];simp only [h0,if_true,if_false,nodeP_op,nodeP_num,nodeP_value,nodeP_name,nodeP_at_,nodeP_dyn,nodeP_check,nodeP_fn,nodeP_kids,nodeP_knl,nodeP_kcl,noStr,nilSl,List.map_nil]
  have hB:onlyB p=(decide ((p.kids.length:Int)=0)&&decide ((p.at_.es.length:Int)=0)):=by simp only [onlyB];simp only [h0,if_true,if_false]
  rw [hP,hB]
  clear hP hB h125
  cases k1:decide ((p.kids.length:Int)=0)
  ·simp only [o0,k1,go_sem,seval]
   show _=true
   kernel_rfl
  cases k2:decide ((p.at_.es.length:Int)=0)
  ·simp only [o0,k1,k2,go_sem,seval]
   show _=true
   kernel_rfl
  ·simp only [o0,k1,k2,go_sem,seval]
   show _=true
   kernel_rfl
 case false=>
 have h0:=of_decide_eq_false o0
 cases o1:decide (p.op.bs=[108,105,110,101,97,114])
 case true=>
  have h1:=of_decide_eq_true o1
  have hP:(onlyP p).av = .agg [.str p.op.bs,.int .i64 0,.int .i64 0,.str [],.sl p.at_.nl (p.at_.es.map Lin.av) p.at_.cl,.bool false,.int .i64 0,.sl true [] true,.sl p.knl (p.kids.map Pull.av) p.kcl]:=by rw [Pull.avc];simp only [onlyP,h0,if_false];simp only [h1,if_true,if_false,nodeP_op,nodeP_num,nodeP_value,nodeP_name,nodeP_at_,nodeP_dyn,nodeP_check,nodeP_fn,nodeP_kids,nodeP_knl,nodeP_kcl,noStr,nilSl,List.map_nil]
  have hB:onlyB p=(decide ((p.kids.length:Int)=0)&&decide ((p.at_.es.length:Int)=1)):=by simp only [onlyB,h0,if_false];simp only [h1,if_true,if_false]
  rw [hP,hB]
  clear hP hB h125
  cases k1:decide ((p.kids.length:Int)=0)
  ·simp only [o0,o1,k1,go_sem,seval]
   show _=true
   kernel_rfl
  cases k2:decide ((p.at_.es.length:Int)=1)
  ·simp only [o0,o1,k1,k2,go_sem,seval]
   show _=true
   kernel_rfl
  ·simp only [o0,o1,k1,k2,go_sem,seval]
   show _=true
   kernel_rfl
 case false=>
 have h1:=of_decide_eq_false o1
 cases o2:decide (p.op.bs=[114,101,97,100])
 case true=>
  have h2:=of_decide_eq_true o2
  cases hd:p.dyn
  case true=>
   have hP:(onlyP p).av = .agg [.str p.op.bs,.int .i64 0,.int .i64 p.value,.str [],.sl p.at_.nl (p.at_.es.map Lin.av) p.at_.cl,.bool true,.int .i64 p.check,.sl true [] true,.sl p.knl (p.kids.map Pull.av) p.kcl]:=by rw [Pull.avc];simp only [onlyP,h0,h1,if_false];simp only [hd,h2,if_true,if_false,nodeP_op,nodeP_num,nodeP_value,nodeP_name,nodeP_at_,nodeP_dyn,nodeP_check,nodeP_fn,nodeP_kids,nodeP_knl,nodeP_kcl,noStr,nilSl,List.map_nil]
   have hB:onlyB p=(decide ((p.kids.length:Int)=1)&&decide ((p.at_.es.length:Int)≤5)):=by simp only [onlyB,h0,h1,if_false];simp only [hd,h2,if_true,if_false]
   rw [hP,hB]
   clear hP hB h125
   cases k1:decide ((p.kids.length:Int)=1)
   ·repeat (first | simp only [o0,o1,o2,hd,mnA,min_eq,k1,go_sem,seval] | refine And.intro (by kernel_rfl) ?_)
    show _=true
    kernel_rfl
   cases k2:decide ((p.at_.es.length:Int)≤5)
   ·repeat (first | simp only [o0,o1,o2,hd,mnA,min_eq,k1,k2,go_sem,seval] | refine And.intro (by kernel_rfl) ?_)
    show _=true
    kernel_rfl
   ·repeat (first | simp only [o0,o1,o2,hd,mnA,min_eq,k1,k2,go_sem,seval] | refine And.intro (by kernel_rfl) ?_)
    show _=true
    kernel_rfl
  case false=>
   have hP:(onlyP p).av = .agg [.str p.op.bs,.int .i64 0,.int .i64 p.value,.str [],.sl p.at_.nl (p.at_.es.map Lin.av) p.at_.cl,.bool false,.int .i64 0,.sl true [] true,.sl p.knl (p.kids.map Pull.av) p.kcl]:=by rw [Pull.avc];simp only [onlyP,h0,h1,if_false];simp only [hd,Bool.false_eq_true,h2,if_true,if_false,nodeP_op,nodeP_num,nodeP_value,nodeP_name,nodeP_at_,nodeP_dyn,nodeP_check,nodeP_fn,nodeP_kids,nodeP_knl,nodeP_kcl,noStr,nilSl,List.map_nil]
   have hB:onlyB p=(decide ((p.kids.length:Int)=0)&&decide ((p.at_.es.length:Int)≤6)):=by simp only [onlyB,h0,h1,if_false];simp only [hd,Bool.false_eq_true,h2,if_true,if_false]
   rw [hP,hB]
   clear hP hB h125
   cases k1:decide ((p.kids.length:Int)=0)
   ·repeat (first | simp only [o0,o1,o2,hd,mnA,min_eq,k1,go_sem,seval] | refine And.intro (by kernel_rfl) ?_)
    show _=true
    kernel_rfl
   cases k2:decide ((p.at_.es.length:Int)≤6)
   ·repeat (first | simp only [o0,o1,o2,hd,mnA,min_eq,k1,k2,go_sem,seval] | refine And.intro (by kernel_rfl) ?_)
    show _=true
    kernel_rfl
   ·repeat (first | simp only [o0,o1,o2,hd,mnA,min_eq,k1,k2,go_sem,seval] | refine And.intro (by kernel_rfl) ?_)
    show _=true
    kernel_rfl
 case false=>
 have h2:=of_decide_eq_false o2
 cases o3:decide (p.op.bs=[105,102])
 case true=>
  have h3:=of_decide_eq_true o3
  have hP:(onlyP p).av = .agg [.str p.op.bs,.int .i64 0,.int .i64 0,.str [],.sl p.at_.nl (p.at_.es.map Lin.av) p.at_.cl,.bool false,.int .i64 0,.sl true [] true,.sl p.knl (p.kids.map Pull.av) p.kcl]:=by rw [Pull.avc];simp only [onlyP,h0,h1,h2,if_false];simp only [h3,if_true,if_false,nodeP_op,nodeP_num,nodeP_value,nodeP_name,nodeP_at_,nodeP_dyn,nodeP_check,nodeP_fn,nodeP_kids,nodeP_knl,nodeP_kcl,noStr,nilSl,List.map_nil]
  have hB:onlyB p=(decide ((p.kids.length:Int)=2)&&decide ((p.at_.es.length:Int)=1)):=by simp only [onlyB,h0,h1,h2,if_false];simp only [h3,if_true,if_false]
  rw [hP,hB]
  clear hP hB h125
  cases k1:decide ((p.kids.length:Int)=2)
  ·simp only [o0,o1,o2,o3,k1,go_sem,seval]
   show _=true
   kernel_rfl
  cases k2:decide ((p.at_.es.length:Int)=1)
  ·simp only [o0,o1,o2,o3,k1,k2,go_sem,seval]
   show _=true
   kernel_rfl
  ·simp only [o0,o1,o2,o3,k1,k2,go_sem,seval]
   show _=true
   kernel_rfl
 case false=>
 have h3:=of_decide_eq_false o3
 cases o4:decide (p.op.bs=[114,101,100,117,99,101])
 case true=>
  have h4:=of_decide_eq_true o4
  have hP:(onlyP p).av = .agg [.str p.op.bs,.int .i64 0,.int .i64 0,.str p.name.bs,.sl p.at_.nl (p.at_.es.map Lin.av) p.at_.cl,.bool false,.int .i64 0,.sl p.fn.nl (p.fn.es.map Step.av) p.fn.cl,.sl p.knl (p.kids.map Pull.av) p.kcl]:=by rw [Pull.avc];simp only [onlyP,h0,h1,h2,h3,if_false];simp only [h4,if_true,if_false,nodeP_op,nodeP_num,nodeP_value,nodeP_name,nodeP_at_,nodeP_dyn,nodeP_check,nodeP_fn,nodeP_kids,nodeP_knl,nodeP_kcl,noStr,nilSl,List.map_nil]
  have hB:onlyB p=(decide ((p.kids.length:Int)=2)&&decide ((p.at_.es.length:Int)=1)):=by simp only [onlyB,h0,h1,h2,h3,if_false];simp only [h4,if_true,if_false]
  rw [hP,hB]
  clear hP hB h125
  cases k1:decide ((p.kids.length:Int)=2)
  ·repeat (first | simp only [o0,o1,o2,o3,o4,k1,go_sem,seval] | refine And.intro (by kernel_rfl) ?_)
   show _=true
   kernel_rfl
  cases k2:decide ((p.at_.es.length:Int)=1)
  ·repeat (first | simp only [o0,o1,o2,o3,o4,k1,k2,go_sem,seval] | refine And.intro (by kernel_rfl) ?_)
   show _=true
   kernel_rfl
  ·repeat (first | simp only [o0,o1,o2,o3,o4,k1,k2,go_sem,seval] | refine And.intro (by kernel_rfl) ?_)
   show _=true
   kernel_rfl
 case false=>
 have h4:=of_decide_eq_false o4
 cases o5:decide (p.op.bs=[99,111,100,101])
 case true=>
  have h5:=of_decide_eq_true o5
  have hP:(onlyP p).av = .agg [.str p.op.bs,.int .i64 0,.int .i64 0,.str [],.sl true [] true,.bool false,.int .i64 0,.sl p.fn.nl (p.fn.es.map Step.av) p.fn.cl,.sl p.knl (p.kids.map Pull.av) p.kcl]:=by rw [Pull.avc];simp only [onlyP,h0,h1,h2,h3,h4,if_false];simp only [h5,if_true,if_false,nodeP_op,nodeP_num,nodeP_value,nodeP_name,nodeP_at_,nodeP_dyn,nodeP_check,nodeP_fn,nodeP_kids,nodeP_knl,nodeP_kcl,noStr,nilSl,List.map_nil]
  have hB:onlyB p=(decide ((p.kids.length:Int)≤20)&&decide ((p.at_.es.length:Int)=0)):=by simp only [onlyB,h0,h1,h2,h3,h4,if_false];simp only [h5,if_true,if_false]
  rw [hP,hB]
  clear hP hB h125
  cases k1:decide ((p.kids.length:Int)≤20)
  ·repeat (first | simp only [o0,o1,o2,o3,o4,o5,mnA,min_eq,k1,go_sem,seval] | refine And.intro (by kernel_rfl) ?_)
   show _=true
   kernel_rfl
  cases k2:decide ((p.at_.es.length:Int)=0)
  ·repeat (first | simp only [o0,o1,o2,o3,o4,o5,mnA,min_eq,k1,k2,go_sem,seval] | refine And.intro (by kernel_rfl) ?_)
   show _=true
   kernel_rfl
  ·repeat (first | simp only [o0,o1,o2,o3,o4,o5,mnA,min_eq,k1,k2,go_sem,seval] | refine And.intro (by kernel_rfl) ?_)
   show _=true
   kernel_rfl
 case false=>
 have h5:=of_decide_eq_false o5
 have hP:(onlyP p).av = .agg [.str p.op.bs,.int .i64 0,.int .i64 0,.str [],.sl true [] true,.bool false,.int .i64 0,.sl true [] true,.sl p.knl (p.kids.map Pull.av) p.kcl]:=by rw [Pull.avc];simp only [onlyP,h0,h1,h2,h3,h4,h5,if_false,nodeP_op,nodeP_num,nodeP_value,nodeP_name,nodeP_at_,nodeP_dyn,nodeP_check,nodeP_fn,nodeP_kids,nodeP_knl,nodeP_kcl,noStr,nilSl,List.map_nil]
 have hB:onlyB p=(match primT p.op.bs with
  | none=>false
  | some q=>decide ((p.kids.length:Int)=(q.params.length:Int))&&decide ((p.at_.es.length:Int)=0)):=by simp only [onlyB,h0,h1,h2,h3,h4,h5,if_false]
 rw [hP,hB]
 clear hP hB
 obtain ⟨rr,hr,hR⟩:=h125 p.op.bs
 simp only [PrimR] at hR
 cases hpt:primT p.op.bs with
 | none=>
  rw [hpt] at hR
  dsimp only at hR
  subst hR
  simp only [o0,o1,o2,o3,o4,o5,go_sem,seval]
  refine XO_tree hr (by simp only [go_sem,seval]) rfl ?_
  simp only [go_sem,seval]
 | some q=>
  rw [hpt] at hR
  dsimp only at hR
  obtain ⟨nl2,cl2,rfl⟩:=hR
  dsimp only
  simp only [o0,o1,o2,o3,o4,o5,go_sem,seval]
  refine XO_tree hr (by simp only [go_sem,seval]) rfl ?_
  cases k1:decide ((p.kids.length:Int)=(q.params.length:Int))
  ·simp only [k1,go_sem,seval]
   show _=true
   kernel_rfl
  cases k2:decide ((p.at_.es.length:Int)=0)
  ·simp only [k1,k2,go_sem,seval]
   show _=true
   kernel_rfl
  ·simp only [k1,k2,go_sem,seval]
   show _=true
   kernel_rfl
end
end Go.Tev
end
