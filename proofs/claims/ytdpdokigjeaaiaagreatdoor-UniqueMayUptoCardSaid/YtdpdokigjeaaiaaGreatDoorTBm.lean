import Derived.Test.YtdpdokigjeaaiaaGreatDoorNIm
import Derived.Test.YtdpdokigjeaaiaaGreatDoorTAm
import Derived.Lib.LaidTab
import Derived.Test.YtdpdokigjeaaiaaGreatDoorRows
set_option linter.all false
section
namespace Go.Tev
section
variable {H:Type} {enc:TypeId × Value→H} {P:Program} {w:World} {num:Nat→Nat} {ρ : Rho} {b:DataW H→Nat} {bs:List (DataW H)→Nat}
end
end Go.Tev
end
section
set_option maxRecDepth 100000
namespace Go.Proofs
open Go.Tev
theorem tyS:TyP Tryz.prog 3 9 4 58 54 45 47 97 26 49 35 52 22 31 23 24 32 33 30 where
 uI:=Tryz.underlying3
 uS:=Tryz.underlying9
 uB:=Tryz.underlying4
 u_tCoef:=⟨_,Tryz.underlying58,by kernel_rfl⟩
 u_tLin:=⟨_,Tryz.underlying54,by kernel_rfl⟩
 u_tShape:=⟨_,Tryz.underlying45,by kernel_rfl⟩
 u_tTyp:=⟨_,Tryz.underlying47,by kernel_rfl⟩
 u_tStep:=⟨_,Tryz.underlying97,by kernel_rfl⟩
 u_tPull:=⟨_,Tryz.underlying26,by kernel_rfl⟩
 u_tKer:=⟨_,Tryz.underlying49,by kernel_rfl⟩
 u_tKers:=⟨_,Tryz.underlying35,by kernel_rfl⟩
 u_sCoef:=Tryz.underlying52
 u_sLin:=Tryz.underlying22
 u_sTyp:=Tryz.underlying31
 u_sStep:=Tryz.underlying23
 u_sPull:=Tryz.underlying24
 u_sKer:=Tryz.underlying32
 u_sInt:=Tryz.underlying33
 u_sStr:=Tryz.underlying30
 c_tI:=by kernel_rfl
 c_tS:=by kernel_rfl
 c_tB:=by kernel_rfl
 c_tCoef:=by kernel_rfl
 c_tLin:=by kernel_rfl
 c_tShape:=by kernel_rfl
 c_tTyp:=by kernel_rfl
 c_tStep:=by kernel_rfl
 c_tPull:=by kernel_rfl
 c_tKer:=by kernel_rfl
 c_tKers:=by kernel_rfl
 c_sCoef:=by kernel_rfl
 c_sLin:=by kernel_rfl
 c_sTyp:=by kernel_rfl
 c_sStep:=by kernel_rfl
 c_sPull:=by kernel_rfl
 c_sKer:=by kernel_rfl
 c_sInt:=by kernel_rfl
 c_sStr:=by kernel_rfl
theorem glob_of {ρ : Rho} {W:World} {g:Nat} {v:AV} {cs:Array Value} {T:TypeId} {fr:Nat × Nat} (ht:v.tree=true) (hg:W.heap[g]?=some (.cells cs T fr)) (h:All2 (Rv num ρ W noF) v.cells cs.toList) :
  (v.tree=true∧∃ c T fr,W.heap[gnum g]?=some (.cells c T fr)∧c.size=v.cells.length)∧Rv num ρ W noF (.fp v) (.pointer (some ⟨gnum g,0,none⟩)):=by
 have hl:=h.length
 have hsz:cs.size=v.cells.length:=by rw [hl];simp
 refine ⟨⟨ht,cs,T,fr,hg,hsz⟩,?_⟩
 have hlt:g < W.heap.size:=by
  by_cases hlt:g < W.heap.size
  ·exact hlt
  ·rw [Array.getElem?_eq_none (Nat.le_of_not_lt hlt)] at hg;cases hg
 have hcell:∀ n,n < cs.size→W.cell? ⟨g,0+n,none⟩=some (cs[n]?.getD undef):=by
  intro n hn
  simp only [World.cell?,hg,Option.isSome_none,Bool.false_eq_true,if_false,Nat.zero_add]
  rw [Array.getElem?_eq_getElem hn];rfl
 refine .fp v g 0 (fun n=>cs[n]?.getD undef) (fun h=>h) hlt (fun n hn=>hcell n (by omega)) ?_
 intro j x hx
 have hj:j < cs.size:=by rw [hsz];exact (List.getElem?_eq_some_iff.1 hx).1
 have h2:=h.get j x (cs[j]'hj) hx (by rw [Array.getElem?_toList,Array.getElem?_eq_getElem hj])
 simpa [Array.getElem?_eq_getElem hj] using h2
theorem var_cells {P:Program} {W:World} {n:String} {g:Nat} {cs:Array Value} (hg:P.globalNamed n=some g) (h:W.var? P n=some cs):∃ T fr,W.heap[g]?=some (.cells cs T fr):=by
 unfold World.var? at h
 rw [hg,Option.bind_some] at h
 split at h
 ·rename_i c T fr hh
  cases h
  exact ⟨T,fr,hh⟩
 ·cases h
theorem iface_of {P:Program} {W:World} {fuel:Nat} {t:TypeId} {cs:List Value} {name:String} {d:DataW Unit} {p:List MemPlace} {ms} (ht:P.underlying t=some (.interface ms))
  (h:DataW.trod (fun _=>()) P W 0 (fun _=>true) false fuel t cs=some (.iface name d,p)):∃ u v,cs=[.iface u v]:=by
 cases fuel with
 | zero=>simp [DataW.trod] at h
 | succ fuel=>
  unfold DataW.trod at h
  rw [ht] at h
  split at h<;>first | (rename_i e;cases e;done) | skip
  all_goals first | (exact ⟨_,_,rfl⟩) | (cases h;done) | skip
theorem globS {W:World} (hL:laidMetH Tryz.prog YtdpdokigjeaaiaaGreatDoor.Rows.uniqueMayUptoRow.laid W):GlobOK num glS gnum (fun _ _=>none) W noF:=by
 have e:(YtdpdokigjeaaiaaGreatDoor.Rows.uniqueMayUptoRow.laid.filter fun x=>x.2.handleName?.isSome)=[]:=by kernel_rfl
 have h:laidMet Tryz.prog YtdpdokigjeaaiaaGreatDoor.Rows.uniqueMayUptoRow.laid W:=by
  unfold laidMetH at hL
  rw [e] at hL
  exact hL
 obtain ⟨ps,hv,_,_⟩:=h
 obtain ⟨g1,t1,cs1,f1,p1,q1,hg1,ht1,hv1,hd1,hr1,_⟩:=hv
 obtain ⟨g2,t2,cs2,f2,p2,q2,hg2,ht2,hv2,hd2,hr2,_⟩:=hr1
 obtain ⟨g3,t3,cs3,f3,p3,q3,hg3,ht3,hv3,hd3,hr3,_⟩:=hr2
 obtain ⟨g4,t4,cs4,f4,p4,q4,hg4,ht4,hv4,hd4,hr4,_⟩:=hr3
 obtain ⟨g5,t5,cs5,f5,p5,q5,hg5,ht5,hv5,hd5,hr5,_⟩:=hr4
 obtain ⟨g6,t6,cs6,f6,p6,q6,hg6,ht6,hv6,hd6,hr6,_⟩:=hr5
 clear hr6 hd4 hv4 ht4 hg4 hd2 hv2 ht2 hg2 hd1 hv1 ht1 hg1
 obtain ⟨T3,fr3,hh3⟩:=var_cells hg3 hv3
 obtain ⟨T5,fr5,hh5⟩:=var_cells hg5 hv5
 obtain ⟨T6,fr6,hh6⟩:=var_cells hg6 hv6
 obtain rfl:0=g3:=Option.some.inj ((show Tryz.prog.globalNamed _=some 0 by kernel_rfl).symm.trans hg3)
 obtain rfl:2=g5:=Option.some.inj ((show Tryz.prog.globalNamed _=some 2 by kernel_rfl).symm.trans hg5)
 obtain rfl:1=g6:=Option.some.inj ((show Tryz.prog.globalNamed _=some 1 by kernel_rfl).symm.trans hg6)
 obtain rfl:262=t3:=Option.some.inj ((show (Tryz.prog.globals[0]?).map (·.type)=some 262 by kernel_rfl).symm.trans ht3)
 obtain rfl:185=t5:=Option.some.inj ((show (Tryz.prog.globals[2]?).map (·.type)=some 185 by kernel_rfl).symm.trans ht5)
 obtain rfl:185=t6:=Option.some.inj ((show (Tryz.prog.globals[1]?).map (·.type)=some 185 by kernel_rfl).symm.trans ht6)
 have hd3':DataW.trod (fun _=>()) Tryz.prog W 0 (fun _=>true) false f3 262 cs3.toList=some (Lib.tabData .u64 Lib.pow10Tab,p3):=hd3
 have hcs3:=Lib.cells_of_tab Tryz.underlying262 Tryz.underlying173 (by kernel_rfl) (by kernel_rfl) hd3'
 obtain ⟨u5,v5,hc5⟩:=iface_of Tryz.underlying185 hd5
 obtain ⟨u6,v6,hc6⟩:=iface_of Tryz.underlying185 hd6
 intro g v hg
 unfold glS at hg
 cases h1:g.beq 1 with
 | true=>
  rw [h1] at hg
  simp only [cond_true,Option.some.injEq] at hg
  subst hg
  obtain rfl:=Nat.eq_of_beq_eq_true h1
  exact glob_of (by kernel_rfl) hh6 (by rw [hc6];exact .cons (.ifc _ _ _ (.top _)) .nil)
 | false=>
  cases h2:g.beq 2 with
  | true=>
   rw [h1,h2] at hg
   simp only [cond_true,cond_false,Option.some.injEq] at hg
   subst hg
   obtain rfl:=Nat.eq_of_beq_eq_true h2
   exact glob_of (by kernel_rfl) hh5 (by rw [hc5];exact .cons (.ifc _ _ _ (.top _)) .nil)
  | false=>
   cases h3:g.beq 0 with
   | true=>
    rw [h1,h2,h3] at hg
    simp only [cond_true,cond_false,Option.some.injEq] at hg
    subst hg
    obtain rfl:=Nat.eq_of_beq_eq_true h3
    refine glob_of (by kernel_rfl) hh3 ?_
    rw [hcs3]
    refine All2.mk_get (by simp [AV.cells]) ?_
    intro i x y hx hy
    simp only [AV.cells,List.getElem?_map] at hx hy
    cases hz:Lib.pow10Tab[i]? with
    | none=>rw [hz] at hx;cases hx
    | some z=>
     rw [hz] at hx hy
     cases hx;cases hy
     exact .int _ _
   | false=>rw [h1,h2,h3] at hg;cases hg
end Go.Proofs
end
