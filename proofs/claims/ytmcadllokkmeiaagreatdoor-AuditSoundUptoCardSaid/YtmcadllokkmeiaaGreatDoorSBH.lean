import Derived.Test.YtmcadllokkmeiaaGreatDoorSBG
set_option linter.all false
section
namespace Go.Tev
theorem E1(env:List AV)(t:Nat)(ps:List Nat)(v:AV)(vs:List AV):pO env (t::ps) (v::vs)=pO (dS env (some t) v) ps vs:=rfl
theorem H5(env:List AV)(vs:List AV):pO env [] vs=env:=by cases vs<;>rfl
attribute [go_sem] E1 H5
theorem uC{h:Hp}{k:Nat}(e:h.get k=none):h.next k=0:=by rw[Hp.next,e]
def uU(k:aA)(ds:List Val)(p:eN)(own:AV->List AV->Prop)(r:AV):Prop:=
 if kF k ds p=0 then ∃v,r = .tup [v,.int .i64 0]/\own v ((GC k p.P).map Cl.av) else r = .tup [.sl true [] true,.int .i64 (kF k ds p)]
section
variable{pg:Pg}
set_option maxRecDepth 100000 in
set_option maxHeartbeats 16000000 in
theorem R1(hf:pg.fs 664=some cf664)(h694:pg.fs 694=some cf694)(k:aA)(h677:Ret pg 677 [k.av] (.fn 694 [.fp k.av]))(nl cl:Bool)(ds:List Val)(p:eN)(h676:Ret pg 676 [k.av,p.av,.sl nl (ds.map Val.av) cl] (.int .i64 (kF k ds p)))
  (h264:∀at_ v:Int,Ret pg 264 [k.av,.int .i64 at_,.int .i64 v] (.bool (mH k at_ v))) (h11:∀at_:Int,bL pg 11 [k.av,.int .i64 at_] (kD k at_)) (h:Hp) (hfr:∀q,0<=q->h.get q=none) :
  gT pg 664 [k.av,p.av,.sl nl (ds.map Val.av) cl] 0 h (fun r h'=>uU k ds p (fun v es=>Own h' 41 4 true v es) r/\∀q,q<0->h'.get q=h.get q):=by
 have tlP:=oK p.P
 rw[aA.avc]at h676
 rw[eN.avc]at h676
 have n1:h.next 1=0:=uC (hfr _ (by decide))
 have n5:h.next 5=0:=uC (hfr _ (by decide))
 have n13:h.next 13=0:=uC (hfr _ (by decide))
 unfold uU
 by_cases hx:kF k ds p=0
 case neg=>
  have b0:decide (kF k ds p=0)=false:=by simp[hx]
  simp only[if_neg hx]
  rw[aA.avc,eN.avc]
  refine gT.ofX hf ?_
  unfold cf664
  simp only[n1,n5,go_sem,seval]
  refine aB h676 (by simp only[go_sem,seval]) rfl ?_
  simp only[b0,go_sem,seval]
  intro q hq
  rw[if_neg (by omega),if_neg (by omega)]
 simp only[if_pos hx]
 rw[hx]at h676
 have hcx:dY k ds=0:=by
  by_cases h:dY k ds=0
  ·exact h
  ·rw[kF,if_neg h]at hx;exact absurd hx h
 have hfb:oC k ds p=true:=by
  rw[kF,if_pos hcx]at hx
  cases hb:oC k ds p
  ·rw[hb]at hx;simp at hx
  ·rfl
 simp only[oC,Bool.and_eq_true,decide_eq_true_eq,Bool.not_eq_true',decide_eq_false_iff_not]at hfb
 obtain⟨⟨⟨⟨b1,b2⟩,b3⟩,b4⟩,b5⟩:=hfb
 have hc:=(nJ hcx).1
 have ok:=fL hc
 have hsz:=ET hcx
 obtain⟨_,hsl,hzl⟩:=EO (ds:=ds) ok
 have hPV:p.P.length=k.values.es.length:=by omega
 have hso:=ok.out
 simp only[bD,Bool.and_eq_true,decide_eq_true_eq]at hso
 obtain⟨_,⟨⟨⟨⟨⟨⟨_,_⟩,_⟩,hi8⟩,_⟩,hV4⟩,hL4⟩,_⟩:=hso
 have hwr:∀w:Nat,(plc (aF k) w).1 ≠ -2/\w<p.P.length->0<=(plc p.P w).1/\0<=(plc p.P w).2/\wr .i64 ((plc p.P w).1+(plc p.P w).2)=(plc p.P w).1+(plc p.P w).2:=fun w hw=>by
  have:=BO (sz:=fW k ds) (sp:=aF k) (pk:=p.pk) p.P 0 w b5 hw.2
  rw[Nat.zero_add]at this
  simp only[okP,if_neg hw.1,Bool.and_eq_true,decide_eq_true_eq]at this
  have h2:=hsz w
  exact⟨by omega,by omega,aR (by omega) (by omega)⟩
 have hll:∀at_,(eJ at_ (aF k)).length<=408:=fun at_=>by have:=(qA at_ _ (aF k) rfl).2;omega
 rw[aA.avc,eN.avc]
 refine gT.ofX hf ?_
 unfold cf664
 rw[aA.avc]at h677
 simp only[n1,n5,go_sem,seval]
 refine aB h676 (by simp only[go_sem,seval]) rfl ?_
 simp only[n13,go_sem,seval]
 refine aB h677 (by simp only[go_sem,seval]) rfl ?_
 simp only[go_sem,seval]
 refine M2 h694 k hc h11 (by rw[aA.avc];rfl) (fun j hp=>hp.get 1=some (0,.blk k.cells 6 true true false)/\hp.get 5=some (0,.blk p.cells 3 true true false) /\
  (∃v,hp.get 13=some (0,.blk [v] 1 false true false)/\Own hp 41 4 true v ((uQ k p.P (List.range j)).map Cl.av))/\∀q,q<0->hp.get q=h.get q) ?_ ?_ ?_ ?_
 ·rintro j hp hp' hh ⟨g1,g5,⟨v,g13,ho⟩,hq⟩
  exact⟨(hh _ (by decide)).trans g1,(hh _ (by decide)).trans g5,⟨v,(hh _ (by decide)).trans g13,ho.mono (hh _ (by decide))⟩,fun q h2=>(hh q (by omega)).trans (hq q h2)⟩
 ·refine⟨by simp only[aD,go_sem,seval];rfl,by simp only[aD,go_sem,seval];rfl,⟨.sl true [] true,by simp only[aD,go_sem,seval],Own.nil _ _ _ _ _ _ rfl⟩,fun q hq=>?_⟩
  simp only[aD]
  rw[if_neg (by omega),if_neg (by omega),if_neg (by omega)]
 ·intro j n3 k3 hj hp
  have hlv:∀w∈eJ ((j:Int)-1) (aF k),0<=w/\w.toNat<p.P.length/\(plc (aF k) w.toNat).1 ≠ -2:=fun w hw=>by
   obtain⟨u,u1,u2,u3⟩:=qR.1 hw
   have:=(List.getElem?_eq_some_iff.1 u2).1
   refine⟨u1,by omega,?_⟩
   rw[C4 u2]
   simp only[iH,Bool.and_eq_true,Bool.not_eq_true',decide_eq_false_iff_not]at u3
   exact u3.1.1
  have hlb:=hll ((j:Int)-1)
  have hacc:(uQ k p.P (List.range j)++sG k p.P ((j:Int)-1) (eJ ((j:Int)-1) (aF k))).length<=1073741823:=by
   rw[<-AX]
   have:=D4 hll p.P (List.range (j+1))
   rw[List.length_range]at this
   omega
  have hsucc:=AX k p.P j
  generalize eJ ((j:Int)-1) (aF k)=lv at *
  generalize hat:(j:Int)-1=at_ at *
  have hat2:at_<=(k.list.es.length:Int):=by omega
  generalize uQ k p.P (List.range j)=acc at *
  simp only[go_sem,seval]
  rintro hp1 ⟨g1,g5,⟨v,g13,ho⟩,hq⟩
  obtain⟨tot,htot⟩:∃tot,tot=acc++sG k p.P at_ lv:=⟨_,rfl⟩
  rw[<-htot]at hacc hsucc
  have hlb2:lv.length<=big:=by simp only[big];omega
  refine aG lv (fun d r env hp2=>env=cf664E1 (.pt 1 0 0) (.pt 5 0 0) (.pt 13 0 0) (.int .i64 at_) (.sl n3 (lv.map aH) k3) (.sl n3 (lv.map aH) k3) (.int .i64 lv.length) (.int .i64 d.length)/\hp2.get 21=hp1.get 21/\hp2.get 1=some (0,.blk k.cells 6 true true false) /\
   hp2.get 5=some (0,.blk p.cells 3 true true false)/\(∃v acc2,hp2.get 13=some (0,.blk [v] 1 false true false)/\Own hp2 41 4 true v (acc2.map Cl.av)/\tot=acc2++sG k p.P at_ r)/\∀q,q<0->hp2.get q=h.get q) ?_ ?_ ?_
  ·exact⟨rfl,rfl,g1,g5,⟨v,acc,g13,ho,htot⟩,hq⟩
  ·rintro env hp2 ⟨rfl,g21,g1,g5,⟨v,acc2,g13,ho,he⟩,hq⟩
   simp only[cf664L1,cf664E1,aX,go_sem,seval]
   rw[sG,List.append_nil]at he
   rw[<-List.range_succ,hsucc,he]
   exact⟨g21,g1,g5,⟨v,g13,ho⟩,hq⟩
  ·rintro d a r env hp2 hes ⟨rfl,g21,g1,g5,⟨v,acc2,g13,ho,he⟩,hq⟩
   obtain⟨hget,f1,f2,ew⟩:=cJ hes hlb2
   obtain⟨ha0,haP,haS⟩:=hlv a (by rw[hes];simp)
   obtain⟨u,rfl⟩:=Int.eq_ofNat_of_zero_le ha0
   rw[Int.toNat_natCast]at haP haS
   obtain⟨cS,hS⟩:=CP n3 k3 (d++[(u:Int)]) r
   rw[List.append_assoc,List.singleton_append,<-hes]at hS
   have hrb:r.length<=big:=by have:=congrArg List.length hes;simp only[List.length_append,List.length_cons]at this;omega
   rw[sG]at he
   simp only[cf664L1,cf664E1,f1,f2,hget,ew,↓hS,go_sem,seval]
   refine aG r (fun d3 r3 env hp3=>env=cf664E0 (.pt 1 0 0) (.pt 5 0 0) (.pt 13 0 0) (.int .i64 at_) (.sl n3 (lv.map aH) k3) (.int .i64 u) (.sl n3 (lv.map aH) k3) (.int .i64 lv.length) (.int .i64 d.length) (.sl n3 (r.map aH) cS) (.int .i64 r.length) (.int .i64 d3.length) /\
    hp3.get 21=hp1.get 21/\hp3.get 1=some (0,.blk k.cells 6 true true false)/\hp3.get 5=some (0,.blk p.cells 3 true true false) /\
    (∃v acc3,hp3.get 13=some (0,.blk [v] 1 false true false)/\Own hp3 41 4 true v (acc3.map Cl.av)/\tot=acc3++(r3.flatMap (pC k p.P at_ u)++sG k p.P at_ r))/\∀q,q<0->hp3.get q=h.get q) ?_ ?_ ?_
   ·exact⟨rfl,g21,g1,g5,⟨v,acc2,g13,ho,he⟩,hq⟩
   ·rintro env hp3 ⟨rfl,g21,g1,g5,⟨v,acc3,g13,ho,he⟩,hq⟩
    simp only[cf664L0,cf664E0,aX,ew,go_sem,seval]
    exact⟨rfl,g21,g1,g5,⟨v,acc3,g13,ho,he⟩,hq⟩
   ·rintro d3 w r3 env hp3 hes3 ⟨rfl,g21,g1,g5,⟨v,acc3,g13,ho,he⟩,hq⟩
    obtain⟨hget3,k1,k2,ew3⟩:=cJ hes3 hrb
    obtain⟨hw0,hwP,hwS⟩:=hlv w (by rw[hes,hes3];simp)
    obtain⟨y,rfl⟩:=Int.eq_ofNat_of_zero_le hw0
    rw[Int.toNat_natCast]at hwP hwS
    have lu:((u:Int)<(p.P.length:Int))=True:=eq_true (by omega)
    have ly:((y:Int)<(p.P.length:Int))=True:=eq_true (by omega)
    have hu0:(0<=(u:Int))=True:=eq_true (by omega)
    have hy0:(0<=(y:Int))=True:=eq_true (by omega)
    have hu':=tZ haP
    have hy':=tZ hwP
    obtain⟨x1,x2,wu⟩:=hwr u ⟨haS,haP⟩
    obtain⟨y1,y2,wy⟩:=hwr y ⟨hwS,hwP⟩
    rw[List.flatMap_cons,List.append_assoc]at he
    have g1':=g1
    have g5':=g5
    simp only[aA.cells,Sl.av]at g1
    simp only[eN.cells]at g5
    have hpt:dC k p.P at_ u y=true->pC k p.P at_ (u:Int) (y:Int)=[]:=fun hb=>by rw[pC,Int.toNat_natCast,Int.toNat_natCast,hb];rfl
    have hpf:dC k p.P at_ u y=false->pC k p.P at_ (u:Int) (y:Int)=[⟨at_,u,y,mxI (plc p.P u).1 (plc p.P y).1⟩]:=fun hb=>by rw[pC,Int.toNat_natCast,Int.toNat_natCast,hb];rfl
    cases e1:decide ((plc p.P u).2=0)
    case true=>
     have hm:kB (plc p.P u) (plc p.P y)=false:=by have:=of_decide_eq_true e1;simp[kB,this]
     have hpair:=hpt (by simp only[dC,hm,Bool.not_false,Bool.true_or])
     simp only[cf664L0,cf664E0,k1,k2,hget3,g5,lu,ly,hu0,hy0,hu',hy',mx2,mn2,wu,wy,ew3,e1,go_sem,seval]
     refine⟨by kernel_rfl,?_⟩
     exact⟨rfl,g21,(by first|exact g1'|rfl),(by first|exact g5'|rfl),⟨v,acc3,g13,ho.mono (by simp only[go_sem,seval]),by rw[hpair,List.nil_append]at he;exact he⟩,fun q hq2=>by (repeat rw[if_neg (by omega)]);exact hq q hq2⟩
    cases e2:decide ((plc p.P y).2=0)
    case true=>
     have hm:kB (plc p.P u) (plc p.P y)=false:=by have:=of_decide_eq_true e2;simp[kB,this]
     have hpair:=hpt (by simp only[dC,hm,Bool.not_false,Bool.true_or])
     simp only[cf664L0,cf664E0,k1,k2,hget3,g5,lu,ly,hu0,hy0,hu',hy',mx2,mn2,wu,wy,ew3,e1,e2,go_sem,seval]
     refine⟨by kernel_rfl,?_⟩
     exact⟨rfl,g21,(by first|exact g1'|rfl),(by first|exact g5'|rfl),⟨v,acc3,g13,ho.mono (by simp only[go_sem,seval]),by rw[hpair,List.nil_append]at he;exact he⟩,fun q hq2=>by (repeat rw[if_neg (by omega)]);exact hq q hq2⟩
    have q1:=of_decide_eq_false e1
    have q2:=of_decide_eq_false e2
    cases e3:decide ((if (plc p.P y).1+(plc p.P y).2<(plc p.P u).1+(plc p.P u).2 then (plc p.P y).1+(plc p.P y).2 else (plc p.P u).1+(plc p.P u).2)<=(if (plc p.P u).1<(plc p.P y).1 then (plc p.P y).1 else (plc p.P u).1))
    case true=>
     have hm:kB (plc p.P u) (plc p.P y)=false:=by
      have:=of_decide_eq_true e3
      cases hm:kB (plc p.P u) (plc p.P y)
      ·rfl
      ·obtain⟨m1,m2,m3,m4⟩:=qS.1 hm
       split at this<;>split at this<;>omega
     have hpair:=hpt (by simp only[dC,hm,Bool.not_false,Bool.true_or])
     simp only[cf664L0,cf664E0,k1,k2,hget3,g5,lu,ly,hu0,hy0,hu',hy',mx2,mn2,wu,wy,ew3,e1,e2,e3,go_sem,seval]
     refine⟨by kernel_rfl,?_⟩
     exact⟨rfl,g21,(by first|exact g1'|rfl),(by first|exact g5'|rfl),⟨v,acc3,g13,ho.mono (by simp only[go_sem,seval]),by rw[hpair,List.nil_append]at he;exact he⟩,fun q hq2=>by (repeat rw[if_neg (by omega)]);exact hq q hq2⟩
    have hm:kB (plc p.P u) (plc p.P y)=true:=by
     have:=of_decide_eq_false e3
     refine qS.2 ?_
     split at this<;>split at this<;>omega
    cases b1:decide (0<=at_)
    case false=>
     have hpair:=hpf (by simp only[dC,hm,mB,b1,Bool.false_and,Bool.not_true,Bool.or_self])
     rw[hpair]at he
     simp only[cf664L0,cf664E0,k1,k2,hget3,g5,lu,ly,hu0,hy0,hu',hy',mx2,mn2,wu,wy,ew3,e1,e2,e3,b1,go_sem,seval]
     refine⟨by kernel_rfl,?_⟩
     simp only[cf664L0,cf664E0,k1,k2,hget3,g5,lu,ly,hu0,hy0,hu',hy',mx2,mn2,wu,wy,ew3,e1,e2,e3,b1,g13,go_sem,seval]
     generalize hH2:Hp.put (Hp.put (Hp.put (Hp.put hp3 25 _ _) 29 _ _) 25 _ _) 29 _ _=H2
     have hot:∀q,q≠25->q≠29->H2.get q=hp3.get q:=fun q h1 h2=>by rw[<-hH2,aD,if_neg (Ne.symm h2),aD,if_neg (Ne.symm h1),aD,if_neg (Ne.symm h2),aD,if_neg (Ne.symm h1)]
     refine eU (kb:=0) (s:=41) (ho.mono (hot _ (by decide) (by decide))) (El.cls _) (xs:=[Cl.av ⟨at_,u,y,mxI (plc p.P u).1 (plc p.P y).1⟩]) (by intro z hz;simp at hz;subst hz;exact⟨rfl,rfl,rfl⟩) (by have:=congrArg List.length he;simp only[List.length_append,List.length_singleton,List.length_map]at this ⊢;omega) (by decide) ?_
     intro v' rd pa p1 hk1 hpa
     have hh:∀q,q≠41->q≠25->q≠29->(Eff.app H2 (.pat rd pa)).get q=hp3.get q:=fun q h0 h1 h2=>(hk1 q h0).trans (hot q h1 h2)
     generalize Eff.app H2 (Eff.pat rd pa)=H3 at p1 hh ⊢
     clear hk1 hot hH2
     have k13:=(hh 13 (by decide) (by decide) (by decide)).trans g13
     have p2:Own H3 41 4 true v' ((acc3++[(⟨at_,u,y,mxI (plc p.P u).1 (plc p.P y).1⟩:Cl)]).map Cl.av):=by rw[List.map_append];exact p1
     obtain⟨z1,z2,z3⟩:=p2.one
     simp only[k13,ew3,z1,z2,z3,go_sem,seval]
     exact⟨rfl,(hh 21 (by decide) (by decide) (by decide)).trans g21,(hh 1 (by decide) (by decide) (by decide)).trans g1',(hh 5 (by decide) (by decide) (by decide)).trans g5',⟨v',acc3++[⟨at_,u,y,mxI (plc p.P u).1 (plc p.P y).1⟩],rfl,p2.mono (by simp only[go_sem,seval]),by rw[List.append_assoc];exact he⟩,fun q hq2=>by (repeat rw[if_neg (by omega)]);exact(hh q (by omega) (by omega) (by omega)).trans (hq q hq2)⟩
    cases b2:decide (at_<(k.list.es.length:Int))
    case false=>
     have hpair:=hpf (by simp only[dC,hm,mB,b2,Bool.false_and,Bool.and_false,Bool.not_true,Bool.or_self])
     rw[hpair]at he
     simp only[cf664L0,cf664E0,k1,k2,hget3,g5,lu,ly,hu0,hy0,hu',hy',mx2,mn2,wu,wy,ew3,e1,e2,e3,b1,b2,g1,List.length_map,go_sem,seval]
     refine⟨by kernel_rfl,?_⟩
     simp only[cf664L0,cf664E0,k1,k2,hget3,g5,lu,ly,hu0,hy0,hu',hy',mx2,mn2,wu,wy,ew3,e1,e2,e3,b1,b2,g1,List.length_map,g13,go_sem,seval]
     generalize hH2:Hp.put (Hp.put (Hp.put (Hp.put hp3 25 _ _) 29 _ _) 25 _ _) 29 _ _=H2
     have hot:∀q,q≠25->q≠29->H2.get q=hp3.get q:=fun q h1 h2=>by rw[<-hH2,aD,if_neg (Ne.symm h2),aD,if_neg (Ne.symm h1),aD,if_neg (Ne.symm h2),aD,if_neg (Ne.symm h1)]
     refine eU (kb:=0) (s:=41) (ho.mono (hot _ (by decide) (by decide))) (El.cls _) (xs:=[Cl.av ⟨at_,u,y,mxI (plc p.P u).1 (plc p.P y).1⟩]) (by intro z hz;simp at hz;subst hz;exact⟨rfl,rfl,rfl⟩) (by have:=congrArg List.length he;simp only[List.length_append,List.length_singleton,List.length_map]at this ⊢;omega) (by decide) ?_
     intro v' rd pa p1 hk1 hpa
     have hh:∀q,q≠41->q≠25->q≠29->(Eff.app H2 (.pat rd pa)).get q=hp3.get q:=fun q h0 h1 h2=>(hk1 q h0).trans (hot q h1 h2)
     generalize Eff.app H2 (Eff.pat rd pa)=H3 at p1 hh ⊢
     clear hk1 hot hH2
     have k13:=(hh 13 (by decide) (by decide) (by decide)).trans g13
     have p2:Own H3 41 4 true v' ((acc3++[(⟨at_,u,y,mxI (plc p.P u).1 (plc p.P y).1⟩:Cl)]).map Cl.av):=by rw[List.map_append];exact p1
     obtain⟨z1,z2,z3⟩:=p2.one
     simp only[k13,ew3,z1,z2,z3,go_sem,seval]
     exact⟨rfl,(hh 21 (by decide) (by decide) (by decide)).trans g21,(hh 1 (by decide) (by decide) (by decide)).trans g1',(hh 5 (by decide) (by decide) (by decide)).trans g5',⟨v',acc3++[⟨at_,u,y,mxI (plc p.P u).1 (plc p.P y).1⟩],rfl,p2.mono (by simp only[go_sem,seval]),by rw[List.append_assoc];exact he⟩,fun q hq2=>by (repeat rw[if_neg (by omega)]);exact(hh q (by omega) (by omega) (by omega)).trans (hq q hq2)⟩
    have hcomm:decide ((plc p.P y).1=(plc p.P u).1)=decide ((plc p.P u).1=(plc p.P y).1):=by rw[decide_eq_decide];exact eq_comm
    cases b4:decide ((plc p.P u).1=(plc p.P y).1)
    case false=>
     rw[b4]at hcomm
     have hpair:=hpf (by simp only[dC,hm,mB,b4,hcomm,Bool.false_and,Bool.and_false,Bool.not_true,Bool.or_self])
     rw[hpair]at he
     simp only[cf664L0,cf664E0,k1,k2,hget3,g5,lu,ly,hu0,hy0,hu',hy',mx2,mn2,wu,wy,ew3,e1,e2,e3,b1,b2,b4,g1,List.length_map,go_sem,seval]
     refine⟨by kernel_rfl,?_⟩
     simp only[cf664L0,cf664E0,k1,k2,hget3,g5,lu,ly,hu0,hy0,hu',hy',mx2,mn2,wu,wy,ew3,e1,e2,e3,b1,b2,b4,g1,List.length_map,g13,go_sem,seval]
     generalize hH2:Hp.put (Hp.put (Hp.put (Hp.put hp3 25 _ _) 29 _ _) 25 _ _) 29 _ _=H2
     have hot:∀q,q≠25->q≠29->H2.get q=hp3.get q:=fun q h1 h2=>by rw[<-hH2,aD,if_neg (Ne.symm h2),aD,if_neg (Ne.symm h1),aD,if_neg (Ne.symm h2),aD,if_neg (Ne.symm h1)]
     refine eU (kb:=0) (s:=41) (ho.mono (hot _ (by decide) (by decide))) (El.cls _) (xs:=[Cl.av ⟨at_,u,y,mxI (plc p.P u).1 (plc p.P y).1⟩]) (by intro z hz;simp at hz;subst hz;exact⟨rfl,rfl,rfl⟩) (by have:=congrArg List.length he;simp only[List.length_append,List.length_singleton,List.length_map]at this ⊢;omega) (by decide) ?_
     intro v' rd pa p1 hk1 hpa
     have hh:∀q,q≠41->q≠25->q≠29->(Eff.app H2 (.pat rd pa)).get q=hp3.get q:=fun q h0 h1 h2=>(hk1 q h0).trans (hot q h1 h2)
     generalize Eff.app H2 (Eff.pat rd pa)=H3 at p1 hh ⊢
     clear hk1 hot hH2
     have k13:=(hh 13 (by decide) (by decide) (by decide)).trans g13
     have p2:Own H3 41 4 true v' ((acc3++[(⟨at_,u,y,mxI (plc p.P u).1 (plc p.P y).1⟩:Cl)]).map Cl.av):=by rw[List.map_append];exact p1
     obtain⟨z1,z2,z3⟩:=p2.one
     simp only[k13,ew3,z1,z2,z3,go_sem,seval]
     exact⟨rfl,(hh 21 (by decide) (by decide) (by decide)).trans g21,(hh 1 (by decide) (by decide) (by decide)).trans g1',(hh 5 (by decide) (by decide) (by decide)).trans g5',⟨v',acc3++[⟨at_,u,y,mxI (plc p.P u).1 (plc p.P y).1⟩],rfl,p2.mono (by simp only[go_sem,seval]),by rw[List.append_assoc];exact he⟩,fun q hq2=>by (repeat rw[if_neg (by omega)]);exact(hh q (by omega) (by omega) (by omega)).trans (hq q hq2)⟩
    rw[b4]at hcomm
    obtain⟨n,rfl⟩:=Int.eq_ofNat_of_zero_le (of_decide_eq_true b1)
    have hjl:n<k.list.es.length:=by have:=of_decide_eq_true b2;omega
    have l6:((n:Int)<(k.list.es.length:Int))=True:=eq_true (by omega)
    have hj0:(0<=(n:Int))=True:=eq_true (by omega)
    have hkq:k.list.es[n]?=some k.list.es[n]:=List.getElem?_eq_getElem hjl
    generalize k.list.es[n]=Q at hkq
    have hval:∀z:Nat,sK k (n:Int) z=decide (Q.value=(z:Int)):=fun z=>by simp only[sK,Int.toNat_natCast,hkq];rw[decide_eq_decide];exact eq_comm
    have hsp:dC k p.P (n:Int) u y=(decide (Q.value=(u:Int))&&mH k n y||decide (Q.value=(y:Int))&&mH k n u):=by
     simp only[dC,hm,mB,b4,hcomm,b1,b2,hval,Bool.not_true,Bool.false_or,Bool.true_and,Bool.and_true]
    have my:=h264 n y
    have mu:=h264 n u
    rw[aA.avc]at my mu
    cases b5:decide (Q.value=(u:Int))
    ·cases b6:decide (Q.value=(y:Int))
     ·have hpair:=hpf (by rw[hsp];simp only[b5,b6,Bool.and_true,Bool.true_and,Bool.false_and,Bool.and_false,Bool.or_false,Bool.false_or,Bool.or_true,Bool.true_or,Bool.or_self])
      rw[hpair]at he
      simp only[cf664L0,cf664E0,k1,k2,hget3,g5,lu,ly,hu0,hy0,hu',hy',mx2,mn2,wu,wy,ew3,e1,e2,e3,b1,b2,b4,g1,List.length_map,l6,hj0,hkq,aE.avc,b5,b6,go_sem,seval]
      refine⟨by kernel_rfl,?_⟩
      simp only[cf664L0,cf664E0,k1,k2,hget3,g5,lu,ly,hu0,hy0,hu',hy',mx2,mn2,wu,wy,ew3,e1,e2,e3,b1,b2,b4,g1,List.length_map,l6,hj0,hkq,aE.avc,b5,b6,g13,go_sem,seval]
      generalize hH2:Hp.put (Hp.put (Hp.put (Hp.put hp3 25 _ _) 29 _ _) 25 _ _) 29 _ _=H2
      have hot:∀q,q≠25->q≠29->H2.get q=hp3.get q:=fun q h1 h2=>by rw[<-hH2,aD,if_neg (Ne.symm h2),aD,if_neg (Ne.symm h1),aD,if_neg (Ne.symm h2),aD,if_neg (Ne.symm h1)]
      refine eU (kb:=0) (s:=41) (ho.mono (hot _ (by decide) (by decide))) (El.cls _) (xs:=[Cl.av ⟨(n:Int),u,y,mxI (plc p.P u).1 (plc p.P y).1⟩]) (by intro z hz;simp at hz;subst hz;exact⟨rfl,rfl,rfl⟩) (by have:=congrArg List.length he;simp only[List.length_append,List.length_singleton,List.length_map]at this ⊢;omega) (by decide) ?_
      intro v' rd pa p1 hk1 hpa
      have hh:∀q,q≠41->q≠25->q≠29->(Eff.app H2 (.pat rd pa)).get q=hp3.get q:=fun q h0 h1 h2=>(hk1 q h0).trans (hot q h1 h2)
      generalize Eff.app H2 (Eff.pat rd pa)=H3 at p1 hh ⊢
      clear hk1 hot hH2
      have k13:=(hh 13 (by decide) (by decide) (by decide)).trans g13
      have p2:Own H3 41 4 true v' ((acc3++[(⟨(n:Int),u,y,mxI (plc p.P u).1 (plc p.P y).1⟩:Cl)]).map Cl.av):=by rw[List.map_append];exact p1
      obtain⟨z1,z2,z3⟩:=p2.one
      simp only[k13,ew3,z1,z2,z3,go_sem,seval]
      exact⟨rfl,(hh 21 (by decide) (by decide) (by decide)).trans g21,(hh 1 (by decide) (by decide) (by decide)).trans g1',(hh 5 (by decide) (by decide) (by decide)).trans g5',⟨v',acc3++[⟨(n:Int),u,y,mxI (plc p.P u).1 (plc p.P y).1⟩],rfl,p2.mono (by simp only[go_sem,seval]),by rw[List.append_assoc];exact he⟩,fun q hq2=>by (repeat rw[if_neg (by omega)]);exact(hh q (by omega) (by omega) (by omega)).trans (hq q hq2)⟩
     ·cases c2:mH k n u
      ·rw[c2]at mu
       have hpair:=hpf (by rw[hsp];simp only[b5,b6,c2,Bool.and_true,Bool.true_and,Bool.false_and,Bool.and_false,Bool.or_false,Bool.false_or,Bool.or_true,Bool.true_or,Bool.or_self])
       rw[hpair]at he
       simp only[cf664L0,cf664E0,k1,k2,hget3,g5,lu,ly,hu0,hy0,hu',hy',mx2,mn2,wu,wy,ew3,e1,e2,e3,b1,b2,b4,g1,List.length_map,l6,hj0,hkq,aE.avc,b5,b6,go_sem,seval]
       refine⟨by kernel_rfl,?_⟩
       refine aB mu (by simp only[go_sem,seval]) rfl ?_
       simp only[cf664L0,cf664E0,k1,k2,hget3,g5,lu,ly,hu0,hy0,hu',hy',mx2,mn2,wu,wy,ew3,e1,e2,e3,b1,b2,b4,g1,List.length_map,l6,hj0,hkq,aE.avc,b5,b6,g13,go_sem,seval]
       generalize hH2:Hp.put (Hp.put (Hp.put (Hp.put hp3 25 _ _) 29 _ _) 25 _ _) 29 _ _=H2
       have hot:∀q,q≠25->q≠29->H2.get q=hp3.get q:=fun q h1 h2=>by rw[<-hH2,aD,if_neg (Ne.symm h2),aD,if_neg (Ne.symm h1),aD,if_neg (Ne.symm h2),aD,if_neg (Ne.symm h1)]
       refine eU (kb:=0) (s:=41) (ho.mono (hot _ (by decide) (by decide))) (El.cls _) (xs:=[Cl.av ⟨(n:Int),u,y,mxI (plc p.P u).1 (plc p.P y).1⟩]) (by intro z hz;simp at hz;subst hz;exact⟨rfl,rfl,rfl⟩) (by have:=congrArg List.length he;simp only[List.length_append,List.length_singleton,List.length_map]at this ⊢;omega) (by decide) ?_
       intro v' rd pa p1 hk1 hpa
       have hh:∀q,q≠41->q≠25->q≠29->(Eff.app H2 (.pat rd pa)).get q=hp3.get q:=fun q h0 h1 h2=>(hk1 q h0).trans (hot q h1 h2)
       generalize Eff.app H2 (Eff.pat rd pa)=H3 at p1 hh ⊢
       clear hk1 hot hH2
       have k13:=(hh 13 (by decide) (by decide) (by decide)).trans g13
       have p2:Own H3 41 4 true v' ((acc3++[(⟨(n:Int),u,y,mxI (plc p.P u).1 (plc p.P y).1⟩:Cl)]).map Cl.av):=by rw[List.map_append];exact p1
       obtain⟨z1,z2,z3⟩:=p2.one
       simp only[k13,ew3,z1,z2,z3,go_sem,seval]
       exact⟨rfl,(hh 21 (by decide) (by decide) (by decide)).trans g21,(hh 1 (by decide) (by decide) (by decide)).trans g1',(hh 5 (by decide) (by decide) (by decide)).trans g5',⟨v',acc3++[⟨(n:Int),u,y,mxI (plc p.P u).1 (plc p.P y).1⟩],rfl,p2.mono (by simp only[go_sem,seval]),by rw[List.append_assoc];exact he⟩,fun q hq2=>by (repeat rw[if_neg (by omega)]);exact(hh q (by omega) (by omega) (by omega)).trans (hq q hq2)⟩
      ·rw[c2]at mu
       have hpair:=hpt (by rw[hsp];simp only[b5,b6,c2,Bool.and_true,Bool.true_and,Bool.false_and,Bool.and_false,Bool.or_false,Bool.false_or,Bool.or_true,Bool.true_or,Bool.or_self])
       simp only[cf664L0,cf664E0,k1,k2,hget3,g5,lu,ly,hu0,hy0,hu',hy',mx2,mn2,wu,wy,ew3,e1,e2,e3,b1,b2,b4,g1,List.length_map,l6,hj0,hkq,aE.avc,b5,b6,go_sem,seval]
       refine⟨by kernel_rfl,?_⟩
       refine aB mu (by simp only[go_sem,seval]) rfl ?_
       simp only[cf664L0,cf664E0,k1,k2,hget3,g5,lu,ly,hu0,hy0,hu',hy',mx2,mn2,wu,wy,ew3,e1,e2,e3,b1,b2,b4,g1,List.length_map,l6,hj0,hkq,aE.avc,b5,b6,go_sem,seval]
       exact⟨rfl,g21,(by first|exact g1'|rfl),(by first|exact g5'|rfl),⟨v,acc3,g13,ho.mono (by simp only[go_sem,seval]),by rw[hpair,List.nil_append]at he;exact he⟩,fun q hq2=>by (repeat rw[if_neg (by omega)]);exact hq q hq2⟩
    ·cases c1:mH k n y
     ·rw[c1]at my
      cases b6:decide (Q.value=(y:Int))
      ·have hpair:=hpf (by rw[hsp];simp only[b5,b6,c1,Bool.and_true,Bool.true_and,Bool.false_and,Bool.and_false,Bool.or_false,Bool.false_or,Bool.or_true,Bool.true_or,Bool.or_self])
       rw[hpair]at he
       simp only[cf664L0,cf664E0,k1,k2,hget3,g5,lu,ly,hu0,hy0,hu',hy',mx2,mn2,wu,wy,ew3,e1,e2,e3,b1,b2,b4,g1,List.length_map,l6,hj0,hkq,aE.avc,b5,b6,go_sem,seval]
       refine⟨by kernel_rfl,?_⟩
       refine aB my (by simp only[go_sem,seval]) rfl ?_
       simp only[cf664L0,cf664E0,k1,k2,hget3,g5,lu,ly,hu0,hy0,hu',hy',mx2,mn2,wu,wy,ew3,e1,e2,e3,b1,b2,b4,g1,List.length_map,l6,hj0,hkq,aE.avc,b5,b6,g13,go_sem,seval]
       generalize hH2:Hp.put (Hp.put (Hp.put (Hp.put hp3 25 _ _) 29 _ _) 25 _ _) 29 _ _=H2
       have hot:∀q,q≠25->q≠29->H2.get q=hp3.get q:=fun q h1 h2=>by rw[<-hH2,aD,if_neg (Ne.symm h2),aD,if_neg (Ne.symm h1),aD,if_neg (Ne.symm h2),aD,if_neg (Ne.symm h1)]
       refine eU (kb:=0) (s:=41) (ho.mono (hot _ (by decide) (by decide))) (El.cls _) (xs:=[Cl.av ⟨(n:Int),u,y,mxI (plc p.P u).1 (plc p.P y).1⟩]) (by intro z hz;simp at hz;subst hz;exact⟨rfl,rfl,rfl⟩) (by have:=congrArg List.length he;simp only[List.length_append,List.length_singleton,List.length_map]at this ⊢;omega) (by decide) ?_
       intro v' rd pa p1 hk1 hpa
       have hh:∀q,q≠41->q≠25->q≠29->(Eff.app H2 (.pat rd pa)).get q=hp3.get q:=fun q h0 h1 h2=>(hk1 q h0).trans (hot q h1 h2)
       generalize Eff.app H2 (Eff.pat rd pa)=H3 at p1 hh ⊢
       clear hk1 hot hH2
       have k13:=(hh 13 (by decide) (by decide) (by decide)).trans g13
       have p2:Own H3 41 4 true v' ((acc3++[(⟨(n:Int),u,y,mxI (plc p.P u).1 (plc p.P y).1⟩:Cl)]).map Cl.av):=by rw[List.map_append];exact p1
       obtain⟨z1,z2,z3⟩:=p2.one
       simp only[k13,ew3,z1,z2,z3,go_sem,seval]
       exact⟨rfl,(hh 21 (by decide) (by decide) (by decide)).trans g21,(hh 1 (by decide) (by decide) (by decide)).trans g1',(hh 5 (by decide) (by decide) (by decide)).trans g5',⟨v',acc3++[⟨(n:Int),u,y,mxI (plc p.P u).1 (plc p.P y).1⟩],rfl,p2.mono (by simp only[go_sem,seval]),by rw[List.append_assoc];exact he⟩,fun q hq2=>by (repeat rw[if_neg (by omega)]);exact(hh q (by omega) (by omega) (by omega)).trans (hq q hq2)⟩
      ·cases c2:mH k n u
       ·rw[c2]at mu
        have hpair:=hpf (by rw[hsp];simp only[b5,b6,c1,c2,Bool.and_true,Bool.true_and,Bool.false_and,Bool.and_false,Bool.or_false,Bool.false_or,Bool.or_true,Bool.true_or,Bool.or_self])
        rw[hpair]at he
        simp only[cf664L0,cf664E0,k1,k2,hget3,g5,lu,ly,hu0,hy0,hu',hy',mx2,mn2,wu,wy,ew3,e1,e2,e3,b1,b2,b4,g1,List.length_map,l6,hj0,hkq,aE.avc,b5,b6,go_sem,seval]
        refine⟨by kernel_rfl,?_⟩
        refine aB my (by simp only[go_sem,seval]) rfl ?_
        simp only[cf664L0,cf664E0,k1,k2,hget3,g5,lu,ly,hu0,hy0,hu',hy',mx2,mn2,wu,wy,ew3,e1,e2,e3,b1,b2,b4,g1,List.length_map,l6,hj0,hkq,aE.avc,b5,b6,g13,go_sem,seval]
        refine aB mu (by simp only[go_sem,seval]) rfl ?_
        simp only[cf664L0,cf664E0,k1,k2,hget3,g5,lu,ly,hu0,hy0,hu',hy',mx2,mn2,wu,wy,ew3,e1,e2,e3,b1,b2,b4,g1,List.length_map,l6,hj0,hkq,aE.avc,b5,b6,g13,go_sem,seval]
        generalize hH2:Hp.put (Hp.put (Hp.put (Hp.put hp3 25 _ _) 29 _ _) 25 _ _) 29 _ _=H2
        have hot:∀q,q≠25->q≠29->H2.get q=hp3.get q:=fun q h1 h2=>by rw[<-hH2,aD,if_neg (Ne.symm h2),aD,if_neg (Ne.symm h1),aD,if_neg (Ne.symm h2),aD,if_neg (Ne.symm h1)]
        refine eU (kb:=0) (s:=41) (ho.mono (hot _ (by decide) (by decide))) (El.cls _) (xs:=[Cl.av ⟨(n:Int),u,y,mxI (plc p.P u).1 (plc p.P y).1⟩]) (by intro z hz;simp at hz;subst hz;exact⟨rfl,rfl,rfl⟩) (by have:=congrArg List.length he;simp only[List.length_append,List.length_singleton,List.length_map]at this ⊢;omega) (by decide) ?_
        intro v' rd pa p1 hk1 hpa
        have hh:∀q,q≠41->q≠25->q≠29->(Eff.app H2 (.pat rd pa)).get q=hp3.get q:=fun q h0 h1 h2=>(hk1 q h0).trans (hot q h1 h2)
        generalize Eff.app H2 (Eff.pat rd pa)=H3 at p1 hh ⊢
        clear hk1 hot hH2
        have k13:=(hh 13 (by decide) (by decide) (by decide)).trans g13
        have p2:Own H3 41 4 true v' ((acc3++[(⟨(n:Int),u,y,mxI (plc p.P u).1 (plc p.P y).1⟩:Cl)]).map Cl.av):=by rw[List.map_append];exact p1
        obtain⟨z1,z2,z3⟩:=p2.one
        simp only[k13,ew3,z1,z2,z3,go_sem,seval]
        exact⟨rfl,(hh 21 (by decide) (by decide) (by decide)).trans g21,(hh 1 (by decide) (by decide) (by decide)).trans g1',(hh 5 (by decide) (by decide) (by decide)).trans g5',⟨v',acc3++[⟨(n:Int),u,y,mxI (plc p.P u).1 (plc p.P y).1⟩],rfl,p2.mono (by simp only[go_sem,seval]),by rw[List.append_assoc];exact he⟩,fun q hq2=>by (repeat rw[if_neg (by omega)]);exact(hh q (by omega) (by omega) (by omega)).trans (hq q hq2)⟩
       ·rw[c2]at mu
        have hpair:=hpt (by rw[hsp];simp only[b5,b6,c1,c2,Bool.and_true,Bool.true_and,Bool.false_and,Bool.and_false,Bool.or_false,Bool.false_or,Bool.or_true,Bool.true_or,Bool.or_self])
        simp only[cf664L0,cf664E0,k1,k2,hget3,g5,lu,ly,hu0,hy0,hu',hy',mx2,mn2,wu,wy,ew3,e1,e2,e3,b1,b2,b4,g1,List.length_map,l6,hj0,hkq,aE.avc,b5,b6,go_sem,seval]
        refine⟨by kernel_rfl,?_⟩
        refine aB my (by simp only[go_sem,seval]) rfl ?_
        simp only[cf664L0,cf664E0,k1,k2,hget3,g5,lu,ly,hu0,hy0,hu',hy',mx2,mn2,wu,wy,ew3,e1,e2,e3,b1,b2,b4,g1,List.length_map,l6,hj0,hkq,aE.avc,b5,b6,go_sem,seval]
        refine aB mu (by simp only[go_sem,seval]) rfl ?_
        simp only[cf664L0,cf664E0,k1,k2,hget3,g5,lu,ly,hu0,hy0,hu',hy',mx2,mn2,wu,wy,ew3,e1,e2,e3,b1,b2,b4,g1,List.length_map,l6,hj0,hkq,aE.avc,b5,b6,go_sem,seval]
        exact⟨rfl,g21,(by first|exact g1'|rfl),(by first|exact g5'|rfl),⟨v,acc3,g13,ho.mono (by simp only[go_sem,seval]),by rw[hpair,List.nil_append]at he;exact he⟩,fun q hq2=>by (repeat rw[if_neg (by omega)]);exact hq q hq2⟩
     ·rw[c1]at my
      have hpair:=hpt (by rw[hsp];simp only[b5,c1,Bool.and_true,Bool.true_and,Bool.false_and,Bool.and_false,Bool.or_false,Bool.false_or,Bool.or_true,Bool.true_or,Bool.or_self])
      simp only[cf664L0,cf664E0,k1,k2,hget3,g5,lu,ly,hu0,hy0,hu',hy',mx2,mn2,wu,wy,ew3,e1,e2,e3,b1,b2,b4,g1,List.length_map,l6,hj0,hkq,aE.avc,b5,go_sem,seval]
      refine⟨by kernel_rfl,?_⟩
      refine aB my (by simp only[go_sem,seval]) rfl ?_
      simp only[cf664L0,cf664E0,k1,k2,hget3,g5,lu,ly,hu0,hy0,hu',hy',mx2,mn2,wu,wy,ew3,e1,e2,e3,b1,b2,b4,g1,List.length_map,l6,hj0,hkq,aE.avc,b5,go_sem,seval]
      exact⟨rfl,g21,(by first|exact g1'|rfl),(by first|exact g5'|rfl),⟨v,acc3,g13,ho.mono (by simp only[go_sem,seval]),by rw[hpair,List.nil_append]at he;exact he⟩,fun q hq2=>by (repeat rw[if_neg (by omega)]);exact hq q hq2⟩
 ·rintro hp ⟨g1,g5,⟨v,g13,ho⟩,hq⟩
  simp only[g13,go_sem,seval]
  exact⟨⟨v,rfl,ho⟩,hq⟩
end
end Go.Tev
end
section
namespace Go.Tev
end Go.Tev
end
