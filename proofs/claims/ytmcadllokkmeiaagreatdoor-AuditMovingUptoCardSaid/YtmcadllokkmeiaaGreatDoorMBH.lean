import Derived.Test.YtmcadllokkmeiaaGreatDoorMBG
set_option linter.all false
section
namespace Go.Tev
theorem BK(env:List AV)(t:Nat)(ps:List Nat)(v:AV)(vs:List AV):l0 env (t::ps) (v::vs)=l0 (cD env (some t) v) ps vs:=rfl
theorem EJ(env:List AV)(vs:List AV):l0 env [] vs=env:=by cases vs<;>rfl
attribute [go_sem] BK EJ
theorem iE{h:Hp}{k:Nat}(e:h.get k=none):h.next k=0:=by rw[Hp.next,e]
def jR(k:aA)(ds:List Val)(p:cN)(own:AV->List AV->Prop)(r:AV):Prop:=
 if eF k ds p=0 then ∃v,r = .tup [v,.int .i64 0]/\own v ((I3 k p.P).map Cl.av) else r = .tup [.sl true [] true,.int .i64 (eF k ds p)]
section
variable{pg:Pg}
set_option maxRecDepth 100000 in
set_option maxHeartbeats 16000000 in
theorem OE(hf:pg.fs 664=some cf664)(h694:pg.fs 694=some cf694)(k:aA)(h677:Ret pg 677 [k.av] (.fn 694 [.fp k.av]))(nl cl:Bool)(ds:List Val)(p:cN)(h676:Ret pg 676 [k.av,p.av,.sl nl (ds.map Val.av) cl] (.int .i64 (eF k ds p)))
  (h264:∀at_ v:Int,Ret pg 264 [k.av,.int .i64 at_,.int .i64 v] (.bool (lS k at_ v))) (h11:∀at_:Int,bR pg 11 [k.av,.int .i64 at_] (mG k at_)) (h:Hp) (hfr:∀q,0<=q->h.get q=none) :
  fB pg 664 [k.av,p.av,.sl nl (ds.map Val.av) cl] 0 h (fun r h'=>jR k ds p (fun v es=>Own h' 41 4 true v es) r/\∀q,q<0->h'.get q=h.get q):=by
 have tlP:=kY p.P
 rw[aA.avc]at h676
 rw[cN.avc]at h676
 have n1:h.next 1=0:=iE (hfr _ (by decide))
 have n5:h.next 5=0:=iE (hfr _ (by decide))
 have n13:h.next 13=0:=iE (hfr _ (by decide))
 unfold jR
 by_cases hx:eF k ds p=0
 case neg=>
  have b0:decide (eF k ds p=0)=false:=by simp[hx]
  simp only[if_neg hx]
  rw[aA.avc,cN.avc]
  refine fB.ofX hf ?_
  unfold cf664
  simp only[n1,n5,go_sem,seval]
  refine aB h676 (by simp only[go_sem,seval]) rfl ?_
  simp only[b0,go_sem,seval]
  intro q hq
  rw[if_neg (by omega),if_neg (by omega)]
 simp only[if_pos hx]
 rw[hx]at h676
 have hcx:eA k ds=0:=by
  by_cases h:eA k ds=0
  ·exact h
  ·rw[eF,if_neg h]at hx;exact absurd hx h
 have hfb:fJ k ds p=true:=by
  rw[eF,if_pos hcx]at hx
  cases hb:fJ k ds p
  ·rw[hb]at hx;simp at hx
  ·rfl
 simp only[fJ,Bool.and_eq_true,decide_eq_true_eq,Bool.not_eq_true',decide_eq_false_iff_not]at hfb
 obtain⟨⟨⟨⟨b1,b2⟩,b3⟩,b4⟩,b5⟩:=hfb
 have hc:=(iO hcx).1
 have ok:=eN hc
 have hsz:=sZ hcx
 obtain⟨_,hsl,hzl⟩:=sP (ds:=ds) ok
 have hPV:p.P.length=k.values.es.length:=by omega
 have hso:=ok.out
 simp only[bO,Bool.and_eq_true,decide_eq_true_eq]at hso
 obtain⟨_,⟨⟨⟨⟨⟨⟨_,_⟩,_⟩,hi8⟩,_⟩,hV4⟩,hL4⟩,_⟩:=hso
 have hwr:∀w:Nat,(plc (aF k) w).1 ≠ -2/\w<p.P.length->0<=(plc p.P w).1/\0<=(plc p.P w).2/\wr .i64 ((plc p.P w).1+(plc p.P w).2)=(plc p.P w).1+(plc p.P w).2:=fun w hw=>by
  have:=pA (sz:=iR k ds) (sp:=aF k) (pk:=p.pk) p.P 0 w b5 hw.2
  rw[Nat.zero_add]at this
  simp only[okP,if_neg hw.1,Bool.and_eq_true,decide_eq_true_eq]at this
  have h2:=hsz w
  exact⟨by omega,by omega,aX (by omega) (by omega)⟩
 have hll:∀at_,(cQ at_ (aF k)).length<=408:=fun at_=>by have:=(j4 at_ _ (aF k) rfl).2;omega
 rw[aA.avc,cN.avc]
 refine fB.ofX hf ?_
 unfold cf664
 rw[aA.avc]at h677
 simp only[n1,n5,go_sem,seval]
 refine aB h676 (by simp only[go_sem,seval]) rfl ?_
 simp only[n13,go_sem,seval]
 refine aB h677 (by simp only[go_sem,seval]) rfl ?_
 simp only[go_sem,seval]
 refine A8 h694 k hc h11 (by rw[aA.avc];rfl) (fun j hp=>hp.get 1=some (0,.blk k.cells 6 true true false)/\hp.get 5=some (0,.blk p.cells 3 true true false) /\
  (∃v,hp.get 13=some (0,.blk [v] 1 false true false)/\Own hp 41 4 true v ((lU k p.P (List.range j)).map Cl.av))/\∀q,q<0->hp.get q=h.get q) ?_ ?_ ?_ ?_
 ·rintro j hp hp' hh ⟨g1,g5,⟨v,g13,ho⟩,hq⟩
  exact⟨(hh _ (by decide)).trans g1,(hh _ (by decide)).trans g5,⟨v,(hh _ (by decide)).trans g13,ho.mono (hh _ (by decide))⟩,fun q h2=>(hh q (by omega)).trans (hq q h2)⟩
 ·refine⟨by simp only[aD,go_sem,seval];rfl,by simp only[aD,go_sem,seval];rfl,⟨.sl true [] true,by simp only[aD,go_sem,seval],Own.nil _ _ _ _ _ _ rfl⟩,fun q hq=>?_⟩
  simp only[aD]
  rw[if_neg (by omega),if_neg (by omega),if_neg (by omega)]
 ·intro j n3 k3 hj hp
  have hlv:∀w∈cQ ((j:Int)-1) (aF k),0<=w/\w.toNat<p.P.length/\(plc (aF k) w.toNat).1 ≠ -2:=fun w hw=>by
   obtain⟨u,u1,u2,u3⟩:=mZ.1 hw
   have:=(List.getElem?_eq_some_iff.1 u2).1
   refine⟨u1,by omega,?_⟩
   rw[oZ u2]
   simp only[iI,Bool.and_eq_true,Bool.not_eq_true',decide_eq_false_iff_not]at u3
   exact u3.1.1
  have hlb:=hll ((j:Int)-1)
  have hacc:(lU k p.P (List.range j)++iW k p.P ((j:Int)-1) (cQ ((j:Int)-1) (aF k))).length<=1073741823:=by
   rw[<-nC]
   have:=pP hll p.P (List.range (j+1))
   rw[List.length_range]at this
   omega
  have hsucc:=nC k p.P j
  generalize cQ ((j:Int)-1) (aF k)=lv at *
  generalize hat:(j:Int)-1=at_ at *
  have hat2:at_<=(k.list.es.length:Int):=by omega
  generalize lU k p.P (List.range j)=acc at *
  simp only[go_sem,seval]
  rintro hp1 ⟨g1,g5,⟨v,g13,ho⟩,hq⟩
  obtain⟨tot,htot⟩:∃tot,tot=acc++iW k p.P at_ lv:=⟨_,rfl⟩
  rw[<-htot]at hacc hsucc
  have hlb2:lv.length<=big:=by simp only[big];omega
  refine bI lv (fun d r env hp2=>env=cf664E1 (.pt 1 0 0) (.pt 5 0 0) (.pt 13 0 0) (.int .i64 at_) (.sl n3 (lv.map aH) k3) (.sl n3 (lv.map aH) k3) (.int .i64 lv.length) (.int .i64 d.length)/\hp2.get 21=hp1.get 21/\hp2.get 1=some (0,.blk k.cells 6 true true false) /\
   hp2.get 5=some (0,.blk p.cells 3 true true false)/\(∃v acc2,hp2.get 13=some (0,.blk [v] 1 false true false)/\Own hp2 41 4 true v (acc2.map Cl.av)/\tot=acc2++iW k p.P at_ r)/\∀q,q<0->hp2.get q=h.get q) ?_ ?_ ?_
  ·exact⟨rfl,rfl,g1,g5,⟨v,acc,g13,ho,htot⟩,hq⟩
  ·rintro env hp2 ⟨rfl,g21,g1,g5,⟨v,acc2,g13,ho,he⟩,hq⟩
   simp only[cf664L1,cf664E1,n9,go_sem,seval]
   rw[iW,List.append_nil]at he
   rw[<-List.range_succ,hsucc,he]
   exact⟨g21,g1,g5,⟨v,g13,ho⟩,hq⟩
  ·rintro d a r env hp2 hes ⟨rfl,g21,g1,g5,⟨v,acc2,g13,ho,he⟩,hq⟩
   obtain⟨hget,f1,f2,ew⟩:=mF hes hlb2
   obtain⟨ha0,haP,haS⟩:=hlv a (by rw[hes];simp)
   obtain⟨u,rfl⟩:=Int.eq_ofNat_of_zero_le ha0
   rw[Int.toNat_natCast]at haP haS
   obtain⟨cS,hS⟩:=zC n3 k3 (d++[(u:Int)]) r
   rw[List.append_assoc,List.singleton_append,<-hes]at hS
   have hrb:r.length<=big:=by have:=congrArg List.length hes;simp only[List.length_append,List.length_cons]at this;omega
   rw[iW]at he
   simp only[cf664L1,cf664E1,f1,f2,hget,ew,↓hS,go_sem,seval]
   refine bI r (fun d3 r3 env hp3=>env=cf664E0 (.pt 1 0 0) (.pt 5 0 0) (.pt 13 0 0) (.int .i64 at_) (.sl n3 (lv.map aH) k3) (.int .i64 u) (.sl n3 (lv.map aH) k3) (.int .i64 lv.length) (.int .i64 d.length) (.sl n3 (r.map aH) cS) (.int .i64 r.length) (.int .i64 d3.length) /\
    hp3.get 21=hp1.get 21/\hp3.get 1=some (0,.blk k.cells 6 true true false)/\hp3.get 5=some (0,.blk p.cells 3 true true false) /\
    (∃v acc3,hp3.get 13=some (0,.blk [v] 1 false true false)/\Own hp3 41 4 true v (acc3.map Cl.av)/\tot=acc3++(r3.flatMap (fI k p.P at_ u)++iW k p.P at_ r))/\∀q,q<0->hp3.get q=h.get q) ?_ ?_ ?_
   ·exact⟨rfl,g21,g1,g5,⟨v,acc2,g13,ho,he⟩,hq⟩
   ·rintro env hp3 ⟨rfl,g21,g1,g5,⟨v,acc3,g13,ho,he⟩,hq⟩
    simp only[cf664L0,cf664E0,n9,ew,go_sem,seval]
    exact⟨rfl,g21,g1,g5,⟨v,acc3,g13,ho,he⟩,hq⟩
   ·rintro d3 w r3 env hp3 hes3 ⟨rfl,g21,g1,g5,⟨v,acc3,g13,ho,he⟩,hq⟩
    obtain⟨hget3,k1,k2,ew3⟩:=mF hes3 hrb
    obtain⟨hw0,hwP,hwS⟩:=hlv w (by rw[hes,hes3];simp)
    obtain⟨y,rfl⟩:=Int.eq_ofNat_of_zero_le hw0
    rw[Int.toNat_natCast]at hwP hwS
    have lu:((u:Int)<(p.P.length:Int))=True:=eq_true (by omega)
    have ly:((y:Int)<(p.P.length:Int))=True:=eq_true (by omega)
    have hu0:(0<=(u:Int))=True:=eq_true (by omega)
    have hy0:(0<=(y:Int))=True:=eq_true (by omega)
    have hu':=tN haP
    have hy':=tN hwP
    obtain⟨x1,x2,wu⟩:=hwr u ⟨haS,haP⟩
    obtain⟨y1,y2,wy⟩:=hwr y ⟨hwS,hwP⟩
    rw[List.flatMap_cons,List.append_assoc]at he
    have g1':=g1
    have g5':=g5
    simp only[aA.cells,Sl.av]at g1
    simp only[cN.cells]at g5
    have hpt:cY k p.P at_ u y=true->fI k p.P at_ (u:Int) (y:Int)=[]:=fun hb=>by rw[fI,Int.toNat_natCast,Int.toNat_natCast,hb];rfl
    have hpf:cY k p.P at_ u y=false->fI k p.P at_ (u:Int) (y:Int)=[⟨at_,u,y,mxI (plc p.P u).1 (plc p.P y).1⟩]:=fun hb=>by rw[fI,Int.toNat_natCast,Int.toNat_natCast,hb];rfl
    cases e1:decide ((plc p.P u).2=0)
    case true=>
     have hm:eK (plc p.P u) (plc p.P y)=false:=by have:=of_decide_eq_true e1;simp[eK,this]
     have hpair:=hpt (by simp only[cY,hm,Bool.not_false,Bool.true_or])
     simp only[cf664L0,cf664E0,k1,k2,hget3,g5,lu,ly,hu0,hy0,hu',hy',mx2,mn2,wu,wy,ew3,e1,go_sem,seval]
     refine⟨by kernel_rfl,?_⟩
     exact⟨rfl,g21,(by first|exact g1'|rfl),(by first|exact g5'|rfl),⟨v,acc3,g13,ho.mono (by simp only[go_sem,seval]),by rw[hpair,List.nil_append]at he;exact he⟩,fun q hq2=>by (repeat rw[if_neg (by omega)]);exact hq q hq2⟩
    cases e2:decide ((plc p.P y).2=0)
    case true=>
     have hm:eK (plc p.P u) (plc p.P y)=false:=by have:=of_decide_eq_true e2;simp[eK,this]
     have hpair:=hpt (by simp only[cY,hm,Bool.not_false,Bool.true_or])
     simp only[cf664L0,cf664E0,k1,k2,hget3,g5,lu,ly,hu0,hy0,hu',hy',mx2,mn2,wu,wy,ew3,e1,e2,go_sem,seval]
     refine⟨by kernel_rfl,?_⟩
     exact⟨rfl,g21,(by first|exact g1'|rfl),(by first|exact g5'|rfl),⟨v,acc3,g13,ho.mono (by simp only[go_sem,seval]),by rw[hpair,List.nil_append]at he;exact he⟩,fun q hq2=>by (repeat rw[if_neg (by omega)]);exact hq q hq2⟩
    have q1:=of_decide_eq_false e1
    have q2:=of_decide_eq_false e2
    cases e3:decide ((if (plc p.P y).1+(plc p.P y).2<(plc p.P u).1+(plc p.P u).2 then (plc p.P y).1+(plc p.P y).2 else (plc p.P u).1+(plc p.P u).2)<=(if (plc p.P u).1<(plc p.P y).1 then (plc p.P y).1 else (plc p.P u).1))
    case true=>
     have hm:eK (plc p.P u) (plc p.P y)=false:=by
      have:=of_decide_eq_true e3
      cases hm:eK (plc p.P u) (plc p.P y)
      ·rfl
      ·obtain⟨m1,m2,m3,m4⟩:=gN.1 hm
       split at this<;>split at this<;>omega
     have hpair:=hpt (by simp only[cY,hm,Bool.not_false,Bool.true_or])
     simp only[cf664L0,cf664E0,k1,k2,hget3,g5,lu,ly,hu0,hy0,hu',hy',mx2,mn2,wu,wy,ew3,e1,e2,e3,go_sem,seval]
     refine⟨by kernel_rfl,?_⟩
     exact⟨rfl,g21,(by first|exact g1'|rfl),(by first|exact g5'|rfl),⟨v,acc3,g13,ho.mono (by simp only[go_sem,seval]),by rw[hpair,List.nil_append]at he;exact he⟩,fun q hq2=>by (repeat rw[if_neg (by omega)]);exact hq q hq2⟩
    have hm:eK (plc p.P u) (plc p.P y)=true:=by
     have:=of_decide_eq_false e3
     refine gN.2 ?_
     split at this<;>split at this<;>omega
    cases b1:decide (0<=at_)
    case false=>
     have hpair:=hpf (by simp only[cY,hm,hY,b1,Bool.false_and,Bool.not_true,Bool.or_self])
     rw[hpair]at he
     simp only[cf664L0,cf664E0,k1,k2,hget3,g5,lu,ly,hu0,hy0,hu',hy',mx2,mn2,wu,wy,ew3,e1,e2,e3,b1,go_sem,seval]
     refine⟨by kernel_rfl,?_⟩
     simp only[cf664L0,cf664E0,k1,k2,hget3,g5,lu,ly,hu0,hy0,hu',hy',mx2,mn2,wu,wy,ew3,e1,e2,e3,b1,g13,go_sem,seval]
     generalize hH2:Hp.put (Hp.put (Hp.put (Hp.put hp3 25 _ _) 29 _ _) 25 _ _) 29 _ _=H2
     have hot:∀q,q≠25->q≠29->H2.get q=hp3.get q:=fun q h1 h2=>by rw[<-hH2,aD,if_neg (Ne.symm h2),aD,if_neg (Ne.symm h1),aD,if_neg (Ne.symm h2),aD,if_neg (Ne.symm h1)]
     refine cZ (kb:=0) (s:=41) (ho.mono (hot _ (by decide) (by decide))) (El.cls _) (xs:=[Cl.av ⟨at_,u,y,mxI (plc p.P u).1 (plc p.P y).1⟩]) (by intro z hz;simp at hz;subst hz;exact⟨rfl,rfl,rfl⟩) (by have:=congrArg List.length he;simp only[List.length_append,List.length_singleton,List.length_map]at this ⊢;omega) (by decide) ?_
     intro v' rd pa p1 hk1 hpa
     have hh:∀q,q≠41->q≠25->q≠29->(Eff.app H2 (.pat rd pa)).get q=hp3.get q:=fun q h0 h1 h2=>(hk1 q h0).trans (hot q h1 h2)
     generalize Eff.app H2 (Eff.pat rd pa)=H3 at p1 hh ⊢
     clear hk1 hot hH2
     have k13:=(hh 13 (by decide) (by decide) (by decide)).trans g13
     have p2:Own H3 41 4 true v' ((acc3++[(⟨at_,u,y,mxI (plc p.P u).1 (plc p.P y).1⟩:Cl)]).map Cl.av):=by rw[List.map_append];exact p1
     obtain⟨z1,z2,z3⟩:=p2.one
     simp only[k13,ew3,z1,z2,z3,go_sem,seval]
     exact⟨rfl,(hh 21 (by decide) (by decide) (by decide)).trans g21,(hh 1 (by decide) (by decide) (by decide)).trans g1',(hh 5 (by decide) (by decide) (by decide)).trans g5',⟨v',acc3++[⟨at_,u,y,mxI (plc p.P u).1 (plc p.P y).1⟩],rfl,p2.mono (by simp only[go_sem,seval]),by rw[List.append_assoc];exact he⟩,fun q hq2=>by (repeat rw[if_neg (by omega)]);exact(hh q (by omega) (by omega) (by omega)).trans (hq q hq2)⟩
    cases b2:decide (at_<(k.list.es.length:Int))
    case false=>
     have hpair:=hpf (by simp only[cY,hm,hY,b2,Bool.false_and,Bool.and_false,Bool.not_true,Bool.or_self])
     rw[hpair]at he
     simp only[cf664L0,cf664E0,k1,k2,hget3,g5,lu,ly,hu0,hy0,hu',hy',mx2,mn2,wu,wy,ew3,e1,e2,e3,b1,b2,g1,List.length_map,go_sem,seval]
     refine⟨by kernel_rfl,?_⟩
     simp only[cf664L0,cf664E0,k1,k2,hget3,g5,lu,ly,hu0,hy0,hu',hy',mx2,mn2,wu,wy,ew3,e1,e2,e3,b1,b2,g1,List.length_map,g13,go_sem,seval]
     generalize hH2:Hp.put (Hp.put (Hp.put (Hp.put hp3 25 _ _) 29 _ _) 25 _ _) 29 _ _=H2
     have hot:∀q,q≠25->q≠29->H2.get q=hp3.get q:=fun q h1 h2=>by rw[<-hH2,aD,if_neg (Ne.symm h2),aD,if_neg (Ne.symm h1),aD,if_neg (Ne.symm h2),aD,if_neg (Ne.symm h1)]
     refine cZ (kb:=0) (s:=41) (ho.mono (hot _ (by decide) (by decide))) (El.cls _) (xs:=[Cl.av ⟨at_,u,y,mxI (plc p.P u).1 (plc p.P y).1⟩]) (by intro z hz;simp at hz;subst hz;exact⟨rfl,rfl,rfl⟩) (by have:=congrArg List.length he;simp only[List.length_append,List.length_singleton,List.length_map]at this ⊢;omega) (by decide) ?_
     intro v' rd pa p1 hk1 hpa
     have hh:∀q,q≠41->q≠25->q≠29->(Eff.app H2 (.pat rd pa)).get q=hp3.get q:=fun q h0 h1 h2=>(hk1 q h0).trans (hot q h1 h2)
     generalize Eff.app H2 (Eff.pat rd pa)=H3 at p1 hh ⊢
     clear hk1 hot hH2
     have k13:=(hh 13 (by decide) (by decide) (by decide)).trans g13
     have p2:Own H3 41 4 true v' ((acc3++[(⟨at_,u,y,mxI (plc p.P u).1 (plc p.P y).1⟩:Cl)]).map Cl.av):=by rw[List.map_append];exact p1
     obtain⟨z1,z2,z3⟩:=p2.one
     simp only[k13,ew3,z1,z2,z3,go_sem,seval]
     exact⟨rfl,(hh 21 (by decide) (by decide) (by decide)).trans g21,(hh 1 (by decide) (by decide) (by decide)).trans g1',(hh 5 (by decide) (by decide) (by decide)).trans g5',⟨v',acc3++[⟨at_,u,y,mxI (plc p.P u).1 (plc p.P y).1⟩],rfl,p2.mono (by simp only[go_sem,seval]),by rw[List.append_assoc];exact he⟩,fun q hq2=>by (repeat rw[if_neg (by omega)]);exact(hh q (by omega) (by omega) (by omega)).trans (hq q hq2)⟩
    have hcomm:decide ((plc p.P y).1=(plc p.P u).1)=decide ((plc p.P u).1=(plc p.P y).1):=by rw[decide_eq_decide];exact eq_comm
    cases b4:decide ((plc p.P u).1=(plc p.P y).1)
    case false=>
     rw[b4]at hcomm
     have hpair:=hpf (by simp only[cY,hm,hY,b4,hcomm,Bool.false_and,Bool.and_false,Bool.not_true,Bool.or_self])
     rw[hpair]at he
     simp only[cf664L0,cf664E0,k1,k2,hget3,g5,lu,ly,hu0,hy0,hu',hy',mx2,mn2,wu,wy,ew3,e1,e2,e3,b1,b2,b4,g1,List.length_map,go_sem,seval]
     refine⟨by kernel_rfl,?_⟩
     simp only[cf664L0,cf664E0,k1,k2,hget3,g5,lu,ly,hu0,hy0,hu',hy',mx2,mn2,wu,wy,ew3,e1,e2,e3,b1,b2,b4,g1,List.length_map,g13,go_sem,seval]
     generalize hH2:Hp.put (Hp.put (Hp.put (Hp.put hp3 25 _ _) 29 _ _) 25 _ _) 29 _ _=H2
     have hot:∀q,q≠25->q≠29->H2.get q=hp3.get q:=fun q h1 h2=>by rw[<-hH2,aD,if_neg (Ne.symm h2),aD,if_neg (Ne.symm h1),aD,if_neg (Ne.symm h2),aD,if_neg (Ne.symm h1)]
     refine cZ (kb:=0) (s:=41) (ho.mono (hot _ (by decide) (by decide))) (El.cls _) (xs:=[Cl.av ⟨at_,u,y,mxI (plc p.P u).1 (plc p.P y).1⟩]) (by intro z hz;simp at hz;subst hz;exact⟨rfl,rfl,rfl⟩) (by have:=congrArg List.length he;simp only[List.length_append,List.length_singleton,List.length_map]at this ⊢;omega) (by decide) ?_
     intro v' rd pa p1 hk1 hpa
     have hh:∀q,q≠41->q≠25->q≠29->(Eff.app H2 (.pat rd pa)).get q=hp3.get q:=fun q h0 h1 h2=>(hk1 q h0).trans (hot q h1 h2)
     generalize Eff.app H2 (Eff.pat rd pa)=H3 at p1 hh ⊢
     clear hk1 hot hH2
     have k13:=(hh 13 (by decide) (by decide) (by decide)).trans g13
     have p2:Own H3 41 4 true v' ((acc3++[(⟨at_,u,y,mxI (plc p.P u).1 (plc p.P y).1⟩:Cl)]).map Cl.av):=by rw[List.map_append];exact p1
     obtain⟨z1,z2,z3⟩:=p2.one
     simp only[k13,ew3,z1,z2,z3,go_sem,seval]
     exact⟨rfl,(hh 21 (by decide) (by decide) (by decide)).trans g21,(hh 1 (by decide) (by decide) (by decide)).trans g1',(hh 5 (by decide) (by decide) (by decide)).trans g5',⟨v',acc3++[⟨at_,u,y,mxI (plc p.P u).1 (plc p.P y).1⟩],rfl,p2.mono (by simp only[go_sem,seval]),by rw[List.append_assoc];exact he⟩,fun q hq2=>by (repeat rw[if_neg (by omega)]);exact(hh q (by omega) (by omega) (by omega)).trans (hq q hq2)⟩
    rw[b4]at hcomm
    obtain⟨n,rfl⟩:=Int.eq_ofNat_of_zero_le (of_decide_eq_true b1)
    have hjl:n<k.list.es.length:=by have:=of_decide_eq_true b2;omega
    have l6:((n:Int)<(k.list.es.length:Int))=True:=eq_true (by omega)
    have hj0:(0<=(n:Int))=True:=eq_true (by omega)
    have hkq:k.list.es[n]?=some k.list.es[n]:=List.getElem?_eq_getElem hjl
    generalize k.list.es[n]=Q at hkq
    have hval:∀z:Nat,oN k (n:Int) z=decide (Q.value=(z:Int)):=fun z=>by simp only[oN,Int.toNat_natCast,hkq];rw[decide_eq_decide];exact eq_comm
    have hsp:cY k p.P (n:Int) u y=(decide (Q.value=(u:Int))&&lS k n y||decide (Q.value=(y:Int))&&lS k n u):=by
     simp only[cY,hm,hY,b4,hcomm,b1,b2,hval,Bool.not_true,Bool.false_or,Bool.true_and,Bool.and_true]
    have my:=h264 n y
    have mu:=h264 n u
    rw[aA.avc]at my mu
    cases b5:decide (Q.value=(u:Int))
    ·cases b6:decide (Q.value=(y:Int))
     ·have hpair:=hpf (by rw[hsp];simp only[b5,b6,Bool.and_true,Bool.true_and,Bool.false_and,Bool.and_false,Bool.or_false,Bool.false_or,Bool.or_true,Bool.true_or,Bool.or_self])
      rw[hpair]at he
      simp only[cf664L0,cf664E0,k1,k2,hget3,g5,lu,ly,hu0,hy0,hu',hy',mx2,mn2,wu,wy,ew3,e1,e2,e3,b1,b2,b4,g1,List.length_map,l6,hj0,hkq,aE.avc,b5,b6,go_sem,seval]
      refine⟨by kernel_rfl,?_⟩
      simp only[cf664L0,cf664E0,k1,k2,hget3,g5,lu,ly,hu0,hy0,hu',hy',mx2,mn2,wu,wy,ew3,e1,e2,e3,b1,b2,b4,g1,List.length_map,l6,hj0,hkq,aE.avc,b5,b6,g13,go_sem,seval]
      generalize hH2:Hp.put (Hp.put (Hp.put (Hp.put hp3 25 _ _) 29 _ _) 25 _ _) 29 _ _=H2
      have hot:∀q,q≠25->q≠29->H2.get q=hp3.get q:=fun q h1 h2=>by rw[<-hH2,aD,if_neg (Ne.symm h2),aD,if_neg (Ne.symm h1),aD,if_neg (Ne.symm h2),aD,if_neg (Ne.symm h1)]
      refine cZ (kb:=0) (s:=41) (ho.mono (hot _ (by decide) (by decide))) (El.cls _) (xs:=[Cl.av ⟨(n:Int),u,y,mxI (plc p.P u).1 (plc p.P y).1⟩]) (by intro z hz;simp at hz;subst hz;exact⟨rfl,rfl,rfl⟩) (by have:=congrArg List.length he;simp only[List.length_append,List.length_singleton,List.length_map]at this ⊢;omega) (by decide) ?_
      intro v' rd pa p1 hk1 hpa
      have hh:∀q,q≠41->q≠25->q≠29->(Eff.app H2 (.pat rd pa)).get q=hp3.get q:=fun q h0 h1 h2=>(hk1 q h0).trans (hot q h1 h2)
      generalize Eff.app H2 (Eff.pat rd pa)=H3 at p1 hh ⊢
      clear hk1 hot hH2
      have k13:=(hh 13 (by decide) (by decide) (by decide)).trans g13
      have p2:Own H3 41 4 true v' ((acc3++[(⟨(n:Int),u,y,mxI (plc p.P u).1 (plc p.P y).1⟩:Cl)]).map Cl.av):=by rw[List.map_append];exact p1
      obtain⟨z1,z2,z3⟩:=p2.one
      simp only[k13,ew3,z1,z2,z3,go_sem,seval]
      exact⟨rfl,(hh 21 (by decide) (by decide) (by decide)).trans g21,(hh 1 (by decide) (by decide) (by decide)).trans g1',(hh 5 (by decide) (by decide) (by decide)).trans g5',⟨v',acc3++[⟨(n:Int),u,y,mxI (plc p.P u).1 (plc p.P y).1⟩],rfl,p2.mono (by simp only[go_sem,seval]),by rw[List.append_assoc];exact he⟩,fun q hq2=>by (repeat rw[if_neg (by omega)]);exact(hh q (by omega) (by omega) (by omega)).trans (hq q hq2)⟩
     ·cases c2:lS k n u
      ·rw[c2]at mu
       have hpair:=hpf (by rw[hsp];simp only[b5,b6,c2,Bool.and_true,Bool.true_and,Bool.false_and,Bool.and_false,Bool.or_false,Bool.false_or,Bool.or_true,Bool.true_or,Bool.or_self])
       rw[hpair]at he
       simp only[cf664L0,cf664E0,k1,k2,hget3,g5,lu,ly,hu0,hy0,hu',hy',mx2,mn2,wu,wy,ew3,e1,e2,e3,b1,b2,b4,g1,List.length_map,l6,hj0,hkq,aE.avc,b5,b6,go_sem,seval]
       refine⟨by kernel_rfl,?_⟩
       refine aB mu (by simp only[go_sem,seval]) rfl ?_
       simp only[cf664L0,cf664E0,k1,k2,hget3,g5,lu,ly,hu0,hy0,hu',hy',mx2,mn2,wu,wy,ew3,e1,e2,e3,b1,b2,b4,g1,List.length_map,l6,hj0,hkq,aE.avc,b5,b6,g13,go_sem,seval]
       generalize hH2:Hp.put (Hp.put (Hp.put (Hp.put hp3 25 _ _) 29 _ _) 25 _ _) 29 _ _=H2
       have hot:∀q,q≠25->q≠29->H2.get q=hp3.get q:=fun q h1 h2=>by rw[<-hH2,aD,if_neg (Ne.symm h2),aD,if_neg (Ne.symm h1),aD,if_neg (Ne.symm h2),aD,if_neg (Ne.symm h1)]
       refine cZ (kb:=0) (s:=41) (ho.mono (hot _ (by decide) (by decide))) (El.cls _) (xs:=[Cl.av ⟨(n:Int),u,y,mxI (plc p.P u).1 (plc p.P y).1⟩]) (by intro z hz;simp at hz;subst hz;exact⟨rfl,rfl,rfl⟩) (by have:=congrArg List.length he;simp only[List.length_append,List.length_singleton,List.length_map]at this ⊢;omega) (by decide) ?_
       intro v' rd pa p1 hk1 hpa
       have hh:∀q,q≠41->q≠25->q≠29->(Eff.app H2 (.pat rd pa)).get q=hp3.get q:=fun q h0 h1 h2=>(hk1 q h0).trans (hot q h1 h2)
       generalize Eff.app H2 (Eff.pat rd pa)=H3 at p1 hh ⊢
       clear hk1 hot hH2
       have k13:=(hh 13 (by decide) (by decide) (by decide)).trans g13
       have p2:Own H3 41 4 true v' ((acc3++[(⟨(n:Int),u,y,mxI (plc p.P u).1 (plc p.P y).1⟩:Cl)]).map Cl.av):=by rw[List.map_append];exact p1
       obtain⟨z1,z2,z3⟩:=p2.one
       simp only[k13,ew3,z1,z2,z3,go_sem,seval]
       exact⟨rfl,(hh 21 (by decide) (by decide) (by decide)).trans g21,(hh 1 (by decide) (by decide) (by decide)).trans g1',(hh 5 (by decide) (by decide) (by decide)).trans g5',⟨v',acc3++[⟨(n:Int),u,y,mxI (plc p.P u).1 (plc p.P y).1⟩],rfl,p2.mono (by simp only[go_sem,seval]),by rw[List.append_assoc];exact he⟩,fun q hq2=>by (repeat rw[if_neg (by omega)]);exact(hh q (by omega) (by omega) (by omega)).trans (hq q hq2)⟩
      ·rw[c2]at mu
       have hpair:=hpt (by rw[hsp];simp only[b5,b6,c2,Bool.and_true,Bool.true_and,Bool.false_and,Bool.and_false,Bool.or_false,Bool.false_or,Bool.or_true,Bool.true_or,Bool.or_self])
       simp only[cf664L0,cf664E0,k1,k2,hget3,g5,lu,ly,hu0,hy0,hu',hy',mx2,mn2,wu,wy,ew3,e1,e2,e3,b1,b2,b4,g1,List.length_map,l6,hj0,hkq,aE.avc,b5,b6,go_sem,seval]
       refine⟨by kernel_rfl,?_⟩
       refine aB mu (by simp only[go_sem,seval]) rfl ?_
       simp only[cf664L0,cf664E0,k1,k2,hget3,g5,lu,ly,hu0,hy0,hu',hy',mx2,mn2,wu,wy,ew3,e1,e2,e3,b1,b2,b4,g1,List.length_map,l6,hj0,hkq,aE.avc,b5,b6,go_sem,seval]
       exact⟨rfl,g21,(by first|exact g1'|rfl),(by first|exact g5'|rfl),⟨v,acc3,g13,ho.mono (by simp only[go_sem,seval]),by rw[hpair,List.nil_append]at he;exact he⟩,fun q hq2=>by (repeat rw[if_neg (by omega)]);exact hq q hq2⟩
    ·cases c1:lS k n y
     ·rw[c1]at my
      cases b6:decide (Q.value=(y:Int))
      ·have hpair:=hpf (by rw[hsp];simp only[b5,b6,c1,Bool.and_true,Bool.true_and,Bool.false_and,Bool.and_false,Bool.or_false,Bool.false_or,Bool.or_true,Bool.true_or,Bool.or_self])
       rw[hpair]at he
       simp only[cf664L0,cf664E0,k1,k2,hget3,g5,lu,ly,hu0,hy0,hu',hy',mx2,mn2,wu,wy,ew3,e1,e2,e3,b1,b2,b4,g1,List.length_map,l6,hj0,hkq,aE.avc,b5,b6,go_sem,seval]
       refine⟨by kernel_rfl,?_⟩
       refine aB my (by simp only[go_sem,seval]) rfl ?_
       simp only[cf664L0,cf664E0,k1,k2,hget3,g5,lu,ly,hu0,hy0,hu',hy',mx2,mn2,wu,wy,ew3,e1,e2,e3,b1,b2,b4,g1,List.length_map,l6,hj0,hkq,aE.avc,b5,b6,g13,go_sem,seval]
       generalize hH2:Hp.put (Hp.put (Hp.put (Hp.put hp3 25 _ _) 29 _ _) 25 _ _) 29 _ _=H2
       have hot:∀q,q≠25->q≠29->H2.get q=hp3.get q:=fun q h1 h2=>by rw[<-hH2,aD,if_neg (Ne.symm h2),aD,if_neg (Ne.symm h1),aD,if_neg (Ne.symm h2),aD,if_neg (Ne.symm h1)]
       refine cZ (kb:=0) (s:=41) (ho.mono (hot _ (by decide) (by decide))) (El.cls _) (xs:=[Cl.av ⟨(n:Int),u,y,mxI (plc p.P u).1 (plc p.P y).1⟩]) (by intro z hz;simp at hz;subst hz;exact⟨rfl,rfl,rfl⟩) (by have:=congrArg List.length he;simp only[List.length_append,List.length_singleton,List.length_map]at this ⊢;omega) (by decide) ?_
       intro v' rd pa p1 hk1 hpa
       have hh:∀q,q≠41->q≠25->q≠29->(Eff.app H2 (.pat rd pa)).get q=hp3.get q:=fun q h0 h1 h2=>(hk1 q h0).trans (hot q h1 h2)
       generalize Eff.app H2 (Eff.pat rd pa)=H3 at p1 hh ⊢
       clear hk1 hot hH2
       have k13:=(hh 13 (by decide) (by decide) (by decide)).trans g13
       have p2:Own H3 41 4 true v' ((acc3++[(⟨(n:Int),u,y,mxI (plc p.P u).1 (plc p.P y).1⟩:Cl)]).map Cl.av):=by rw[List.map_append];exact p1
       obtain⟨z1,z2,z3⟩:=p2.one
       simp only[k13,ew3,z1,z2,z3,go_sem,seval]
       exact⟨rfl,(hh 21 (by decide) (by decide) (by decide)).trans g21,(hh 1 (by decide) (by decide) (by decide)).trans g1',(hh 5 (by decide) (by decide) (by decide)).trans g5',⟨v',acc3++[⟨(n:Int),u,y,mxI (plc p.P u).1 (plc p.P y).1⟩],rfl,p2.mono (by simp only[go_sem,seval]),by rw[List.append_assoc];exact he⟩,fun q hq2=>by (repeat rw[if_neg (by omega)]);exact(hh q (by omega) (by omega) (by omega)).trans (hq q hq2)⟩
      ·cases c2:lS k n u
       ·rw[c2]at mu
        have hpair:=hpf (by rw[hsp];simp only[b5,b6,c1,c2,Bool.and_true,Bool.true_and,Bool.false_and,Bool.and_false,Bool.or_false,Bool.false_or,Bool.or_true,Bool.true_or,Bool.or_self])
        rw[hpair]at he
        simp only[cf664L0,cf664E0,k1,k2,hget3,g5,lu,ly,hu0,hy0,hu',hy',mx2,mn2,wu,wy,ew3,e1,e2,e3,b1,b2,b4,g1,List.length_map,l6,hj0,hkq,aE.avc,b5,b6,go_sem,seval]
        refine⟨by kernel_rfl,?_⟩
        refine aB my (by simp only[go_sem,seval]) rfl ?_
        simp only[cf664L0,cf664E0,k1,k2,hget3,g5,lu,ly,hu0,hy0,hu',hy',mx2,mn2,wu,wy,ew3,e1,e2,e3,b1,b2,b4,g1,List.length_map,l6,hj0,hkq,aE.avc,b5,b6,g13,go_sem,seval]
        refine aB mu (by simp only[go_sem,seval]) rfl ?_
        simp only[cf664L0,cf664E0,k1,k2,hget3,g5,lu,ly,hu0,hy0,hu',hy',mx2,mn2,wu,wy,ew3,e1,e2,e3,b1,b2,b4,g1,List.length_map,l6,hj0,hkq,aE.avc,b5,b6,g13,go_sem,seval]
        generalize hH2:Hp.put (Hp.put (Hp.put (Hp.put hp3 25 _ _) 29 _ _) 25 _ _) 29 _ _=H2
        have hot:∀q,q≠25->q≠29->H2.get q=hp3.get q:=fun q h1 h2=>by rw[<-hH2,aD,if_neg (Ne.symm h2),aD,if_neg (Ne.symm h1),aD,if_neg (Ne.symm h2),aD,if_neg (Ne.symm h1)]
        refine cZ (kb:=0) (s:=41) (ho.mono (hot _ (by decide) (by decide))) (El.cls _) (xs:=[Cl.av ⟨(n:Int),u,y,mxI (plc p.P u).1 (plc p.P y).1⟩]) (by intro z hz;simp at hz;subst hz;exact⟨rfl,rfl,rfl⟩) (by have:=congrArg List.length he;simp only[List.length_append,List.length_singleton,List.length_map]at this ⊢;omega) (by decide) ?_
        intro v' rd pa p1 hk1 hpa
        have hh:∀q,q≠41->q≠25->q≠29->(Eff.app H2 (.pat rd pa)).get q=hp3.get q:=fun q h0 h1 h2=>(hk1 q h0).trans (hot q h1 h2)
        generalize Eff.app H2 (Eff.pat rd pa)=H3 at p1 hh ⊢
        clear hk1 hot hH2
        have k13:=(hh 13 (by decide) (by decide) (by decide)).trans g13
        have p2:Own H3 41 4 true v' ((acc3++[(⟨(n:Int),u,y,mxI (plc p.P u).1 (plc p.P y).1⟩:Cl)]).map Cl.av):=by rw[List.map_append];exact p1
        obtain⟨z1,z2,z3⟩:=p2.one
        simp only[k13,ew3,z1,z2,z3,go_sem,seval]
        exact⟨rfl,(hh 21 (by decide) (by decide) (by decide)).trans g21,(hh 1 (by decide) (by decide) (by decide)).trans g1',(hh 5 (by decide) (by decide) (by decide)).trans g5',⟨v',acc3++[⟨(n:Int),u,y,mxI (plc p.P u).1 (plc p.P y).1⟩],rfl,p2.mono (by simp only[go_sem,seval]),by rw[List.append_assoc];exact he⟩,fun q hq2=>by (repeat rw[if_neg (by omega)]);exact(hh q (by omega) (by omega) (by omega)).trans (hq q hq2)⟩
       ·rw[c2]at mu
        have hpair:=hpt (by rw[hsp];simp only[b5,b6,c1,c2,Bool.and_true,Bool.true_and,Bool.false_and,Bool.and_false,Bool.or_false,Bool.false_or,Bool.or_true,Bool.true_or,Bool.or_self])
        simp only[cf664L0,cf664E0,k1,k2,hget3,g5,lu,ly,hu0,hy0,hu',hy',mx2,mn2,wu,wy,ew3,e1,e2,e3,b1,b2,b4,g1,List.length_map,l6,hj0,hkq,aE.avc,b5,b6,go_sem,seval]
        refine⟨by kernel_rfl,?_⟩
        refine aB my (by simp only[go_sem,seval]) rfl ?_
        simp only[cf664L0,cf664E0,k1,k2,hget3,g5,lu,ly,hu0,hy0,hu',hy',mx2,mn2,wu,wy,ew3,e1,e2,e3,b1,b2,b4,g1,List.length_map,l6,hj0,hkq,aE.avc,b5,b6,go_sem,seval]
        refine aB mu (by simp only[go_sem,seval]) rfl ?_
        simp only[cf664L0,cf664E0,k1,k2,hget3,g5,lu,ly,hu0,hy0,hu',hy',mx2,mn2,wu,wy,ew3,e1,e2,e3,b1,b2,b4,g1,List.length_map,l6,hj0,hkq,aE.avc,b5,b6,go_sem,seval]
        exact⟨rfl,g21,(by first|exact g1'|rfl),(by first|exact g5'|rfl),⟨v,acc3,g13,ho.mono (by simp only[go_sem,seval]),by rw[hpair,List.nil_append]at he;exact he⟩,fun q hq2=>by (repeat rw[if_neg (by omega)]);exact hq q hq2⟩
     ·rw[c1]at my
      have hpair:=hpt (by rw[hsp];simp only[b5,c1,Bool.and_true,Bool.true_and,Bool.false_and,Bool.and_false,Bool.or_false,Bool.false_or,Bool.or_true,Bool.true_or,Bool.or_self])
      simp only[cf664L0,cf664E0,k1,k2,hget3,g5,lu,ly,hu0,hy0,hu',hy',mx2,mn2,wu,wy,ew3,e1,e2,e3,b1,b2,b4,g1,List.length_map,l6,hj0,hkq,aE.avc,b5,go_sem,seval]
      refine⟨by kernel_rfl,?_⟩
      refine aB my (by simp only[go_sem,seval]) rfl ?_
      simp only[cf664L0,cf664E0,k1,k2,hget3,g5,lu,ly,hu0,hy0,hu',hy',mx2,mn2,wu,wy,ew3,e1,e2,e3,b1,b2,b4,g1,List.length_map,l6,hj0,hkq,aE.avc,b5,go_sem,seval]
      exact⟨rfl,g21,(by first|exact g1'|rfl),(by first|exact g5'|rfl),⟨v,acc3,g13,ho.mono (by simp only[go_sem,seval]),by rw[hpair,List.nil_append]at he;exact he⟩,fun q hq2=>by (repeat rw[if_neg (by omega)]);exact hq q hq2⟩
 ·rintro hp ⟨g1,g5,⟨v,g13,ho⟩,hq⟩
  simp only[g13,go_sem,seval]
  exact⟨⟨v,rfl,ho⟩,hq⟩
set_option maxRecDepth 100000 in
set_option maxHeartbeats 16000000 in
theorem OD(hf:pg.fs 664=some cf664)(h694:pg.fs 694=some cf694)(k:aA)(h677:Ret pg 677 [k.av] (.fn 694 [.fp k.av]))(nl cl:Bool)(ds:List Val)(p:cN)(h676:Ret pg 676 [k.av,p.av,.sl nl (ds.map Val.av) cl] (.int .i64 (eF k ds p)))
  (h264:∀at_ v:Int,Ret pg 264 [k.av,.int .i64 at_,.int .i64 v] (.bool (lS k at_ v))) (h11:∀at_:Int,bR pg 11 [k.av,.int .i64 at_] (mG k at_)) (h:Hp) (hfr:∀q,1179648<=q->h.get q=none) :
  fB pg 664 [k.av,p.av,.sl nl (ds.map Val.av) cl] 1179648 h (fun r h'=>jR k ds p (fun v es=>Own h' 1179689 4 true v es) r/\∀q,q<1179648->h'.get q=h.get q):=by
 have tlP:=kY p.P
 rw[aA.avc]at h676
 rw[cN.avc]at h676
 have n1:h.next 1179649=0:=iE (hfr _ (by decide))
 have n5:h.next 1179653=0:=iE (hfr _ (by decide))
 have n13:h.next 1179661=0:=iE (hfr _ (by decide))
 unfold jR
 by_cases hx:eF k ds p=0
 case neg=>
  have b0:decide (eF k ds p=0)=false:=by simp[hx]
  simp only[if_neg hx]
  rw[aA.avc,cN.avc]
  refine fB.ofX hf ?_
  unfold cf664
  simp only[n1,n5,go_sem,seval]
  refine aB h676 (by simp only[go_sem,seval]) rfl ?_
  simp only[b0,go_sem,seval]
  intro q hq
  rw[if_neg (by omega),if_neg (by omega)]
 simp only[if_pos hx]
 rw[hx]at h676
 have hcx:eA k ds=0:=by
  by_cases h:eA k ds=0
  ·exact h
  ·rw[eF,if_neg h]at hx;exact absurd hx h
 have hfb:fJ k ds p=true:=by
  rw[eF,if_pos hcx]at hx
  cases hb:fJ k ds p
  ·rw[hb]at hx;simp at hx
  ·rfl
 simp only[fJ,Bool.and_eq_true,decide_eq_true_eq,Bool.not_eq_true',decide_eq_false_iff_not]at hfb
 obtain⟨⟨⟨⟨b1,b2⟩,b3⟩,b4⟩,b5⟩:=hfb
 have hc:=(iO hcx).1
 have ok:=eN hc
 have hsz:=sZ hcx
 obtain⟨_,hsl,hzl⟩:=sP (ds:=ds) ok
 have hPV:p.P.length=k.values.es.length:=by omega
 have hso:=ok.out
 simp only[bO,Bool.and_eq_true,decide_eq_true_eq]at hso
 obtain⟨_,⟨⟨⟨⟨⟨⟨_,_⟩,_⟩,hi8⟩,_⟩,hV4⟩,hL4⟩,_⟩:=hso
 have hwr:∀w:Nat,(plc (aF k) w).1 ≠ -2/\w<p.P.length->0<=(plc p.P w).1/\0<=(plc p.P w).2/\wr .i64 ((plc p.P w).1+(plc p.P w).2)=(plc p.P w).1+(plc p.P w).2:=fun w hw=>by
  have:=pA (sz:=iR k ds) (sp:=aF k) (pk:=p.pk) p.P 0 w b5 hw.2
  rw[Nat.zero_add]at this
  simp only[okP,if_neg hw.1,Bool.and_eq_true,decide_eq_true_eq]at this
  have h2:=hsz w
  exact⟨by omega,by omega,aX (by omega) (by omega)⟩
 have hll:∀at_,(cQ at_ (aF k)).length<=408:=fun at_=>by have:=(j4 at_ _ (aF k) rfl).2;omega
 rw[aA.avc,cN.avc]
 refine fB.ofX hf ?_
 unfold cf664
 rw[aA.avc]at h677
 simp only[n1,n5,go_sem,seval]
 refine aB h676 (by simp only[go_sem,seval]) rfl ?_
 simp only[n13,go_sem,seval]
 refine aB h677 (by simp only[go_sem,seval]) rfl ?_
 simp only[go_sem,seval]
 refine A8 h694 k hc h11 (by rw[aA.avc];rfl) (fun j hp=>hp.get 1179649=some (0,.blk k.cells 6 true true false)/\hp.get 1179653=some (0,.blk p.cells 3 true true false) /\
  (∃v,hp.get 1179661=some (0,.blk [v] 1 false true false)/\Own hp 1179689 4 true v ((lU k p.P (List.range j)).map Cl.av))/\∀q,q<1179648->hp.get q=h.get q) ?_ ?_ ?_ ?_
 ·rintro j hp hp' hh ⟨g1,g5,⟨v,g13,ho⟩,hq⟩
  exact⟨(hh _ (by decide)).trans g1,(hh _ (by decide)).trans g5,⟨v,(hh _ (by decide)).trans g13,ho.mono (hh _ (by decide))⟩,fun q h2=>(hh q (by omega)).trans (hq q h2)⟩
 ·refine⟨by simp only[aD,go_sem,seval];rfl,by simp only[aD,go_sem,seval];rfl,⟨.sl true [] true,by simp only[aD,go_sem,seval],Own.nil _ _ _ _ _ _ rfl⟩,fun q hq=>?_⟩
  simp only[aD]
  rw[if_neg (by omega),if_neg (by omega),if_neg (by omega)]
 ·intro j n3 k3 hj hp
  have hlv:∀w∈cQ ((j:Int)-1) (aF k),0<=w/\w.toNat<p.P.length/\(plc (aF k) w.toNat).1 ≠ -2:=fun w hw=>by
   obtain⟨u,u1,u2,u3⟩:=mZ.1 hw
   have:=(List.getElem?_eq_some_iff.1 u2).1
   refine⟨u1,by omega,?_⟩
   rw[oZ u2]
   simp only[iI,Bool.and_eq_true,Bool.not_eq_true',decide_eq_false_iff_not]at u3
   exact u3.1.1
  have hlb:=hll ((j:Int)-1)
  have hacc:(lU k p.P (List.range j)++iW k p.P ((j:Int)-1) (cQ ((j:Int)-1) (aF k))).length<=1073741823:=by
   rw[<-nC]
   have:=pP hll p.P (List.range (j+1))
   rw[List.length_range]at this
   omega
  have hsucc:=nC k p.P j
  generalize cQ ((j:Int)-1) (aF k)=lv at *
  generalize hat:(j:Int)-1=at_ at *
  have hat2:at_<=(k.list.es.length:Int):=by omega
  generalize lU k p.P (List.range j)=acc at *
  simp only[go_sem,seval]
  rintro hp1 ⟨g1,g5,⟨v,g13,ho⟩,hq⟩
  obtain⟨tot,htot⟩:∃tot,tot=acc++iW k p.P at_ lv:=⟨_,rfl⟩
  rw[<-htot]at hacc hsucc
  have hlb2:lv.length<=big:=by simp only[big];omega
  refine bI lv (fun d r env hp2=>env=cf664E1 (.pt 1179649 0 0) (.pt 1179653 0 0) (.pt 1179661 0 0) (.int .i64 at_) (.sl n3 (lv.map aH) k3) (.sl n3 (lv.map aH) k3) (.int .i64 lv.length) (.int .i64 d.length)/\hp2.get 1179669=hp1.get 1179669/\hp2.get 1179649=some (0,.blk k.cells 6 true true false) /\
   hp2.get 1179653=some (0,.blk p.cells 3 true true false)/\(∃v acc2,hp2.get 1179661=some (0,.blk [v] 1 false true false)/\Own hp2 1179689 4 true v (acc2.map Cl.av)/\tot=acc2++iW k p.P at_ r)/\∀q,q<1179648->hp2.get q=h.get q) ?_ ?_ ?_
  ·exact⟨rfl,rfl,g1,g5,⟨v,acc,g13,ho,htot⟩,hq⟩
  ·rintro env hp2 ⟨rfl,g21,g1,g5,⟨v,acc2,g13,ho,he⟩,hq⟩
   simp only[cf664L1,cf664E1,n9,go_sem,seval]
   rw[iW,List.append_nil]at he
   rw[<-List.range_succ,hsucc,he]
   exact⟨g21,g1,g5,⟨v,g13,ho⟩,hq⟩
  ·rintro d a r env hp2 hes ⟨rfl,g21,g1,g5,⟨v,acc2,g13,ho,he⟩,hq⟩
   obtain⟨hget,f1,f2,ew⟩:=mF hes hlb2
   obtain⟨ha0,haP,haS⟩:=hlv a (by rw[hes];simp)
   obtain⟨u,rfl⟩:=Int.eq_ofNat_of_zero_le ha0
   rw[Int.toNat_natCast]at haP haS
   obtain⟨cS,hS⟩:=zC n3 k3 (d++[(u:Int)]) r
   rw[List.append_assoc,List.singleton_append,<-hes]at hS
   have hrb:r.length<=big:=by have:=congrArg List.length hes;simp only[List.length_append,List.length_cons]at this;omega
   rw[iW]at he
   simp only[cf664L1,cf664E1,f1,f2,hget,ew,↓hS,go_sem,seval]
   refine bI r (fun d3 r3 env hp3=>env=cf664E0 (.pt 1179649 0 0) (.pt 1179653 0 0) (.pt 1179661 0 0) (.int .i64 at_) (.sl n3 (lv.map aH) k3) (.int .i64 u) (.sl n3 (lv.map aH) k3) (.int .i64 lv.length) (.int .i64 d.length) (.sl n3 (r.map aH) cS) (.int .i64 r.length) (.int .i64 d3.length) /\
    hp3.get 1179669=hp1.get 1179669/\hp3.get 1179649=some (0,.blk k.cells 6 true true false)/\hp3.get 1179653=some (0,.blk p.cells 3 true true false) /\
    (∃v acc3,hp3.get 1179661=some (0,.blk [v] 1 false true false)/\Own hp3 1179689 4 true v (acc3.map Cl.av)/\tot=acc3++(r3.flatMap (fI k p.P at_ u)++iW k p.P at_ r))/\∀q,q<1179648->hp3.get q=h.get q) ?_ ?_ ?_
   ·exact⟨rfl,g21,g1,g5,⟨v,acc2,g13,ho,he⟩,hq⟩
   ·rintro env hp3 ⟨rfl,g21,g1,g5,⟨v,acc3,g13,ho,he⟩,hq⟩
    simp only[cf664L0,cf664E0,n9,ew,go_sem,seval]
    exact⟨rfl,g21,g1,g5,⟨v,acc3,g13,ho,he⟩,hq⟩
   ·rintro d3 w r3 env hp3 hes3 ⟨rfl,g21,g1,g5,⟨v,acc3,g13,ho,he⟩,hq⟩
    obtain⟨hget3,k1,k2,ew3⟩:=mF hes3 hrb
    obtain⟨hw0,hwP,hwS⟩:=hlv w (by rw[hes,hes3];simp)
    obtain⟨y,rfl⟩:=Int.eq_ofNat_of_zero_le hw0
    rw[Int.toNat_natCast]at hwP hwS
    have lu:((u:Int)<(p.P.length:Int))=True:=eq_true (by omega)
    have ly:((y:Int)<(p.P.length:Int))=True:=eq_true (by omega)
    have hu0:(0<=(u:Int))=True:=eq_true (by omega)
    have hy0:(0<=(y:Int))=True:=eq_true (by omega)
    have hu':=tN haP
    have hy':=tN hwP
    obtain⟨x1,x2,wu⟩:=hwr u ⟨haS,haP⟩
    obtain⟨y1,y2,wy⟩:=hwr y ⟨hwS,hwP⟩
    rw[List.flatMap_cons,List.append_assoc]at he
    have g1':=g1
    have g5':=g5
    simp only[aA.cells,Sl.av]at g1
    simp only[cN.cells]at g5
    have hpt:cY k p.P at_ u y=true->fI k p.P at_ (u:Int) (y:Int)=[]:=fun hb=>by rw[fI,Int.toNat_natCast,Int.toNat_natCast,hb];rfl
    have hpf:cY k p.P at_ u y=false->fI k p.P at_ (u:Int) (y:Int)=[⟨at_,u,y,mxI (plc p.P u).1 (plc p.P y).1⟩]:=fun hb=>by rw[fI,Int.toNat_natCast,Int.toNat_natCast,hb];rfl
    cases e1:decide ((plc p.P u).2=0)
    case true=>
     have hm:eK (plc p.P u) (plc p.P y)=false:=by have:=of_decide_eq_true e1;simp[eK,this]
     have hpair:=hpt (by simp only[cY,hm,Bool.not_false,Bool.true_or])
     simp only[cf664L0,cf664E0,k1,k2,hget3,g5,lu,ly,hu0,hy0,hu',hy',mx2,mn2,wu,wy,ew3,e1,go_sem,seval]
     refine⟨by kernel_rfl,?_⟩
     exact⟨rfl,g21,(by first|exact g1'|rfl),(by first|exact g5'|rfl),⟨v,acc3,g13,ho.mono (by simp only[go_sem,seval]),by rw[hpair,List.nil_append]at he;exact he⟩,fun q hq2=>by (repeat rw[if_neg (by omega)]);exact hq q hq2⟩
    cases e2:decide ((plc p.P y).2=0)
    case true=>
     have hm:eK (plc p.P u) (plc p.P y)=false:=by have:=of_decide_eq_true e2;simp[eK,this]
     have hpair:=hpt (by simp only[cY,hm,Bool.not_false,Bool.true_or])
     simp only[cf664L0,cf664E0,k1,k2,hget3,g5,lu,ly,hu0,hy0,hu',hy',mx2,mn2,wu,wy,ew3,e1,e2,go_sem,seval]
     refine⟨by kernel_rfl,?_⟩
     exact⟨rfl,g21,(by first|exact g1'|rfl),(by first|exact g5'|rfl),⟨v,acc3,g13,ho.mono (by simp only[go_sem,seval]),by rw[hpair,List.nil_append]at he;exact he⟩,fun q hq2=>by (repeat rw[if_neg (by omega)]);exact hq q hq2⟩
    have q1:=of_decide_eq_false e1
    have q2:=of_decide_eq_false e2
    cases e3:decide ((if (plc p.P y).1+(plc p.P y).2<(plc p.P u).1+(plc p.P u).2 then (plc p.P y).1+(plc p.P y).2 else (plc p.P u).1+(plc p.P u).2)<=(if (plc p.P u).1<(plc p.P y).1 then (plc p.P y).1 else (plc p.P u).1))
    case true=>
     have hm:eK (plc p.P u) (plc p.P y)=false:=by
      have:=of_decide_eq_true e3
      cases hm:eK (plc p.P u) (plc p.P y)
      ·rfl
      ·obtain⟨m1,m2,m3,m4⟩:=gN.1 hm
       split at this<;>split at this<;>omega
     have hpair:=hpt (by simp only[cY,hm,Bool.not_false,Bool.true_or])
     simp only[cf664L0,cf664E0,k1,k2,hget3,g5,lu,ly,hu0,hy0,hu',hy',mx2,mn2,wu,wy,ew3,e1,e2,e3,go_sem,seval]
     refine⟨by kernel_rfl,?_⟩
     exact⟨rfl,g21,(by first|exact g1'|rfl),(by first|exact g5'|rfl),⟨v,acc3,g13,ho.mono (by simp only[go_sem,seval]),by rw[hpair,List.nil_append]at he;exact he⟩,fun q hq2=>by (repeat rw[if_neg (by omega)]);exact hq q hq2⟩
    have hm:eK (plc p.P u) (plc p.P y)=true:=by
     have:=of_decide_eq_false e3
     refine gN.2 ?_
     split at this<;>split at this<;>omega
    cases b1:decide (0<=at_)
    case false=>
     have hpair:=hpf (by simp only[cY,hm,hY,b1,Bool.false_and,Bool.not_true,Bool.or_self])
     rw[hpair]at he
     simp only[cf664L0,cf664E0,k1,k2,hget3,g5,lu,ly,hu0,hy0,hu',hy',mx2,mn2,wu,wy,ew3,e1,e2,e3,b1,go_sem,seval]
     refine⟨by kernel_rfl,?_⟩
     simp only[cf664L0,cf664E0,k1,k2,hget3,g5,lu,ly,hu0,hy0,hu',hy',mx2,mn2,wu,wy,ew3,e1,e2,e3,b1,g13,go_sem,seval]
     generalize hH2:Hp.put (Hp.put (Hp.put (Hp.put hp3 1179673 _ _) 1179677 _ _) 1179673 _ _) 1179677 _ _=H2
     have hot:∀q,q≠1179673->q≠1179677->H2.get q=hp3.get q:=fun q h1 h2=>by rw[<-hH2,aD,if_neg (Ne.symm h2),aD,if_neg (Ne.symm h1),aD,if_neg (Ne.symm h2),aD,if_neg (Ne.symm h1)]
     refine cZ (kb:=1179648) (s:=41) (ho.mono (hot _ (by decide) (by decide))) (El.cls _) (xs:=[Cl.av ⟨at_,u,y,mxI (plc p.P u).1 (plc p.P y).1⟩]) (by intro z hz;simp at hz;subst hz;exact⟨rfl,rfl,rfl⟩) (by have:=congrArg List.length he;simp only[List.length_append,List.length_singleton,List.length_map]at this ⊢;omega) (by decide) ?_
     intro v' rd pa p1 hk1 hpa
     have hh:∀q,q≠1179689->q≠1179673->q≠1179677->(Eff.app H2 (.pat rd pa)).get q=hp3.get q:=fun q h0 h1 h2=>(hk1 q h0).trans (hot q h1 h2)
     generalize Eff.app H2 (Eff.pat rd pa)=H3 at p1 hh ⊢
     clear hk1 hot hH2
     have k13:=(hh 1179661 (by decide) (by decide) (by decide)).trans g13
     have p2:Own H3 1179689 4 true v' ((acc3++[(⟨at_,u,y,mxI (plc p.P u).1 (plc p.P y).1⟩:Cl)]).map Cl.av):=by rw[List.map_append];exact p1
     obtain⟨z1,z2,z3⟩:=p2.one
     simp only[k13,ew3,z1,z2,z3,go_sem,seval]
     exact⟨rfl,(hh 1179669 (by decide) (by decide) (by decide)).trans g21,(hh 1179649 (by decide) (by decide) (by decide)).trans g1',(hh 1179653 (by decide) (by decide) (by decide)).trans g5',⟨v',acc3++[⟨at_,u,y,mxI (plc p.P u).1 (plc p.P y).1⟩],rfl,p2.mono (by simp only[go_sem,seval]),by rw[List.append_assoc];exact he⟩,fun q hq2=>by (repeat rw[if_neg (by omega)]);exact(hh q (by omega) (by omega) (by omega)).trans (hq q hq2)⟩
    cases b2:decide (at_<(k.list.es.length:Int))
    case false=>
     have hpair:=hpf (by simp only[cY,hm,hY,b2,Bool.false_and,Bool.and_false,Bool.not_true,Bool.or_self])
     rw[hpair]at he
     simp only[cf664L0,cf664E0,k1,k2,hget3,g5,lu,ly,hu0,hy0,hu',hy',mx2,mn2,wu,wy,ew3,e1,e2,e3,b1,b2,g1,List.length_map,go_sem,seval]
     refine⟨by kernel_rfl,?_⟩
     simp only[cf664L0,cf664E0,k1,k2,hget3,g5,lu,ly,hu0,hy0,hu',hy',mx2,mn2,wu,wy,ew3,e1,e2,e3,b1,b2,g1,List.length_map,g13,go_sem,seval]
     generalize hH2:Hp.put (Hp.put (Hp.put (Hp.put hp3 1179673 _ _) 1179677 _ _) 1179673 _ _) 1179677 _ _=H2
     have hot:∀q,q≠1179673->q≠1179677->H2.get q=hp3.get q:=fun q h1 h2=>by rw[<-hH2,aD,if_neg (Ne.symm h2),aD,if_neg (Ne.symm h1),aD,if_neg (Ne.symm h2),aD,if_neg (Ne.symm h1)]
     refine cZ (kb:=1179648) (s:=41) (ho.mono (hot _ (by decide) (by decide))) (El.cls _) (xs:=[Cl.av ⟨at_,u,y,mxI (plc p.P u).1 (plc p.P y).1⟩]) (by intro z hz;simp at hz;subst hz;exact⟨rfl,rfl,rfl⟩) (by have:=congrArg List.length he;simp only[List.length_append,List.length_singleton,List.length_map]at this ⊢;omega) (by decide) ?_
     intro v' rd pa p1 hk1 hpa
     have hh:∀q,q≠1179689->q≠1179673->q≠1179677->(Eff.app H2 (.pat rd pa)).get q=hp3.get q:=fun q h0 h1 h2=>(hk1 q h0).trans (hot q h1 h2)
     generalize Eff.app H2 (Eff.pat rd pa)=H3 at p1 hh ⊢
     clear hk1 hot hH2
     have k13:=(hh 1179661 (by decide) (by decide) (by decide)).trans g13
     have p2:Own H3 1179689 4 true v' ((acc3++[(⟨at_,u,y,mxI (plc p.P u).1 (plc p.P y).1⟩:Cl)]).map Cl.av):=by rw[List.map_append];exact p1
     obtain⟨z1,z2,z3⟩:=p2.one
     simp only[k13,ew3,z1,z2,z3,go_sem,seval]
     exact⟨rfl,(hh 1179669 (by decide) (by decide) (by decide)).trans g21,(hh 1179649 (by decide) (by decide) (by decide)).trans g1',(hh 1179653 (by decide) (by decide) (by decide)).trans g5',⟨v',acc3++[⟨at_,u,y,mxI (plc p.P u).1 (plc p.P y).1⟩],rfl,p2.mono (by simp only[go_sem,seval]),by rw[List.append_assoc];exact he⟩,fun q hq2=>by (repeat rw[if_neg (by omega)]);exact(hh q (by omega) (by omega) (by omega)).trans (hq q hq2)⟩
    have hcomm:decide ((plc p.P y).1=(plc p.P u).1)=decide ((plc p.P u).1=(plc p.P y).1):=by rw[decide_eq_decide];exact eq_comm
    cases b4:decide ((plc p.P u).1=(plc p.P y).1)
    case false=>
     rw[b4]at hcomm
     have hpair:=hpf (by simp only[cY,hm,hY,b4,hcomm,Bool.false_and,Bool.and_false,Bool.not_true,Bool.or_self])
     rw[hpair]at he
     simp only[cf664L0,cf664E0,k1,k2,hget3,g5,lu,ly,hu0,hy0,hu',hy',mx2,mn2,wu,wy,ew3,e1,e2,e3,b1,b2,b4,g1,List.length_map,go_sem,seval]
     refine⟨by kernel_rfl,?_⟩
     simp only[cf664L0,cf664E0,k1,k2,hget3,g5,lu,ly,hu0,hy0,hu',hy',mx2,mn2,wu,wy,ew3,e1,e2,e3,b1,b2,b4,g1,List.length_map,g13,go_sem,seval]
     generalize hH2:Hp.put (Hp.put (Hp.put (Hp.put hp3 1179673 _ _) 1179677 _ _) 1179673 _ _) 1179677 _ _=H2
     have hot:∀q,q≠1179673->q≠1179677->H2.get q=hp3.get q:=fun q h1 h2=>by rw[<-hH2,aD,if_neg (Ne.symm h2),aD,if_neg (Ne.symm h1),aD,if_neg (Ne.symm h2),aD,if_neg (Ne.symm h1)]
     refine cZ (kb:=1179648) (s:=41) (ho.mono (hot _ (by decide) (by decide))) (El.cls _) (xs:=[Cl.av ⟨at_,u,y,mxI (plc p.P u).1 (plc p.P y).1⟩]) (by intro z hz;simp at hz;subst hz;exact⟨rfl,rfl,rfl⟩) (by have:=congrArg List.length he;simp only[List.length_append,List.length_singleton,List.length_map]at this ⊢;omega) (by decide) ?_
     intro v' rd pa p1 hk1 hpa
     have hh:∀q,q≠1179689->q≠1179673->q≠1179677->(Eff.app H2 (.pat rd pa)).get q=hp3.get q:=fun q h0 h1 h2=>(hk1 q h0).trans (hot q h1 h2)
     generalize Eff.app H2 (Eff.pat rd pa)=H3 at p1 hh ⊢
     clear hk1 hot hH2
     have k13:=(hh 1179661 (by decide) (by decide) (by decide)).trans g13
     have p2:Own H3 1179689 4 true v' ((acc3++[(⟨at_,u,y,mxI (plc p.P u).1 (plc p.P y).1⟩:Cl)]).map Cl.av):=by rw[List.map_append];exact p1
     obtain⟨z1,z2,z3⟩:=p2.one
     simp only[k13,ew3,z1,z2,z3,go_sem,seval]
     exact⟨rfl,(hh 1179669 (by decide) (by decide) (by decide)).trans g21,(hh 1179649 (by decide) (by decide) (by decide)).trans g1',(hh 1179653 (by decide) (by decide) (by decide)).trans g5',⟨v',acc3++[⟨at_,u,y,mxI (plc p.P u).1 (plc p.P y).1⟩],rfl,p2.mono (by simp only[go_sem,seval]),by rw[List.append_assoc];exact he⟩,fun q hq2=>by (repeat rw[if_neg (by omega)]);exact(hh q (by omega) (by omega) (by omega)).trans (hq q hq2)⟩
    rw[b4]at hcomm
    obtain⟨n,rfl⟩:=Int.eq_ofNat_of_zero_le (of_decide_eq_true b1)
    have hjl:n<k.list.es.length:=by have:=of_decide_eq_true b2;omega
    have l6:((n:Int)<(k.list.es.length:Int))=True:=eq_true (by omega)
    have hj0:(0<=(n:Int))=True:=eq_true (by omega)
    have hkq:k.list.es[n]?=some k.list.es[n]:=List.getElem?_eq_getElem hjl
    generalize k.list.es[n]=Q at hkq
    have hval:∀z:Nat,oN k (n:Int) z=decide (Q.value=(z:Int)):=fun z=>by simp only[oN,Int.toNat_natCast,hkq];rw[decide_eq_decide];exact eq_comm
    have hsp:cY k p.P (n:Int) u y=(decide (Q.value=(u:Int))&&lS k n y||decide (Q.value=(y:Int))&&lS k n u):=by
     simp only[cY,hm,hY,b4,hcomm,b1,b2,hval,Bool.not_true,Bool.false_or,Bool.true_and,Bool.and_true]
    have my:=h264 n y
    have mu:=h264 n u
    rw[aA.avc]at my mu
    cases b5:decide (Q.value=(u:Int))
    ·cases b6:decide (Q.value=(y:Int))
     ·have hpair:=hpf (by rw[hsp];simp only[b5,b6,Bool.and_true,Bool.true_and,Bool.false_and,Bool.and_false,Bool.or_false,Bool.false_or,Bool.or_true,Bool.true_or,Bool.or_self])
      rw[hpair]at he
      simp only[cf664L0,cf664E0,k1,k2,hget3,g5,lu,ly,hu0,hy0,hu',hy',mx2,mn2,wu,wy,ew3,e1,e2,e3,b1,b2,b4,g1,List.length_map,l6,hj0,hkq,aE.avc,b5,b6,go_sem,seval]
      refine⟨by kernel_rfl,?_⟩
      simp only[cf664L0,cf664E0,k1,k2,hget3,g5,lu,ly,hu0,hy0,hu',hy',mx2,mn2,wu,wy,ew3,e1,e2,e3,b1,b2,b4,g1,List.length_map,l6,hj0,hkq,aE.avc,b5,b6,g13,go_sem,seval]
      generalize hH2:Hp.put (Hp.put (Hp.put (Hp.put hp3 1179673 _ _) 1179677 _ _) 1179673 _ _) 1179677 _ _=H2
      have hot:∀q,q≠1179673->q≠1179677->H2.get q=hp3.get q:=fun q h1 h2=>by rw[<-hH2,aD,if_neg (Ne.symm h2),aD,if_neg (Ne.symm h1),aD,if_neg (Ne.symm h2),aD,if_neg (Ne.symm h1)]
      refine cZ (kb:=1179648) (s:=41) (ho.mono (hot _ (by decide) (by decide))) (El.cls _) (xs:=[Cl.av ⟨(n:Int),u,y,mxI (plc p.P u).1 (plc p.P y).1⟩]) (by intro z hz;simp at hz;subst hz;exact⟨rfl,rfl,rfl⟩) (by have:=congrArg List.length he;simp only[List.length_append,List.length_singleton,List.length_map]at this ⊢;omega) (by decide) ?_
      intro v' rd pa p1 hk1 hpa
      have hh:∀q,q≠1179689->q≠1179673->q≠1179677->(Eff.app H2 (.pat rd pa)).get q=hp3.get q:=fun q h0 h1 h2=>(hk1 q h0).trans (hot q h1 h2)
      generalize Eff.app H2 (Eff.pat rd pa)=H3 at p1 hh ⊢
      clear hk1 hot hH2
      have k13:=(hh 1179661 (by decide) (by decide) (by decide)).trans g13
      have p2:Own H3 1179689 4 true v' ((acc3++[(⟨(n:Int),u,y,mxI (plc p.P u).1 (plc p.P y).1⟩:Cl)]).map Cl.av):=by rw[List.map_append];exact p1
      obtain⟨z1,z2,z3⟩:=p2.one
      simp only[k13,ew3,z1,z2,z3,go_sem,seval]
      exact⟨rfl,(hh 1179669 (by decide) (by decide) (by decide)).trans g21,(hh 1179649 (by decide) (by decide) (by decide)).trans g1',(hh 1179653 (by decide) (by decide) (by decide)).trans g5',⟨v',acc3++[⟨(n:Int),u,y,mxI (plc p.P u).1 (plc p.P y).1⟩],rfl,p2.mono (by simp only[go_sem,seval]),by rw[List.append_assoc];exact he⟩,fun q hq2=>by (repeat rw[if_neg (by omega)]);exact(hh q (by omega) (by omega) (by omega)).trans (hq q hq2)⟩
     ·cases c2:lS k n u
      ·rw[c2]at mu
       have hpair:=hpf (by rw[hsp];simp only[b5,b6,c2,Bool.and_true,Bool.true_and,Bool.false_and,Bool.and_false,Bool.or_false,Bool.false_or,Bool.or_true,Bool.true_or,Bool.or_self])
       rw[hpair]at he
       simp only[cf664L0,cf664E0,k1,k2,hget3,g5,lu,ly,hu0,hy0,hu',hy',mx2,mn2,wu,wy,ew3,e1,e2,e3,b1,b2,b4,g1,List.length_map,l6,hj0,hkq,aE.avc,b5,b6,go_sem,seval]
       refine⟨by kernel_rfl,?_⟩
       refine aB mu (by simp only[go_sem,seval]) rfl ?_
       simp only[cf664L0,cf664E0,k1,k2,hget3,g5,lu,ly,hu0,hy0,hu',hy',mx2,mn2,wu,wy,ew3,e1,e2,e3,b1,b2,b4,g1,List.length_map,l6,hj0,hkq,aE.avc,b5,b6,g13,go_sem,seval]
       generalize hH2:Hp.put (Hp.put (Hp.put (Hp.put hp3 1179673 _ _) 1179677 _ _) 1179673 _ _) 1179677 _ _=H2
       have hot:∀q,q≠1179673->q≠1179677->H2.get q=hp3.get q:=fun q h1 h2=>by rw[<-hH2,aD,if_neg (Ne.symm h2),aD,if_neg (Ne.symm h1),aD,if_neg (Ne.symm h2),aD,if_neg (Ne.symm h1)]
       refine cZ (kb:=1179648) (s:=41) (ho.mono (hot _ (by decide) (by decide))) (El.cls _) (xs:=[Cl.av ⟨(n:Int),u,y,mxI (plc p.P u).1 (plc p.P y).1⟩]) (by intro z hz;simp at hz;subst hz;exact⟨rfl,rfl,rfl⟩) (by have:=congrArg List.length he;simp only[List.length_append,List.length_singleton,List.length_map]at this ⊢;omega) (by decide) ?_
       intro v' rd pa p1 hk1 hpa
       have hh:∀q,q≠1179689->q≠1179673->q≠1179677->(Eff.app H2 (.pat rd pa)).get q=hp3.get q:=fun q h0 h1 h2=>(hk1 q h0).trans (hot q h1 h2)
       generalize Eff.app H2 (Eff.pat rd pa)=H3 at p1 hh ⊢
       clear hk1 hot hH2
       have k13:=(hh 1179661 (by decide) (by decide) (by decide)).trans g13
       have p2:Own H3 1179689 4 true v' ((acc3++[(⟨(n:Int),u,y,mxI (plc p.P u).1 (plc p.P y).1⟩:Cl)]).map Cl.av):=by rw[List.map_append];exact p1
       obtain⟨z1,z2,z3⟩:=p2.one
       simp only[k13,ew3,z1,z2,z3,go_sem,seval]
       exact⟨rfl,(hh 1179669 (by decide) (by decide) (by decide)).trans g21,(hh 1179649 (by decide) (by decide) (by decide)).trans g1',(hh 1179653 (by decide) (by decide) (by decide)).trans g5',⟨v',acc3++[⟨(n:Int),u,y,mxI (plc p.P u).1 (plc p.P y).1⟩],rfl,p2.mono (by simp only[go_sem,seval]),by rw[List.append_assoc];exact he⟩,fun q hq2=>by (repeat rw[if_neg (by omega)]);exact(hh q (by omega) (by omega) (by omega)).trans (hq q hq2)⟩
      ·rw[c2]at mu
       have hpair:=hpt (by rw[hsp];simp only[b5,b6,c2,Bool.and_true,Bool.true_and,Bool.false_and,Bool.and_false,Bool.or_false,Bool.false_or,Bool.or_true,Bool.true_or,Bool.or_self])
       simp only[cf664L0,cf664E0,k1,k2,hget3,g5,lu,ly,hu0,hy0,hu',hy',mx2,mn2,wu,wy,ew3,e1,e2,e3,b1,b2,b4,g1,List.length_map,l6,hj0,hkq,aE.avc,b5,b6,go_sem,seval]
       refine⟨by kernel_rfl,?_⟩
       refine aB mu (by simp only[go_sem,seval]) rfl ?_
       simp only[cf664L0,cf664E0,k1,k2,hget3,g5,lu,ly,hu0,hy0,hu',hy',mx2,mn2,wu,wy,ew3,e1,e2,e3,b1,b2,b4,g1,List.length_map,l6,hj0,hkq,aE.avc,b5,b6,go_sem,seval]
       exact⟨rfl,g21,(by first|exact g1'|rfl),(by first|exact g5'|rfl),⟨v,acc3,g13,ho.mono (by simp only[go_sem,seval]),by rw[hpair,List.nil_append]at he;exact he⟩,fun q hq2=>by (repeat rw[if_neg (by omega)]);exact hq q hq2⟩
    ·cases c1:lS k n y
     ·rw[c1]at my
      cases b6:decide (Q.value=(y:Int))
      ·have hpair:=hpf (by rw[hsp];simp only[b5,b6,c1,Bool.and_true,Bool.true_and,Bool.false_and,Bool.and_false,Bool.or_false,Bool.false_or,Bool.or_true,Bool.true_or,Bool.or_self])
       rw[hpair]at he
       simp only[cf664L0,cf664E0,k1,k2,hget3,g5,lu,ly,hu0,hy0,hu',hy',mx2,mn2,wu,wy,ew3,e1,e2,e3,b1,b2,b4,g1,List.length_map,l6,hj0,hkq,aE.avc,b5,b6,go_sem,seval]
       refine⟨by kernel_rfl,?_⟩
       refine aB my (by simp only[go_sem,seval]) rfl ?_
       simp only[cf664L0,cf664E0,k1,k2,hget3,g5,lu,ly,hu0,hy0,hu',hy',mx2,mn2,wu,wy,ew3,e1,e2,e3,b1,b2,b4,g1,List.length_map,l6,hj0,hkq,aE.avc,b5,b6,g13,go_sem,seval]
       generalize hH2:Hp.put (Hp.put (Hp.put (Hp.put hp3 1179673 _ _) 1179677 _ _) 1179673 _ _) 1179677 _ _=H2
       have hot:∀q,q≠1179673->q≠1179677->H2.get q=hp3.get q:=fun q h1 h2=>by rw[<-hH2,aD,if_neg (Ne.symm h2),aD,if_neg (Ne.symm h1),aD,if_neg (Ne.symm h2),aD,if_neg (Ne.symm h1)]
       refine cZ (kb:=1179648) (s:=41) (ho.mono (hot _ (by decide) (by decide))) (El.cls _) (xs:=[Cl.av ⟨(n:Int),u,y,mxI (plc p.P u).1 (plc p.P y).1⟩]) (by intro z hz;simp at hz;subst hz;exact⟨rfl,rfl,rfl⟩) (by have:=congrArg List.length he;simp only[List.length_append,List.length_singleton,List.length_map]at this ⊢;omega) (by decide) ?_
       intro v' rd pa p1 hk1 hpa
       have hh:∀q,q≠1179689->q≠1179673->q≠1179677->(Eff.app H2 (.pat rd pa)).get q=hp3.get q:=fun q h0 h1 h2=>(hk1 q h0).trans (hot q h1 h2)
       generalize Eff.app H2 (Eff.pat rd pa)=H3 at p1 hh ⊢
       clear hk1 hot hH2
       have k13:=(hh 1179661 (by decide) (by decide) (by decide)).trans g13
       have p2:Own H3 1179689 4 true v' ((acc3++[(⟨(n:Int),u,y,mxI (plc p.P u).1 (plc p.P y).1⟩:Cl)]).map Cl.av):=by rw[List.map_append];exact p1
       obtain⟨z1,z2,z3⟩:=p2.one
       simp only[k13,ew3,z1,z2,z3,go_sem,seval]
       exact⟨rfl,(hh 1179669 (by decide) (by decide) (by decide)).trans g21,(hh 1179649 (by decide) (by decide) (by decide)).trans g1',(hh 1179653 (by decide) (by decide) (by decide)).trans g5',⟨v',acc3++[⟨(n:Int),u,y,mxI (plc p.P u).1 (plc p.P y).1⟩],rfl,p2.mono (by simp only[go_sem,seval]),by rw[List.append_assoc];exact he⟩,fun q hq2=>by (repeat rw[if_neg (by omega)]);exact(hh q (by omega) (by omega) (by omega)).trans (hq q hq2)⟩
      ·cases c2:lS k n u
       ·rw[c2]at mu
        have hpair:=hpf (by rw[hsp];simp only[b5,b6,c1,c2,Bool.and_true,Bool.true_and,Bool.false_and,Bool.and_false,Bool.or_false,Bool.false_or,Bool.or_true,Bool.true_or,Bool.or_self])
        rw[hpair]at he
        simp only[cf664L0,cf664E0,k1,k2,hget3,g5,lu,ly,hu0,hy0,hu',hy',mx2,mn2,wu,wy,ew3,e1,e2,e3,b1,b2,b4,g1,List.length_map,l6,hj0,hkq,aE.avc,b5,b6,go_sem,seval]
        refine⟨by kernel_rfl,?_⟩
        refine aB my (by simp only[go_sem,seval]) rfl ?_
        simp only[cf664L0,cf664E0,k1,k2,hget3,g5,lu,ly,hu0,hy0,hu',hy',mx2,mn2,wu,wy,ew3,e1,e2,e3,b1,b2,b4,g1,List.length_map,l6,hj0,hkq,aE.avc,b5,b6,g13,go_sem,seval]
        refine aB mu (by simp only[go_sem,seval]) rfl ?_
        simp only[cf664L0,cf664E0,k1,k2,hget3,g5,lu,ly,hu0,hy0,hu',hy',mx2,mn2,wu,wy,ew3,e1,e2,e3,b1,b2,b4,g1,List.length_map,l6,hj0,hkq,aE.avc,b5,b6,g13,go_sem,seval]
        generalize hH2:Hp.put (Hp.put (Hp.put (Hp.put hp3 1179673 _ _) 1179677 _ _) 1179673 _ _) 1179677 _ _=H2
        have hot:∀q,q≠1179673->q≠1179677->H2.get q=hp3.get q:=fun q h1 h2=>by rw[<-hH2,aD,if_neg (Ne.symm h2),aD,if_neg (Ne.symm h1),aD,if_neg (Ne.symm h2),aD,if_neg (Ne.symm h1)]
        refine cZ (kb:=1179648) (s:=41) (ho.mono (hot _ (by decide) (by decide))) (El.cls _) (xs:=[Cl.av ⟨(n:Int),u,y,mxI (plc p.P u).1 (plc p.P y).1⟩]) (by intro z hz;simp at hz;subst hz;exact⟨rfl,rfl,rfl⟩) (by have:=congrArg List.length he;simp only[List.length_append,List.length_singleton,List.length_map]at this ⊢;omega) (by decide) ?_
        intro v' rd pa p1 hk1 hpa
        have hh:∀q,q≠1179689->q≠1179673->q≠1179677->(Eff.app H2 (.pat rd pa)).get q=hp3.get q:=fun q h0 h1 h2=>(hk1 q h0).trans (hot q h1 h2)
        generalize Eff.app H2 (Eff.pat rd pa)=H3 at p1 hh ⊢
        clear hk1 hot hH2
        have k13:=(hh 1179661 (by decide) (by decide) (by decide)).trans g13
        have p2:Own H3 1179689 4 true v' ((acc3++[(⟨(n:Int),u,y,mxI (plc p.P u).1 (plc p.P y).1⟩:Cl)]).map Cl.av):=by rw[List.map_append];exact p1
        obtain⟨z1,z2,z3⟩:=p2.one
        simp only[k13,ew3,z1,z2,z3,go_sem,seval]
        exact⟨rfl,(hh 1179669 (by decide) (by decide) (by decide)).trans g21,(hh 1179649 (by decide) (by decide) (by decide)).trans g1',(hh 1179653 (by decide) (by decide) (by decide)).trans g5',⟨v',acc3++[⟨(n:Int),u,y,mxI (plc p.P u).1 (plc p.P y).1⟩],rfl,p2.mono (by simp only[go_sem,seval]),by rw[List.append_assoc];exact he⟩,fun q hq2=>by (repeat rw[if_neg (by omega)]);exact(hh q (by omega) (by omega) (by omega)).trans (hq q hq2)⟩
       ·rw[c2]at mu
        have hpair:=hpt (by rw[hsp];simp only[b5,b6,c1,c2,Bool.and_true,Bool.true_and,Bool.false_and,Bool.and_false,Bool.or_false,Bool.false_or,Bool.or_true,Bool.true_or,Bool.or_self])
        simp only[cf664L0,cf664E0,k1,k2,hget3,g5,lu,ly,hu0,hy0,hu',hy',mx2,mn2,wu,wy,ew3,e1,e2,e3,b1,b2,b4,g1,List.length_map,l6,hj0,hkq,aE.avc,b5,b6,go_sem,seval]
        refine⟨by kernel_rfl,?_⟩
        refine aB my (by simp only[go_sem,seval]) rfl ?_
        simp only[cf664L0,cf664E0,k1,k2,hget3,g5,lu,ly,hu0,hy0,hu',hy',mx2,mn2,wu,wy,ew3,e1,e2,e3,b1,b2,b4,g1,List.length_map,l6,hj0,hkq,aE.avc,b5,b6,go_sem,seval]
        refine aB mu (by simp only[go_sem,seval]) rfl ?_
        simp only[cf664L0,cf664E0,k1,k2,hget3,g5,lu,ly,hu0,hy0,hu',hy',mx2,mn2,wu,wy,ew3,e1,e2,e3,b1,b2,b4,g1,List.length_map,l6,hj0,hkq,aE.avc,b5,b6,go_sem,seval]
        exact⟨rfl,g21,(by first|exact g1'|rfl),(by first|exact g5'|rfl),⟨v,acc3,g13,ho.mono (by simp only[go_sem,seval]),by rw[hpair,List.nil_append]at he;exact he⟩,fun q hq2=>by (repeat rw[if_neg (by omega)]);exact hq q hq2⟩
     ·rw[c1]at my
      have hpair:=hpt (by rw[hsp];simp only[b5,c1,Bool.and_true,Bool.true_and,Bool.false_and,Bool.and_false,Bool.or_false,Bool.false_or,Bool.or_true,Bool.true_or,Bool.or_self])
      simp only[cf664L0,cf664E0,k1,k2,hget3,g5,lu,ly,hu0,hy0,hu',hy',mx2,mn2,wu,wy,ew3,e1,e2,e3,b1,b2,b4,g1,List.length_map,l6,hj0,hkq,aE.avc,b5,go_sem,seval]
      refine⟨by kernel_rfl,?_⟩
      refine aB my (by simp only[go_sem,seval]) rfl ?_
      simp only[cf664L0,cf664E0,k1,k2,hget3,g5,lu,ly,hu0,hy0,hu',hy',mx2,mn2,wu,wy,ew3,e1,e2,e3,b1,b2,b4,g1,List.length_map,l6,hj0,hkq,aE.avc,b5,go_sem,seval]
      exact⟨rfl,g21,(by first|exact g1'|rfl),(by first|exact g5'|rfl),⟨v,acc3,g13,ho.mono (by simp only[go_sem,seval]),by rw[hpair,List.nil_append]at he;exact he⟩,fun q hq2=>by (repeat rw[if_neg (by omega)]);exact hq q hq2⟩
 ·rintro hp ⟨g1,g5,⟨v,g13,ho⟩,hq⟩
  simp only[g13,go_sem,seval]
  exact⟨⟨v,rfl,ho⟩,hq⟩
end
end Go.Tev
end
section
namespace Go.Tev
def mvP(m:Int)(x:Sp):Sp:=if 0<=x.1 then (x.1+m,x.2) else x
def mvC(m:Int)(c:Cl):Cl:=⟨c.t,c.a,c.b,c.w+m⟩
theorem xZ(m:Int)(P:List Sp)(v:Nat):plc (P.map (mvP m)) v=mvP m (plc P v):=by
 simp only[plc,List.getD_eq_getElem?_getD,List.getElem?_map]
 cases P[v]?<;>rfl
theorem DM{sz:List Int}{sp:List Sp}{pk m:Int}(hm:0<=m):∀(P:List Sp)(v:Nat),qB sz sp pk v P=true->qB sz sp (pk+m) v (P.map (mvP m))=true
 |[],_,_=>rfl
 |x::r,v,h=>by
  rw[qB,Bool.and_eq_true]at h
  rw[List.map_cons,qB,Bool.and_eq_true]
  refine⟨?_,DM hm r (v+1) h.2⟩
  have h1:=h.1
  simp only[okP,Bool.and_eq_true,decide_eq_true_eq]at h1 ⊢
  obtain⟨q1,q2⟩:=h1
  by_cases hs:(plc sp v).1 = -2
  ·rw[if_pos hs]at q2 ⊢
   simp only[decide_eq_true_eq]at q2
   have:mvP m x=x:=by rw[mvP,if_neg (by omega)]
   rw[this]
   exact⟨q1,by simpa using q2⟩
  ·rw[if_neg hs]at q2 ⊢
   simp only[Bool.and_eq_true,decide_eq_true_eq]at q2 ⊢
   have:mvP m x=(x.1+m,x.2):=by rw[mvP,if_pos q2.1]
   rw[this]
   exact⟨q1,by simp only;omega,by simp only;omega⟩
theorem HW{k:aA}{ds:List Val}{p q:cN}{m:Int}(hm:0<=m)(h:fJ k ds p=true)(hP:q.P=p.P.map (mvP m))(hC:q.C=p.C)(hk:q.pk=p.pk+m):fJ k ds q = !decide (1000000<q.pk):=by
 simp only[fJ,Bool.and_eq_true,decide_eq_true_eq,Bool.not_eq_true',decide_eq_false_iff_not]at h
 obtain⟨⟨⟨⟨b1,b2⟩,b3⟩,b4⟩,b5⟩:=h
 have h5:=DM hm p.P 0 b5
 have e3:decide (p.pk+m<0)=false:=decide_eq_false (by omega)
 simp only[fJ,hP,hC,hk,List.length_map,b1,b2,h5,e3,decide_true,Bool.true_and,Bool.and_true,Bool.not_false]
theorem KT{m:Int}{x y:Sp}(hx:0<=x.1)(hy:0<=y.1):eK (mvP m x) (mvP m y)=eK x y:=by
 rw[mvP,mvP,if_pos hx,if_pos hy,Bool.eq_iff_iff,gN,gN]
 simp only
 constructor<;>(intro h;omega)
theorem yW{k:aA}{P:List Sp}{at_ m:Int}{a b:Nat}(hx:0<=(plc P a).1)(hy:0<=(plc P b).1):hY k (P.map (mvP m)) at_ a b=hY k P at_ a b:=by
 have:decide ((mvP m (plc P a)).1=(mvP m (plc P b)).1)=decide ((plc P a).1=(plc P b).1):=by
  rw[mvP,mvP,if_pos hx,if_pos hy]
  simp only[decide_eq_decide]
  omega
 simp only[hY,xZ,this]
theorem JL{k:aA}{P:List Sp}{at_ m:Int}{a b:Nat}(hx:0<=(plc P a).1)(hy:0<=(plc P b).1):cY k (P.map (mvP m)) at_ a b=cY k P at_ a b:=by
 simp only[cY,xZ,KT hx hy,yW hx hy,yW hy hx]
theorem D1{k:aA}{P:List Sp}{at_ m:Int}:∀l:List Int,(∀w∈l,0<=(plc P w.toNat).1)->iW k (P.map (mvP m)) at_ l=(iW k P at_ l).map (mvC m)
 |[],_=>rfl
 |a::r,h=>by
  have ha:=h a (by simp)
  have hp:∀b∈r,fI k (P.map (mvP m)) at_ a b=(fI k P at_ a b).map (mvC m):=fun b hb=>by
   have hb':=h b (by simp[hb])
   rw[fI,fI,JL ha hb',xZ,xZ]
   split
   ·rfl
   ·simp only[List.map_cons,List.map_nil,mvC,mvP,if_pos ha,if_pos hb',mxI]
    congr 2
    split<;>split<;>omega
  have hf:∀l:List Int,(∀b∈l,b∈r)->l.flatMap (fI k (P.map (mvP m)) at_ a)=(l.flatMap (fI k P at_ a)).map (mvC m):=by
   intro l
   induction l with
   |nil=>intro _;rfl
   |cons b l ih=>
    intro hl
    rw[List.flatMap_cons,List.flatMap_cons,List.map_append,hp b (hl b (by simp)),ih (fun c hc=>hl c (by simp[hc]))]
  rw[iW,iW,List.map_append,hf r (fun b hb=>hb),D1 r (fun w hw=>h w (by simp[hw]))]
theorem D0{k:aA}{P:List Sp}{m:Int}(h:∀(at_ w:Int),w∈cQ at_ (aF k)->0<=(plc P w.toNat).1):∀R:List Nat,lU k (P.map (mvP m)) R=(lU k P R).map (mvC m)
 |[]=>rfl
 |j::R=>by
  have ih:=D0 (m:=m) h R
  simp only[lU,List.flatMap_cons,List.map_append]at ih ⊢
  rw[D1 _ (h _),ih]
theorem KI{k:aA}{P:List Sp}{at_ a b B:Int}(ha:0<=(plc P a.toNat).1/\(plc P a.toNat).1<=B)(hb:0<=(plc P b.toNat).1/\(plc P b.toNat).1<=B):∀c∈fI k P at_ a b,0<=c.w/\c.w<=B:=by
 intro c hc
 rw[fI]at hc
 split at hc
 ·simp at hc
 ·simp only[List.mem_singleton]at hc
  subst hc
  simp only[mxI]
  split<;>omega
theorem I4{k:aA}{P:List Sp}{at_ B:Int}:∀l:List Int,(∀w∈l,0<=(plc P w.toNat).1/\(plc P w.toNat).1<=B)->∀c∈iW k P at_ l,0<=c.w/\c.w<=B
 |[],_,c,hc=>by simp[iW]at hc
 |a::r,h,c,hc=>by
  rw[iW,List.mem_append,List.mem_flatMap]at hc
  rcases hc with ⟨b,hb,hc⟩|hc
  ·exact KI (h a (by simp)) (h b (by simp[hb])) c hc
  ·exact I4 r (fun w hw=>h w (by simp[hw])) c hc
theorem N9{k:aA}{P:List Sp}{B:Int}(h:∀(at_ w:Int),w∈cQ at_ (aF k)->0<=(plc P w.toNat).1/\(plc P w.toNat).1<=B)(R:List Nat):∀c∈lU k P R,0<=c.w/\c.w<=B:=by
 intro c hc
 rw[lU,List.mem_flatMap]at hc
 obtain⟨j,_,hc⟩:=hc
 exact I4 _ (h _) c hc
theorem FE{k:aA}{ds:List Val}{p:cN}(hx:eA k ds=0)(h:fJ k ds p=true)(at_ w:Int)(hw:w∈cQ at_ (aF k)):0<=(plc p.P w.toNat).1/\(plc p.P w.toNat).1<=p.pk:=by
 simp only[fJ,Bool.and_eq_true,decide_eq_true_eq,Bool.not_eq_true',decide_eq_false_iff_not]at h
 obtain⟨⟨⟨⟨b1,b2⟩,b3⟩,b4⟩,b5⟩:=h
 obtain⟨_,hsl,_⟩:=sP (ds:=ds) (eN (iO hx).1)
 obtain⟨u,u1,u2,u3⟩:=mZ.1 hw
 have hl:=(List.getElem?_eq_some_iff.1 u2).1
 simp only[iI,Bool.and_eq_true,Bool.not_eq_true',decide_eq_false_iff_not]at u3
 have:=pA (sz:=iR k ds) (sp:=aF k) (pk:=p.pk) p.P 0 w.toNat b5 (by omega)
 rw[Nat.zero_add]at this
 have hs:¬(plc (aF k) w.toNat).1 = -2:=by rw[oZ u2];exact u3.1.1
 simp only[okP,if_neg hs,Bool.and_eq_true,decide_eq_true_eq]at this
 have:=sZ hx w.toNat
 omega
end Go.Tev
end
