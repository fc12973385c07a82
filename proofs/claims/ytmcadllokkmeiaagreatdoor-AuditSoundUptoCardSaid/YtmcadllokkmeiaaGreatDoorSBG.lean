import Derived.Test.YtmcadllokkmeiaaGreatDoorSBF
import Derived.Test.YtmcadllokkmeiaaGreatDoorSAH
import Derived.Test.YtmcadllokkmeiaaGreatDoorSAM
import Derived.Test.YtmcadllokkmeiaaGreatDoorSAR
import Derived.Test.YtmcadllokkmeiaaGreatDoorSAT
set_option linter.all false
section
namespace Go.Tev
theorem CL(k:aA)(v:Nat) : -2<=(plc (aF k) v).1:=by
 by_cases h:v<(aF k).length
 ·rcases IZ (OI (KH h)) with h|⟨h,_⟩|⟨j,_,_,_,h⟩<;>omega
 ·rw[plc,List.getD_eq_getElem?_getD,List.getElem?_eq_none (by omega)]
  decide
section
variable{pg:Pg}
set_option maxRecDepth 100000 in
set_option maxHeartbeats 8000000 in
theorem c619(hf:pg.fs 619=some cf619)(h630:pg.fs 630=some cf630)(h638:pg.fs 638=some cf638)(k:aA)(nl cl:Bool)(ds:List Val)(p:eN)(h17:bL pg 17 [k.av,.sl nl (ds.map Val.av) cl] (gY k ds))(h10:bL pg 10 [k.av] (fY k))
  (h265:∀at_ v:Int,Ret pg 265 [k.av,.int .i64 at_,.int .i64 v] (.bool (mH k at_ v))) (h12:∀at_:Int,bL pg 12 [k.av,.int .i64 at_] (kD k at_)) :
  Ret pg 619 [k.av,p.av,.sl nl (ds.map Val.av) cl] (.bool (wA k ds p)):=by
 obtain⟨r9,a9,s9⟩:=h10
 obtain⟨r17,a17,s17⟩:=h17
 have tlP:=oK p.P
 rw[aA.avc]at a17 a9
 rw[aA.avc,eN.avc]
 by_cases hx:dY k ds=0
 case neg=>
  have b0:decide (dY k ds=0)=false:=by simp[hx]
  rw[gY,if_neg hx]at s17
  subst s17
  refine Ret.ofX hf ?_
  unfold cf619
  simp only[go_sem,seval]
  refine aB a17 (by simp only[go_sem,seval]) rfl ?_
  simp only[b0,go_sem,seval]
  simp only[wA,b0,Bool.false_and]
 have b0:decide (dY k ds=0)=true:=by simp[hx]
 rw[gY,if_pos hx]at s17
 obtain⟨n4,c4,rfl⟩:=s17
 refine Ret.ofX hf ?_
 unfold cf619
 simp only[go_sem,seval]
 refine aB a17 (by simp only[go_sem,seval]) rfl ?_
 cases b1:decide ((p.P.length:Int)=(k.values.es.length:Int))
 ·simp only[b1,List.length_map,go_sem,seval]
  simp only[wA,b1,Bool.and_false,Bool.false_and]
 cases b2:decide ((p.C.length:Int)=(k.list.es.length:Int))
 ·simp only[b1,b2,List.length_map,go_sem,seval]
  simp only[wA,b2,Bool.and_false,Bool.false_and]
 cases b3:decide (p.pk<0)
 case true=>
  simp only[b1,b2,b3,List.length_map,go_sem,seval]
  simp only[wA,b3,Bool.not_true,Bool.and_false,Bool.false_and]
 cases b4:decide (1000000<p.pk)
 case true=>
  simp only[b1,b2,b3,b4,List.length_map,go_sem,seval]
  simp only[wA,b4,Bool.not_true,Bool.and_false,Bool.false_and]
 have hs:wA k ds p=(rW (fW k ds) (aF k) p.pk 0 p.P&&mJ k p.P 0 (List.range (k.list.es.length+2))):=by
  simp only[wA,b0,b1,b2,b3,b4,Bool.not_false,Bool.true_and]
 rw[hs]
 clear hs
 have ok:=fL (nJ hx).1
 have hsz:=ET hx
 have hPV:p.P.length=k.values.es.length:=by have:=of_decide_eq_true b1;omega
 have hp0:0<=p.pk:=by have:=of_decide_eq_false b3;omega
 have hp1:p.pk<=1000000:=by have:=of_decide_eq_false b4;omega
 have hc:=(nJ hx).1
 unfold fY at s9
 rw[if_pos hc]at s9
 obtain⟨n9,c9,rfl⟩:=s9
 obtain⟨_,hsl,hzl⟩:=EO (ds:=ds) ok
 have hfold:eP (eM ds) (aF k) k.values.es=fW k ds:=rfl
 rw[hfold]at a17 hzl
 have hPb:=p.bP
 have hzP:((fW k ds).length:Int)=(p.P.length:Int):=by omega
 rw[hfold]
 simp only[b1,b2,b3,b4,List.length_map,go_sem,seval]
 refine aB a9 (by simp only[go_sem,seval]) rfl ?_
 simp only[go_sem,seval]
 refine aG p.P (fun d r env hp=>env=cf619E0 (.pt 1 0 0) (.pt 5 0 0) (.sl n4 ((fW k ds).map aH) c4) (.sl n9 ((aF k).map bS) c9) (.int .i64 d.length)/\hp.get 1=some (0,.blk k.cells 6 true true false)/\hp.get 5=some (0,.blk p.cells 3 true true false) /\
  rW (fW k ds) (aF k) p.pk 0 p.P=rW (fW k ds) (aF k) p.pk d.length r) ?_ ?_ ?_
 ·exact⟨rfl,rfl,rfl,rfl⟩
 ·rintro env hp ⟨rfl,g1,g5,hI⟩
  have b5:rW (fW k ds) (aF k) p.pk 0 p.P=true:=by rw[hI];rfl
  have hwr:∀w:Nat,(plc (aF k) w).1 ≠ -2/\w<p.P.length->wr .i64 ((plc p.P w).1+(plc p.P w).2)=(plc p.P w).1+(plc p.P w).2:=fun w hw=>by
   have:=BO (sz:=fW k ds) (sp:=aF k) (pk:=p.pk) p.P 0 w b5 hw.2
   rw[Nat.zero_add]at this
   simp only[okP,if_neg hw.1,Bool.and_eq_true,decide_eq_true_eq]at this
   have h2:=hsz w
   exact aR (by omega) (by omega)
  have hIb:k.list.es.length<=big:=k.list.ok
  rw[b5,Bool.true_and]
  clear hI
  obtain⟨R,hR⟩:∃R,R=List.range (k.list.es.length+2):=⟨_,rfl⟩
  have hRl:R.length=k.list.es.length+2:=by rw[hR,List.length_range]
  rw[<-hR]
  simp only[cf619L0,cf619E0,List.length_map,hzP,aX,go_sem,seval]
  refine aG R (fun d r env hp=>env=cf619E3 (.pt 1 0 0) (.pt 5 0 0) (.int .i64 ((d.length:Int)-1))/\hp.get 1=some (0,.blk k.cells 6 true true false)/\hp.get 5=some (0,.blk p.cells 3 true true false) /\
   mJ k p.P 0 R=mJ k p.P d.length r) ?_ ?_ ?_
  ·exact⟨rfl,g1,g5,rfl⟩
  ·rintro env hp ⟨rfl,g1,g5,hI⟩
   simp only[aA.cells,Sl.av]at g1
   have e1:decide ((R.length:Int)-1<=(k.list.es.length:Int))=false:=decide_eq_false (by omega)
   simp only[cf619L3,cf619E3,e1,g1,List.length_map,go_sem,seval]
   rw[hI]
   rfl
  ·rintro d x r env hp hes ⟨rfl,g1,g5,hI⟩
   rw[hR]at hes
   obtain⟨rfl,hlt⟩:=jX hes
   have hl:(d++[d.length]).length=d.length+1:=by simp
   have e1:decide ((d.length:Int)-1<=(k.list.es.length:Int))=true:=by simp;omega
   have hw:wr .i64 ((d.length:Int)-1+1)=((d++[d.length]).length:Int)-1:=by rw[aR (by omega) (by simp only[big]at hIb;omega)];rw[hl];omega
   obtain⟨r11,a11,s11⟩:=h12 ((d.length:Int)-1)
   rw[aA.avc]at a11
   unfold kD at s11
   rw[if_pos hc,if_neg (by omega)]at s11
   obtain⟨n3,c3,rfl⟩:=s11
   have hlv:∀w∈eJ ((d.length:Int)-1) (aF k),0<=w/\w.toNat<p.P.length:=fun w hw=>by
    obtain⟨u,u1,u2,_⟩:=qR.1 hw
    have:=(List.getElem?_eq_some_iff.1 u2).1
    exact⟨u1,by omega⟩
   have hlv2:∀w:Nat,(w:Int)∈eJ ((d.length:Int)-1) (aF k)->(plc (aF k) w).1 ≠ -2/\w<p.P.length:=fun w hw=>by
    obtain⟨u,u1,u2,u3⟩:=qR.1 hw
    rw[Int.toNat_natCast]at u2
    have:=(List.getElem?_eq_some_iff.1 u2).1
    refine⟨?_,by omega⟩
    rw[C4 u2]
    simp only[iH,Bool.and_eq_true,Bool.not_eq_true',decide_eq_false_iff_not]at u3
    exact u3.1.1
   have hlvl:=(qA ((d.length:Int)-1) _ (aF k) rfl).2
   rw[mJ]at hI
   rw[hI]
   clear hI hes
   generalize eJ ((d.length:Int)-1) (aF k)=lv at *
   generalize hat:(d.length:Int)-1=at_ at *
   have g1':=g1
   simp only[aA.cells,Sl.av]at g1
   simp only[cf619L3,cf619E3,e1,g1,List.length_map,go_sem,seval]
   refine aB a11 (by simp only[go_sem,seval]) rfl ?_
   simp only[go_sem,seval]
   have hlb:lv.length<=big:=by have:=k.values.ok;omega
   refine aG lv (fun d2 r2 env hp'=>env=cf619E2 (.pt 1 0 0) (.pt 5 0 0) (.int .i64 at_) (.sl n3 (lv.map aH) c3) (.int .i64 d2.length)/\hp'.get 1=some (0,.blk k.cells 6 true true false)/\hp'.get 5=some (0,.blk p.cells 3 true true false) /\
    pW k p.P at_ [] lv=pW k p.P at_ d2 r2) ?_ ?_ ?_
   ·exact⟨rfl,g1',g5,rfl⟩
   ·rintro env hp' ⟨rfl,g1,g5,hI⟩
    simp only[cf619L2,cf619E2,aX,hw,List.length_map,go_sem,seval]
    exact⟨by kernel_rfl,g1,g5,by rw[hI,hl];rfl⟩
   ·rintro d2 v r2 env hp' hes ⟨rfl,g1,g5,hI⟩
    obtain⟨hget,f1,f2,ew⟩:=cJ hes hlb
    rw[pW]at hI
    obtain⟨hv0,hvP⟩:=hlv v (by rw[hes];simp)
    obtain⟨u,rfl⟩:=Int.eq_ofNat_of_zero_le hv0
    rw[Int.toNat_natCast]at hvP hI
    have hl2:d2.length<=big:=by have:=congrArg List.length hes;simp at this;omega
    have lt2:((d2.length:Int)<(lv.length:Int))=True:=eq_true (by have:=congrArg List.length hes;simp at this;omega)
    simp only[cf619L2,cf619E2,f1,f2,hget,List.length_map,go_sem,seval]
    refine aG d2 (fun d3 r3 env hp3=>env=cf619E1 (.pt 1 0 0) (.pt 5 0 0) (.int .i64 at_) (.sl n3 (lv.map aH) c3) (.int .i64 d2.length) (.int .i64 d3.length) /\
     hp3.get 1=some (0,.blk k.cells 6 true true false)/\hp3.get 5=some (0,.blk p.cells 3 true true false) /\
     d2.all (fun w=>dC k p.P at_ u w.toNat)=r3.all (fun w=>dC k p.P at_ u w.toNat)) ?_ ?_ ?_
    ·exact⟨rfl,g1,g5,rfl⟩
    ·rintro env hp3 ⟨rfl,g1,g5,hI3⟩
     have hall:d2.all (fun w=>dC k p.P at_ u w.toNat)=true:=by rw[hI3];rfl
     rw[hall,Bool.true_and]at hI
     simp only[cf619L1,cf619E1,aX,ew,go_sem,seval]
     exact⟨by kernel_rfl,g1,g5,hI⟩
    ·rintro d3 w r3 env hp3 hes3 ⟨rfl,g1,g5,hI3⟩
     obtain⟨hget3,k1,k2,ew3⟩:=cJ hes3 hl2
     have hwm:w∈lv:=by rw[hes,hes3];simp
     obtain⟨hw0,hwP⟩:=hlv w hwm
     obtain⟨y,rfl⟩:=Int.eq_ofNat_of_zero_le hw0
     rw[Int.toNat_natCast]at hwP
     rw[List.all_cons,Int.toNat_natCast]at hI3
     have hgl:(lv.map aH)[d3.length]?=some (aH (y:Int)):=by rw[List.getElem?_map,hes,hes3];simp
     have lt3:((d3.length:Int)<(lv.length:Int))=True:=eq_true (by have:=congrArg List.length hes;have h3:=congrArg List.length hes3;simp at this h3;omega)
     have wu:wr .i64 ((plc p.P u).1+(plc p.P u).2)=(plc p.P u).1+(plc p.P u).2:=hwr u (hlv2 u (by rw[hes];simp))
     have wy:wr .i64 ((plc p.P y).1+(plc p.P y).2)=(plc p.P y).1+(plc p.P y).2:=hwr y (hlv2 y hwm)
     have a30:=c630 h630 h638 k p h265 at_ u y hvP hwP wy wu
     rw[aA.avc,eN.avc]at a30
     have g1':=g1
     have g5':=g5
     simp only[aA.cells,Sl.av]at g1
     simp only[eN.cells]at g5
     simp only[cf619L1,cf619E1,k1,k2,f1,f2,hget,hgl,lt2,lt3,g1,g5,go_sem,seval]
     refine aB a30 (by simp only[tlP,go_sem,seval]) rfl ?_
     cases hap:dC k p.P at_ u y
     ·rw[hap,Bool.false_and]at hI3
      rw[hI3,Bool.false_and]at hI
      simp only[go_sem,seval]
      refine⟨by kernel_rfl,?_⟩
      rw[hI,Bool.false_and]
     ·rw[hap,Bool.true_and]at hI3
      simp only[go_sem,seval]
      refine⟨by kernel_rfl,?_⟩
      simp only[ew3,go_sem,seval]
      exact⟨by kernel_rfl,g1',g5',hI3⟩
 ·rintro d x r env hp hes ⟨rfl,g1,g5,hI⟩
  obtain⟨hget,f1,f2,ew⟩:=cJ hes hPb
  have hlt:d.length<p.P.length:=(List.getElem?_eq_some_iff.1 hget).1
  have l1:((d.length:Int)<((fW k ds).length:Int))=True:=eq_true (by omega)
  have l2:((d.length:Int)<((aF k).length:Int))=True:=eq_true (by omega)
  have hz':((fW k ds).map aH)[d.length]?=some (aH (hX (fW k ds) d.length)):=by
   rw[List.getElem?_map,hX,List.getD_eq_getElem?_getD,List.getElem?_eq_getElem (by omega)];rfl
  have hs':=tZ (P:=aF k) (v:=d.length) (by omega)
  have hge:=CL k d.length
  have hzd:=hsz d.length
  have hl:(d++[x]).length=d.length+1:=by simp
  rw[rW]at hI
  have hloop:decide ((d.length:Int)<((fW k ds).length:Int))=true:=decide_eq_true (by omega)
  have g1':=g1
  have g5':=g5
  simp only[eN.cells]at g5
  rw[hI]
  clear hI hes
  cases e1:decide (x.2=hX (fW k ds) d.length)
  ·have hok:okP (fW k ds) (aF k) p.pk d.length x=false:=by simp only[okP,e1,Bool.false_and]
   simp only[cf619L0,cf619E0,hloop,f1,f2,hget,l1,hz',bS,e1,g5,List.length_map,go_sem,seval]
   refine⟨by kernel_rfl,?_⟩
   rw[hok,Bool.false_and,Bool.false_and]
  have x1:=of_decide_eq_true e1
  have w1:wr .i64 (p.pk-x.2)=p.pk-x.2:=aR (by omega) (by omega)
  cases e2:decide ((plc (aF k) d.length).1 < -1)
  ·have n2:¬(plc (aF k) d.length).1 = -2:=by have:=of_decide_eq_false e2;omega
   have e2':decide (-1<=(plc (aF k) d.length).1)=true:=by have:=of_decide_eq_false e2;simp;omega
   cases e3:decide (x.1<0)
   ·have q3:decide (0<=x.1)=true:=by have:=of_decide_eq_false e3;simp;omega
    cases e4:decide (p.pk-x.2<x.1)
    ·have q4:decide (x.1<=p.pk-x.2)=true:=by have:=of_decide_eq_false e4;simp;omega
     have hok:okP (fW k ds) (aF k) p.pk d.length x=true:=by simp only[okP,e1,if_neg n2,q3,q4,Bool.and_self]
     simp only[cf619L0,cf619E0,hloop,f1,f2,hget,l1,l2,hz',hs',bS,e1,e2,e2',e3,e4,w1,g5,List.length_map,go_sem,seval]
     refine⟨by kernel_rfl,?_⟩
     simp only[ew,go_sem,seval]
     exact⟨by kernel_rfl,g1',rfl,by rw[hok,hl];rfl⟩
    ·have q4:decide (x.1<=p.pk-x.2)=false:=by have:=of_decide_eq_true e4;simp;omega
     have hok:okP (fW k ds) (aF k) p.pk d.length x=false:=by simp only[okP,e1,if_neg n2,q3,q4,Bool.and_false,Bool.true_and]
     simp only[cf619L0,cf619E0,hloop,f1,f2,hget,l1,l2,hz',hs',bS,e1,e2,e2',e3,e4,w1,g5,List.length_map,go_sem,seval]
     refine⟨by kernel_rfl,?_⟩
     rw[hok,Bool.false_and,Bool.false_and]
   ·have q3:decide (0<=x.1)=false:=by have:=of_decide_eq_true e3;simp;omega
    have hok:okP (fW k ds) (aF k) p.pk d.length x=false:=by simp only[okP,e1,if_neg n2,q3,Bool.false_and,Bool.and_false]
    simp only[cf619L0,cf619E0,hloop,f1,f2,hget,l1,l2,hz',hs',bS,e1,e2,e2',e3,w1,g5,List.length_map,go_sem,seval]
    refine⟨by kernel_rfl,?_⟩
    rw[hok,Bool.false_and,Bool.false_and]
  ·have n2:(plc (aF k) d.length).1 = -2:=by have:=of_decide_eq_true e2;omega
   have e2':decide (-1<=(plc (aF k) d.length).1)=false:=by rw[n2];decide
   cases e3:decide (x.1 = -1)
   ·have hok:okP (fW k ds) (aF k) p.pk d.length x=false:=by simp only[okP,e1,if_pos n2,e3,Bool.and_false]
    simp only[cf619L0,cf619E0,hloop,f1,f2,hget,l1,l2,hz',hs',bS,e1,e2,e2',e3,w1,g5,List.length_map,go_sem,seval]
    refine⟨by kernel_rfl,?_⟩
    rw[hok,Bool.false_and,Bool.false_and]
   ·have hok:okP (fW k ds) (aF k) p.pk d.length x=true:=by simp only[okP,e1,if_pos n2,e3,Bool.and_self]
    simp only[cf619L0,cf619E0,hloop,f1,f2,hget,l1,l2,hz',hs',bS,e1,e2,e2',e3,w1,g5,List.length_map,go_sem,seval]
    refine⟨by kernel_rfl,?_⟩
    simp only[ew,go_sem,seval]
    exact⟨by kernel_rfl,g1',rfl,by rw[hok,hl];rfl⟩
end
end Go.Tev
end
section
namespace Go.Tev
section
variable{pg:Pg}{kb:Nat}
def RY(pg:Pg)(k e:Nat)(args:List AV)(h:Hp)(Q:AV->Hp->Prop):Prop:=∃n v h',(bE pg n).yl k e args h=some (v,h')/\Q v h'
theorem V1{s:Nat}{th im:Bool}{h:Hp}{k e:Nat}{args:List AV}{Q:AV->Eff->Prop}{t:Tok Q}(hr:RY pg k e args h (fun v h'=>Q v (.whole h'))) :
  XO pg kb (.callv th im) s h (.yl k e::args) Q t:=by
 obtain⟨n,v,h',h1,h2⟩:=hr
 exact⟨n,v,.whole h',by simp only[opR,h1],h2⟩
theorem RY.of{k e b:Nat}{env:List AV}{ps:List Nat}{ca cb:C}{args:List AV}{h:Hp}{Q:AV->Hp->Prop}(hg:h.get k=some (e,.lp 0 b env ps ca cb))(hl:ps.length=args.length)
  (hw:XX pg b ca ⟨pO env ps args,h⟩ (fun ex st1=>ex = .nor/\st1.hp.get k=some (e,.lp 0 b env ps ca cb)/\XX pg b cb ⟨st1.env,st1.hp.put k e (.lp 1 b env ps ca cb)⟩ (fun x st2=>st2.hp.get k=some (e,.lp 1 b env ps ca cb)/\Q (.bool (x == .nor)) (st2.hp.put k e (.lp x.code b env ps ca cb))) ⟨⟩) ⟨⟩):RY pg k e args h Q:=by
 obtain⟨n,ex,st1,h1,rfl,h2,m,x,st2,h3,h4,h5⟩:=hw
 refine⟨max n m+1,_,_,?_,h5⟩
 have e1:=nF (Nat.le_max_left n m) h1
 have e2:=nF (Nat.le_max_right n m) h3
 simp only[bE,rQ,hg,hl,and_self,if_true,e1,h2,e2,h4]
theorem V0{x:X}{s:Nat}{ps:List Nat}{a b:C}{st:St}{Q:Ex->St->Prop}{t:Tok Q}{f:Nat}{cs:List AV}(hx:x.ev pg.gl st.env = .fn f cs)
  (hr:gT pg f (.yl (kb+s) (st.hp.next (kb+s))::cs) ((kb+s+1)*65536) (st.hp.put (kb+s) (st.hp.next (kb+s)) (.lp 0 kb st.env ps a b))
   (fun _ h'=>∃ex b' env' ps' ca' cb',h'.get (kb+s)=some (st.hp.next (kb+s),.lp (Ex.code ex) b' env' ps' ca' cb')/\Q ex ⟨st.env,h'.put (kb+s) (st.hp.next (kb+s)) .dead⟩)) :
  XX pg kb (.rf x s ps a b) st Q t:=by
 obtain⟨r,h',⟨n,e⟩,ex,b',env',ps',ca',cb',hg,hq⟩:=hr
 refine⟨n,ex,_,?_,hq⟩
 simp only[cA,hx,e,DY,hg,if_true]
 cases ex<;>rfl
theorem c694(hf:pg.fs 694=some cf694)(k:aA)(hc:(cB k).2=0)(h11:∀at_:Int,bL pg 11 [k.av,.int .i64 at_] (kD k at_))(kk e:Nat)(h:Hp)(J:Nat->Hp->Prop)(P:AV->Hp->Prop)(h0:J 0 h)
  (step:∀(j:Nat)(hp:Hp)(n3 k3:Bool),j<k.list.es.length+2->J j hp->RY pg kk e [.int .i64 ((j:Int)-1),.sl n3 ((eJ ((j:Int)-1) (aF k)).map aH) k3] hp (fun v hp'=>v = .bool true/\J (j+1) hp'))
  (hP:∀r hp,J (k.list.es.length+2) hp->P r hp):gT pg 694 [.yl kk e,.fp k.av] kb h P:=by
 have hIb:=k.list.ok
 obtain⟨R,hR⟩:∃R,R=List.range (k.list.es.length+2):=⟨_,rfl⟩
 have hRl:R.length=k.list.es.length+2:=by rw[hR,List.length_range]
 refine gT.ofX hf ?_
 unfold cf694
 rw[aA.avc]
 simp only[go_sem,seval]
 refine aG R (fun d r env hp=>env=cf694E0 (.yl kk e) (.fp k.av) (.int .i64 ((d.length:Int)-1))/\J d.length hp) ?_ ?_ ?_
 ·exact⟨by rw[aA.avc];rfl,h0⟩
 ·rintro env hp ⟨rfl,hJ⟩
  have e1:decide ((R.length:Int)-1<=(k.list.es.length:Int))=false:=decide_eq_false (by omega)
  rw[aA.avc]
  simp only[cf694L0,cf694E0,e1,List.length_map,go_sem,seval]
  rw[hRl]at hJ
  exact hP _ _ hJ
 ·rintro d x r env hp hes ⟨rfl,hJ⟩
  rw[hR]at hes
  obtain⟨rfl,hlt⟩:=jX hes
  have hl:(d++[d.length]).length=d.length+1:=by simp
  have e1:decide ((d.length:Int)-1<=(k.list.es.length:Int))=true:=by simp;omega
  have hw:wr .i64 ((d.length:Int)-1+1)=((d++[d.length]).length:Int)-1:=by rw[aR (by omega) (by simp only[big]at hIb;omega)];rw[hl];omega
  obtain⟨r11,a11,s11⟩:=h11 ((d.length:Int)-1)
  rw[aA.avc]at a11
  unfold kD at s11
  rw[if_pos hc,if_neg (by omega)]at s11
  obtain⟨n3,k3,rfl⟩:=s11
  have hst:=step d.length hp n3 k3 hlt hJ
  rw[aA.avc]
  generalize eJ ((d.length:Int)-1) (aF k)=lv at *
  simp only[cf694L0,cf694E0,e1,List.length_map,go_sem,seval]
  refine aB a11 (by simp only[go_sem,seval]) rfl ?_
  simp only[go_sem,seval]
  refine V1 ?_
  obtain⟨n,v,h',q1,rfl,q3⟩:=hst
  refine⟨n,_,h',q1,?_⟩
  simp only[hw,go_sem,seval]
  exact⟨rfl,by rw[hl];exact q3⟩
theorem M2{x:X}{s p1 p2:Nat}{a b:C}{st:St}{Q:Ex->St->Prop}{t:Tok Q}(hf:pg.fs 694=some cf694)(k:aA)(hc:(cB k).2=0)(h11:∀at_:Int,bL pg 11 [k.av,.int .i64 at_] (kD k at_))(hx:x.ev pg.gl st.env = .fn 694 [.fp k.av])
  (I:Nat->Hp->Prop) (hI:∀j hp hp',(∀q,q≠kb+s->hp'.get q=hp.get q)->I j hp->I j hp') (h0:I 0 st.hp)
  (step:∀(j:Nat)(n3 k3:Bool),j<k.list.es.length+2->∀hp,XX pg kb a ⟨pO st.env [p1,p2] [.int .i64 ((j:Int)-1),.sl n3 ((eJ ((j:Int)-1) (aF k)).map aH) k3],hp⟩ (fun ex st1=>ex = .nor/\st1.hp=hp /\
   ∀hp1,I j hp1->XX pg kb b ⟨st1.env,hp1⟩ (fun x st2=>x = .nor/\st2.hp.get (kb+s)=hp1.get (kb+s)/\I (j+1) st2.hp) ⟨⟩) ⟨⟩)
  (hQ:∀hp,I (k.list.es.length+2) hp->Q .nor ⟨st.env,hp⟩):XX pg kb (.rf x s [p1,p2] a b) st Q t:=by
 have hgp:∀(h:Hp)(e:Nat)(o:Ob)(q:Nat),q≠kb+s->(h.put (kb+s) e o).get q=h.get q:=fun h e o q hq=>by rw[aD,if_neg (Ne.symm hq)]
 refine V0 hx ?_
 generalize st.hp.next (kb+s)=e0
 refine c694 hf k hc h11 (kb+s) e0 _ (fun j hp=>hp.get (kb+s)=some (e0,.lp 0 kb st.env [p1,p2] a b)/\I j hp) _ ?_ ?_ ?_
 ·exact⟨by rw[aD,if_pos rfl],hI _ _ _ (hgp _ _ _) h0⟩
 ·rintro j hp n3 k3 hj ⟨hg,hIj⟩
  refine RY.of hg rfl ?_
  obtain⟨n,ex,st1,h1,rfl,h2,h3⟩:=step j n3 k3 hj hp
  refine⟨n,.nor,st1,h1,rfl,by rw[h2];exact hg,?_⟩
  obtain⟨m,ex2,st2,h4,rfl,h5,h6⟩:=h3 (st1.hp.put (kb+s) e0 (.lp 1 kb st.env [p1,p2] a b)) (hI _ _ _ (hgp _ _ _) (by rw[h2];exact hIj))
  refine⟨m,.nor,st2,h4,?_,rfl,?_,hI _ _ _ (hgp _ _ _) h6⟩
  ·rw[h5,aD,if_pos rfl]
  ·rw[aD,if_pos rfl];rfl
 ·rintro r hp ⟨hg,hIj⟩
  exact⟨.nor,_,_,_,_,_,hg,hQ _ (hI _ _ _ (hgp _ _ _) hIj)⟩
end
end Go.Tev
end
section
namespace Go.Tev
def oC(k:aA)(ds:List Val)(p:eN):Bool:=
 decide ((p.P.length:Int)=(k.values.es.length:Int))&&decide ((p.C.length:Int)=(k.list.es.length:Int)) && !decide (p.pk<0) && !decide (1000000<p.pk)&&rW (fW k ds) (aF k) p.pk 0 p.P
def kF(k:aA)(ds:List Val)(p:eN):Int:=if dY k ds=0 then (if oC k ds p then 0 else 21) else dY k ds
theorem I9{k:aA}(ds:List Val)(h:¬(cB k).2=0):dY k ds=22:=by rw[dY,if_neg h]
section
variable{pg:Pg}
theorem c684(hf:pg.fs 684=some cf684)(k:aA)(h28:Ret pg 28 [k.av] (.tup [.int .i64 (cB k).1,.int .i64 (cB k).2])):Ret pg 684 [k.av] (.int .i64 (cB k).2):=by
 rw[aA.avc]at h28 ⊢
 refine Ret.ofX hf ?_
 unfold cf684
 simp only[go_sem,seval]
 refine aB h28 (by simp only[go_sem,seval]) rfl ?_
 simp only[go_sem,seval]
theorem c677(hf:pg.fs 677=some cf677)(k:aA):Ret pg 677 [k.av] (.fn 694 [.fp k.av]):=by
 rw[aA.avc]
 refine Ret.ofX hf ?_
 unfold cf677
 simp only[go_sem,seval]
 simp only[Hp.get_cons,conv,depth,eI,cD,bA,go_sem,seval]
theorem c663(hf:pg.fs 663=some cf663)(k:aA)(h8:Ret pg 8 [k.av] (.bool (x5 k)))(p:eN)(nl cl:Bool)(ds:List Val) :
  Ret pg 663 [k.av,p.av,.sl nl (ds.map Val.av) cl] (.bool (x5 k&&decide ((ds.length:Int)<=13)&&decide ((p.P.length:Int)<=20)&&decide ((p.C.length:Int)<=20))):=by
 rw[aA.avc]at h8 ⊢
 rw[eN.avc]
 refine Ret.ofX hf ?_
 unfold cf663
 simp only[go_sem,seval]
 refine aB h8 (by simp only[go_sem,seval]) rfl ?_
 cases b0:x5 k
 ·simp only[go_sem,seval]
 cases b1:decide ((ds.length:Int)<=13)
 ·simp only[b1,List.length_map,go_sem,seval]
 cases b2:decide ((p.P.length:Int)<=20)
 ·simp only[b1,b2,List.length_map,go_sem,seval]
 simp only[b1,b2,List.length_map,go_sem,seval]
set_option maxRecDepth 100000 in
set_option maxHeartbeats 4000000 in
theorem c676(hf:pg.fs 676=some cf676)(k:aA)(nl cl:Bool)(ds:List Val)(p:eN)(h684:Ret pg 684 [k.av] (.int .i64 (cB k).2))(h16:Ret pg 16 [k.av,.sl nl (ds.map Val.av) cl] (gJ k ds))(h9:bL pg 9 [k.av] (iY k)) :
  Ret pg 676 [k.av,p.av,.sl nl (ds.map Val.av) cl] (.int .i64 (kF k ds p)):=by
 obtain⟨r9,a9,s9⟩:=h9
 have tlP:=oK p.P
 rw[aA.avc]at h16 a9 h684
 rw[aA.avc,eN.avc]
 by_cases hc:(cB k).2=0
 case neg=>
  have b0:decide ((cB k).2=0)=false:=by simp[hc]
  have hx:kF k ds p=22:=by rw[kF,I9 ds hc];rfl
  rw[hx]
  refine Ret.ofX hf ?_
  unfold cf676
  simp only[go_sem,seval]
  refine aB h684 (by simp only[go_sem,seval]) rfl ?_
  simp only[b0,go_sem,seval]
 have b0:decide ((cB k).2=0)=true:=by simp[hc]
 by_cases hx:dY k ds=0
 case neg=>
  have b9:decide (dY k ds=0)=false:=by simp[hx]
  rw[gJ,if_neg hx]at h16
  rw[kF,if_neg hx]
  refine Ret.ofX hf ?_
  unfold cf676
  simp only[go_sem,seval]
  refine aB h684 (by simp only[go_sem,seval]) rfl ?_
  simp only[b0,go_sem,seval]
  refine aB h16 (by simp only[go_sem,seval]) rfl ?_
  simp only[b9,go_sem,seval]
 rw[gJ,if_pos hx]at h16
 rw[kF,if_pos hx]
 rw[iY,if_pos hc]at s9
 subst s9
 have ok:=fL hc
 have hsz:=ET hx
 obtain⟨_,hsl,hzl⟩:=EO (ds:=ds) ok
 have hfold:eP (eM ds) (aF k) k.values.es=fW k ds:=rfl
 rw[hfold]at h16 hzl
 have hP:=p.bP
 refine Ret.ofX hf ?_
 unfold cf676
 simp only[go_sem,seval]
 refine aB h684 (by simp only[go_sem,seval]) rfl ?_
 simp only[b0,go_sem,seval]
 refine aB h16 (by simp only[go_sem,seval]) rfl ?_
 simp only[go_sem,seval]
 refine aB a9 (by simp only[go_sem,seval]) rfl ?_
 cases b1:decide ((p.P.length:Int)=(k.values.es.length:Int))
 ·simp only[b1,List.length_map,go_sem,seval]
  simp[oC,b1]
 cases b2:decide ((p.C.length:Int)=(k.list.es.length:Int))
 ·simp only[b1,b2,List.length_map,go_sem,seval]
  simp[oC,b2]
 cases b3:decide (p.pk<0)
 case true=>
  simp only[b1,b2,b3,List.length_map,go_sem,seval]
  simp[oC,b3]
 cases b4:decide (1000000<p.pk)
 case true=>
  simp only[b1,b2,b3,b4,List.length_map,go_sem,seval]
  simp[oC,b4]
 have hPV:p.P.length=k.values.es.length:=by have:=of_decide_eq_true b1;omega
 have hp0:0<=p.pk:=by have:=of_decide_eq_false b3;omega
 have hp1:p.pk<=1000000:=by have:=of_decide_eq_false b4;omega
 have hform:oC k ds p=rW (fW k ds) (aF k) p.pk 0 p.P:=by simp[oC,b1,b2,b3,b4]
 rw[hform]
 clear hform
 simp only[b1,b2,b3,b4,List.length_map,go_sem,seval]
 refine aG p.P (fun d r env hp=>env=cf676E0 (.pt 5 0 0) (.sl false ((fW k ds).map aH) true) (.sl false ((aF k).map bS) false) (.sl p.n1 (p.P.map bS) p.c1) (.int .i64 p.P.length) (.int .i64 d.length)/\hp.get 5=some (0,.blk [.sl p.n1 (p.P.map bS) p.c1,.sl p.n2 (p.C.map aH) p.c2,.int .i64 p.pk] 3 true true false) /\
  rW (fW k ds) (aF k) p.pk 0 p.P=rW (fW k ds) (aF k) p.pk d.length r) ?_ ?_ ?_
 ·exact⟨rfl,rfl,rfl⟩
 ·rintro env hp ⟨rfl,g5,hI⟩
  simp only[cf676L0,cf676E0,aX,go_sem,seval]
  rw[hI]
  rfl
 ·rintro d x r env hp hes ⟨rfl,g5,hI⟩
  obtain⟨hget,f1,f2,ew⟩:=cJ hes hP
  have hlt:d.length<p.P.length:=(List.getElem?_eq_some_iff.1 hget).1
  have l1:((d.length:Int)<((fW k ds).length:Int))=True:=eq_true (by omega)
  have l2:((d.length:Int)<((aF k).length:Int))=True:=eq_true (by omega)
  have hz':((fW k ds).map aH)[d.length]?=some (aH (hX (fW k ds) d.length)):=by
   rw[List.getElem?_map,hX,List.getD_eq_getElem?_getD,List.getElem?_eq_getElem (by omega)];rfl
  have hs':=tZ (P:=aF k) (v:=d.length) (by omega)
  have hge:=CL k d.length
  have hzd:=hsz d.length
  have hl:(d++[x]).length=d.length+1:=by simp
  rw[rW]at hI
  rw[hI]
  clear hI hes
  cases e2:decide ((plc (aF k) d.length).1 < -1)
  ·have n2:¬(plc (aF k) d.length).1 = -2:=by have:=of_decide_eq_false e2;omega
   cases e1:decide (x.2=hX (fW k ds) d.length)
   ·have hok:okP (fW k ds) (aF k) p.pk d.length x=false:=by simp only[okP,e1,Bool.false_and]
    rw[hok]
    repeat (first|simp only[cf676L0,cf676E0,f1,f2,hget,l1,l2,hz',hs',bS,e1,e2,go_sem,seval]|refine And.intro (by kernel_rfl) ?_)
    exact(show _=true by kernel_rfl)
   have x1:=of_decide_eq_true e1
   have w1:wr .i64 (p.pk-x.2)=p.pk-x.2:=aR (by omega) (by omega)
   cases e3:decide (x.1<0)
   ·have q3:decide (0<=x.1)=true:=by have:=of_decide_eq_false e3;simp;omega
    cases e4:decide (p.pk-x.2<x.1)
    ·have q4:decide (x.1<=p.pk-x.2)=true:=by have:=of_decide_eq_false e4;simp;omega
     have hok:okP (fW k ds) (aF k) p.pk d.length x=true:=by simp only[okP,e1,if_neg n2,q3,q4,Bool.and_self]
     rw[hok]
     simp only[cf676L0,cf676E0,f1,f2,hget,l1,l2,hz',hs',bS,e1,e2,e3,e4,w1,g5,ew,go_sem,seval]
     exact⟨by kernel_rfl,rfl,by rw[hl]⟩
    ·have q4:decide (x.1<=p.pk-x.2)=false:=by have:=of_decide_eq_true e4;simp;omega
     have hok:okP (fW k ds) (aF k) p.pk d.length x=false:=by simp only[okP,e1,if_neg n2,q3,q4,Bool.and_false,Bool.true_and]
     rw[hok]
     repeat (first|simp only[cf676L0,cf676E0,f1,f2,hget,l1,l2,hz',hs',bS,e1,e2,e3,e4,w1,g5,go_sem,seval]|refine And.intro (by kernel_rfl) ?_)
     exact(show _=true by kernel_rfl)
   ·have q3:decide (0<=x.1)=false:=by have:=of_decide_eq_true e3;simp;omega
    have hok:okP (fW k ds) (aF k) p.pk d.length x=false:=by simp only[okP,e1,if_neg n2,q3,Bool.false_and,Bool.and_false]
    rw[hok]
    repeat (first|simp only[cf676L0,cf676E0,f1,f2,hget,l1,l2,hz',hs',bS,e1,e2,e3,w1,g5,go_sem,seval]|refine And.intro (by kernel_rfl) ?_)
    exact(show _=true by kernel_rfl)
  ·have n2:(plc (aF k) d.length).1 = -2:=by have:=of_decide_eq_true e2;omega
   cases e1:decide (x.2=hX (fW k ds) d.length)
   ·have hok:okP (fW k ds) (aF k) p.pk d.length x=false:=by simp only[okP,e1,Bool.false_and]
    rw[hok]
    repeat (first|simp only[cf676L0,cf676E0,f1,f2,hget,l1,l2,hz',hs',bS,e1,e2,go_sem,seval]|refine And.intro (by kernel_rfl) ?_)
    exact(show _=true by kernel_rfl)
   cases e3:decide (x.1 = -1)
   ·have hok:okP (fW k ds) (aF k) p.pk d.length x=false:=by simp only[okP,e1,if_pos n2,e3,Bool.and_false]
    rw[hok]
    repeat (first|simp only[cf676L0,cf676E0,f1,f2,hget,l1,l2,hz',hs',bS,e1,e2,e3,go_sem,seval]|refine And.intro (by kernel_rfl) ?_)
    exact(show _=true by kernel_rfl)
   ·have hok:okP (fW k ds) (aF k) p.pk d.length x=true:=by simp only[okP,e1,if_pos n2,e3,Bool.and_self]
    rw[hok]
    simp only[cf676L0,cf676E0,f1,f2,hget,l1,l2,hz',hs',bS,e1,e2,e3,ew,go_sem,seval]
    exact⟨by kernel_rfl,rfl,g5,by rw[hl]⟩
end
end Go.Tev
end
section
namespace Go.Tev
structure Cl where
 t:Int
 a:Int
 b:Int
 w:Int
def Cl.av(c:Cl):AV:=.agg [.int .i64 c.t,.int .i64 c.a,.int .i64 c.b,.int .i64 c.w]
def pC(k:aA)(P:List Sp)(at_ a b:Int):List Cl:=
 if dC k P at_ a.toNat b.toNat then [] else [⟨at_,a,b,mxI (plc P a.toNat).1 (plc P b.toNat).1⟩]
def sG(k:aA)(P:List Sp)(at_:Int):List Int->List Cl
 |[]=>[]
 |a::r=>r.flatMap (pC k P at_ a)++sG k P at_ r
def uQ(k:aA)(P:List Sp)(R:List Nat):List Cl:=R.flatMap fun(j:Nat)=>sG k P ((j:Int)-1) (eJ ((j:Int)-1) (aF k))
def GC(k:aA)(P:List Sp):List Cl:=uQ k P (List.range (k.list.es.length+2))
theorem AX(k:aA)(P:List Sp)(j:Nat):uQ k P (List.range (j+1))=uQ k P (List.range j)++sG k P ((j:Int)-1) (eJ ((j:Int)-1) (aF k)):=by
 simp[uQ,List.range_succ]
theorem El.cls(l:List Cl):∀x∈l.map Cl.av,El 4 true x:=by
 intro x hx
 obtain⟨c,_,rfl⟩:=List.mem_map.1 hx
 exact⟨rfl,rfl,rfl⟩
theorem IG(k:aA)(P:List Sp)(at_ a:Int)(l:List Int):(l.flatMap (pC k P at_ a)).length<=l.length:=by
 induction l with
 |nil=>simp
 |cons b r ih=>
  rw[List.flatMap_cons,List.length_append,List.length_cons]
  have:(pC k P at_ a b).length<=1:=by unfold pC;split<;>simp
  omega
theorem D5(k:aA)(P:List Sp)(at_:Int):∀l:List Int,(sG k P at_ l).length<=l.length*l.length
 |[]=>by simp[sG]
 |a::r=>by
  have h1:=IG k P at_ a r
  have h2:=D5 k P at_ r
  rw[sG,List.length_append,List.length_cons,Nat.add_mul,Nat.mul_add]
  omega
theorem D4{k:aA}{n:Nat}(hn:∀at_,(eJ at_ (aF k)).length<=n)(P:List Sp):∀R:List Nat,(uQ k P R).length<=R.length*(n*n)
 |[]=>by simp[uQ]
 |j::R=>by
  have h1:=D5 k P ((j:Int)-1) (eJ ((j:Int)-1) (aF k))
  have h2:=D4 hn P R
  have h3:=Nat.mul_le_mul (hn ((j:Int)-1)) (hn ((j:Int)-1))
  rw[List.length_cons,Nat.add_mul,Nat.one_mul]
  simp only[uQ,List.flatMap_cons,List.length_append]at h2 ⊢
  omega
end Go.Tev
end
