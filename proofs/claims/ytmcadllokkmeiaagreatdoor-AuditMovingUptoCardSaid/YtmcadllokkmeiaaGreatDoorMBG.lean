import Derived.Test.YtmcadllokkmeiaaGreatDoorMBF
import Derived.Test.YtmcadllokkmeiaaGreatDoorMAH
import Derived.Test.YtmcadllokkmeiaaGreatDoorMAM
import Derived.Test.YtmcadllokkmeiaaGreatDoorMAR
import Derived.Test.YtmcadllokkmeiaaGreatDoorMAT
set_option linter.all false
section
namespace Go.Tev
theorem GC(k:aA)(v:Nat) : -2<=(plc (aF k) v).1:=by
 by_cases h:v<(aF k).length
 ·rcases FD (K0 (GV h)) with h|⟨h,_⟩|⟨j,_,_,_,h⟩<;>omega
 ·rw[plc,List.getD_eq_getElem?_getD,List.getElem?_eq_none (by omega)]
  decide
section
variable{pg:Pg}
end
end Go.Tev
end
section
namespace Go.Tev
section
variable{pg:Pg}{kb:Nat}
def RY(pg:Pg)(k e:Nat)(args:List AV)(h:Hp)(Q:AV->Hp->Prop):Prop:=∃n v h',(aO pg n).yl k e args h=some (v,h')/\Q v h'
theorem R4{s:Nat}{th im:Bool}{h:Hp}{k e:Nat}{args:List AV}{Q:AV->Eff->Prop}{t:Tok Q}(hr:RY pg k e args h (fun v h'=>Q v (.whole h'))) :
  XO pg kb (.callv th im) s h (.yl k e::args) Q t:=by
 obtain⟨n,v,h',h1,h2⟩:=hr
 exact⟨n,v,.whole h',by simp only[opR,h1],h2⟩
theorem RY.of{k e b:Nat}{env:List AV}{ps:List Nat}{ca cb:C}{args:List AV}{h:Hp}{Q:AV->Hp->Prop}(hg:h.get k=some (e,.lp 0 b env ps ca cb))(hl:ps.length=args.length)
  (hw:XX pg b ca ⟨l0 env ps args,h⟩ (fun ex st1=>ex = .nor/\st1.hp.get k=some (e,.lp 0 b env ps ca cb)/\XX pg b cb ⟨st1.env,st1.hp.put k e (.lp 1 b env ps ca cb)⟩ (fun x st2=>st2.hp.get k=some (e,.lp 1 b env ps ca cb)/\Q (.bool (x == .nor)) (st2.hp.put k e (.lp x.code b env ps ca cb))) ⟨⟩) ⟨⟩):RY pg k e args h Q:=by
 obtain⟨n,ex,st1,h1,rfl,h2,m,x,st2,h3,h4,h5⟩:=hw
 refine⟨max n m+1,_,_,?_,h5⟩
 have e1:=j7 (Nat.le_max_left n m) h1
 have e2:=j7 (Nat.le_max_right n m) h3
 simp only[aO,nY,hg,hl,and_self,if_true,e1,h2,e2,h4]
theorem R3{x:X}{s:Nat}{ps:List Nat}{a b:C}{st:St}{Q:Ex->St->Prop}{t:Tok Q}{f:Nat}{cs:List AV}(hx:x.ev pg.gl st.env = .fn f cs)
  (hr:fB pg f (.yl (kb+s) (st.hp.next (kb+s))::cs) ((kb+s+1)*65536) (st.hp.put (kb+s) (st.hp.next (kb+s)) (.lp 0 kb st.env ps a b))
   (fun _ h'=>∃ex b' env' ps' ca' cb',h'.get (kb+s)=some (st.hp.next (kb+s),.lp (Ex.code ex) b' env' ps' ca' cb')/\Q ex ⟨st.env,h'.put (kb+s) (st.hp.next (kb+s)) .dead⟩)) :
  XX pg kb (.rf x s ps a b) st Q t:=by
 obtain⟨r,h',⟨n,e⟩,ex,b',env',ps',ca',cb',hg,hq⟩:=hr
 refine⟨n,ex,_,?_,hq⟩
 simp only[bF,hx,e,AN,hg,if_true]
 cases ex<;>rfl
theorem c694(hf:pg.fs 694=some cf694)(k:aA)(hc:(cH k).2=0)(h11:∀at_:Int,bR pg 11 [k.av,.int .i64 at_] (mG k at_))(kk e:Nat)(h:Hp)(J:Nat->Hp->Prop)(P:AV->Hp->Prop)(h0:J 0 h)
  (step:∀(j:Nat)(hp:Hp)(n3 k3:Bool),j<k.list.es.length+2->J j hp->RY pg kk e [.int .i64 ((j:Int)-1),.sl n3 ((cQ ((j:Int)-1) (aF k)).map aH) k3] hp (fun v hp'=>v = .bool true/\J (j+1) hp'))
  (hP:∀r hp,J (k.list.es.length+2) hp->P r hp):fB pg 694 [.yl kk e,.fp k.av] kb h P:=by
 have hIb:=k.list.ok
 obtain⟨R,hR⟩:∃R,R=List.range (k.list.es.length+2):=⟨_,rfl⟩
 have hRl:R.length=k.list.es.length+2:=by rw[hR,List.length_range]
 refine fB.ofX hf ?_
 unfold cf694
 rw[aA.avc]
 simp only[go_sem,seval]
 refine bI R (fun d r env hp=>env=cf694E0 (.yl kk e) (.fp k.av) (.int .i64 ((d.length:Int)-1))/\J d.length hp) ?_ ?_ ?_
 ·exact⟨by rw[aA.avc];rfl,h0⟩
 ·rintro env hp ⟨rfl,hJ⟩
  have e1:decide ((R.length:Int)-1<=(k.list.es.length:Int))=false:=decide_eq_false (by omega)
  rw[aA.avc]
  simp only[cf694L0,cf694E0,e1,List.length_map,go_sem,seval]
  rw[hRl]at hJ
  exact hP _ _ hJ
 ·rintro d x r env hp hes ⟨rfl,hJ⟩
  rw[hR]at hes
  obtain⟨rfl,hlt⟩:=mY hes
  have hl:(d++[d.length]).length=d.length+1:=by simp
  have e1:decide ((d.length:Int)-1<=(k.list.es.length:Int))=true:=by simp;omega
  have hw:wr .i64 ((d.length:Int)-1+1)=((d++[d.length]).length:Int)-1:=by rw[aX (by omega) (by simp only[big]at hIb;omega)];rw[hl];omega
  obtain⟨r11,a11,s11⟩:=h11 ((d.length:Int)-1)
  rw[aA.avc]at a11
  unfold mG at s11
  rw[if_pos hc,if_neg (by omega)]at s11
  obtain⟨n3,k3,rfl⟩:=s11
  have hst:=step d.length hp n3 k3 hlt hJ
  rw[aA.avc]
  generalize cQ ((d.length:Int)-1) (aF k)=lv at *
  simp only[cf694L0,cf694E0,e1,List.length_map,go_sem,seval]
  refine aB a11 (by simp only[go_sem,seval]) rfl ?_
  simp only[go_sem,seval]
  refine R4 ?_
  obtain⟨n,v,h',q1,rfl,q3⟩:=hst
  refine⟨n,_,h',q1,?_⟩
  simp only[hw,go_sem,seval]
  exact⟨rfl,by rw[hl];exact q3⟩
theorem A8{x:X}{s p1 p2:Nat}{a b:C}{st:St}{Q:Ex->St->Prop}{t:Tok Q}(hf:pg.fs 694=some cf694)(k:aA)(hc:(cH k).2=0)(h11:∀at_:Int,bR pg 11 [k.av,.int .i64 at_] (mG k at_))(hx:x.ev pg.gl st.env = .fn 694 [.fp k.av])
  (I:Nat->Hp->Prop) (hI:∀j hp hp',(∀q,q≠kb+s->hp'.get q=hp.get q)->I j hp->I j hp') (h0:I 0 st.hp)
  (step:∀(j:Nat)(n3 k3:Bool),j<k.list.es.length+2->∀hp,XX pg kb a ⟨l0 st.env [p1,p2] [.int .i64 ((j:Int)-1),.sl n3 ((cQ ((j:Int)-1) (aF k)).map aH) k3],hp⟩ (fun ex st1=>ex = .nor/\st1.hp=hp /\
   ∀hp1,I j hp1->XX pg kb b ⟨st1.env,hp1⟩ (fun x st2=>x = .nor/\st2.hp.get (kb+s)=hp1.get (kb+s)/\I (j+1) st2.hp) ⟨⟩) ⟨⟩)
  (hQ:∀hp,I (k.list.es.length+2) hp->Q .nor ⟨st.env,hp⟩):XX pg kb (.rf x s [p1,p2] a b) st Q t:=by
 have hgp:∀(h:Hp)(e:Nat)(o:Ob)(q:Nat),q≠kb+s->(h.put (kb+s) e o).get q=h.get q:=fun h e o q hq=>by rw[aD,if_neg (Ne.symm hq)]
 refine R3 hx ?_
 generalize st.hp.next (kb+s)=e0
 refine c694 hf k hc h11 (kb+s) e0 _ (fun j hp=>hp.get (kb+s)=some (e0,.lp 0 kb st.env [p1,p2] a b)/\I j hp) _ ?_ ?_ ?_
 ·exact⟨by rw[aD,if_pos rfl],hI _ _ _ (hgp _ _ _) h0⟩
 ·rintro j hp n3 k3 hj ⟨hg,hIj⟩
  refine RY.of hg rfl ?_
  obtain⟨n,ex,st1,h1,rfl,h2,h3⟩:=step j n3 k3 hj hp
  refine⟨n,.nor,st1,h1,rfl,by rw[h2];exact hg,?_⟩
  obtain⟨m,ex2,st2,h4,rfl,h5,h6⟩:=h3 (st1.hp.put (kb+s) e0 (.lp 1 kb st.env [p1,p2] a b)) (hI _ _ _ (hgp _ _ _) (by rw[h2];exact hIj))
  refine⟨m,.nor,st2,h4,?_,rfl,?_,hI _ _ _ (hgp _ _ _) h6⟩
  ·rw[h5,aD,if_pos rfl]
  ·rw[aD,if_pos rfl];rfl
 ·rintro r hp ⟨hg,hIj⟩
  exact⟨.nor,_,_,_,_,_,hg,hQ _ (hI _ _ _ (hgp _ _ _) hIj)⟩
end
end Go.Tev
end
section
namespace Go.Tev
def fJ(k:aA)(ds:List Val)(p:cN):Bool:=
 decide ((p.P.length:Int)=(k.values.es.length:Int))&&decide ((p.C.length:Int)=(k.list.es.length:Int)) && !decide (p.pk<0) && !decide (1000000<p.pk)&&qB (iR k ds) (aF k) p.pk 0 p.P
def eF(k:aA)(ds:List Val)(p:cN):Int:=if eA k ds=0 then (if fJ k ds p then 0 else 21) else eA k ds
theorem FP{k:aA}(ds:List Val)(h:¬(cH k).2=0):eA k ds=22:=by rw[eA,if_neg h]
section
variable{pg:Pg}
theorem c684(hf:pg.fs 684=some cf684)(k:aA)(h28:Ret pg 28 [k.av] (.tup [.int .i64 (cH k).1,.int .i64 (cH k).2])):Ret pg 684 [k.av] (.int .i64 (cH k).2):=by
 rw[aA.avc]at h28 ⊢
 refine Ret.ofX hf ?_
 unfold cf684
 simp only[go_sem,seval]
 refine aB h28 (by simp only[go_sem,seval]) rfl ?_
 simp only[go_sem,seval]
theorem c677(hf:pg.fs 677=some cf677)(k:aA):Ret pg 677 [k.av] (.fn 694 [.fp k.av]):=by
 rw[aA.avc]
 refine Ret.ofX hf ?_
 unfold cf677
 simp only[go_sem,seval]
 simp only[Hp.get_cons,conv,depth,dA,bS,aV,go_sem,seval]
theorem c663(hf:pg.fs 663=some cf663)(k:aA)(h8:Ret pg 8 [k.av] (.bool (qL k)))(p:cN)(nl cl:Bool)(ds:List Val) :
  Ret pg 663 [k.av,p.av,.sl nl (ds.map Val.av) cl] (.bool (qL k&&decide ((ds.length:Int)<=13)&&decide ((p.P.length:Int)<=20)&&decide ((p.C.length:Int)<=20))):=by
 rw[aA.avc]at h8 ⊢
 rw[cN.avc]
 refine Ret.ofX hf ?_
 unfold cf663
 simp only[go_sem,seval]
 refine aB h8 (by simp only[go_sem,seval]) rfl ?_
 cases b0:qL k
 ·simp only[go_sem,seval]
 cases b1:decide ((ds.length:Int)<=13)
 ·simp only[b1,List.length_map,go_sem,seval]
 cases b2:decide ((p.P.length:Int)<=20)
 ·simp only[b1,b2,List.length_map,go_sem,seval]
 simp only[b1,b2,List.length_map,go_sem,seval]
set_option maxRecDepth 100000 in
set_option maxHeartbeats 4000000 in
theorem c676(hf:pg.fs 676=some cf676)(k:aA)(nl cl:Bool)(ds:List Val)(p:cN)(h684:Ret pg 684 [k.av] (.int .i64 (cH k).2))(h16:Ret pg 16 [k.av,.sl nl (ds.map Val.av) cl] (eP k ds))(h9:bR pg 9 [k.av] (gF k)) :
  Ret pg 676 [k.av,p.av,.sl nl (ds.map Val.av) cl] (.int .i64 (eF k ds p)):=by
 obtain⟨r9,a9,s9⟩:=h9
 have tlP:=kY p.P
 rw[aA.avc]at h16 a9 h684
 rw[aA.avc,cN.avc]
 by_cases hc:(cH k).2=0
 case neg=>
  have b0:decide ((cH k).2=0)=false:=by simp[hc]
  have hx:eF k ds p=22:=by rw[eF,FP ds hc];rfl
  rw[hx]
  refine Ret.ofX hf ?_
  unfold cf676
  simp only[go_sem,seval]
  refine aB h684 (by simp only[go_sem,seval]) rfl ?_
  simp only[b0,go_sem,seval]
 have b0:decide ((cH k).2=0)=true:=by simp[hc]
 by_cases hx:eA k ds=0
 case neg=>
  have b9:decide (eA k ds=0)=false:=by simp[hx]
  rw[eP,if_neg hx]at h16
  rw[eF,if_neg hx]
  refine Ret.ofX hf ?_
  unfold cf676
  simp only[go_sem,seval]
  refine aB h684 (by simp only[go_sem,seval]) rfl ?_
  simp only[b0,go_sem,seval]
  refine aB h16 (by simp only[go_sem,seval]) rfl ?_
  simp only[b9,go_sem,seval]
 rw[eP,if_pos hx]at h16
 rw[eF,if_pos hx]
 rw[gF,if_pos hc]at s9
 subst s9
 have ok:=eN hc
 have hsz:=sZ hx
 obtain⟨_,hsl,hzl⟩:=sP (ds:=ds) ok
 have hfold:dZ (eD ds) (aF k) k.values.es=iR k ds:=rfl
 rw[hfold]at h16 hzl
 have hP:=p.bP
 refine Ret.ofX hf ?_
 unfold cf676
 simp only[go_sem,seval]
 refine aB h684 (by simp only[go_sem,seval]) rfl ?_
 simp only[b0,go_sem,seval]
 refine aB h16 (by simp only[go_sem,seval]) rfl ?_
 simp only[go_sem,seval]
 refine aB a9 (by simp only[go_sem,seval]) rfl ?_
 cases b1:decide ((p.P.length:Int)=(k.values.es.length:Int))
 ·simp only[b1,List.length_map,go_sem,seval]
  simp[fJ,b1]
 cases b2:decide ((p.C.length:Int)=(k.list.es.length:Int))
 ·simp only[b1,b2,List.length_map,go_sem,seval]
  simp[fJ,b2]
 cases b3:decide (p.pk<0)
 case true=>
  simp only[b1,b2,b3,List.length_map,go_sem,seval]
  simp[fJ,b3]
 cases b4:decide (1000000<p.pk)
 case true=>
  simp only[b1,b2,b3,b4,List.length_map,go_sem,seval]
  simp[fJ,b4]
 have hPV:p.P.length=k.values.es.length:=by have:=of_decide_eq_true b1;omega
 have hp0:0<=p.pk:=by have:=of_decide_eq_false b3;omega
 have hp1:p.pk<=1000000:=by have:=of_decide_eq_false b4;omega
 have hform:fJ k ds p=qB (iR k ds) (aF k) p.pk 0 p.P:=by simp[fJ,b1,b2,b3,b4]
 rw[hform]
 clear hform
 simp only[b1,b2,b3,b4,List.length_map,go_sem,seval]
 refine bI p.P (fun d r env hp=>env=cf676E0 (.pt 5 0 0) (.sl false ((iR k ds).map aH) true) (.sl false ((aF k).map bV) false) (.sl p.n1 (p.P.map bV) p.c1) (.int .i64 p.P.length) (.int .i64 d.length)/\hp.get 5=some (0,.blk [.sl p.n1 (p.P.map bV) p.c1,.sl p.n2 (p.C.map aH) p.c2,.int .i64 p.pk] 3 true true false) /\
  qB (iR k ds) (aF k) p.pk 0 p.P=qB (iR k ds) (aF k) p.pk d.length r) ?_ ?_ ?_
 ·exact⟨rfl,rfl,rfl⟩
 ·rintro env hp ⟨rfl,g5,hI⟩
  simp only[cf676L0,cf676E0,n9,go_sem,seval]
  rw[hI]
  rfl
 ·rintro d x r env hp hes ⟨rfl,g5,hI⟩
  obtain⟨hget,f1,f2,ew⟩:=mF hes hP
  have hlt:d.length<p.P.length:=(List.getElem?_eq_some_iff.1 hget).1
  have l1:((d.length:Int)<((iR k ds).length:Int))=True:=eq_true (by omega)
  have l2:((d.length:Int)<((aF k).length:Int))=True:=eq_true (by omega)
  have hz':((iR k ds).map aH)[d.length]?=some (aH (fM (iR k ds) d.length)):=by
   rw[List.getElem?_map,fM,List.getD_eq_getElem?_getD,List.getElem?_eq_getElem (by omega)];rfl
  have hs':=tN (P:=aF k) (v:=d.length) (by omega)
  have hge:=GC k d.length
  have hzd:=hsz d.length
  have hl:(d++[x]).length=d.length+1:=by simp
  rw[qB]at hI
  rw[hI]
  clear hI hes
  cases e2:decide ((plc (aF k) d.length).1 < -1)
  ·have n2:¬(plc (aF k) d.length).1 = -2:=by have:=of_decide_eq_false e2;omega
   cases e1:decide (x.2=fM (iR k ds) d.length)
   ·have hok:okP (iR k ds) (aF k) p.pk d.length x=false:=by simp only[okP,e1,Bool.false_and]
    rw[hok]
    repeat (first|simp only[cf676L0,cf676E0,f1,f2,hget,l1,l2,hz',hs',bV,e1,e2,go_sem,seval]|refine And.intro (by kernel_rfl) ?_)
    exact(show _=true by kernel_rfl)
   have x1:=of_decide_eq_true e1
   have w1:wr .i64 (p.pk-x.2)=p.pk-x.2:=aX (by omega) (by omega)
   cases e3:decide (x.1<0)
   ·have q3:decide (0<=x.1)=true:=by have:=of_decide_eq_false e3;simp;omega
    cases e4:decide (p.pk-x.2<x.1)
    ·have q4:decide (x.1<=p.pk-x.2)=true:=by have:=of_decide_eq_false e4;simp;omega
     have hok:okP (iR k ds) (aF k) p.pk d.length x=true:=by simp only[okP,e1,if_neg n2,q3,q4,Bool.and_self]
     rw[hok]
     simp only[cf676L0,cf676E0,f1,f2,hget,l1,l2,hz',hs',bV,e1,e2,e3,e4,w1,g5,ew,go_sem,seval]
     exact⟨by kernel_rfl,rfl,by rw[hl]⟩
    ·have q4:decide (x.1<=p.pk-x.2)=false:=by have:=of_decide_eq_true e4;simp;omega
     have hok:okP (iR k ds) (aF k) p.pk d.length x=false:=by simp only[okP,e1,if_neg n2,q3,q4,Bool.and_false,Bool.true_and]
     rw[hok]
     repeat (first|simp only[cf676L0,cf676E0,f1,f2,hget,l1,l2,hz',hs',bV,e1,e2,e3,e4,w1,g5,go_sem,seval]|refine And.intro (by kernel_rfl) ?_)
     exact(show _=true by kernel_rfl)
   ·have q3:decide (0<=x.1)=false:=by have:=of_decide_eq_true e3;simp;omega
    have hok:okP (iR k ds) (aF k) p.pk d.length x=false:=by simp only[okP,e1,if_neg n2,q3,Bool.false_and,Bool.and_false]
    rw[hok]
    repeat (first|simp only[cf676L0,cf676E0,f1,f2,hget,l1,l2,hz',hs',bV,e1,e2,e3,w1,g5,go_sem,seval]|refine And.intro (by kernel_rfl) ?_)
    exact(show _=true by kernel_rfl)
  ·have n2:(plc (aF k) d.length).1 = -2:=by have:=of_decide_eq_true e2;omega
   cases e1:decide (x.2=fM (iR k ds) d.length)
   ·have hok:okP (iR k ds) (aF k) p.pk d.length x=false:=by simp only[okP,e1,Bool.false_and]
    rw[hok]
    repeat (first|simp only[cf676L0,cf676E0,f1,f2,hget,l1,l2,hz',hs',bV,e1,e2,go_sem,seval]|refine And.intro (by kernel_rfl) ?_)
    exact(show _=true by kernel_rfl)
   cases e3:decide (x.1 = -1)
   ·have hok:okP (iR k ds) (aF k) p.pk d.length x=false:=by simp only[okP,e1,if_pos n2,e3,Bool.and_false]
    rw[hok]
    repeat (first|simp only[cf676L0,cf676E0,f1,f2,hget,l1,l2,hz',hs',bV,e1,e2,e3,go_sem,seval]|refine And.intro (by kernel_rfl) ?_)
    exact(show _=true by kernel_rfl)
   ·have hok:okP (iR k ds) (aF k) p.pk d.length x=true:=by simp only[okP,e1,if_pos n2,e3,Bool.and_self]
    rw[hok]
    simp only[cf676L0,cf676E0,f1,f2,hget,l1,l2,hz',hs',bV,e1,e2,e3,ew,go_sem,seval]
    exact⟨by kernel_rfl,rfl,g5,by rw[hl]⟩
end
end Go.Tev
end
section
namespace Go.Tev
structure Cl where
 t:Int
 a:Int
 b:Int
 w:Int
def Cl.av(c:Cl):AV:=.agg [.int .i64 c.t,.int .i64 c.a,.int .i64 c.b,.int .i64 c.w]
def fI(k:aA)(P:List Sp)(at_ a b:Int):List Cl:=
 if cY k P at_ a.toNat b.toNat then [] else [⟨at_,a,b,mxI (plc P a.toNat).1 (plc P b.toNat).1⟩]
def iW(k:aA)(P:List Sp)(at_:Int):List Int->List Cl
 |[]=>[]
 |a::r=>r.flatMap (fI k P at_ a)++iW k P at_ r
def lU(k:aA)(P:List Sp)(R:List Nat):List Cl:=R.flatMap fun(j:Nat)=>iW k P ((j:Int)-1) (cQ ((j:Int)-1) (aF k))
def I3(k:aA)(P:List Sp):List Cl:=lU k P (List.range (k.list.es.length+2))
theorem nC(k:aA)(P:List Sp)(j:Nat):lU k P (List.range (j+1))=lU k P (List.range j)++iW k P ((j:Int)-1) (cQ ((j:Int)-1) (aF k)):=by
 simp[lU,List.range_succ]
theorem El.cls(l:List Cl):∀x∈l.map Cl.av,El 4 true x:=by
 intro x hx
 obtain⟨c,_,rfl⟩:=List.mem_map.1 hx
 exact⟨rfl,rfl,rfl⟩
theorem EU(k:aA)(P:List Sp)(at_ a:Int)(l:List Int):(l.flatMap (fI k P at_ a)).length<=l.length:=by
 induction l with
 |nil=>simp
 |cons b r ih=>
  rw[List.flatMap_cons,List.length_append,List.length_cons]
  have:(fI k P at_ a b).length<=1:=by unfold fI;split<;>simp
  omega
theorem AW(k:aA)(P:List Sp)(at_:Int):∀l:List Int,(iW k P at_ l).length<=l.length*l.length
 |[]=>by simp[iW]
 |a::r=>by
  have h1:=EU k P at_ a r
  have h2:=AW k P at_ r
  rw[iW,List.length_append,List.length_cons,Nat.add_mul,Nat.mul_add]
  omega
theorem pP{k:aA}{n:Nat}(hn:∀at_,(cQ at_ (aF k)).length<=n)(P:List Sp):∀R:List Nat,(lU k P R).length<=R.length*(n*n)
 |[]=>by simp[lU]
 |j::R=>by
  have h1:=AW k P ((j:Int)-1) (cQ ((j:Int)-1) (aF k))
  have h2:=pP hn P R
  have h3:=Nat.mul_le_mul (hn ((j:Int)-1)) (hn ((j:Int)-1))
  rw[List.length_cons,Nat.add_mul,Nat.one_mul]
  simp only[lU,List.flatMap_cons,List.length_append]at h2 ⊢
  omega
end Go.Tev
end
