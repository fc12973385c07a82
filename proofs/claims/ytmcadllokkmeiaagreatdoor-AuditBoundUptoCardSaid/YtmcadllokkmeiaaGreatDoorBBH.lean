import Derived.Test.YtmcadllokkmeiaaGreatDoorBBG
import Derived.Test.YtmcadllokkmeiaaGreatDoorBAH
import Derived.Test.YtmcadllokkmeiaaGreatDoorBAM
import Derived.Test.YtmcadllokkmeiaaGreatDoorBAR
import Derived.Test.YtmcadllokkmeiaaGreatDoorBAT
set_option linter.all false
namespace Go.Tev
section
theorem OZ(k:aA)(v:Nat) : -2<=(plc (aD k) v).1:=by by_cases h:v<(aD k).length;rcases oE (xL (TN h)) with h|⟨h,_⟩|⟨j,_,_,_,h⟩<;>omega;rw[plc,fY,eK (by omega)];decide
section
variable{pg:Pg}
set_option maxRecDepth 100000 in
set_option maxHeartbeats 8000000 in
theorem c619(hf:pg.fs 619=some J1)(h630:pg.fs 630=some J0)(h638:pg.fs 638=some DK)(k:aA)(nl cl:Bool)(ds:List Val)(p:dK)(h17:bQ pg 17 [k.av,.sl nl (ds.map Val.av) cl] (gA k ds))(h10:bQ pg 10 [k.av] (iA k))
  (h265:∀at_ v:Int,Ret pg 265 [k.av,.int .i64 at_,.int .i64 v] (.bool (yW k at_ v))) (h12:∀at_:Int,bQ pg 12 [k.av,.int .i64 at_] (kL k at_)) :
  Ret pg 619 [k.av,p.av,.sl nl (ds.map Val.av) cl] (.bool (pB k ds p)):=by
 obtain⟨r9,a9,s9⟩:=h10;obtain⟨r17,a17,s17⟩:=h17;have tlP:=j0 p.P;rw[aA.avc]at a17 a9;rw[aA.avc,dK.avc];by_cases hx:cL k ds=0
 case neg=>
  have b0:decide (cL k ds=0)=false:=by simp[hx]
  rw[gA,if_neg hx]at s17;subst s17;refine Ret.ofX hf ?_;unfold J1;refine Wk ?_;refine aB a17 ?_;simp only[b0,go_sem,seval];simp only[pB,b0,d9]
 have b0:decide (cL k ds=0)=true:=by simp[hx]
 rw[gA,if_pos hx]at s17;obtain⟨n4,c4,rfl⟩:=s17;refine Ret.ofX hf ?_;unfold J1;refine Wk ?_;refine aB a17 ?_;cases b1:decide ((p.P.length:Int)=(k.aSe.es.length:Int));simp only[b1,aM,go_sem,seval];simp only[pB,b1,gD,d9];cases b2:decide ((p.C.length:Int)=(k.aSf.es.length:Int));simp only[b1,b2,aM,go_sem,seval];simp only[pB,b2,gD,d9];cases b3:decide (p.pk<0)
 case true=>simp only[b1,b2,b3,aM,go_sem,seval];simp only[pB,b3,Bool.not_true,gD,d9]
 cases b4:decide (1000000<p.pk)
 case true=>simp only[b1,b2,b3,b4,aM,go_sem,seval];simp only[pB,b4,Bool.not_true,gD,d9]
 have hs:pB k ds p=(rY (bK k ds) (aD k) p.pk 0 p.P&&lK k p.P 0 (List.range (k.aSf.es.length+2))):=by simp only[pB,b0,b1,b2,b3,b4,Bool.not_false,cE]
 rw[hs];clear hs;have ok:=cA (cD hx).1;have hsz:=qD hx;have hPV:p.P.length=k.aSe.es.length:=by have:=aO b1;omega
 have hp0:0<=p.pk:=by have:=bW b3;omega
 have hp1:p.pk<=1000000:=by have:=bW b4;omega
 have hc:=(cD hx).1;unfold iA at s9;rw[if_pos hc]at s9;obtain⟨n9,c9,rfl⟩:=s9;obtain⟨_,hsl,hzl⟩:=nP (ds:=ds) ok;have hfold:eI (fA ds) (aD k) k.aSe.es=bK k ds:=rfl;rw[hfold]at a17 hzl;have hPb:=p.bP;have hzP:((bK k ds).length:Int)=(p.P.length:Int):=by omega
 rw[hfold];simp only[b1,b2,b3,b4,aM,go_sem,seval];refine aB a9 (Wk ?_)
 refine aJ p.P (λd r env hp=>env=rQ (.pt 1 0 0) (.pt 5 0 0) (.sl n4 ((bK k ds).map aH) c4) (.sl n9 ((aD k).map bO) c9) (.int .i64 d.length)/\hp.get 1=some (0,.blk k.cells 6 true true false)/\hp.get 5=some (0,.blk p.cells 3 true true false) /\
  rY (bK k ds) (aD k) p.pk 0 p.P=rY (bK k ds) (aD k) p.pk d.length r) ?_ ?_ ?_
 exact⟨rfl,rfl,rfl,rfl⟩;rintro env hp ⟨rfl,g1,g5,hI⟩;have b5:rY (bK k ds) (aD k) p.pk 0 p.P=true:=by rw[hI];rfl
 have hwr:∀w:Nat,(plc (aD k) w).1 ≠ -2/\w<p.P.length->wr .i64 ((plc p.P w).1+(plc p.P w).2)=(plc p.P w).1+(plc p.P w).2:=λw hw=>by have:=zV (sz:=bK k ds) (sp:=aD k) (pk:=p.pk) p.P 0 w b5 hw.2;rw[bF]at this;simp only[okP,if_neg hw.1,aF,aR]at this;have h2:=hsz w;exact aU (by omega) (by omega)
 have hIb:k.aSf.es.length<=big:=k.aSf.ok;rw[b5,cE];clear hI;obtain⟨R,hR⟩:∃R,R=List.range (k.aSf.es.length+2):=⟨_,rfl⟩
 have hRl:R.length=k.aSf.es.length+2:=by rw[hR,List.length_range]
 rw[<-hR];simp only[rP,rQ,aM,hzP,bG,go_sem,seval]
 refine aJ R (λd r env hp=>env=MK (.pt 1 0 0) (.pt 5 0 0) (.int .i64 ((d.length:Int)-1))/\hp.get 1=some (0,.blk k.cells 6 true true false)/\hp.get 5=some (0,.blk p.cells 3 true true false) /\
  lK k p.P 0 R=lK k p.P d.length r) ?_ ?_ ?_
 exact⟨rfl,g1,g5,rfl⟩;rintro env hp ⟨rfl,g1,g5,hI⟩;simp only[aA.cells,Sl.av]at g1;have e1:decide ((R.length:Int)-1<=(k.aSf.es.length:Int))=false:=decide_eq_false (by omega);simp only[MG,MK,e1,g1,aM,go_sem,seval];rw[hI];rfl;rintro d x r env hp hes ⟨rfl,g1,g5,hI⟩;rw[hR]at hes;obtain⟨rfl,hlt⟩:=iD hes;have hl:(d++[d.length]).length=d.length+1:=by simp
 have e1:decide ((d.length:Int)-1<=(k.aSf.es.length:Int))=true:=by simp;omega
 have hw:wr .i64 ((d.length:Int)-1+1)=((d++[d.length]).length:Int)-1:=by rw[aU (by omega) (by simp only[big]at hIb;omega)];rw[hl];omega
 obtain⟨r11,a11,s11⟩:=h12 ((d.length:Int)-1);rw[aA.avc]at a11;unfold kL at s11;rw[if_pos hc,if_neg (by omega)]at s11;obtain⟨n3,c3,rfl⟩:=s11
 have hlv:∀w∈cC ((d.length:Int)-1) (aD k),0<=w/\w.toNat<p.P.length:=λw hw=>by obtain⟨u,u1,u2,_⟩:=eE.1 hw;have:=(cJ.1 u2).1;exact⟨u1,by omega⟩
 have hlv2:∀w:Nat,(w:Int)∈cC ((d.length:Int)-1) (aD k)->(plc (aD k) w).1 ≠ -2/\w<p.P.length:=λw hw=>by obtain⟨u,u1,u2,u3⟩:=eE.1 hw;rw[dU]at u2;have:=(cJ.1 u2).1;refine⟨?_,by omega⟩;rw[FU u2];simp only[fQ,aF,eA,eJ]at u3;exact u3.1.1
 have hlvl:=(gO ((d.length:Int)-1) _ (aD k) rfl).2;rw[lK]at hI;rw[hI];clear hI hes;generalize cC ((d.length:Int)-1) (aD k)=lv at *;generalize hat:(d.length:Int)-1=at_ at *;have g1':=g1;simp only[aA.cells,Sl.av]at g1;simp only[MG,MK,e1,g1,aM,go_sem,seval];refine aB a11 (Wk ?_);have hlb:lv.length<=big:=by have:=k.aSe.ok;omega
 refine aJ lv (λd2 r2 env hp'=>env=ML (.pt 1 0 0) (.pt 5 0 0) (.int .i64 at_) (.sl n3 (lv.map aH) c3) (.int .i64 d2.length)/\hp'.get 1=some (0,.blk k.cells 6 true true false)/\hp'.get 5=some (0,.blk p.cells 3 true true false) /\
  mU k p.P at_ [] lv=mU k p.P at_ d2 r2) ?_ ?_ ?_
 exact⟨rfl,g1',g5,rfl⟩;rintro env hp' ⟨rfl,g1,g5,hI⟩;simp only[MI,ML,bG,hw,aM,go_sem,seval];exact⟨by kernel_rfl,g1,g5,by rw[hI,hl];rfl⟩;rintro d2 v r2 env hp' hes ⟨rfl,g1,g5,hI⟩;obtain⟨hget,f1,f2,ew⟩:=dJ hes hlb;rw[mU]at hI;obtain⟨hv0,hvP⟩:=hlv v (by rw[hes];simp);obtain⟨u,rfl⟩:=jN hv0;rw[dU]at hvP hI;have hl2:d2.length<=big:=by have:=congrArg List.length hes;simp at this;omega
 have lt2:((d2.length:Int)<(lv.length:Int))=True:=aK (by have:=congrArg List.length hes;simp at this;omega);simp only[MI,ML,f1,f2,hget,aM,go_sem,seval]
 refine aJ d2 (λd3 r3 env hp3=>env=MM (.pt 1 0 0) (.pt 5 0 0) (.int .i64 at_) (.sl n3 (lv.map aH) c3) (.int .i64 d2.length) (.int .i64 d3.length) /\
  hp3.get 1=some (0,.blk k.cells 6 true true false)/\hp3.get 5=some (0,.blk p.cells 3 true true false) /\
  d2.all (λw=>gG k p.P at_ u w.toNat)=r3.all (λw=>gG k p.P at_ u w.toNat)) ?_ ?_ ?_
 exact⟨rfl,g1,g5,rfl⟩;rintro env hp3 ⟨rfl,g1,g5,hI3⟩;have hall:d2.all (λw=>gG k p.P at_ u w.toNat)=true:=by rw[hI3];rfl
 rw[hall,cE]at hI;simp only[MJ,MM,bG,ew,go_sem,seval];exact⟨by kernel_rfl,g1,g5,hI⟩;rintro d3 w r3 env hp3 hes3 ⟨rfl,g1,g5,hI3⟩;obtain⟨hget3,k1,k2,ew3⟩:=dJ hes3 hl2;have hwm:w∈lv:=by rw[hes,hes3];simp
 obtain⟨hw0,hwP⟩:=hlv w hwm;obtain⟨y,rfl⟩:=jN hw0;rw[dU]at hwP;rw[fV,dU]at hI3;have hgl:(lv.map aH)[d3.length]?=some (aH (y:Int)):=by rw[fX,hes,hes3];simp
 have lt3:((d3.length:Int)<(lv.length:Int))=True:=aK (by have:=congrArg List.length hes;have h3:=congrArg List.length hes3;simp at this h3;omega);have wu:wr .i64 ((plc p.P u).1+(plc p.P u).2)=(plc p.P u).1+(plc p.P u).2:=hwr u (hlv2 u (by rw[hes];simp));have wy:wr .i64 ((plc p.P y).1+(plc p.P y).2)=(plc p.P y).1+(plc p.P y).2:=hwr y (hlv2 y hwm);have a30:=c630 h630 h638 k p h265 at_ u y hvP hwP wy wu;rw[aA.avc,dK.avc]at a30;have g1':=g1;have g5':=g5;simp only[aA.cells,Sl.av]at g1;simp only[dK.cells]at g5;simp only[MJ,MM,k1,k2,f1,f2,hget,hgl,lt2,lt3,g1,g5,go_sem,seval];refine bZ a30 (by simp only[tlP,go_sem,seval]) rfl ?_;cases hap:gG k p.P at_ u y;rw[hap,d9]at hI3;rw[hI3,d9]at hI;refine Wk ?_;refine⟨by kernel_rfl,?_⟩;rw[hI,d9];rw[hap,cE]at hI3;refine Wk ?_;refine⟨by kernel_rfl,?_⟩;simp only[ew3,go_sem,seval];exact⟨by kernel_rfl,g1',g5',hI3⟩;rintro d x r env hp hes ⟨rfl,g1,g5,hI⟩;obtain⟨hget,f1,f2,ew⟩:=dJ hes hPb;have hlt:d.length<p.P.length:=(cJ.1 hget).1;have l1:((d.length:Int)<((bK k ds).length:Int))=True:=aK (by omega);have l2:((d.length:Int)<((aD k).length:Int))=True:=aK (by omega);have hz':((bK k ds).map aH)[d.length]?=some (aH (bI (bK k ds) d.length)):=by rw[fX,bI,fY,aW (by omega)];rfl
 have hs':=FV (P:=aD k) (v:=d.length) (by omega);have hge:=OZ k d.length;have hzd:=hsz d.length;have hl:(d++[x]).length=d.length+1:=by simp
 rw[rY]at hI;have hloop:decide ((d.length:Int)<((bK k ds).length:Int))=true:=decide_eq_true (by omega);have g1':=g1;have g5':=g5;simp only[dK.cells]at g5;rw[hI];clear hI hes;cases e1:decide (x.2=bI (bK k ds) d.length);have hok:okP (bK k ds) (aD k) p.pk d.length x=false:=by simp only[okP,e1,d9]
 simp only[rP,rQ,hloop,f1,f2,hget,l1,hz',bO,e1,g5,aM,go_sem,seval];refine⟨by kernel_rfl,?_⟩;rw[hok,d9,d9];have x1:=aO e1;have w1:wr .i64 (p.pk-x.2)=p.pk-x.2:=aU (by omega) (by omega);cases e2:decide ((plc (aD k) d.length).1 < -1);have n2:¬(plc (aD k) d.length).1 = -2:=by have:=bW e2;omega
 have e2':decide (-1<=(plc (aD k) d.length).1)=true:=by have:=bW e2;simp;omega
 cases e3:decide (x.1<0);have q3:decide (0<=x.1)=true:=by have:=bW e3;simp;omega
 cases e4:decide (p.pk-x.2<x.1);have q4:decide (x.1<=p.pk-x.2)=true:=by have:=bW e4;simp;omega
 have hok:okP (bK k ds) (aD k) p.pk d.length x=true:=by simp only[okP,e1,if_neg n2,q3,q4,Bool.and_self]
 simp only[rP,rQ,hloop,f1,f2,hget,l1,l2,hz',hs',bO,e1,e2,e2',e3,e4,w1,g5,aM,go_sem,seval];refine⟨by kernel_rfl,?_⟩;simp only[ew,go_sem,seval];exact⟨by kernel_rfl,g1',rfl,by rw[hok,hl];rfl⟩;have q4:decide (x.1<=p.pk-x.2)=false:=by have:=aO e4;simp;omega
 have hok:okP (bK k ds) (aD k) p.pk d.length x=false:=by simp only[okP,e1,if_neg n2,q3,q4,gD,cE]
 simp only[rP,rQ,hloop,f1,f2,hget,l1,l2,hz',hs',bO,e1,e2,e2',e3,e4,w1,g5,aM,go_sem,seval];refine⟨by kernel_rfl,?_⟩;rw[hok,d9,d9];have q3:decide (0<=x.1)=false:=by have:=aO e3;simp;omega
 have hok:okP (bK k ds) (aD k) p.pk d.length x=false:=by simp only[okP,e1,if_neg n2,q3,d9,gD]
 simp only[rP,rQ,hloop,f1,f2,hget,l1,l2,hz',hs',bO,e1,e2,e2',e3,w1,g5,aM,go_sem,seval];refine⟨by kernel_rfl,?_⟩;rw[hok,d9,d9];have n2:(plc (aD k) d.length).1 = -2:=by have:=aO e2;omega
 have e2':decide (-1<=(plc (aD k) d.length).1)=false:=by rw[n2];decide
 cases e3:decide (x.1 = -1);have hok:okP (bK k ds) (aD k) p.pk d.length x=false:=by simp only[okP,e1,if_pos n2,e3,gD]
 simp only[rP,rQ,hloop,f1,f2,hget,l1,l2,hz',hs',bO,e1,e2,e2',e3,w1,g5,aM,go_sem,seval];refine⟨by kernel_rfl,?_⟩;rw[hok,d9,d9];have hok:okP (bK k ds) (aD k) p.pk d.length x=true:=by simp only[okP,e1,if_pos n2,e3,Bool.and_self]
 simp only[rP,rQ,hloop,f1,f2,hget,l1,l2,hz',hs',bO,e1,e2,e2',e3,w1,g5,aM,go_sem,seval];refine⟨by kernel_rfl,?_⟩;simp only[ew,go_sem,seval];exact⟨by kernel_rfl,g1',rfl,by rw[hok,hl];rfl⟩
end
end
section
section
variable{pg:Pg}{kb:Nat}
def RY(pg:Pg)(k e:Nat)(args:List AV)(h:Hp)(Q:AV->Hp->Prop):Prop:=∃n v h',(cM pg n).yl k e args h=some (v,h')/\Q v h'
theorem aMz{s:Nat}{th im:Bool}{h:Hp}{k e:Nat}{args:List AV}{Q:AV->Eff->Prop}{t:Tok Q}(hr:RY pg k e args h (λv h'=>Q v (.whole h'))) :
  XO pg kb (.callv th im) s h (.yl k e::args) Q t:=by
 obtain⟨n,v,h',h1,h2⟩:=hr;exact⟨n,v,.whole h',by simp only[opR,h1],h2⟩
theorem RY.of{k e b:Nat}{env:List AV}{ps:List Nat}{ca cb:C}{args:List AV}{h:Hp}{Q:AV->Hp->Prop}(hg:h.get k=some (e,.lp 0 b env ps ca cb))(hl:ps.length=args.length)
  (hw:XX pg b ca ⟨vL env ps args,h⟩ (λex st1=>ex = .nor/\st1.hp.get k=some (e,.lp 0 b env ps ca cb)/\XX pg b cb ⟨st1.env,st1.hp.put k e (.lp 1 b env ps ca cb)⟩ (λx st2=>st2.hp.get k=some (e,.lp 1 b env ps ca cb)/\Q (.bool (x == .nor)) (st2.hp.put k e (.lp x.code b env ps ca cb))) ⟨⟩) ⟨⟩):RY pg k e args h Q:=by
 obtain⟨n,ex,st1,h1,rfl,h2,m,x,st2,h3,h4,h5⟩:=hw;refine⟨max n m+1,_,_,?_,h5⟩;have e1:=rK (Nat.le_max_left n m) h1;have e2:=rK (Nat.le_max_right n m) h3;simp only[cM,yO,hg,hl,and_self,aN,e1,h2,e2,h4]
theorem aMy{x:X}{s:Nat}{ps:List Nat}{a b:C}{st:St}{Q:Ex->St->Prop}{t:Tok Q}{f:Nat}{cs:List AV}(hx:x.ev pg.gl st.env = .fn f cs)
  (hr:jK pg f (.yl (kb+s) (st.hp.next (kb+s))::cs) ((kb+s+1)*65536) (st.hp.put (kb+s) (st.hp.next (kb+s)) (.lp 0 kb st.env ps a b))
   (λ_ h'=>∃ex b' env' ps' ca' cb',h'.get (kb+s)=some (st.hp.next (kb+s),.lp (Ex.code ex) b' env' ps' ca' cb')/\Q ex ⟨st.env,h'.put (kb+s) (st.hp.next (kb+s)) .dead⟩)) :
  XX pg kb (.rf x s ps a b) st Q t:=by
 obtain⟨r,h',⟨n,e⟩,ex,b',env',ps',ca',cb',hg,hq⟩:=hr;refine⟨n,ex,_,?_,hq⟩;simp only[d6,hx,e,QT,hg,aN];cases ex<;>rfl
theorem c694(hf:pg.fs 694=some DI)(k:aA)(hc:(cY k).2=0)(h11:∀at_:Int,bQ pg 11 [k.av,.int .i64 at_] (kL k at_))(kk e:Nat)(h:Hp)(J:Nat->Hp->Prop)(P:AV->Hp->Prop)(h0:J 0 h)
  (step:∀(j:Nat)(hp:Hp)(n3 k3:Bool),j<k.aSf.es.length+2->J j hp->RY pg kk e [.int .i64 ((j:Int)-1),.sl n3 ((cC ((j:Int)-1) (aD k)).map aH) k3] hp (λv hp'=>v = .bool true/\J (j+1) hp'))
  (hP:∀r hp,J (k.aSf.es.length+2) hp->P r hp):jK pg 694 [.yl kk e,.fp k.av] kb h P:=by
 have hIb:=k.aSf.ok;obtain⟨R,hR⟩:∃R,R=List.range (k.aSf.es.length+2):=⟨_,rfl⟩
 have hRl:R.length=k.aSf.es.length+2:=by rw[hR,List.length_range]
 refine jK.ofX hf ?_;unfold DI;rw[aA.avc];refine Wk ?_;refine aJ R (λd r env hp=>env=L5 (.yl kk e) (.fp k.av) (.int .i64 ((d.length:Int)-1))/\J d.length hp) ?_ ?_ ?_;exact⟨by rw[aA.avc];rfl,h0⟩;rintro env hp ⟨rfl,hJ⟩;have e1:decide ((R.length:Int)-1<=(k.aSf.es.length:Int))=false:=decide_eq_false (by omega);rw[aA.avc];simp only[L4,L5,e1,aM,go_sem,seval];rw[hRl]at hJ;exact hP _ _ hJ;rintro d x r env hp hes ⟨rfl,hJ⟩;rw[hR]at hes;obtain⟨rfl,hlt⟩:=iD hes;have hl:(d++[d.length]).length=d.length+1:=by simp
 have e1:decide ((d.length:Int)-1<=(k.aSf.es.length:Int))=true:=by simp;omega
 have hw:wr .i64 ((d.length:Int)-1+1)=((d++[d.length]).length:Int)-1:=by rw[aU (by omega) (by simp only[big]at hIb;omega)];rw[hl];omega
 obtain⟨r11,a11,s11⟩:=h11 ((d.length:Int)-1);rw[aA.avc]at a11;unfold kL at s11;rw[if_pos hc,if_neg (by omega)]at s11;obtain⟨n3,k3,rfl⟩:=s11;have hst:=step d.length hp n3 k3 hlt hJ;rw[aA.avc];generalize cC ((d.length:Int)-1) (aD k)=lv at *;simp only[L4,L5,e1,aM,go_sem,seval];refine aB a11 (Wk ?_);refine aMz ?_;obtain⟨n,v,h',q1,rfl,q3⟩:=hst;refine⟨n,_,h',q1,?_⟩;simp only[hw,go_sem,seval];exact⟨rfl,by rw[hl];exact q3⟩
theorem KT{x:X}{s p1 p2:Nat}{a b:C}{st:St}{Q:Ex->St->Prop}{t:Tok Q}(hf:pg.fs 694=some DI)(k:aA)(hc:(cY k).2=0)(h11:∀at_:Int,bQ pg 11 [k.av,.int .i64 at_] (kL k at_))(hx:x.ev pg.gl st.env = .fn 694 [.fp k.av])
  (I:Nat->Hp->Prop) (hI:∀j hp e o,I j hp->I j (hp.put (kb+s) e o)) (h0:I 0 st.hp)
  (step:∀(j:Nat)(n3 k3:Bool),j<k.aSf.es.length+2->∀hp,XX pg kb a ⟨vL st.env [p1,p2] [.int .i64 ((j:Int)-1),.sl n3 ((cC ((j:Int)-1) (aD k)).map aH) k3],hp⟩ (λex st1=>ex = .nor/\st1.hp=hp /\
   ∀hp1,I j hp1->XX pg kb b ⟨st1.env,hp1⟩ (λx st2=>x = .nor/\st2.hp.get (kb+s)=hp1.get (kb+s)/\I (j+1) st2.hp) ⟨⟩) ⟨⟩)
  (hQ:∀hp,I (k.aSf.es.length+2) hp->Q .nor ⟨st.env,hp⟩):XX pg kb (.rf x s [p1,p2] a b) st Q t:=by
 refine aMy hx ?_;generalize st.hp.next (kb+s)=e0;refine c694 hf k hc h11 (kb+s) e0 _ (λj hp=>hp.get (kb+s)=some (e0,.lp 0 kb st.env [p1,p2] a b)/\I j hp) _ ?_ ?_ ?_;exact⟨by rw[aI,if_pos rfl],hI _ _ _ _ h0⟩;rintro j hp n3 k3 hj ⟨hg,hIj⟩;refine RY.of hg rfl ?_;obtain⟨n,ex,st1,h1,rfl,h2,h3⟩:=step j n3 k3 hj hp;refine⟨n,.nor,st1,h1,rfl,by rw[h2];exact hg,?_⟩;obtain⟨m,ex2,st2,h4,rfl,h5,h6⟩:=h3 (st1.hp.put (kb+s) e0 (.lp 1 kb st.env [p1,p2] a b)) (hI _ _ _ _ (by rw[h2];exact hIj));refine⟨m,.nor,st2,h4,?_,rfl,?_,hI _ _ _ _ h6⟩;rw[h5,aI,if_pos rfl];rw[aI,if_pos rfl];rfl;rintro r hp ⟨hg,hIj⟩;exact⟨.nor,_,_,_,_,_,hg,hQ _ (hI _ _ _ _ hIj)⟩
end
end
section
def o7(k:aA)(ds:List Val)(p:dK):Bool:=
 decide ((p.P.length:Int)=(k.aSe.es.length:Int))&&decide ((p.C.length:Int)=(k.aSf.es.length:Int)) && !decide (p.pk<0) && !decide (1000000<p.pk)&&rY (bK k ds) (aD k) p.pk 0 p.P
def oZ(k:aA)(ds:List Val)(p:dK):Int:=if cL k ds=0 then (if o7 k ds p then 0 else 21) else cL k ds
theorem JX{k:aA}(ds:List Val)(h:¬(cY k).2=0):cL k ds=22:=by rw[cL,if_neg h]
section
variable{pg:Pg}
theorem c684(hf:pg.fs 684=some Q5)(k:aA)(h28:Ret pg 28 [k.av] (.tup [.int .i64 (cY k).1,.int .i64 (cY k).2])):Ret pg 684 [k.av] (.int .i64 (cY k).2):=by rw[aA.avc]at h28 ⊢;refine Ret.ofX hf ?_;unfold Q5;refine Wk ?_;refine aB h28 ?_;simp only[go_sem,seval]
theorem c677(hf:pg.fs 677=some Q8)(k:aA):Ret pg 677 [k.av] (.fn 694 [.fp k.av]):=by rw[aA.avc];refine Ret.ofX hf ?_;unfold Q8;refine Wk ?_;simp only[Hp.get_cons,conv,depth,fE,cW,bM,go_sem,seval]
theorem c663(hf:pg.fs 663=some RB)(k:aA)(h8:Ret pg 8 [k.av] (.bool (qT k)))(p:dK)(nl cl:Bool)(ds:List Val) :
  Ret pg 663 [k.av,p.av,.sl nl (ds.map Val.av) cl] (.bool (qT k&&decide ((ds.length:Int)<=13)&&decide ((p.P.length:Int)<=20)&&decide ((p.C.length:Int)<=20))):=by
 rw[aA.avc]at h8 ⊢;rw[dK.avc];refine Ret.ofX hf ?_;unfold RB;refine Wk ?_;refine aB h8 ?_;cases b0:qT k;simp only[go_sem,seval];cases b1:decide ((ds.length:Int)<=13);simp only[b1,aM,go_sem,seval];cases b2:decide ((p.P.length:Int)<=20);simp only[b1,b2,aM,go_sem,seval];simp only[b1,b2,aM,go_sem,seval]
set_option maxRecDepth 100000 in
set_option maxHeartbeats 4000000 in
theorem c676(hf:pg.fs 676=some G0)(k:aA)(nl cl:Bool)(ds:List Val)(p:dK)(h684:Ret pg 684 [k.av] (.int .i64 (cY k).2))(h16:Ret pg 16 [k.av,.sl nl (ds.map Val.av) cl] (iL k ds))(h9:bQ pg 9 [k.av] (lI k)) :
  Ret pg 676 [k.av,p.av,.sl nl (ds.map Val.av) cl] (.int .i64 (oZ k ds p)):=by
 obtain⟨r9,a9,s9⟩:=h9;have tlP:=j0 p.P;rw[aA.avc]at h16 a9 h684;rw[aA.avc,dK.avc];by_cases hc:(cY k).2=0
 case neg=>
  have b0:decide ((cY k).2=0)=false:=by simp[hc]
  have hx:oZ k ds p=22:=by rw[oZ,JX ds hc];rfl
  rw[hx];refine Ret.ofX hf ?_;unfold G0;refine Wk ?_;refine aB h684 ?_;simp only[b0,go_sem,seval]
 have b0:decide ((cY k).2=0)=true:=by simp[hc]
 by_cases hx:cL k ds=0
 case neg=>
  have b9:decide (cL k ds=0)=false:=by simp[hx]
  rw[iL,if_neg hx]at h16;rw[oZ,if_neg hx];refine Ret.ofX hf ?_;unfold G0;refine Wk ?_;refine aB h684 ?_;simp only[b0,go_sem,seval];refine aB h16 ?_;simp only[b9,go_sem,seval]
 rw[iL,if_pos hx]at h16;rw[oZ,if_pos hx];rw[lI,if_pos hc]at s9;subst s9;have ok:=cA hc;have hsz:=qD hx;obtain⟨_,hsl,hzl⟩:=nP (ds:=ds) ok;have hfold:eI (fA ds) (aD k) k.aSe.es=bK k ds:=rfl;rw[hfold]at h16 hzl;have hP:=p.bP;refine Ret.ofX hf ?_;unfold G0;refine Wk ?_;refine aB h684 ?_;simp only[b0,go_sem,seval];refine aB h16 (Wk ?_);refine aB a9 ?_;cases b1:decide ((p.P.length:Int)=(k.aSe.es.length:Int));simp only[b1,aM,go_sem,seval];simp[o7,b1];cases b2:decide ((p.C.length:Int)=(k.aSf.es.length:Int));simp only[b1,b2,aM,go_sem,seval];simp[o7,b2];cases b3:decide (p.pk<0)
 case true=>simp only[b1,b2,b3,aM,go_sem,seval];simp[o7,b3]
 cases b4:decide (1000000<p.pk)
 case true=>simp only[b1,b2,b3,b4,aM,go_sem,seval];simp[o7,b4]
 have hPV:p.P.length=k.aSe.es.length:=by have:=aO b1;omega
 have hp0:0<=p.pk:=by have:=bW b3;omega
 have hp1:p.pk<=1000000:=by have:=bW b4;omega
 have hform:o7 k ds p=rY (bK k ds) (aD k) p.pk 0 p.P:=by simp[o7,b1,b2,b3,b4]
 rw[hform];clear hform;simp only[b1,b2,b3,b4,aM,go_sem,seval]
 refine aJ p.P (λd r env hp=>env=pR (.pt 5 0 0) (.sl false ((bK k ds).map aH) true) (.sl false ((aD k).map bO) false) (.sl p.n1 (p.P.map bO) p.c1) (.int .i64 p.P.length) (.int .i64 d.length)/\hp.get 5=some (0,.blk [.sl p.n1 (p.P.map bO) p.c1,.sl p.n2 (p.C.map aH) p.c2,.int .i64 p.pk] 3 true true false) /\
  rY (bK k ds) (aD k) p.pk 0 p.P=rY (bK k ds) (aD k) p.pk d.length r) ?_ ?_ ?_
 exact⟨rfl,rfl,rfl⟩;rintro env hp ⟨rfl,g5,hI⟩;simp only[pQ,pR,bG,go_sem,seval];rw[hI];rfl
 ·rintro d x r env hp hes ⟨rfl,g5,hI⟩;obtain⟨hget,f1,f2,ew⟩:=dJ hes hP;have hlt:d.length<p.P.length:=(cJ.1 hget).1;have l1:((d.length:Int)<((bK k ds).length:Int))=True:=aK (by omega);have l2:((d.length:Int)<((aD k).length:Int))=True:=aK (by omega);have hz':((bK k ds).map aH)[d.length]?=some (aH (bI (bK k ds) d.length)):=by rw[fX,bI,fY,aW (by omega)];rfl
  have hs':=FV (P:=aD k) (v:=d.length) (by omega);have hge:=OZ k d.length;have hzd:=hsz d.length;have hl:(d++[x]).length=d.length+1:=by simp
  rw[rY]at hI;rw[hI];clear hI hes;cases e2:decide ((plc (aD k) d.length).1 < -1)
  ·have n2:¬(plc (aD k) d.length).1 = -2:=by have:=bW e2;omega
   cases e1:decide (x.2=bI (bK k ds) d.length)
   ·have hok:okP (bK k ds) (aD k) p.pk d.length x=false:=by simp only[okP,e1,d9]
    rw[hok]
    repeat (first|simp only[pQ,pR,f1,f2,hget,l1,l2,hz',hs',bO,e1,e2,go_sem,seval]|refine aY ?_)
    exact(show _=true by kernel_rfl)
   have x1:=aO e1;have w1:wr .i64 (p.pk-x.2)=p.pk-x.2:=aU (by omega) (by omega);cases e3:decide (x.1<0)
   ·have q3:decide (0<=x.1)=true:=by have:=bW e3;simp;omega
    cases e4:decide (p.pk-x.2<x.1);have q4:decide (x.1<=p.pk-x.2)=true:=by have:=bW e4;simp;omega
    have hok:okP (bK k ds) (aD k) p.pk d.length x=true:=by simp only[okP,e1,if_neg n2,q3,q4,Bool.and_self]
    rw[hok];simp only[pQ,pR,f1,f2,hget,l1,l2,hz',hs',bO,e1,e2,e3,e4,w1,g5,ew,go_sem,seval];exact⟨by kernel_rfl,rfl,by rw[hl]⟩
    ·have q4:decide (x.1<=p.pk-x.2)=false:=by have:=aO e4;simp;omega
     have hok:okP (bK k ds) (aD k) p.pk d.length x=false:=by simp only[okP,e1,if_neg n2,q3,q4,gD,cE]
     rw[hok]
     repeat (first|simp only[pQ,pR,f1,f2,hget,l1,l2,hz',hs',bO,e1,e2,e3,e4,w1,g5,go_sem,seval]|refine aY ?_)
     exact(show _=true by kernel_rfl)
   ·have q3:decide (0<=x.1)=false:=by have:=aO e3;simp;omega
    have hok:okP (bK k ds) (aD k) p.pk d.length x=false:=by simp only[okP,e1,if_neg n2,q3,d9,gD]
    rw[hok]
    repeat (first|simp only[pQ,pR,f1,f2,hget,l1,l2,hz',hs',bO,e1,e2,e3,w1,g5,go_sem,seval]|refine aY ?_)
    exact(show _=true by kernel_rfl)
  ·have n2:(plc (aD k) d.length).1 = -2:=by have:=aO e2;omega
   cases e1:decide (x.2=bI (bK k ds) d.length)
   ·have hok:okP (bK k ds) (aD k) p.pk d.length x=false:=by simp only[okP,e1,d9]
    rw[hok]
    repeat (first|simp only[pQ,pR,f1,f2,hget,l1,l2,hz',hs',bO,e1,e2,go_sem,seval]|refine aY ?_)
    exact(show _=true by kernel_rfl)
   cases e3:decide (x.1 = -1)
   ·have hok:okP (bK k ds) (aD k) p.pk d.length x=false:=by simp only[okP,e1,if_pos n2,e3,gD]
    rw[hok]
    repeat (first|simp only[pQ,pR,f1,f2,hget,l1,l2,hz',hs',bO,e1,e2,e3,go_sem,seval]|refine aY ?_)
    exact(show _=true by kernel_rfl)
   have hok:okP (bK k ds) (aD k) p.pk d.length x=true:=by simp only[okP,e1,if_pos n2,e3,Bool.and_self]
   rw[hok];simp only[pQ,pR,f1,f2,hget,l1,l2,hz',hs',bO,e1,e2,e3,ew,go_sem,seval];exact⟨by kernel_rfl,rfl,g5,by rw[hl]⟩
end
end
section
structure Cl where
 t:Int
 a:Int
 b:Int
 w:Int
def Cl.av(c:Cl):AV:=.agg [.int .i64 c.t,.int .i64 c.a,.int .i64 c.b,.int .i64 c.w]
def YH(k:aA)(P:List Sp)(at_ a b:Int):List Cl:=
 if gG k P at_ a.toNat b.toNat then [] else [⟨at_,a,b,mxI (plc P a.toNat).1 (plc P b.toNat).1⟩]
def aDc(k:aA)(P:List Sp)(at_:Int):List Int->List Cl
 |[]=>[]
 |a::r=>r.flatMap (YH k P at_ a)++aDc k P at_ r
def aFO(k:aA)(P:List Sp)(R:List Nat):List Cl:=R.flatMap fun(j:Nat)=>aDc k P ((j:Int)-1) (cC ((j:Int)-1) (aD k))
def aMb(k:aA)(P:List Sp):List Cl:=aFO k P (List.range (k.aSf.es.length+2))
end
section
def uJ(l:List Sp)(x:Nat):Bool:=l.any λp=>decide (p.1<=(x:Int))&&decide ((x:Int)<p.1+p.2)
def fM(l:List Sp):Nat->Int
 |0=>0
 |n+1=>fM l n+if uJ l n then 0 else 1
theorem tD{l:List Sp}{x:Nat}:uJ l x=true↔∃p∈l,p.1<=(x:Int)/\(x:Int)<p.1+p.2:=by simp[uJ,List.any_eq_true]
theorem AJ{l:List Sp}{x:Nat}(h:∀p∈l,¬(p.1<=(x:Int)/\(x:Int)<p.1+p.2)):uJ l x=false:=by cases hc:uJ l x;rfl;obtain⟨p,hp,h1⟩:=tD.1 hc;exact absurd h1 (h p hp)
theorem X5{l:List Sp}{a:Nat}:∀n:Nat,(∀x:Nat,a<=x->x<a+n->uJ l x=false)->fM l (a+n)=fM l a+n
 |0,_=>by simp
 |n+1,h=>by have ih:=X5 n (λx h1 h2=>h x h1 (by omega));rw[<-eX,fM,h (a+n) (by omega) (by omega),ih];simp only[bR,aL];omega
theorem X6{l:List Sp}{a:Nat}:∀n:Nat,(∀x:Nat,a<=x->x<a+n->uJ l x=true)->fM l (a+n)=fM l a
 |0,_=>by simp
 |n+1,h=>by have ih:=X6 n (λx h1 h2=>h x h1 (by omega));rw[<-eX,fM,h (a+n) (by omega) (by omega),ih];simp
theorem ES{l:List Sp}{a b:Int}(ha:0<=a)(hab:a<=b)(h:∀x:Nat,a<=(x:Int)->(x:Int)<b->uJ l x=false):fM l b.toNat=fM l a.toNat+(b-a):=by have:=X5 (l:=l) (a:=a.toNat) (b-a).toNat (λx h1 h2=>h x (by omega) (by omega));rw[show a.toNat+(b-a).toNat=b.toNat from by omega]at this;rw[this];omega
theorem OK{l:List Sp}{a b:Int}(ha:0<=a)(hab:a<=b)(h:∀x:Nat,a<=(x:Int)->(x:Int)<b->uJ l x=true):fM l b.toNat=fM l a.toNat:=by have:=X6 (l:=l) (a:=a.toNat) (b-a).toNat (λx h1 h2=>h x (by omega) (by omega));rw[show a.toNat+(b-a).toNat=b.toNat from by omega]at this;exact this
theorem H9{l l':List Sp}(h:∀p,p∈l↔p∈l'):∀n,fM l n=fM l' n
 |0=>rfl
 |n+1=>by
  have hc:uJ l n=uJ l' n:=by rw[Bool.eq_iff_iff,tD,tD];simp only[h]
  rw[fM,fM,hc,H9 h n]
def qG:Int->Int->List Sp->Int×Int
 |f,e,[]=>(f,e)
 |f,e,q::r=>if q.2=0 then qG f e r else qG (f+mxI (q.1-e) 0) (mxI e (q.1+q.2)) r
theorem zO{L:List Sp}{pk:Int}(hL:∀p∈L,0<=p.1/\0<=p.2/\p.1+p.2<=pk):∀(r:List Sp)(f e:Int),(∀p∈r,p∈L)->(∀p∈L,p∈r\/p.2=0\/p.1+p.2<=e)->r.Pairwise (λa b=>a.1<=b.1)->0<=e->e<=pk->f=fM L e.toNat ->
  (qG f e r).1+pk-(qG f e r).2=fM L pk.toNat
 |[],f,e,_,hd,_,h0,h1,hf=>by
  have:=ES (l:=L) h0 h1 (λx h2 h3=>AJ (λp hp hc=>by
   rcases hd p hp with h|h|h;simp at h;omega;omega))
  simp only[qG];omega
 |q::r,f,e,hr,hd,hs,h0,h1,hf=>by
  have hs':=List.pairwise_cons.1 hs;obtain⟨q1,q2,q3⟩:=hL q (hr q (by simp));rw[qG];by_cases hz:q.2=0;rw[if_pos hz]
  exact zO hL r f e (λp hp=>hr p (by simp[hp])) (λp hp=>by
   rcases hd p hp with h|h|h;rcases dA.1 h with rfl|h;exact .inr (.inl hz);exact .inl h;exact .inr (.inl h);exact .inr (.inr h)) hs'.2 h0 h1 hf
  rw[if_neg hz];have hcq:∀x:Nat,q.1<=(x:Int)->(x:Int)<q.1+q.2->uJ L x=true:=λx h2 h3=>tD.2 ⟨q,hr q (by simp),h2,h3⟩;refine zO hL r _ _ (λp hp=>hr p (by simp[hp])) (λp hp=>?_) hs'.2 ?_ ?_ ?_;rcases hd p hp with h|h|h;rcases dA.1 h with rfl|h;refine .inr (.inr ?_);simp only[mxI];split<;>omega;exact .inl h;exact .inr (.inl h);refine .inr (.inr ?_);simp only[mxI];split<;>omega;simp only[mxI];split<;>omega;simp only[mxI];split<;>omega;by_cases hqe:q.1<e;by_cases hee:e<q.1+q.2;have:=OK (l:=L) h0 (Int.le_of_lt hee) (λx h2 h3=>hcq x (by omega) h3);simp only[mxI,if_pos hee,if_pos (show q.1-e<0 by omega)];omega;simp only[mxI,if_neg hee,if_pos (show q.1-e<0 by omega)];omega
  have g1:=ES (l:=L) h0 (show e<=q.1 by omega) (λx h2 h3=>AJ (λp hp hc=>by
   rcases hd p hp with h|h|h;rcases dA.1 h with rfl|h;omega;have:=hs'.1 p h;omega;omega;omega))
  have g2:=OK (l:=L) q1 (show q.1<=q.1+q.2 by omega) hcq;simp only[mxI,if_pos (show e<q.1+q.2 by omega),if_neg (show ¬q.1-e<0 by omega)];omega
end
end Go.Tev
