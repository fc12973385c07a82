import Derived.Test.YtmcadllokkmeiaaGreatDoorCBG
import Derived.Test.YtmcadllokkmeiaaGreatDoorCAH
import Derived.Test.YtmcadllokkmeiaaGreatDoorCAM
import Derived.Test.YtmcadllokkmeiaaGreatDoorCAR
import Derived.Test.YtmcadllokkmeiaaGreatDoorCAT
set_option linter.all false
namespace Go.Tev
section
theorem LR(k:aA)(v:Nat) : -2<=(plc (aF k) v).1:=by by_cases h:v<(aF k).length;rcases WJ (aCW (YS h)) with h|⟨h,_⟩|⟨j,_,_,_,h⟩<;>omega;rw[plc,List.getD_eq_getElem?_getD,eC (by omega)];decide
section
variable{pg:Pg}
end
end
section
section
variable{pg:Pg}{kb:Nat}
def RY(pg:Pg)(k e:Nat)(args:List AV)(h:Hp)(Q:AV->Hp->Prop):Prop:=∃n v h',(bW pg n).yl k e args h=some (v,h')/\Q v h'
theorem aKj{s:Nat}{th im:Bool}{h:Hp}{k e:Nat}{args:List AV}{Q:AV->Eff->Prop}{t:Tok Q}(hr:RY pg k e args h (λv h'=>Q v (.whole h'))) :
  XO pg kb (.callv th im) s h (.yl k e::args) Q t:=by
 obtain⟨n,v,h',h1,h2⟩:=hr;exact⟨n,v,.whole h',by simp only[opR,h1],h2⟩
theorem RY.of{k e b:Nat}{env:List AV}{ps:List Nat}{ca cb:C}{args:List AV}{h:Hp}{Q:AV->Hp->Prop}(hg:h.get k=some (e,.lp 0 b env ps ca cb))(hl:ps.length=args.length)
  (hw:XX pg b ca ⟨sU env ps args,h⟩ (λex st1=>ex = .nor/\st1.hp.get k=some (e,.lp 0 b env ps ca cb)/\XX pg b cb ⟨st1.env,st1.hp.put k e (.lp 1 b env ps ca cb)⟩ (λx st2=>st2.hp.get k=some (e,.lp 1 b env ps ca cb)/\Q (.bool (x == .nor)) (st2.hp.put k e (.lp x.code b env ps ca cb))) ⟨⟩) ⟨⟩):RY pg k e args h Q:=by
 obtain⟨n,ex,st1,h1,rfl,h2,m,x,st2,h3,h4,h5⟩:=hw;refine⟨max n m+1,_,_,?_,h5⟩;have e1:=p9 (Nat.le_max_left n m) h1;have e2:=p9 (Nat.le_max_right n m) h3;simp only[bW,wI,hg,hl,and_self,if_true,e1,h2,e2,h4]
theorem aKi{x:X}{s:Nat}{ps:List Nat}{a b:C}{st:St}{Q:Ex->St->Prop}{t:Tok Q}{f:Nat}{cs:List AV}(hx:x.ev pg.gl st.env = .fn f cs)
  (hr:gH pg f (.yl (kb+s) (st.hp.next (kb+s))::cs) ((kb+s+1)*65536) (st.hp.put (kb+s) (st.hp.next (kb+s)) (.lp 0 kb st.env ps a b))
   (λ_ h'=>∃ex b' env' ps' ca' cb',h'.get (kb+s)=some (st.hp.next (kb+s),.lp (Ex.code ex) b' env' ps' ca' cb')/\Q ex ⟨st.env,h'.put (kb+s) (st.hp.next (kb+s)) .dead⟩)) :
  XX pg kb (.rf x s ps a b) st Q t:=by
 obtain⟨r,h',⟨n,e⟩,ex,b',env',ps',ca',cb',hg,hq⟩:=hr;refine⟨n,ex,_,?_,hq⟩;simp only[cW,hx,e,NB,hg,if_true];cases ex<;>rfl
theorem c694(hf:pg.fs 694=some yE)(k:aA)(hc:(cP k).2=0)(h11:∀at_:Int,bE pg 11 [k.av,.int .i64 at_] (kM k at_))(kk e:Nat)(h:Hp)(J:Nat->Hp->Prop)(P:AV->Hp->Prop)(h0:J 0 h)
  (step:∀(j:Nat)(hp:Hp)(n3 k3:Bool),j<k.list.es.length+2->J j hp->RY pg kk e [.int .i64 ((j:Int)-1),.sl n3 ((cY ((j:Int)-1) (aF k)).map aJ) k3] hp (λv hp'=>v = .bool true/\J (j+1) hp'))
  (hP:∀r hp,J (k.list.es.length+2) hp->P r hp):gH pg 694 [.yl kk e,.fp k.av] kb h P:=by
 have hIb:=k.list.ok;obtain⟨R,hR⟩:∃R,R=List.range (k.list.es.length+2):=⟨_,rfl⟩
 have hRl:R.length=k.list.es.length+2:=by rw[hR,List.length_range]
 refine gH.ofX hf ?_;unfold yE;rw[aA.avc];refine Wk ?_;refine aK R (λd r env hp=>env=JL (.yl kk e) (.fp k.av) (.int .i64 ((d.length:Int)-1))/\J d.length hp) ?_ ?_ ?_;exact⟨by rw[aA.avc];rfl,h0⟩;rintro env hp ⟨rfl,hJ⟩;have e1:decide ((R.length:Int)-1<=(k.list.es.length:Int))=false:=decide_eq_false (by omega);rw[aA.avc];simp only[JK,JL,e1,aI,go_sem,seval];rw[hRl]at hJ;exact hP _ _ hJ;rintro d x r env hp hes ⟨rfl,hJ⟩;rw[hR]at hes;obtain⟨rfl,hlt⟩:=gT hes;have hl:(d++[d.length]).length=d.length+1:=by simp
 have e1:decide ((d.length:Int)-1<=(k.list.es.length:Int))=true:=by simp;omega
 have hw:wr .i64 ((d.length:Int)-1+1)=((d++[d.length]).length:Int)-1:=by rw[aO (by omega) (by simp only[big]at hIb;omega)];rw[hl];omega
 obtain⟨r11,a11,s11⟩:=h11 ((d.length:Int)-1);rw[aA.avc]at a11;unfold kM at s11;rw[if_pos hc,if_neg (by omega)]at s11;obtain⟨n3,k3,rfl⟩:=s11;have hst:=step d.length hp n3 k3 hlt hJ;rw[aA.avc];generalize cY ((d.length:Int)-1) (aF k)=lv at *;simp only[JK,JL,e1,aI,go_sem,seval];refine aB a11 (Wk ?_);refine aKj ?_;obtain⟨n,v,h',q1,rfl,q3⟩:=hst;refine⟨n,_,h',q1,?_⟩;simp only[hw,go_sem,seval];exact⟨rfl,by rw[hl];exact q3⟩
theorem IB{x:X}{s p1 p2:Nat}{a b:C}{st:St}{Q:Ex->St->Prop}{t:Tok Q}(hf:pg.fs 694=some yE)(k:aA)(hc:(cP k).2=0)(h11:∀at_:Int,bE pg 11 [k.av,.int .i64 at_] (kM k at_))(hx:x.ev pg.gl st.env = .fn 694 [.fp k.av])
  (I:Nat->Hp->Prop) (hI:∀j hp e o,I j hp->I j (hp.put (kb+s) e o)) (h0:I 0 st.hp)
  (step:∀(j:Nat)(n3 k3:Bool),j<k.list.es.length+2->∀hp,XX pg kb a ⟨sU st.env [p1,p2] [.int .i64 ((j:Int)-1),.sl n3 ((cY ((j:Int)-1) (aF k)).map aJ) k3],hp⟩ (λex st1=>ex = .nor/\st1.hp=hp /\
   ∀hp1,I j hp1->XX pg kb b ⟨st1.env,hp1⟩ (λx st2=>x = .nor/\st2.hp.get (kb+s)=hp1.get (kb+s)/\I (j+1) st2.hp) ⟨⟩) ⟨⟩)
  (hQ:∀hp,I (k.list.es.length+2) hp->Q .nor ⟨st.env,hp⟩):XX pg kb (.rf x s [p1,p2] a b) st Q t:=by
 refine aKi hx ?_;generalize st.hp.next (kb+s)=e0;refine c694 hf k hc h11 (kb+s) e0 _ (λj hp=>hp.get (kb+s)=some (e0,.lp 0 kb st.env [p1,p2] a b)/\I j hp) _ ?_ ?_ ?_;exact⟨by rw[aD,if_pos rfl],hI _ _ _ _ h0⟩;rintro j hp n3 k3 hj ⟨hg,hIj⟩;refine RY.of hg rfl ?_;obtain⟨n,ex,st1,h1,rfl,h2,h3⟩:=step j n3 k3 hj hp;refine⟨n,.nor,st1,h1,rfl,by rw[h2];exact hg,?_⟩;obtain⟨m,ex2,st2,h4,rfl,h5,h6⟩:=h3 (st1.hp.put (kb+s) e0 (.lp 1 kb st.env [p1,p2] a b)) (hI _ _ _ _ (by rw[h2];exact hIj));refine⟨m,.nor,st2,h4,?_,rfl,?_,hI _ _ _ _ h6⟩;rw[h5,aD,if_pos rfl];rw[aD,if_pos rfl];rfl;rintro r hp ⟨hg,hIj⟩;exact⟨.nor,_,_,_,_,_,hg,hQ _ (hI _ _ _ _ hIj)⟩
theorem aBV{x:X}{s p1 p2:Nat}{a b:C}{st:St}{Q:Ex->St->Prop}{t:Tok Q}(hf:pg.fs 694=some yE)(k:aA)(hc:(cP k).2=0)(h11:∀at_:Int,bE pg 11 [k.av,.int .i64 at_] (kM k at_))(hx:x.ev pg.gl st.env = .fn 694 [.fp k.av])
  (I:Nat->Hp->Prop) (hI:∀j hp hp',(∀q,q≠kb+s->hp'.get q=hp.get q)->I j hp->I j hp') (h0:I 0 st.hp)
  (step:∀(j:Nat)(n3 k3:Bool),j<k.list.es.length+2->∀hp,XX pg kb a ⟨sU st.env [p1,p2] [.int .i64 ((j:Int)-1),.sl n3 ((cY ((j:Int)-1) (aF k)).map aJ) k3],hp⟩ (λex st1=>ex = .nor/\st1.hp=hp /\
   ∀hp1,I j hp1->XX pg kb b ⟨st1.env,hp1⟩ (λx st2=>x = .nor/\st2.hp.get (kb+s)=hp1.get (kb+s)/\I (j+1) st2.hp) ⟨⟩) ⟨⟩)
  (hQ:∀hp,I (k.list.es.length+2) hp->Q .nor ⟨st.env,hp⟩):XX pg kb (.rf x s [p1,p2] a b) st Q t:=
 IB hf k hc h11 hx I (λj hp e o h=>hI j hp _ (λq hq=>by rw[aD,if_neg (Ne.symm hq)]) h) h0 step hQ
end
end
section
def fF(k:aA)(ds:List Val)(p:cB):Bool:=
 decide ((p.P.length:Int)=(k.values.es.length:Int))&&decide ((p.C.length:Int)=(k.list.es.length:Int)) && !decide (p.pk<0) && !decide (1000000<p.pk)&&xP (iI k ds) (aF k) p.pk 0 p.P
def dZ(k:aA)(ds:List Val)(p:cB):Int:=if dU k ds=0 then (if fF k ds p then 0 else 21) else dU k ds
theorem WW{k:aA}(ds:List Val)(h:¬(cP k).2=0):dU k ds=22:=by rw[dU,if_neg h]
section
variable{pg:Pg}
theorem c684(hf:pg.fs 684=some NO)(k:aA)(h28:Ret pg 28 [k.av] (.tup [.int .i64 (cP k).1,.int .i64 (cP k).2])):Ret pg 684 [k.av] (.int .i64 (cP k).2):=by rw[aA.avc]at h28 ⊢;refine Ret.ofX hf ?_;unfold NO;refine Wk ?_;refine aB h28 ?_;simp only[go_sem,seval]
theorem c677(hf:pg.fs 677=some NR)(k:aA):Ret pg 677 [k.av] (.fn 694 [.fp k.av]):=by rw[aA.avc];refine Ret.ofX hf ?_;unfold NR;refine Wk ?_;simp only[Hp.get_cons,conv,depth,eK,cF,bD,go_sem,seval]
theorem c663(hf:pg.fs 663=some NU)(k:aA)(h8:Ret pg 8 [k.av] (.bool (I7 k)))(p:cB)(nl cl:Bool)(ds:List Val) :
  Ret pg 663 [k.av,p.av,.sl nl (ds.map Val.av) cl] (.bool (I7 k&&decide ((ds.length:Int)<=13)&&decide ((p.P.length:Int)<=20)&&decide ((p.C.length:Int)<=20))):=by
 rw[aA.avc]at h8 ⊢;rw[cB.avc];refine Ret.ofX hf ?_;unfold NU;refine Wk ?_;refine aB h8 ?_;cases b0:I7 k;simp only[go_sem,seval];cases b1:decide ((ds.length:Int)<=13);simp only[b1,aI,go_sem,seval];cases b2:decide ((p.P.length:Int)<=20);simp only[b1,b2,aI,go_sem,seval];simp only[b1,b2,aI,go_sem,seval]
set_option maxRecDepth 100000 in
set_option maxHeartbeats 4000000 in
theorem c676(hf:pg.fs 676=some EP)(k:aA)(nl cl:Bool)(ds:List Val)(p:cB)(h684:Ret pg 684 [k.av] (.int .i64 (cP k).2))(h16:Ret pg 16 [k.av,.sl nl (ds.map Val.av) cl] (iW k ds))(h9:bE pg 9 [k.av] (kE k)) :
  Ret pg 676 [k.av,p.av,.sl nl (ds.map Val.av) cl] (.int .i64 (dZ k ds p)):=by
 obtain⟨r9,a9,s9⟩:=h9;have tlP:=gI p.P;rw[aA.avc]at h16 a9 h684;rw[aA.avc,cB.avc];by_cases hc:(cP k).2=0
 case neg=>
  have b0:decide ((cP k).2=0)=false:=by simp[hc]
  have hx:dZ k ds p=22:=by rw[dZ,WW ds hc];rfl
  rw[hx];refine Ret.ofX hf ?_;unfold EP;refine Wk ?_;refine aB h684 ?_;simp only[b0,go_sem,seval]
 have b0:decide ((cP k).2=0)=true:=by simp[hc]
 by_cases hx:dU k ds=0
 case neg=>
  have b9:decide (dU k ds=0)=false:=by simp[hx]
  rw[iW,if_neg hx]at h16;rw[dZ,if_neg hx];refine Ret.ofX hf ?_;unfold EP;refine Wk ?_;refine aB h684 ?_;simp only[b0,go_sem,seval];refine aB h16 ?_;simp only[b9,go_sem,seval]
 rw[iW,if_pos hx]at h16;rw[dZ,if_pos hx];rw[kE,if_pos hc]at s9;subst s9;have ok:=dS hc;have hsz:=zD hx;obtain⟨_,hsl,hzl⟩:=qG (ds:=ds) ok;have hfold:fV (fT ds) (aF k) k.values.es=iI k ds:=rfl;rw[hfold]at h16 hzl;have hP:=p.bP;refine Ret.ofX hf ?_;unfold EP;refine Wk ?_;refine aB h684 ?_;simp only[b0,go_sem,seval];refine aB h16 (Wk ?_);refine aB a9 ?_;cases b1:decide ((p.P.length:Int)=(k.values.es.length:Int));simp only[b1,aI,go_sem,seval];simp[fF,b1];cases b2:decide ((p.C.length:Int)=(k.list.es.length:Int));simp only[b1,b2,aI,go_sem,seval];simp[fF,b2];cases b3:decide (p.pk<0)
 case true=>simp only[b1,b2,b3,aI,go_sem,seval];simp[fF,b3]
 cases b4:decide (1000000<p.pk)
 case true=>simp only[b1,b2,b3,b4,aI,go_sem,seval];simp[fF,b4]
 have hPV:p.P.length=k.values.es.length:=by have:=aM b1;omega
 have hp0:0<=p.pk:=by have:=bH b3;omega
 have hp1:p.pk<=1000000:=by have:=bH b4;omega
 have hform:fF k ds p=xP (iI k ds) (aF k) p.pk 0 p.P:=by simp[fF,b1,b2,b3,b4]
 rw[hform];clear hform;simp only[b1,b2,b3,b4,aI,go_sem,seval]
 refine aK p.P (λd r env hp=>env=oJ (.pt 5 0 0) (.sl false ((iI k ds).map aJ) true) (.sl false ((aF k).map bQ) false) (.sl p.n1 (p.P.map bQ) p.c1) (.int .i64 p.P.length) (.int .i64 d.length)/\hp.get 5=some (0,.blk [.sl p.n1 (p.P.map bQ) p.c1,.sl p.n2 (p.C.map aJ) p.c2,.int .i64 p.pk] 3 true true false) /\
  xP (iI k ds) (aF k) p.pk 0 p.P=xP (iI k ds) (aF k) p.pk d.length r) ?_ ?_ ?_
 exact⟨rfl,rfl,rfl⟩;rintro env hp ⟨rfl,g5,hI⟩;simp only[oI,oJ,bA,go_sem,seval];rw[hI];rfl
 ·rintro d x r env hp hes ⟨rfl,g5,hI⟩;obtain⟨hget,f1,f2,ew⟩:=cX hes hP;have hlt:d.length<p.P.length:=(cD.1 hget).1;have l1:((d.length:Int)<((iI k ds).length:Int))=True:=eq_true (by omega);have l2:((d.length:Int)<((aF k).length:Int))=True:=eq_true (by omega);have hz':((iI k ds).map aJ)[d.length]?=some (aJ (jT (iI k ds) d.length)):=by rw[List.getElem?_map,jT,List.getD_eq_getElem?_getD,aX (by omega)];rfl
  have hs':=o7 (P:=aF k) (v:=d.length) (by omega);have hge:=LR k d.length;have hzd:=hsz d.length;have hl:(d++[x]).length=d.length+1:=by simp
  rw[xP]at hI;rw[hI];clear hI hes;cases e2:decide ((plc (aF k) d.length).1 < -1)
  ·have n2:¬(plc (aF k) d.length).1 = -2:=by have:=bH e2;omega
   cases e1:decide (x.2=jT (iI k ds) d.length)
   ·have hok:okP (iI k ds) (aF k) p.pk d.length x=false:=by simp only[okP,e1,Bool.false_and]
    rw[hok]
    repeat (first|simp only[oI,oJ,f1,f2,hget,l1,l2,hz',hs',bQ,e1,e2,go_sem,seval]|refine aQ ?_)
    exact(show _=true by kernel_rfl)
   have x1:=aM e1;have w1:wr .i64 (p.pk-x.2)=p.pk-x.2:=aO (by omega) (by omega);cases e3:decide (x.1<0)
   ·have q3:decide (0<=x.1)=true:=by have:=bH e3;simp;omega
    cases e4:decide (p.pk-x.2<x.1);have q4:decide (x.1<=p.pk-x.2)=true:=by have:=bH e4;simp;omega
    have hok:okP (iI k ds) (aF k) p.pk d.length x=true:=by simp only[okP,e1,if_neg n2,q3,q4,Bool.and_self]
    rw[hok];simp only[oI,oJ,f1,f2,hget,l1,l2,hz',hs',bQ,e1,e2,e3,e4,w1,g5,ew,go_sem,seval];exact⟨by kernel_rfl,rfl,by rw[hl]⟩
    ·have q4:decide (x.1<=p.pk-x.2)=false:=by have:=aM e4;simp;omega
     have hok:okP (iI k ds) (aF k) p.pk d.length x=false:=by simp only[okP,e1,if_neg n2,q3,q4,Bool.and_false,Bool.true_and]
     rw[hok]
     repeat (first|simp only[oI,oJ,f1,f2,hget,l1,l2,hz',hs',bQ,e1,e2,e3,e4,w1,g5,go_sem,seval]|refine aQ ?_)
     exact(show _=true by kernel_rfl)
   ·have q3:decide (0<=x.1)=false:=by have:=aM e3;simp;omega
    have hok:okP (iI k ds) (aF k) p.pk d.length x=false:=by simp only[okP,e1,if_neg n2,q3,Bool.false_and,Bool.and_false]
    rw[hok]
    repeat (first|simp only[oI,oJ,f1,f2,hget,l1,l2,hz',hs',bQ,e1,e2,e3,w1,g5,go_sem,seval]|refine aQ ?_)
    exact(show _=true by kernel_rfl)
  ·have n2:(plc (aF k) d.length).1 = -2:=by have:=aM e2;omega
   cases e1:decide (x.2=jT (iI k ds) d.length)
   ·have hok:okP (iI k ds) (aF k) p.pk d.length x=false:=by simp only[okP,e1,Bool.false_and]
    rw[hok]
    repeat (first|simp only[oI,oJ,f1,f2,hget,l1,l2,hz',hs',bQ,e1,e2,go_sem,seval]|refine aQ ?_)
    exact(show _=true by kernel_rfl)
   cases e3:decide (x.1 = -1)
   ·have hok:okP (iI k ds) (aF k) p.pk d.length x=false:=by simp only[okP,e1,if_pos n2,e3,Bool.and_false]
    rw[hok]
    repeat (first|simp only[oI,oJ,f1,f2,hget,l1,l2,hz',hs',bQ,e1,e2,e3,go_sem,seval]|refine aQ ?_)
    exact(show _=true by kernel_rfl)
   have hok:okP (iI k ds) (aF k) p.pk d.length x=true:=by simp only[okP,e1,if_pos n2,e3,Bool.and_self]
   rw[hok];simp only[oI,oJ,f1,f2,hget,l1,l2,hz',hs',bQ,e1,e2,e3,ew,go_sem,seval];exact⟨by kernel_rfl,rfl,g5,by rw[hl]⟩
end
end
section
structure Cl where
 t:Int
 a:Int
 b:Int
 w:Int
def Cl.av(c:Cl):AV:=.agg [.int .i64 c.t,.int .i64 c.a,.int .i64 c.b,.int .i64 c.w]
def qZ(k:aA)(P:List Sp)(at_ a b:Int):List Cl:=
 if mE k P at_ a.toNat b.toNat then [] else [⟨at_,a,b,mxI (plc P a.toNat).1 (plc P b.toNat).1⟩]
def vN(k:aA)(P:List Sp)(at_:Int):List Int->List Cl
 |[]=>[]
 |a::r=>r.flatMap (qZ k P at_ a)++vN k P at_ r
def AB(k:aA)(P:List Sp)(R:List Nat):List Cl:=R.flatMap fun(j:Nat)=>vN k P ((j:Int)-1) (cY ((j:Int)-1) (aF k))
def aHp(k:aA)(P:List Sp):List Cl:=AB k P (List.range (k.list.es.length+2))
theorem AA(k:aA)(P:List Sp)(j:Nat):AB k P (List.range (j+1))=AB k P (List.range j)++vN k P ((j:Int)-1) (cY ((j:Int)-1) (aF k)):=by simp[AB,List.range_succ]
theorem El.cls(l:List Cl):∀x∈l.map Cl.av,El 4 true x:=by intro x hx;obtain⟨c,_,rfl⟩:=List.mem_map.1 hx;exact⟨rfl,rfl,rfl⟩
theorem V2(k:aA)(P:List Sp)(at_ a:Int)(l:List Int):(l.flatMap (qZ k P at_ a)).length<=l.length:=by
 induction l with
 |nil=>simp
 |cons b r ih=>
  rw[List.flatMap_cons,bX,List.length_cons];have:(qZ k P at_ a b).length<=1:=by unfold qZ;split<;>simp
  omega
theorem NI(k:aA)(P:List Sp)(at_:Int):∀l:List Int,(vN k P at_ l).length<=l.length*l.length
 |[]=>by simp[vN]
 |a::r=>by have h1:=V2 k P at_ a r;have h2:=NI k P at_ r;rw[vN,bX,List.length_cons,Nat.add_mul,Nat.mul_add];omega
theorem yC{k:aA}{n:Nat}(hn:∀at_,(cY at_ (aF k)).length<=n)(P:List Sp):∀R:List Nat,(AB k P R).length<=R.length*(n*n)
 |[]=>by simp[AB]
 |j::R=>by have h1:=NI k P ((j:Int)-1) (cY ((j:Int)-1) (aF k));have h2:=yC hn P R;have h3:=Nat.mul_le_mul (hn ((j:Int)-1)) (hn ((j:Int)-1));rw[List.length_cons,Nat.add_mul,Nat.one_mul];simp only[AB,List.flatMap_cons,bX]at h2 ⊢;omega
end
section
def B5(l:List Sp)(x:Nat):Bool:=l.any λp=>decide (p.1<=(x:Int))&&decide ((x:Int)<p.1+p.2)
def jD(l:List Sp):Nat->Int
 |0=>0
 |n+1=>jD l n+if B5 l n then 0 else 1
theorem rI{l:List Sp}{x:Nat}:B5 l x=true↔∃p∈l,p.1<=(x:Int)/\(x:Int)<p.1+p.2:=by simp[B5,List.any_eq_true]
theorem yA{l:List Sp}{x:Nat}(h:∀p∈l,¬(p.1<=(x:Int)/\(x:Int)<p.1+p.2)):B5 l x=false:=by cases hc:B5 l x;rfl;obtain⟨p,hp,h1⟩:=rI.1 hc;exact absurd h1 (h p hp)
theorem TZ{l:List Sp}{a:Nat}:∀n:Nat,(∀x:Nat,a<=x->x<a+n->B5 l x=false)->jD l (a+n)=jD l a+n
 |0,_=>by simp
 |n+1,h=>by have ih:=TZ n (λx h1 h2=>h x h1 (by omega));rw[<-Nat.add_assoc,jD,h (a+n) (by omega) (by omega),ih];simp only[Bool.false_eq_true,if_false];omega
theorem T4{l:List Sp}{a:Nat}:∀n:Nat,(∀x:Nat,a<=x->x<a+n->B5 l x=true)->jD l (a+n)=jD l a
 |0,_=>by simp
 |n+1,h=>by have ih:=T4 n (λx h1 h2=>h x h1 (by omega));rw[<-Nat.add_assoc,jD,h (a+n) (by omega) (by omega),ih];simp
theorem w9{l:List Sp}{a b:Int}(ha:0<=a)(hab:a<=b)(h:∀x:Nat,a<=(x:Int)->(x:Int)<b->B5 l x=false):jD l b.toNat=jD l a.toNat+(b-a):=by have:=TZ (l:=l) (a:=a.toNat) (b-a).toNat (λx h1 h2=>h x (by omega) (by omega));rw[show a.toNat+(b-a).toNat=b.toNat from by omega]at this;rw[this];omega
theorem xB{l:List Sp}{a b:Int}(ha:0<=a)(hab:a<=b)(h:∀x:Nat,a<=(x:Int)->(x:Int)<b->B5 l x=true):jD l b.toNat=jD l a.toNat:=by have:=T4 (l:=l) (a:=a.toNat) (b-a).toNat (λx h1 h2=>h x (by omega) (by omega));rw[show a.toNat+(b-a).toNat=b.toNat from by omega]at this;exact this
theorem FV{l l':List Sp}(h:∀p,p∈l↔p∈l'):∀n,jD l n=jD l' n
 |0=>rfl
 |n+1=>by
  have hc:B5 l n=B5 l' n:=by rw[Bool.eq_iff_iff,rI,rI];simp only[h]
  rw[jD,jD,hc,FV h n]
def oY:Int->Int->List Sp->Int×Int
 |f,e,[]=>(f,e)
 |f,e,q::r=>if q.2=0 then oY f e r else oY (f+mxI (q.1-e) 0) (mxI e (q.1+q.2)) r
theorem xH{L:List Sp}{pk:Int}(hL:∀p∈L,0<=p.1/\0<=p.2/\p.1+p.2<=pk):∀(r:List Sp)(f e:Int),(∀p∈r,p∈L)->(∀p∈L,p∈r\/p.2=0\/p.1+p.2<=e)->r.Pairwise (λa b=>a.1<=b.1)->0<=e->e<=pk->f=jD L e.toNat ->
  (oY f e r).1+pk-(oY f e r).2=jD L pk.toNat
 |[],f,e,_,hd,_,h0,h1,hf=>by
  have:=w9 (l:=L) h0 h1 (λx h2 h3=>yA (λp hp hc=>by
   rcases hd p hp with h|h|h;simp at h;omega;omega))
  simp only[oY];omega
 |q::r,f,e,hr,hd,hs,h0,h1,hf=>by
  have hs':=List.pairwise_cons.1 hs;obtain⟨q1,q2,q3⟩:=hL q (hr q (by simp));rw[oY];by_cases hz:q.2=0;rw[if_pos hz]
  exact xH hL r f e (λp hp=>hr p (by simp[hp])) (λp hp=>by
   rcases hd p hp with h|h|h;rcases List.mem_cons.1 h with rfl|h;exact .inr (.inl hz);exact .inl h;exact .inr (.inl h);exact .inr (.inr h)) hs'.2 h0 h1 hf
  rw[if_neg hz];have hcq:∀x:Nat,q.1<=(x:Int)->(x:Int)<q.1+q.2->B5 L x=true:=λx h2 h3=>rI.2 ⟨q,hr q (by simp),h2,h3⟩;refine xH hL r _ _ (λp hp=>hr p (by simp[hp])) (λp hp=>?_) hs'.2 ?_ ?_ ?_;rcases hd p hp with h|h|h;rcases List.mem_cons.1 h with rfl|h;refine .inr (.inr ?_);simp only[mxI];split<;>omega;exact .inl h;exact .inr (.inl h);refine .inr (.inr ?_);simp only[mxI];split<;>omega;simp only[mxI];split<;>omega;simp only[mxI];split<;>omega;by_cases hqe:q.1<e;by_cases hee:e<q.1+q.2;have:=xB (l:=L) h0 (Int.le_of_lt hee) (λx h2 h3=>hcq x (by omega) h3);simp only[mxI,if_pos hee,if_pos (show q.1-e<0 by omega)];omega;simp only[mxI,if_neg hee,if_pos (show q.1-e<0 by omega)];omega
  have g1:=w9 (l:=L) h0 (show e<=q.1 by omega) (λx h2 h3=>yA (λp hp hc=>by
   rcases hd p hp with h|h|h;rcases List.mem_cons.1 h with rfl|h;omega;have:=hs'.1 p h;omega;omega;omega))
  have g2:=xB (l:=L) q1 (show q.1<=q.1+q.2 by omega) hcq;simp only[mxI,if_pos (show e<q.1+q.2 by omega),if_neg (show ¬q.1-e<0 by omega)];omega
def lN(at_:Int):Int->Int->List Sp->Int×Int
 |n,e,[]=>(n,e)
 |n,e,x::r=>if 0<x.2/\at_<x.1+x.2/\x.1<n then lN at_ x.1 (x.1+x.2) r else lN at_ n e r
theorem xR{at_:Int}:∀(l:List Sp)(n e:Int),(lN at_ n e l).1<=n/\(∀p∈l,0<p.2->at_<p.1+p.2->(lN at_ n e l).1<=p.1)
 |[],n,e=>⟨Int.le_refl _,by simp⟩
 |x::r,n,e=>by rw[lN];split;rename_i h;obtain⟨a,b⟩:=xR (at_:=at_) r x.1 (x.1+x.2);refine⟨by omega,λp hp h1 h2=>?_⟩;rcases List.mem_cons.1 hp with rfl|hp;exact a;exact b p hp h1 h2;rename_i h;obtain⟨a,b⟩:=xR (at_:=at_) r n e;refine⟨a,λp hp h1 h2=>?_⟩;rcases List.mem_cons.1 hp with rfl|hp;omega;exact b p hp h1 h2
theorem vB{at_:Int}:∀(l:List Sp)(n e:Int),lN at_ n e l=(n,e)\/∃p∈l,0<p.2/\at_<p.1+p.2/\lN at_ n e l=(p.1,p.1+p.2)
 |[],n,e => .inl rfl
 |x::r,n,e=>by
  rw[lN];split;rename_i h;rcases vB (at_:=at_) r x.1 (x.1+x.2) with h1|⟨p,hp,h1⟩
  exact .inr ⟨x,by simp,h.1,h.2.1,h1⟩;exact .inr ⟨p,by simp[hp],h1⟩;rcases vB (at_:=at_) r n e with h1|⟨p,hp,h1⟩
  exact .inl h1;exact .inr ⟨p,by simp[hp],h1⟩
theorem Y5{L:List Sp}{pk at_ f:Int}(hL:∀p∈L,0<=p.1/\0<=p.2/\p.1+p.2<=pk)(h0:0<=at_)(h1:at_<=pk)(hf:f=jD L at_.toNat) :
  (lN at_ pk (-1) L).2<0/\f+mxI 0 ((lN at_ pk (-1) L).1-at_)=jD L pk.toNat \/
  0<=(lN at_ pk (-1) L).2/\at_<(lN at_ pk (-1) L).2/\(lN at_ pk (-1) L).2<=pk/\f+mxI 0 ((lN at_ pk (-1) L).1-at_)=jD L (lN at_ pk (-1) L).2.toNat:=by
 obtain⟨a,b⟩:=xR (at_:=at_) L pk (-1);rcases vB (at_:=at_) L pk (-1) with h|⟨p,hp,p1,p2,h⟩
 left;rw[h]at a b ⊢;simp only at a b ⊢;refine⟨by omega,?_⟩
 have:=w9 (l:=L) h0 h1 (λx h2 h3=>yA (λp hp hc=>by
  have:=b p hp (by omega) (by omega);have:=hL p hp;omega))
 simp only[mxI];split<;>omega;right;obtain⟨z1,z2,z3⟩:=hL p hp;rw[h]at a b ⊢;simp only at a b ⊢;refine⟨by omega,p2,z3,?_⟩;by_cases hlt:at_<=p.1
 have g1:=w9 (l:=L) h0 hlt (λx h2 h3=>yA (λq hq hc=>by
  have:=b q hq (by omega) (by omega);omega))
 have g2:=xB (l:=L) z1 (show p.1<=p.1+p.2 by omega) (λx h2 h3=>rI.2 ⟨p,hp,h2,h3⟩);simp only[mxI];split<;>omega;have g2:=xB (l:=L) h0 (show at_<=p.1+p.2 by omega) (λx h2 h3=>rI.2 ⟨p,hp,by omega,h3⟩);simp only[mxI];split<;>omega
end
end Go.Tev
