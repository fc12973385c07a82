import Derived.Test.YtplehelpidcobaaGreatDoorSBF
import Derived.Test.YtplehelpidcobaaGreatDoorSBD
set_option linter.all false
section
namespace Go.Tev
theorem nT(at_:Int):∀(n:Nat)(d:List Sp),d.length=n->(eE at_ d).Nodup/\(eE at_ d).length<=d.length
 |0,d,h=>by
  obtain rfl:=List.eq_nil_of_length_eq_zero h
  simp[eE]
 |n+1,d,h=>by
  rcases List.eq_nil_or_concat d with hz|⟨e,x,hz⟩
  ·subst hz;simp at h
  ·have hz:d=e++[x]:=by simpa using hz
   subst hz
   obtain⟨ih,il⟩:=nT at_ n e (by simpa using h)
   rw[pO]
   constructor
   ·split
    ·rw[List.nodup_append]
     refine⟨ih,by simp,?_⟩
     intro a ha b hb he
     simp at hb
     subst hb
     obtain⟨s,h1,h2,_⟩:=iW.1 ha
     have:=(List.getElem?_eq_some_iff.1 h2).1
     omega
    ·simpa using ih
   ·split<;>simp<;>omega
section
variable{k:aA}{ds:List Val}{s:PS}
theorem GD{w:Nat}{a:Sp}{j:Nat}{q:aD}(ha:(aF k)[w]?=some a)(he:a.1=(j:Int))(hq:k.list.es[j]?=some q):w=q.value.toNat:=by
 rcases mL (uJ ha) with h|⟨h,_⟩|⟨i,x,h1,h2,h3⟩
 ·omega
 ·omega
 ·obtain rfl:i=j:=by omega
  rw[hq]at h1
  cases h1
  exact h2.symm
end
end Go.Tev
end
section
namespace Go.Tev
section
variable{pg:Pg}
end
end Go.Tev
end
section
namespace Go.Tev
theorem GF{k:aA}{ds:List Val}(h:dW k ds=0)(v:Nat):0<=cC (cN k ds) v/\cC (cN k ds) v<=4096:=by
 obtain⟨hc,hD,hS⟩:=gC h
 have ok:=eH hc
 rw[cC,List.getD_eq_getElem?_getD]
 cases hg:(cN k ds)[v]? with
 |none=>simp
 |some z=>
  have:=A4 hD _ _ (BV ok).2 hS z (List.mem_of_getElem? hg)
  simp only[Option.getD_some]
  omega
theorem FC{k:aA}(h:zL k=true):k.values.es.length<=20/\k.list.es.length<=16:=by
 simp only[zL,Bool.and_eq_true,decide_eq_true_eq]at h
 omega
theorem EN{P:List Sp}{n:Nat}{x:Sp}(h:P[n]?=some x):plc P n=x:=by rw[plc,List.getD_eq_getElem?_getD,h];rfl
section
variable{pg:Pg}
end
end Go.Tev
end
section
namespace Go.Tev
def tN(a b:Sp):Bool:=decide (a.1=b.1)&&decide (a.2=b.2)
structure dC where
 P:List Sp
 C:List Int
 pk:Int
 n1:Bool
 c1:Bool
 n2:Bool
 c2:Bool
 bP:P.length<=big
 bC:C.length<=big
def dC.cells(p:dC):List AV:=[.sl p.n1 (p.P.map aR) p.c1,.sl p.n2 (p.C.map aG) p.c2,.int .i64 p.pk]
def dC.av(p:dC):AV:=.agg p.cells
theorem dC.avc(p:dC):p.av = .agg [.sl p.n1 (p.P.map aR) p.c1,.sl p.n2 (p.C.map aG) p.c2,.int .i64 p.pk]:=rfl
def mS(p q:dC):Bool:=decide (p.pk=q.pk)&&eqL tN p.P q.P&&eqL iEq p.C q.C
def okP(sz:List Int)(sp:List Sp)(pk:Int)(v:Nat)(x:Sp):Bool:=
 decide (x.2=cC sz v)&&(if (plc sp v).1 = -2 then decide (x.1 = -1) else decide (0<=x.1)&&decide (x.1<=pk-x.2))
def pJ(sz:List Int)(sp:List Sp)(pk:Int):Nat->List Sp->Bool
 |_,[]=>true
 |v,x::r=>okP sz sp pk v x&&pJ sz sp pk (v+1) r
section
variable{pg:Pg}
theorem c631(hf:pg.fs 631=some cf631)(nl cl nl' cl':Bool)(es es':List Sp)(hb:es.length<=big):Ret pg 631 [.sl nl (es.map aR) cl,.sl nl' (es'.map aR) cl'] (.bool (eqL tN es es')):=
 HV (f:=631) (k:=.eqs true [0,0]) hf aR (fun _=>by simp only[aR,go_sem,seval]) nl cl nl' cl' es es' hb tN (by intro kb s h x y Q t;simp only[aR,go_sem,seval];simp[tN]) rfl
theorem c620(hf:pg.fs 620=some cf620)(h631:pg.fs 631=some cf631)(h181:pg.fs 181=some cf181)(p q:dC):Ret pg 620 [p.av,q.av] (.bool (mS p q)):=by
 have a1:=c631 h631 p.n1 p.c1 q.n1 q.c1 p.P q.P p.bP
 have a2:=c181 h181 p.n2 p.c2 q.n2 q.c2 p.C q.C p.bC
 have t1:=fH p.P
 have t2:=fH q.P
 rw[dC.avc,dC.avc]
 refine Ret.ofX hf ?_
 unfold cf620
 have hs:mS p q=(decide (p.pk=q.pk)&&eqL tN p.P q.P&&eqL (fun x y=>decide (x=y)) p.C q.C):=rfl
 rw[hs]
 cases b1:decide (p.pk=q.pk)
 ·simp only[b1,go_sem,seval]
 simp only[b1,go_sem,seval]
 refine aB a1 (by simp only[t1,t2,go_sem,seval]) rfl ?_
 cases b2:eqL tN p.P q.P
 ·simp only[go_sem,seval]
 simp only[go_sem,seval]
 refine aB a2 (by simp only[go_sem,seval]) rfl ?_
 simp only[go_sem,seval]
theorem WL(hf:pg.fs 617=some cf617)(h15:pg.fs 15=some cf15)(p q:dC):Ret pg 617 [p.av,q.av] (.bool (mS p q)):=by
 have a1:=WU h15 p.n2 p.c2 q.n2 q.c2 p.C q.C p.bC
 have hs:mS p q=(eqL tN p.P q.P&&eqL iEq p.C q.C&&decide (p.pk=q.pk)):=by
  simp only[mS]
  cases decide (p.pk=q.pk)<;>cases eqL tN p.P q.P<;>cases eqL iEq p.C q.C<;>rfl
 have hP:=p.bP
 rw[dC.avc,dC.avc,hs]
 refine Ret.ofX hf ?_
 unfold cf617
 cases b1:decide ((p.P.length:Int)=(q.P.length:Int))
 ·rw[tH b1]
  simp only[b1,List.length_map,go_sem,seval]
 simp only[b1,List.length_map,go_sem,seval]
 refine aB a1 (by simp only[go_sem,seval]) rfl ?_
 cases b2:eqL iEq p.C q.C
 ·simp only[go_sem,seval]
 cases b3:decide (p.pk=q.pk)
 ·simp only[b3,go_sem,seval]
 have hl:p.P.length=q.P.length:=by have:=of_decide_eq_true b1;omega
 simp only[b3,go_sem,seval]
 refine aI p.P (fun d r env hp=>env=cf617E0 (.pt 1 0 0) (.pt 5 0 0) (.int .i64 d.length)/\hp.get 1=some (0,.blk [.sl p.n1 (p.P.map aR) p.c1,.sl p.n2 (p.C.map aG) p.c2,.int .i64 p.pk] 3 true true false)/\hp.get 5=some (0,.blk [.sl q.n1 (q.P.map aR) q.c1,.sl q.n2 (q.C.map aG) q.c2,.int .i64 q.pk] 3 true true false) /\
  eqL tN p.P q.P=eqL tN r (q.P.drop d.length)) ?_ ?_ ?_
 ·exact⟨rfl,rfl,rfl,rfl⟩
 ·rintro env hp ⟨rfl,g1,g5,hI⟩
  simp only[cf617L0,cf617E0,aW,g1,go_sem,seval]
  rw[hI,lE hl]
 ·rintro d x r env hp hes ⟨rfl,g1,g5,hI⟩
  obtain⟨hget,f1,f2,ew⟩:=cF hes hP
  obtain⟨y,gy,k1,k2,hq⟩:=yZ (q:=tN) hes hl
  rw[hq]at hI
  rw[hI]
  clear hI
  have hxy':tN x y=(decide (x.1=y.1)&&decide (x.2=y.2)):=rfl
  cases hx1:decide (x.1=y.1)<;>cases hx2:decide (x.2=y.2)
  case true.true=>
   simp only[cf617L0,cf617E0,f1,f2,hget,gy,k1,k2,g1,g5,aR,hx1,hx2,ew,go_sem,seval]
   exact⟨by kernel_rfl,rfl,by simp[hxy',hx1,hx2]⟩
  all_goals
   simp only[cf617L0,cf617E0,f1,f2,hget,gy,k1,k2,g1,g5,aR,hx1,hx2,go_sem,seval]
   exact⟨by kernel_rfl,by simp[hxy',hx1,hx2]⟩
end
end Go.Tev
end
section
namespace Go.Tev
def o9(k:aA)(at_:Int)(v:Nat):Bool:=match k.list.es[at_.toNat]? with
 |some q=>decide ((v:Int)=q.value)
 |none=>false
def jA(k:aA)(P:List Sp)(at_:Int)(v w:Nat):Bool:=
 decide (0<=at_)&&decide (at_<(k.list.es.length:Int))&&o9 k at_ v&&decide ((plc P v).1=(plc P w).1)&&oC k at_ w
def eI(k:aA)(P:List Sp)(at_:Int)(v w:Nat):Bool:=
 !gP (plc P v) (plc P w)||jA k P at_ v w||jA k P at_ w v
theorem GV{P:List Sp}{v:Nat}(h:v<P.length):P[v]?=some (plc P v):=by rw[plc,List.getD_eq_getElem?_getD,List.getElem?_eq_getElem h];rfl
theorem qW{P:List Sp}{v:Nat}(h:v<P.length):(P.map aR)[v]?=some (.agg [.int .i64 (plc P v).1,.int .i64 (plc P v).2]):=by rw[List.getElem?_map,GV h];rfl
section
variable{pg:Pg}
set_option maxRecDepth 100000 in
set_option maxHeartbeats 4000000 in
theorem c627(hf:pg.fs 627=some cf627)(p:dC)(sz:List Int)(sp:List Sp)(nl1 cl1 nl2 cl2:Bool)(hz:∀v,0<=cC sz v/\cC sz v<=4096)(h1:sz.length=p.P.length)(h2:sp.length=p.P.length)(hp0:0<=p.pk)(hp1:p.pk<=1000000) :
  Ret pg 627 [p.av,.sl nl1 (sz.map aG) cl1,.sl nl2 (sp.map aR) cl2] (.bool (pJ sz sp p.pk 0 p.P)):=by
 have hP:=p.bP
 rw[dC.avc]
 refine Ret.ofX hf ?_
 unfold cf627
 simp only[List.length_map,go_sem,seval]
 refine aI p.P (fun d r env hp=>env=cf627E0 (.sl nl1 (sz.map aG) cl1) (.sl nl2 (sp.map aR) cl2) (.pt 1 0 0) (.sl p.n1 (p.P.map aR) p.c1) (.int .i64 p.P.length) (.int .i64 d.length)/\hp.get 1=some (0,.blk [.sl p.n1 (p.P.map aR) p.c1,.sl p.n2 (p.C.map aG) p.c2,.int .i64 p.pk] 3 true true false) /\
  pJ sz sp p.pk 0 p.P=pJ sz sp p.pk d.length r) ?_ ?_ ?_
 ·exact⟨rfl,rfl,rfl⟩
 ·rintro env hp ⟨rfl,g1,hI⟩
  simp only[cf627L0,cf627E0,aW,go_sem,seval]
  rw[hI]
  rfl
 ·rintro d x r env hp hes ⟨rfl,g1,hI⟩
  obtain⟨hget,f1,f2,ew⟩:=cF hes hP
  have hlt:d.length<p.P.length:=(List.getElem?_eq_some_iff.1 hget).1
  have l1:((d.length:Int)<(sz.length:Int))=True:=eq_true (by omega)
  have l2:((d.length:Int)<(sp.length:Int))=True:=eq_true (by omega)
  have hz':(sz.map aG)[d.length]?=some (aG (cC sz d.length)):=by
   rw[List.getElem?_map,cC,List.getD_eq_getElem?_getD,List.getElem?_eq_getElem (by omega)];rfl
  have hs':=qW (P:=sp) (v:=d.length) (by omega)
  have hzd:=hz d.length
  have hl:(d++[x]).length=d.length+1:=by simp
  rw[pJ]at hI
  rw[hI]
  clear hI hes
  cases b1:decide (x.2=cC sz d.length)
  ·simp only[cf627L0,cf627E0,f1,f2,hget,l1,hz',aR,b1,go_sem,seval]
   exact⟨by kernel_rfl,by simp[okP,b1]⟩
  have e1:=of_decide_eq_true b1
  cases b2:decide ((plc sp d.length).1 = -2)
  ·have n2:¬(plc sp d.length).1 = -2:=of_decide_eq_false b2
   have w1:wr .i64 (p.pk-x.2)=p.pk-x.2:=aV (by omega) (by omega)
   cases b3:decide (x.1<0)
   ·have e3:decide (0<=x.1)=true:=by have:=of_decide_eq_false b3;simp;omega
    cases b4:decide (p.pk-x.2<x.1)
    ·have e4:decide (x.1<=p.pk-x.2)=true:=by have:=of_decide_eq_false b4;simp;omega
     have hok:okP sz sp p.pk d.length x=true:=by simp only[okP,b1,if_neg n2,e3,e4,Bool.and_self]
     simp only[cf627L0,cf627E0,f1,f2,hget,l1,l2,hz',hs',aR,b1,b2,b3,b4,w1,g1,ew,go_sem,seval]
     exact⟨by kernel_rfl,rfl,by rw[hok,hl];rfl⟩
    ·have e4:decide (x.1<=p.pk-x.2)=false:=by have:=of_decide_eq_true b4;simp;omega
     have hok:okP sz sp p.pk d.length x=false:=by simp only[okP,b1,if_neg n2,e3,e4,Bool.and_false,Bool.true_and]
     simp only[cf627L0,cf627E0,f1,f2,hget,l1,l2,hz',hs',aR,b1,b2,b3,b4,w1,g1,go_sem,seval]
     exact⟨by kernel_rfl,by rw[hok];rfl⟩
   ·have e3:decide (0<=x.1)=false:=by have:=of_decide_eq_true b3;simp;omega
    have hok:okP sz sp p.pk d.length x=false:=by simp only[okP,b1,if_neg n2,e3,Bool.false_and,Bool.and_false]
    simp only[cf627L0,cf627E0,f1,f2,hget,l1,l2,hz',hs',aR,b1,b2,b3,w1,g1,go_sem,seval]
    exact⟨by kernel_rfl,by rw[hok];rfl⟩
  ·have n2:=of_decide_eq_true b2
   cases b3:decide (x.1 = -1)
   ·have hok:okP sz sp p.pk d.length x=false:=by simp only[okP,b1,if_pos n2,b3,Bool.and_false]
    simp only[cf627L0,cf627E0,f1,f2,hget,l1,l2,hz',hs',aR,b1,b2,b3,go_sem,seval]
    exact⟨by kernel_rfl,by rw[hok];rfl⟩
   ·have hok:okP sz sp p.pk d.length x=true:=by simp only[okP,b1,if_pos n2,b3,Bool.and_self]
    simp only[cf627L0,cf627E0,f1,f2,hget,l1,l2,hz',hs',aR,b1,b2,b3,g1,ew,go_sem,seval]
    exact⟨by kernel_rfl,rfl,by rw[hok,hl];rfl⟩
end
end Go.Tev
end
section
namespace Go.Tev
section
variable{pg:Pg}
set_option maxRecDepth 100000 in
set_option maxHeartbeats 4000000 in
theorem c628(hf:pg.fs 628=some cf628)(k:aA)(p:dC)(h264:∀at_ v:Int,Ret pg 264 [k.av,.int .i64 at_,.int .i64 v] (.bool (oC k at_ v)))(at_:Int)(v w:Nat)(hv:v<p.P.length)(hw:w<p.P.length) :
  Ret pg 628 [.int .i64 at_,.int .i64 v,.int .i64 w,.fp k.av,.fp p.av] (.bool (jA k p.P at_ v w)):=by
 have a1:=h264 at_ w
 have lv:((v:Int)<(p.P.length:Int))=True:=eq_true (by omega)
 have lw:((w:Int)<(p.P.length:Int))=True:=eq_true (by omega)
 have hv0:(0<=(v:Int))=True:=eq_true (by omega)
 have hw0:(0<=(w:Int))=True:=eq_true (by omega)
 have hv':=qW hv
 have hw':=qW hw
 rw[aA.avc]at a1
 rw[aA.avc,dC.avc]
 refine Ret.ofX hf ?_
 unfold cf628
 cases b1:decide (0<=at_)
 ·simp only[b1,go_sem,seval]
  refine⟨by kernel_rfl,?_⟩
  simp[jA,b1]
 obtain⟨j,rfl⟩:=Int.eq_ofNat_of_zero_le (of_decide_eq_true b1)
 cases b2:decide ((j:Int)<(k.list.es.length:Int))
 ·simp only[b1,b2,List.length_map,go_sem,seval]
  refine⟨by kernel_rfl,?_⟩
  simp only[jA,b2,Bool.and_false,Bool.false_and]
 have hjl:j<k.list.es.length:=by have:=of_decide_eq_true b2;omega
 have l6:((j:Int)<(k.list.es.length:Int))=True:=eq_true (by omega)
 have hj0:(0<=(j:Int))=True:=eq_true (by omega)
 have hq:k.list.es[j]?=some k.list.es[j]:=List.getElem?_eq_getElem hjl
 generalize k.list.es[j]=q at hq
 have hval:o9 k (j:Int) v=decide ((v:Int)=q.value):=by simp[o9,hq]
 cases b3:decide ((v:Int)=q.value)
 ·simp only[b1,b2,b3,l6,hj0,hq,aD.avc,List.length_map,go_sem,seval]
  refine⟨by kernel_rfl,?_⟩
  simp[jA,hval,b3]
 cases b4:decide ((plc p.P v).1=(plc p.P w).1)
 ·simp only[b1,b2,b3,b4,l6,hj0,hq,aD.avc,List.length_map,lv,lw,hv0,hw0,hv',hw',go_sem,seval]
  refine⟨by kernel_rfl,?_⟩
  simp[jA,b4]
 simp only[b1,b2,b3,b4,l6,hj0,hq,aD.avc,List.length_map,lv,lw,hv0,hw0,hv',hw',go_sem,seval]
 refine aB a1 (by simp only[go_sem,seval]) rfl ?_
 simp only[go_sem,seval]
 refine⟨by kernel_rfl,?_⟩
 have hb1:decide (0<=(j:Int))=true:=by simp
 simp only[jA,hb1,b2,hval,b3,b4,Bool.true_and]
set_option maxRecDepth 100000 in
set_option maxHeartbeats 4000000 in
theorem c630(hf:pg.fs 630=some cf630)(h638:pg.fs 638=some cf638)(k:aA)(p:dC)(h265:∀at_ v:Int,Ret pg 265 [k.av,.int .i64 at_,.int .i64 v] (.bool (oC k at_ v)))(at_:Int)(v w:Nat)(hv:v<p.P.length)(hw:w<p.P.length)
  (w1:wr .i64 ((plc p.P w).1+(plc p.P w).2)=(plc p.P w).1+(plc p.P w).2) (w2:wr .i64 ((plc p.P v).1+(plc p.P v).2)=(plc p.P v).1+(plc p.P v).2) :
  Ret pg 630 [k.av,p.av,.int .i64 at_,.int .i64 v,.int .i64 w] (.bool (eI k p.P at_ v w)):=by
 have a0:=c638 h638 (plc p.P v) (plc p.P w) w1 w2
 have a1:=h265 at_ w
 have a2:=h265 at_ v
 have lv:((v:Int)<(p.P.length:Int))=True:=eq_true (by omega)
 have lw:((w:Int)<(p.P.length:Int))=True:=eq_true (by omega)
 have hv0:(0<=(v:Int))=True:=eq_true (by omega)
 have hw0:(0<=(w:Int))=True:=eq_true (by omega)
 have hv':=qW hv
 have hw':=qW hw
 rw[aA.avc]at a1 a2
 simp only[aR]at a0
 rw[aA.avc,dC.avc]
 refine Ret.ofX hf ?_
 unfold cf630
 simp only[List.length_map,lv,lw,hv0,hw0,hv',hw',go_sem,seval]
 refine aB a0 (by simp only[go_sem,seval]) rfl ?_
 cases hm:gP (plc p.P v) (plc p.P w)
 ·simp only[go_sem,seval]
  refine⟨by kernel_rfl,?_⟩
  simp[eI,hm]
 cases b1:decide (at_<0)
 case true=>
  have hn:decide (0<=at_)=false:=by have:=of_decide_eq_true b1;simp;omega
  simp only[b1,go_sem,seval]
  refine⟨by kernel_rfl,by kernel_rfl,?_⟩
  simp[eI,hm,jA,hn]
 have h0:0<=at_:=by have:=of_decide_eq_false b1;omega
 obtain⟨j,rfl⟩:=Int.eq_ofNat_of_zero_le h0
 cases b2:decide ((k.list.es.length:Int)<=(j:Int))
 case true=>
  have hn:decide ((j:Int)<(k.list.es.length:Int))=false:=by have:=of_decide_eq_true b2;simp;omega
  simp only[b1,b2,List.length_map,go_sem,seval]
  refine⟨by kernel_rfl,by kernel_rfl,?_⟩
  simp only[eI,hm,jA,hn,Bool.not_true,Bool.and_false,Bool.false_and,Bool.or_self]
 have hjl:j<k.list.es.length:=by have:=of_decide_eq_false b2;omega
 have hb2:decide ((j:Int)<(k.list.es.length:Int))=true:=by simp;omega
 have hb1:decide (0<=(j:Int))=true:=by simp
 have hcomm:decide ((plc p.P w).1=(plc p.P v).1)=decide ((plc p.P v).1=(plc p.P w).1):=by
  by_cases h:(plc p.P v).1=(plc p.P w).1
  ·simp[h]
  ·have h':¬(plc p.P w).1=(plc p.P v).1:=fun e=>h e.symm
   simp[h,h']
 cases b4:decide ((plc p.P v).1=(plc p.P w).1)
 ·rw[b4]at hcomm
  simp only[b1,b2,b4,List.length_map,lv,lw,hv0,hw0,hv',hw',go_sem,seval]
  refine⟨by kernel_rfl,by kernel_rfl,?_⟩
  simp only[eI,hm,jA,b4,hcomm,Bool.not_true,Bool.and_false,Bool.false_and,Bool.or_self]
 rw[b4]at hcomm
 have l6:((j:Int)<(k.list.es.length:Int))=True:=eq_true (by omega)
 have hj0:(0<=(j:Int))=True:=eq_true (by omega)
 have hq:k.list.es[j]?=some k.list.es[j]:=List.getElem?_eq_getElem hjl
 generalize k.list.es[j]=q at hq
 have hval:∀u:Nat,o9 k (j:Int) u=decide ((u:Int)=q.value):=fun u=>by simp[o9,hq]
 have hsp:eI k p.P (j:Int) v w=(decide ((v:Int)=q.value)&&oC k j w||decide ((w:Int)=q.value)&&oC k j v):=by
  simp only[eI,hm,jA,b4,hcomm,hb1,hb2,hval,Bool.not_true,Bool.false_or,Bool.true_and,Bool.and_true]
 have hs1:∀u:Nat,decide (q.value=(u:Int))=decide ((u:Int)=q.value):=fun u=>by
  by_cases h:(u:Int)=q.value
  ·simp[h]
  ·have h':¬q.value=(u:Int):=fun e=>h e.symm
   simp[h,h']
 rw[hsp]
 have s1:=hs1 v
 have s2:=hs1 w
 simp only[b1,b2,b4,List.length_map,lv,lw,hv0,hw0,hv',hw',go_sem,seval]
 refine⟨by kernel_rfl,by kernel_rfl,?_⟩
 simp only[l6,hj0,hq,aD.avc,List.length_map,go_sem,seval]
 cases b5:decide ((v:Int)=q.value)<;>cases b6:decide ((w:Int)=q.value)<;>rw[b5]at s1<;>rw[b6]at s2
 ·simp only[s1,s2,go_sem,seval]
 ·simp only[s1,s2,go_sem,seval]
  refine aB a2 (by simp only[go_sem,seval]) rfl ?_
  simp only[go_sem,seval]
 ·simp only[s1,s2,go_sem,seval]
  refine aB a1 (by simp only[go_sem,seval]) rfl ?_
  cases oC k j w<;>simp only[s1,s2,go_sem,seval]
 ·simp only[s1,s2,go_sem,seval]
  refine aB a1 (by simp only[go_sem,seval]) rfl ?_
  cases oC k j w
  ·simp only[s1,s2,go_sem,seval]
   refine aB a2 (by simp only[go_sem,seval]) rfl ?_
   simp only[go_sem,seval]
  ·simp only[s1,s2,go_sem,seval]
end
end Go.Tev
end
section
namespace Go.Tev
def mT(k:aA)(P:List Sp)(at_:Int):List Int->List Int->Bool
 |_,[]=>true
 |d,v::r=>d.all (fun w=>eI k P at_ v.toNat w.toNat)&&mT k P at_ (d++[v]) r
def lF(k:aA)(P:List Sp):Nat->List Nat->Bool
 |_,[]=>true
 |n,j::r=>mT k P ((j:Int)-1) [] (eE ((j:Int)-1) (aF k))&&lF k P (n+1) r
def nJ(k:aA)(ds:List Val)(p:dC):Bool:=
 decide (dW k ds=0)&&decide ((p.P.length:Int)=(k.values.es.length:Int))&&decide ((p.C.length:Int)=(k.list.es.length:Int)) && !decide (p.pk<0) && !decide (1000000<p.pk) &&
  pJ (cN k ds) (aF k) p.pk 0 p.P&&lF k p.P 0 (List.range (k.list.es.length+2))
theorem C1{sz:List Int}{sp:List Sp}{pk:Int}:∀(P:List Sp)(i w:Nat),pJ sz sp pk i P=true->w<P.length->okP sz sp pk (i+w) (plc P w)=true
 |[],_,_,_,h=>by simp at h
 |x::r,i,0,h,_=>by
  rw[pJ,Bool.and_eq_true]at h
  exact h.1
 |x::r,i,w+1,h,hw=>by
  rw[pJ,Bool.and_eq_true]at h
  have:=C1 r (i+1) w h.2 (by simpa using hw)
  rw[show i+(w+1)=i+1+w from by omega]
  exact this
section
variable{pg:Pg}
set_option maxRecDepth 100000 in
set_option maxHeartbeats 4000000 in
theorem c618(hf:pg.fs 618=some cf618)(h627:pg.fs 627=some cf627)(h628:pg.fs 628=some cf628)(h629:pg.fs 629=some cf629)(k:aA)(nl cl:Bool)(ds:List Val)(p:dC)(h16:Ret pg 16 [k.av,.sl nl (ds.map Val.av) cl] (fY k ds))(h9:bJ pg 9 [k.av] (iC k))
  (h264:∀at_ v:Int,Ret pg 264 [k.av,.int .i64 at_,.int .i64 v] (.bool (oC k at_ v))) (h11:∀at_:Int,bJ pg 11 [k.av,.int .i64 at_] (kS k at_)) :
  Ret pg 618 [k.av,p.av,.sl nl (ds.map Val.av) cl] (.bool (nJ k ds p)):=by
 obtain⟨r9,a9,s9⟩:=h9
 have tlP:=fH p.P
 rw[aA.avc]at h16 a9
 rw[aA.avc,dC.avc]
 by_cases hx:dW k ds=0
 case neg=>
  have b0:decide (dW k ds=0)=false:=by simp[hx]
  rw[fY,if_neg hx]at h16
  refine Ret.ofX hf ?_
  unfold cf618
  simp only[go_sem,seval]
  refine aB h16 (by simp only[go_sem,seval]) rfl ?_
  simp only[b0,go_sem,seval]
  simp only[nJ,b0,Bool.false_and]
 have b0:decide (dW k ds=0)=true:=by simp[hx]
 rw[fY,if_pos hx]at h16
 refine Ret.ofX hf ?_
 unfold cf618
 simp only[go_sem,seval]
 refine aB h16 (by simp only[go_sem,seval]) rfl ?_
 cases b1:decide ((p.P.length:Int)=(k.values.es.length:Int))
 ·simp only[b1,List.length_map,go_sem,seval]
  simp only[nJ,b1,Bool.and_false,Bool.false_and]
 cases b2:decide ((p.C.length:Int)=(k.list.es.length:Int))
 ·simp only[b1,b2,List.length_map,go_sem,seval]
  simp only[nJ,b2,Bool.and_false,Bool.false_and]
 cases b3:decide (p.pk<0)
 case true=>
  simp only[b1,b2,b3,List.length_map,go_sem,seval]
  simp only[nJ,b3,Bool.not_true,Bool.and_false,Bool.false_and]
 cases b4:decide (1000000<p.pk)
 case true=>
  simp only[b1,b2,b3,b4,List.length_map,go_sem,seval]
  simp only[nJ,b4,Bool.not_true,Bool.and_false,Bool.false_and]
 have hs:nJ k ds p=(pJ (cN k ds) (aF k) p.pk 0 p.P&&lF k p.P 0 (List.range (k.list.es.length+2))):=by
  simp only[nJ,b0,b1,b2,b3,b4,Bool.not_false,Bool.true_and]
 rw[hs]
 clear hs
 have ok:=eH (gC hx).1
 have hsz:=GF hx
 have hPV:p.P.length=k.values.es.length:=by have:=of_decide_eq_true b1;omega
 have hp0:0<=p.pk:=by have:=of_decide_eq_false b3;omega
 have hp1:p.pk<=1000000:=by have:=of_decide_eq_false b4;omega
 have hc:=(gC hx).1
 rw[iC,if_pos hc]at s9
 subst s9
 obtain⟨_,hsl,hzl⟩:=GA (ds:=ds) ok
 have hfold:cZ (d6 ds) (aF k) k.values.es=cN k ds:=rfl
 rw[hfold]at h16 hzl
 have a27:=c627 h627 p (cN k ds) (aF k) false true false false hsz (by omega) (by omega) hp0 hp1
 rw[dC.avc]at a27
 have tlS:=fH (aF k)
 rw[<-hfold]at a27
 simp only[b1,b2,b3,b4,List.length_map,go_sem,seval]
 refine aB a9 (by simp only[go_sem,seval]) rfl ?_
 simp only[go_sem,seval]
 refine aB a27 (by simp only[tlP,tlS,go_sem,seval]) rfl ?_
 rw[hfold]
 cases b5:pJ (cN k ds) (aF k) p.pk 0 p.P
 ·simp only[go_sem,seval]
 simp only[go_sem,seval]
 have hIb:k.list.es.length<=big:=k.list.ok
 have hwr:∀w:Nat,(plc (aF k) w).1 ≠ -2/\w<p.P.length->wr .i64 ((plc p.P w).1+(plc p.P w).2)=(plc p.P w).1+(plc p.P w).2:=fun w hw=>by
  have:=C1 (sz:=cN k ds) (sp:=aF k) (pk:=p.pk) p.P 0 w b5 hw.2
  rw[Nat.zero_add]at this
  simp only[okP,if_neg hw.1,Bool.and_eq_true,decide_eq_true_eq]at this
  have h2:=hsz w
  exact aV (by omega) (by omega)
 obtain⟨R,hR⟩:∃R,R=List.range (k.list.es.length+2):=⟨_,rfl⟩
 have hRl:R.length=k.list.es.length+2:=by rw[hR,List.length_range]
 rw[<-hR]
 refine aI R (fun d r env hp=>env=cf618E2 (.pt 1 0 0) (.pt 5 0 0) (.fn 628 [.pt 1 0 0,.pt 5 0 0]) (.int .i64 ((d.length:Int)-1))/\hp.get 1=some (0,.blk k.cells 6 true true false)/\hp.get 5=some (0,.blk p.cells 3 true true false) /\
  lF k p.P 0 R=lF k p.P d.length r) ?_ ?_ ?_
 ·exact⟨rfl,rfl,rfl,rfl⟩
 ·rintro env hp ⟨rfl,g1,g5,hI⟩
  simp only[aA.cells,Sl.av]at g1
  have e1:decide ((R.length:Int)-1<=(k.list.es.length:Int))=false:=decide_eq_false (by omega)
  simp only[cf618L2,cf618E2,e1,g1,List.length_map,go_sem,seval]
  rw[hI]
  rfl
 ·rintro d x r env hp hes ⟨rfl,g1,g5,hI⟩
  rw[hR]at hes
  obtain⟨rfl,hlt⟩:=hZ hes
  have hl:(d++[d.length]).length=d.length+1:=by simp
  have e1:decide ((d.length:Int)-1<=(k.list.es.length:Int))=true:=by simp;omega
  have hw:wr .i64 ((d.length:Int)-1+1)=((d++[d.length]).length:Int)-1:=by rw[aV (by omega) (by simp only[big]at hIb;omega)];rw[hl];omega
  obtain⟨r11,a11,s11⟩:=h11 ((d.length:Int)-1)
  rw[aA.avc]at a11
  unfold kS at s11
  rw[if_pos hc,if_neg (by omega)]at s11
  obtain⟨n3,c3,rfl⟩:=s11
  have hlv:∀w∈eE ((d.length:Int)-1) (aF k),0<=w/\w.toNat<p.P.length:=fun w hw=>by
   obtain⟨u,u1,u2,_⟩:=iW.1 hw
   have:=(List.getElem?_eq_some_iff.1 u2).1
   exact⟨u1,by omega⟩
  have hlv2:∀w:Nat,(w:Int)∈eE ((d.length:Int)-1) (aF k)->(plc (aF k) w).1 ≠ -2/\w<p.P.length:=fun w hw=>by
   obtain⟨u,u1,u2,u3⟩:=iW.1 hw
   rw[Int.toNat_natCast]at u2
   have:=(List.getElem?_eq_some_iff.1 u2).1
   refine⟨?_,by omega⟩
   rw[EN u2]
   simp only[gZ,Bool.and_eq_true,Bool.not_eq_true',decide_eq_false_iff_not]at u3
   exact u3.1.1
  have hlvl:=(nT ((d.length:Int)-1) _ (aF k) rfl).2
  rw[lF]at hI
  rw[hI]
  clear hI hes
  generalize eE ((d.length:Int)-1) (aF k)=lv at *
  generalize hat:(d.length:Int)-1=at_ at *
  have g1':=g1
  simp only[aA.cells,Sl.av]at g1
  simp only[cf618L2,cf618E2,e1,g1,List.length_map,go_sem,seval]
  refine aB a11 (by simp only[go_sem,seval]) rfl ?_
  simp only[go_sem,seval]
  have hlb:lv.length<=big:=by have:=k.values.ok;omega
  refine aI lv (fun d2 r2 env hp'=>env=cf618E1 (.pt 1 0 0) (.pt 5 0 0) (.fn 628 [.pt 1 0 0,.pt 5 0 0]) (.int .i64 at_) (.sl n3 (lv.map aG) c3) (.sl n3 (lv.map aG) c3) (.int .i64 lv.length) (.int .i64 d2.length)/\hp'.get 1=some (0,.blk k.cells 6 true true false)/\hp'.get 5=some (0,.blk p.cells 3 true true false) /\
   mT k p.P at_ [] lv=mT k p.P at_ d2 r2) ?_ ?_ ?_
  ·exact⟨rfl,g1',g5,rfl⟩
  ·rintro env hp' ⟨rfl,g1,g5,hI⟩
   simp only[cf618L1,cf618E1,aW,hw,go_sem,seval]
   exact⟨by kernel_rfl,g1,g5,by rw[hI,hl];rfl⟩
  ·rintro d2 v r2 env hp' hes ⟨rfl,g1,g5,hI⟩
   obtain⟨hget,f1,f2,ew⟩:=cF hes hlb
   have hlt2:d2.length<lv.length:=(List.getElem?_eq_some_iff.1 hget).1
   obtain⟨cS,hS⟩:=I1 n3 c3 d2 (v::r2)
   rw[<-hes]at hS
   rw[mT]at hI
   obtain⟨hv0,hvP⟩:=hlv v (by rw[hes];simp)
   obtain⟨u,rfl⟩:=Int.eq_ofNat_of_zero_le hv0
   rw[Int.toNat_natCast]at hvP hI
   have hd2:∀w∈d2,0<=w/\w.toNat<p.P.length:=fun w hw=>hlv w (by rw[hes];simp[hw])
   have hl2:d2.length<=big:=by omega
   simp only[cf618L1,cf618E1,f1,f2,hget,↓hS,go_sem,seval]
   refine aI d2 (fun d3 r3 env hp3=>env=cf618E0 (.pt 1 0 0) (.pt 5 0 0) (.fn 628 [.pt 1 0 0,.pt 5 0 0]) (.int .i64 at_) (.sl n3 (lv.map aG) c3) (.int .i64 u) (.sl n3 (lv.map aG) c3) (.int .i64 lv.length) (.int .i64 d2.length) (.sl n3 (d2.map aG) cS) (.int .i64 d2.length) (.int .i64 d3.length) /\
    hp3.get 1=some (0,.blk k.cells 6 true true false)/\hp3.get 5=some (0,.blk p.cells 3 true true false) /\
    d2.all (fun w=>eI k p.P at_ u w.toNat)=r3.all (fun w=>eI k p.P at_ u w.toNat)) ?_ ?_ ?_
   ·exact⟨rfl,g1,g5,rfl⟩
   ·rintro env hp3 ⟨rfl,g1,g5,hI3⟩
    have hall:d2.all (fun w=>eI k p.P at_ u w.toNat)=true:=by rw[hI3];rfl
    rw[hall,Bool.true_and]at hI
    simp only[cf618L0,cf618E0,aW,ew,go_sem,seval]
    exact⟨by kernel_rfl,g1,g5,hI⟩
   ·rintro d3 w r3 env hp3 hes3 ⟨rfl,g1,g5,hI3⟩
    obtain⟨hget3,k1,k2,ew3⟩:=cF hes3 hl2
    obtain⟨hw0,hwP⟩:=hd2 w (by rw[hes3];simp)
    obtain⟨y,rfl⟩:=Int.eq_ofNat_of_zero_le hw0
    rw[Int.toNat_natCast]at hwP
    rw[List.all_cons,Int.toNat_natCast]at hI3
    have lu:((u:Int)<(p.P.length:Int))=True:=eq_true (by omega)
    have ly:((y:Int)<(p.P.length:Int))=True:=eq_true (by omega)
    have hu0:(0<=(u:Int))=True:=eq_true (by omega)
    have hy0:(0<=(y:Int))=True:=eq_true (by omega)
    have hu':=qW hvP
    have hy':=qW hwP
    have wu:wr .i64 ((plc p.P u).1+(plc p.P u).2)=(plc p.P u).1+(plc p.P u).2:=hwr u (hlv2 u (by rw[hes];simp))
    have wy:wr .i64 ((plc p.P y).1+(plc p.P y).2)=(plc p.P y).1+(plc p.P y).2:=hwr y (hlv2 y (by rw[hes,hes3];simp))
    have a29:=c629 h629 (plc p.P u) (plc p.P y) wy wu
    simp only[aR]at a29
    have a28:=c628 h628 k p h264 at_ u y hvP hwP
    have a28':=c628 h628 k p h264 at_ y u hwP hvP
    have g1':=g1
    have g5':=g5
    simp only[aA.cells,Sl.av]at g1
    simp only[dC.cells]at g5
    simp only[cf618L0,cf618E0,k1,k2,hget3,g5,lu,ly,hu0,hy0,hu',hy',go_sem,seval]
    refine aB a29 (by simp only[go_sem,seval]) rfl ?_
    cases hm:gP (plc p.P u) (plc p.P y)
    ·have hap:eI k p.P at_ u y=true:=by simp only[eI,hm,Bool.not_false,Bool.true_or]
     rw[hap,Bool.true_and]at hI3
     simp only[go_sem,seval]
     refine⟨by kernel_rfl,?_⟩
     simp only[ew3,go_sem,seval]
     exact⟨by kernel_rfl,g1',g5',hI3⟩
    simp only[go_sem,seval]
    refine bQ a28 (by simp only[depth,bW,bB,eD,g1,g5,go_sem,seval];rfl) (by rfl) ?_
    cases ht:jA k p.P at_ u y
    case true=>
     have hap:eI k p.P at_ u y=true:=by simp only[eI,ht,Bool.or_true,Bool.true_or]
     rw[hap,Bool.true_and]at hI3
     simp only[go_sem,seval]
     refine⟨by kernel_rfl,?_⟩
     simp only[ew3,go_sem,seval]
     exact⟨by kernel_rfl,g1',g5',hI3⟩
    simp only[go_sem,seval]
    refine bQ a28' (by simp only[depth,bW,bB,eD,g1,g5,go_sem,seval];rfl) (by rfl) ?_
    cases ht2:jA k p.P at_ y u
    case true=>
     have hap:eI k p.P at_ u y=true:=by simp only[eI,ht2,Bool.or_true]
     rw[hap,Bool.true_and]at hI3
     simp only[go_sem,seval]
     refine⟨by kernel_rfl,?_⟩
     simp only[ew3,go_sem,seval]
     exact⟨by kernel_rfl,g1',g5',hI3⟩
    have hap:eI k p.P at_ u y=false:=by simp only[eI,hm,ht,ht2,Bool.not_true,Bool.or_self]
    rw[hap,Bool.false_and]at hI3
    rw[hI3,Bool.false_and]at hI
    simp only[go_sem,seval]
    refine⟨by kernel_rfl,?_⟩
    rw[hI,Bool.false_and]
end
end Go.Tev
end
section
namespace Go.Tev
theorem L6(k:aA)(v:Nat) : -2<=(plc (aF k) v).1:=by
 by_cases h:v<(aF k).length
 ·rcases mL (uJ (GV h)) with h|⟨h,_⟩|⟨j,_,_,_,h⟩<;>omega
 ·rw[plc,List.getD_eq_getElem?_getD,List.getElem?_eq_none (by omega)]
  decide
section
variable{pg:Pg}
set_option maxRecDepth 100000 in
set_option maxHeartbeats 8000000 in
theorem c619(hf:pg.fs 619=some cf619)(h630:pg.fs 630=some cf630)(h638:pg.fs 638=some cf638)(k:aA)(nl cl:Bool)(ds:List Val)(p:dC)(h17:bJ pg 17 [k.av,.sl nl (ds.map Val.av) cl] (iG k ds))(h10:bJ pg 10 [k.av] (gK k))
  (h265:∀at_ v:Int,Ret pg 265 [k.av,.int .i64 at_,.int .i64 v] (.bool (oC k at_ v))) (h12:∀at_:Int,bJ pg 12 [k.av,.int .i64 at_] (kS k at_)) :
  Ret pg 619 [k.av,p.av,.sl nl (ds.map Val.av) cl] (.bool (nJ k ds p)):=by
 obtain⟨r9,a9,s9⟩:=h10
 obtain⟨r17,a17,s17⟩:=h17
 have tlP:=fH p.P
 rw[aA.avc]at a17 a9
 rw[aA.avc,dC.avc]
 by_cases hx:dW k ds=0
 case neg=>
  have b0:decide (dW k ds=0)=false:=by simp[hx]
  rw[iG,if_neg hx]at s17
  subst s17
  refine Ret.ofX hf ?_
  unfold cf619
  simp only[go_sem,seval]
  refine aB a17 (by simp only[go_sem,seval]) rfl ?_
  simp only[b0,go_sem,seval]
  simp only[nJ,b0,Bool.false_and]
 have b0:decide (dW k ds=0)=true:=by simp[hx]
 rw[iG,if_pos hx]at s17
 obtain⟨n4,c4,rfl⟩:=s17
 refine Ret.ofX hf ?_
 unfold cf619
 simp only[go_sem,seval]
 refine aB a17 (by simp only[go_sem,seval]) rfl ?_
 cases b1:decide ((p.P.length:Int)=(k.values.es.length:Int))
 ·simp only[b1,List.length_map,go_sem,seval]
  simp only[nJ,b1,Bool.and_false,Bool.false_and]
 cases b2:decide ((p.C.length:Int)=(k.list.es.length:Int))
 ·simp only[b1,b2,List.length_map,go_sem,seval]
  simp only[nJ,b2,Bool.and_false,Bool.false_and]
 cases b3:decide (p.pk<0)
 case true=>
  simp only[b1,b2,b3,List.length_map,go_sem,seval]
  simp only[nJ,b3,Bool.not_true,Bool.and_false,Bool.false_and]
 cases b4:decide (1000000<p.pk)
 case true=>
  simp only[b1,b2,b3,b4,List.length_map,go_sem,seval]
  simp only[nJ,b4,Bool.not_true,Bool.and_false,Bool.false_and]
 have hs:nJ k ds p=(pJ (cN k ds) (aF k) p.pk 0 p.P&&lF k p.P 0 (List.range (k.list.es.length+2))):=by
  simp only[nJ,b0,b1,b2,b3,b4,Bool.not_false,Bool.true_and]
 rw[hs]
 clear hs
 have ok:=eH (gC hx).1
 have hsz:=GF hx
 have hPV:p.P.length=k.values.es.length:=by have:=of_decide_eq_true b1;omega
 have hp0:0<=p.pk:=by have:=of_decide_eq_false b3;omega
 have hp1:p.pk<=1000000:=by have:=of_decide_eq_false b4;omega
 have hc:=(gC hx).1
 unfold gK at s9
 rw[if_pos hc]at s9
 obtain⟨n9,c9,rfl⟩:=s9
 obtain⟨_,hsl,hzl⟩:=GA (ds:=ds) ok
 have hfold:cZ (d6 ds) (aF k) k.values.es=cN k ds:=rfl
 rw[hfold]at a17 hzl
 have hPb:=p.bP
 have hzP:((cN k ds).length:Int)=(p.P.length:Int):=by omega
 rw[hfold]
 simp only[b1,b2,b3,b4,List.length_map,go_sem,seval]
 refine aB a9 (by simp only[go_sem,seval]) rfl ?_
 simp only[go_sem,seval]
 refine aI p.P (fun d r env hp=>env=cf619E0 (.pt 1 0 0) (.pt 5 0 0) (.sl n4 ((cN k ds).map aG) c4) (.sl n9 ((aF k).map aR) c9) (.int .i64 d.length)/\hp.get 1=some (0,.blk k.cells 6 true true false)/\hp.get 5=some (0,.blk p.cells 3 true true false) /\
  pJ (cN k ds) (aF k) p.pk 0 p.P=pJ (cN k ds) (aF k) p.pk d.length r) ?_ ?_ ?_
 ·exact⟨rfl,rfl,rfl,rfl⟩
 ·rintro env hp ⟨rfl,g1,g5,hI⟩
  have b5:pJ (cN k ds) (aF k) p.pk 0 p.P=true:=by rw[hI];rfl
  have hwr:∀w:Nat,(plc (aF k) w).1 ≠ -2/\w<p.P.length->wr .i64 ((plc p.P w).1+(plc p.P w).2)=(plc p.P w).1+(plc p.P w).2:=fun w hw=>by
   have:=C1 (sz:=cN k ds) (sp:=aF k) (pk:=p.pk) p.P 0 w b5 hw.2
   rw[Nat.zero_add]at this
   simp only[okP,if_neg hw.1,Bool.and_eq_true,decide_eq_true_eq]at this
   have h2:=hsz w
   exact aV (by omega) (by omega)
  have hIb:k.list.es.length<=big:=k.list.ok
  rw[b5,Bool.true_and]
  clear hI
  obtain⟨R,hR⟩:∃R,R=List.range (k.list.es.length+2):=⟨_,rfl⟩
  have hRl:R.length=k.list.es.length+2:=by rw[hR,List.length_range]
  rw[<-hR]
  simp only[cf619L0,cf619E0,List.length_map,hzP,aW,go_sem,seval]
  refine aI R (fun d r env hp=>env=cf619E3 (.pt 1 0 0) (.pt 5 0 0) (.int .i64 ((d.length:Int)-1))/\hp.get 1=some (0,.blk k.cells 6 true true false)/\hp.get 5=some (0,.blk p.cells 3 true true false) /\
   lF k p.P 0 R=lF k p.P d.length r) ?_ ?_ ?_
  ·exact⟨rfl,g1,g5,rfl⟩
  ·rintro env hp ⟨rfl,g1,g5,hI⟩
   simp only[aA.cells,Sl.av]at g1
   have e1:decide ((R.length:Int)-1<=(k.list.es.length:Int))=false:=decide_eq_false (by omega)
   simp only[cf619L3,cf619E3,e1,g1,List.length_map,go_sem,seval]
   rw[hI]
   rfl
  ·rintro d x r env hp hes ⟨rfl,g1,g5,hI⟩
   rw[hR]at hes
   obtain⟨rfl,hlt⟩:=hZ hes
   have hl:(d++[d.length]).length=d.length+1:=by simp
   have e1:decide ((d.length:Int)-1<=(k.list.es.length:Int))=true:=by simp;omega
   have hw:wr .i64 ((d.length:Int)-1+1)=((d++[d.length]).length:Int)-1:=by rw[aV (by omega) (by simp only[big]at hIb;omega)];rw[hl];omega
   obtain⟨r11,a11,s11⟩:=h12 ((d.length:Int)-1)
   rw[aA.avc]at a11
   unfold kS at s11
   rw[if_pos hc,if_neg (by omega)]at s11
   obtain⟨n3,c3,rfl⟩:=s11
   have hlv:∀w∈eE ((d.length:Int)-1) (aF k),0<=w/\w.toNat<p.P.length:=fun w hw=>by
    obtain⟨u,u1,u2,_⟩:=iW.1 hw
    have:=(List.getElem?_eq_some_iff.1 u2).1
    exact⟨u1,by omega⟩
   have hlv2:∀w:Nat,(w:Int)∈eE ((d.length:Int)-1) (aF k)->(plc (aF k) w).1 ≠ -2/\w<p.P.length:=fun w hw=>by
    obtain⟨u,u1,u2,u3⟩:=iW.1 hw
    rw[Int.toNat_natCast]at u2
    have:=(List.getElem?_eq_some_iff.1 u2).1
    refine⟨?_,by omega⟩
    rw[EN u2]
    simp only[gZ,Bool.and_eq_true,Bool.not_eq_true',decide_eq_false_iff_not]at u3
    exact u3.1.1
   have hlvl:=(nT ((d.length:Int)-1) _ (aF k) rfl).2
   rw[lF]at hI
   rw[hI]
   clear hI hes
   generalize eE ((d.length:Int)-1) (aF k)=lv at *
   generalize hat:(d.length:Int)-1=at_ at *
   have g1':=g1
   simp only[aA.cells,Sl.av]at g1
   simp only[cf619L3,cf619E3,e1,g1,List.length_map,go_sem,seval]
   refine aB a11 (by simp only[go_sem,seval]) rfl ?_
   simp only[go_sem,seval]
   have hlb:lv.length<=big:=by have:=k.values.ok;omega
   refine aI lv (fun d2 r2 env hp'=>env=cf619E2 (.pt 1 0 0) (.pt 5 0 0) (.int .i64 at_) (.sl n3 (lv.map aG) c3) (.int .i64 d2.length)/\hp'.get 1=some (0,.blk k.cells 6 true true false)/\hp'.get 5=some (0,.blk p.cells 3 true true false) /\
    mT k p.P at_ [] lv=mT k p.P at_ d2 r2) ?_ ?_ ?_
   ·exact⟨rfl,g1',g5,rfl⟩
   ·rintro env hp' ⟨rfl,g1,g5,hI⟩
    simp only[cf619L2,cf619E2,aW,hw,List.length_map,go_sem,seval]
    exact⟨by kernel_rfl,g1,g5,by rw[hI,hl];rfl⟩
   ·rintro d2 v r2 env hp' hes ⟨rfl,g1,g5,hI⟩
    obtain⟨hget,f1,f2,ew⟩:=cF hes hlb
    rw[mT]at hI
    obtain⟨hv0,hvP⟩:=hlv v (by rw[hes];simp)
    obtain⟨u,rfl⟩:=Int.eq_ofNat_of_zero_le hv0
    rw[Int.toNat_natCast]at hvP hI
    have hl2:d2.length<=big:=by have:=congrArg List.length hes;simp at this;omega
    have lt2:((d2.length:Int)<(lv.length:Int))=True:=eq_true (by have:=congrArg List.length hes;simp at this;omega)
    simp only[cf619L2,cf619E2,f1,f2,hget,List.length_map,go_sem,seval]
    refine aI d2 (fun d3 r3 env hp3=>env=cf619E1 (.pt 1 0 0) (.pt 5 0 0) (.int .i64 at_) (.sl n3 (lv.map aG) c3) (.int .i64 d2.length) (.int .i64 d3.length) /\
     hp3.get 1=some (0,.blk k.cells 6 true true false)/\hp3.get 5=some (0,.blk p.cells 3 true true false) /\
     d2.all (fun w=>eI k p.P at_ u w.toNat)=r3.all (fun w=>eI k p.P at_ u w.toNat)) ?_ ?_ ?_
    ·exact⟨rfl,g1,g5,rfl⟩
    ·rintro env hp3 ⟨rfl,g1,g5,hI3⟩
     have hall:d2.all (fun w=>eI k p.P at_ u w.toNat)=true:=by rw[hI3];rfl
     rw[hall,Bool.true_and]at hI
     simp only[cf619L1,cf619E1,aW,ew,go_sem,seval]
     exact⟨by kernel_rfl,g1,g5,hI⟩
    ·rintro d3 w r3 env hp3 hes3 ⟨rfl,g1,g5,hI3⟩
     obtain⟨hget3,k1,k2,ew3⟩:=cF hes3 hl2
     have hwm:w∈lv:=by rw[hes,hes3];simp
     obtain⟨hw0,hwP⟩:=hlv w hwm
     obtain⟨y,rfl⟩:=Int.eq_ofNat_of_zero_le hw0
     rw[Int.toNat_natCast]at hwP
     rw[List.all_cons,Int.toNat_natCast]at hI3
     have hgl:(lv.map aG)[d3.length]?=some (aG (y:Int)):=by rw[List.getElem?_map,hes,hes3];simp
     have lt3:((d3.length:Int)<(lv.length:Int))=True:=eq_true (by have:=congrArg List.length hes;have h3:=congrArg List.length hes3;simp at this h3;omega)
     have wu:wr .i64 ((plc p.P u).1+(plc p.P u).2)=(plc p.P u).1+(plc p.P u).2:=hwr u (hlv2 u (by rw[hes];simp))
     have wy:wr .i64 ((plc p.P y).1+(plc p.P y).2)=(plc p.P y).1+(plc p.P y).2:=hwr y (hlv2 y hwm)
     have a30:=c630 h630 h638 k p h265 at_ u y hvP hwP wy wu
     rw[aA.avc,dC.avc]at a30
     have g1':=g1
     have g5':=g5
     simp only[aA.cells,Sl.av]at g1
     simp only[dC.cells]at g5
     simp only[cf619L1,cf619E1,k1,k2,f1,f2,hget,hgl,lt2,lt3,g1,g5,go_sem,seval]
     refine aB a30 (by simp only[tlP,go_sem,seval]) rfl ?_
     cases hap:eI k p.P at_ u y
     ·rw[hap,Bool.false_and]at hI3
      rw[hI3,Bool.false_and]at hI
      simp only[go_sem,seval]
      refine⟨by kernel_rfl,?_⟩
      rw[hI,Bool.false_and]
     ·rw[hap,Bool.true_and]at hI3
      simp only[go_sem,seval]
      refine⟨by kernel_rfl,?_⟩
      simp only[ew3,go_sem,seval]
      exact⟨by kernel_rfl,g1',g5',hI3⟩
 ·rintro d x r env hp hes ⟨rfl,g1,g5,hI⟩
  obtain⟨hget,f1,f2,ew⟩:=cF hes hPb
  have hlt:d.length<p.P.length:=(List.getElem?_eq_some_iff.1 hget).1
  have l1:((d.length:Int)<((cN k ds).length:Int))=True:=eq_true (by omega)
  have l2:((d.length:Int)<((aF k).length:Int))=True:=eq_true (by omega)
  have hz':((cN k ds).map aG)[d.length]?=some (aG (cC (cN k ds) d.length)):=by
   rw[List.getElem?_map,cC,List.getD_eq_getElem?_getD,List.getElem?_eq_getElem (by omega)];rfl
  have hs':=qW (P:=aF k) (v:=d.length) (by omega)
  have hge:=L6 k d.length
  have hzd:=hsz d.length
  have hl:(d++[x]).length=d.length+1:=by simp
  rw[pJ]at hI
  have hloop:decide ((d.length:Int)<((cN k ds).length:Int))=true:=decide_eq_true (by omega)
  have g1':=g1
  have g5':=g5
  simp only[dC.cells]at g5
  rw[hI]
  clear hI hes
  cases e1:decide (x.2=cC (cN k ds) d.length)
  ·have hok:okP (cN k ds) (aF k) p.pk d.length x=false:=by simp only[okP,e1,Bool.false_and]
   simp only[cf619L0,cf619E0,hloop,f1,f2,hget,l1,hz',aR,e1,g5,List.length_map,go_sem,seval]
   refine⟨by kernel_rfl,?_⟩
   rw[hok,Bool.false_and,Bool.false_and]
  have x1:=of_decide_eq_true e1
  have w1:wr .i64 (p.pk-x.2)=p.pk-x.2:=aV (by omega) (by omega)
  cases e2:decide ((plc (aF k) d.length).1 < -1)
  ·have n2:¬(plc (aF k) d.length).1 = -2:=by have:=of_decide_eq_false e2;omega
   have e2':decide (-1<=(plc (aF k) d.length).1)=true:=by have:=of_decide_eq_false e2;simp;omega
   cases e3:decide (x.1<0)
   ·have q3:decide (0<=x.1)=true:=by have:=of_decide_eq_false e3;simp;omega
    cases e4:decide (p.pk-x.2<x.1)
    ·have q4:decide (x.1<=p.pk-x.2)=true:=by have:=of_decide_eq_false e4;simp;omega
     have hok:okP (cN k ds) (aF k) p.pk d.length x=true:=by simp only[okP,e1,if_neg n2,q3,q4,Bool.and_self]
     simp only[cf619L0,cf619E0,hloop,f1,f2,hget,l1,l2,hz',hs',aR,e1,e2,e2',e3,e4,w1,g5,List.length_map,go_sem,seval]
     refine⟨by kernel_rfl,?_⟩
     simp only[ew,go_sem,seval]
     exact⟨by kernel_rfl,g1',rfl,by rw[hok,hl];rfl⟩
    ·have q4:decide (x.1<=p.pk-x.2)=false:=by have:=of_decide_eq_true e4;simp;omega
     have hok:okP (cN k ds) (aF k) p.pk d.length x=false:=by simp only[okP,e1,if_neg n2,q3,q4,Bool.and_false,Bool.true_and]
     simp only[cf619L0,cf619E0,hloop,f1,f2,hget,l1,l2,hz',hs',aR,e1,e2,e2',e3,e4,w1,g5,List.length_map,go_sem,seval]
     refine⟨by kernel_rfl,?_⟩
     rw[hok,Bool.false_and,Bool.false_and]
   ·have q3:decide (0<=x.1)=false:=by have:=of_decide_eq_true e3;simp;omega
    have hok:okP (cN k ds) (aF k) p.pk d.length x=false:=by simp only[okP,e1,if_neg n2,q3,Bool.false_and,Bool.and_false]
    simp only[cf619L0,cf619E0,hloop,f1,f2,hget,l1,l2,hz',hs',aR,e1,e2,e2',e3,w1,g5,List.length_map,go_sem,seval]
    refine⟨by kernel_rfl,?_⟩
    rw[hok,Bool.false_and,Bool.false_and]
  ·have n2:(plc (aF k) d.length).1 = -2:=by have:=of_decide_eq_true e2;omega
   have e2':decide (-1<=(plc (aF k) d.length).1)=false:=by rw[n2];decide
   cases e3:decide (x.1 = -1)
   ·have hok:okP (cN k ds) (aF k) p.pk d.length x=false:=by simp only[okP,e1,if_pos n2,e3,Bool.and_false]
    simp only[cf619L0,cf619E0,hloop,f1,f2,hget,l1,l2,hz',hs',aR,e1,e2,e2',e3,w1,g5,List.length_map,go_sem,seval]
    refine⟨by kernel_rfl,?_⟩
    rw[hok,Bool.false_and,Bool.false_and]
   ·have hok:okP (cN k ds) (aF k) p.pk d.length x=true:=by simp only[okP,e1,if_pos n2,e3,Bool.and_self]
    simp only[cf619L0,cf619E0,hloop,f1,f2,hget,l1,l2,hz',hs',aR,e1,e2,e2',e3,w1,g5,List.length_map,go_sem,seval]
    refine⟨by kernel_rfl,?_⟩
    simp only[ew,go_sem,seval]
    exact⟨by kernel_rfl,g1',rfl,by rw[hok,hl];rfl⟩
end
end Go.Tev
end
section
namespace Go.Tev
theorem I9{sz:List Int}{sp:List Sp}{pk:Int}:∀(P:List Sp)(i:Nat),(∀w,w<P.length->okP sz sp pk (i+w) (plc P w)=true)->pJ sz sp pk i P=true
 |[],_,_=>rfl
 |x::r,i,h=>by
  rw[pJ,Bool.and_eq_true]
  refine⟨h 0 (by simp),I9 r (i+1) (fun w hw=>?_)⟩
  have:=h (w+1) (by simpa using hw)
  rw[show i+1+w=i+(w+1) from by omega]
  exact this
theorem BI{k:aA}{P:List Sp}{at_:Int}:∀(r d:List Int),(d++r).Nodup->(∀v∈d++r,∀w∈d++r,v≠w->eI k P at_ v.toNat w.toNat=true)->mT k P at_ d r=true
 |[],_,_,_=>rfl
 |v::r,d,hn,h=>by
  have e:d++v::r=d++[v]++r:=by simp
  rw[mT,Bool.and_eq_true]
  refine⟨?_,BI r (d++[v]) (by rw[<-e];exact hn) (by rw[<-e];exact h)⟩
  rw[List.all_eq_true]
  intro w hw
  refine h v (by simp) w (by simp[hw]) ?_
  rintro rfl
  rw[List.nodup_append]at hn
  exact hn.2.2 v hw v (by simp) rfl
theorem BN{k:aA}{P:List Sp}:∀(l:List Nat)(n:Nat),(∀j∈l,mT k P ((j:Int)-1) [] (eE ((j:Int)-1) (aF k))=true)->lF k P n l=true
 |[],_,_=>rfl
 |j::r,n,h=>by
  rw[lF,Bool.and_eq_true]
  exact⟨h j (by simp),BN r (n+1) (fun i hi=>h i (by simp[hi]))⟩
section
variable{k:aA}{ds:List Val}{s:PS}
theorem G4{j c:Nat}(h:gF k j=(c:Int)):kR k (j:Int) (c:Int)=true:=by
 rcases pT (fun v=>kR k (j:Int) (v:Int)) k.values.es.length 0 with h1|⟨c',h1,h2,_,_⟩
 ·rw[gF,h1]at h;omega
 ·rw[gF,h1]at h
  obtain rfl:c'=c:=by omega
  exact h2
theorem DU(hc:(cQ k).2=0){v w:Nat}{a b:Sp}(hw:(aF k)[w]?=some b)(he:Exc k v a b)(ho:(plc s.1 v).1=(plc s.1 w).1){at_:Int}(h1:b.1<=at_)(h2:at_<=a.2):jA k s.1 at_ w v=true:=by
 obtain⟨j,x1,x2,x3⟩:=he
 obtain rfl:at_=(j:Int):=by omega
 have hm:=G4 x3
 have hlt:j<k.list.es.length:=by
  by_cases hlt:j<k.list.es.length
  ·exact hlt
  ·simp only[kR,Int.toNat_natCast,List.getElem?_eq_none (Nat.le_of_not_lt hlt)]at hm
   cases hm
 have hq:k.list.es[j]?=some k.list.es[j]:=List.getElem?_eq_getElem hlt
 have hwq:=GD hw x1 hq
 have hq0:0<=(k.list.es[j]).value:=by
  have ok:=eH hc
  have hes2:k.list.es=k.list.es.take j++k.list.es[j]::k.list.es.drop (j+1):=by rw[<-List.drop_eq_getElem_cons hlt,List.take_append_drop]
  obtain⟨q0,_,_⟩:=eA (ok.ker _ _ _ hes2)
  have:=GZ ok
  omega
 have hval:o9 k (j:Int) w=true:=by
  simp only[o9,Int.toNat_natCast,hq]
  exact decide_eq_true (by omega)
 have b1:decide (0<=(j:Int))=true:=by simp
 have b2:decide ((j:Int)<(k.list.es.length:Int))=true:=by simp;exact hlt
 have b3:decide ((plc s.1 w).1=(plc s.1 v).1)=true:=decide_eq_true ho.symm
 have b4:oC k (j:Int) (v:Int)=true:=by simp[oC,hc,hm]
 simp only[jA,b1,b2,hval,b3,b4,Bool.and_self]
theorem G5(hx:dW k ds=0)(hf:zL k=true)(p:dC)(hP:p.P=(fQ k (cN k ds) k.list.es).1)(hC:p.C=cJ k)(hpk:p.pk=(fQ k (cN k ds) k.list.es).2)(hm:p.pk<=1000000):nJ k ds p=true:=by
 have hc:=(gC hx).1
 have ok:=eH hc
 have hz:=GF hx
 obtain⟨hn,_⟩:=FC hf
 have hi:k.inputs.toNat<=k.values.es.length:=by
  have:=ok.out
  simp only[aZ,Bool.and_eq_true,decide_eq_true_eq]at this
  obtain⟨_,⟨⟨⟨⟨⟨⟨_,_⟩,hi0⟩,_⟩,hiV⟩,_⟩,_⟩,_⟩:=this
  omega
 have h:=QT ok ds hz hn hi
 generalize fQ k (cN k ds) k.list.es=s at *
 have hcl:p.C.length=k.list.es.length:=by rw[hC,pW,nX]
 have hpl:p.P.length=k.values.es.length:=by rw[hP];exact h.len
 obtain⟨_,hsl,hzl⟩:=GA (ds:=ds) ok
 have hnn:=h.nn
 have b0:decide (dW k ds=0)=true:=by simp[hx]
 have b1:decide ((p.P.length:Int)=(k.values.es.length:Int))=true:=decide_eq_true (by omega)
 have b2:decide ((p.C.length:Int)=(k.list.es.length:Int))=true:=decide_eq_true (by omega)
 have b3:decide (p.pk<0)=false:=decide_eq_false (by omega)
 have b4:decide (1000000<p.pk)=false:=decide_eq_false (by omega)
 have b5:pJ (cN k ds) (aF k) p.pk 0 p.P=true:=by
  refine I9 p.P 0 (fun w hw=>?_)
  rw[Nat.zero_add,hP]
  have hws:w<(aF k).length:=by omega
  have hsp:=GV hws
  by_cases h2:(plc (aF k) w).1 = -2
  ·have hnb:¬Bef k k.list.es.length w:=by
    rintro⟨a,a1,a2,_⟩
    rw[hsp]at a1
    cases a1
    exact a2 h2
   have hs0:cC (cN k ds) w=0:=by
    rw[cC,List.getD_eq_getElem?_getD,cN,sQ _ _ _ w _ _ hsp (List.getElem?_eq_getElem (by omega)),if_pos h2]
    rfl
   rw[h.no w hnb]
   simp[okP,h2,hs0]
  ·have hb:Bef k k.list.es.length w:=z7 (at_:=0) hsp h2
   have q1:=h.pl w hb
   have q2:=h.pe w hb
   simp only[okP,if_neg h2,Bool.and_eq_true,decide_eq_true_eq]
   omega
 have b6:lF k p.P 0 (List.range (k.list.es.length+2))=true:=by
  refine BN _ 0 (fun j _=>BI _ [] (by simpa using (nT ((j:Int)-1) _ (aF k) rfl).1) ?_)
  intro v hv w hw hne
  rw[List.nil_append]at hv hw
  rw[hP]
  cases hmt:gP (plc s.1 v.toNat) (plc s.1 w.toNat)
  ·simp only[eI,hmt,Bool.not_false,Bool.true_or]
  obtain⟨a,v0,ha,hla⟩:=iW.1 hv
  obtain⟨b,w0,hb,hlb⟩:=iW.1 hw
  simp only[gZ,Bool.and_eq_true,Bool.not_eq_true',decide_eq_false_iff_not,decide_eq_true_eq]at hla hlb
  have hDv:Bef k k.list.es.length v.toNat:=z7 (at_:=0) ha hla.1.1
  have hDw:Bef k k.list.es.length w.toNat:=z7 (at_:=0) hb hlb.1.1
  have hnn':v.toNat≠w.toNat:=by omega
  by_cases hab:a.1<=b.1
  ·obtain⟨he,ho⟩:=h.dj _ _ a b hDv hDw hnn' ha hb hab (by omega) hmt
   have:=DU hc hb he ho (at_:=(j:Int)-1) hlb.1.2 hla.2
   simp only[eI,this,Bool.or_true]
  ·rw[s6]at hmt
   obtain⟨he,ho⟩:=h.dj _ _ b a hDw hDv (fun e=>hnn' e.symm) hb ha (by omega) (by omega) hmt
   have:=DU hc ha he ho (at_:=(j:Int)-1) hla.1.2 hlb.2
   simp only[eI,this,Bool.or_true,Bool.true_or]
 simp only[nJ,b0,b1,b2,b3,b4,b5,b6,Bool.not_false,Bool.and_self]
end
end Go.Tev
end
