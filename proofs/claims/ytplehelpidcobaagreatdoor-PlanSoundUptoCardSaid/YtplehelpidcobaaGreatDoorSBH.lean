import Derived.Test.YtplehelpidcobaaGreatDoorSBG
import Derived.Test.YtplehelpidcobaaGreatDoorSAY
import Derived.OpenShut
import Derived.Test.YtplehelpidcobaaGreatDoorSAV
import Derived.Lib.LaidTab
import Derived.Test.YtplehelpidcobaaGreatDoorRows
import Derived.Test.YtplehelpidcobaaGreatDoorSBD
set_option linter.all false
section
namespace Go.Tev
theorem EO(p:dC):mS p p=true:=by
 have h1:eqL tN p.P p.P=true:=fA (fun x=>by simp[tN]) _
 have h2:eqL iEq p.C p.C=true:=fA (fun x=>by simp[iEq]) _
 simp[mS,h1,h2]
def IU(p q:dC):AV:=.agg [.sl p.n1 (p.P.map aR) p.c1,.sl p.n2 (p.C.map aG) p.c2,.int .i64 p.pk,.sl q.n1 (q.P.map aR) q.c1,.sl q.n2 (q.C.map aG) q.c2,.int .i64 q.pk]
section
variable{pg:Pg}
set_option maxRecDepth 100000 in
set_option maxHeartbeats 8000000 in
theorem c613(hf:pg.fs 613=some cf613)(h614:Ret pg 614 [] (.bool true))(k:aA)(nl cl:Bool)(ds:List Val)(p q:dC)(h8:Ret pg 8 [k.av] (.bool (zL k)))
  (h615:bJ pg 615 [k.av,.sl nl (ds.map Val.av) cl] (yY k ds)) (h618:∀p:dC,Ret pg 618 [k.av,p.av,.sl nl (ds.map Val.av) cl] (.bool (nJ k ds p))) (h619:∀p:dC,Ret pg 619 [k.av,p.av,.sl nl (ds.map Val.av) cl] (.bool (nJ k ds p)))
  (h620:∀p q:dC,Ret pg 620 [p.av,q.av] (.bool (mS p q))) (h617:∀p q:dC,Ret pg 617 [p.av,q.av] (.bool (mS p q))) :
  Ret pg 613 [k.av,.sl nl (ds.map Val.av) cl,IU p q] (.bool true):=by
 obtain⟨r15,a15,s15⟩:=h615
 have a1:=h618 p
 have a2:=h619 p
 have a3:=h620 p q
 have a4:=h617 p q
 have a5:=h620 p p
 rw[EO]at a5
 have tp:=fH p.P
 have tq:=fH q.P
 rw[aA.avc]at h8 a15 a1 a2
 simp only[dC.avc]at a1 a2 a3 a4 a5
 refine Ret.ofX hf ?_
 unfold cf613 IU
 simp only[go_sem,seval]
 refine aB h614 rfl rfl ?_
 simp only[go_sem,seval]
 refine aB h8 (by simp only[go_sem,seval]) rfl ?_
 cases hfew:zL k
 ·simp only[go_sem,seval]
  refine aB h614 rfl rfl ?_
  simp only[go_sem,seval]
 simp only[go_sem,seval]
 cases b1:decide (13<(ds.length:Int))
 case true=>
  simp only[b1,go_sem,seval]
  refine aB h614 rfl rfl ?_
  simp only[go_sem,seval]
 cases b2:decide (20<(p.P.length:Int))
 case true=>
  simp only[b1,b2,List.length_map,go_sem,seval]
  refine aB h614 rfl rfl ?_
  simp only[go_sem,seval]
 cases b3:decide (20<(q.P.length:Int))
 case true=>
  simp only[b1,b2,b3,List.length_map,go_sem,seval]
  refine aB h614 rfl rfl ?_
  simp only[go_sem,seval]
 simp only[b1,b2,b3,List.length_map,go_sem,seval]
 refine aB a1 (by simp only[tp,go_sem,seval]) rfl ?_
 simp only[go_sem,seval]
 refine aB a2 (by simp only[tp,go_sem,seval]) rfl ?_
 have e1:(nJ k ds p==nJ k ds p)=true:=by simp
 simp only[e1,go_sem,seval]
 refine aB a3 (by simp only[tp,tq,go_sem,seval]) rfl ?_
 simp only[go_sem,seval]
 refine aB a4 (by simp only[tp,tq,go_sem,seval]) rfl ?_
 have e2:(mS p q==mS p q)=true:=by simp
 simp only[e2,go_sem,seval]
 refine aB a5 (by simp only[tp,go_sem,seval]) rfl ?_
 simp only[go_sem,seval]
 refine⟨by kernel_rfl,?_⟩
 by_cases hx:dW k ds=0
 case neg=>
  rw[yY,if_neg hx]at s15
  subst s15
  have b0:decide (dW k ds=0)=false:=by simp[hx]
  refine aB a15 (by simp only[go_sem,seval]) rfl ?_
  simp only[b0,go_sem,seval]
 rw[yY,if_pos hx]at s15
 obtain⟨n1,c1,n2,c2,rfl⟩:=s15
 have hn:=FC hfew
 have hpl:(fQ k (cN k ds) k.list.es).1.length<=big:=by rw[vG];exact k.values.ok
 have hcl:(cJ k).length<=big:=by rw[pW,nX];exact k.list.ok
 have m1:=h618 ⟨(fQ k (cN k ds) k.list.es).1,cJ k,(fQ k (cN k ds) k.list.es).2,n1,c1,n2,c2,hpl,hcl⟩
 have m2:=h619 ⟨(fQ k (cN k ds) k.list.es).1,cJ k,(fQ k (cN k ds) k.list.es).2,n1,c1,n2,c2,hpl,hcl⟩
 have hsnd:=G5 hx hfew ⟨(fQ k (cN k ds) k.list.es).1,cJ k,(fQ k (cN k ds) k.list.es).2,n1,c1,n2,c2,hpl,hcl⟩ rfl rfl rfl
 have tm:=fH (fQ k (cN k ds) k.list.es).1
 rw[aA.avc,dC.avc]at m1 m2
 simp only at m1 m2 hsnd
 generalize fQ k (cN k ds) k.list.es=s at *
 refine aB a15 (by simp only[go_sem,seval]) rfl ?_
 cases b4:decide (1000000<s.2)
 case true=>simp only[b4,go_sem,seval]
 have hle:=hsnd (by have:=of_decide_eq_false b4;omega)
 rw[hle]at m1 m2
 simp only[b4,go_sem,seval]
 refine aB m1 (by simp only[tm,go_sem,seval]) rfl ?_
 simp only[go_sem,seval]
 refine aB m2 (by simp only[tm,go_sem,seval]) rfl ?_
 simp only[go_sem,seval]
end
end Go.Tev
end
section
namespace Go.Tev
section
variable{H:Type}{enc:TypeId×Value->H}{P:Program}{w:World}{num:Nm}{ρ : Rho}{b:DataW H->Nat}{bs:List (DataW H)->Nat}
structure RK(P:Program)(tI tPc sPc sI tPl aPl:TypeId):Prop where
 uI:P.underlying tI=some (.int .i64)
 uPc:∃fs,P.underlying tPc=some (.struct fs)/\fs.toList.map (fun f=>(f.type,f.offset))=[(tI,0),(tI,1)]
 usPc:P.underlying sPc=some (.slice tPc)
 usI:P.underlying sI=some (.slice tI)
 uPl:∃fs,P.underlying tPl=some (.struct fs)/\fs.toList.map (fun f=>(f.type,f.offset))=[(sPc,0),(sI,1),(tI,2)]
 uA:P.underlying aPl=some (.array 2 tPl)
 cI:P.cellsOf tI=1
 cPc:P.cellsOf tPc=2
 csPc:P.cellsOf sPc=1
 csI:P.cellsOf sI=1
 cPl:P.cellsOf tPl=3
 cA:P.cellsOf aPl=6
variable{tI tPc sPc sI tPl aPl:TypeId}
theorem R8(B:AH b bs)(T:RK P tI tPc sPc sI tPl aPl)(N:Nat):Rd enc P w num ρ b N tPc (fun x:Sp=>[aG x.1]++([aG x.2]++[])) (fun _ _=>True):=by
 intro fuel hN cs d ps h hb
 obtain⟨fs,hu,hL⟩:=T.uPc
 obtain⟨xs,n,hn,hx,hcl,hl,hf⟩:=eN hu hL h
 rw[T.cPc]at hcl
 obtain⟨y0,y1,rfl⟩:∃y0 y1,xs=[y0,y1]:=by
  match xs,hl with
  |[y0,y1],_=>exact⟨y0,y1,rfl⟩
 have hx':d = .agg [y0.1,y1.1]:=hx
 subst hx'
 rw[B.agg]at hb ⊢
 simp only[B.cons,B.nil]at hb ⊢
 have f0:_=some y0:=hf 0 (tI,0) rfl
 have f1:_=some y1:=hf 1 (tI,1) rfl
 simp only[T.cI]at f0 f1
 obtain⟨a0,p0,g0⟩:=(Rd.int (enc:=enc) (w:=w) (num:=num) (ρ := ρ) (b:=b) (N:=n) T.uI) n (Nat.le_refl _) _ y0.1 y0.2 f0 (by omega)
 obtain⟨a1,p1,g1⟩:=(Rd.int (enc:=enc) (w:=w) (num:=num) (ρ := ρ) (b:=b) (N:=n) T.uI) n (Nat.le_refl _) _ y1.1 y1.2 f1 (by omega)
 refine⟨(a0,a1),?_,trivial⟩
 have q:=(p0.piece (p1.piece (aL.done (by omega))))
 rw[List.drop_zero]at q
 exact q
theorem MN(B:AH b bs)(T:RK P tI tPc sPc sI tPl aPl)(N:Nat):Rd enc P w num ρ b N tPl (fun x:dC=>[AV.sl x.n1 (x.P.map aR) x.c1]++([AV.sl x.n2 (x.C.map aG) x.c2]++([aG x.pk]++[]))) (fun _ _=>True):=by
 intro fuel hN cs d ps h hb
 obtain⟨fs,hu,hL⟩:=T.uPl
 obtain⟨xs,n,hn,hx,hcl,hl,hf⟩:=eN hu hL h
 rw[T.cPl]at hcl
 obtain⟨y0,y1,y2,rfl⟩:∃y0 y1 y2,xs=[y0,y1,y2]:=by
  match xs,hl with
  |[y0,y1,y2],_=>exact⟨y0,y1,y2,rfl⟩
 have hx':d = .agg [y0.1,y1.1,y2.1]:=hx
 subst hx'
 rw[B.agg]at hb ⊢
 simp only[B.cons,B.nil]at hb ⊢
 have f0:_=some y0:=hf 0 (sPc,0) rfl
 have f1:_=some y1:=hf 1 (sI,1) rfl
 have f2:_=some y2:=hf 2 (tI,2) rfl
 simp only[T.cI,T.csPc,T.csI]at f0 f1 f2
 obtain⟨a0,p0,_⟩:=((Rd.slice B (N:=n) (sz:=2) aR T.usPc T.cPc (by decide) (fun x=>rfl) (fun x=>rfl) (R8 (enc:=enc) (w:=w) (num:=num) (ρ := ρ) B T n)).mono (Nat.le_succ n)) n (Nat.le_refl _) _ y0.1 y0.2 f0 (by omega)
 obtain⟨a1,p1,_⟩:=((Rd.slice B (N:=n) (sz:=1) aG T.usI T.cI (by decide) (fun x=>rfl) (fun x=>rfl) (Rd.int (enc:=enc) (w:=w) (num:=num) (ρ := ρ) (b:=b) (N:=n) T.uI)).mono (Nat.le_succ n)) n (Nat.le_refl _) _ y1.1 y1.2 f1 (by omega)
 obtain⟨a2,p2,_⟩:=(Rd.int (enc:=enc) (w:=w) (num:=num) (ρ := ρ) (b:=b) (N:=n) T.uI) n (Nat.le_refl _) _ y2.1 y2.2 f2 (by omega)
 refine⟨⟨a0.es,a1.es,a2,a0.nl,a0.cl,a1.nl,a1.cl,a0.ok,a1.ok⟩,?_,trivial⟩
 have q:=(p0.piece (p1.piece (p2.piece (aL.done (by omega)))))
 rw[List.drop_zero]at q
 exact q
theorem R9(B:AH b bs)(T:RK P tI tPc sPc sI tPl aPl)(N:Nat):Rd enc P w num ρ b N aPl (fun x:dC×dC=>([AV.sl x.1.n1 (x.1.P.map aR) x.1.c1]++([AV.sl x.1.n2 (x.1.C.map aG) x.1.c2]++([aG x.1.pk]++[])))++(([AV.sl x.2.n1 (x.2.P.map aR) x.2.c1]++([AV.sl x.2.n2 (x.2.C.map aG) x.2.c2]++([aG x.2.pk]++[])))++[])) (fun _ _=>True):=by
 intro fuel hN cs d ps h hb
 obtain⟨xs,n,hn,hx,hcl,hl,hf⟩:=DataW.trod_array T.uA h
 rw[T.cA]at hcl
 obtain⟨y0,y1,rfl⟩:∃y0 y1,xs=[y0,y1]:=by
  match xs,hl with
  |[y0,y1],_=>exact⟨y0,y1,rfl⟩
 have hx':d = .agg [y0.1,y1.1]:=congrArg Prod.fst hx
 subst hx'
 rw[B.agg]at hb ⊢
 simp only[B.cons,B.nil]at hb ⊢
 have f0:_=some y0:=hf 0 (by decide)
 have f1:_=some y1:=hf 1 (by decide)
 simp only[T.cPl,Nat.zero_mul,Nat.one_mul]at f0 f1
 obtain⟨a0,p0,_⟩:=MN (enc:=enc) (w:=w) (num:=num) (ρ := ρ) B T n n (Nat.le_refl _) _ y0.1 y0.2 f0 (by omega)
 obtain⟨a1,p1,_⟩:=MN (enc:=enc) (w:=w) (num:=num) (ρ := ρ) B T n n (Nat.le_refl _) _ y1.1 y1.2 f1 (by omega)
 refine⟨(a0,a1),?_,trivial⟩
 have q:=(p0.piece (p1.piece (aL.done (by omega))))
 rw[List.drop_zero]at q
 exact q
end
end Go.Tev
end
section
set_option maxRecDepth 100000
namespace Go.Proofs
open Go.Tev
theorem tyS:TyP Tryz.prog 3 9 4 96 82 68 70 109 47 49 28 80 23 24 44 45 25 26 22 where
 uI:=Tryz.underlying3
 uS:=Tryz.underlying9
 uB:=Tryz.underlying4
 u_tCoef:=⟨_,Tryz.underlying96,by kernel_rfl⟩
 u_tLin:=⟨_,Tryz.underlying82,by kernel_rfl⟩
 u_tShape:=⟨_,Tryz.underlying68,by kernel_rfl⟩
 u_tTyp:=⟨_,Tryz.underlying70,by kernel_rfl⟩
 u_tStep:=⟨_,Tryz.underlying109,by kernel_rfl⟩
 u_tPull:=⟨_,Tryz.underlying47,by kernel_rfl⟩
 u_tKer:=⟨_,Tryz.underlying49,by kernel_rfl⟩
 u_tKers:=⟨_,Tryz.underlying28,by kernel_rfl⟩
 u_sCoef:=Tryz.underlying80
 u_sLin:=Tryz.underlying23
 u_sTyp:=Tryz.underlying24
 u_sStep:=Tryz.underlying44
 u_sPull:=Tryz.underlying45
 u_sKer:=Tryz.underlying25
 u_sInt:=Tryz.underlying26
 u_sStr:=Tryz.underlying22
 c_tI:=by kernel_rfl
 c_tS:=by kernel_rfl
 c_tB:=by kernel_rfl
 c_tCoef:=by kernel_rfl
 c_tLin:=by kernel_rfl
 c_tShape:=by kernel_rfl
 c_tTyp:=by kernel_rfl
 c_tStep:=by kernel_rfl
 c_tPull:=by kernel_rfl
 c_tKer:=by kernel_rfl
 c_tKers:=by kernel_rfl
 c_sCoef:=by kernel_rfl
 c_sLin:=by kernel_rfl
 c_sTyp:=by kernel_rfl
 c_sStep:=by kernel_rfl
 c_sPull:=by kernel_rfl
 c_sKer:=by kernel_rfl
 c_sInt:=by kernel_rfl
 c_sStr:=by kernel_rfl
theorem XK:RK Tryz.prog 3 43 32 26 34 50 where
 uI:=Tryz.underlying3
 uPc:=⟨_,Tryz.underlying43,by kernel_rfl⟩
 usPc:=Tryz.underlying32
 usI:=Tryz.underlying26
 uPl:=⟨_,Tryz.underlying34,by kernel_rfl⟩
 uA:=Tryz.underlying50
 cI:=by kernel_rfl
 cPc:=by kernel_rfl
 csPc:=by kernel_rfl
 csI:=by kernel_rfl
 cPl:=by kernel_rfl
 cA:=by kernel_rfl
theorem C7{ρ : Rho}{W:World}{g:Nat}{v:AV}{cs:Array Value}{T:TypeId}{fr:Nat×Nat}(ht:v.tree=true)(hg:W.heap[g]?=some (.cells cs T fr))(h:aL (Rv nm ρ W noF) v.cells cs.toList) :
  (v.tree=true/\∃c T fr,W.heap[aQ g]?=some (.cells c T fr)/\c.size=v.cells.length)/\Rv nm ρ W noF (.fp v) (.pointer (some ⟨aQ g,0,none⟩)):=by
 have hl:=h.length
 have hsz:cs.size=v.cells.length:=by rw[hl];simp
 refine⟨⟨ht,cs,T,fr,hg,hsz⟩,?_⟩
 have hlt:g<W.heap.size:=by
  by_cases hlt:g<W.heap.size
  ·exact hlt
  ·rw[Array.getElem?_eq_none (Nat.le_of_not_lt hlt)]at hg;cases hg
 have hcell:∀n,n<cs.size->W.cell? ⟨g,0+n,none⟩=some (cs[n]?.getD undef):=by
  intro n hn
  simp only[World.cell?,hg,Option.isSome_none,Bool.false_eq_true,if_false,Nat.zero_add]
  rw[Array.getElem?_eq_getElem hn];rfl
 refine .fp v g 0 (fun n=>cs[n]?.getD undef) (fun h=>h) hlt (fun n hn=>hcell n (by omega)) ?_
 intro j x hx
 have hj:j<cs.size:=by rw[hsz];exact(List.getElem?_eq_some_iff.1 hx).1
 have h2:=h.get j x (cs[j]'hj) hx (by rw[Array.getElem?_toList,Array.getElem?_eq_getElem hj])
 simpa[Array.getElem?_eq_getElem hj] using h2
theorem u6{P:Program}{W:World}{n:String}{g:Nat}{cs:Array Value}(hg:P.globalNamed n=some g)(h:W.var? P n=some cs):∃T fr,W.heap[g]?=some (.cells cs T fr):=by
 unfold World.var? at h
 rw[hg,Option.bind_some]at h
 split at h
 ·rename_i c T fr hh
  cases h
  exact⟨T,fr,hh⟩
 ·cases h
theorem E4{P:Program}{W:World}{fuel:Nat}{t:TypeId}{cs:List Value}{name:String}{d:DataW Unit}{p:List MemPlace}{ms}(ht:P.underlying t=some (.interface ms))
  (h:DataW.trod (fun _=>()) P W 0 (fun _=>true) false fuel t cs=some (.iface name d,p)):∃u v,cs=[.iface u v]:=by
 cases fuel with
 |zero=>simp[DataW.trod]at h
 |succ fuel=>
  unfold DataW.trod at h
  rw[ht]at h
  split at h<;>first|(rename_i e;cases e;done)|skip
  all_goals first|(exact⟨_,_,rfl⟩)|(cases h;done)|skip
theorem V3{W:World}(hL:laidMetH Tryz.prog YtplehelpidcobaaGreatDoor.Rows.planSoundUptoRow.laid W):jD nm glS aQ (fun _ _=>none) W noF:=by
 have e:(YtplehelpidcobaaGreatDoor.Rows.planSoundUptoRow.laid.filter fun x=>x.2.handleName?.isSome)=[]:=by kernel_rfl
 have h:laidMet Tryz.prog YtplehelpidcobaaGreatDoor.Rows.planSoundUptoRow.laid W:=by
  unfold laidMetH at hL
  rw[e]at hL
  exact hL
 obtain⟨ps,hv,_,_⟩:=h
 obtain⟨g1,t1,cs1,f1,p1,q1,hg1,ht1,hv1,hd1,hr1,_⟩:=hv
 obtain⟨g2,t2,cs2,f2,p2,q2,hg2,ht2,hv2,hd2,hr2,_⟩:=hr1
 obtain⟨g3,t3,cs3,f3,p3,q3,hg3,ht3,hv3,hd3,hr3,_⟩:=hr2
 obtain⟨g4,t4,cs4,f4,p4,q4,hg4,ht4,hv4,hd4,hr4,_⟩:=hr3
 obtain⟨g5,t5,cs5,f5,p5,q5,hg5,ht5,hv5,hd5,hr5,_⟩:=hr4
 obtain⟨g6,t6,cs6,f6,p6,q6,hg6,ht6,hv6,hd6,hr6,_⟩:=hr5
 obtain⟨g7,t7,cs7,f7,p7,q7,hg7,ht7,hv7,hd7,hr7,_⟩:=hr6
 clear hr7
 obtain⟨T3,fr3,hh3⟩:=u6 hg3 hv3
 obtain⟨T5,fr5,hh5⟩:=u6 hg5 hv5
 obtain⟨T6,fr6,hh6⟩:=u6 hg6 hv6
 obtain rfl:2=g3:=Option.some.inj ((show Tryz.prog.globalNamed _=some 2 by kernel_rfl).symm.trans hg3)
 obtain rfl:1=g5:=Option.some.inj ((show Tryz.prog.globalNamed _=some 1 by kernel_rfl).symm.trans hg5)
 obtain rfl:0=g6:=Option.some.inj ((show Tryz.prog.globalNamed _=some 0 by kernel_rfl).symm.trans hg6)
 obtain rfl:320=t3:=Option.some.inj ((show (Tryz.prog.globals[2]?).map (·.type)=some 320 by kernel_rfl).symm.trans ht3)
 obtain rfl:205=t5:=Option.some.inj ((show (Tryz.prog.globals[1]?).map (·.type)=some 205 by kernel_rfl).symm.trans ht5)
 obtain rfl:205=t6:=Option.some.inj ((show (Tryz.prog.globals[0]?).map (·.type)=some 205 by kernel_rfl).symm.trans ht6)
 have hd3':DataW.trod (fun _=>()) Tryz.prog W 0 (fun _=>true) false f3 320 cs3.toList=some (Lib.tabData .u64 Lib.pow10Tab,p3):=hd3
 have hcsP:=Lib.cells_of_tab Tryz.underlying320 Tryz.underlying153 (by kernel_rfl) (by kernel_rfl) hd3'
 obtain⟨uR,vR,hcR⟩:=E4 Tryz.underlying205 hd5
 obtain⟨uY,vY,hcY⟩:=E4 Tryz.underlying205 hd6
 intro g v hg
 unfold glS at hg
 cases h1:g.beq 0 with
 |true=>
  rw[h1]at hg
  simp only[cond_true,Option.some.injEq]at hg
  subst hg
  obtain rfl:=Nat.eq_of_beq_eq_true h1
  exact C7 (by kernel_rfl) hh6 (by rw[hcY];exact .cons (.ifc _ _ _ (.top _)) .nil)
 |false=>
  cases h2:g.beq 1 with
  |true=>
   rw[h1,h2]at hg
   simp only[cond_true,cond_false,Option.some.injEq]at hg
   subst hg
   obtain rfl:=Nat.eq_of_beq_eq_true h2
   exact C7 (by kernel_rfl) hh5 (by rw[hcR];exact .cons (.ifc _ _ _ (.top _)) .nil)
  |false=>
   cases h3:g.beq 2 with
   |true=>
    rw[h1,h2,h3]at hg
    simp only[cond_true,cond_false,Option.some.injEq]at hg
    subst hg
    obtain rfl:=Nat.eq_of_beq_eq_true h3
    refine C7 (by kernel_rfl) hh3 ?_
    rw[hcsP]
    refine aL.mk_get (by simp[AV.cells]) ?_
    intro i x y hx hy
    simp only[AV.cells,List.getElem?_map]at hx hy
    cases hz:Lib.pow10Tab[i]? with
    |none=>rw[hz]at hx;cases hx
    |some z=>
     rw[hz]at hx hy
     cases hx;cases hy
     exact .int _ _
   |false=>rw[h1,h2,h3]at hg;cases hg
end Go.Proofs
end
section
namespace Go.Tev
structure CodePs(pg:Pg):Prop where
 f11:pg.fs 11=some cf11
 f12:pg.fs 12=some cf12
 f16:pg.fs 16=some cf16
 f17:pg.fs 17=some cf17
 f32:pg.fs 32=some cf32
 f33:pg.fs 33=some cf33
 f34:pg.fs 34=some cf34
 f35:pg.fs 35=some cf35
 f52:pg.fs 52=some cf52
 f53:pg.fs 53=some cf53
 f260:pg.fs 260=some cf260
 f261:pg.fs 261=some cf261
 f262:pg.fs 262=some cf262
 f264:pg.fs 264=some cf264
 f265:pg.fs 265=some cf265
 f272:pg.fs 272=some cf272
 f273:pg.fs 273=some cf273
 f274:pg.fs 274=some cf274
 f275:pg.fs 275=some cf275
 f276:pg.fs 276=some cf276
 f292:pg.fs 292=some cf292
 f293:pg.fs 293=some cf293
 f294:pg.fs 294=some cf294
 f316:pg.fs 316=some cf316
 f615:pg.fs 615=some cf615
 f617:pg.fs 617=some cf617
 f613:pg.fs 613=some cf613
 f618:pg.fs 618=some cf618
 f619:pg.fs 619=some cf619
 f620:pg.fs 620=some cf620
 f627:pg.fs 627=some cf627
 f628:pg.fs 628=some cf628
 f630:pg.fs 630=some cf630
 f631:pg.fs 631=some cf631
 f623:pg.fs 623=some cf623
 f624:pg.fs 624=some cf624
 f625:pg.fs 625=some cf625
 f629:pg.fs 629=some cf629
 f633:pg.fs 633=some cf633
 f634:pg.fs 634=some cf634
 f635:pg.fs 635=some cf635
 f638:pg.fs 638=some cf638
 f644:pg.fs 644=some cf644
section
variable{pg:Pg}
theorem JD{k:aA}(hk:KOK k):∀q∈k.list.es,q.body.ok/\q.index.ok/\q.body.sz+q.index.sz+1<=big:=fun q hq=>by
 obtain⟨h1,h2,_,_⟩:=hk.ks q hq
 have:=hk.sz q hq
 exact⟨h1,h2,by omega⟩
theorem UD(C:Go.Tev.Code pg)(D:Code3 pg)(M:CodePs pg)(A:Ora pg)(O:VE pg)(h614:Ret pg 614 [] (.bool true))(k:aA)(hk:KOK k)(nl cl:Bool)(ds:List Val)(hb:ds.length<=big)(p q:dC) :
  Ret pg 613 [k.av,.sl nl (ds.map Val.av) cl,IU p q] (.bool true):=by
 have B:=JT A C.f57 C.f91 C.f126 C.f108 C.f94 C.f132 C.f133 C.f134 C.f171
 have h51:∀l:Lin,Ret pg 51 [l.av] (.bool (d9 l)):=c51 C.f51 C.f89 B.name
 have h77:∀s:Str,Ret pg 77 [.str s.bs] (.bool (fT s.bs)):=fun s=>c77 D.f77 D.f114 D.f115 s.bs s.ok
 have h54:∀l:Lin,Ret pg 54 [l.av] (.bool (d9 l)):=c54 D.f54 h77 D.f90
 have h9:=aDC C A k hk
 have h10:=W9 C D k hk
 have h32:=fun l nl cl ds hb=>aCq M.f32 h51 M.f52 M.f53 l nl cl ds hb
 have h33:=fun t=>aCp M.f33 h32 t nl cl ds hb
 have h34:=fun l nl cl ds hb=>aCo M.f34 h54 l nl cl ds hb
 have h35:=fun t=>c35 M.f35 h34 t nl cl ds hb
 have h16:=aCS M.f16 k h9 nl cl ds hb (fun l=>h32 l nl cl ds hb) h33
 have h17:=c17 M.f17 k h10 nl cl ds hb (fun l=>h34 l nl cl ds hb) h35
 have h275:fW k->∀(nl cl:Bool)(at_ v:Nat),at_<k.list.es.length->v<k.values.es.length->Ret pg 275 [k.av,.sl nl ((aF k).map aR) cl,.int .i64 at_,.int .i64 v] (.bool (kR k at_ v)):=
  fun ok nl cl at_ v h1 h2=>c275 M.f275 (c65 C.f65 (c104 C.f104 C.f67 C.f142 C.f106)) (fun p hp hs=>c48 (z8 A) C.f48 C.f74 p hp hs) (fun nl cl es hb v=>c293 M.f293 M.f316 nl cl es hb v)
   (fun v rank p hp=>c260 A M.f260 M.f272 M.f273 M.f274 M.f292 C.f108 v rank p hp) k ok (JD hk) nl cl at_ v h1 h2
 have h276:fW k->∀(nl cl:Bool)(at_ v:Nat),at_<k.list.es.length->v<k.values.es.length->Ret pg 276 [k.av,.sl nl ((aF k).map aR) cl,.int .i64 at_,.int .i64 v] (.bool (kR k at_ v)):=
  fun ok nl cl at_ v h1 h2=>c276 M.f276 (c88 D.f88 (c121 D.f121 D.f162 D.f191)) (fun p hp hs v=>c294 M.f294 (c37 D.f37 D.f55) p hp hs v)
   (fun v rank p hp=>c261 M.f261 (WZ D.f122 D.f163) (c162 D.f162 D.f191) v rank p hp) k ok (JD hk) nl cl at_ v h1 h2
 have h262:=c262 M.f262 k h9 h275
 have h623:=fun nl cl es hb hnl s=>c623 O M.f623 M.f629 M.f633 M.f644 M.f634 M.f635 nl cl es hb hnl s
 have h624:=fun nl cl a b n hn=>c624 M.f624 C.f47 C.f73 nl cl a b n hn
 have h615:=c615 M.f615 M.f625 k hk nl cl ds h16 h262 h624 h623 (fun at_=>c11 M.f11 k h9 at_)
 have h264:=fun at_ v=>c264 M.f264 k h9 h275 at_ v
 have h265:=fun at_ v=>c265 M.f265 k h10 h276 at_ v
 have h618:=fun p=>c618 M.f618 M.f627 M.f628 M.f629 k nl cl ds p h16 h9 h264 (fun at_=>c11 M.f11 k h9 at_)
 have h619:=fun p=>c619 M.f619 M.f630 M.f638 k nl cl ds p h17 h10 h265 (fun at_=>c12 M.f12 k h10 at_)
 exact c613 M.f613 h614 k nl cl ds p q (aDD C k hk) h615 h618 h619 (fun p q=>c620 M.f620 M.f631 C.f181 p q) (fun p q=>WL M.f617 D.f15 p q)
end
end Go.Tev
end
