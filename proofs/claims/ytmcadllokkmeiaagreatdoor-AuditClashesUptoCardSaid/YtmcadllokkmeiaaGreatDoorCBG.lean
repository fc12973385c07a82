import Derived.Test.YtmcadllokkmeiaaGreatDoorCBF
import Derived.Test.YtmcadllokkmeiaaGreatDoorCAY
import Derived.OpenShut
import Derived.Test.YtmcadllokkmeiaaGreatDoorCAV
import Derived.Lib.LaidTab
import Derived.Test.YtmcadllokkmeiaaGreatDoorRows
import Derived.Test.YtmcadllokkmeiaaGreatDoorCBD
set_option linter.all false
namespace Go.Tev
section
theorem iV(at_:Int):∀(n:Nat)(d:List Sp),d.length=n->(cY at_ d).Nodup/\(cY at_ d).length<=d.length
 |0,d,h=>by obtain rfl:=hY h;simp[cY]
 |n+1,d,h=>by
  rcases mK d with hz|⟨e,x,hz⟩
  subst hz;simp at h;have hz:d=e++[x]:=by simpa using hz
  subst hz;obtain⟨ih,il⟩:=iV at_ n e (by simpa using h);rw[sC];constructor;split;rw[List.nodup_append];refine⟨ih,by simp,?_⟩;intro a ha b hb he;simp at hb;subst hb;obtain⟨s,h1,h2,_⟩:=lO.1 ha;have:=(cD.1 h2).1;omega;simpa using ih;split<;>simp<;>omega
section
variable{k:aA}{ds:List Val}{s:PS}
end
end
section
section
variable{pg:Pg}
end
end
section
theorem zD{k:aA}{ds:List Val}(h:dU k ds=0)(v:Nat):0<=jT (iI k ds) v/\jT (iI k ds) v<=4096:=by
 obtain⟨hc,hD,hS⟩:=fR h;have ok:=dS hc;rw[jT,List.getD_eq_getElem?_getD];cases hg:(iI k ds)[v]? with
 |none=>simp
 |some z=>have:=F3 hD _ _ (GR ok).2 hS z (List.mem_of_getElem? hg);simp only[Option.getD_some];omega
theorem DM{P:List Sp}{n:Nat}{x:Sp}(h:P[n]?=some x):plc P n=x:=by rw[plc,List.getD_eq_getElem?_getD,h];rfl
section
variable{pg:Pg}
end
end
section
structure cB where
 P:List Sp
 C:List Int
 pk:Int
 n1:Bool
 c1:Bool
 n2:Bool
 c2:Bool
 bP:P.length<=big
 bC:C.length<=big
def cB.cells(p:cB):List AV:=[.sl p.n1 (p.P.map bQ) p.c1,.sl p.n2 (p.C.map aJ) p.c2,.int .i64 p.pk]
def cB.av(p:cB):AV:=.agg p.cells
theorem cB.avc(p:cB):p.av = .agg [.sl p.n1 (p.P.map bQ) p.c1,.sl p.n2 (p.C.map aJ) p.c2,.int .i64 p.pk]:=rfl
def okP(sz:List Int)(sp:List Sp)(pk:Int)(v:Nat)(x:Sp):Bool:=
 decide (x.2=jT sz v)&&(if (plc sp v).1 = -2 then decide (x.1 = -1) else decide (0<=x.1)&&decide (x.1<=pk-x.2))
def xP(sz:List Int)(sp:List Sp)(pk:Int):Nat->List Sp->Bool
 |_,[]=>true
 |v,x::r=>okP sz sp pk v x&&xP sz sp pk (v+1) r
section
variable{pg:Pg}
end
end
section
section
variable{H:Type}{enc:TypeId×Value->H}{P:Program}{w:World}{num:Nm}{ρ : Rho}{b:DataW H->Nat}{bs:List (DataW H)->Nat}
structure aIp(P:Program)(tI tPc sPc sI tPl:TypeId):Prop where
 uI:P.underlying tI=some (.int .i64)
 uPc:∃fs,P.underlying tPc=some (.struct fs)/\fs.toList.map (λf=>(f.type,f.offset))=[(tI,0),(tI,1)]
 usPc:P.underlying sPc=some (.slice tPc)
 usI:P.underlying sI=some (.slice tI)
 uPl:∃fs,P.underlying tPl=some (.struct fs)/\fs.toList.map (λf=>(f.type,f.offset))=[(sPc,0),(sI,1),(tI,2)]
 cI:P.cellsOf tI=1
 cPc:P.cellsOf tPc=2
 csPc:P.cellsOf sPc=1
 csI:P.cellsOf sI=1
 cPl:P.cellsOf tPl=3
variable{tI tPc sPc sI tPl:TypeId}
theorem aCD(B:FT b bs)(T:aIp P tI tPc sPc sI tPl)(N:Nat):Rd enc P w num ρ b N tPc (λx:Sp=>[aJ x.1]++([aJ x.2]++[])) (λ_ _=>True):=by
 intro fuel hN cs d ps h hb;obtain⟨fs,hu,hL⟩:=T.uPc;obtain⟨xs,n,hn,hx,hcl,hl,hf⟩:=fO hu hL h;rw[T.cPc]at hcl;obtain⟨y0,y1,rfl⟩:∃y0 y1,xs=[y0,y1]:=by
  match xs,hl with
  |[y0,y1],_=>exact⟨y0,y1,rfl⟩
 have hx':d = .agg [y0.1,y1.1]:=hx;subst hx';rw[B.agg]at hb ⊢;simp only[B.cons,B.nil]at hb ⊢;have f0:_=some y0:=hf 0 (tI,0) rfl;have f1:_=some y1:=hf 1 (tI,1) rfl;simp only[T.cI]at f0 f1;obtain⟨a0,p0,g0⟩:=(Rd.int (enc:=enc) (w:=w) (num:=num) (ρ := ρ) (b:=b) (N:=n) T.uI) n (Nat.le_refl _) _ y0.1 y0.2 f0 (by omega);obtain⟨a1,p1,g1⟩:=(Rd.int (enc:=enc) (w:=w) (num:=num) (ρ := ρ) (b:=b) (N:=n) T.uI) n (Nat.le_refl _) _ y1.1 y1.2 f1 (by omega);refine⟨(a0,a1),?_,trivial⟩;have q:=(p0.piece (p1.piece (aP.done (by omega))))
 rw[List.drop_zero]at q;exact q
theorem aCC(B:FT b bs)(T:aIp P tI tPc sPc sI tPl)(N:Nat):Rd enc P w num ρ b N tPl (λx:cB=>[AV.sl x.n1 (x.P.map bQ) x.c1]++([AV.sl x.n2 (x.C.map aJ) x.c2]++([aJ x.pk]++[]))) (λ_ _=>True):=by
 intro fuel hN cs d ps h hb;obtain⟨fs,hu,hL⟩:=T.uPl;obtain⟨xs,n,hn,hx,hcl,hl,hf⟩:=fO hu hL h;rw[T.cPl]at hcl;obtain⟨y0,y1,y2,rfl⟩:∃y0 y1 y2,xs=[y0,y1,y2]:=by
  match xs,hl with
  |[y0,y1,y2],_=>exact⟨y0,y1,y2,rfl⟩
 have hx':d = .agg [y0.1,y1.1,y2.1]:=hx;subst hx';rw[B.agg]at hb ⊢;simp only[B.cons,B.nil]at hb ⊢;have f0:_=some y0:=hf 0 (sPc,0) rfl;have f1:_=some y1:=hf 1 (sI,1) rfl;have f2:_=some y2:=hf 2 (tI,2) rfl;simp only[T.cI,T.csPc,T.csI]at f0 f1 f2;obtain⟨a0,p0,_⟩:=((Rd.slice B (N:=n) (sz:=2) bQ T.usPc T.cPc (by decide) (λx=>rfl) (λx=>rfl) (aCD (enc:=enc) (w:=w) (num:=num) (ρ := ρ) B T n)).mono (Nat.le_succ n)) n (Nat.le_refl _) _ y0.1 y0.2 f0 (by omega);obtain⟨a1,p1,_⟩:=((Rd.slice B (N:=n) (sz:=1) aJ T.usI T.cI (by decide) (λx=>rfl) (λx=>rfl) (Rd.int (enc:=enc) (w:=w) (num:=num) (ρ := ρ) (b:=b) (N:=n) T.uI)).mono (Nat.le_succ n)) n (Nat.le_refl _) _ y1.1 y1.2 f1 (by omega);obtain⟨a2,p2,_⟩:=(Rd.int (enc:=enc) (w:=w) (num:=num) (ρ := ρ) (b:=b) (N:=n) T.uI) n (Nat.le_refl _) _ y2.1 y2.2 f2 (by omega);refine⟨⟨a0.es,a1.es,a2,a0.nl,a0.cl,a1.nl,a1.cl,a0.ok,a1.ok⟩,?_,trivial⟩;have q:=(p0.piece (p1.piece (p2.piece (aP.done (by omega)))))
 rw[List.drop_zero]at q;exact q
end
end
end Go.Tev
section
set_option maxRecDepth 100000
namespace Go.Proofs
open Go.Tev
theorem tyS:TyP Tryz.prog 3 9 4 107 99 102 104 153 59 61 28 97 23 24 56 57 25 26 22 where
 uI:=Tryz.underlying3
 uS:=Tryz.underlying9
 uB:=Tryz.underlying4
 u_tCoef:=⟨_,Tryz.underlying107,by kernel_rfl⟩
 u_tLin:=⟨_,Tryz.underlying99,by kernel_rfl⟩
 u_tShape:=⟨_,Tryz.underlying102,by kernel_rfl⟩
 u_tTyp:=⟨_,Tryz.underlying104,by kernel_rfl⟩
 u_tStep:=⟨_,Tryz.underlying153,by kernel_rfl⟩
 u_tPull:=⟨_,Tryz.underlying59,by kernel_rfl⟩
 u_tKer:=⟨_,Tryz.underlying61,by kernel_rfl⟩
 u_tKers:=⟨_,Tryz.underlying28,by kernel_rfl⟩
 u_sCoef:=Tryz.underlying97
 u_sLin:=Tryz.underlying23
 u_sTyp:=Tryz.underlying24
 u_sStep:=Tryz.underlying56
 u_sPull:=Tryz.underlying57
 u_sKer:=Tryz.underlying25
 u_sInt:=Tryz.underlying26
 u_sStr:=Tryz.underlying22
 c_tI:=by kernel_rfl
 c_tS:=by kernel_rfl
 c_tB:=by kernel_rfl
 c_tCoef:=by kernel_rfl
 c_tLin:=by kernel_rfl
 c_tShape:=by kernel_rfl
 c_tTyp:=by kernel_rfl
 c_tStep:=by kernel_rfl
 c_tPull:=by kernel_rfl
 c_tKer:=by kernel_rfl
 c_tKers:=by kernel_rfl
 c_sCoef:=by kernel_rfl
 c_sLin:=by kernel_rfl
 c_sTyp:=by kernel_rfl
 c_sStep:=by kernel_rfl
 c_sPull:=by kernel_rfl
 c_sKer:=by kernel_rfl
 c_sInt:=by kernel_rfl
 c_sStr:=by kernel_rfl
theorem aKs:aIp Tryz.prog 3 40 29 26 31 where
 uI:=Tryz.underlying3
 uPc:=⟨_,Tryz.underlying40,by kernel_rfl⟩
 usPc:=Tryz.underlying29
 usI:=Tryz.underlying26
 uPl:=⟨_,Tryz.underlying31,by kernel_rfl⟩
 cI:=by kernel_rfl
 cPc:=by kernel_rfl
 csPc:=by kernel_rfl
 csI:=by kernel_rfl
 cPl:=by kernel_rfl
theorem I4{ρ : Rho}{W:World}{g:Nat}{v:AV}{cs:Array Value}{T:TypeId}{fr:Nat×Nat}(ht:v.tree=true)(hg:W.heap[g]?=some (.cells cs T fr))(h:aP (Rv nm ρ W noF) v.cells cs.toList) :
  (v.tree=true/\∃c T fr,W.heap[aV g]?=some (.cells c T fr)/\c.size=v.cells.length)/\Rv nm ρ W noF (.fp v) (.pointer (some ⟨aV g,0,none⟩)):=by
 have hl:=h.length;have hsz:cs.size=v.cells.length:=by rw[hl];simp
 refine⟨⟨ht,cs,T,fr,hg,hsz⟩,?_⟩;have hlt:g<W.heap.size:=by by_cases hlt:g<W.heap.size;exact hlt;rw[Array.getElem?_eq_none (Nat.le_of_not_lt hlt)]at hg;cases hg
 have hcell:∀n,n<cs.size->W.cell? ⟨g,0+n,none⟩=some (cs[n]?.getD undef):=by intro n hn;simp only[World.cell?,hg,Option.isSome_none,Bool.false_eq_true,if_false,Nat.zero_add];rw[Array.getElem?_eq_getElem hn];rfl
 refine .fp v g 0 (λn=>cs[n]?.getD undef) (λh=>h) hlt (λn hn=>hcell n (by omega)) ?_;intro j x hx;have hj:j<cs.size:=by rw[hsz];exact(List.getElem?_eq_some_iff.1 hx).1
 have h2:=h.get j x (cs[j]'hj) hx (by rw[Array.getElem?_toList,Array.getElem?_eq_getElem hj]);simpa[Array.getElem?_eq_getElem hj] using h2
theorem y9{P:Program}{W:World}{n:String}{g:Nat}{cs:Array Value}(hg:P.globalNamed n=some g)(h:W.var? P n=some cs):∃T fr,W.heap[g]?=some (.cells cs T fr):=by unfold World.var? at h;rw[hg,Option.bind_some]at h;split at h;rename_i c T fr hh;cases h;exact⟨T,fr,hh⟩;cases h
theorem MX{P:Program}{W:World}{fuel:Nat}{t:TypeId}{cs:List Value}{name:String}{d:DataW Unit}{p:List MemPlace}{ms}(ht:P.underlying t=some (.interface ms))
  (h:DataW.trod (λ_=>()) P W 0 (λ_=>true) false fuel t cs=some (.iface name d,p)):∃u v,cs=[.iface u v]:=by
 cases fuel with
 |zero=>simp[DataW.trod]at h
 |succ fuel=>
  unfold DataW.trod at h;rw[ht]at h;split at h<;>first|(rename_i e;cases e;done)|skip
  all_goals first|(exact⟨_,_,rfl⟩)|(cases h;done)|skip
theorem aJs{W:World}(hL:laidMetH Tryz.prog YtmcadllokkmeiaaGreatDoor.Rows.auditClashesUptoRow.laid W):kH nm glS aV (λ_ _=>none) W noF:=by
 have e:(YtmcadllokkmeiaaGreatDoor.Rows.auditClashesUptoRow.laid.filter λx=>x.2.handleName?.isSome)=[]:=by kernel_rfl
 have h:laidMet Tryz.prog YtmcadllokkmeiaaGreatDoor.Rows.auditClashesUptoRow.laid W:=by unfold laidMetH at hL;rw[e]at hL;exact hL
 obtain⟨ps,hv,_,_⟩:=h;obtain⟨g1,t1,cs1,f1,p1,q1,hg1,ht1,hv1,hd1,hr1,_⟩:=hv;obtain⟨g2,t2,cs2,f2,p2,q2,hg2,ht2,hv2,hd2,hr2,_⟩:=hr1;obtain⟨g3,t3,cs3,f3,p3,q3,hg3,ht3,hv3,hd3,hr3,_⟩:=hr2;obtain⟨g4,t4,cs4,f4,p4,q4,hg4,ht4,hv4,hd4,hr4,_⟩:=hr3;obtain⟨g5,t5,cs5,f5,p5,q5,hg5,ht5,hv5,hd5,hr5,_⟩:=hr4;obtain⟨g6,t6,cs6,f6,p6,q6,hg6,ht6,hv6,hd6,hr6,_⟩:=hr5;obtain⟨g7,t7,cs7,f7,p7,q7,hg7,ht7,hv7,hd7,hr7,_⟩:=hr6;clear hr7;obtain⟨T3,fr3,hh3⟩:=y9 hg3 hv3;obtain⟨T5,fr5,hh5⟩:=y9 hg5 hv5;obtain⟨T6,fr6,hh6⟩:=y9 hg6 hv6;obtain rfl:3=g3:=Option.some.inj ((show Tryz.prog.globalNamed _=some 3 by kernel_rfl).symm.trans hg3);obtain rfl:1=g5:=Option.some.inj ((show Tryz.prog.globalNamed _=some 1 by kernel_rfl).symm.trans hg5);obtain rfl:0=g6:=Option.some.inj ((show Tryz.prog.globalNamed _=some 0 by kernel_rfl).symm.trans hg6);obtain rfl:353=t3:=Option.some.inj ((show (Tryz.prog.globals[3]?).map (·.type)=some 353 by kernel_rfl).symm.trans ht3);obtain rfl:195=t5:=Option.some.inj ((show (Tryz.prog.globals[1]?).map (·.type)=some 195 by kernel_rfl).symm.trans ht5);obtain rfl:195=t6:=Option.some.inj ((show (Tryz.prog.globals[0]?).map (·.type)=some 195 by kernel_rfl).symm.trans ht6);have hd3':DataW.trod (λ_=>()) Tryz.prog W 0 (λ_=>true) false f3 353 cs3.toList=some (Lib.tabData .u64 Lib.pow10Tab,p3):=hd3;have hcsP:=Lib.cells_of_tab Tryz.underlying353 Tryz.underlying170 (by kernel_rfl) (by kernel_rfl) hd3';obtain⟨uR,vR,hcR⟩:=MX Tryz.underlying195 hd5;obtain⟨uY,vY,hcY⟩:=MX Tryz.underlying195 hd6;intro g v hg;unfold glS at hg;cases h1:g.beq 0 with
 |true=>rw[h1]at hg;simp only[cond_true,Option.some.injEq]at hg;subst hg;obtain rfl:=Nat.eq_of_beq_eq_true h1;exact I4 (by kernel_rfl) hh6 (by rw[hcY];exact .cons (.ifc _ _ _ (.top _)) .nil)
 |false=>
  cases h2:g.beq 1 with
  |true=>rw[h1,h2]at hg;simp only[cond_true,cond_false,Option.some.injEq]at hg;subst hg;obtain rfl:=Nat.eq_of_beq_eq_true h2;exact I4 (by kernel_rfl) hh5 (by rw[hcR];exact .cons (.ifc _ _ _ (.top _)) .nil)
  |false=>
   cases h3:g.beq 3 with
   |true=>
    rw[h1,h2,h3]at hg;simp only[cond_true,cond_false,Option.some.injEq]at hg;subst hg;obtain rfl:=Nat.eq_of_beq_eq_true h3;refine I4 (by kernel_rfl) hh3 ?_;rw[hcsP];refine aP.mk_get (by simp[AV.cells]) ?_;intro i x y hx hy;simp only[AV.cells,List.getElem?_map]at hx hy;cases hz:Lib.pow10Tab[i]? with
    |none=>rw[hz]at hx;cases hx
    |some z=>rw[hz]at hx hy;cases hx;cases hy;exact .int _ _
   |false=>rw[h1,h2,h3]at hg;cases hg
end Go.Proofs
end
namespace Go.Tev
section
def w8(k:aA)(at_:Int)(v:Nat):Bool:=match k.list.es[at_.toNat]? with
 |some q=>decide ((v:Int)=q.value)
 |none=>false
def kD(k:aA)(P:List Sp)(at_:Int)(v w:Nat):Bool:=
 decide (0<=at_)&&decide (at_<(k.list.es.length:Int))&&w8 k at_ v&&decide ((plc P v).1=(plc P w).1)&&pB k at_ w
def mE(k:aA)(P:List Sp)(at_:Int)(v w:Nat):Bool:=
 !lX (plc P v) (plc P w)||kD k P at_ v w||kD k P at_ w v
theorem YS{P:List Sp}{v:Nat}(h:v<P.length):P[v]?=some (plc P v):=by rw[plc,List.getD_eq_getElem?_getD,aX h];rfl
theorem o7{P:List Sp}{v:Nat}(h:v<P.length):(P.map bQ)[v]?=some (.agg [.int .i64 (plc P v).1,.int .i64 (plc P v).2]):=by rw[List.getElem?_map,YS h];rfl
section
variable{pg:Pg}
end
end
section
section
variable{pg:Pg}
end
end
section
theorem CA{sz:List Int}{sp:List Sp}{pk:Int}:∀(P:List Sp)(i w:Nat),xP sz sp pk i P=true->w<P.length->okP sz sp pk (i+w) (plc P w)=true
 |[],_,_,_,h=>by simp at h
 |x::r,i,0,h,_=>by rw[xP,aG]at h;exact h.1
 |x::r,i,w+1,h,hw=>by rw[xP,aG]at h;have:=CA r (i+1) w h.2 (by simpa using hw);rw[show i+(w+1)=i+1+w from by omega];exact this
section
variable{pg:Pg}
end
end
end Go.Tev
