import Derived.Test.YtlalckpnpidccaaGreatDoorDAW
import Derived.Test.YtlalckpnpidccaaGreatDoorDAY
import Derived.OpenShut
import Derived.Test.YtlalckpnpidccaaGreatDoorDAS
import Derived.Lib.LaidTab
import Derived.Test.YtlalckpnpidccaaGreatDoorRows
import Derived.Test.YtlalckpnpidccaaGreatDoorDAI
import Derived.Test.YtlalckpnpidccaaGreatDoorDAM
import Derived.Test.YtlalckpnpidccaaGreatDoorDAR
import Derived.Test.YtlalckpnpidccaaGreatDoorDAT
import Derived.Test.YtlalckpnpidccaaGreatDoorDAP
set_option linter.all false
namespace Go.Tev
section
def u8A(n:Int):AV:=.int .u8 n
section
variable{H:Type}{enc:TypeId×Value->H}{P:Program}{w:World}{num:Nm}{ρ : Rho}{b:DataW H->Nat}{bs:List (DataW H)->Nat}
structure TyQ(P:Program)(tI tS tU sS tMo tPo aU:TypeId):Prop where
 uI:P.underlying tI=some (.int .i64)
 uS:P.underlying tS=some .string
 uU:P.underlying tU=some (.int .u8)
 usS:P.underlying sS=some (.slice tS)
 uMo:∃fs,P.underlying tMo=some (.struct fs)/\fs.toList.map (λf=>(f.type,f.offset))=[(tI,0),(sS,1)]
 uPo:P.underlying tPo=some (.slice tMo)
 uA:P.underlying aU=some (.array 4 tU)
 cI:P.cellsOf tI=1
 cS:P.cellsOf tS=1
 cU:P.cellsOf tU=1
 csS:P.cellsOf sS=1
 cMo:P.cellsOf tMo=2
 cA:P.cellsOf aU=4
variable{tI tS tU sS tMo tPo aU:TypeId}
theorem Rd.u8{N:Nat}{t:TypeId}(ht:P.underlying t=some (.int .u8)):Rd enc P w num ρ b N t (λn:Int=>[u8A n]) (λn _=>0<=n/\n<=255):=by intro fuel hN cs d ps h _;obtain⟨n,rfl,_,hw⟩:=DataW.trod_int ht h;refine⟨n,.cons (.int _ _) .nil,?_⟩;simp[Lit.wf,IntKind.min,IntKind.max,IntKind.signed,IntKind.bits]at hw;omega
theorem X5(B:sJ b bs)(T:TyQ P tI tS tU sS tMo tPo aU)(N:Nat):Rd enc P w num ρ b N sS (λs:Sl Str=>[s.av Str.av]) (λ_ _=>True):=by intro fuel hN cs d ps h hb;obtain⟨a,p,_⟩:=((Rd.slice B (N:=N) (sz:=1) Str.av T.usS T.cS (by decide) (λx=>rfl) (λx=>rfl) (Rd.str (enc:=enc) (w:=w) (num:=num) (ρ := ρ) (N:=N) B T.uS)).mono (Nat.le_succ N)) fuel hN _ _ _ h hb;exact⟨a,p,trivial⟩
theorem S4(B:sJ b bs)(T:TyQ P tI tS tU sS tMo tPo aU)(N:Nat):Rd enc P w num ρ b N tMo (λx:aD=>[aZ x.c]++([x.vs.av Str.av]++[])) (λ_ _=>True):=by
 intro fuel hN cs d ps h hb;obtain⟨fs,hu,hL⟩:=T.uMo;obtain⟨xs,n,hn,hx,hcl,hl,hf⟩:=yA hu hL h;rw[T.cMo]at hcl;obtain⟨y0,y1,rfl⟩:∃y0 y1,xs=[y0,y1]:=by
  match xs,hl with
  |[y0,y1],_=>exact⟨y0,y1,rfl⟩
 have hx':d = .agg [y0.1,y1.1]:=hx;subst hx';rw[B.agg]at hb ⊢;simp only[B.cons,B.nil]at hb ⊢;have f0:_=some y0:=hf 0 (tI,0) rfl;have f1:_=some y1:=hf 1 (sS,1) rfl;simp only[T.cI,T.csS]at f0 f1;obtain⟨a0,p0,g0⟩:=(Rd.int (enc:=enc) (w:=w) (num:=num) (ρ := ρ) (b:=b) (N:=n) T.uI) n (Nat.le_refl _) _ y0.1 y0.2 f0 (by omega);obtain⟨a1,p1,g1⟩:=(X5 (enc:=enc) (w:=w) (num:=num) (ρ := ρ) B T n) n (Nat.le_refl _) _ y1.1 y1.2 f1 (by omega);refine⟨⟨a0,a1⟩,?_,trivial⟩;have q:=(p0.piece (p1.piece (aJ.done (by omega))))
 rw[List.drop_zero]at q;exact q
theorem FX(B:sJ b bs)(T:TyQ P tI tS tU sS tMo tPo aU)(N:Nat):Rd enc P w num ρ b N tPo (λs:Sl aD=>[s.av aD.av]) (λ_ _=>True):=by intro fuel hN cs d ps h hb;obtain⟨a,p,_⟩:=((Rd.slice B (N:=N) (sz:=2) aD.av T.uPo T.cMo (by decide) (λx=>rfl) (λx=>rfl) (S4 (enc:=enc) (w:=w) (num:=num) (ρ := ρ) B T N)).mono (Nat.le_succ N)) fuel hN _ _ _ h hb;exact⟨a,p,trivial⟩
theorem X6(T:TyQ P tI tS tU sS tMo tPo aU)(B:sJ b bs)(N:Nat):Rd enc P w num ρ b N aU (λl:List Int=>l.map u8A) (λl _=>l.length=4/\∀k∈l,0<=k/\k<=255):=by
 intro fuel hN cs d ps h hb;obtain⟨xs,n,hn,hx,hcl,hl,hf⟩:=DataW.trod_array T.uA h;rw[T.cA]at hcl;obtain⟨y0,y1,y2,y3,rfl⟩:∃y0 y1 y2 y3,xs=[y0,y1,y2,y3]:=by
  match xs,hl with
  |[y0,y1,y2,y3],_=>exact⟨y0,y1,y2,y3,rfl⟩
 have hx':d = .agg [y0.1,y1.1,y2.1,y3.1]:=congrArg Prod.fst hx;subst hx';rw[B.agg]at hb ⊢;simp only[B.cons,B.nil]at hb ⊢;have f0:_=some y0:=hf 0 (by decide);have f1:_=some y1:=hf 1 (by decide);have f2:_=some y2:=hf 2 (by decide);have f3:_=some y3:=hf 3 (by decide);simp only[T.cU,Nat.mul_one]at f0 f1 f2 f3;obtain⟨a0,p0,g0⟩:=(Rd.u8 (enc:=enc) (w:=w) (num:=num) (ρ := ρ) (b:=b) (N:=n) T.uU) n (Nat.le_refl _) _ y0.1 y0.2 f0 (by omega);obtain⟨a1,p1,g1⟩:=(Rd.u8 (enc:=enc) (w:=w) (num:=num) (ρ := ρ) (b:=b) (N:=n) T.uU) n (Nat.le_refl _) _ y1.1 y1.2 f1 (by omega);obtain⟨a2,p2,g2⟩:=(Rd.u8 (enc:=enc) (w:=w) (num:=num) (ρ := ρ) (b:=b) (N:=n) T.uU) n (Nat.le_refl _) _ y2.1 y2.2 f2 (by omega);obtain⟨a3,p3,g3⟩:=(Rd.u8 (enc:=enc) (w:=w) (num:=num) (ρ := ρ) (b:=b) (N:=n) T.uU) n (Nat.le_refl _) _ y3.1 y3.2 f3 (by omega);refine⟨[a0,a1,a2,a3],?_,rfl,?_⟩;have q:=(p0.piece (p1.piece (p2.piece (p3.piece (aJ.done (by omega))))))
 rw[List.drop_zero]at q;exact q;intro k hk;simp only[List.mem_cons,List.not_mem_nil,or_false]at hk;rcases hk with rfl|rfl|rfl|rfl<;>assumption
end
end
section
structure TyP(P:Program)(tI tS tB tCoef tLin tShape tTyp tStep tPull tKer tKers sCoef sLin sTyp sStep sPull sKer cX sStr:TypeId):Prop where
 uI:P.underlying tI=some (.int .i64)
 uS:P.underlying tS=some .string
 uB:P.underlying tB=some .bool
 u_tCoef:∃fs,P.underlying tCoef=some (.struct fs)/\fs.toList.map (λf=>(f.type,f.offset))=[(tS,0),(tI,1)]
 u_tLin:∃fs,P.underlying tLin=some (.struct fs)/\fs.toList.map (λf=>(f.type,f.offset))=[(tI,0),(sCoef,1)]
 u_tShape:∃fs,P.underlying tShape=some (.struct fs)/\fs.toList.map (λf=>(f.type,f.offset))=[(tS,0),(sLin,1)]
 u_tTyp:∃fs,P.underlying tTyp=some (.struct fs)/\fs.toList.map (λf=>(f.type,f.offset))=[(tS,0),(tShape,1)]
 u_tStep:∃fs,P.underlying tStep=some (.struct fs)/\fs.toList.map (λf=>(f.type,f.offset))=[(tS,0),(tI,1),(cX,2)]
 u_tPull:∃fs,P.underlying tPull=some (.struct fs)/\fs.toList.map (λf=>(f.type,f.offset))=[(tS,0),(tI,1),(tI,2),(tS,3),(sLin,4),(tB,5),(tI,6),(sStep,7),(sPull,8)]
 u_tKer:∃fs,P.underlying tKer=some (.struct fs)/\fs.toList.map (λf=>(f.type,f.offset))=[(tI,0),(tI,1),(sLin,2),(tPull,3),(sStep,12),(tI,13),(tPull,14),(tI,23)]
 u_tKers:∃fs,P.underlying tKers=some (.struct fs)/\fs.toList.map (λf=>(f.type,f.offset))=[(sStr,0),(sLin,1),(tI,2),(sTyp,3),(sKer,4),(cX,5)]
 u_sCoef:P.underlying sCoef=some (.slice tCoef)
 u_sLin:P.underlying sLin=some (.slice tLin)
 u_sTyp:P.underlying sTyp=some (.slice tTyp)
 u_sStep:P.underlying sStep=some (.slice tStep)
 u_sPull:P.underlying sPull=some (.slice tPull)
 u_sKer:P.underlying sKer=some (.slice tKer)
 u_sInt:P.underlying cX=some (.slice tI)
 u_sStr:P.underlying sStr=some (.slice tS)
 c_tI:P.cellsOf tI=1
 c_tS:P.cellsOf tS=1
 c_tB:P.cellsOf tB=1
 c_tCoef:P.cellsOf tCoef=2
 c_tLin:P.cellsOf tLin=2
 c_tShape:P.cellsOf tShape=2
 c_tTyp:P.cellsOf tTyp=3
 c_tStep:P.cellsOf tStep=3
 c_tPull:P.cellsOf tPull=9
 c_tKer:P.cellsOf tKer=24
 c_tKers:P.cellsOf tKers=6
 c_sCoef:P.cellsOf sCoef=1
 c_sLin:P.cellsOf sLin=1
 c_sTyp:P.cellsOf sTyp=1
 c_sStep:P.cellsOf sStep=1
 c_sPull:P.cellsOf sPull=1
 c_sKer:P.cellsOf sKer=1
 c_sInt:P.cellsOf cX=1
 c_sStr:P.cellsOf sStr=1
section
variable{H:Type}{enc:TypeId×Value->H}{P:Program}{w:World}{num:Nm}{ρ : Rho}{b:DataW H->Nat}{bs:List (DataW H)->Nat}{tI tS tB tCoef tLin tShape tTyp tStep tPull tKer tKers sCoef sLin sTyp sStep sPull sKer cX sStr:TypeId}
variable(B:sJ b bs)(T:TyP P tI tS tB tCoef tLin tShape tTyp tStep tPull tKer tKers sCoef sLin sTyp sStep sPull sKer cX sStr)
include B T
end
end
section
section
variable{H:Type}{enc:TypeId×Value->H}{P:Program}{w:World}{num:Nm}{ρ : Rho}{b:DataW H->Nat}{bs:List (DataW H)->Nat}
end
end
end Go.Tev
section
set_option maxRecDepth 100000
namespace Go.Proofs
open Go.Tev
theorem tyQ:TyQ Tryz.prog 3 9 5 28 72 23 24 where
 uI:=Tryz.underlying3
 uS:=Tryz.underlying9
 uU:=Tryz.underlying5
 usS:=Tryz.underlying28
 uMo:=⟨_,Tryz.underlying72,by kernel_rfl⟩
 uPo:=Tryz.underlying23
 uA:=Tryz.underlying24
 cI:=by kernel_rfl
 cS:=by kernel_rfl
 cU:=by kernel_rfl
 csS:=by kernel_rfl
 cMo:=by kernel_rfl
 cA:=by kernel_rfl
theorem vZ{ρ : Rho}{W:World}{g:Nat}{v:AV}{cs:Array Value}{T:TypeId}{fr:Nat×Nat}(ht:v.tree=true)(hg:W.heap[g]?=some (.cells cs T fr))(h:aJ (Rv nm ρ W noF) v.cells cs.toList) :
  (v.tree=true/\∃c T fr,W.heap[gnum g]?=some (.cells c T fr)/\c.size=v.cells.length)/\Rv nm ρ W noF (.fp v) (.pointer (some ⟨gnum g,0,none⟩)):=by
 have hl:=h.length;have hsz:cs.size=v.cells.length:=by rw[hl];simp
 refine⟨⟨ht,cs,T,fr,hg,hsz⟩,?_⟩;have hlt:g<W.heap.size:=by by_cases hlt:g<W.heap.size;exact hlt;rw[Array.getElem?_eq_none (Nat.le_of_not_lt hlt)]at hg;cases hg
 have hcell:∀n,n<cs.size->W.cell? ⟨g,0+n,none⟩=some (cs[n]?.getD undef):=by intro n hn;simp only[World.cell?,hg,Option.isSome_none,Bool.false_eq_true,if_false,Nat.zero_add];rw[Array.getElem?_eq_getElem hn];rfl
 refine .fp v g 0 (λn=>cs[n]?.getD undef) (λh=>h) hlt (λn hn=>hcell n (by omega)) ?_;intro j x hx;have hj:j<cs.size:=by rw[hsz];exact(List.getElem?_eq_some_iff.1 hx).1
 have h2:=h.get j x (cs[j]'hj) hx (by rw[Array.getElem?_toList,Array.getElem?_eq_getElem hj]);simpa[Array.getElem?_eq_getElem hj] using h2
theorem nK{P:Program}{W:World}{n:String}{g:Nat}{cs:Array Value}(hg:P.globalNamed n=some g)(h:W.var? P n=some cs):∃T fr,W.heap[g]?=some (.cells cs T fr):=by unfold World.var? at h;rw[hg,Option.bind_some]at h;split at h;rename_i c T fr hh;cases h;exact⟨T,fr,hh⟩;cases h
theorem zD{P:Program}{W:World}{fuel:Nat}{t:TypeId}{cs:List Value}{name:String}{d:DataW Unit}{p:List MemPlace}{ms}(ht:P.underlying t=some (.interface ms))
  (h:DataW.trod (λ_=>()) P W 0 (λ_=>true) false fuel t cs=some (.iface name d,p)):∃u v,cs=[.iface u v]:=by
 cases fuel with
 |zero=>simp[DataW.trod]at h
 |succ fuel=>
  unfold DataW.trod at h;rw[ht]at h;split at h<;>first|(rename_i e;cases e;done)|skip
  all_goals first|(exact⟨_,_,rfl⟩)|(cases h;done)|skip
theorem ZG{W:World}(hL:laidMetH Tryz.prog YtlalckpnpidccaaGreatDoor.Rows.auditDominatedUptoRow.laid W):eS nm glS gnum (λ_ _=>none) W noF:=by
 have e:(YtlalckpnpidccaaGreatDoor.Rows.auditDominatedUptoRow.laid.filter λx=>x.2.handleName?.isSome)=[]:=by kernel_rfl
 have h:laidMet Tryz.prog YtlalckpnpidccaaGreatDoor.Rows.auditDominatedUptoRow.laid W:=by unfold laidMetH at hL;rw[e]at hL;exact hL
 obtain⟨ps,hv,_,_⟩:=h;obtain⟨g1,t1,cs1,f1,p1,q1,hg1,ht1,hv1,hd1,hr1,_⟩:=hv;obtain⟨g2,t2,cs2,f2,p2,q2,hg2,ht2,hv2,hd2,hr2,_⟩:=hr1;obtain⟨g3,t3,cs3,f3,p3,q3,hg3,ht3,hv3,hd3,hr3,_⟩:=hr2;obtain⟨g4,t4,cs4,f4,p4,q4,hg4,ht4,hv4,hd4,hr4,_⟩:=hr3;obtain⟨g5,t5,cs5,f5,p5,q5,hg5,ht5,hv5,hd5,hr5,_⟩:=hr4;obtain⟨g6,t6,cs6,f6,p6,q6,hg6,ht6,hv6,hd6,hr6,_⟩:=hr5;obtain⟨g7,t7,cs7,f7,p7,q7,hg7,ht7,hv7,hd7,hr7,_⟩:=hr6;clear hr7;obtain⟨T3,fr3,hh3⟩:=nK hg3 hv3;obtain⟨T5,fr5,hh5⟩:=nK hg5 hv5;obtain⟨T6,fr6,hh6⟩:=nK hg6 hv6;obtain rfl:3=g3:=Option.some.inj ((show Tryz.prog.globalNamed _=some 3 by kernel_rfl).symm.trans hg3);obtain rfl:1=g5:=Option.some.inj ((show Tryz.prog.globalNamed _=some 1 by kernel_rfl).symm.trans hg5);obtain rfl:0=g6:=Option.some.inj ((show Tryz.prog.globalNamed _=some 0 by kernel_rfl).symm.trans hg6);obtain rfl:319=t3:=Option.some.inj ((show (Tryz.prog.globals[3]?).map (·.type)=some 319 by kernel_rfl).symm.trans ht3);obtain rfl:149=t5:=Option.some.inj ((show (Tryz.prog.globals[1]?).map (·.type)=some 149 by kernel_rfl).symm.trans ht5);obtain rfl:149=t6:=Option.some.inj ((show (Tryz.prog.globals[0]?).map (·.type)=some 149 by kernel_rfl).symm.trans ht6);have hd3':DataW.trod (λ_=>()) Tryz.prog W 0 (λ_=>true) false f3 319 cs3.toList=some (Lib.tabData .u64 Lib.pow10Tab,p3):=hd3;have hcsP:=Lib.cells_of_tab Tryz.underlying319 Tryz.underlying241 (by kernel_rfl) (by kernel_rfl) hd3';obtain⟨uR,vR,hcR⟩:=zD Tryz.underlying149 hd5;obtain⟨uY,vY,hcY⟩:=zD Tryz.underlying149 hd6;intro g v hg;unfold glS at hg;cases h1:g.beq 0 with
 |true=>rw[h1]at hg;simp only[cond_true,Option.some.injEq]at hg;subst hg;obtain rfl:=Nat.eq_of_beq_eq_true h1;exact vZ (by kernel_rfl) hh6 (by rw[hcY];exact .cons (.ifc _ _ _ (.top _)) .nil)
 |false=>
  cases h2:g.beq 1 with
  |true=>rw[h1,h2]at hg;simp only[cond_true,cond_false,Option.some.injEq]at hg;subst hg;obtain rfl:=Nat.eq_of_beq_eq_true h2;exact vZ (by kernel_rfl) hh5 (by rw[hcR];exact .cons (.ifc _ _ _ (.top _)) .nil)
  |false=>
   cases h3:g.beq 3 with
   |true=>
    rw[h1,h2,h3]at hg;simp only[cond_true,cond_false,Option.some.injEq]at hg;subst hg;obtain rfl:=Nat.eq_of_beq_eq_true h3;refine vZ (by kernel_rfl) hh3 ?_;rw[hcsP];refine aJ.mk_get (by simp[AV.cells]) ?_;intro i x y hx hy;simp only[AV.cells,List.getElem?_map]at hx hy;cases hz:Lib.pow10Tab[i]? with
    |none=>rw[hz]at hx;cases hx
    |some z=>rw[hz]at hx hy;cases hx;cases hy;exact .int _ _
   |false=>rw[h1,h2,h3]at hg;cases hg
end Go.Proofs
end
namespace Go.Tev
section
def iL:List Str->List Str->Bool
 |_,[]=>true
 |p,x::r=>cJ x.bs&&after p.getLast? x&&iL (p++[x]) r
theorem yL:∀(l p:List Str),iL p l=(iK p l&&l.all λs=>cJ s.bs)
 |[],p=>rfl
 |x::r,p=>by have ih:=yL r (p++[x]);simp only[iL,iK,ih,List.all_cons];cases cJ x.bs<;>simp[Bool.and_assoc]
def mH(o:Option aD)(x:aD):Bool:=match o with|none=>true|some q => !decide (0<=lB q.vs.es x.vs.es)
theorem D5(p:List aD)(x:aD)(r:List aD):hU p (x::r)=(jJ x.c && !decide (8<(x.vs.es.length:Int))&&mH p.getLast? x&&iL [] x.vs.es&&hU (p++[x]) r):=by
 have h1:mI p.getLast? x=mH p.getLast? x:=by
  cases p.getLast? with
  |none=>rfl
  |some q=>simp only[mI,mH];rw[Bool.eq_iff_iff];simp only[c7,bH,gO];rw[CS];omega
 simp only[hU,yL,h1];generalize mH p.getLast? x=m;cases jJ x.c<;>cases decide (8<(x.vs.es.length:Int))<;>cases iK [] x.vs.es<;>cases m<;>simp
section
variable{pg:Pg}
set_option maxRecDepth 100000 in
theorem c690(hf:pg.fs 690=some AA)(h77:∀s:Str,Ret pg 77 [.str s.bs] (.bool (cJ s.bs)))(h700:pg.fs 700=some uO)(P:Sl aD):Ret pg 690 [P.av aD.av] (.bool (aN P.es)):=by
 have hb:=P.ok;refine Ret.ofX hf ?_;unfold AA;cases h60:decide (60<(P.es.length:Int))
 case true=>
  simp only[Sl.av,aE,h60,go_sem,seval];have:¬(P.es.length:Int)<=60:=by have:=bU h60;omega
  simp[aN,this]
 simp only[Sl.av,aE,h60,go_sem,seval];have hpo:aN P.es=hU [] P.es:=by
  have:(P.es.length:Int)<=60:=by have:=cF h60;omega
  simp[aN,this]
 refine bD P.es (λd r env hp=>env=xO (.sl P.nl (P.es.map aD.av) P.cl) (.int .i64 d.length)/\aN P.es=hU d r) ?_ ?_ ?_;exact⟨rfl,hpo⟩;rintro env hp ⟨rfl,hq⟩;simp only[xL,xO,Int.lt_irrefl,aE,go_sem,seval];rw[hq];rfl
 ·rintro d x r env hp hes ⟨rfl,hq⟩;have hget:P.es[d.length]?=some x:=by rw[hes];simp
  have hml:(P.es.map aD.av)[d.length]?=some x.av:=by rw[List.getElem?_map,hget];rfl
  have e1:decide ((d.length:Int)<(P.es.length:Int))=true:=by rw[hes];simp;omega
  have hsb:(d++x::r).length<=big:=by rw[<-hes];exact hb
  have hp0:(0:Int)<=(d.length:Int):=by omega
  rw[D5]at hq;simp only[xL,xO,aE,e1,hml,hp0,Int.toNat_natCast,aD.av,Sl.av,go_sem,seval];generalize hH:Hp.put (Hp.put hp 1 (hp.next 1) _) 1 (hp.next 1) _=H;have g1:H.get 1=some (hp.next 1,.blk [.int .i64 x.c,.sl x.vs.nl (x.vs.es.map Str.av) x.vs.cl] 2 true true false):=by rw[<-hH,aG,if_pos rfl]
  clear hH;generalize hp.next 1=e at *;have hvb:=x.vs.ok;cases b0:decide (x.c=0)
  case true=>simp only[go_sem,seval];refine dJ ?_;rw[hq];simp[jJ,b0]
  cases b1:decide (x.c < -1099511627776)
  case true=>
   repeat (first|simp only[g1,b0,b1,go_sem,seval]|refine dJ ?_)
   rw[hq];simp[jJ,b1]
  cases b2:decide (1099511627776<x.c)
  case true=>
   repeat (first|simp only[g1,b0,b1,b2,go_sem,seval]|refine dJ ?_)
   rw[hq];simp[jJ,b2]
  have hco:jJ x.c=true:=by simp[jJ,b0,b1,b2]
  cases b3:decide (8<(x.vs.es.length:Int))
  case true=>
   repeat (first|simp only[g1,b0,b1,b2,b3,aE,go_sem,seval]|refine dJ ?_)
   rw[hq];simp[hco,b3]
  rw[hco,b3]at hq;simp only[Bool.true_and,Bool.not_false]at hq;have h700':∀a b:Sl Str,Ret pg 700 [.sl a.nl (a.es.map Str.av) a.cl,.sl b.nl (b.es.map Str.av) b.cl] (.int .i64 (lB a.es b.es)):=λa b=>c700 h700 a b;rcases pV d with hd|⟨d',q,hd⟩
  case' inl=>
   have e3:decide (0<(d.length:Int))=false:=by simp[hd]
   have hq2:aN P.es=(iL [] x.vs.es&&hU (d++[x]) r):=by rw[hq,hd];simp[mH]
   simp only[g1,b0,b1,b2,b3,e3,aE,go_sem,seval];refine dJ ?_
  case' inr=>
   have hd':d=d'++[q]:=by simpa using hd
   have e3:decide (0<(d.length:Int))=true:=by simp[hd']
   have e4:wr .i64 ((d.length:Int)-1)=(d'.length:Int):=by rw[dZ (by simp only[hd',bW,List.length_singleton];omega) (by simp only[big,bW]at hsb;omega),hd',bW];simp
   have e5:(P.es.map aD.av)[d'.length]?=some q.av:=by rw[List.getElem?_map,hes,hd'];simp
   have hq1:(0:Int)<=(d'.length:Int):=by omega
   have ha:mH d.getLast? x = !decide (0<=lB q.vs.es x.vs.es):=by rw[hd'];simp[mH]
   rw[ha]at hq;simp only[g1,b0,b1,b2,b3,e3,e4,e5,hq1,Int.toNat_natCast,aE,aD.av,Sl.av,go_sem,seval];refine aP (h700' q.vs x.vs) ?_;cases b5:decide (0<=lB q.vs.es x.vs.es)
   case true=>
    repeat (first|simp only[b5,go_sem,seval]|refine dJ ?_)
    rw[hq];simp[b5]
   have hq2:aN P.es=(iL [] x.vs.es&&hU (d++[x]) r):=by rw[hq,b5];simp
   simp only[b5,go_sem,seval];refine dJ ?_
  all_goals
   refine bD x.vs.es (λd2 r2 env hp2=>env=xP (.sl P.nl (P.es.map aD.av) P.cl) (.int .i64 d.length) (.pt 1 e 0) (.int .i64 d2.length)/\hp2.get 1=some (e,.blk [.int .i64 x.c,.sl x.vs.nl (x.vs.es.map Str.av) x.vs.cl] 2 true true false)/\iL [] x.vs.es=iL d2 r2) ?_ ?_ ?_;exact⟨rfl,g1,rfl⟩;rintro env hp2 ⟨rfl,g2,hr⟩;have hr1:iL [] x.vs.es=true:=by rw[hr];rfl
   simp only[xN,xP,g2,Int.lt_irrefl,aE,bI hsb,go_sem,seval];refine⟨rfl,?_⟩;rw[hq2,hr1];rfl
   ·rintro d2 y r2 env hp2 hes2 ⟨rfl,g2,hr⟩;have hsb2:(d2++y::r2).length<=big:=by rw[<-hes2];exact hvb
    have hget2:(x.vs.es.map Str.av)[d2.length]?=some y.av:=by rw[List.getElem?_map,hes2];simp
    have hget3:x.vs.es[d2.length]?=some y:=by rw[hes2];simp
    have f1:decide ((d2.length:Int)<(x.vs.es.length:Int))=true:=by rw[hes2];simp;omega
    have hp2':(0:Int)<=(d2.length:Int):=by omega
    simp only[iL]at hr;simp only[xN,xP,g2,f1,hget2,hp2',Int.toNat_natCast,aE,Str.av,go_sem,seval];refine aP (h77 y) ?_;cases c1:cJ y.bs
    case false=>
     repeat (first|simp only[c1,go_sem,seval]|refine dJ ?_)
     rw[hq2,hr,c1];rfl
    rcases pV d2 with hd2|⟨d3,z,hd2⟩
    ·have f3:decide (0<(d2.length:Int))=false:=by simp[hd2]
     have hr1:iL [] x.vs.es=iL (d2++[y]) r2:=by rw[hr,c1,hd2];simp[after]
     simp only[c1,f3,go_sem,seval];refine dJ ?_
     try simp only[bI hsb2,go_sem,seval]
     first|exact⟨rfl,g2,hr1⟩|exact⟨g2,hr1⟩|exact hr1
    ·have hd2':d2=d3++[z]:=by simpa using hd2
     have f3:decide (0<(d2.length:Int))=true:=by simp[hd2']
     have f4:wr .i64 ((d2.length:Int)-1)=(d3.length:Int):=by rw[dZ (by simp only[hd2',bW,List.length_singleton];omega) (by simp only[big,bW]at hsb2;omega),hd2',bW];simp
     have f5:(x.vs.es.map Str.av)[d3.length]?=some z.av:=by rw[List.getElem?_map,hes2,hd2'];simp
     have f6:(0:Int)<=(d3.length:Int):=by omega
     have f7:x.vs.es[d3.length]?=some z:=by rw[hes2,hd2'];simp
     have ht:(!(Op.bytesLess z.bs y.bs||decide (z.bs=y.bs)))=Op.bytesLess y.bs z.bs:=by rw[eA];simp
     have ha:after d2.getLast? y = !Op.bytesLess y.bs z.bs:=by rw[hd2'];simp[after]
     rw[c1,ha]at hr;simp only[c1,f3,f4,f7,f6,g2,hget3,hp2',Option.map_some,Int.toNat_natCast,Str.av,ht,go_sem,seval];refine dJ ?_;cases c2:Op.bytesLess y.bs z.bs
     ·have hr1:iL [] x.vs.es=iL (d2++[y]) r2:=by rw[hr,c2];rfl
      try simp only[bI hsb2,go_sem,seval]
      first|exact⟨rfl,g2,hr1⟩|exact⟨g2,hr1⟩|exact hr1
     ·try simp only[bI hsb2,go_sem,seval]
      rw[hq2,hr,c2];rfl
end
end
section
section
variable{pg:Pg}
theorem c702(hf:pg.fs 702=some uM)(h57:∀s:Str,Ret pg 57 [.str s.bs] (.bool (cJ s.bs)))(s:Str):Ret pg 702 [.str s.bs] (.bool (!cJ s.bs)):=by refine Ret.ofX hf ?_;unfold uM;simp only[go_sem,seval];refine aP (h57 s) ?_;simp only[go_sem,seval]
set_option maxRecDepth 100000 in
theorem c692(hf:pg.fs 692=some z8)(h57:∀s:Str,Ret pg 57 [.str s.bs] (.bool (cJ s.bs)))(h95:pg.fs 95=some IU)(h137:pg.fs 137=some uQ)(h500:pg.fs 500=some rS)(h528:pg.fs 528=some lM)(h701:pg.fs 701=some uN)(h702:pg.fs 702=some uM)
  (h703:pg.fs 703=some uL) (h711:pg.fs 711=some rR) (P:Sl aD):Ret pg 692 [P.av aD.av] (.bool (aN P.es)):=by
 have hb:=P.ok;refine Ret.ofX hf ?_;unfold z8;simp only[Sl.av,aE,go_sem,seval];refine bD P.es (λd r env hp=>env=xK (.sl P.nl (P.es.map aD.av) P.cl) (.sl P.nl (P.es.map aD.av) P.cl) (.int .i64 P.es.length) (.int .i64 d.length)/\aN P.es=(hU d r&&decide ((P.es.length:Int)<=60))) ?_ ?_ ?_;exact⟨rfl,rfl⟩;rintro env hp ⟨rfl,hq⟩;simp only[xJ,xK,Int.lt_irrefl,aE,go_sem,seval];rw[hq];rfl;rintro d x r env hp hes ⟨rfl,hq⟩;have hget:P.es[d.length]?=some x:=by rw[hes];simp
 have e1:decide ((d.length:Int)<(P.es.length:Int))=true:=by rw[hes];simp;omega
 have hsb:(d++x::r).length<=big:=by rw[<-hes];exact hb
 have hp0:(0:Int)<=(d.length:Int):=by omega
 have hvb:=x.vs.ok;have a701:Ret pg 701 [.sl x.vs.nl (x.vs.es.map Str.av) x.vs.cl] (.bool (iK [] x.vs.es)):=c701 h701 h500 h528 x.vs;have a95:Ret pg 95 [.sl x.vs.nl (x.vs.es.map Str.av) x.vs.cl,.fn 702 []] (.bool (x.vs.es.any λs => !cJ s.bs)):=c95 h95 h137 x.vs.nl x.vs.cl x.vs.es hvb 702 [] rfl (λs => !cJ s.bs) (λs _=>c702 h702 h57 s);have hany:(x.vs.es.any λs => !cJ s.bs) = !(x.vs.es.all λs=>cJ s.bs):=by rw[List.any_eq_not_all_not];simp
 rw[hany]at a95;have h703':∀a b:Sl Str,Ret pg 703 [.sl a.nl (a.es.map Str.av) a.cl,.sl b.nl (b.es.map Str.av) b.cl] (.int .i64 (fN a.es b.es)):=λa b=>c703 h703 h711 h528 a b;simp only[hU]at hq;simp only[xJ,xK,aE,e1,hget,hp0,Int.toNat_natCast,Option.map_some,aD.av,Sl.av,go_sem,seval];generalize hH:Hp.put (Hp.put hp 1 (hp.next 1) _) 1 (hp.next 1) _=H;have g1:H.get 1=some (hp.next 1,.blk [.int .i64 x.c,.sl x.vs.nl (x.vs.es.map Str.av) x.vs.cl] 2 true true false):=by rw[<-hH,aG,if_pos rfl]
 clear hH;generalize hp.next 1=e at *;cases b0:decide (x.c=0)
 case true=>simp only[g1,b0,go_sem,seval];rw[hq];simp[jJ,b0]
 cases b1:decide (x.c < -1099511627776)
 case true=>simp only[g1,b0,b1,go_sem,seval];rw[hq];simp[jJ,b1]
 cases b2:decide (1099511627776<x.c)
 case true=>simp only[g1,b0,b1,b2,go_sem,seval];rw[hq];simp[jJ,b2]
 have hco:jJ x.c=true:=by simp[jJ,b0,b1,b2]
 cases b3:decide (8<(x.vs.es.length:Int))
 case true=>simp only[g1,b0,b1,b2,b3,aE,go_sem,seval];rw[hq];simp[hco,b3]
 rw[hco,b3]at hq;simp only[Bool.true_and,Bool.not_false]at hq;simp only[g1,b0,b1,b2,b3,aE,go_sem,seval];refine aP (a701) ?_;cases b4:iK [] x.vs.es
 case false=>simp only[go_sem,seval];rw[hq,b4];rfl
 simp only[g1,go_sem,seval];refine aP (a95) ?_;cases b5:(x.vs.es.all λs=>cJ s.bs)
 case false=>simp only[go_sem,seval];rw[hq,b5];simp
 rw[b4,b5]at hq;simp only[Bool.true_and]at hq;rcases pV d with hd|⟨d',q,hd⟩
 have e3:decide (0<(d.length:Int))=false:=by simp[hd]
 simp only[g1,e3,go_sem,seval];refine dJ ?_;have hq2:aN P.es=(hU (d++[x]) r&&decide ((P.es.length:Int)<=60)):=by rw[hq,hd];simp[mI]
 simp only[bI hsb,go_sem,seval]
 first|exact⟨rfl,hq2⟩|exact hq2
 have hd':d=d'++[q]:=by simpa using hd
 have e3:decide (0<(d.length:Int))=true:=by simp[hd']
 have e4:wr .i64 ((d.length:Int)-1)=(d'.length:Int):=by rw[dZ (by simp only[hd',bW,List.length_singleton];omega) (by simp only[big,bW]at hsb;omega),hd',bW];simp
 have e5:P.es[d'.length]?=some q:=by rw[hes,hd'];simp
 have hq1:(0:Int)<=(d'.length:Int):=by omega
 have ha:mI d.getLast? x = !decide (0<=fN q.vs.es x.vs.es):=by rw[hd'];simp only[List.getLast?_append,List.getLast?_singleton,Option.or_some,mI];rw[Bool.eq_iff_iff];simp
 rw[ha]at hq;simp only[g1,e3,e4,e5,hq1,Int.toNat_natCast,Option.map_some,aD.av,Sl.av,go_sem,seval];refine aP (h703' q.vs x.vs) ?_;cases b6:decide (0<=fN q.vs.es x.vs.es);simp only[b6,go_sem,seval];refine dJ ?_;have hq2:aN P.es=(hU (d++[x]) r&&decide ((P.es.length:Int)<=60)):=by rw[hq,b6];rfl
 simp only[bI hsb,go_sem,seval]
 first|exact⟨rfl,hq2⟩|exact hq2
 simp only[b6,go_sem,seval];refine dJ ?_;rw[hq,b6];rfl
end
end
section
section
variable{pg:Pg}{kb:Nat}
def RY(pg:Pg)(k e:Nat)(args:List AV)(h:Hp)(Q:AV->Hp->Prop):Prop:=∃n v h',(aO pg n).yl k e args h=some (v,h')/\Q v h'
theorem RY.of{k e b:Nat}{env:List AV}{ps:List Nat}{ca cb:C}{args:List AV}{h:Hp}{Q:AV->Hp->Prop}(hg:h.get k=some (e,.lp 0 b env ps ca cb))(hl:ps.length=args.length)
  (hw:XX pg b ca ⟨qG env ps args,h⟩ (λex st1=>ex = .nor/\st1.hp.get k=some (e,.lp 0 b env ps ca cb)/\XX pg b cb ⟨st1.env,st1.hp.put k e (.lp 1 b env ps ca cb)⟩ (λx st2=>st2.hp.get k=some (e,.lp 1 b env ps ca cb)/\Q (.bool (x == .nor)) (st2.hp.put k e (.lp x.code b env ps ca cb))) ⟨⟩) ⟨⟩):RY pg k e args h Q:=by
 obtain⟨n,ex,st1,h1,rfl,h2,m,x,st2,h3,h4,h5⟩:=hw;refine⟨max n m+1,_,_,?_,h5⟩;have e1:=cH (Nat.le_max_left n m) h1;have e2:=cH (Nat.le_max_right n m) h3;simp only[aO,lU,hg,hl,and_self,if_true,e1,h2,e2,h4]
end
end
section
theorem nH{p:Ent->Bool}:∀{h:Hp}{k e:Nat}{o:Ob},h.all p=true->p ⟨k,e,o⟩=true->(h.put k e o).all p=true
 |[],_,_,_,_,hp=>by simp[Hp.put,hp]
 |x::r,k,e,o,h,hp=>by simp only[List.all_cons,aA]at h;rw[Hp.put];split;simp[h.1,h.2,hp];split;simp[h.2,hp];simp only[List.all_cons,aA];exact⟨h.1,nH h.2 hp⟩
def oC:Hp->Bool
 |[]=>true
 |x::r=>(r.all λy=>decide (x.k<y.k))&&oC r
theorem nE:∀{h:Hp}{k e:Nat}{o:Ob},oC h=true->oC (h.put k e o)=true
 |[],_,_,_,_=>by simp[Hp.put,oC]
 |x::r,k,e,o,h=>by simp only[oC,aA]at h;rw[Hp.put];split;rename_i hk;simp only[oC,List.all_cons,aA,bH,h.1,h.2,and_true,hk,true_and];rw[bT];intro y hy;have:=bT.1 h.1 y hy;simp only[bH]at this ⊢;omega;rename_i hk;split;rename_i he;subst he;simp only[oC,h.2,Bool.and_true];exact h.1;rename_i he;simp only[oC,aA];exact⟨nH h.1 (by simp;omega),nE h.2⟩
theorem gD:∀{h:Hp},oC h=true->iZ h=true
 |[],_=>rfl
 |x::r,h=>by simp only[oC,aA]at h;simp only[iZ,aA];refine⟨?_,gD h.2⟩;rw[bT];intro y hy;have:=bT.1 h.1 y hy;simp only[bH]at this;simp;omega
section
variable{pg:Pg}{kb:Nat}
end
end
section
section
variable{pg:Pg}{kb:Nat}
theorem WQ(s:Nat)(h:Hp)(vs:List AV)(Q:AV->Eff->Prop)(t:Tok Q):XO pg kb .mkm s h vs Q t=XV (HM h (kb+s) vs) Q ⟨⟩:=bM rfl s h vs Q
theorem WN(q:Nat)(z:AV)(ok:Bool)(s:Nat)(h:Hp)(vs:List AV)(Q:AV->Eff->Prop)(t:Tok Q):XO pg kb (.mlk q z ok) s h vs Q t=XV (HK h q z ok vs) Q ⟨⟩:=bM rfl s h vs Q
theorem WL(q:Nat)(s:Nat)(h:Hp)(vs:List AV)(Q:AV->Eff->Prop)(t:Tok Q):XO pg kb (.mup q) s h vs Q t=XV (HI h q vs) Q ⟨⟩:=bM rfl s h vs Q
theorem OA(q:Nat)(s:Nat)(h:Hp)(vs:List AV)(Q:AV->Eff->Prop)(t:Tok Q):XO pg kb (.mdel q) s h vs Q t=XV (BN h q vs) Q ⟨⟩:=bM rfl s h vs Q
end
theorem GS(k:IntKind)(n:Int):AV.keyQ 0 (.int k n)=true:=rfl
theorem GR(b:List UInt8):AV.keyQ 1 (.str b)=true:=rfl
theorem EJ(b:Bool):AV.keyQ 2 (.bool b)=true:=rfl
theorem I2(k e:Nat):AV.cells (.mp k e)=[.mp k e]:=rfl
theorem G3(k e:Nat):AV.isAgg (.mp k e)=false:=rfl
attribute [go_sem] WQ WN WL OA HM HK HI BN GS GR EJ I2 G3
end
section
theorem GH:∀l:List (AV×AV),zM l l=true
 |[]=>rfl
 |x::r=>by simp[zM,gL,GH r]
theorem UL(o:Ob):E0 o o=true:=by cases o<;>simp[E0,fI,GH]
theorem HA:∀h:Hp,wC h h=true
 |[]=>rfl
 |x::r=>by simp[wC,UL,HA r]
theorem H5(x:Ex×St):eqR x x=true:=by simp[eqR,fI,HA]
theorem u2{f:Nat->Option (Ex×St)}{R:Ex×St}:∀{l:List Nat},l≠[]->(∀b∈l,f b=some R)->eF eqR f l=some R
 |[],h,_=>absurd rfl h
 |[b],_,h=>by simpa[eF] using h b (by simp)
 |b::c::l,_,h=>by have h1:=h b (by simp);have h2:=u2 (l:=c::l) (by simp) (λx hx=>h x (bJ _ hx));simp only[eF]at h2 ⊢;rw[h1,h2];simp[H5]
theorem IJ{l:List Nat}{P:Nat->Nat->Prop}(mono:∀a n m,n<=m->P a n->P a m)(h:∀a∈l,∃n,P a n):∃n,∀a∈l,P a n:=by
 induction l with
 |nil=>exact⟨0,λa ha=>by cases ha⟩
 |cons x l ih=>obtain⟨n,hn⟩:=ih (λa ha=>h a (bJ _ ha));obtain⟨m,hm⟩:=h x (by simp);refine⟨max n m,λa ha=>?_⟩;rcases List.mem_cons.1 ha with rfl|ha;exact mono _ _ _ (Nat.le_max_right n m) hm;exact mono _ _ _ (Nat.le_max_left n m) (hn a ha)
section
variable{pg:Pg}{kb:Nat}
def zH(pg:Pg)(kb id:Nat)(rest:C)(msk:List Bool)(drop:List Nat)(n:Nat)(o:Ex×St):Option (Ex×St):=
 (match gG id o.1 with|.nor=>aX pg.gl (aO pg n) kb n rest o.2|x=>some (x,o.2)).map (mX kb msk drop)
theorem fR{id:Nat}{rest:C}{msk:List Bool}{drop:List Nat}{n m:Nat}(h:n<=m){o x:Ex×St}(e:zH pg kb id rest msk drop n o=some x):zH pg kb id rest msk drop m o=some x:=by unfold zH at e ⊢;simp only[fX]at e ⊢;obtain⟨y,q1,q2⟩:=e;refine⟨y,?_,q2⟩;split at q1;exact cH h q1;exact q1
def nJ(pg:Pg)(kb id:Nat)(rest:C)(msk:List Bool)(drop:List Nat)(R:Ex×St)(k e:Nat)(x:Ex)(st:St):Prop:=
 ∃h',killI st.hp k e=some h' /\
  match gG id x with
  |.nor=>WX pg kb rest ⟨st.env,h'⟩ (λy s=>mX kb msk drop (y,s)=R)
  |y=>mX kb msk drop (y,⟨st.env,h'⟩)=R
theorem nJ.fin{id:Nat}{rest:C}{msk:List Bool}{drop:List Nat}{R:Ex×St}{k e:Nat}{x:Ex}{st:St}(h:nJ pg kb id rest msk drop R k e x st) :
  ∃n,(killI st.hp k e).bind (λh=>zH pg kb id rest msk drop n (x,⟨st.env,h⟩))=some R:=by
 obtain⟨h',h1,h2⟩:=h;rw[h1];simp only[Option.bind_some,zH];generalize gG id x=b at h2;cases b with
 |nor=>obtain⟨n,y,s,h3,h4⟩:=h2;exact⟨n,by simp only[h3,Option.map_some,h4]⟩
 |ext i=>exact⟨0,by simp only[Option.map_some];exact congrArg some h2⟩
 |ret=>exact⟨0,by simp only[Option.map_some];exact congrArg some h2⟩
theorem aAW{p:C}{id it nx more out:Nat}{b:C}{clr:List Bool}{rest:C}{msk:List Bool}{drop:List Nat}{st:St}{Q:Ex->St->Prop}(R:Ex×St)(C:Nat->List AV->Hp->Prop)
  (h0:WX pg kb p st (λx s=>x = .nor/\∃m,C m (clear clr s.env) s.hp))
  (step:∀m env hp,C m env hp->nx<env.length/\more<env.length/\∃k e l o,cO env it = .pt k e 0/\oP hp k e=some (l,o)/\l.length=m /\
   (l=[]->nJ pg kb id rest msk drop R k e (.ext out) ⟨(env.set nx (.tup [.bool false])).set more (.bool false),hp⟩) /\
   ∀a∈l,WX pg kb b ⟨(env.set nx (.tup [.bool true,.top,.top])).set more (.bool true),hp.put k e (o a)⟩
    (λx s=>(x = .nor/\∃m',m'+1=m/\C m' (clear clr s.env) s.hp)\/(x ≠ .nor/\nJ pg kb id rest msk drop R k e x s)))
  (hQ:Q R.1 R.2):WX pg kb (.mq p id it nx more out b clr rest msk drop) st Q:=by
 have key:∀m s,C m (clear clr s.env) s.hp->∃n,mrN (aX pg.gl (aO pg n) kb n b) (zH pg kb id rest msk drop n) it nx more out clr n s=some R:=by
  intro m
  induction m with
  |zero=>
   intro s hc;obtain⟨h1,h2,k,e,l,o,h3,h4,h5,h6,h7⟩:=step _ _ _ hc;obtain rfl:=eD h5;obtain⟨n,hn⟩:=(h6 rfl).fin;refine⟨n+1,?_⟩;rw[dS]at h1 h2;rw[mrN,if_pos ⟨h1,h2⟩];simp only[h3,h4,List.isEmpty_nil,if_true];cases hk:killI s.hp k e with
   |none=>simp[hk]at hn
   |some h'=>simp only[hk,Option.bind_some]at hn ⊢;exact fR (Nat.le_succ n) hn
  |succ m ih=>
   intro s hc;obtain⟨h1,h2,k,e,l,o,h3,h4,h5,h6,h7⟩:=step _ _ _ hc;have hne:l≠[]:=by intro q;subst q;simp at h5
   have hall:∃n,∀a∈l,(match aX pg.gl (aO pg n) kb n b ⟨((clear clr s.env).set nx (.tup [.bool true,.top,.top])).set more (.bool true),s.hp.put k e (o a)⟩ with
     |some (.nor,st')=>mrN (aX pg.gl (aO pg n) kb n b) (zH pg kb id rest msk drop n) it nx more out clr n st'
     |some (x,st')=>(killI st'.hp k e).bind λh=>zH pg kb id rest msk drop n (x,⟨st'.env,h⟩)
     |none=>none)=some R:=by
    refine IJ ?_ ?_;intro a n n' hn hq;split at hq;rename_i s1 he;rw[cH hn he];exact hZ (λst x q=>cH hn q) (λo x q=>fR hn q) hn hq;rename_i x s1 hx he;rw[cH hn he];cases hk:killI s1.hp k e with
    |none=>simp[hk]at hq
    |some h'=>
     simp only[hk,Option.bind_some]at hq;cases x with
     |nor=>exact absurd rfl hx
     |ext i=>simp only[hk,Option.bind_some];exact fR hn hq
     |ret=>simp only[hk,Option.bind_some];exact fR hn hq
    cases hq;intro a ha;obtain⟨n,x,s1,he,hx⟩:=h7 a ha;rcases hx with ⟨rfl,m',hm,hc'⟩|⟨hx,hend⟩
    obtain rfl:m'=m:=by omega
    obtain⟨n',hn'⟩:=ih s1 hc';refine⟨max n n',?_⟩;rw[cH (Nat.le_max_left n n') he];exact hZ (λst x q=>cH (Nat.le_max_right n n') q) (λo x q=>fR (Nat.le_max_right n n') q) (Nat.le_max_right n n') hn';obtain⟨n',hn'⟩:=hend.fin;refine⟨max n n',?_⟩;rw[cH (Nat.le_max_left n n') he];cases hk:killI s1.hp k e with
    |none=>simp[hk]at hn'
    |some h'=>
     simp only[hk,Option.bind_some]at hn';cases x with
     |nor=>exact absurd rfl hx
     |ext i=>simp only[hk,Option.bind_some];exact fR (Nat.le_max_right n n') hn'
     |ret=>simp only[hk,Option.bind_some];exact fR (Nat.le_max_right n n') hn'
   obtain⟨n,hn⟩:=hall;refine⟨n+1,?_⟩;rw[dS]at h1 h2;rw[mrN,if_pos ⟨h1,h2⟩];simp only[h3,h4];rw[if_neg (by simpa using hne)];refine u2 hne λa ha=>?_;have hq:=hn a ha;split at hq;rename_i s1 he;rw[cH (Nat.le_succ n) he];exact hZ (λst x q=>cH (Nat.le_succ n) q) (λo x q=>fR (Nat.le_succ n) q) (Nat.le_refl n) hq;rename_i x s1 hx he;rw[cH (Nat.le_succ n) he];cases hk:killI s1.hp k e with
   |none=>simp[hk]at hq
   |some h'=>
    simp only[hk,Option.bind_some]at hq;cases x with
    |nor=>exact absurd rfl hx
    |ext i=>simp only[hk,Option.bind_some];exact fR (Nat.le_succ n) hq
    |ret=>simp only[hk,Option.bind_some];exact fR (Nat.le_succ n) hq
   cases hq
 obtain⟨n0,x,s,he,rfl,m,hc⟩:=h0;obtain⟨n,hn⟩:=key m s hc;refine⟨max n0 n,R.1,R.2,?_,hQ⟩;simp only[aX];rw[cH (Nat.le_max_left n0 n) he];exact hZ (λst x q=>cH (Nat.le_max_right n0 n) q) (λo x q=>fR (Nat.le_max_right n0 n) q) (Nat.le_max_right n0 n) hn
theorem SR{p:C}{id it nx more out:Nat}{b:C}{clr:List Bool}{rest:C}{msk:List Bool}{drop:List Nat}{st:St}{Q:Ex->St->Prop}{t:Tok Q}(R:Ex×St)(C:Nat->List AV->Hp->Prop)
  (h0:XX pg kb p st (λx s=>x = .nor/\∃m,C m (clear clr s.env) s.hp) ⟨⟩)
  (step:∀m env hp,C m env hp->nx<env.length/\more<env.length/\∃k e l o,cO env it = .pt k e 0/\oP hp k e=some (l,o)/\l.length=m /\
   (l=[]->nJ pg kb id rest msk drop R k e (.ext out) ⟨(env.set nx (.tup [.bool false])).set more (.bool false),hp⟩) /\
   ∀a∈l,XX pg kb b ⟨(env.set nx (.tup [.bool true,.top,.top])).set more (.bool true),hp.put k e (o a)⟩
    (λx s=>(x = .nor/\∃m',m'+1=m/\C m' (clear clr s.env) s.hp)\/(x ≠ .nor/\nJ pg kb id rest msk drop R k e x s)) ⟨⟩)
  (hQ:Q R.1 R.2):XX pg kb (.mq p id it nx more out b clr rest msk drop) st Q t:=aAW R C h0 step hQ
theorem nJ.nor{id:Nat}{rest:C}{msk:List Bool}{drop:List Nat}{R:Ex×St}{k e:Nat}{st:St}{h':Hp}(h1:killI st.hp k e=some h')(h2:XX pg kb rest ⟨st.env,h'⟩ (λy s=>mX kb msk drop (y,s)=R) ⟨⟩) :
  nJ pg kb id rest msk drop R k e (.ext id) st:=by
 refine⟨h',h1,?_⟩;have:gG id (.ext id) = .nor:=by simp[gG]
 rw[this];exact h2
theorem nJ.ret{id:Nat}{rest:C}{msk:List Bool}{drop:List Nat}{R:Ex×St}{k e:Nat}{st:St}{h':Hp}(h1:killI st.hp k e=some h')(h2:mX kb msk drop (.ret,⟨st.env,h'⟩)=R) :
  nJ pg kb id rest msk drop R k e .ret st:=⟨h',h1,h2⟩
theorem AJ{f s:Nat}{h:Hp}{vs:List AV}{Q:AV->Eff->Prop}{t:Tok Q}{r:AV}{h0:Hp}(ht:treeL vs=true)(hr:x5 pg f vs ((kb+s+1)*65536) [] r h0)(hn:iZ h0=true)(hd:∀x∈h0,h.get x.k=none)
  (hq:Q r (.pat (h0.map (·.k)) h0)):XO pg kb (.calle f) s h vs Q t:=by
 obtain⟨n,e⟩:=hr;refine⟨n,r,_,?_,hq⟩
 have hall:(h0.all λx=>(h.get x.k).isNone)=true:=by rw[bT];intro x hx;rw[hd x hx];rfl
 simp only[opR,gC,if_pos ht,iH,e,hn,hall,Bool.and_self,if_true]
theorem tK{bs seen:List Nat}(hn:bs.Nodup){a:Nat}(ha:a∈fV bs seen):(fV bs (seen++[a])).length+1=(fV bs seen).length:=by
 have h1:fV bs (seen++[a])=(fV bs seen).erase a:=by have hn2:(fV bs seen).Nodup:=hn.sublist List.filter_sublist;rw[List.Nodup.erase_eq_filter hn2,fV,fV,List.filter_filter];congr 1;funext x;simp only[List.contains_eq_mem,fK,List.mem_singleton];by_cases h1:x=a<;>by_cases h2:x∈seen<;>simp[h1,h2]
 rw[h1,List.length_erase_of_mem ha];have:=List.length_pos_of_mem ha;omega
theorem y9{bs seen:List Nat}(h:fV bs seen=[]){a:Nat}(ha:a∈bs):a∈seen:=by have:=List.filter_eq_nil_iff.1 h a ha;simpa using this
theorem jQ{k e e':Nat}{o o':Ob}:∀h:Hp,(h.put k e o).put k e' o'=h.put k e' o'
 |[]=>by simp[Hp.put]
 |x::r=>by simp only[Hp.put];split;simp[Hp.put];split;simp[Hp.put];rename_i h1 h2;simp only[Hp.put,if_neg h1,if_neg h2,jQ r]
theorem WK(s:Nat)(h:Hp)(vs:List AV)(Q:AV->Eff->Prop)(t:Tok Q):XO pg kb .rng s h vs Q t=XV (HH h (kb+s) vs) Q ⟨⟩:=bM rfl s h vs Q
theorem W5(s:Nat)(h:Hp)(vs:List AV)(Q:AV->Eff->Prop)(t:Tok Q):XO pg kb .ent s h vs Q t=XV (C3 h vs) Q ⟨⟩:=bM rfl s h vs Q
end
theorem zK{h:Hp}{k e mk me since last s:Nat}{seen bs:List Nat}{es:List (AV×AV)}{a v:AV}(hk:h.get k=some (e,.itr mk me since (seen++[s]) last))(hm:h.get mk=some (me,.mpo es bs last))(hf:fQ es bs s=some (a,v)) :
  C3 h [.pt k e 0]=some (.tup [a,v],.pat [k,mk] []):=by
 simp[C3,hk,hm,hf]
theorem yS{h:Hp}{k e mk me ck n:Nat}{seen:List Nat}{es:List (AV×AV)}(hk:h.get k=some (e,.itr mk me n seen ck))(hm:h.get mk=some (me,.mpo es (List.range n) n))(hl:n<=ck) :
  oP h k e=some (fV (List.range n) seen,λb => .itr mk me n (seen++[b]) n):=by
 have hall:((List.range n).all λb=>decide (b<n))=true:=by rw[bT];intro x hx;simpa using hx
 simp[oP,hk,hm,hl]
theorem m0{h:Hp}{k e mk me n last:Nat}{seen:List Nat}(hk:h.get k=some (e,.itr mk me n seen last)):killI h k e=some (h.put k e .dead):=by simp[killI,hk]
attribute [go_sem] WK W5 HH
end
section
def jn(x:aD):List UInt8:=Lib.join x.bs [42]
def kv(l:List aD):List (AV×AV):=l.map λx=>(.str (jn x),.int .i64 x.c)
theorem C5(a b:List UInt8):eq1 (.str a) (.str b)=some (decide (a=b)):=rfl
theorem v6(s:List UInt8):∀l:List aD,cV (kv l) (.str s)=some ((l.find? λx=>decide (s=jn x)).map λx=>AV.int .i64 x.c)
 |[]=>rfl
 |x::r=>by have ih:=v6 s r;simp only[kv]at ih;simp only[kv,List.map_cons,cV,C5,List.find?_cons];cases decide (s=jn x);exact ih;rfl
theorem FS(s:List UInt8)(v:AV):∀l:List aD,s ∉ l.map jn->eE (kv l) (.str s) v=kv l++[(.str s,v)]
 |[],_=>rfl
 |x::r,h=>by
  have ih:=FS s v r (λq=>h (by simp[q]));have hne:decide (s=jn x)=false:=by rw[gO];intro q;exact h (by simp[q])
  simp only[kv]at ih;simp only[kv,List.map_cons,eE,C5,hne,ih,List.cons_append]
theorem EX{s:List UInt8}{l:List aD}(h:s ∉ l.map jn):(l.find? λx=>decide (s=jn x))=none:=by rw[List.find?_eq_none];intro x hx;simp only[bH];rintro rfl;exact h (List.mem_map_of_mem hx)
theorem AQ(l:List Str):j6 (l.map Str.av)=some (l.map Str.bs):=by
 have:l.map Str.av=(l.map Str.bs).map AV.str:=by rw[List.map_map];rfl
 rw[this,AR]
def inK(kb:Nat)(x:Ent):Bool:=x.k==kb+1||x.k==kb+5
section
variable{pg:Pg}
theorem c522(hf:pg.fs 522=none)(he:pg.ex 522=some jC)(x:aD)(hj:(jn x).length<=140737488355328):Ret pg 522 [.sl x.vs.nl (x.vs.es.map Str.av) x.vs.cl,.str [42]] (.str (jn x)):=by
 have hb:=x.vs.ok;simp only[big]at hb;refine⟨1,?_⟩;have h1:jC [.sl x.vs.nl (x.vs.es.map Str.av) x.vs.cl,.str [42]] 0 []=some (.str (jn x),[]):=by simp only[jC,AQ];rw[if_pos ⟨by simpa using hb,hj⟩];rfl
 simp only[bA,aO,hf,he,h1];rfl
set_option maxRecDepth 100000 in
theorem c693(hf:pg.fs 693=some uP)(h522:pg.fs 522=none)(he:pg.ex 522=some jC)(P:Sl aD)(hj:∀x∈P.es,(jn x).length<=140737488355328)(hnd:(P.es.map jn).Nodup)(kb:Nat) :
  rZ pg 693 [P.av aD.av] kb [] (λv h'=>v = .mp (kb+1) 0/\oC h'=true/\h'.all (inK kb)=true/\h'.get (kb+1)=some (0,.mpo (kv P.es) (List.range P.es.length) P.es.length)):=by
 have hb:=P.ok;refine rZ.ofX hf ?_;unfold uP;simp only[Sl.av,aE,go_sem,seval];refine bD P.es (λd r env hp=>env=xI (.mp (kb+1) 0) (.sl P.nl (P.es.map aD.av) P.cl) (.int .i64 P.es.length) (.int .i64 d.length)/\oC hp=true/\hp.all (inK kb)=true/\hp.get (kb+1)=some (0,.mpo (kv d) (List.range d.length) d.length)) ?_ ?_ ?_;refine⟨rfl,rfl,?_,?_⟩;simp[Hp.put,inK];simp[Hp.put,Hp.get,kv];rintro env hp ⟨rfl,h1,h2,h3⟩;simp only[xH,xI,Int.lt_irrefl,aE,go_sem,seval];exact⟨h1,h2,h3⟩;rintro d x r env hp hes ⟨rfl,h1,h2,h3⟩;have hget:P.es[d.length]?=some x:=by rw[hes];simp
 have e1:decide ((d.length:Int)<(P.es.length:Int))=true:=by rw[hes];simp;omega
 have hsb:(d++x::r).length<=big:=by rw[<-hes];exact hb
 have hp0:(0:Int)<=(d.length:Int):=by omega
 have hnx:jn x ∉ d.map jn:=by rw[hes,List.map_append,List.map_cons,List.nodup_append]at hnd;intro q;exact hnd.2.2 _ q _ (by simp) rfl
 have a522:=c522 h522 he x (hj x (by rw[hes];simp));simp only[xH,xI,aE,e1,hget,hp0,Int.toNat_natCast,Option.map_some,aD.av,Sl.av,go_sem,seval];generalize hH:Hp.put (Hp.put hp (kb+5) (hp.next (kb+5)) _) (kb+5) (hp.next (kb+5)) _=H;have g5:H.get (kb+5)=some (hp.next (kb+5),.blk [.int .i64 x.c,.sl x.vs.nl (x.vs.es.map Str.av) x.vs.cl] 2 true true false):=by rw[<-hH,aG,if_pos rfl]
 have g1:H.get (kb+1)=some (0,.mpo (kv d) (List.range d.length) d.length):=by rw[<-hH,aG,if_neg (by omega),aG,if_neg (by omega)];exact h3
 have gA:oC H=true:=by rw[<-hH];exact nE (nE h1)
 have gI:H.all (inK kb)=true:=by rw[<-hH];exact nH (nH h2 (by simp[inK])) (by simp[inK])
 clear hH h1 h2 h3;generalize hp.next (kb+5)=e at *;refine aP a522 ?_;have hfk:cV (kv d) (.str (jn x))=some none:=by rw[v6,EX hnx];rfl
 have hsk:=FS (jn x) (.int .i64 x.c) d hnx;simp only[g5,g1,hfk,hsk,bI hsb,go_sem,seval];refine dJ ?_;refine⟨rfl,nE gA,nH gI (by simp[inK]),?_⟩;simp[kv,JA,IK,List.range_succ]
end
end
end Go.Tev
