import Derived.Test.YtmcadllokkmeiaaGreatDoorBAU
import Derived.Test.YtmcadllokkmeiaaGreatDoorBAR
import Derived.Test.YtmcadllokkmeiaaGreatDoorBAS
set_option linter.all false
namespace Go.Tev
section
def iEq(x y:Int):Bool:=decide (x=y)
section
variable{pg:Pg}
theorem aRt(hf:pg.fs 15=some XH)(nl cl nl' cl':Bool)(a b:List Int)(hb:a.length<=big):Ret pg 15 [.sl nl (a.map aH) cl,.sl nl' (b.map aH) cl'] (.bool (eqL iEq a b)):=by
 refine Ret.ofX hf ?_;unfold XH;cases b2:decide ((a.length:Int)=(b.length:Int))
 case false=>simp only[b2,go_sem,seval];rw[B5 b2]
 case true=>
 have hl:a.length=b.length:=by have:=aO b2;omega
 simp only[b2,go_sem,seval];refine aJ a (λd r env hp=>env=NO (.sl nl (a.map aH) cl) (.sl nl' (b.map aH) cl') (.int .i64 d.length)/\eqL iEq a b=eqL iEq r (b.drop d.length)) ?_ ?_ ?_;exact⟨rfl,rfl⟩;rintro env hp ⟨rfl,hI⟩;simp only[NN,NO,bG,go_sem,seval];rw[hI,pY hl];rintro d x r env hp hes ⟨rfl,hI⟩;obtain⟨hget,e1,e2,ew⟩:=dJ hes hb;obtain⟨y,gy,f1,f2,hq⟩:=I3 (q:=iEq) hes hl;rw[hq]at hI;rw[hI];clear hI;cases hxy:decide (x=y);simp only[NN,NO,e1,e2,hget,gy,f1,f2,hxy,go_sem,seval];exact⟨by kernel_rfl,by simp[iEq,hxy]⟩;simp only[NN,NO,e1,e2,hget,gy,f1,f2,hxy,ew,go_sem,seval];exact⟨by kernel_rfl,rfl,by simp[iEq,hxy]⟩
theorem c161(hf:pg.fs 161=some KB)(h15:pg.fs 15=some XH)(nl cl nl' cl':Bool)(a b:List aP)(hb:a.length<=big):Ret pg 161 [.sl nl (a.map aP.av) cl,.sl nl' (b.map aP.av) cl'] (.bool (eqL hZ a b)):=by
 refine Ret.ofX hf ?_;unfold KB;cases b2:decide ((a.length:Int)=(b.length:Int))
 case false=>simp only[b2,go_sem,seval];rw[B5 b2]
 case true=>
 have hl:a.length=b.length:=by have:=aO b2;omega
 simp only[b2,go_sem,seval];refine aJ a (λd r env hp=>env=A1 (.sl nl (a.map aP.av) cl) (.sl nl' (b.map aP.av) cl') (.int .i64 d.length)/\eqL hZ a b=eqL hZ r (b.drop d.length)) ?_ ?_ ?_;exact⟨rfl,rfl⟩;rintro env hp ⟨rfl,hI⟩;simp only[A0,A1,bG,go_sem,seval];rw[hI,pY hl]
 ·rintro d x r env hp hes ⟨rfl,hI⟩;obtain⟨hget,e1,e2,ew⟩:=dJ hes hb;obtain⟨y,gy,f1,f2,hq⟩:=I3 (q:=hZ) hes hl;rw[hq]at hI;rw[hI];clear hI;have hse:hZ x y=(decide (x.op.bs=y.op.bs)&&decide (x.num=y.num)&&eqL iEq x.args.es y.args.es):=rfl;cases c1:decide (x.op.bs=y.op.bs)
  case false=>simp only[A0,A1,e1,e2,hget,gy,f1,f2,c1,go_sem,seval];exact⟨by kernel_rfl,by simp[hse,c1]⟩
  case true=>
  cases c2:decide (x.num=y.num)
  case false=>simp only[A0,A1,e1,e2,hget,gy,f1,f2,c1,c2,go_sem,seval];exact⟨by kernel_rfl,by simp[hse,c2]⟩
  case true=>
  have a1:=aRt h15 x.args.nl x.args.cl y.args.nl y.args.cl x.args.es y.args.es x.args.ok;simp only[A0,A1,e1,e2,hget,gy,f1,f2,c1,c2,go_sem,seval];refine aB a1 ?_;cases c3:eqL iEq x.args.es y.args.es;refine Wk ?_;exact⟨by kernel_rfl,by simp[hse,c3]⟩;simp only[ew,go_sem,seval];exact⟨by kernel_rfl,rfl,by simp[hse,c1,c2,c3]⟩
def gZ:Str:=⟨[],by simp[big]⟩
set_option maxHeartbeats 1000000 in
theorem c118(hf:pg.fs 118=some R8)(h161:pg.fs 161=some KB)(h15:pg.fs 15=some XH)(h121:∀a b:cZ,Ret pg 121 [a.av,b.av] (.bool (iB a b))) :
  ∀p:aC,p.ok->∀q:aC,Ret pg 118 [p.av,q.av] (.bool (fH p q)):=by
 refine aC.ind' λp ih hp q=>?_;obtain⟨hk,hks⟩:=(aC.ok_iff p).1 hp;have a1:=c161 h161 h15 p.fn.nl p.fn.cl q.fn.nl q.fn.cl p.fn.es q.fn.es p.fn.ok;have a2:=h121 ⟨gZ,p.at_⟩ ⟨gZ,q.at_⟩;have hs2:iB ⟨gZ,p.at_⟩ ⟨gZ,q.at_⟩=eqL cN p.at_.es q.at_.es:=by simp[iB,gZ]
 rw[hs2,cZ.avc,cZ.avc]at a2;clear h121 h161 h15 hs2;refine Ret.ofX hf ?_;rw[sP,nX];unfold R8;cases b1:decide (p.op.bs=q.op.bs)
 case false=>simp only[b1,go_sem,seval]
 case true=>
 cases b2:decide (p.num=q.num)
 case false=>simp only[b1,b2,go_sem,seval]
 case true=>
 cases b3:decide (p.value=q.value)
 case false=>simp only[b1,b2,b3,go_sem,seval]
 case true=>
 cases b4:decide (p.name.bs=q.name.bs)
 case false=>simp only[b1,b2,b3,b4,go_sem,seval]
 case true=>
 cases b5:(p.dyn==q.dyn)
 case false=>simp only[b1,b2,b3,b4,b5,go_sem,seval]
 case true=>
 cases b6:decide (p.check=q.check)
 case false=>simp only[b1,b2,b3,b4,b5,b6,go_sem,seval]
 case true=>
 cases b7:decide ((p.aSj.length:Int)=(q.aSj.length:Int))
 case false=>rw[B5 b7];simp only[b1,b2,b3,b4,b5,b6,b7,go_sem,seval]
 case true=>
 simp only[b1,b2,b3,b4,b5,b6,b7,go_sem,seval];refine aB a1 ?_;cases b8:eqL hZ p.fn.es q.fn.es
 case false=>simp only[go_sem,seval]
 case true=>
 refine Wk ?_;refine aB a2 ?_;cases b9:eqL cN p.at_.es q.at_.es
 case false=>simp only[go_sem,seval]
 case true=>
 have hl:p.aSj.length=q.aSj.length:=by have:=aO b7;omega
 refine Wk ?_
 refine aJ p.aSj (λd r env hp=>hp.get 1=some (0,.blk [.str p.op.bs,.int .i64 p.num,.int .i64 p.value,.str p.name.bs,.sl p.at_.nl (p.at_.es.map Lin.av) p.at_.cl,.bool p.dyn,.int .i64 p.check,.sl p.fn.nl (p.fn.es.map aP.av) p.fn.cl,.sl p.knl (p.aSj.map aC.av) p.kcl] 9 true true false) /\
   hp.get 5=some (0,.blk [.str q.op.bs,.int .i64 q.num,.int .i64 q.value,.str q.name.bs,.sl q.at_.nl (q.at_.es.map Lin.av) q.at_.cl,.bool q.dyn,.int .i64 q.check,.sl q.fn.nl (q.fn.es.map aP.av) q.fn.cl,.sl q.knl (q.aSj.map aC.av) q.kcl] 9 true true false) /\
   env=N3 (.pt 1 0 0) (.pt 5 0 0) (.int .i64 d.length)/\eqL fH p.aSj q.aSj=eqL fH r (q.aSj.drop d.length)) ?_ ?_ ?_
 exact⟨rfl,rfl,rfl,rfl⟩;rintro env hp ⟨g1,g5,rfl,hI⟩;simp only[N2,N3,g1,bG,go_sem,seval];rw[hI,pY hl];rintro d x r env hp hes ⟨g1,g5,rfl,hI⟩;obtain⟨hget,e1,e2,ew⟩:=dJ hes hk;obtain⟨y,gy,f1,f2,hq⟩:=I3 (q:=fH) hes hl;rw[hq]at hI;rw[hI];clear hI a1 a2;have hx:x∈p.aSj:=by rw[hes];simp
 have a3:=ih x hx (hks x hx) y;clear ih hks;simp only[N2,N3,g1,g5,hget,e1,e2,gy,f1,f2,go_sem,seval];refine aB a3 ?_;cases hxy:fH x y;refine Wk ?_;kernel_rfl;simp only[ew,go_sem,seval];exact⟨by kernel_rfl,g1,g5,rfl⟩
theorem c85(hf:pg.fs 85=some aAI)(h121:∀a b:cZ,Ret pg 121 [a.av,b.av] (.bool (iB a b)))(nl cl nl' cl':Bool)(a b:List Lin)(ha:a.length<=big)(hb:b.length<=big) :
  Ret pg 85 [.sl nl (a.map Lin.av) cl,.sl nl' (b.map Lin.av) cl'] (.bool (eqL cN a b)):=by
 have a2:=h121 ⟨gZ,⟨nl,a,cl,ha⟩⟩ ⟨gZ,⟨nl',b,cl',hb⟩⟩;have hs2:iB ⟨gZ,⟨nl,a,cl,ha⟩⟩ ⟨gZ,⟨nl',b,cl',hb⟩⟩=eqL cN a b:=by simp[iB,gZ]
 rw[hs2,cZ.avc,cZ.avc]at a2;refine Ret.ofX hf ?_;unfold aAI;refine Wk ?_;refine aB a2 ?_;simp only[go_sem,seval]
def fnP(f:Sl aP):aC:=.mk gZ 0 0 gZ (jJ Lin) false 0 f true [] true
theorem aJF(f:Sl aP):(fnP f).ok:=by simp[fnP,aC.ok,aC.oks]
theorem aJG(f g:Sl aP):fH (fnP f) (fnP g)=eqL hZ f.es g.es:=by rw[sP,nX];simp[fnP,aC.op,aC.num,aC.value,aC.name,aC.at_,aC.dyn,aC.check,aC.fn,aC.aSj,jJ,eqL]
theorem c119(hf:pg.fs 119=some KG)(h118:∀p:aC,p.ok->∀q:aC,Ret pg 118 [p.av,q.av] (.bool (fH p q)))(a b:Sl aP) :
  Ret pg 119 [.sl a.nl (a.es.map aP.av) a.cl,.sl b.nl (b.es.map aP.av) b.cl] (.bool (eqL hZ a.es b.es)):=by
 have a2:=h118 (fnP a) (aJF a) (fnP b);rw[aJG,aC.avc,aC.avc]at a2;refine Ret.ofX hf ?_;unfold KG;refine Wk ?_;refine aB a2 ?_;simp only[go_sem,seval]
theorem c88(hf:pg.fs 88=some aDp)(h121:∀a b:cZ,Ret pg 121 [a.av,b.av] (.bool (iB a b)))(a b:Typ):Ret pg 88 [a.av,b.av] (.bool (jH a b)):=by
 have a2:=h121 a.aSh b.aSh;rw[cZ.avc,cZ.avc]at a2;refine Ret.ofX hf ?_;unfold aDp;cases b1:decide (a.aSl.bs=b.aSl.bs)
 case false=>simp only[b1,go_sem,seval];simp[jH,b1]
 case true=>
 simp only[b1,go_sem,seval];refine aB a2 (Wk ?_);simp[jH,b1]
theorem c81(hf:pg.fs 81=some aDv)(h85:pg.fs 85=some aAI)(h121:∀a b:cZ,Ret pg 121 [a.av,b.av] (.bool (iB a b)))(h118:∀p:aC,p.ok->∀q:aC,Ret pg 118 [p.av,q.av] (.bool (fH p q)))(h119:pg.fs 119=some KG)
  (x y:aG) (hx:x.body.ok) (hi:x.index.ok):Ret pg 81 [x.av,y.av] (.bool (mB x y)):=by
 have a1:=c85 h85 h121 x.space.nl x.space.cl y.space.nl y.space.cl x.space.es y.space.es x.space.ok y.space.ok;have a2:=h118 x.body hx y.body;have a3:=h118 x.index hi y.index;have a4:=c119 h119 h118 x.fn y.fn;rw[aC.avc,aC.avc]at a2 a3;clear h85 h121 h118 h119;refine Ret.ofX hf ?_;unfold aDv;cases b1:decide (x.kind=y.kind)
 case false=>simp only[b1,mB,aG.av,aG.cells,aC.cells,go_sem,seval]
 case true=>
 cases b2:decide (x.value=y.value)
 case false=>simp only[b1,b2,mB,go_sem,seval]
 case true=>
 cases b3:decide (x.source=y.source)
 case false=>simp only[b1,b2,b3,mB,go_sem,seval]
 case true=>
 cases b4:decide (x.check=y.check)
 case false=>simp only[b1,b2,b3,b4,mB,go_sem,seval]
 case true=>
 simp only[b1,b2,b3,b4,go_sem,seval];refine aB a1 ?_;cases b5:eqL cN x.space.es y.space.es
 case false=>simp only[b1,b2,b3,b4,b5,mB,go_sem,seval]
 case true=>
 refine Wk ?_;refine aB a2 ?_;cases b6:fH x.body y.body
 case false=>simp only[b1,b2,b3,b4,b5,b6,mB,go_sem,seval]
 case true=>
 refine Wk ?_;refine aB a3 ?_;cases b7:fH x.index y.index
 case false=>simp only[b1,b2,b3,b4,b5,b6,b7,mB,go_sem,seval]
 case true=>
 refine Wk ?_;refine aB a4 ?_;simp only[b1,b2,b3,b4,b5,b6,b7,mB,go_sem,seval]
theorem c82(hf:pg.fs 82=some aAJ)(x:aG):Ret pg 82 [x.av] (zU x).av:=by
 refine Ret.ofX hf ?_;unfold aAJ;cases b2:decide (x.kind=2)
 case true=>
  have h2:x.kind=2:=aO b2;have h3:decide (x.kind=3)=false:=by simp[h2]
  simp only[b2,h3,go_sem,seval];simp[zU,h2];rfl
 case false=>
 cases b3:decide (x.kind=3)
 case true=>have h3:x.kind=3:=aO b3;simp only[b2,b3,go_sem,seval];refine aY ?_;simp[zU,h3];rfl
 case false=>have h2:=bW b2;have h3:=bW b3;simp only[b2,b3,go_sem,seval];simp[zU,h2,h3];rfl
end
end
section
theorem dH{op:List UInt8}{p:xU}{r:AV}(h:kK op=some p)(hr:∃nl cl,r = .tup [.sl nl (p.params.map .str) cl,.str p.result,.bool true]):kV op r:=by simp only[kV,h];exact hr
theorem TM{op:List UInt8}{r:AV}(h:kK op=none)(hr:r = .tup [.sl true [] true,.str [],.bool false]):kV op r:=by simp only[kV,h];exact hr
section
variable{pg:Pg}
theorem c125(hf:pg.fs 125=some R4)(op:List UInt8):bQ pg 125 [.str op] (kV op):=by
 refine bQ.ofX hf ?_;unfold R4;cases b0:decide (op=[97,100,100])
 case true=>have hop:op=[97,100,100]:=aO b0;simp only[b0,go_sem,seval];subst hop;exact dH rfl ⟨_,_,rfl⟩
 case false=>
 cases b1:decide (op=[115,117,98])
 case true=>have hop:op=[115,117,98]:=aO b1;simp only[b0,b1,go_sem,seval];subst hop;exact dH rfl ⟨_,_,rfl⟩
 case false=>
 cases b2:decide (op=[109,117,108])
 case true=>have hop:op=[109,117,108]:=aO b2;simp only[b0,b1,b2,go_sem,seval];subst hop;exact dH rfl ⟨_,_,rfl⟩
 case false=>
 cases b3:decide (op=[100,105,118])
 case true=>have hop:op=[100,105,118]:=aO b3;simp only[b0,b1,b2,b3,go_sem,seval];subst hop;exact dH rfl ⟨_,_,rfl⟩
 case false=>
 cases b4:decide (op=[109,111,100])
 case true=>have hop:op=[109,111,100]:=aO b4;simp only[b0,b1,b2,b3,b4,go_sem,seval];subst hop;exact dH rfl ⟨_,_,rfl⟩
 case false=>
 cases b5:decide (op=[109,105,110])
 case true=>have hop:op=[109,105,110]:=aO b5;simp only[b0,b1,b2,b3,b4,b5,go_sem,seval];subst hop;exact dH rfl ⟨_,_,rfl⟩
 case false=>
 cases b6:decide (op=[109,97,120])
 case true=>have hop:op=[109,97,120]:=aO b6;simp only[b0,b1,b2,b3,b4,b5,b6,go_sem,seval];subst hop;exact dH rfl ⟨_,_,rfl⟩
 case false=>
 cases b7:decide (op=[110,101,103])
 case true=>have hop:op=[110,101,103]:=aO b7;simp only[b0,b1,b2,b3,b4,b5,b6,b7,go_sem,seval];subst hop;exact dH rfl ⟨_,_,rfl⟩
 case false=>
 cases b8:decide (op=[97,98,115])
 case true=>have hop:op=[97,98,115]:=aO b8;simp only[b0,b1,b2,b3,b4,b5,b6,b7,b8,go_sem,seval];subst hop;exact dH rfl ⟨_,_,rfl⟩
 case false=>
 cases b9:decide (op=[115,105,103,110])
 case true=>have hop:op=[115,105,103,110]:=aO b9;simp only[b0,b1,b2,b3,b4,b5,b6,b7,b8,b9,go_sem,seval];subst hop;exact dH rfl ⟨_,_,rfl⟩
 case false=>
 cases b10:decide (op=[108,116])
 case true=>have hop:op=[108,116]:=aO b10;simp only[b0,b1,b2,b3,b4,b5,b6,b7,b8,b9,b10,go_sem,seval];subst hop;exact dH rfl ⟨_,_,rfl⟩
 case false=>
 cases b11:decide (op=[108,101])
 case true=>have hop:op=[108,101]:=aO b11;simp only[b0,b1,b2,b3,b4,b5,b6,b7,b8,b9,b10,b11,go_sem,seval];subst hop;exact dH rfl ⟨_,_,rfl⟩
 case false=>
 cases b12:decide (op=[103,116])
 case true=>have hop:op=[103,116]:=aO b12;simp only[b0,b1,b2,b3,b4,b5,b6,b7,b8,b9,b10,b11,b12,go_sem,seval];subst hop;exact dH rfl ⟨_,_,rfl⟩
 case false=>
 cases b13:decide (op=[103,101])
 case true=>have hop:op=[103,101]:=aO b13;simp only[b0,b1,b2,b3,b4,b5,b6,b7,b8,b9,b10,b11,b12,b13,go_sem,seval];subst hop;exact dH rfl ⟨_,_,rfl⟩
 case false=>
 cases b14:decide (op=[101,113])
 case true=>have hop:op=[101,113]:=aO b14;simp only[b0,b1,b2,b3,b4,b5,b6,b7,b8,b9,b10,b11,b12,b13,b14,go_sem,seval];subst hop;exact dH rfl ⟨_,_,rfl⟩
 case false=>
 cases b15:decide (op=[110,101])
 case true=>have hop:op=[110,101]:=aO b15;simp only[b0,b1,b2,b3,b4,b5,b6,b7,b8,b9,b10,b11,b12,b13,b14,b15,go_sem,seval];subst hop;exact dH rfl ⟨_,_,rfl⟩
 case false=>
 cases b16:decide (op=[97,110,100])
 case true=>have hop:op=[97,110,100]:=aO b16;simp only[b0,b1,b2,b3,b4,b5,b6,b7,b8,b9,b10,b11,b12,b13,b14,b15,b16,go_sem,seval];subst hop;exact dH rfl ⟨_,_,rfl⟩
 case false=>
 cases b17:decide (op=[111,114])
 case true=>have hop:op=[111,114]:=aO b17;simp only[b0,b1,b2,b3,b4,b5,b6,b7,b8,b9,b10,b11,b12,b13,b14,b15,b16,b17,go_sem,seval];subst hop;exact dH rfl ⟨_,_,rfl⟩
 case false=>
 cases b18:decide (op=[120,111,114])
 case true=>have hop:op=[120,111,114]:=aO b18;simp only[b0,b1,b2,b3,b4,b5,b6,b7,b8,b9,b10,b11,b12,b13,b14,b15,b16,b17,b18,go_sem,seval];subst hop;exact dH rfl ⟨_,_,rfl⟩
 case false=>
 cases b19:decide (op=[110,111,116])
 case true=>have hop:op=[110,111,116]:=aO b19;simp only[b0,b1,b2,b3,b4,b5,b6,b7,b8,b9,b10,b11,b12,b13,b14,b15,b16,b17,b18,b19,go_sem,seval];subst hop;exact dH rfl ⟨_,_,rfl⟩
 case false=>
 cases b20:decide (op=[115,101,108,101,99,116])
 case true=>have hop:op=[115,101,108,101,99,116]:=aO b20;simp only[b0,b1,b2,b3,b4,b5,b6,b7,b8,b9,b10,b11,b12,b13,b14,b15,b16,b17,b18,b19,b20,go_sem,seval];subst hop;exact dH rfl ⟨_,_,rfl⟩
 case false=>
 cases b21:decide (op=[116,111,105,110,116])
 case true=>have hop:op=[116,111,105,110,116]:=aO b21;simp only[b0,b1,b2,b3,b4,b5,b6,b7,b8,b9,b10,b11,b12,b13,b14,b15,b16,b17,b18,b19,b20,b21,go_sem,seval];subst hop;exact dH rfl ⟨_,_,rfl⟩
 case false=>
 simp only[b0,b1,b2,b3,b4,b5,b6,b7,b8,b9,b10,b11,b12,b13,b14,b15,b16,b17,b18,b19,b20,b21,go_sem,seval];refine TM ?_ rfl;have n0:decide ([97,100,100]=op)=false:=by rw[<-b0,eH];exact eq_comm
 have n1:decide ([115,117,98]=op)=false:=by rw[<-b1,eH];exact eq_comm
 have n2:decide ([109,117,108]=op)=false:=by rw[<-b2,eH];exact eq_comm
 have n3:decide ([100,105,118]=op)=false:=by rw[<-b3,eH];exact eq_comm
 have n4:decide ([109,111,100]=op)=false:=by rw[<-b4,eH];exact eq_comm
 have n5:decide ([109,105,110]=op)=false:=by rw[<-b5,eH];exact eq_comm
 have n6:decide ([109,97,120]=op)=false:=by rw[<-b6,eH];exact eq_comm
 have n7:decide ([110,101,103]=op)=false:=by rw[<-b7,eH];exact eq_comm
 have n8:decide ([97,98,115]=op)=false:=by rw[<-b8,eH];exact eq_comm
 have n9:decide ([115,105,103,110]=op)=false:=by rw[<-b9,eH];exact eq_comm
 have n10:decide ([108,116]=op)=false:=by rw[<-b10,eH];exact eq_comm
 have n11:decide ([108,101]=op)=false:=by rw[<-b11,eH];exact eq_comm
 have n12:decide ([103,116]=op)=false:=by rw[<-b12,eH];exact eq_comm
 have n13:decide ([103,101]=op)=false:=by rw[<-b13,eH];exact eq_comm
 have n14:decide ([101,113]=op)=false:=by rw[<-b14,eH];exact eq_comm
 have n15:decide ([110,101]=op)=false:=by rw[<-b15,eH];exact eq_comm
 have n16:decide ([97,110,100]=op)=false:=by rw[<-b16,eH];exact eq_comm
 have n17:decide ([111,114]=op)=false:=by rw[<-b17,eH];exact eq_comm
 have n18:decide ([120,111,114]=op)=false:=by rw[<-b18,eH];exact eq_comm
 have n19:decide ([110,111,116]=op)=false:=by rw[<-b19,eH];exact eq_comm
 have n20:decide ([115,101,108,101,99,116]=op)=false:=by rw[<-b20,eH];exact eq_comm
 have n21:decide ([116,111,105,110,116]=op)=false:=by rw[<-b21,eH];exact eq_comm
 simp only[kK,lP,List.find?_cons,List.find?_nil,n0,n1,n2,n3,n4,n5,n6,n7,n8,n9,n10,n11,n12,n13,n14,n15,n16,n17,n18,n19,n20,n21]
theorem OV(n:Int)(s:aP)(r:List aP):gU n (s::r)=(kE s n&&gU (n+1) r):=rfl
set_option maxHeartbeats 1000000 in
theorem SN(h124:pg.fs 124=some x5)(h125:∀op,bQ pg 125 [.str op] (kV op))(nl cl:Bool)(fn:List aP)(hb:fn.length<=big)(n:Int)(g1:0<=n)(g2:n<=20)(g3:(fn.length:Int)<=60)
  (d:List aP) (x:aP) (r:List aP) (hp:Hp) (hes:fn=d++x::r) (hI:gU n fn=gU (n+d.length) (x::r)) :
  XX pg 0 sD ⟨pE (.sl nl (fn.map aP.av) cl) (.int .i64 n) (.int .i64 d.length),hp⟩
   (oT (λst'=>clear aDq st'.env=pE (.sl nl (fn.map aP.av) cl) (.int .i64 n) (.int .i64 (d++[x]).length)/\gU n fn=gU (n+(d++[x]).length) r)
    (qU 0 (oT (λst'=>XX pg 0 (.seq (.reg [⟨some 4,.mov,[.c (.bool true)],none,0,0⟩] false) .ret) st' (QS [.inl 4] (.bool (gU n fn))) ⟨⟩) (QS [.inl 4] (.bool (gU n fn)))))) ⟨⟩:=by
 obtain⟨hget,e1,e2,ew⟩:=dJ hes hb;rw[OV]at hI;have en:n+((d++[x]).length:Int)=n+d.length+1:=by simp;omega
 have hdl:d.length<fn.length:=by rw[hes];simp
 have hw:wr .i64 (n+(d.length:Int))=n+d.length:=aU (by omega) (by omega);rw[en];rw[hI];clear hI;cases o1:decide (x.op.bs=[99,111,110,115,116])
 case true=>
  have hs:kE x (n+d.length)=(decide ((x.args.es.length:Int)=0)&&oN x.num):=by simp[kE,aO o1]
  rw[hs];cases o2:decide ((x.args.es.length:Int)=0)
  case false=>simp only[sD,pE,e1,e2,hget,o1,o2,go_sem,seval]
  case true=>simp only[sD,pE,e1,e2,hget,o1,o2,go_sem,seval];refine aB (aIu h124 x.num) ?_;cases o3:oN x.num;simp only[go_sem,seval];simp only[ew,go_sem,seval];rfl
 case false=>
 cases o2:decide (x.op.bs=[116,114,117,116,104])
 case true=>
  have hs:kE x (n+d.length)=(decide ((x.args.es.length:Int)=0)&&uG x.num):=by have h1:=aO o2;simp[kE,h1]
  rw[hs];cases o3:decide ((x.args.es.length:Int)=0)
  case false=>simp only[sD,pE,e1,e2,hget,o1,o2,o3,go_sem,seval]
  case true=>simp only[sD,pE,e1,e2,hget,o1,o2,o3,go_sem,seval];refine aB (aMn h124 x.num) ?_;cases o4:uG x.num;simp only[go_sem,seval];simp only[ew,go_sem,seval];rfl
 case false=>
 obtain⟨rr,hr,hP⟩:=h125 x.op.bs
 have hs:kE x (n+d.length)=(match kK x.op.bs with
  |none=>false
  |some p=>kH x.args.es (n+d.length)&&decide (x.num=0)&&decide ((x.args.es.length:Int)=(p.params.length:Int))):=by
  have h1:=bW o1;have h2:=bW o2;simp only[kE,h1,h2,aL];rfl
 rw[hs];clear hs;simp only[kV]at hP;cases hpt:kK x.op.bs with
 |none=>rw[hpt]at hP;dsimp only at hP;subst hP;simp only[sD,pE,e1,e2,hget,o1,o2,go_sem,seval];refine aB hr ?_;simp only[go_sem,seval]
 |some p=>
  rw[hpt]at hP;dsimp only at hP;obtain⟨nl2,cl2,rfl⟩:=hP;dsimp only;simp only[sD,pE,e1,e2,hget,o1,o2,go_sem,seval];refine aB hr ?_;cases o3:decide ((x.args.es.length:Int)=(p.params.length:Int))
  case false=>simp only[o3,go_sem,seval]
  case true=>
  cases o4:decide (x.num=0)
  case false=>simp only[o3,o4,go_sem,seval]
  case true=>
  simp only[o3,o4,go_sem,seval];have hab:=x.args.ok
  refine aJ x.args.es (λd2 r2 env hp2=>env=GX (.sl nl (fn.map aP.av) cl) (.int .i64 n) (.int .i64 d.length) (.pt 1 (hp.next 1) 0) (.int .i64 d2.length) /\
   hp2.get 1=some (hp.next 1,.blk [.str x.op.bs,.int .i64 x.num,.sl x.args.nl (x.args.es.map aH) x.args.cl] 3 true true false)/\kH x.args.es (n+d.length)=kH r2 (n+d.length)) ?_ ?_ ?_
  refine⟨rfl,?_,rfl⟩;simp only[go_sem,seval];rintro env hp2 ⟨rfl,h1,hI⟩;simp only[GW,GX,h1,bG,ew,go_sem,seval];refine⟨rfl,?_⟩;rw[hI];simp[kH]
  ·rintro d2 a r2 env hp2 he2 ⟨rfl,h1,hI⟩;obtain⟨hget2,f1,f2,fw⟩:=dJ he2 hab;have hI2:kH x.args.es (n+d.length)=((decide (0<=a)&&decide (a<n+d.length))&&kH r2 (n+d.length)):=by rw[hI];simp[kH]
   rw[hI2];clear hI hI2;cases q1:decide (a<0)
   case true=>
    have:decide (0<=a)=false:=by simp at q1 ⊢;omega
    simp only[GW,GX,h1,f1,f2,hget2,q1,this,go_sem,seval]
   case false=>
   cases q2:decide (n+(d.length:Int)<=a)
   case true=>
    have:decide (a<n+d.length)=false:=by simp at q2 ⊢;omega
    simp only[GW,GX,h1,f1,f2,hget2,q1,hw,q2,this,go_sem,seval]
   case false=>
    have h3:decide (0<=a)=true:=by simp at q1 ⊢;omega
    have h4:decide (a<n+d.length)=true:=by simp at q2 ⊢;omega
    simp only[GW,GX,h1,f1,f2,hget2,q1,hw,q2,h3,h4,fw,go_sem,seval];rfl
set_option maxHeartbeats 1000000 in
theorem c87(hf:pg.fs 87=some aDr)(h124:pg.fs 124=some x5)(h125:∀op,bQ pg 125 [.str op] (kV op))(nl cl:Bool)(fn:List aP)(hb:fn.length<=big)(n:Int) :
  Ret pg 87 [.sl nl (fn.map aP.av) cl,.int .i64 n] (.bool (eO fn n)):=by
 refine Ret.ofX hf ?_;unfold aDr;cases h1:decide (n<0)
 case true=>
  simp only[h1,go_sem,seval];have:decide (0<=n)=false:=by simp at h1 ⊢;omega
  simp[eO,this]
 case false=>
 cases h2:decide (20<n)
 case true=>
  simp only[h1,h2,go_sem,seval];have:decide (n<=20)=false:=by simp at h2 ⊢;omega
  simp[eO,this]
 case false=>
 cases h3:decide (60<(fn.length:Int))
 case true=>
  simp only[h1,h2,h3,go_sem,seval];have:decide ((fn.length:Int)<=60)=false:=by simp at h3 ⊢;omega
  simp[eO,this]
 case false=>
 have g1:=bW h1;have g2:=bW h2;have g3:=bW h3;have hspec:decide (n+(fn.length:Int)=0)=false->eO fn n=gU n fn:=by
  intro h4;have e1:decide (0<=n)=true:=by simp;omega
  have e2:decide (n<=20)=true:=by simp;omega
  have e3:decide ((fn.length:Int)<=60)=true:=by simp;omega
  simp[eO,h4,e1,e2,e3]
 cases h4:decide (n=0)
 case true=>
  cases h5:decide ((fn.length:Int)=0)
  case true=>
   simp only[h1,h2,h3,h4,h5,go_sem,seval];have:decide (n+(fn.length:Int)=0)=true:=by simp at h4 h5 ⊢;simp[h4,h5]
   simp[eO,this]
  case false=>have hs:=hspec (by simp at h4 h5 ⊢;subst h4;simpa using h5);rw[hs];clear hs hspec;simp only[h1,h2,h3,h4,h5,go_sem,seval];refine aJ fn (λd r env hp=>env=pE (.sl nl (fn.map aP.av) cl) (.int .i64 n) (.int .i64 d.length)/\gU n fn=gU (n+d.length) r) ?_ ?_ ?_;exact⟨rfl,by simp⟩;rintro env hp ⟨rfl,hI⟩;simp only[sD,pE,bG,go_sem,seval];rw[hI];rfl;rintro d x r env hp hes ⟨rfl,hI⟩;exact SN h124 h125 nl cl fn hb n (by omega) (by omega) (by omega) d x r hp hes hI
 case false=>have hs:=hspec (by simp at h4 ⊢;omega);rw[hs];clear hs hspec;simp only[h1,h2,h3,h4,go_sem,seval];refine aJ fn (λd r env hp=>env=pE (.sl nl (fn.map aP.av) cl) (.int .i64 n) (.int .i64 d.length)/\gU n fn=gU (n+d.length) r) ?_ ?_ ?_;exact⟨rfl,by simp⟩;rintro env hp ⟨rfl,hI⟩;simp only[sD,pE,bG,go_sem,seval];rw[hI];rfl;rintro d x r env hp hes ⟨rfl,hI⟩;exact SN h124 h125 nl cl fn hb n (by omega) (by omega) (by omega) d x r hp hes hI
end
end
section
def mX(p:aC)(num value:Int)(name:Str)(at_:Sl Lin)(dyn:Bool)(check:Int)(fn:Sl aP):aC:=.mk p.op num value name at_ dyn check fn p.knl p.aSj p.kcl
theorem mV(p:aC)(num value:Int)(name:Str)(at_:Sl Lin)(dyn:Bool)(check:Int)(fn:Sl aP):(mX p num value name at_ dyn check fn).op=p.op:=rfl
theorem kY(p:aC)(num value:Int)(name:Str)(at_:Sl Lin)(dyn:Bool)(check:Int)(fn:Sl aP):(mX p num value name at_ dyn check fn).num=num:=rfl
theorem iW(p:aC)(num value:Int)(name:Str)(at_:Sl Lin)(dyn:Bool)(check:Int)(fn:Sl aP):(mX p num value name at_ dyn check fn).value=value:=rfl
theorem j3(p:aC)(num value:Int)(name:Str)(at_:Sl Lin)(dyn:Bool)(check:Int)(fn:Sl aP):(mX p num value name at_ dyn check fn).name=name:=rfl
theorem lA(p:aC)(num value:Int)(name:Str)(at_:Sl Lin)(dyn:Bool)(check:Int)(fn:Sl aP):(mX p num value name at_ dyn check fn).at_=at_:=rfl
theorem kZ(p:aC)(num value:Int)(name:Str)(at_:Sl Lin)(dyn:Bool)(check:Int)(fn:Sl aP):(mX p num value name at_ dyn check fn).dyn=dyn:=rfl
theorem iX(p:aC)(num value:Int)(name:Str)(at_:Sl Lin)(dyn:Bool)(check:Int)(fn:Sl aP):(mX p num value name at_ dyn check fn).check=check:=rfl
theorem mW(p:aC)(num value:Int)(name:Str)(at_:Sl Lin)(dyn:Bool)(check:Int)(fn:Sl aP):(mX p num value name at_ dyn check fn).fn=fn:=rfl
theorem j4(p:aC)(num value:Int)(name:Str)(at_:Sl Lin)(dyn:Bool)(check:Int)(fn:Sl aP):(mX p num value name at_ dyn check fn).aSj=p.aSj:=rfl
theorem mI(p:aC)(num value:Int)(name:Str)(at_:Sl Lin)(dyn:Bool)(check:Int)(fn:Sl aP):(mX p num value name at_ dyn check fn).knl=p.knl:=rfl
theorem mJ(p:aC)(num value:Int)(name:Str)(at_:Sl Lin)(dyn:Bool)(check:Int)(fn:Sl aP):(mX p num value name at_ dyn check fn).kcl=p.kcl:=rfl
theorem qL(p:aC)(num value:Int)(name:Str)(at_:Sl Lin)(dyn:Bool)(check:Int)(fn:Sl aP) :
  fH p (mX p num value name at_ dyn check fn)=(decide (p.num=num)&&decide (p.value=value)&&decide (p.name.bs=name.bs)&&(p.dyn==dyn)&&decide (p.check=check)&&eqL cN p.at_.es at_.es&&eqL hZ p.fn.es fn.es):=by
 rw[sP,nX];simp only[mV,kY,iW,j3,lA,kZ,iX,mW,j4];rw[i6 vS];simp;rfl
theorem bq1:(true==false)=false:=rfl
theorem bq2:(false==false)=true:=rfl
theorem bq3:(true==true)=true:=rfl
def iP(p:aC):aC:=
 if p.op.bs=[99,111,110,115,116] then mX p p.num 0 gZ (jJ Lin) false 0 (jJ aP)
 else if p.op.bs=[108,105,110,101,97,114] then mX p 0 0 gZ p.at_ false 0 (jJ aP)
 else if p.op.bs=[114,101,97,100] then mX p 0 p.value gZ p.at_ p.dyn (if p.dyn then p.check else 0) (jJ aP)
 else if p.op.bs=[105,102] then mX p 0 0 gZ p.at_ false 0 (jJ aP)
 else if p.op.bs=[114,101,100,117,99,101] then mX p 0 0 p.name p.at_ false 0 p.fn
 else if p.op.bs=[99,111,100,101] then mX p 0 0 gZ (jJ Lin) false 0 p.fn
 else mX p 0 0 gZ (jJ Lin) false 0 (jJ aP)
def jI(p:aC):Bool:=
 if p.op.bs=[99,111,110,115,116] then decide ((p.aSj.length:Int)=0)&&decide ((p.at_.es.length:Int)=0)
 else if p.op.bs=[108,105,110,101,97,114] then decide ((p.aSj.length:Int)=0)&&decide ((p.at_.es.length:Int)=1)
 else if p.op.bs=[114,101,97,100] then
  (if p.dyn then decide ((p.aSj.length:Int)=1)&&decide ((p.at_.es.length:Int)<=5) else decide ((p.aSj.length:Int)=0)&&decide ((p.at_.es.length:Int)<=6))
 else if p.op.bs=[105,102] then decide ((p.aSj.length:Int)=2)&&decide ((p.at_.es.length:Int)=1)
 else if p.op.bs=[114,101,100,117,99,101] then decide ((p.aSj.length:Int)=2)&&decide ((p.at_.es.length:Int)=1)
 else if p.op.bs=[99,111,100,101] then decide ((p.aSj.length:Int)<=20)&&decide ((p.at_.es.length:Int)=0)
 else match kK p.op.bs with
  |none=>false
  |some q=>decide ((p.aSj.length:Int)=(q.params.length:Int))&&decide ((p.at_.es.length:Int)=0)
def rX(p:aC)(vars:List Str)(v:Int):Bool:=
 if p.op.bs=[99,111,110,115,116] then oN p.num
 else if p.op.bs=[114,101,97,100] then decide (0<=p.value)&&decide (p.value<v)&&decide (0<=p.check)
 else if p.op.bs=[114,101,100,117,99,101] then iQ p.name.bs && !mD vars p.name.bs&&eO p.fn.es 2
 else if p.op.bs=[99,111,100,101] then eO p.fn.es p.aSj.length
 else true
theorem TL(p:aC)(vars:List Str)(v:Int):(jI p&&fH p (iP p)&&rX p vars v)=gV p vars v:=by
 by_cases o1:p.op.bs=[99,111,110,115,116]
 simp only[jI,iP,rX,gV,o1,aN,qL,jJ,gZ,rL,fZ];cases p.dyn<;>simp only[bq1,bq2,bq3,Bool.not_true,Bool.not_false,Bool.false_or,Bool.true_or,d9,gD,cE,fF,decide_true]
 (refine Bool.eq_iff_iff.2 ?_;simp only[aF];constructor<;>(intro h;simp only[h,and_self]))
 by_cases o2:p.op.bs=[108,105,110,101,97,114]
 have n1:¬p.op.bs=[114,101,97,100]:=by rw[o2];decide
 have n2:¬p.op.bs=[114,101,100,117,99,101]:=by rw[o2];decide
 have n3:¬p.op.bs=[99,111,100,101]:=by rw[o2];decide
 simp only[jI,iP,rX,gV,o1,n1,n2,n3,aL];simp only[o2,aN,qL,jJ,gZ,rL,fZ,i6 oD];cases p.dyn<;>simp only[bq1,bq2,bq3,Bool.not_true,Bool.not_false,Bool.false_or,Bool.true_or,d9,gD,cE,fF]
 (refine Bool.eq_iff_iff.2 ?_;simp only[aF];constructor<;>(intro h;simp only[h,and_self]))
 by_cases o3:p.op.bs=[114,101,97,100]
 simp only[jI,iP,rX,gV,o1,o2,aL];simp only[o3,aN,qL,jJ,gZ,rL,fZ,i6 oD,yR];cases p.dyn<;>simp only[bq1,bq2,bq3,Bool.not_true,Bool.not_false,Bool.false_or,Bool.true_or,d9,gD,cE,fF,bR,aN,aL,decide_true];cases h:decide (p.check=0);simp;have:decide (0<=p.check)=true:=by simp at h ⊢;omega
 simp only[this,fF,cE]
 (refine Bool.eq_iff_iff.2 ?_;simp only[aF];constructor<;>(intro h;simp only[h,and_self]))
 (refine Bool.eq_iff_iff.2 ?_;simp only[aF];constructor<;>(intro h;simp only[h,and_self]))
 by_cases o4:p.op.bs=[105,102]
 have n2:¬p.op.bs=[114,101,100,117,99,101]:=by rw[o4];decide
 have n3:¬p.op.bs=[99,111,100,101]:=by rw[o4];decide
 simp only[jI,iP,rX,gV,o1,o2,o3,n2,n3,aL];simp only[o4,aN,qL,jJ,gZ,rL,fZ,i6 oD];cases p.dyn<;>simp only[bq1,bq2,bq3,Bool.not_true,Bool.not_false,Bool.false_or,Bool.true_or,d9,gD,cE,fF]
 (refine Bool.eq_iff_iff.2 ?_;simp only[aF];constructor<;>(intro h;simp only[h,and_self]))
 by_cases o5:p.op.bs=[114,101,100,117,99,101]
 simp only[jI,iP,rX,gV,o1,o2,o3,o4,aL];simp only[o5,aN,qL,jJ,gZ,fZ,i6 oD,i6 rA];cases p.dyn<;>simp only[bq1,bq2,bq3,Bool.not_true,Bool.not_false,Bool.false_or,Bool.true_or,d9,gD,cE,fF,decide_true]
 (refine Bool.eq_iff_iff.2 ?_;simp only[aF];constructor<;>(intro h;simp only[h,and_self]))
 by_cases o6:p.op.bs=[99,111,100,101]
 simp only[jI,iP,rX,gV,o1,o2,o3,o4,o5,aL];simp only[o6,aN,qL,jJ,gZ,fZ,rL,i6 rA];have hc:(decide ((p.aSj.length:Int)<=20)&&eO p.fn.es p.aSj.length)=eO p.fn.es p.aSj.length:=by simp only[eO];cases decide ((p.aSj.length:Int)<=20)<;>simp
 rw[<-hc];cases p.dyn<;>simp only[bq1,bq2,bq3,Bool.not_true,Bool.not_false,Bool.false_or,Bool.true_or,d9,gD,cE,fF,decide_true];cases decide ((p.aSj.length:Int)<=20)<;>simp only[d9,cE,gD]
 (refine Bool.eq_iff_iff.2 ?_;simp only[aF];constructor<;>(intro h;simp only[h,and_self]))
 simp only[jI,iP,rX,gV,o1,o2,o3,o4,o5,o6,aL];cases hpt:kK p.op.bs with
 |none=>simp
 |some q=>
  simp only[qL,jJ,gZ,fZ,rL];cases p.dyn<;>simp only[bq1,bq2,bq3,Bool.not_true,Bool.not_false,Bool.false_or,Bool.true_or,d9,gD,cE,fF,decide_true]
  (refine Bool.eq_iff_iff.2 ?_;simp only[aF];constructor<;>(intro h;simp only[h,and_self]))
theorem mnA(a b:Int):(pI min2 (.int .i64 a) [.int .i64 b]).bind val=val (.int .i64 (if b<a then b else a)):=by simp[pI,min2]
theorem t8(n m:Int):decide (n=if m<n then m else n)=decide (n<=m):=by rw[eH];split<;>omega
section
variable{pg:Pg}
set_option maxHeartbeats 1000000 in
theorem c192(hf:pg.fs 192=some RR)(h125:∀op,bQ pg 125 [.str op] (kV op))(p:aC):Ret pg 192 [p.av] (.tup [(iP p).av,.bool (jI p)]):=by
 refine Ret.ofX hf ?_;unfold RR;cases o0:decide (p.op.bs=[99,111,110,115,116])
 case true=>
  have h0:=aO o0;have hP:(iP p).av = .agg [.str p.op.bs,.int .i64 p.num,.int .i64 0,.str [],.sl true [] true,.bool false,.int .i64 0,.sl true [] true,.sl p.knl (p.aSj.map aC.av) p.kcl]:=by rw[aC.avc];simp only[iP];simp only[h0,aN,aL,mV,kY,iW,j3,lA,kZ,iX,mW,j4,mI,mJ,gZ,jJ,List.map_nil]
  have hB:jI p=(decide ((p.aSj.length:Int)=0)&&decide ((p.at_.es.length:Int)=0)):=by simp only[jI];simp only[h0,aN,aL]
  rw[hP,hB];clear hP hB h125;cases k1:decide ((p.aSj.length:Int)=0);simp only[o0,k1,go_sem,seval];show _=true;kernel_rfl;cases k2:decide ((p.at_.es.length:Int)=0);simp only[o0,k1,k2,go_sem,seval];show _=true;kernel_rfl;simp only[o0,k1,k2,go_sem,seval];show _=true;kernel_rfl
 case false=>
 have h0:=bW o0;cases o1:decide (p.op.bs=[108,105,110,101,97,114])
 case true=>
  have h1:=aO o1;have hP:(iP p).av = .agg [.str p.op.bs,.int .i64 0,.int .i64 0,.str [],.sl p.at_.nl (p.at_.es.map Lin.av) p.at_.cl,.bool false,.int .i64 0,.sl true [] true,.sl p.knl (p.aSj.map aC.av) p.kcl]:=by rw[aC.avc];simp only[iP,h0,aL];simp only[h1,aN,aL,mV,kY,iW,j3,lA,kZ,iX,mW,j4,mI,mJ,gZ,jJ,List.map_nil]
  have hB:jI p=(decide ((p.aSj.length:Int)=0)&&decide ((p.at_.es.length:Int)=1)):=by simp only[jI,h0,aL];simp only[h1,aN,aL]
  rw[hP,hB];clear hP hB h125;cases k1:decide ((p.aSj.length:Int)=0);simp only[o0,o1,k1,go_sem,seval];show _=true;kernel_rfl;cases k2:decide ((p.at_.es.length:Int)=1);simp only[o0,o1,k1,k2,go_sem,seval];show _=true;kernel_rfl;simp only[o0,o1,k1,k2,go_sem,seval];show _=true;kernel_rfl
 case false=>
 have h1:=bW o1;cases o2:decide (p.op.bs=[114,101,97,100])
 case true=>
  have h2:=aO o2;cases hd:p.dyn
  case true=>
   have hP:(iP p).av = .agg [.str p.op.bs,.int .i64 0,.int .i64 p.value,.str [],.sl p.at_.nl (p.at_.es.map Lin.av) p.at_.cl,.bool true,.int .i64 p.check,.sl true [] true,.sl p.knl (p.aSj.map aC.av) p.kcl]:=by rw[aC.avc];simp only[iP,h0,h1,aL];simp only[hd,h2,aN,aL,mV,kY,iW,j3,lA,kZ,iX,mW,j4,mI,mJ,gZ,jJ,List.map_nil]
   have hB:jI p=(decide ((p.aSj.length:Int)=1)&&decide ((p.at_.es.length:Int)<=5)):=by simp only[jI,h0,h1,aL];simp only[hd,h2,aN,aL]
   rw[hP,hB];clear hP hB h125;cases k1:decide ((p.aSj.length:Int)=1)
   ·repeat (first|simp only[o0,o1,o2,hd,mnA,t8,k1,go_sem,seval]|refine aY ?_)
    show _=true;kernel_rfl
   cases k2:decide ((p.at_.es.length:Int)<=5)
   ·repeat (first|simp only[o0,o1,o2,hd,mnA,t8,k1,k2,go_sem,seval]|refine aY ?_)
    show _=true;kernel_rfl
   ·repeat (first|simp only[o0,o1,o2,hd,mnA,t8,k1,k2,go_sem,seval]|refine aY ?_)
    show _=true;kernel_rfl
  case false=>
   have hP:(iP p).av = .agg [.str p.op.bs,.int .i64 0,.int .i64 p.value,.str [],.sl p.at_.nl (p.at_.es.map Lin.av) p.at_.cl,.bool false,.int .i64 0,.sl true [] true,.sl p.knl (p.aSj.map aC.av) p.kcl]:=by rw[aC.avc];simp only[iP,h0,h1,aL];simp only[hd,bR,h2,aN,aL,mV,kY,iW,j3,lA,kZ,iX,mW,j4,mI,mJ,gZ,jJ,List.map_nil]
   have hB:jI p=(decide ((p.aSj.length:Int)=0)&&decide ((p.at_.es.length:Int)<=6)):=by simp only[jI,h0,h1,aL];simp only[hd,bR,h2,aN,aL]
   rw[hP,hB];clear hP hB h125;cases k1:decide ((p.aSj.length:Int)=0)
   ·repeat (first|simp only[o0,o1,o2,hd,mnA,t8,k1,go_sem,seval]|refine aY ?_)
    show _=true;kernel_rfl
   cases k2:decide ((p.at_.es.length:Int)<=6)
   ·repeat (first|simp only[o0,o1,o2,hd,mnA,t8,k1,k2,go_sem,seval]|refine aY ?_)
    show _=true;kernel_rfl
   ·repeat (first|simp only[o0,o1,o2,hd,mnA,t8,k1,k2,go_sem,seval]|refine aY ?_)
    show _=true;kernel_rfl
 case false=>
 have h2:=bW o2;cases o3:decide (p.op.bs=[105,102])
 case true=>
  have h3:=aO o3;have hP:(iP p).av = .agg [.str p.op.bs,.int .i64 0,.int .i64 0,.str [],.sl p.at_.nl (p.at_.es.map Lin.av) p.at_.cl,.bool false,.int .i64 0,.sl true [] true,.sl p.knl (p.aSj.map aC.av) p.kcl]:=by rw[aC.avc];simp only[iP,h0,h1,h2,aL];simp only[h3,aN,aL,mV,kY,iW,j3,lA,kZ,iX,mW,j4,mI,mJ,gZ,jJ,List.map_nil]
  have hB:jI p=(decide ((p.aSj.length:Int)=2)&&decide ((p.at_.es.length:Int)=1)):=by simp only[jI,h0,h1,h2,aL];simp only[h3,aN,aL]
  rw[hP,hB];clear hP hB h125;cases k1:decide ((p.aSj.length:Int)=2);simp only[o0,o1,o2,o3,k1,go_sem,seval];show _=true;kernel_rfl;cases k2:decide ((p.at_.es.length:Int)=1);simp only[o0,o1,o2,o3,k1,k2,go_sem,seval];show _=true;kernel_rfl;simp only[o0,o1,o2,o3,k1,k2,go_sem,seval];show _=true;kernel_rfl
 case false=>
 have h3:=bW o3;cases o4:decide (p.op.bs=[114,101,100,117,99,101])
 case true=>
  have h4:=aO o4;have hP:(iP p).av = .agg [.str p.op.bs,.int .i64 0,.int .i64 0,.str p.name.bs,.sl p.at_.nl (p.at_.es.map Lin.av) p.at_.cl,.bool false,.int .i64 0,.sl p.fn.nl (p.fn.es.map aP.av) p.fn.cl,.sl p.knl (p.aSj.map aC.av) p.kcl]:=by rw[aC.avc];simp only[iP,h0,h1,h2,h3,aL];simp only[h4,aN,aL,mV,kY,iW,j3,lA,kZ,iX,mW,j4,mI,mJ,gZ,jJ,List.map_nil]
  have hB:jI p=(decide ((p.aSj.length:Int)=2)&&decide ((p.at_.es.length:Int)=1)):=by simp only[jI,h0,h1,h2,h3,aL];simp only[h4,aN,aL]
  rw[hP,hB];clear hP hB h125;cases k1:decide ((p.aSj.length:Int)=2)
  ·repeat (first|simp only[o0,o1,o2,o3,o4,k1,go_sem,seval]|refine aY ?_)
   show _=true;kernel_rfl
  cases k2:decide ((p.at_.es.length:Int)=1)
  ·repeat (first|simp only[o0,o1,o2,o3,o4,k1,k2,go_sem,seval]|refine aY ?_)
   show _=true;kernel_rfl
  ·repeat (first|simp only[o0,o1,o2,o3,o4,k1,k2,go_sem,seval]|refine aY ?_)
   show _=true;kernel_rfl
 case false=>
 have h4:=bW o4;cases o5:decide (p.op.bs=[99,111,100,101])
 case true=>
  have h5:=aO o5;have hP:(iP p).av = .agg [.str p.op.bs,.int .i64 0,.int .i64 0,.str [],.sl true [] true,.bool false,.int .i64 0,.sl p.fn.nl (p.fn.es.map aP.av) p.fn.cl,.sl p.knl (p.aSj.map aC.av) p.kcl]:=by rw[aC.avc];simp only[iP,h0,h1,h2,h3,h4,aL];simp only[h5,aN,aL,mV,kY,iW,j3,lA,kZ,iX,mW,j4,mI,mJ,gZ,jJ,List.map_nil]
  have hB:jI p=(decide ((p.aSj.length:Int)<=20)&&decide ((p.at_.es.length:Int)=0)):=by simp only[jI,h0,h1,h2,h3,h4,aL];simp only[h5,aN,aL]
  rw[hP,hB];clear hP hB h125;cases k1:decide ((p.aSj.length:Int)<=20)
  ·repeat (first|simp only[o0,o1,o2,o3,o4,o5,mnA,t8,k1,go_sem,seval]|refine aY ?_)
   show _=true;kernel_rfl
  cases k2:decide ((p.at_.es.length:Int)=0)
  ·repeat (first|simp only[o0,o1,o2,o3,o4,o5,mnA,t8,k1,k2,go_sem,seval]|refine aY ?_)
   show _=true;kernel_rfl
  ·repeat (first|simp only[o0,o1,o2,o3,o4,o5,mnA,t8,k1,k2,go_sem,seval]|refine aY ?_)
   show _=true;kernel_rfl
 case false=>
 have h5:=bW o5;have hP:(iP p).av = .agg [.str p.op.bs,.int .i64 0,.int .i64 0,.str [],.sl true [] true,.bool false,.int .i64 0,.sl true [] true,.sl p.knl (p.aSj.map aC.av) p.kcl]:=by rw[aC.avc];simp only[iP,h0,h1,h2,h3,h4,h5,aL,mV,kY,iW,j3,lA,kZ,iX,mW,j4,mI,mJ,gZ,jJ,List.map_nil]
 have hB:jI p=(match kK p.op.bs with
  |none=>false
  |some q=>decide ((p.aSj.length:Int)=(q.params.length:Int))&&decide ((p.at_.es.length:Int)=0)):=by simp only[jI,h0,h1,h2,h3,h4,h5,aL]
 rw[hP,hB];clear hP hB;obtain⟨rr,hr,hR⟩:=h125 p.op.bs;simp only[kV]at hR;cases hpt:kK p.op.bs with
 |none=>rw[hpt]at hR;dsimp only at hR;subst hR;simp only[o0,o1,o2,o3,o4,o5,go_sem,seval];refine aB hr ?_;simp only[go_sem,seval]
 |some q=>rw[hpt]at hR;dsimp only at hR;obtain⟨nl2,cl2,rfl⟩:=hR;dsimp only;simp only[o0,o1,o2,o3,o4,o5,go_sem,seval];refine aB hr ?_;cases k1:decide ((p.aSj.length:Int)=(q.params.length:Int));simp only[k1,go_sem,seval];show _=true;kernel_rfl;cases k2:decide ((p.at_.es.length:Int)=0);simp only[k1,k2,go_sem,seval];show _=true;kernel_rfl;simp only[k1,k2,go_sem,seval];show _=true;kernel_rfl
end
end
section
section
variable{pg:Pg}
theorem kD{kb esz bytes s:Nat}{ag:Bool}{h:Hp}{xs:List AV}{nl cl nl0:Bool}{Q:AV->Eff->Prop}{t:Tok Q}(hx:∀x∈xs,El esz ag x)(hl:xs.length<=1073741824)(hb:bytes<=65536)
  (q1:xs=[]->Q (.sl nl0 [] true) (.pat [] []))
  (q2:xs≠[]->∀cs,cK esz ag xs=some cs->Q (.rf (kb+s) (h.next (kb+s)) 0 xs.length xs.length) (.pat [kb+s] [⟨kb+s,h.next (kb+s),.blk cs esz ag false false⟩])) :
  XO pg kb (.app esz ag bytes) s h [.sl nl0 [] true,.sl nl xs cl] Q t:=by
 rw[jW];obtain⟨ds,d1,d2,d3,_⟩:=eD hx;simp only[pJ,bH,d1,Option.map_some];by_cases hxs:xs=[]
 subst hxs;cases d1;simp only[nJ,List.length_nil,aN];exact q1 rfl;have hn:xs.length≠0:=by simpa using hxs
 simp only[nJ,hn,aL,List.length_nil,bF,Bool.or_true,cE,hl,hb,decide_true,Bool.and_self,aN,cK,fW];exact q2 hxs ds d1
theorem CN{kb esz bytes s k e n:Nat}{ag:Bool}{h:Hp}{cs:List AV}{es xs:List AV}{nl cl:Bool}{Q:AV->Eff->Prop}{t:Tok Q}
  (hne:n=es.length) (hg:h.get k=some (e,.blk cs esz ag false false)) (hu:cK esz ag es=some cs) (hk:(k==kb+s)=false) (he:∀x∈es,El esz ag x) (hx:∀x∈xs,El esz ag x) (hxs:xs≠[])
  (hl:es.length+xs.length<=1073741824) (hb:bytes<=65536)
  (q2:∀cs',cK esz ag (es++xs)=some cs'->Q (.rf (kb+s) (h.next (kb+s)) 0 (n+xs.length) (n+xs.length)) (.pat [kb+s,k] [⟨k,e,.dead⟩,⟨kb+s,h.next (kb+s),.blk cs' esz ag false false⟩])) :
  XO pg kb (.app esz ag bytes) s h [.rf k e 0 n n,.sl nl xs cl] Q t:=by
 subst hne;rw[jW];obtain⟨ds,d1,d2,d3,_⟩:=eD hx;simp only[pJ,bH,d1,Option.map_some];have hn:xs.length≠0:=by simpa using hxs
 obtain⟨cs',c1,c2,_,_⟩:=eD he;rw[hu]at c1;cases c1;have h1:¬(es.length+xs.length<=es.length):=by omega
 simp only[nJ,hg,hn,aL,true_and,bF];rw[if_pos (by omega)];simp only[h1,aL,hl,hb,decide_true,cE,hk,Bool.not_false,aN,bR];have h3:(List.drop 0 cs).take (es.length*esz)++ds=cs++ds:=by simp[<-c2]
 rw[h3];exact q2 _ (kN hu d1)
def aLF(hp:Hp)(nl cl:Bool)(vars:List Str)(name:Str)(red:Bool)(iv:AV):Prop:=
 (red=false/\iv = .sl nl (vars.map Str.av) cl)\/(red=true/\∃k,Own hp k 1 false iv ((vars++[name]).map Str.av))
set_option maxHeartbeats 1000000 in
theorem aAW(v:Int)(p:aC)(nl cl:Bool)(vars:List Str)(hk:p.aSj.length<=big)(hks:∀q∈p.aSj,q.ok)(hb:vars.length+1+aC.szL p.aSj<=big)
  (ih:∀q∈p.aSj,q.ok->∀(nl cl:Bool)(vars:List Str),vars.length+q.sz<=big->Ret pg 164 [q.av,.sl nl (vars.map Str.av) cl,.int .i64 v] (.bool (jO v q vars)))
  (iv:AV) (red b R:Bool) (env:List AV) (hp:Hp)
  (henv:clear NL env=uP (.sl nl (vars.map Str.av) cl) (.int .i64 v) (.pt 1 0 0) (.bool b) iv (.int .i64 0))
  (g1:hp.get 1=some (0,.blk [.str p.op.bs,.int .i64 p.num,.int .i64 p.value,.str p.name.bs,.sl p.at_.nl (p.at_.es.map Lin.av) p.at_.cl,.bool p.dyn,.int .i64 p.check,.sl p.fn.nl (p.fn.es.map aP.av) p.fn.cl,.sl p.knl (p.aSj.map aC.av) p.kcl] 9 true true false))
  (hiv:aLF hp nl cl vars p.name red iv) (hR:R=(b&&jL v red p.name vars 0 p.aSj)) :
  XX pg 0 (.loop uO NL) ⟨env,hp⟩
   (qU 1 (oT (λst'=>XX pg 0 (.seq (.reg [⟨some 110,.mov,[.t 8],none,0,0⟩,⟨some 6,.mov,[.t 110],none,0,0⟩] false) .ret) st' (QS [.inl 6] (.bool R)) ⟨⟩) (QS [.inl 6] (.bool R)))) ⟨⟩:=by
 refine aJ p.aSj (λd r env hp=>∃ok:Bool,env=uP (.sl nl (vars.map Str.av) cl) (.int .i64 v) (.pt 1 0 0) (.bool ok) iv (.int .i64 d.length) /\
  hp.get 1=some (0,.blk [.str p.op.bs,.int .i64 p.num,.int .i64 p.value,.str p.name.bs,.sl p.at_.nl (p.at_.es.map Lin.av) p.at_.cl,.bool p.dyn,.int .i64 p.check,.sl p.fn.nl (p.fn.es.map aP.av) p.fn.cl,.sl p.knl (p.aSj.map aC.av) p.kcl] 9 true true false) /\
  aLF hp nl cl vars p.name red iv/\R=(ok&&jL v red p.name vars d.length r)) ?_ ?_ ?_
 exact⟨b,henv,g1,hiv,hR⟩;clear hiv g1 henv hR hp env;rintro env hp ⟨ok,rfl,g1,hiv,hR⟩;simp only[uO,uP,g1,bG,go_sem,seval];rw[hR];simp[jL]
 ·clear hiv g1 henv hR hp env;rintro d x r env hp hes ⟨ok,rfl,g1,hiv,hR⟩;obtain⟨hget,e1,e2,ew⟩:=dJ hes hk;have hxm:x∈p.aSj:=by rw[hes];simp
  have hxs:x.sz<=aC.szL p.aSj:=aC.szL_mem hxm;have hx:=ih x hxm (hks x hxm);clear ih hks;cases ok
  case false=>simp only[uO,uP,g1,e1,go_sem,seval];rw[hR];simp
  case true=>
  simp only[jL,cE]at hR;have hd1:jL v red p.name vars (d++[x]).length r=jL v red p.name vars (d.length+1) r:=by simp
  cases c2:decide ((d.length:Int)=1)
  case false=>have a1:=hx nl cl vars (by omega);simp only[uO,uP,g1,e1,e2,hget,c2,go_sem,seval];refine aB a1 ?_;simp only[ew,go_sem,seval];refine⟨_,rfl,g1,hiv,?_⟩;rw[hR,c2,hd1];simp
  case true=>
  rcases hiv with ⟨hr,hv⟩|⟨hr,kk,ho⟩
  have a1:=hx nl cl vars (by omega);subst hv;simp only[uO,uP,g1,e1,e2,hget,c2,go_sem,seval];refine aB a1 ?_;simp only[ew,go_sem,seval];refine⟨_,rfl,g1,.inl ⟨hr,rfl⟩,?_⟩;rw[hR,c2,hd1,hr];simp;obtain⟨nl2,cl2,keys,hsn,hnl⟩:=ho.snap (El.strs (vars++[p.name])) 62;have a1:=hx nl2 cl2 (vars++[p.name]) (by simp;omega);simp only[uO,uP,g1,e1,e2,hget,c2,go_sem,seval];refine cR a1 (uA (by simp only[go_sem,seval]) hsn (by simp only[go_sem,seval])) (v:=.bool (jO v x (vars++[p.name]))) (pa:=[]) rfl ?_;simp only[ew,go_sem,seval];refine⟨_,rfl,g1,.inr ⟨hr,kk,ho⟩,?_⟩;rw[hR,c2,hd1,hr];simp
set_option maxHeartbeats 2000000 in
theorem c164(hf:pg.fs 164=some RW)(h192:∀p:aC,Ret pg 192 [p.av] (.tup [(iP p).av,.bool (jI p)]))
  (h118:∀p:aC,p.ok->∀q:aC,Ret pg 118 [p.av,q.av] (.bool (fH p q)))
  (h193:∀(nl cl:Bool)(ls:List Lin),ls.length<=big->∀(nl' cl':Bool)(vars:List Str),vars.length<=big->Ret pg 193 [.sl nl (ls.map Lin.av) cl,.sl nl' (vars.map Str.av) cl'] (.bool (d4 ls vars)))
  (h124:pg.fs 124=some x5) (h77:∀s:Str,Ret pg 77 [.str s.bs] (.bool (iQ s.bs))) (h194:pg.fs 194=some G7)
  (h87:∀(nl cl:Bool)(fn:List aP),fn.length<=big->∀n:Int,Ret pg 87 [.sl nl (fn.map aP.av) cl,.int .i64 n] (.bool (eO fn n))) (v:Int) :
  ∀p:aC,p.ok->∀(nl cl:Bool)(vars:List Str),vars.length+p.sz<=big->Ret pg 164 [p.av,.sl nl (vars.map Str.av) cl,.int .i64 v] (.bool (jO v p vars)):=by
 refine aC.ind' λp ih hp nl cl vars hb=>?_;obtain⟨hk,hks⟩:=(aC.ok_iff p).1 hp;have hsz:=aC.sz_eq p;have a1:=h192 p;have a2:=h118 p hp (iP p);rw[aC.avc p]at a1 a2;have a2':=a2;rw[aC.avc (iP p)]at a2';have a3:=h193 p.at_.nl p.at_.cl p.at_.es p.at_.ok nl cl vars (by omega);have a4:=aIu h124 p.num;have a5:=h77 p.name;have a6:=c194 h194 nl cl vars (by omega) p.name.bs;have a7:=h87 p.fn.nl p.fn.cl p.fn.es p.fn.ok 2;have a8:=h87 p.fn.nl p.fn.cl p.fn.es p.fn.ok p.aSj.length;clear h192 h118 h193 h124 h77 h194 h87;have hspec:jO v p vars=(jI p&&(fH p (iP p)&&(d4 p.at_.es vars&&(rX p vars v&&jL v (decide (p.op.bs=[114,101,100,117,99,101])) p.name vars 0 p.aSj)))):=by
  rw[sF,<-TL]
  (refine Bool.eq_iff_iff.2 ?_;simp only[aF];constructor<;>(intro h;simp only[h,and_self]))
 rw[hspec];refine Ret.ofX hf ?_;unfold RW;refine Wk ?_;refine bZ a1 (by simp only[go_sem,seval]) (by rfl) ?_;have hro:rX p vars v=(if p.op.bs=[99,111,110,115,116] then oN p.num
  else if p.op.bs=[114,101,97,100] then decide (0<=p.value)&&decide (p.value<v)&&decide (0<=p.check)
  else if p.op.bs=[114,101,100,117,99,101] then iQ p.name.bs && !mD vars p.name.bs&&eO p.fn.es 2
  else if p.op.bs=[99,111,100,101] then eO p.fn.es p.aSj.length
  else true):=rfl
 generalize hob:jI p=ob at *;cases ob
 case false=>simp only[go_sem,seval]
 case true=>
 refine Wk ?_;refine aB a2' ?_;generalize hpe:fH p (iP p)=pe at *;cases pe
 case false=>simp only[go_sem,seval]
 case true=>
 refine Wk ?_;refine aB a3 ?_;generalize hov:d4 p.at_.es vars=ov at *;cases ov
 case false=>simp only[go_sem,seval]
 case true=>
 refine Wk ?_;have hL:=λiv b R env hp h1 h2 h3 h4=>aAW v p nl cl vars hk hks (by omega) ih iv (decide (p.op.bs=[114,101,100,117,99,101])) b R env hp h1 h2 h3 h4;clear ih hks a1 a2 a2' a3;cases o1:decide (p.op.bs=[99,111,110,115,116])
 case true=>
  have h:=aO o1;have hr:decide (p.op.bs=[114,101,100,117,99,101])=false:=by rw[h];decide
  rw[hro,if_pos h];refine Wk ?_;refine aB a4 (Wk ?_);exact hL _ _ _ _ _ rfl rfl (.inl ⟨hr,rfl⟩) rfl
 case false=>
 rw[hro,if_neg (bW o1)];refine Wk ?_;cases o2:decide (p.op.bs=[114,101,97,100])
 case true=>
  have h:=aO o2;have hr:decide (p.op.bs=[114,101,100,117,99,101])=false:=by rw[h];decide
  rw[if_pos h];cases q1:decide (0<=p.value)
  case false=>simp only[q1,go_sem,seval];exact hL _ _ _ _ _ rfl rfl (.inl ⟨hr,rfl⟩) rfl
  case true=>
  cases q2:decide (p.value<v)
  case false=>simp only[q1,q2,go_sem,seval];exact hL _ _ _ _ _ rfl rfl (.inl ⟨hr,rfl⟩) rfl
  case true=>simp only[q1,q2,go_sem,seval];exact hL _ _ _ _ _ rfl rfl (.inl ⟨hr,rfl⟩) rfl
 case false=>
 rw[if_neg (bW o2)];refine Wk ?_;cases o3:decide (p.op.bs=[114,101,100,117,99,101])
 case true=>
  have h:=aO o3;rw[if_pos h];refine Wk ?_;refine aB a5 ?_;have hvl:vars.length+1<=1073741824:=by simp only[big]at hb;omega
  have hS:∀x∈[AV.str p.name.bs],El 1 false x:=by intro x hx;simp at hx;subst hx;exact⟨rfl,rfl,rfl⟩
  cases nm:iQ p.name.bs
  case false=>
   refine Wk ?_;refine kD (El.strs vars) (by simp;omega) (by decide) (λhe=>?_) (λhe cs hcs=>?_);have hv:vars=[]:=by simpa using he
   refine Wk ?_;refine kD hS (by simp) (by decide) (λh=>by cases h) (λ_ cs2 hcs2=>?_);cases hcs2;refine Wk ?_;refine aY ?_;exact hL _ _ _ _ _ rfl rfl (.inr ⟨o3,41,.inr ⟨_,_,by rw[hv];rfl,rfl,by rw[hv];rfl⟩⟩) (by rw[o3];rfl);refine Wk ?_;refine CN (es:=vars.map Str.av) (by simp) rfl hcs rfl (El.strs vars) hS (by simp) (by simp;omega) (by decide) (λcs2 hcs2=>?_);refine Wk ?_;refine aY ?_;exact hL _ _ _ _ _ rfl rfl (.inr ⟨o3,41,.inr ⟨_,_,by simp,rfl,by rw[List.map_append];exact hcs2⟩⟩) (by rw[o3];rfl)
  case true=>
  refine Wk ?_;refine aB a6 ?_;cases hs:mD vars p.name.bs
  case true=>
   refine Wk ?_;refine kD (El.strs vars) (by simp;omega) (by decide) (λhe=>?_) (λhe cs hcs=>?_);have hv:vars=[]:=by simpa using he
   refine Wk ?_;refine kD hS (by simp) (by decide) (λh=>by cases h) (λ_ cs2 hcs2=>?_);cases hcs2;refine Wk ?_;refine aY ?_;exact hL _ _ _ _ _ rfl rfl (.inr ⟨o3,41,.inr ⟨_,_,by rw[hv];rfl,rfl,by rw[hv];rfl⟩⟩) (by rw[o3];rfl);refine Wk ?_;refine CN (es:=vars.map Str.av) (by simp) rfl hcs rfl (El.strs vars) hS (by simp) (by simp;omega) (by decide) (λcs2 hcs2=>?_);refine Wk ?_;refine aY ?_;exact hL _ _ _ _ _ rfl rfl (.inr ⟨o3,41,.inr ⟨_,_,by simp,rfl,by rw[List.map_append];exact hcs2⟩⟩) (by rw[o3];rfl)
  case false=>
  refine Wk ?_;refine aB a7 (Wk ?_);refine kD (El.strs vars) (by simp;omega) (by decide) (λhe=>?_) (λhe cs hcs=>?_);have hv:vars=[]:=by simpa using he
  refine Wk ?_;refine kD hS (by simp) (by decide) (λh=>by cases h) (λ_ cs2 hcs2=>?_);cases hcs2;refine Wk ?_;refine aY ?_;exact hL _ _ _ _ _ rfl rfl (.inr ⟨o3,41,.inr ⟨_,_,by rw[hv];rfl,rfl,by rw[hv];rfl⟩⟩) (by rw[o3];rfl);refine Wk ?_;refine CN (es:=vars.map Str.av) (by simp) rfl hcs rfl (El.strs vars) hS (by simp) (by simp;omega) (by decide) (λcs2 hcs2=>?_);refine Wk ?_;refine aY ?_;exact hL _ _ _ _ _ rfl rfl (.inr ⟨o3,41,.inr ⟨_,_,by simp,rfl,by rw[List.map_append];exact hcs2⟩⟩) (by rw[o3];rfl)
 case false=>
 rw[if_neg (bW o3)];refine Wk ?_;cases o4:decide (p.op.bs=[99,111,100,101])
 case true=>have h:=aO o4;rw[if_pos h];refine Wk ?_;refine aB a8 (Wk ?_);exact hL _ _ _ _ _ rfl rfl (.inl ⟨o3,rfl⟩) (by rw[o3];rfl)
 case false=>rw[if_neg (bW o4)];refine Wk ?_;exact hL _ _ _ _ _ rfl rfl (.inl ⟨o3,rfl⟩) (by rw[o3];rfl)
end
end
section
def vP(op res:List UInt8):List (List UInt8)->List Bool->Bool
 | c::cs,b::bs=>(!((decide (c=[98,111,111,108]) && !decide (op=[115,101,108,101,99,116]))||decide (c=res))||b)&&vP op res cs bs
 |_,_=>true
def sO(op:List UInt8)(aSj:List Bool):Bool:=
 match kK op with
 |none=>false
 |some p=>decide ((p.params.length:Int)=(aSj.length:Int))&&(!decide (p.result=[105,110,116])&&vP op p.result p.params aSj)
theorem aAl(r:xU)(hr:r∈lP)(aSj:List Bool):(decide ((r.params.length:Int)=(aSj.length:Int))&&(!decide (r.result=[105,110,116])&&vP r.op r.result r.params aSj)) =
  (if wG r.op then decide ((aSj.length:Int)=2) else if decide (r.op=[115,101,108,101,99,116]) then aBv aSj
   else decide (r.result=[98,111,111,108])&&decide ((r.params.length:Int)=(aSj.length:Int)) && !aSj.any (λb=>b==false)):=by
 simp only[lP,dA,List.not_mem_nil,or_false]at hr;have q1:∀n:Nat,((1:Int)=(n:Int)+1+1+1+1)=False:=λn=>eq_false (by omega);have q2:∀n:Nat,((2:Int)=(n:Int)+1+1+1+1)=False:=λn=>eq_false (by omega);have q3:∀n:Nat,((3:Int)=(n:Int)+1+1+1+1)=False:=λn=>eq_false (by omega);rcases aSj with _|⟨a,_|⟨b,_|⟨c,_|⟨d,l⟩⟩⟩⟩
 all_goals (rcases hr with rfl|rfl|rfl|rfl|rfl|rfl|rfl|rfl|rfl|rfl|rfl|rfl|rfl|rfl|rfl|rfl|rfl|rfl|rfl|rfl|rfl|rfl)
 all_goals (simp[wG,aBv,vP,iE,mG,sA])
 all_goals (first|omega|simp[q1,q2,q3])
section
variable{pg:Pg}
theorem c123(hf:pg.fs 123=some R5)(h40:pg.fs 40=some WC)(h164:∀v:Int,∀p:aC,p.ok->∀(nl cl:Bool) (vars:List Str),vars.length+p.sz<=big->Ret pg 164 [p.av,.sl nl (vars.map Str.av) cl,.int .i64 v] (.bool (jO v p vars)))
  (p:aC) (hp:p.ok) (nl cl:Bool) (vars:List Str) (hb:vars.length+p.sz<=big) (v:Int):Ret pg 123 [p.av,.sl nl (vars.map Str.av) cl,.int .i64 v] (.bool (jQ p vars v)):=by
 have a1:=c40 h40 p hp;have a2:=h164 v p hp nl cl vars hb;rw[aC.avc]at a1 a2;refine Ret.ofX hf ?_;clear h40 h164;unfold R5;refine Wk ?_;refine aB a1 ?_;cases c1:decide (tX p<=4000);simp only[c1,go_sem,seval];simp[jQ,c1];simp only[c1,go_sem,seval];refine aB a2 (Wk ?_);simp[jQ,c1]
theorem aCz(op:List UInt8)(aSj:List Bool):sO op aSj=gX op aSj:=by
 simp only[sO,gX];cases hp:kK op with
 |none=>
  have hn:=List.find?_eq_none.1 hp;have h1:wG op=false:=by cases h:wG op;rfl;exfalso;simp only[wG,Bool.or_eq_true,aR]at h;rcases h with ((((h|h)|h)|h)|h)|h<;>(subst h;exact absurd hp (by decide +revert))
  have h2:¬decide (op=[115,101,108,101,99,116])=true:=by intro h;have h:=aO h;subst h;exact absurd hp (by decide +revert)
  rw[h1,if_neg (by decide),if_neg h2]
 |some p=>
  have hm:p∈lP:=List.mem_of_find?_eq_some hp;have ho:p.op=op:=by simpa using List.find?_some hp
  subst ho;exact aAl p hm aSj
theorem c120(hf:pg.fs 120=some R7)(h125:∀op,bQ pg 125 [.str op] (kV op))(op:List UInt8)(nl cl:Bool)(aSj:List Bool)(hb:aSj.length<=big):Ret pg 120 [.str op,.sl nl (aSj.map AV.bool) cl] (.bool (gX op aSj)):=by
 rw[<-aCz];obtain⟨rr,hr,hR⟩:=h125 op;refine Ret.ofX hf ?_;unfold R7;refine Wk ?_;simp only[kV]at hR;cases hpt:kK op with
 |none=>
  rw[hpt]at hR;dsimp only at hR;subst hR;have hs:sO op aSj=false:=by simp only[sO,hpt]
  rw[hs];refine aB hr ?_;simp only[go_sem,seval]
 |some p=>
  rw[hpt]at hR;dsimp only at hR;obtain⟨nl2,cl2,rfl⟩:=hR;have hs:sO op aSj=(decide ((p.params.length:Int)=(aSj.length:Int))&&(!decide (p.result=[105,110,116])&&vP op p.result p.params aSj)):=by simp only[sO,hpt]
  rw[hs];clear hs hpt;refine aB hr ?_;clear hr;cases k1:decide ((p.params.length:Int)=(aSj.length:Int))
  case false=>simp only[k1,go_sem,seval]
  case true=>
  cases k2:decide (p.result=[105,110,116])
  case true=>simp only[k1,k2,go_sem,seval]
  case false=>
  have hl:p.params.length=aSj.length:=by have:=aO k1;omega
  simp only[k1,k2,go_sem,seval];refine aJ (p.params.zip aSj) (λd r env hp=>env=oP (.str op) (.sl nl (aSj.map AV.bool) cl) (.sl nl2 (p.params.map AV.str) cl2) (.str p.result) (.int .i64 d.length)/\vP op p.result p.params aSj=vP op p.result (p.params.drop d.length) (aSj.drop d.length)) ?_ ?_ ?_;exact⟨rfl,rfl⟩;rintro env hp ⟨rfl,hI⟩;have hz:(p.params.zip aSj).length=p.params.length:=by rw[List.length_zip,hl];simp
  rw[hz]at hI ⊢;rw[List.drop_length]at hI;simp only[oO,oP,bG,go_sem,seval];rw[hI];simp[vP];rintro d ⟨c,b⟩ r env hp hes ⟨rfl,hI⟩;obtain⟨ga,gb,la,lb⟩:=X2 hes;have e1:decide ((d.length:Int)<(p.params.length:Int))=true:=by simp;omega
  have e2:((d.length:Int)<(p.params.length:Int))=True:=aK (by omega);have e4:((d.length:Int)<(aSj.length:Int))=True:=aK (by omega);have ew:wr .i64 ((d.length:Int)+1)=((d++[(c,b)]).length:Int):=by simp only[big]at hb;rw[aU (by omega) (by omega)];simp
  have hst:vP op p.result p.params aSj=((!((decide (c=[98,111,111,108]) && !decide (op=[115,101,108,101,99,116]))||decide (c=p.result))||b)&&vP op p.result (p.params.drop (d++[(c,b)]).length) (aSj.drop (d++[(c,b)]).length)):=by rw[hI,i8 la,i8 lb,vP];rw[aW la]at ga;rw[aW lb]at gb;cases ga;cases gb;simp
  rw[hst];clear hI hst;cases z1:decide (c=[98,111,111,108]);cases z3:decide (c=p.result);simp only[oO,oP,e1,e2,e4,ga,gb,z1,z3,ew,go_sem,seval];rfl;cases b;simp only[oO,oP,e1,e2,e4,ga,gb,z1,z3,go_sem,seval];simp only[oO,oP,e1,e2,e4,ga,gb,z1,z3,ew,go_sem,seval];rfl;cases z2:decide (op=[115,101,108,101,99,116]);cases b;simp only[oO,oP,e1,e2,e4,ga,gb,z1,z2,go_sem,seval];simp only[oO,oP,e1,e2,e4,ga,gb,z1,z2,ew,go_sem,seval];rfl;cases z3:decide (c=p.result);simp only[oO,oP,e1,e2,e4,ga,gb,z1,z2,z3,ew,go_sem,seval];rfl;cases b;simp only[oO,oP,e1,e2,e4,ga,gb,z1,z2,z3,go_sem,seval];simp only[oO,oP,e1,e2,e4,ga,gb,z1,z2,z3,ew,go_sem,seval];rfl
theorem c84(hf:pg.fs 84=some aDt)(h120:∀(op:List UInt8) (nl cl:Bool) (aSj:List Bool),aSj.length<=big->Ret pg 120 [.str op,.sl nl (aSj.map AV.bool) cl] (.bool (gX op aSj)))
  (nl cl:Bool) (code:List aP) (hb:code.length<=16777216) (nl' cl':Bool) (args:List Bool) (hb':args.length<=16777216):Ret pg 84 [.sl nl (code.map aP.av) cl,.sl nl' (args.map AV.bool) cl'] (.bool (fD code args)):=by
 refine Ret.ofX hf ?_;unfold aDt;refine Wk ?_;refine gR (kb:=0) (s:=1) (Own.nil _ _ _ _ _ _ rfl) (by simp) (El.bools args) (by simp;omega) (by decide) ?_;intro v0 rd pa ho0 hk0 _;refine Wk ?_;refine aJ code (λd r env hp=>∃v l,env=wP (.sl nl (code.map aP.av) cl) v (.int .i64 d.length)/\CO hp [1,9,21] v l/\l.length=args.length+d.length/\oJ args code=oJ l r) ?_ ?_ ?_;exact⟨v0,args,rfl,⟨1,by simp,ho0⟩,by simp,rfl⟩;rintro env hp ⟨v,l,rfl,ho,hl,hI⟩;have hlen:=ho.flen;have hll:∀(l':List Bool)(b:Bool),(l'.length:Int)<((l'++[b]).length:Int):=by intro l' b;rw[dC,List.length_singleton];omega
 simp only[oJ]at hI;have hsp:fD code args=l.getLast?.getD false:=by rw[fD,hI]
 rw[hsp];rcases mO l with rfl|⟨l',b,rfl⟩
 simp only[wO,wP,↓hlen,go_sem,seval];rfl;rw[List.concat_eq_append]at *;obtain⟨k,e,rfl,hg,_⟩:=ho.at (n:=(l'.length:Int)) (by omega) (hll l' b);have hw:wr .i64 (((l'++[b]).length:Int)-1)=(l'.length:Int):=by simp only[dC,List.length_cons,List.length_nil]at *;rw[aU (by omega) (by omega)];omega
 have hlt:decide ((0:Int)<((l'++[b]).length:Int))=true:=by have:=hll l' b;simp only[aR];omega
 have hlt2:((l'.length:Int)<((l'++[b]).length:Int))=True:=aK (hll l' b);have hgm:((l'++[b]).map AV.bool)[l'.length]?=some (.bool b):=by simp
 simp only[wO,wP,↓hlen,hlt,hw,hlt2,Nat.mul_one,bF,hg,go_sem,seval];simp;rintro d x r env hp hes ⟨v,l,rfl,ho,hl,hI⟩;subst hes;have hks:∀k∈([1,9,21]:List Nat),k=1\/k=9\/k=21:=by simp
 have hd:d.length<=16777216:=by simp at hb;omega
 have hb2:(d++x::r).length<=big:=by simp only[big];omega
 simp only[oJ]at hI;cases hc:uC x.op.bs
 case true=>
  have hst:oU l x=(decide (x.num=0)||decide (x.num=1)):=by simp[oU,hc]
  have hfin:∀(hp':Hp)(c:Bool),(∀k,k≠5->hp'.get k=hp.get k)->c=oU l x->∀(Q:AV->Eff->Prop)(t:Tok Q),
    (∀v' rd pa,CO (Eff.app hp' (.pat rd pa)) [1,9,21] v' (l++[oU l x])->Q v' (.pat rd pa))->XO pg 0 (.app 1 false 1) 9 hp' [v,.sl false [.bool c] true] Q t:=by
   intro hp' c hk hcc Q t hq;obtain⟨k,hkm,ho'⟩:=ho;refine uW (kb:=0) (s:=9) (k1:=k) (ho'.mono (hk k (by rcases hks k hkm with h|h|h<;>omega))) (El.bools l) (xs:=[.bool c]) (by intro y hy;simp at hy;subst hy;exact El.bool _) (by simp) (by simp;omega) (by omega) ?_;intro v' rd pa ho2 _;exact hq v' rd pa ⟨9,by simp,by simpa[hcc] using ho2⟩
  have hgp:∀o1 o2 k,k≠5->((hp.put 5 (hp.next 5) o1).put 5 (hp.next 5) o2).get k=hp.get k:=by intro o1 o2 k hk;rw[aI,if_neg (Ne.symm hk),aI,if_neg (Ne.symm hk)]
  have hor:decide (x.op.bs=[99,111,110,115,116])=true\/(decide (x.op.bs=[99,111,110,115,116])=false/\decide (x.op.bs=[116,114,117,116,104])=true):=by unfold uC at hc;cases h1:decide (x.op.bs=[99,111,110,115,116]);rw[h1]at hc;exact .inr ⟨rfl,by simpa using hc⟩;exact .inl rfl
  rcases hor with c1|⟨c1,c2⟩
  cases c3:decide (x.num=0);simp only[wO,wP,c1,c3,go_sem,seval];refine hfin _ _ (hgp _ _) (by rw[hst,c3];rfl) _ _ ?_;intro v' rd pa ho2;simp only[aZ hb2,go_sem,seval];exact⟨v',_,rfl,ho2,by simp;omega,hI⟩;simp only[wO,wP,c1,c3,go_sem,seval];refine hfin _ _ (hgp _ _) (by rw[hst,c3];rfl) _ _ ?_;intro v' rd pa ho2;simp only[aZ hb2,go_sem,seval];exact⟨v',_,rfl,ho2,by simp;omega,hI⟩;cases c3:decide (x.num=0);simp only[wO,wP,c1,c2,c3,go_sem,seval];refine hfin _ _ (hgp _ _) (by rw[hst,c3];rfl) _ _ ?_;intro v' rd pa ho2;simp only[aZ hb2,go_sem,seval];exact⟨v',_,rfl,ho2,by simp;omega,hI⟩;simp only[wO,wP,c1,c2,c3,go_sem,seval];refine hfin _ _ (hgp _ _) (by rw[hst,c3];rfl) _ _ ?_;intro v' rd pa ho2;simp only[aZ hb2,go_sem,seval];exact⟨v',_,rfl,ho2,by simp;omega,hI⟩
 have hst:oU l x=gX x.op.bs (x.args.es.map (oV l)):=by simp[oU,hc]
 simp only[uC,Bool.or_eq_false_iff]at hc;obtain⟨c1,c2⟩:=hc;have hxl:=x.args.ok;obtain⟨hget,e1,e2,ew⟩:=dJ rfl hb2;simp only[wO,wP,c1,c2,go_sem,seval];have hlen:=ho.flen;have hll:(l.length:Int)<=33554432:=by simp only[dC,List.length_cons]at hb;omega
 have hgp:∀o1 o2 k,k≠5->((hp.put 5 (hp.next 5) o1).put 5 (hp.next 5) o2).get k=hp.get k:=by intro o1 o2 k hk;rw[aI,if_neg (Ne.symm hk),aI,if_neg (Ne.symm hk)]
 have hg5:∀o1 o2,((hp.put 5 (hp.next 5) o1).put 5 (hp.next 5) o2).get 5=some (hp.next 5,o2):=by intro o1 o2;rw[aI,if_pos rfl]
 generalize hH:(hp.put 5 (hp.next 5) (Ob.blk [AV.str [],AV.int IntKind.i64 0,AV.sl true [] true] 3 true true false)).put 5 (hp.next 5) (Ob.blk [AV.str x.op.bs,AV.int IntKind.i64 x.num,AV.sl x.args.nl (List.map aH x.args.es) x.args.cl] 3 true true false)=H;have hH5:H.get 5=some (hp.next 5,Ob.blk [AV.str x.op.bs,AV.int IntKind.i64 x.num,AV.sl x.args.nl (List.map aH x.args.es) x.args.cl] 3 true true false):=by rw[<-hH];exact hg5 _ _
 have hHk:∀k,k≠5->H.get k=hp.get k:=by intro k hk;rw[<-hH];exact hgp _ _ k hk
 clear hgp hg5 hH
 refine aJ x.args.es (λd2 r2 env hp'=>∃v8,env=GZ (.sl nl ((d++x::r).map aP.av) cl) v (.int .i64 d.length) (.pt 5 (hp.next 5) 0) v8 (.int .i64 d2.length) /\
  Own hp' 13 1 false v8 ((d2.map (oV l)).map AV.bool)/\∀k,k≠13->hp'.get k=H.get k) ?_ ?_ ?_
 exact⟨_,rfl,Own.nil _ _ _ _ _ _ rfl,λ_ _=>rfl⟩;rintro env hp' ⟨v8,rfl,ho8,hfr⟩;have hg5:=(hfr 5 (by omega)).trans hH5;simp only[GY,GZ,hg5,bG,go_sem,seval];obtain⟨nl8,cl8,keys,hsn,hnl8⟩:=ho8.snap (El.bools _) 62;have h2:=h120 x.op.bs nl8 cl8 (x.args.es.map (oV l)) (by simpa using hxl);rw[<-hst]at h2;refine cR h2 (sT (by simp only[go_sem,seval]) hsn) (v:=.bool (oU l x)) (pa:=[]) rfl (Wk ?_);obtain⟨k,hkm,ho'⟩:=ho;have hk13:k≠13/\k≠5:=by rcases hks k hkm with h|h|h<;>omega
 refine uW (kb:=0) (s:=21) (k1:=k) (ho'.mono ?_) (El.bools l) (xs:=[.bool (oU l x)]) (by intro y hy;simp at hy;subst hy;exact El.bool _) (by simp) (by simp;omega) (by omega) ?_;rw[hfr k hk13.1,hHk k hk13.2];intro v' rd pa ho2 _;simp only[aZ hb2,go_sem,seval];exact⟨v',_,rfl,⟨21,by simp,by simpa using ho2⟩,by simp;omega,hI⟩;rintro d2 a r2 env hp' hes ⟨v8,rfl,ho8,hfr⟩;have hb3:(d2++a::r2).length<=big:=by rw[<-hes];exact hxl
 have hfin:∀(c:Bool),c=oV l a->∀(Q:AV->Eff->Prop)(t:Tok Q),
   (∀v' rd pa,Own (Eff.app hp' (.pat rd pa)) 13 1 false v' (((d2++[a]).map (oV l)).map AV.bool)->(∀k,k≠13->(Eff.app hp' (.pat rd pa)).get k=H.get k)->Q v' (.pat rd pa))->XO pg 0 (.app 1 false 1) 13 hp' [v8,.sl false [.bool c] true] Q t:=by
  intro c hcc Q t hq;refine gR (kb:=0) (s:=13) ho8 (El.bools _) (xs:=[.bool c]) (by intro y hy;simp at hy;subst hy;exact El.bool _) (by simp[big]at *;omega) (by omega) ?_;intro v' rd pa ho2 hk _;refine hq v' rd pa (by simpa[hcc] using ho2) (λk hk13=>?_);rw[hk k (by omega),hfr k hk13]
 obtain⟨hget2,f1,f2,fw⟩:=dJ hes hxl;have hg5:=(hfr 5 (by omega)).trans hH5;cases z1:decide (0<=a);simp only[GY,GZ,hg5,f1,f2,hget2,z1,go_sem,seval];refine hfin _ (by simp[oV,z1]) _ _ ?_;intro v' rd pa ho2 hk2;simp only[aZ hb3,go_sem,seval];exact⟨v',rfl,ho2,hk2⟩;cases z2:decide (a<(l.length:Int));simp only[GY,GZ,hg5,f1,f2,hget2,z1,z2,↓hlen,go_sem,seval];refine hfin _ (by simp[oV,z2]) _ _ ?_;intro v' rd pa ho2 hk2;simp only[aZ hb3,go_sem,seval];exact⟨v',rfl,ho2,hk2⟩;simp only[aR]at z1 z2;obtain⟨k,e,hv,hg,hkm⟩:=ho.at z1 z2;have hk13:k≠13/\k≠5:=by rcases hks k hkm with h|h|h<;>omega
 have hgk:hp'.get k=some (e,.blk (l.map AV.bool) 1 false false false):=by rw[hfr k hk13.1,hHk k hk13.2,hg]
 have hla:l[a.toNat]?=some (l[a.toNat]'(by omega)):=aW (by omega);have z1':(0<=a)=True:=aK z1;have z2':(a<(l.length:Int))=True:=aK z2;have z3:decide (0<=a)=true:=decide_eq_true z1;have z4:decide (a<(l.length:Int))=true:=decide_eq_true z2;subst hv;simp only[GY,GZ,hg5,f1,f2,hget2,z3,z4,z1',z2',hgk,hla,Nat.mul_one,bF,go_sem,seval];refine hfin _ (by simp[oV,z1,z2,hla]) _ _ ?_;intro v' rd pa ho2 hk2;simp only[aZ hb3,go_sem,seval];exact⟨v',rfl,ho2,hk2⟩
set_option maxHeartbeats 1000000 in
theorem c83(hf:pg.fs 83=some aDu)(h84:∀(nl cl:Bool) (code:List aP),code.length<=16777216->∀(nl' cl':Bool) (args:List Bool),args.length<=16777216->Ret pg 84 [.sl nl (code.map aP.av) cl,.sl nl' (args.map AV.bool) cl'] (.bool (fD code args)))
  (h120:∀(op:List UInt8)(nl cl:Bool)(aSj:List Bool),aSj.length<=big->Ret pg 120 [.str op,.sl nl (aSj.map AV.bool) cl] (.bool (gX op aSj)))
  (nl cl:Bool) (vals:List Typ):∀p:aC,p.ok->Ret pg 83 [p.av,.sl nl (vals.map Typ.av) cl] (.bool (fO vals p)):=by
 refine aC.ind' λp ih hp=>?_;obtain⟨hk,hks⟩:=(aC.ok_iff p).1 hp;refine Ret.ofX hf ?_;unfold aDu;refine Wk ?_;generalize hH:Hp.put [] 1 0 _=H;have hH1:H.get 1=some (0,.blk [.str p.op.bs,.int .i64 p.num,.int .i64 p.value,.str p.name.bs,.sl p.at_.nl (p.at_.es.map Lin.av) p.at_.cl,.bool p.dyn,.int .i64 p.check,.sl p.fn.nl (p.fn.es.map aP.av) p.fn.cl,.sl p.knl (p.aSj.map aC.av) p.kcl] 9 true true false):=by rw[<-hH,aI,if_pos rfl]
 clear hH;rw[E1];refine aJ p.aSj (λd r env hp=>∃v,env=VB (.sl nl (vals.map Typ.av) cl) (.pt 1 0 0) v (.int .i64 d.length)/\Own hp 9 1 false v ((d.map (fO vals)).map AV.bool)/\hp.get 1=H.get 1) ?_ ?_ ?_;exact⟨_,rfl,Own.nil _ _ _ _ _ _ rfl,rfl⟩
 ·rintro env hp ⟨v,rfl,ho,h1⟩;rw[hH1]at h1;have hlen:=ho.flen;have hkl:(p.aSj.map (fO vals)).length<=big:=by simpa using hk
  generalize p.aSj.map (fO vals)=ks at ho hlen hkl ⊢;simp only[VA,VB,h1,bG,go_sem,seval];cases o1:decide (p.op.bs=[99,111,110,115,116])
  case true=>
   repeat' (first|simp only[*,go_sem,seval]|refine bB (λ_=>?_) (λ_=>?_)|refine bD (λ_=>?_) (λ_=>?_)|refine aY ?_)
   all_goals (simp_all [gK])
  simp only[h1,go_sem,seval];cases o2:decide (p.op.bs=[108,105,110,101,97,114])
  case true=>refine Wk ?_;simp[gK,o1,o2]
  simp only[h1,go_sem,seval];cases o3:decide (p.op.bs=[114,101,97,100])
  case true=>
   have hs:gK vals p.op.bs p.num p.value p.fn.es ks=zR vals p.value:=by simp[gK,o1,o2,o3]
   rw[hs];cases z1:decide (0<=p.value);simp only[h1,z1,go_sem,seval];simp[zR,z1];cases z2:decide (p.value<(vals.length:Int));simp only[h1,z1,z2,go_sem,seval];simp[zR,z2];simp only[aR]at z1 z2;have z1':(0<=p.value)=True:=aK z1;have z3:decide (0<=p.value)=true:=decide_eq_true z1;have z4:decide (p.value<(vals.length:Int))=true:=decide_eq_true z2;obtain⟨t,hla⟩:∃t,vals[p.value.toNat]?=some t:=⟨_,aW (by omega)⟩
   simp only[h1,z3,z4,z1',hla,go_sem,seval];simp only[zR,z3,z4,hla,Option.map_some,Option.getD_some,cE]
  simp only[h1,go_sem,seval];cases o4:decide (p.op.bs=[105,102])
  case true=>
   have hs:gK vals p.op.bs p.num p.value p.fn.es ks=ifT ks:=by simp[gK,o1,o2,o3,o4]
   rw[hs]
   match ks,ho,hlen,hkl with
   |[],ho,hlen,hkl=>simp only[h1,↓hlen,go_sem,seval];rfl
   |[a],ho,hlen,hkl=>simp only[h1,↓hlen,go_sem,seval];rfl
   |a::b::c::r,ho,hlen,hkl=>
    have h3:decide (((((r.length+1+1+1):Nat):Int))=2)=false:=by simp;omega
    simp only[h1,↓hlen,h3,go_sem,seval];rfl
   |[a,b],ho,hlen,hkl=>
    obtain⟨e,rfl,hg⟩:∃e,v = .rf 9 e 0 2 2/\hp.get 9=some (e,.blk [.bool a,.bool b] 1 false false false):=by
     rcases ho with ⟨he,_⟩|⟨e,cs,rfl,hg,hu⟩
     simp at he;rw[eP]at hu;cases hu;exact⟨e,rfl,hg⟩
    have q1:(0:Int)<((2:Nat):Int):=by decide
    have q2:(1:Int)<((2:Nat):Int):=by decide
    cases a;simp only[h1,hg,go_sem,seval];rfl;simp only[h1,hg,go_sem,seval];rfl
  simp only[h1,go_sem,seval];cases o5:decide (p.op.bs=[114,101,100,117,99,101])
  case true=>
   have hs:gK vals p.op.bs p.num p.value p.fn.es ks=aIN p.fn.es ks:=by simp[gK,o1,o2,o3,o4,o5]
   rw[hs]
   match ks,ho,hlen,hkl with
   |[],ho,hlen,hkl=>simp only[h1,↓hlen,go_sem,seval];refine aY ?_;rfl
   |[a],ho,hlen,hkl=>simp only[h1,↓hlen,go_sem,seval];refine aY ?_;rfl
   |a::b::c::r,ho,hlen,hkl=>
    have h3:decide (((((r.length+1+1+1):Nat):Int))=2)=false:=by simp;omega
    simp only[h1,↓hlen,h3,go_sem,seval];refine aY ?_;rfl
   |[a,b],ho,hlen,hkl=>
    obtain⟨e,rfl,hg⟩:∃e,v = .rf 9 e 0 2 2/\hp.get 9=some (e,.blk [.bool a,.bool b] 1 false false false):=by
     rcases ho with ⟨he,_⟩|⟨e,cs,rfl,hg,hu⟩
     simp at he;rw[eP]at hu;cases hu;exact⟨e,rfl,hg⟩
    cases a;simp only[h1,hg,go_sem,seval];refine aY ?_;rfl;simp only[h1,hg,go_sem,seval];refine aB (h84 p.fn.nl p.fn.cl p.fn.es p.fn.ok false true [true,b] (by simp)) (Wk ?_);refine aY ?_;rfl
  simp only[h1,go_sem,seval];cases o6:decide (p.op.bs=[99,111,100,101])
  case true=>
   have hs:gK vals p.op.bs p.num p.value p.fn.es ks=fD p.fn.es ks:=by simp[gK,o1,o2,o3,o4,o5,o6]
   rw[hs];simp only[h1,go_sem,seval];obtain⟨nl8,cl8,keys,hsn,hnl8⟩:=ho.snap (El.bools _) 62;have h2:=h84 p.fn.nl p.fn.cl p.fn.es p.fn.ok nl8 cl8 ks hkl;refine cR h2 (sT (by simp only[go_sem,seval]) hsn) (v:=.bool (fD p.fn.es ks)) (pa:=[]) rfl ?_;simp only[go_sem,seval]
  have hs:gK vals p.op.bs p.num p.value p.fn.es ks=gX p.op.bs ks:=by simp[gK,o1,o2,o3,o4,o5,o6]
  rw[hs];simp only[h1,go_sem,seval];obtain⟨nl8,cl8,keys,hsn,hnl8⟩:=ho.snap (El.bools _) 62;have h2:=h120 p.op.bs nl8 cl8 ks hkl;refine cR h2 (sT (by simp only[go_sem,seval]) hsn) (v:=.bool (gX p.op.bs ks)) (pa:=[]) rfl ?_;simp only[go_sem,seval]
 rintro d x r env hp hes ⟨v,rfl,ho,h1⟩;have hxm:x∈p.aSj:=by rw[hes];simp
 have hx:=ih x hxm (hks x hxm);have hb2:(d++x::r).length<=big:=by rw[<-hes];exact hk
 obtain⟨hget,e1,e2,ew⟩:=dJ hes hk;have h1':=h1.trans hH1;simp only[VA,VB,h1',hget,e1,e2,go_sem,seval];refine aB hx (Wk ?_);refine gR (kb:=0) (s:=9) (ho.mono ?_) (El.bools _) (xs:=[.bool (fO vals x)]) (by intro y hy;simp at hy;subst hy;exact El.bool _) (by simp[big]at *;omega) (by omega) ?_;simp only[go_sem,seval];intro v' rd pa ho2 hk2 _;simp only[ew,go_sem,seval];exact⟨v',rfl,by simpa using ho2,by rw[hk2 1 (by omega)];simp only[h1,go_sem,seval]⟩
end
end
end Go.Tev
