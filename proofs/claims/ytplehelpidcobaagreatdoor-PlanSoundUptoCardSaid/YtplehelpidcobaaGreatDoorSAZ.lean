import Derived.Test.YtplehelpidcobaaGreatDoorSAV
import Derived.Test.YtplehelpidcobaaGreatDoorSAR
import Derived.Test.YtplehelpidcobaaGreatDoorSAT
import Derived.Test.YtplehelpidcobaaGreatDoorSAS
set_option linter.all false
section
namespace Go.Tev
def iEq(x y:Int):Bool:=decide (x=y)
section
variable{pg:Pg}
theorem WU(hf:pg.fs 15=some cf15)(nl cl nl' cl':Bool)(a b:List Int)(hb:a.length<=big):Ret pg 15 [.sl nl (a.map aG) cl,.sl nl' (b.map aG) cl'] (.bool (eqL iEq a b)):=by
 refine Ret.ofX hf ?_
 unfold cf15
 cases b2:decide ((a.length:Int)=(b.length:Int))
 case false=>
  simp only[b2,go_sem,seval]
  rw[tH b2]
 case true=>
 have hl:a.length=b.length:=by have:=of_decide_eq_true b2;omega
 simp only[b2,go_sem,seval]
 refine aI a (fun d r env hp=>env=cf15E0 (.sl nl (a.map aG) cl) (.sl nl' (b.map aG) cl') (.int .i64 d.length)/\eqL iEq a b=eqL iEq r (b.drop d.length)) ?_ ?_ ?_
 ·exact⟨rfl,rfl⟩
 ·rintro env hp ⟨rfl,hI⟩
  simp only[cf15L0,cf15E0,aW,go_sem,seval]
  rw[hI,lE hl]
 ·rintro d x r env hp hes ⟨rfl,hI⟩
  obtain⟨hget,e1,e2,ew⟩:=cF hes hb
  obtain⟨y,gy,f1,f2,hq⟩:=yZ (q:=iEq) hes hl
  rw[hq]at hI
  rw[hI]
  clear hI
  cases hxy:decide (x=y)
  ·simp only[cf15L0,cf15E0,e1,e2,hget,gy,f1,f2,hxy,go_sem,seval]
   exact⟨by kernel_rfl,by simp[iEq,hxy]⟩
  ·simp only[cf15L0,cf15E0,e1,e2,hget,gy,f1,f2,hxy,ew,go_sem,seval]
   exact⟨by kernel_rfl,rfl,by simp[iEq,hxy]⟩
theorem c161(hf:pg.fs 161=some cf161)(h15:pg.fs 15=some cf15)(nl cl nl' cl':Bool)(a b:List aJ)(hb:a.length<=big):Ret pg 161 [.sl nl (a.map aJ.av) cl,.sl nl' (b.map aJ.av) cl'] (.bool (eqL fC a b)):=by
 refine Ret.ofX hf ?_
 unfold cf161
 cases b2:decide ((a.length:Int)=(b.length:Int))
 case false=>
  simp only[b2,go_sem,seval]
  rw[tH b2]
 case true=>
 have hl:a.length=b.length:=by have:=of_decide_eq_true b2;omega
 simp only[b2,go_sem,seval]
 refine aI a (fun d r env hp=>env=cf161E0 (.sl nl (a.map aJ.av) cl) (.sl nl' (b.map aJ.av) cl') (.int .i64 d.length)/\eqL fC a b=eqL fC r (b.drop d.length)) ?_ ?_ ?_
 ·exact⟨rfl,rfl⟩
 ·rintro env hp ⟨rfl,hI⟩
  simp only[cf161L0,cf161E0,aW,go_sem,seval]
  rw[hI,lE hl]
 ·rintro d x r env hp hes ⟨rfl,hI⟩
  obtain⟨hget,e1,e2,ew⟩:=cF hes hb
  obtain⟨y,gy,f1,f2,hq⟩:=yZ (q:=fC) hes hl
  rw[hq]at hI
  rw[hI]
  clear hI
  have hse:fC x y=(decide (x.op.bs=y.op.bs)&&decide (x.num=y.num)&&eqL iEq x.args.es y.args.es):=rfl
  cases c1:decide (x.op.bs=y.op.bs)
  case false=>
   simp only[cf161L0,cf161E0,e1,e2,hget,gy,f1,f2,c1,go_sem,seval]
   exact⟨by kernel_rfl,by simp[hse,c1]⟩
  case true=>
  cases c2:decide (x.num=y.num)
  case false=>
   simp only[cf161L0,cf161E0,e1,e2,hget,gy,f1,f2,c1,c2,go_sem,seval]
   exact⟨by kernel_rfl,by simp[hse,c2]⟩
  case true=>
  have a1:=WU h15 x.args.nl x.args.cl y.args.nl y.args.cl x.args.es y.args.es x.args.ok
  simp only[cf161L0,cf161E0,e1,e2,hget,gy,f1,f2,c1,c2,go_sem,seval]
  refine aB a1 (by simp only[go_sem,seval]) rfl ?_
  cases c3:eqL iEq x.args.es y.args.es
  ·simp only[go_sem,seval]
   exact⟨by kernel_rfl,by simp[hse,c3]⟩
  ·simp only[ew,go_sem,seval]
   exact⟨by kernel_rfl,rfl,by simp[hse,c1,c2,c3]⟩
def eY:Str:=⟨[],by simp[big]⟩
set_option maxHeartbeats 1000000 in
theorem c118(hf:pg.fs 118=some cf118)(h161:pg.fs 161=some cf161)(h15:pg.fs 15=some cf15)(h121:∀a b:bI,Ret pg 121 [a.av,b.av] (.bool (fD a b))) :
  ∀p:aC,p.ok->∀q:aC,Ret pg 118 [p.av,q.av] (.bool (dQ p q)):=by
 refine aC.ind' fun p ih hp q=>?_
 obtain⟨hk,hks⟩:=(aC.ok_iff p).1 hp
 have a1:=c161 h161 h15 p.fn.nl p.fn.cl q.fn.nl q.fn.cl p.fn.es q.fn.es p.fn.ok
 have a2:=h121 ⟨eY,p.at_⟩ ⟨eY,q.at_⟩
 have hs2:fD ⟨eY,p.at_⟩ ⟨eY,q.at_⟩=eqL bH p.at_.es q.at_.es:=by simp[fD,eY]
 rw[hs2,bI.avc,bI.avc]at a2
 clear h121 h161 h15 hs2
 refine Ret.ofX hf ?_
 rw[oN,lB]
 unfold cf118
 cases b1:decide (p.op.bs=q.op.bs)
 case false=>
  simp only[b1,go_sem,seval]
 case true=>
 cases b2:decide (p.num=q.num)
 case false=>
  simp only[b1,b2,go_sem,seval]
 case true=>
 cases b3:decide (p.value=q.value)
 case false=>
  simp only[b1,b2,b3,go_sem,seval]
 case true=>
 cases b4:decide (p.name.bs=q.name.bs)
 case false=>
  simp only[b1,b2,b3,b4,go_sem,seval]
 case true=>
 cases b5:(p.dyn==q.dyn)
 case false=>
  simp only[b1,b2,b3,b4,b5,go_sem,seval]
 case true=>
 cases b6:decide (p.check=q.check)
 case false=>
  simp only[b1,b2,b3,b4,b5,b6,go_sem,seval]
 case true=>
 cases b7:decide ((p.kids.length:Int)=(q.kids.length:Int))
 case false=>
  rw[tH b7]
  simp only[b1,b2,b3,b4,b5,b6,b7,go_sem,seval]
 case true=>
 simp only[b1,b2,b3,b4,b5,b6,b7,go_sem,seval]
 refine aB a1 (by simp only[go_sem,seval]) rfl ?_
 cases b8:eqL fC p.fn.es q.fn.es
 case false=>
  simp only[go_sem,seval]
 case true=>
 simp only[go_sem,seval]
 refine aB a2 (by simp only[go_sem,seval]) rfl ?_
 cases b9:eqL bH p.at_.es q.at_.es
 case false=>
  simp only[go_sem,seval]
 case true=>
 have hl:p.kids.length=q.kids.length:=by have:=of_decide_eq_true b7;omega
 simp only[go_sem,seval]
 refine aI p.kids (fun d r env hp=>hp.get 1=some (0,.blk [.str p.op.bs,.int .i64 p.num,.int .i64 p.value,.str p.name.bs,.sl p.at_.nl (p.at_.es.map Lin.av) p.at_.cl,.bool p.dyn,.int .i64 p.check,.sl p.fn.nl (p.fn.es.map aJ.av) p.fn.cl,.sl p.knl (p.kids.map aC.av) p.kcl] 9 true true false) /\
   hp.get 5=some (0,.blk [.str q.op.bs,.int .i64 q.num,.int .i64 q.value,.str q.name.bs,.sl q.at_.nl (q.at_.es.map Lin.av) q.at_.cl,.bool q.dyn,.int .i64 q.check,.sl q.fn.nl (q.fn.es.map aJ.av) q.fn.cl,.sl q.knl (q.kids.map aC.av) q.kcl] 9 true true false) /\
   env=cf118E0 (.pt 1 0 0) (.pt 5 0 0) (.int .i64 d.length)/\eqL dQ p.kids q.kids=eqL dQ r (q.kids.drop d.length)) ?_ ?_ ?_
 ·exact⟨rfl,rfl,rfl,rfl⟩
 ·rintro env hp ⟨g1,g5,rfl,hI⟩
  simp only[cf118L0,cf118E0,g1,aW,go_sem,seval]
  rw[hI,lE hl]
 ·rintro d x r env hp hes ⟨g1,g5,rfl,hI⟩
  obtain⟨hget,e1,e2,ew⟩:=cF hes hk
  obtain⟨y,gy,f1,f2,hq⟩:=yZ (q:=dQ) hes hl
  rw[hq]at hI
  rw[hI]
  clear hI a1 a2
  have hx:x∈p.kids:=by rw[hes];simp
  have a3:=ih x hx (hks x hx) y
  clear ih hks
  simp only[cf118L0,cf118E0,g1,g5,hget,e1,e2,gy,f1,f2,go_sem,seval]
  refine aB a3 (by simp only[go_sem,seval]) rfl ?_
  cases hxy:dQ x y
  ·simp only[go_sem,seval]
   kernel_rfl
  ·simp only[ew,go_sem,seval]
   exact⟨by kernel_rfl,g1,g5,rfl⟩
theorem c85(hf:pg.fs 85=some cf85)(h121:∀a b:bI,Ret pg 121 [a.av,b.av] (.bool (fD a b)))(nl cl nl' cl':Bool)(a b:List Lin)(ha:a.length<=big)(hb:b.length<=big) :
  Ret pg 85 [.sl nl (a.map Lin.av) cl,.sl nl' (b.map Lin.av) cl'] (.bool (eqL bH a b)):=by
 have a2:=h121 ⟨eY,⟨nl,a,cl,ha⟩⟩ ⟨eY,⟨nl',b,cl',hb⟩⟩
 have hs2:fD ⟨eY,⟨nl,a,cl,ha⟩⟩ ⟨eY,⟨nl',b,cl',hb⟩⟩=eqL bH a b:=by simp[fD,eY]
 rw[hs2,bI.avc,bI.avc]at a2
 refine Ret.ofX hf ?_
 unfold cf85
 simp only[go_sem,seval]
 refine aB a2 (by simp only[go_sem,seval]) rfl ?_
 simp only[go_sem,seval]
def fnP(f:Sl aJ):aC:=.mk eY 0 0 eY (gI Lin) false 0 f true [] true
theorem TL(f:Sl aJ):(fnP f).ok:=by simp[fnP,aC.ok,aC.oks]
theorem TM(f g:Sl aJ):dQ (fnP f) (fnP g)=eqL fC f.es g.es:=by
 rw[oN,lB]
 simp[fnP,aC.op,aC.num,aC.value,aC.name,aC.at_,aC.dyn,aC.check,aC.fn,aC.kids,gI,eqL]
theorem c119(hf:pg.fs 119=some cf119)(h118:∀p:aC,p.ok->∀q:aC,Ret pg 118 [p.av,q.av] (.bool (dQ p q)))(a b:Sl aJ) :
  Ret pg 119 [.sl a.nl (a.es.map aJ.av) a.cl,.sl b.nl (b.es.map aJ.av) b.cl] (.bool (eqL fC a.es b.es)):=by
 have a2:=h118 (fnP a) (TL a) (fnP b)
 rw[TM,aC.avc,aC.avc]at a2
 refine Ret.ofX hf ?_
 unfold cf119
 simp only[go_sem,seval]
 refine aB a2 (by simp only[go_sem,seval]) rfl ?_
 simp only[go_sem,seval]
theorem c88(hf:pg.fs 88=some cf88)(h121:∀a b:bI,Ret pg 121 [a.av,b.av] (.bool (fD a b)))(a b:Typ):Ret pg 88 [a.av,b.av] (.bool (gG a b)):=by
 have a2:=h121 a.shape b.shape
 rw[bI.avc,bI.avc]at a2
 refine Ret.ofX hf ?_
 unfold cf88
 cases b1:decide (a.elem.bs=b.elem.bs)
 case false=>
  simp only[b1,go_sem,seval]
  simp[gG,b1]
 case true=>
 simp only[b1,go_sem,seval]
 refine aB a2 (by simp only[go_sem,seval]) rfl ?_
 simp only[go_sem,seval]
 simp[gG,b1]
theorem c81(hf:pg.fs 81=some cf81)(h85:pg.fs 85=some cf85)(h121:∀a b:bI,Ret pg 121 [a.av,b.av] (.bool (fD a b)))(h118:∀p:aC,p.ok->∀q:aC,Ret pg 118 [p.av,q.av] (.bool (dQ p q)))(h119:pg.fs 119=some cf119)
  (x y:aD) (hx:x.body.ok) (hi:x.index.ok):Ret pg 81 [x.av,y.av] (.bool (jU x y)):=by
 have a1:=c85 h85 h121 x.space.nl x.space.cl y.space.nl y.space.cl x.space.es y.space.es x.space.ok y.space.ok
 have a2:=h118 x.body hx y.body
 have a3:=h118 x.index hi y.index
 have a4:=c119 h119 h118 x.fn y.fn
 rw[aC.avc,aC.avc]at a2 a3
 clear h85 h121 h118 h119
 refine Ret.ofX hf ?_
 unfold cf81
 cases b1:decide (x.kind=y.kind)
 case false=>
  simp only[b1,jU,aD.av,aD.cells,aC.cells,go_sem,seval]
 case true=>
 cases b2:decide (x.value=y.value)
 case false=>
  simp only[b1,b2,jU,go_sem,seval]
 case true=>
 cases b3:decide (x.source=y.source)
 case false=>
  simp only[b1,b2,b3,jU,go_sem,seval]
 case true=>
 cases b4:decide (x.check=y.check)
 case false=>
  simp only[b1,b2,b3,b4,jU,go_sem,seval]
 case true=>
 simp only[b1,b2,b3,b4,go_sem,seval]
 refine aB a1 (by simp only[go_sem,seval]) rfl ?_
 cases b5:eqL bH x.space.es y.space.es
 case false=>
  simp only[b1,b2,b3,b4,b5,jU,go_sem,seval]
 case true=>
 simp only[go_sem,seval]
 refine aB a2 (by simp only[go_sem,seval]) rfl ?_
 cases b6:dQ x.body y.body
 case false=>
  simp only[b1,b2,b3,b4,b5,b6,jU,go_sem,seval]
 case true=>
 simp only[go_sem,seval]
 refine aB a3 (by simp only[go_sem,seval]) rfl ?_
 cases b7:dQ x.index y.index
 case false=>
  simp only[b1,b2,b3,b4,b5,b6,b7,jU,go_sem,seval]
 case true=>
 simp only[go_sem,seval]
 refine aB a4 (by simp only[go_sem,seval]) rfl ?_
 simp only[b1,b2,b3,b4,b5,b6,b7,jU,go_sem,seval]
theorem c82(hf:pg.fs 82=some cf82)(x:aD):Ret pg 82 [x.av] (tY x).av:=by
 refine Ret.ofX hf ?_
 unfold cf82
 cases b2:decide (x.kind=2)
 case true=>
  have h2:x.kind=2:=of_decide_eq_true b2
  have h3:decide (x.kind=3)=false:=by simp[h2]
  simp only[b2,h3,go_sem,seval]
  simp[tY,h2]
  rfl
 case false=>
 cases b3:decide (x.kind=3)
 case true=>
  have h3:x.kind=3:=of_decide_eq_true b3
  simp only[b2,b3,go_sem,seval]
  refine And.intro (by kernel_rfl) ?_
  simp[tY,h3]
  rfl
 case false=>
  have h2:=of_decide_eq_false b2
  have h3:=of_decide_eq_false b3
  simp only[b2,b3,go_sem,seval]
  simp[tY,h2,h3]
  rfl
end
end Go.Tev
end
section
namespace Go.Tev
theorem bV{op:List UInt8}{p:sB}{r:AV}(h:iI op=some p)(hr:∃nl cl,r = .tup [.sl nl (p.params.map .str) cl,.str p.result,.bool true]):iQ op r:=by
 simp only[iQ,h];exact hr
theorem GU{op:List UInt8}{r:AV}(h:iI op=none)(hr:r = .tup [.sl true [] true,.str [],.bool false]):iQ op r:=by
 simp only[iQ,h];exact hr
section
variable{pg:Pg}
theorem c125(hf:pg.fs 125=some cf125)(op:List UInt8):bJ pg 125 [.str op] (iQ op):=by
 refine bJ.ofX hf ?_
 unfold cf125
 cases b0:decide (op=[97,100,100])
 case true=>
  have hop:op=[97,100,100]:=of_decide_eq_true b0
  simp only[b0,go_sem,seval]
  subst hop
  exact bV rfl ⟨_,_,rfl⟩
 case false=>
 cases b1:decide (op=[115,117,98])
 case true=>
  have hop:op=[115,117,98]:=of_decide_eq_true b1
  simp only[b0,b1,go_sem,seval]
  subst hop
  exact bV rfl ⟨_,_,rfl⟩
 case false=>
 cases b2:decide (op=[109,117,108])
 case true=>
  have hop:op=[109,117,108]:=of_decide_eq_true b2
  simp only[b0,b1,b2,go_sem,seval]
  subst hop
  exact bV rfl ⟨_,_,rfl⟩
 case false=>
 cases b3:decide (op=[100,105,118])
 case true=>
  have hop:op=[100,105,118]:=of_decide_eq_true b3
  simp only[b0,b1,b2,b3,go_sem,seval]
  subst hop
  exact bV rfl ⟨_,_,rfl⟩
 case false=>
 cases b4:decide (op=[109,111,100])
 case true=>
  have hop:op=[109,111,100]:=of_decide_eq_true b4
  simp only[b0,b1,b2,b3,b4,go_sem,seval]
  subst hop
  exact bV rfl ⟨_,_,rfl⟩
 case false=>
 cases b5:decide (op=[109,105,110])
 case true=>
  have hop:op=[109,105,110]:=of_decide_eq_true b5
  simp only[b0,b1,b2,b3,b4,b5,go_sem,seval]
  subst hop
  exact bV rfl ⟨_,_,rfl⟩
 case false=>
 cases b6:decide (op=[109,97,120])
 case true=>
  have hop:op=[109,97,120]:=of_decide_eq_true b6
  simp only[b0,b1,b2,b3,b4,b5,b6,go_sem,seval]
  subst hop
  exact bV rfl ⟨_,_,rfl⟩
 case false=>
 cases b7:decide (op=[110,101,103])
 case true=>
  have hop:op=[110,101,103]:=of_decide_eq_true b7
  simp only[b0,b1,b2,b3,b4,b5,b6,b7,go_sem,seval]
  subst hop
  exact bV rfl ⟨_,_,rfl⟩
 case false=>
 cases b8:decide (op=[97,98,115])
 case true=>
  have hop:op=[97,98,115]:=of_decide_eq_true b8
  simp only[b0,b1,b2,b3,b4,b5,b6,b7,b8,go_sem,seval]
  subst hop
  exact bV rfl ⟨_,_,rfl⟩
 case false=>
 cases b9:decide (op=[115,105,103,110])
 case true=>
  have hop:op=[115,105,103,110]:=of_decide_eq_true b9
  simp only[b0,b1,b2,b3,b4,b5,b6,b7,b8,b9,go_sem,seval]
  subst hop
  exact bV rfl ⟨_,_,rfl⟩
 case false=>
 cases b10:decide (op=[108,116])
 case true=>
  have hop:op=[108,116]:=of_decide_eq_true b10
  simp only[b0,b1,b2,b3,b4,b5,b6,b7,b8,b9,b10,go_sem,seval]
  subst hop
  exact bV rfl ⟨_,_,rfl⟩
 case false=>
 cases b11:decide (op=[108,101])
 case true=>
  have hop:op=[108,101]:=of_decide_eq_true b11
  simp only[b0,b1,b2,b3,b4,b5,b6,b7,b8,b9,b10,b11,go_sem,seval]
  subst hop
  exact bV rfl ⟨_,_,rfl⟩
 case false=>
 cases b12:decide (op=[103,116])
 case true=>
  have hop:op=[103,116]:=of_decide_eq_true b12
  simp only[b0,b1,b2,b3,b4,b5,b6,b7,b8,b9,b10,b11,b12,go_sem,seval]
  subst hop
  exact bV rfl ⟨_,_,rfl⟩
 case false=>
 cases b13:decide (op=[103,101])
 case true=>
  have hop:op=[103,101]:=of_decide_eq_true b13
  simp only[b0,b1,b2,b3,b4,b5,b6,b7,b8,b9,b10,b11,b12,b13,go_sem,seval]
  subst hop
  exact bV rfl ⟨_,_,rfl⟩
 case false=>
 cases b14:decide (op=[101,113])
 case true=>
  have hop:op=[101,113]:=of_decide_eq_true b14
  simp only[b0,b1,b2,b3,b4,b5,b6,b7,b8,b9,b10,b11,b12,b13,b14,go_sem,seval]
  subst hop
  exact bV rfl ⟨_,_,rfl⟩
 case false=>
 cases b15:decide (op=[110,101])
 case true=>
  have hop:op=[110,101]:=of_decide_eq_true b15
  simp only[b0,b1,b2,b3,b4,b5,b6,b7,b8,b9,b10,b11,b12,b13,b14,b15,go_sem,seval]
  subst hop
  exact bV rfl ⟨_,_,rfl⟩
 case false=>
 cases b16:decide (op=[97,110,100])
 case true=>
  have hop:op=[97,110,100]:=of_decide_eq_true b16
  simp only[b0,b1,b2,b3,b4,b5,b6,b7,b8,b9,b10,b11,b12,b13,b14,b15,b16,go_sem,seval]
  subst hop
  exact bV rfl ⟨_,_,rfl⟩
 case false=>
 cases b17:decide (op=[111,114])
 case true=>
  have hop:op=[111,114]:=of_decide_eq_true b17
  simp only[b0,b1,b2,b3,b4,b5,b6,b7,b8,b9,b10,b11,b12,b13,b14,b15,b16,b17,go_sem,seval]
  subst hop
  exact bV rfl ⟨_,_,rfl⟩
 case false=>
 cases b18:decide (op=[120,111,114])
 case true=>
  have hop:op=[120,111,114]:=of_decide_eq_true b18
  simp only[b0,b1,b2,b3,b4,b5,b6,b7,b8,b9,b10,b11,b12,b13,b14,b15,b16,b17,b18,go_sem,seval]
  subst hop
  exact bV rfl ⟨_,_,rfl⟩
 case false=>
 cases b19:decide (op=[110,111,116])
 case true=>
  have hop:op=[110,111,116]:=of_decide_eq_true b19
  simp only[b0,b1,b2,b3,b4,b5,b6,b7,b8,b9,b10,b11,b12,b13,b14,b15,b16,b17,b18,b19,go_sem,seval]
  subst hop
  exact bV rfl ⟨_,_,rfl⟩
 case false=>
 cases b20:decide (op=[115,101,108,101,99,116])
 case true=>
  have hop:op=[115,101,108,101,99,116]:=of_decide_eq_true b20
  simp only[b0,b1,b2,b3,b4,b5,b6,b7,b8,b9,b10,b11,b12,b13,b14,b15,b16,b17,b18,b19,b20,go_sem,seval]
  subst hop
  exact bV rfl ⟨_,_,rfl⟩
 case false=>
 cases b21:decide (op=[116,111,105,110,116])
 case true=>
  have hop:op=[116,111,105,110,116]:=of_decide_eq_true b21
  simp only[b0,b1,b2,b3,b4,b5,b6,b7,b8,b9,b10,b11,b12,b13,b14,b15,b16,b17,b18,b19,b20,b21,go_sem,seval]
  subst hop
  exact bV rfl ⟨_,_,rfl⟩
 case false=>
 simp only[b0,b1,b2,b3,b4,b5,b6,b7,b8,b9,b10,b11,b12,b13,b14,b15,b16,b17,b18,b19,b20,b21,go_sem,seval]
 refine GU ?_ rfl
 have n0:decide ([97,100,100]=op)=false:=by rw[<-b0,decide_eq_decide];exact eq_comm
 have n1:decide ([115,117,98]=op)=false:=by rw[<-b1,decide_eq_decide];exact eq_comm
 have n2:decide ([109,117,108]=op)=false:=by rw[<-b2,decide_eq_decide];exact eq_comm
 have n3:decide ([100,105,118]=op)=false:=by rw[<-b3,decide_eq_decide];exact eq_comm
 have n4:decide ([109,111,100]=op)=false:=by rw[<-b4,decide_eq_decide];exact eq_comm
 have n5:decide ([109,105,110]=op)=false:=by rw[<-b5,decide_eq_decide];exact eq_comm
 have n6:decide ([109,97,120]=op)=false:=by rw[<-b6,decide_eq_decide];exact eq_comm
 have n7:decide ([110,101,103]=op)=false:=by rw[<-b7,decide_eq_decide];exact eq_comm
 have n8:decide ([97,98,115]=op)=false:=by rw[<-b8,decide_eq_decide];exact eq_comm
 have n9:decide ([115,105,103,110]=op)=false:=by rw[<-b9,decide_eq_decide];exact eq_comm
 have n10:decide ([108,116]=op)=false:=by rw[<-b10,decide_eq_decide];exact eq_comm
 have n11:decide ([108,101]=op)=false:=by rw[<-b11,decide_eq_decide];exact eq_comm
 have n12:decide ([103,116]=op)=false:=by rw[<-b12,decide_eq_decide];exact eq_comm
 have n13:decide ([103,101]=op)=false:=by rw[<-b13,decide_eq_decide];exact eq_comm
 have n14:decide ([101,113]=op)=false:=by rw[<-b14,decide_eq_decide];exact eq_comm
 have n15:decide ([110,101]=op)=false:=by rw[<-b15,decide_eq_decide];exact eq_comm
 have n16:decide ([97,110,100]=op)=false:=by rw[<-b16,decide_eq_decide];exact eq_comm
 have n17:decide ([111,114]=op)=false:=by rw[<-b17,decide_eq_decide];exact eq_comm
 have n18:decide ([120,111,114]=op)=false:=by rw[<-b18,decide_eq_decide];exact eq_comm
 have n19:decide ([110,111,116]=op)=false:=by rw[<-b19,decide_eq_decide];exact eq_comm
 have n20:decide ([115,101,108,101,99,116]=op)=false:=by rw[<-b20,decide_eq_decide];exact eq_comm
 have n21:decide ([116,111,105,110,116]=op)=false:=by rw[<-b21,decide_eq_decide];exact eq_comm
 simp only[iI,jG,List.find?_cons,List.find?_nil,n0,n1,n2,n3,n4,n5,n6,n7,n8,n9,n10,n11,n12,n13,n14,n15,n16,n17,n18,n19,n20,n21]
theorem DY(n:Int)(s:aJ)(r:List aJ):eS n (s::r)=(iB s n&&eS (n+1) r):=rfl
set_option maxHeartbeats 1000000 in
theorem FZ(h124:pg.fs 124=some cf124)(h125:∀op,bJ pg 125 [.str op] (iQ op))(nl cl:Bool)(fn:List aJ)(hb:fn.length<=big)(n:Int)(g1:0<=n)(g2:n<=20)(g3:(fn.length:Int)<=60)
  (d:List aJ) (x:aJ) (r:List aJ) (hp:Hp) (hes:fn=d++x::r) (hI:eS n fn=eS (n+d.length) (x::r)) :
  XX pg 0 cf87L1 ⟨cf87E1 (.sl nl (fn.map aJ.av) cl) (.int .i64 n) (.int .i64 d.length),hp⟩
   (lN (fun st'=>clear cf87M1 st'.env=cf87E1 (.sl nl (fn.map aJ.av) cl) (.int .i64 n) (.int .i64 (d++[x]).length)/\eS n fn=eS (n+(d++[x]).length) r)
    (nI 0 (lN (fun st'=>XX pg 0 (.seq (.reg [⟨some 4,.mov,[.c (.bool true)],none,0,0⟩] false) .ret) st' (FL [.inl 4] (.bool (eS n fn))) ⟨⟩) (FL [.inl 4] (.bool (eS n fn)))))) ⟨⟩:=by
 obtain⟨hget,e1,e2,ew⟩:=cF hes hb
 rw[DY]at hI
 have en:n+((d++[x]).length:Int)=n+d.length+1:=by simp;omega
 have hdl:d.length<fn.length:=by rw[hes];simp
 have hw:wr .i64 (n+(d.length:Int))=n+d.length:=aV (by omega) (by omega)
 rw[en]
 rw[hI]
 clear hI
 cases o1:decide (x.op.bs=[99,111,110,115,116])
 case true=>
  have hs:iB x (n+d.length)=(decide ((x.args.es.length:Int)=0)&&lL x.num):=by simp[iB,of_decide_eq_true o1]
  rw[hs]
  cases o2:decide ((x.args.es.length:Int)=0)
  case false=>
   simp only[cf87L1,cf87E1,e1,e2,hget,o1,o2,go_sem,seval]
  case true=>
   simp only[cf87L1,cf87E1,e1,e2,hget,o1,o2,go_sem,seval]
   refine aB (RS h124 x.num) (by simp only[go_sem,seval]) rfl ?_
   cases o3:lL x.num
   ·simp only[go_sem,seval]
   ·simp only[ew,go_sem,seval]
    rfl
 case false=>
 cases o2:decide (x.op.bs=[116,114,117,116,104])
 case true=>
  have hs:iB x (n+d.length)=(decide ((x.args.es.length:Int)=0)&&pV x.num):=by
   have h1:=of_decide_eq_true o2
   simp[iB,h1]
  rw[hs]
  cases o3:decide ((x.args.es.length:Int)=0)
  case false=>
   simp only[cf87L1,cf87E1,e1,e2,hget,o1,o2,o3,go_sem,seval]
  case true=>
   simp only[cf87L1,cf87E1,e1,e2,hget,o1,o2,o3,go_sem,seval]
   refine aB (WY h124 x.num) (by simp only[go_sem,seval]) rfl ?_
   cases o4:pV x.num
   ·simp only[go_sem,seval]
   ·simp only[ew,go_sem,seval]
    rfl
 case false=>
 obtain⟨rr,hr,hP⟩:=h125 x.op.bs
 have hs:iB x (n+d.length)=(match iI x.op.bs with
  |none=>false
  |some p=>iE x.args.es (n+d.length)&&decide (x.num=0)&&decide ((x.args.es.length:Int)=(p.params.length:Int))):=by
  have h1:=of_decide_eq_false o1
  have h2:=of_decide_eq_false o2
  simp only[iB,h1,h2,if_false]
  rfl
 rw[hs]
 clear hs
 simp only[iQ]at hP
 cases hpt:iI x.op.bs with
 |none=>
  rw[hpt]at hP
  dsimp only at hP
  subst hP
  simp only[cf87L1,cf87E1,e1,e2,hget,o1,o2,go_sem,seval]
  refine aB hr (by simp only[go_sem,seval]) rfl ?_
  simp only[go_sem,seval]
 |some p=>
  rw[hpt]at hP
  dsimp only at hP
  obtain⟨nl2,cl2,rfl⟩:=hP
  dsimp only
  simp only[cf87L1,cf87E1,e1,e2,hget,o1,o2,go_sem,seval]
  refine aB hr (by simp only[go_sem,seval]) rfl ?_
  cases o3:decide ((x.args.es.length:Int)=(p.params.length:Int))
  case false=>
   simp only[o3,go_sem,seval]
  case true=>
  cases o4:decide (x.num=0)
  case false=>
   simp only[o3,o4,go_sem,seval]
  case true=>
  simp only[o3,o4,go_sem,seval]
  have hab:=x.args.ok
  refine aI x.args.es (fun d2 r2 env hp2=>env=cf87E0 (.sl nl (fn.map aJ.av) cl) (.int .i64 n) (.int .i64 d.length) (.pt 1 (hp.next 1) 0) (.int .i64 d2.length) /\
   hp2.get 1=some (hp.next 1,.blk [.str x.op.bs,.int .i64 x.num,.sl x.args.nl (x.args.es.map aG) x.args.cl] 3 true true false)/\iE x.args.es (n+d.length)=iE r2 (n+d.length)) ?_ ?_ ?_
  ·refine⟨rfl,?_,rfl⟩
   simp only[go_sem,seval]
  ·rintro env hp2 ⟨rfl,h1,hI⟩
   simp only[cf87L0,cf87E0,h1,aW,ew,go_sem,seval]
   refine⟨rfl,?_⟩
   rw[hI];simp[iE]
  ·rintro d2 a r2 env hp2 he2 ⟨rfl,h1,hI⟩
   obtain⟨hget2,f1,f2,fw⟩:=cF he2 hab
   have hI2:iE x.args.es (n+d.length)=((decide (0<=a)&&decide (a<n+d.length))&&iE r2 (n+d.length)):=by rw[hI];simp[iE]
   rw[hI2]
   clear hI hI2
   cases q1:decide (a<0)
   case true=>
    have:decide (0<=a)=false:=by simp at q1 ⊢;omega
    simp only[cf87L0,cf87E0,h1,f1,f2,hget2,q1,this,go_sem,seval]
   case false=>
   cases q2:decide (n+(d.length:Int)<=a)
   case true=>
    have:decide (a<n+d.length)=false:=by simp at q2 ⊢;omega
    simp only[cf87L0,cf87E0,h1,f1,f2,hget2,q1,hw,q2,this,go_sem,seval]
   case false=>
    have h3:decide (0<=a)=true:=by simp at q1 ⊢;omega
    have h4:decide (a<n+d.length)=true:=by simp at q2 ⊢;omega
    simp only[cf87L0,cf87E0,h1,f1,f2,hget2,q1,hw,q2,h3,h4,fw,go_sem,seval]
    rfl
set_option maxHeartbeats 1000000 in
theorem c87(hf:pg.fs 87=some cf87)(h124:pg.fs 124=some cf124)(h125:∀op,bJ pg 125 [.str op] (iQ op))(nl cl:Bool)(fn:List aJ)(hb:fn.length<=big)(n:Int) :
  Ret pg 87 [.sl nl (fn.map aJ.av) cl,.int .i64 n] (.bool (cR fn n)):=by
 refine Ret.ofX hf ?_
 unfold cf87
 cases h1:decide (n<0)
 case true=>
  simp only[h1,go_sem,seval]
  have:decide (0<=n)=false:=by simp at h1 ⊢;omega
  simp[cR,this]
 case false=>
 cases h2:decide (20<n)
 case true=>
  simp only[h1,h2,go_sem,seval]
  have:decide (n<=20)=false:=by simp at h2 ⊢;omega
  simp[cR,this]
 case false=>
 cases h3:decide (60<(fn.length:Int))
 case true=>
  simp only[h1,h2,h3,go_sem,seval]
  have:decide ((fn.length:Int)<=60)=false:=by simp at h3 ⊢;omega
  simp[cR,this]
 case false=>
 have g1:=of_decide_eq_false h1
 have g2:=of_decide_eq_false h2
 have g3:=of_decide_eq_false h3
 have hspec:decide (n+(fn.length:Int)=0)=false->cR fn n=eS n fn:=by
  intro h4
  have e1:decide (0<=n)=true:=by simp;omega
  have e2:decide (n<=20)=true:=by simp;omega
  have e3:decide ((fn.length:Int)<=60)=true:=by simp;omega
  simp[cR,h4,e1,e2,e3]
 cases h4:decide (n=0)
 case true=>
  cases h5:decide ((fn.length:Int)=0)
  case true=>
   simp only[h1,h2,h3,h4,h5,go_sem,seval]
   have:decide (n+(fn.length:Int)=0)=true:=by simp at h4 h5 ⊢;simp[h4,h5]
   simp[cR,this]
  case false=>
   have hs:=hspec (by simp at h4 h5 ⊢;subst h4;simpa using h5)
   rw[hs]
   clear hs hspec
   simp only[h1,h2,h3,h4,h5,go_sem,seval]
   refine aI fn (fun d r env hp=>env=cf87E1 (.sl nl (fn.map aJ.av) cl) (.int .i64 n) (.int .i64 d.length)/\eS n fn=eS (n+d.length) r) ?_ ?_ ?_
   ·exact⟨rfl,by simp⟩
   ·rintro env hp ⟨rfl,hI⟩
    simp only[cf87L1,cf87E1,aW,go_sem,seval]
    rw[hI];rfl
   ·rintro d x r env hp hes ⟨rfl,hI⟩
    exact FZ h124 h125 nl cl fn hb n (by omega) (by omega) (by omega) d x r hp hes hI
 case false=>
  have hs:=hspec (by simp at h4 ⊢;omega)
  rw[hs]
  clear hs hspec
  simp only[h1,h2,h3,h4,go_sem,seval]
  refine aI fn (fun d r env hp=>env=cf87E1 (.sl nl (fn.map aJ.av) cl) (.int .i64 n) (.int .i64 d.length)/\eS n fn=eS (n+d.length) r) ?_ ?_ ?_
  ·exact⟨rfl,by simp⟩
  ·rintro env hp ⟨rfl,hI⟩
   simp only[cf87L1,cf87E1,aW,go_sem,seval]
   rw[hI];rfl
  ·rintro d x r env hp hes ⟨rfl,hI⟩
   exact FZ h124 h125 nl cl fn hb n (by omega) (by omega) (by omega) d x r hp hes hI
end
end Go.Tev
end
section
namespace Go.Tev
def kF(p:aC)(num value:Int)(name:Str)(at_:Sl Lin)(dyn:Bool)(check:Int)(fn:Sl aJ):aC:=.mk p.op num value name at_ dyn check fn p.knl p.kids p.kcl
theorem kD(p:aC)(num value:Int)(name:Str)(at_:Sl Lin)(dyn:Bool)(check:Int)(fn:Sl aJ):(kF p num value name at_ dyn check fn).op=p.op:=rfl
theorem iT(p:aC)(num value:Int)(name:Str)(at_:Sl Lin)(dyn:Bool)(check:Int)(fn:Sl aJ):(kF p num value name at_ dyn check fn).num=num:=rfl
theorem fZ(p:aC)(num value:Int)(name:Str)(at_:Sl Lin)(dyn:Bool)(check:Int)(fn:Sl aJ):(kF p num value name at_ dyn check fn).value=value:=rfl
theorem gX(p:aC)(num value:Int)(name:Str)(at_:Sl Lin)(dyn:Bool)(check:Int)(fn:Sl aJ):(kF p num value name at_ dyn check fn).name=name:=rfl
theorem iV(p:aC)(num value:Int)(name:Str)(at_:Sl Lin)(dyn:Bool)(check:Int)(fn:Sl aJ):(kF p num value name at_ dyn check fn).at_=at_:=rfl
theorem iU(p:aC)(num value:Int)(name:Str)(at_:Sl Lin)(dyn:Bool)(check:Int)(fn:Sl aJ):(kF p num value name at_ dyn check fn).dyn=dyn:=rfl
theorem gA(p:aC)(num value:Int)(name:Str)(at_:Sl Lin)(dyn:Bool)(check:Int)(fn:Sl aJ):(kF p num value name at_ dyn check fn).check=check:=rfl
theorem kE(p:aC)(num value:Int)(name:Str)(at_:Sl Lin)(dyn:Bool)(check:Int)(fn:Sl aJ):(kF p num value name at_ dyn check fn).fn=fn:=rfl
theorem gY(p:aC)(num value:Int)(name:Str)(at_:Sl Lin)(dyn:Bool)(check:Int)(fn:Sl aJ):(kF p num value name at_ dyn check fn).kids=p.kids:=rfl
theorem j2(p:aC)(num value:Int)(name:Str)(at_:Sl Lin)(dyn:Bool)(check:Int)(fn:Sl aJ):(kF p num value name at_ dyn check fn).knl=p.knl:=rfl
theorem j3(p:aC)(num value:Int)(name:Str)(at_:Sl Lin)(dyn:Bool)(check:Int)(fn:Sl aJ):(kF p num value name at_ dyn check fn).kcl=p.kcl:=rfl
theorem mV(p:aC)(num value:Int)(name:Str)(at_:Sl Lin)(dyn:Bool)(check:Int)(fn:Sl aJ) :
  dQ p (kF p num value name at_ dyn check fn)=(decide (p.num=num)&&decide (p.value=value)&&decide (p.name.bs=name.bs)&&(p.dyn==dyn)&&decide (p.check=check)&&eqL bH p.at_.es at_.es&&eqL fC p.fn.es fn.es):=by
 rw[oN,lB]
 simp only[kD,iT,fZ,gX,iV,iU,gA,kE,gY]
 rw[fA qV]
 simp
 rfl
theorem bq1:(true==false)=false:=rfl
theorem bq2:(false==false)=true:=rfl
theorem bq3:(true==true)=true:=rfl
def fS(p:aC):aC:=
 if p.op.bs=[99,111,110,115,116] then kF p p.num 0 eY (gI Lin) false 0 (gI aJ)
 else if p.op.bs=[108,105,110,101,97,114] then kF p 0 0 eY p.at_ false 0 (gI aJ)
 else if p.op.bs=[114,101,97,100] then kF p 0 p.value eY p.at_ p.dyn (if p.dyn then p.check else 0) (gI aJ)
 else if p.op.bs=[105,102] then kF p 0 0 eY p.at_ false 0 (gI aJ)
 else if p.op.bs=[114,101,100,117,99,101] then kF p 0 0 p.name p.at_ false 0 p.fn
 else if p.op.bs=[99,111,100,101] then kF p 0 0 eY (gI Lin) false 0 p.fn
 else kF p 0 0 eY (gI Lin) false 0 (gI aJ)
def gH(p:aC):Bool:=
 if p.op.bs=[99,111,110,115,116] then decide ((p.kids.length:Int)=0)&&decide ((p.at_.es.length:Int)=0)
 else if p.op.bs=[108,105,110,101,97,114] then decide ((p.kids.length:Int)=0)&&decide ((p.at_.es.length:Int)=1)
 else if p.op.bs=[114,101,97,100] then
  (if p.dyn then decide ((p.kids.length:Int)=1)&&decide ((p.at_.es.length:Int)<=5) else decide ((p.kids.length:Int)=0)&&decide ((p.at_.es.length:Int)<=6))
 else if p.op.bs=[105,102] then decide ((p.kids.length:Int)=2)&&decide ((p.at_.es.length:Int)=1)
 else if p.op.bs=[114,101,100,117,99,101] then decide ((p.kids.length:Int)=2)&&decide ((p.at_.es.length:Int)=1)
 else if p.op.bs=[99,111,100,101] then decide ((p.kids.length:Int)<=20)&&decide ((p.at_.es.length:Int)=0)
 else match iI p.op.bs with
  |none=>false
  |some q=>decide ((p.kids.length:Int)=(q.params.length:Int))&&decide ((p.at_.es.length:Int)=0)
def oB(p:aC)(vars:List Str)(v:Int):Bool:=
 if p.op.bs=[99,111,110,115,116] then lL p.num
 else if p.op.bs=[114,101,97,100] then decide (0<=p.value)&&decide (p.value<v)&&decide (0<=p.check)
 else if p.op.bs=[114,101,100,117,99,101] then fT p.name.bs && !jV vars p.name.bs&&cR p.fn.es 2
 else if p.op.bs=[99,111,100,101] then cR p.fn.es p.kids.length
 else true
theorem GT(p:aC)(vars:List Str)(v:Int):(gH p&&dQ p (fS p)&&oB p vars v)=eU p vars v:=by
 by_cases o1:p.op.bs=[99,111,110,115,116]
 ·simp only[gH,fS,oB,eU,o1,if_true,mV,gI,eY,nV,eB]
  cases p.dyn<;>simp only[bq1,bq2,bq3,Bool.not_true,Bool.not_false,Bool.false_or,Bool.true_or,Bool.false_and,Bool.and_false,Bool.true_and,Bool.and_true,decide_true]
  (refine Bool.eq_iff_iff.2 ?_;simp only[Bool.and_eq_true];constructor<;>(intro h;simp only[h,and_self]))
 by_cases o2:p.op.bs=[108,105,110,101,97,114]
 ·have n1:¬p.op.bs=[114,101,97,100]:=by rw[o2];decide
  have n2:¬p.op.bs=[114,101,100,117,99,101]:=by rw[o2];decide
  have n3:¬p.op.bs=[99,111,100,101]:=by rw[o2];decide
  simp only[gH,fS,oB,eU,o1,n1,n2,n3,if_false]
  simp only[o2,if_true,mV,gI,eY,nV,eB,fA lG]
  cases p.dyn<;>simp only[bq1,bq2,bq3,Bool.not_true,Bool.not_false,Bool.false_or,Bool.true_or,Bool.false_and,Bool.and_false,Bool.true_and,Bool.and_true]
  (refine Bool.eq_iff_iff.2 ?_;simp only[Bool.and_eq_true];constructor<;>(intro h;simp only[h,and_self]))
 by_cases o3:p.op.bs=[114,101,97,100]
 ·simp only[gH,fS,oB,eU,o1,o2,if_false]
  simp only[o3,if_true,mV,gI,eY,nV,eB,fA lG,sW]
  cases p.dyn<;>simp only[bq1,bq2,bq3,Bool.not_true,Bool.not_false,Bool.false_or,Bool.true_or,Bool.false_and,Bool.and_false,Bool.true_and,Bool.and_true,Bool.false_eq_true,if_true,if_false,decide_true]
  ·cases h:decide (p.check=0)
   ·simp
   ·have:decide (0<=p.check)=true:=by simp at h ⊢;omega
    simp only[this,Bool.and_true,Bool.true_and]
    (refine Bool.eq_iff_iff.2 ?_;simp only[Bool.and_eq_true];constructor<;>(intro h;simp only[h,and_self]))
  ·(refine Bool.eq_iff_iff.2 ?_;simp only[Bool.and_eq_true];constructor<;>(intro h;simp only[h,and_self]))
 by_cases o4:p.op.bs=[105,102]
 ·have n2:¬p.op.bs=[114,101,100,117,99,101]:=by rw[o4];decide
  have n3:¬p.op.bs=[99,111,100,101]:=by rw[o4];decide
  simp only[gH,fS,oB,eU,o1,o2,o3,n2,n3,if_false]
  simp only[o4,if_true,mV,gI,eY,nV,eB,fA lG]
  cases p.dyn<;>simp only[bq1,bq2,bq3,Bool.not_true,Bool.not_false,Bool.false_or,Bool.true_or,Bool.false_and,Bool.and_false,Bool.true_and,Bool.and_true]
  (refine Bool.eq_iff_iff.2 ?_;simp only[Bool.and_eq_true];constructor<;>(intro h;simp only[h,and_self]))
 by_cases o5:p.op.bs=[114,101,100,117,99,101]
 ·simp only[gH,fS,oB,eU,o1,o2,o3,o4,if_false]
  simp only[o5,if_true,mV,gI,eY,eB,fA lG,fA nN]
  cases p.dyn<;>simp only[bq1,bq2,bq3,Bool.not_true,Bool.not_false,Bool.false_or,Bool.true_or,Bool.false_and,Bool.and_false,Bool.true_and,Bool.and_true,decide_true]
  (refine Bool.eq_iff_iff.2 ?_;simp only[Bool.and_eq_true];constructor<;>(intro h;simp only[h,and_self]))
 by_cases o6:p.op.bs=[99,111,100,101]
 ·simp only[gH,fS,oB,eU,o1,o2,o3,o4,o5,if_false]
  simp only[o6,if_true,mV,gI,eY,eB,nV,fA nN]
  have hc:(decide ((p.kids.length:Int)<=20)&&cR p.fn.es p.kids.length)=cR p.fn.es p.kids.length:=by
   simp only[cR]
   cases decide ((p.kids.length:Int)<=20)<;>simp
  rw[<-hc]
  cases p.dyn<;>simp only[bq1,bq2,bq3,Bool.not_true,Bool.not_false,Bool.false_or,Bool.true_or,Bool.false_and,Bool.and_false,Bool.true_and,Bool.and_true,decide_true]
  cases decide ((p.kids.length:Int)<=20)<;>simp only[Bool.false_and,Bool.true_and,Bool.and_false]
  (refine Bool.eq_iff_iff.2 ?_;simp only[Bool.and_eq_true];constructor<;>(intro h;simp only[h,and_self]))
 ·simp only[gH,fS,oB,eU,o1,o2,o3,o4,o5,o6,if_false]
  cases hpt:iI p.op.bs with
  |none=>simp
  |some q=>
   simp only[mV,gI,eY,eB,nV]
   cases p.dyn<;>simp only[bq1,bq2,bq3,Bool.not_true,Bool.not_false,Bool.false_or,Bool.true_or,Bool.false_and,Bool.and_false,Bool.true_and,Bool.and_true,decide_true]
   (refine Bool.eq_iff_iff.2 ?_;simp only[Bool.and_eq_true];constructor<;>(intro h;simp only[h,and_self]))
theorem mnA(a b:Int):(l7 min2 (.int .i64 a) [.int .i64 b]).bind val=val (.int .i64 (if b<a then b else a)):=by simp[l7,min2]
theorem pM(n m:Int):decide (n=if m<n then m else n)=decide (n<=m):=by
 rw[decide_eq_decide];split<;>omega
section
variable{pg:Pg}
set_option maxHeartbeats 1000000 in
theorem c192(hf:pg.fs 192=some cf192)(h125:∀op,bJ pg 125 [.str op] (iQ op))(p:aC):Ret pg 192 [p.av] (.tup [(fS p).av,.bool (gH p)]):=by
 refine Ret.ofX hf ?_
 unfold cf192
 cases o0:decide (p.op.bs=[99,111,110,115,116])
 case true=>
  have h0:=of_decide_eq_true o0
  have hP:(fS p).av = .agg [.str p.op.bs,.int .i64 p.num,.int .i64 0,.str [],.sl true [] true,.bool false,.int .i64 0,.sl true [] true,.sl p.knl (p.kids.map aC.av) p.kcl]:=by rw[aC.avc];simp only[fS];simp only[h0,if_true,if_false,kD,iT,fZ,gX,iV,iU,gA,kE,gY,j2,j3,eY,gI,List.map_nil]
  have hB:gH p=(decide ((p.kids.length:Int)=0)&&decide ((p.at_.es.length:Int)=0)):=by simp only[gH];simp only[h0,if_true,if_false]
  rw[hP,hB]
  clear hP hB h125
  cases k1:decide ((p.kids.length:Int)=0)
  ·simp only[o0,k1,go_sem,seval]
   show _=true
   kernel_rfl
  cases k2:decide ((p.at_.es.length:Int)=0)
  ·simp only[o0,k1,k2,go_sem,seval]
   show _=true
   kernel_rfl
  ·simp only[o0,k1,k2,go_sem,seval]
   show _=true
   kernel_rfl
 case false=>
 have h0:=of_decide_eq_false o0
 cases o1:decide (p.op.bs=[108,105,110,101,97,114])
 case true=>
  have h1:=of_decide_eq_true o1
  have hP:(fS p).av = .agg [.str p.op.bs,.int .i64 0,.int .i64 0,.str [],.sl p.at_.nl (p.at_.es.map Lin.av) p.at_.cl,.bool false,.int .i64 0,.sl true [] true,.sl p.knl (p.kids.map aC.av) p.kcl]:=by rw[aC.avc];simp only[fS,h0,if_false];simp only[h1,if_true,if_false,kD,iT,fZ,gX,iV,iU,gA,kE,gY,j2,j3,eY,gI,List.map_nil]
  have hB:gH p=(decide ((p.kids.length:Int)=0)&&decide ((p.at_.es.length:Int)=1)):=by simp only[gH,h0,if_false];simp only[h1,if_true,if_false]
  rw[hP,hB]
  clear hP hB h125
  cases k1:decide ((p.kids.length:Int)=0)
  ·simp only[o0,o1,k1,go_sem,seval]
   show _=true
   kernel_rfl
  cases k2:decide ((p.at_.es.length:Int)=1)
  ·simp only[o0,o1,k1,k2,go_sem,seval]
   show _=true
   kernel_rfl
  ·simp only[o0,o1,k1,k2,go_sem,seval]
   show _=true
   kernel_rfl
 case false=>
 have h1:=of_decide_eq_false o1
 cases o2:decide (p.op.bs=[114,101,97,100])
 case true=>
  have h2:=of_decide_eq_true o2
  cases hd:p.dyn
  case true=>
   have hP:(fS p).av = .agg [.str p.op.bs,.int .i64 0,.int .i64 p.value,.str [],.sl p.at_.nl (p.at_.es.map Lin.av) p.at_.cl,.bool true,.int .i64 p.check,.sl true [] true,.sl p.knl (p.kids.map aC.av) p.kcl]:=by rw[aC.avc];simp only[fS,h0,h1,if_false];simp only[hd,h2,if_true,if_false,kD,iT,fZ,gX,iV,iU,gA,kE,gY,j2,j3,eY,gI,List.map_nil]
   have hB:gH p=(decide ((p.kids.length:Int)=1)&&decide ((p.at_.es.length:Int)<=5)):=by simp only[gH,h0,h1,if_false];simp only[hd,h2,if_true,if_false]
   rw[hP,hB]
   clear hP hB h125
   cases k1:decide ((p.kids.length:Int)=1)
   ·repeat (first|simp only[o0,o1,o2,hd,mnA,pM,k1,go_sem,seval]|refine And.intro (by kernel_rfl) ?_)
    show _=true
    kernel_rfl
   cases k2:decide ((p.at_.es.length:Int)<=5)
   ·repeat (first|simp only[o0,o1,o2,hd,mnA,pM,k1,k2,go_sem,seval]|refine And.intro (by kernel_rfl) ?_)
    show _=true
    kernel_rfl
   ·repeat (first|simp only[o0,o1,o2,hd,mnA,pM,k1,k2,go_sem,seval]|refine And.intro (by kernel_rfl) ?_)
    show _=true
    kernel_rfl
  case false=>
   have hP:(fS p).av = .agg [.str p.op.bs,.int .i64 0,.int .i64 p.value,.str [],.sl p.at_.nl (p.at_.es.map Lin.av) p.at_.cl,.bool false,.int .i64 0,.sl true [] true,.sl p.knl (p.kids.map aC.av) p.kcl]:=by rw[aC.avc];simp only[fS,h0,h1,if_false];simp only[hd,Bool.false_eq_true,h2,if_true,if_false,kD,iT,fZ,gX,iV,iU,gA,kE,gY,j2,j3,eY,gI,List.map_nil]
   have hB:gH p=(decide ((p.kids.length:Int)=0)&&decide ((p.at_.es.length:Int)<=6)):=by simp only[gH,h0,h1,if_false];simp only[hd,Bool.false_eq_true,h2,if_true,if_false]
   rw[hP,hB]
   clear hP hB h125
   cases k1:decide ((p.kids.length:Int)=0)
   ·repeat (first|simp only[o0,o1,o2,hd,mnA,pM,k1,go_sem,seval]|refine And.intro (by kernel_rfl) ?_)
    show _=true
    kernel_rfl
   cases k2:decide ((p.at_.es.length:Int)<=6)
   ·repeat (first|simp only[o0,o1,o2,hd,mnA,pM,k1,k2,go_sem,seval]|refine And.intro (by kernel_rfl) ?_)
    show _=true
    kernel_rfl
   ·repeat (first|simp only[o0,o1,o2,hd,mnA,pM,k1,k2,go_sem,seval]|refine And.intro (by kernel_rfl) ?_)
    show _=true
    kernel_rfl
 case false=>
 have h2:=of_decide_eq_false o2
 cases o3:decide (p.op.bs=[105,102])
 case true=>
  have h3:=of_decide_eq_true o3
  have hP:(fS p).av = .agg [.str p.op.bs,.int .i64 0,.int .i64 0,.str [],.sl p.at_.nl (p.at_.es.map Lin.av) p.at_.cl,.bool false,.int .i64 0,.sl true [] true,.sl p.knl (p.kids.map aC.av) p.kcl]:=by rw[aC.avc];simp only[fS,h0,h1,h2,if_false];simp only[h3,if_true,if_false,kD,iT,fZ,gX,iV,iU,gA,kE,gY,j2,j3,eY,gI,List.map_nil]
  have hB:gH p=(decide ((p.kids.length:Int)=2)&&decide ((p.at_.es.length:Int)=1)):=by simp only[gH,h0,h1,h2,if_false];simp only[h3,if_true,if_false]
  rw[hP,hB]
  clear hP hB h125
  cases k1:decide ((p.kids.length:Int)=2)
  ·simp only[o0,o1,o2,o3,k1,go_sem,seval]
   show _=true
   kernel_rfl
  cases k2:decide ((p.at_.es.length:Int)=1)
  ·simp only[o0,o1,o2,o3,k1,k2,go_sem,seval]
   show _=true
   kernel_rfl
  ·simp only[o0,o1,o2,o3,k1,k2,go_sem,seval]
   show _=true
   kernel_rfl
 case false=>
 have h3:=of_decide_eq_false o3
 cases o4:decide (p.op.bs=[114,101,100,117,99,101])
 case true=>
  have h4:=of_decide_eq_true o4
  have hP:(fS p).av = .agg [.str p.op.bs,.int .i64 0,.int .i64 0,.str p.name.bs,.sl p.at_.nl (p.at_.es.map Lin.av) p.at_.cl,.bool false,.int .i64 0,.sl p.fn.nl (p.fn.es.map aJ.av) p.fn.cl,.sl p.knl (p.kids.map aC.av) p.kcl]:=by rw[aC.avc];simp only[fS,h0,h1,h2,h3,if_false];simp only[h4,if_true,if_false,kD,iT,fZ,gX,iV,iU,gA,kE,gY,j2,j3,eY,gI,List.map_nil]
  have hB:gH p=(decide ((p.kids.length:Int)=2)&&decide ((p.at_.es.length:Int)=1)):=by simp only[gH,h0,h1,h2,h3,if_false];simp only[h4,if_true,if_false]
  rw[hP,hB]
  clear hP hB h125
  cases k1:decide ((p.kids.length:Int)=2)
  ·repeat (first|simp only[o0,o1,o2,o3,o4,k1,go_sem,seval]|refine And.intro (by kernel_rfl) ?_)
   show _=true
   kernel_rfl
  cases k2:decide ((p.at_.es.length:Int)=1)
  ·repeat (first|simp only[o0,o1,o2,o3,o4,k1,k2,go_sem,seval]|refine And.intro (by kernel_rfl) ?_)
   show _=true
   kernel_rfl
  ·repeat (first|simp only[o0,o1,o2,o3,o4,k1,k2,go_sem,seval]|refine And.intro (by kernel_rfl) ?_)
   show _=true
   kernel_rfl
 case false=>
 have h4:=of_decide_eq_false o4
 cases o5:decide (p.op.bs=[99,111,100,101])
 case true=>
  have h5:=of_decide_eq_true o5
  have hP:(fS p).av = .agg [.str p.op.bs,.int .i64 0,.int .i64 0,.str [],.sl true [] true,.bool false,.int .i64 0,.sl p.fn.nl (p.fn.es.map aJ.av) p.fn.cl,.sl p.knl (p.kids.map aC.av) p.kcl]:=by rw[aC.avc];simp only[fS,h0,h1,h2,h3,h4,if_false];simp only[h5,if_true,if_false,kD,iT,fZ,gX,iV,iU,gA,kE,gY,j2,j3,eY,gI,List.map_nil]
  have hB:gH p=(decide ((p.kids.length:Int)<=20)&&decide ((p.at_.es.length:Int)=0)):=by simp only[gH,h0,h1,h2,h3,h4,if_false];simp only[h5,if_true,if_false]
  rw[hP,hB]
  clear hP hB h125
  cases k1:decide ((p.kids.length:Int)<=20)
  ·repeat (first|simp only[o0,o1,o2,o3,o4,o5,mnA,pM,k1,go_sem,seval]|refine And.intro (by kernel_rfl) ?_)
   show _=true
   kernel_rfl
  cases k2:decide ((p.at_.es.length:Int)=0)
  ·repeat (first|simp only[o0,o1,o2,o3,o4,o5,mnA,pM,k1,k2,go_sem,seval]|refine And.intro (by kernel_rfl) ?_)
   show _=true
   kernel_rfl
  ·repeat (first|simp only[o0,o1,o2,o3,o4,o5,mnA,pM,k1,k2,go_sem,seval]|refine And.intro (by kernel_rfl) ?_)
   show _=true
   kernel_rfl
 case false=>
 have h5:=of_decide_eq_false o5
 have hP:(fS p).av = .agg [.str p.op.bs,.int .i64 0,.int .i64 0,.str [],.sl true [] true,.bool false,.int .i64 0,.sl true [] true,.sl p.knl (p.kids.map aC.av) p.kcl]:=by rw[aC.avc];simp only[fS,h0,h1,h2,h3,h4,h5,if_false,kD,iT,fZ,gX,iV,iU,gA,kE,gY,j2,j3,eY,gI,List.map_nil]
 have hB:gH p=(match iI p.op.bs with
  |none=>false
  |some q=>decide ((p.kids.length:Int)=(q.params.length:Int))&&decide ((p.at_.es.length:Int)=0)):=by simp only[gH,h0,h1,h2,h3,h4,h5,if_false]
 rw[hP,hB]
 clear hP hB
 obtain⟨rr,hr,hR⟩:=h125 p.op.bs
 simp only[iQ]at hR
 cases hpt:iI p.op.bs with
 |none=>
  rw[hpt]at hR
  dsimp only at hR
  subst hR
  simp only[o0,o1,o2,o3,o4,o5,go_sem,seval]
  refine aB hr (by simp only[go_sem,seval]) rfl ?_
  simp only[go_sem,seval]
 |some q=>
  rw[hpt]at hR
  dsimp only at hR
  obtain⟨nl2,cl2,rfl⟩:=hR
  dsimp only
  simp only[o0,o1,o2,o3,o4,o5,go_sem,seval]
  refine aB hr (by simp only[go_sem,seval]) rfl ?_
  cases k1:decide ((p.kids.length:Int)=(q.params.length:Int))
  ·simp only[k1,go_sem,seval]
   show _=true
   kernel_rfl
  cases k2:decide ((p.at_.es.length:Int)=0)
  ·simp only[k1,k2,go_sem,seval]
   show _=true
   kernel_rfl
  ·simp only[k1,k2,go_sem,seval]
   show _=true
   kernel_rfl
end
end Go.Tev
end
section
namespace Go.Tev
section
variable{pg:Pg}
theorem iA{kb esz bytes s:Nat}{ag:Bool}{h:Hp}{xs:List AV}{nl cl nl0:Bool}{Q:AV->Eff->Prop}{t:Tok Q}(hx:∀x∈xs,El esz ag x)(hl:xs.length<=1073741824)(hb:bytes<=65536)
  (q1:xs=[]->Q (.sl nl0 [] true) (.pat [] []))
  (q2:xs≠[]->∀cs,bG esz ag xs=some cs->Q (.rf (kb+s) (h.next (kb+s)) 0 xs.length xs.length) (.pat [kb+s] [⟨kb+s,h.next (kb+s),.blk cs esz ag false false⟩])) :
  XO pg kb (.app esz ag bytes) s h [.sl nl0 [] true,.sl nl xs cl] Q t:=by
 rw[gR]
 obtain⟨ds,d1,d2,d3,_⟩:=cL hx
 simp only[l8,aP,d1,Option.map_some]
 by_cases hxs:xs=[]
 ·subst hxs
  cases d1
  simp only[kL,List.length_nil,if_true]
  exact q1 rfl
 ·have hn:xs.length≠0:=by simpa using hxs
  simp only[kL,hn,if_false,List.length_nil,Nat.zero_add,Bool.or_true,Bool.true_and,hl,hb,decide_true,Bool.and_self,if_true,bG,List.nil_append]
  exact q2 hxs ds d1
theorem wD{kb esz bytes s k e n:Nat}{ag:Bool}{h:Hp}{cs:List AV}{es xs:List AV}{nl cl:Bool}{Q:AV->Eff->Prop}{t:Tok Q}
  (hne:n=es.length) (hg:h.get k=some (e,.blk cs esz ag false false)) (hu:bG esz ag es=some cs) (hk:(k==kb+s)=false) (he:∀x∈es,El esz ag x) (hx:∀x∈xs,El esz ag x) (hxs:xs≠[])
  (hl:es.length+xs.length<=1073741824) (hb:bytes<=65536)
  (q2:∀cs',bG esz ag (es++xs)=some cs'->Q (.rf (kb+s) (h.next (kb+s)) 0 (n+xs.length) (n+xs.length)) (.pat [kb+s,k] [⟨k,e,.dead⟩,⟨kb+s,h.next (kb+s),.blk cs' esz ag false false⟩])) :
  XO pg kb (.app esz ag bytes) s h [.rf k e 0 n n,.sl nl xs cl] Q t:=by
 subst hne
 rw[gR]
 obtain⟨ds,d1,d2,d3,_⟩:=cL hx
 simp only[l8,aP,d1,Option.map_some]
 have hn:xs.length≠0:=by simpa using hxs
 obtain⟨cs',c1,c2,_,_⟩:=cL he
 rw[hu]at c1
 cases c1
 have h1:¬(es.length+xs.length<=es.length):=by omega
 simp only[kL,hg,hn,if_false,true_and,Nat.zero_add]
 rw[if_pos (by omega)]
 simp only[h1,if_false,hl,hb,decide_true,Bool.true_and,hk,Bool.not_false,if_true,Bool.false_eq_true]
 have h3:(List.drop 0 cs).take (es.length*esz)++ds=cs++ds:=by simp[<-c2]
 rw[h3]
 exact q2 _ (iJ hu d1)
def VZ(hp:Hp)(nl cl:Bool)(vars:List Str)(name:Str)(red:Bool)(iv:AV):Prop:=
 (red=false/\iv = .sl nl (vars.map Str.av) cl)\/(red=true/\∃k,Own hp k 1 false iv ((vars++[name]).map Str.av))
set_option maxHeartbeats 1000000 in
theorem LK(v:Int)(p:aC)(nl cl:Bool)(vars:List Str)(hk:p.kids.length<=big)(hks:∀q∈p.kids,q.ok)(hb:vars.length+1+aC.szL p.kids<=big)
  (ih:∀q∈p.kids,q.ok->∀(nl cl:Bool)(vars:List Str),vars.length+q.sz<=big->Ret pg 164 [q.av,.sl nl (vars.map Str.av) cl,.int .i64 v] (.bool (gL v q vars)))
  (iv:AV) (red b R:Bool) (env:List AV) (hp:Hp)
  (henv:clear cf164M0 env=cf164E0 (.sl nl (vars.map Str.av) cl) (.int .i64 v) (.pt 1 0 0) (.bool b) iv (.int .i64 0))
  (g1:hp.get 1=some (0,.blk [.str p.op.bs,.int .i64 p.num,.int .i64 p.value,.str p.name.bs,.sl p.at_.nl (p.at_.es.map Lin.av) p.at_.cl,.bool p.dyn,.int .i64 p.check,.sl p.fn.nl (p.fn.es.map aJ.av) p.fn.cl,.sl p.knl (p.kids.map aC.av) p.kcl] 9 true true false))
  (hiv:VZ hp nl cl vars p.name red iv) (hR:R=(b&&gJ v red p.name vars 0 p.kids)) :
  XX pg 0 (.loop cf164L0 cf164M0) ⟨env,hp⟩
   (nI 1 (lN (fun st'=>XX pg 0 (.seq (.reg [⟨some 110,.mov,[.t 8],none,0,0⟩,⟨some 6,.mov,[.t 110],none,0,0⟩] false) .ret) st' (FL [.inl 6] (.bool R)) ⟨⟩) (FL [.inl 6] (.bool R)))) ⟨⟩:=by
 refine aI p.kids (fun d r env hp=>∃ok:Bool,env=cf164E0 (.sl nl (vars.map Str.av) cl) (.int .i64 v) (.pt 1 0 0) (.bool ok) iv (.int .i64 d.length) /\
  hp.get 1=some (0,.blk [.str p.op.bs,.int .i64 p.num,.int .i64 p.value,.str p.name.bs,.sl p.at_.nl (p.at_.es.map Lin.av) p.at_.cl,.bool p.dyn,.int .i64 p.check,.sl p.fn.nl (p.fn.es.map aJ.av) p.fn.cl,.sl p.knl (p.kids.map aC.av) p.kcl] 9 true true false) /\
  VZ hp nl cl vars p.name red iv/\R=(ok&&gJ v red p.name vars d.length r)) ?_ ?_ ?_
 ·exact⟨b,henv,g1,hiv,hR⟩
 ·clear hiv g1 henv hR hp env
  rintro env hp ⟨ok,rfl,g1,hiv,hR⟩
  simp only[cf164L0,cf164E0,g1,aW,go_sem,seval]
  rw[hR];simp[gJ]
 ·clear hiv g1 henv hR hp env
  rintro d x r env hp hes ⟨ok,rfl,g1,hiv,hR⟩
  obtain⟨hget,e1,e2,ew⟩:=cF hes hk
  have hxm:x∈p.kids:=by rw[hes];simp
  have hxs:x.sz<=aC.szL p.kids:=aC.szL_mem hxm
  have hx:=ih x hxm (hks x hxm)
  clear ih hks
  cases ok
  case false=>
   simp only[cf164L0,cf164E0,g1,e1,go_sem,seval]
   rw[hR];simp
  case true=>
  simp only[gJ,Bool.true_and]at hR
  have hd1:gJ v red p.name vars (d++[x]).length r=gJ v red p.name vars (d.length+1) r:=by simp
  cases c2:decide ((d.length:Int)=1)
  case false=>
   have a1:=hx nl cl vars (by omega)
   simp only[cf164L0,cf164E0,g1,e1,e2,hget,c2,go_sem,seval]
   refine aB a1 (by simp only[go_sem,seval]) rfl ?_
   simp only[ew,go_sem,seval]
   refine⟨_,rfl,g1,hiv,?_⟩
   rw[hR,c2,hd1];simp
  case true=>
  rcases hiv with ⟨hr,hv⟩|⟨hr,kk,ho⟩
  ·have a1:=hx nl cl vars (by omega)
   subst hv
   simp only[cf164L0,cf164E0,g1,e1,e2,hget,c2,go_sem,seval]
   refine aB a1 (by simp only[go_sem,seval]) rfl ?_
   simp only[ew,go_sem,seval]
   refine⟨_,rfl,g1,.inl ⟨hr,rfl⟩,?_⟩
   rw[hR,c2,hd1,hr];simp
  ·obtain⟨nl2,cl2,keys,hsn,hnl⟩:=ho.snap (El.strs (vars++[p.name])) 62
   have a1:=hx nl2 cl2 (vars++[p.name]) (by simp;omega)
   simp only[cf164L0,cf164E0,g1,e1,e2,hget,c2,go_sem,seval]
   refine bQ a1 (pN (by simp only[go_sem,seval]) hsn (by simp only[go_sem,seval])) (v:=.bool (gL v x (vars++[p.name]))) (pa:=[]) rfl ?_
   simp only[ew,go_sem,seval]
   refine⟨_,rfl,g1,.inr ⟨hr,kk,ho⟩,?_⟩
   rw[hR,c2,hd1,hr];simp
set_option maxHeartbeats 2000000 in
theorem c164(hf:pg.fs 164=some cf164)(h192:∀p:aC,Ret pg 192 [p.av] (.tup [(fS p).av,.bool (gH p)]))
  (h118:∀p:aC,p.ok->∀q:aC,Ret pg 118 [p.av,q.av] (.bool (dQ p q)))
  (h193:∀(nl cl:Bool)(ls:List Lin),ls.length<=big->∀(nl' cl':Bool)(vars:List Str),vars.length<=big->Ret pg 193 [.sl nl (ls.map Lin.av) cl,.sl nl' (vars.map Str.av) cl'] (.bool (bX ls vars)))
  (h124:pg.fs 124=some cf124) (h77:∀s:Str,Ret pg 77 [.str s.bs] (.bool (fT s.bs))) (h194:pg.fs 194=some cf194)
  (h87:∀(nl cl:Bool)(fn:List aJ),fn.length<=big->∀n:Int,Ret pg 87 [.sl nl (fn.map aJ.av) cl,.int .i64 n] (.bool (cR fn n))) (v:Int) :
  ∀p:aC,p.ok->∀(nl cl:Bool)(vars:List Str),vars.length+p.sz<=big->Ret pg 164 [p.av,.sl nl (vars.map Str.av) cl,.int .i64 v] (.bool (gL v p vars)):=by
 refine aC.ind' fun p ih hp nl cl vars hb=>?_
 obtain⟨hk,hks⟩:=(aC.ok_iff p).1 hp
 have hsz:=aC.sz_eq p
 have a1:=h192 p
 have a2:=h118 p hp (fS p)
 rw[aC.avc p]at a1 a2
 have a2':=a2
 rw[aC.avc (fS p)]at a2'
 have a3:=h193 p.at_.nl p.at_.cl p.at_.es p.at_.ok nl cl vars (by omega)
 have a4:=RS h124 p.num
 have a5:=h77 p.name
 have a6:=c194 h194 nl cl vars (by omega) p.name.bs
 have a7:=h87 p.fn.nl p.fn.cl p.fn.es p.fn.ok 2
 have a8:=h87 p.fn.nl p.fn.cl p.fn.es p.fn.ok p.kids.length
 clear h192 h118 h193 h124 h77 h194 h87
 have hspec:gL v p vars=(gH p&&(dQ p (fS p)&&(bX p.at_.es vars&&(oB p vars v&&gJ v (decide (p.op.bs=[114,101,100,117,99,101])) p.name vars 0 p.kids)))):=by
  rw[oH,<-GT]
  (refine Bool.eq_iff_iff.2 ?_;simp only[Bool.and_eq_true];constructor<;>(intro h;simp only[h,and_self]))
 rw[hspec]
 refine Ret.ofX hf ?_
 unfold cf164
 simp only[go_sem,seval]
 refine aB a1 (by simp only[go_sem,seval]) (by rfl) ?_
 have hro:oB p vars v=(if p.op.bs=[99,111,110,115,116] then lL p.num
  else if p.op.bs=[114,101,97,100] then decide (0<=p.value)&&decide (p.value<v)&&decide (0<=p.check)
  else if p.op.bs=[114,101,100,117,99,101] then fT p.name.bs && !jV vars p.name.bs&&cR p.fn.es 2
  else if p.op.bs=[99,111,100,101] then cR p.fn.es p.kids.length
  else true):=rfl
 generalize hob:gH p=ob at *
 cases ob
 case false=>
  simp only[go_sem,seval]
 case true=>
 simp only[go_sem,seval]
 refine aB a2' (by simp only[go_sem,seval]) rfl ?_
 generalize hpe:dQ p (fS p)=pe at *
 cases pe
 case false=>
  simp only[go_sem,seval]
 case true=>
 simp only[go_sem,seval]
 refine aB a3 (by simp only[go_sem,seval]) rfl ?_
 generalize hov:bX p.at_.es vars=ov at *
 cases ov
 case false=>
  simp only[go_sem,seval]
 case true=>
 simp only[go_sem,seval]
 have hL:=fun iv b R env hp h1 h2 h3 h4=>LK v p nl cl vars hk hks (by omega) ih iv (decide (p.op.bs=[114,101,100,117,99,101])) b R env hp h1 h2 h3 h4
 clear ih hks a1 a2 a2' a3
 cases o1:decide (p.op.bs=[99,111,110,115,116])
 case true=>
  have h:=of_decide_eq_true o1
  have hr:decide (p.op.bs=[114,101,100,117,99,101])=false:=by rw[h];decide
  rw[hro,if_pos h]
  simp only[go_sem,seval]
  refine aB a4 (by simp only[go_sem,seval]) rfl ?_
  simp only[go_sem,seval]
  exact hL _ _ _ _ _ rfl rfl (.inl ⟨hr,rfl⟩) rfl
 case false=>
 rw[hro,if_neg (of_decide_eq_false o1)]
 simp only[go_sem,seval]
 cases o2:decide (p.op.bs=[114,101,97,100])
 case true=>
  have h:=of_decide_eq_true o2
  have hr:decide (p.op.bs=[114,101,100,117,99,101])=false:=by rw[h];decide
  rw[if_pos h]
  cases q1:decide (0<=p.value)
  case false=>
   simp only[q1,go_sem,seval]
   exact hL _ _ _ _ _ rfl rfl (.inl ⟨hr,rfl⟩) rfl
  case true=>
  cases q2:decide (p.value<v)
  case false=>
   simp only[q1,q2,go_sem,seval]
   exact hL _ _ _ _ _ rfl rfl (.inl ⟨hr,rfl⟩) rfl
  case true=>
   simp only[q1,q2,go_sem,seval]
   exact hL _ _ _ _ _ rfl rfl (.inl ⟨hr,rfl⟩) rfl
 case false=>
 rw[if_neg (of_decide_eq_false o2)]
 simp only[go_sem,seval]
 cases o3:decide (p.op.bs=[114,101,100,117,99,101])
 case true=>
  have h:=of_decide_eq_true o3
  rw[if_pos h]
  simp only[go_sem,seval]
  refine aB a5 (by simp only[go_sem,seval]) rfl ?_
  have hvl:vars.length+1<=1073741824:=by simp only[big]at hb;omega
  have hS:∀x∈[AV.str p.name.bs],El 1 false x:=by intro x hx;simp at hx;subst hx;exact⟨rfl,rfl,rfl⟩
  cases nm:fT p.name.bs
  case false=>
   simp only[go_sem,seval]
   refine iA (El.strs vars) (by simp;omega) (by decide) (fun he=>?_) (fun he cs hcs=>?_)
   ·have hv:vars=[]:=by simpa using he
    simp only[go_sem,seval]
    refine iA hS (by simp) (by decide) (fun h=>by cases h) (fun _ cs2 hcs2=>?_)
    cases hcs2
    simp only[go_sem,seval]
    refine And.intro (by kernel_rfl) ?_
    exact hL _ _ _ _ _ rfl rfl (.inr ⟨o3,41,.inr ⟨_,_,by rw[hv];rfl,rfl,by rw[hv];rfl⟩⟩) (by rw[o3];rfl)
   ·simp only[go_sem,seval]
    refine wD (es:=vars.map Str.av) (by simp) rfl hcs rfl (El.strs vars) hS (by simp) (by simp;omega) (by decide) (fun cs2 hcs2=>?_)
    simp only[go_sem,seval]
    refine And.intro (by kernel_rfl) ?_
    exact hL _ _ _ _ _ rfl rfl (.inr ⟨o3,41,.inr ⟨_,_,by simp,rfl,by rw[List.map_append];exact hcs2⟩⟩) (by rw[o3];rfl)
  case true=>
  simp only[go_sem,seval]
  refine aB a6 (by simp only[go_sem,seval]) rfl ?_
  cases hs:jV vars p.name.bs
  case true=>
   simp only[go_sem,seval]
   refine iA (El.strs vars) (by simp;omega) (by decide) (fun he=>?_) (fun he cs hcs=>?_)
   ·have hv:vars=[]:=by simpa using he
    simp only[go_sem,seval]
    refine iA hS (by simp) (by decide) (fun h=>by cases h) (fun _ cs2 hcs2=>?_)
    cases hcs2
    simp only[go_sem,seval]
    refine And.intro (by kernel_rfl) ?_
    exact hL _ _ _ _ _ rfl rfl (.inr ⟨o3,41,.inr ⟨_,_,by rw[hv];rfl,rfl,by rw[hv];rfl⟩⟩) (by rw[o3];rfl)
   ·simp only[go_sem,seval]
    refine wD (es:=vars.map Str.av) (by simp) rfl hcs rfl (El.strs vars) hS (by simp) (by simp;omega) (by decide) (fun cs2 hcs2=>?_)
    simp only[go_sem,seval]
    refine And.intro (by kernel_rfl) ?_
    exact hL _ _ _ _ _ rfl rfl (.inr ⟨o3,41,.inr ⟨_,_,by simp,rfl,by rw[List.map_append];exact hcs2⟩⟩) (by rw[o3];rfl)
  case false=>
  simp only[go_sem,seval]
  refine aB a7 (by simp only[go_sem,seval]) rfl ?_
  simp only[go_sem,seval]
  refine iA (El.strs vars) (by simp;omega) (by decide) (fun he=>?_) (fun he cs hcs=>?_)
  ·have hv:vars=[]:=by simpa using he
   simp only[go_sem,seval]
   refine iA hS (by simp) (by decide) (fun h=>by cases h) (fun _ cs2 hcs2=>?_)
   cases hcs2
   simp only[go_sem,seval]
   refine And.intro (by kernel_rfl) ?_
   exact hL _ _ _ _ _ rfl rfl (.inr ⟨o3,41,.inr ⟨_,_,by rw[hv];rfl,rfl,by rw[hv];rfl⟩⟩) (by rw[o3];rfl)
  ·simp only[go_sem,seval]
   refine wD (es:=vars.map Str.av) (by simp) rfl hcs rfl (El.strs vars) hS (by simp) (by simp;omega) (by decide) (fun cs2 hcs2=>?_)
   simp only[go_sem,seval]
   refine And.intro (by kernel_rfl) ?_
   exact hL _ _ _ _ _ rfl rfl (.inr ⟨o3,41,.inr ⟨_,_,by simp,rfl,by rw[List.map_append];exact hcs2⟩⟩) (by rw[o3];rfl)
 case false=>
 rw[if_neg (of_decide_eq_false o3)]
 simp only[go_sem,seval]
 cases o4:decide (p.op.bs=[99,111,100,101])
 case true=>
  have h:=of_decide_eq_true o4
  rw[if_pos h]
  simp only[go_sem,seval]
  refine aB a8 (by simp only[go_sem,seval]) rfl ?_
  simp only[go_sem,seval]
  exact hL _ _ _ _ _ rfl rfl (.inl ⟨o3,rfl⟩) (by rw[o3];rfl)
 case false=>
  rw[if_neg (of_decide_eq_false o4)]
  simp only[go_sem,seval]
  exact hL _ _ _ _ _ rfl rfl (.inl ⟨o3,rfl⟩) (by rw[o3];rfl)
end
end Go.Tev
end
section
namespace Go.Tev
def qS(op res:List UInt8):List (List UInt8)->List Bool->Bool
 | c::cs,b::bs=>(!((decide (c=[98,111,111,108]) && !decide (op=[115,101,108,101,99,116]))||decide (c=res))||b)&&qS op res cs bs
 |_,_=>true
def oM(op:List UInt8)(kids:List Bool):Bool:=
 match iI op with
 |none=>false
 |some p=>decide ((p.params.length:Int)=(kids.length:Int))&&(!decide (p.result=[105,110,116])&&qS op p.result p.params kids)
theorem K0(r:sB)(hr:r∈jG)(kids:List Bool):(decide ((r.params.length:Int)=(kids.length:Int))&&(!decide (r.result=[105,110,116])&&qS r.op r.result r.params kids)) =
  (if rE r.op then decide ((kids.length:Int)=2) else if decide (r.op=[115,101,108,101,99,116]) then MF kids
   else decide (r.result=[98,111,111,108])&&decide ((r.params.length:Int)=(kids.length:Int)) && !kids.any (fun b=>b==false)):=by
 simp only[jG,List.mem_cons,List.not_mem_nil,or_false]at hr
 have q1:∀n:Nat,((1:Int)=(n:Int)+1+1+1+1)=False:=fun n=>eq_false (by omega)
 have q2:∀n:Nat,((2:Int)=(n:Int)+1+1+1+1)=False:=fun n=>eq_false (by omega)
 have q3:∀n:Nat,((3:Int)=(n:Int)+1+1+1+1)=False:=fun n=>eq_false (by omega)
 rcases kids with _|⟨a,_|⟨b,_|⟨c,_|⟨d,l⟩⟩⟩⟩
 all_goals (rcases hr with rfl|rfl|rfl|rfl|rfl|rfl|rfl|rfl|rfl|rfl|rfl|rfl|rfl|rfl|rfl|rfl|rfl|rfl|rfl|rfl|rfl|rfl)
 all_goals (simp[rE,MF,qS,fI,j0,sA])
 all_goals (first|omega|simp[q1,q2,q3])
section
variable{pg:Pg}
theorem c123(hf:pg.fs 123=some cf123)(h40:pg.fs 40=some cf40)(h164:∀v:Int,∀p:aC,p.ok->∀(nl cl:Bool) (vars:List Str),vars.length+p.sz<=big->Ret pg 164 [p.av,.sl nl (vars.map Str.av) cl,.int .i64 v] (.bool (gL v p vars)))
  (p:aC) (hp:p.ok) (nl cl:Bool) (vars:List Str) (hb:vars.length+p.sz<=big) (v:Int):Ret pg 123 [p.av,.sl nl (vars.map Str.av) cl,.int .i64 v] (.bool (gN p vars v)):=by
 have a1:=c40 h40 p hp
 have a2:=h164 v p hp nl cl vars hb
 rw[aC.avc]at a1 a2
 refine Ret.ofX hf ?_
 clear h40 h164
 unfold cf123
 simp only[go_sem,seval]
 refine aB a1 (by simp only[go_sem,seval]) rfl ?_
 cases c1:decide (pK p<=4000)
 ·simp only[c1,go_sem,seval]
  simp[gN,c1]
 ·simp only[c1,go_sem,seval]
  refine aB a2 (by simp only[go_sem,seval]) rfl ?_
  simp only[go_sem,seval]
  simp[gN,c1]
theorem NW(op:List UInt8)(kids:List Bool):oM op kids=eW op kids:=by
 simp only[oM,eW]
 cases hp:iI op with
 |none=>
  have hn:=List.find?_eq_none.1 hp
  have h1:rE op=false:=by
   cases h:rE op
   ·rfl
   ·exfalso
    simp only[rE,Bool.or_eq_true,decide_eq_true_eq]at h
    rcases h with ((((h|h)|h)|h)|h)|h<;>(subst h;exact absurd hp (by decide +revert))
  have h2:¬decide (op=[115,101,108,101,99,116])=true:=by
   intro h
   have h:=of_decide_eq_true h
   subst h
   exact absurd hp (by decide +revert)
  rw[h1,if_neg (by decide),if_neg h2]
 |some p=>
  have hm:p∈jG:=List.mem_of_find?_eq_some hp
  have ho:p.op=op:=by simpa using List.find?_some hp
  subst ho
  exact K0 p hm kids
theorem c120(hf:pg.fs 120=some cf120)(h125:∀op,bJ pg 125 [.str op] (iQ op))(op:List UInt8)(nl cl:Bool)(kids:List Bool)(hb:kids.length<=big):Ret pg 120 [.str op,.sl nl (kids.map AV.bool) cl] (.bool (eW op kids)):=by
 rw[<-NW]
 obtain⟨rr,hr,hR⟩:=h125 op
 refine Ret.ofX hf ?_
 unfold cf120
 simp only[go_sem,seval]
 simp only[iQ]at hR
 cases hpt:iI op with
 |none=>
  rw[hpt]at hR
  dsimp only at hR
  subst hR
  have hs:oM op kids=false:=by simp only[oM,hpt]
  rw[hs]
  refine aB hr (by simp only[go_sem,seval]) rfl ?_
  simp only[go_sem,seval]
 |some p=>
  rw[hpt]at hR
  dsimp only at hR
  obtain⟨nl2,cl2,rfl⟩:=hR
  have hs:oM op kids=(decide ((p.params.length:Int)=(kids.length:Int))&&(!decide (p.result=[105,110,116])&&qS op p.result p.params kids)):=by simp only[oM,hpt]
  rw[hs]
  clear hs hpt
  refine aB hr (by simp only[go_sem,seval]) rfl ?_
  clear hr
  cases k1:decide ((p.params.length:Int)=(kids.length:Int))
  case false=>
   simp only[k1,go_sem,seval]
  case true=>
  cases k2:decide (p.result=[105,110,116])
  case true=>
   simp only[k1,k2,go_sem,seval]
  case false=>
  have hl:p.params.length=kids.length:=by have:=of_decide_eq_true k1;omega
  simp only[k1,k2,go_sem,seval]
  refine aI (p.params.zip kids) (fun d r env hp=>env=cf120E0 (.str op) (.sl nl (kids.map AV.bool) cl) (.sl nl2 (p.params.map AV.str) cl2) (.str p.result) (.int .i64 d.length)/\qS op p.result p.params kids=qS op p.result (p.params.drop d.length) (kids.drop d.length)) ?_ ?_ ?_
  ·exact⟨rfl,rfl⟩
  ·rintro env hp ⟨rfl,hI⟩
   have hz:(p.params.zip kids).length=p.params.length:=by rw[List.length_zip,hl];simp
   rw[hz]at hI ⊢
   rw[List.drop_length]at hI
   simp only[cf120L0,cf120E0,aW,go_sem,seval]
   rw[hI];simp[qS]
  ·rintro d ⟨c,b⟩ r env hp hes ⟨rfl,hI⟩
   obtain⟨ga,gb,la,lb⟩:=IR hes
   have e1:decide ((d.length:Int)<(p.params.length:Int))=true:=by simp;omega
   have e2:((d.length:Int)<(p.params.length:Int))=True:=eq_true (by omega)
   have e4:((d.length:Int)<(kids.length:Int))=True:=eq_true (by omega)
   have ew:wr .i64 ((d.length:Int)+1)=((d++[(c,b)]).length:Int):=by
    simp only[big]at hb
    rw[aV (by omega) (by omega)];simp
   have hst:qS op p.result p.params kids=((!((decide (c=[98,111,111,108]) && !decide (op=[115,101,108,101,99,116]))||decide (c=p.result))||b)&&qS op p.result (p.params.drop (d++[(c,b)]).length) (kids.drop (d++[(c,b)]).length)):=by
    rw[hI,List.drop_eq_getElem_cons la,List.drop_eq_getElem_cons lb,qS]
    rw[List.getElem?_eq_getElem la]at ga
    rw[List.getElem?_eq_getElem lb]at gb
    cases ga;cases gb
    simp
   rw[hst]
   clear hI hst
   cases z1:decide (c=[98,111,111,108])
   ·cases z3:decide (c=p.result)
    ·simp only[cf120L0,cf120E0,e1,e2,e4,ga,gb,z1,z3,ew,go_sem,seval]
     rfl
    ·cases b
     ·simp only[cf120L0,cf120E0,e1,e2,e4,ga,gb,z1,z3,go_sem,seval]
     ·simp only[cf120L0,cf120E0,e1,e2,e4,ga,gb,z1,z3,ew,go_sem,seval]
      rfl
   ·cases z2:decide (op=[115,101,108,101,99,116])
    ·cases b
     ·simp only[cf120L0,cf120E0,e1,e2,e4,ga,gb,z1,z2,go_sem,seval]
     ·simp only[cf120L0,cf120E0,e1,e2,e4,ga,gb,z1,z2,ew,go_sem,seval]
      rfl
    ·cases z3:decide (c=p.result)
     ·simp only[cf120L0,cf120E0,e1,e2,e4,ga,gb,z1,z2,z3,ew,go_sem,seval]
      rfl
     ·cases b
      ·simp only[cf120L0,cf120E0,e1,e2,e4,ga,gb,z1,z2,z3,go_sem,seval]
      ·simp only[cf120L0,cf120E0,e1,e2,e4,ga,gb,z1,z2,z3,ew,go_sem,seval]
       rfl
theorem c84(hf:pg.fs 84=some cf84)(h120:∀(op:List UInt8) (nl cl:Bool) (kids:List Bool),kids.length<=big->Ret pg 120 [.str op,.sl nl (kids.map AV.bool) cl] (.bool (eW op kids)))
  (nl cl:Bool) (code:List aJ) (hb:code.length<=16777216) (nl' cl':Bool) (args:List Bool) (hb':args.length<=16777216):Ret pg 84 [.sl nl (code.map aJ.av) cl,.sl nl' (args.map AV.bool) cl'] (.bool (dH code args)):=by
 refine Ret.ofX hf ?_
 unfold cf84
 simp only[go_sem,seval]
 refine fV (kb:=0) (s:=1) (Own.nil _ _ _ _ _ _ rfl) (by simp) (El.bools args) (by simp;omega) (by decide) ?_
 intro v0 rd pa ho0 hk0 _
 simp only[go_sem,seval]
 refine aI code (fun d r env hp=>∃v l,env=cf84E1 (.sl nl (code.map aJ.av) cl) v (.int .i64 d.length)/\wE hp [1,9,21] v l/\l.length=args.length+d.length/\lH args code=lH l r) ?_ ?_ ?_
 ·exact⟨v0,args,rfl,⟨1,by simp,ho0⟩,by simp,rfl⟩
 ·rintro env hp ⟨v,l,rfl,ho,hl,hI⟩
  have hlen:=ho.flen
  have hll:∀(l':List Bool)(b:Bool),(l'.length:Int)<((l'++[b]).length:Int):=by
   intro l' b;rw[List.length_append,List.length_singleton];omega
  simp only[lH]at hI
  have hsp:dH code args=l.getLast?.getD false:=by rw[dH,hI]
  rw[hsp]
  rcases List.eq_nil_or_concat l with rfl|⟨l',b,rfl⟩
  ·simp only[cf84L1,cf84E1,↓hlen,go_sem,seval]
   rfl
  ·rw[List.concat_eq_append]at *
   obtain⟨k,e,rfl,hg,_⟩:=ho.at (n:=(l'.length:Int)) (by omega) (hll l' b)
   have hw:wr .i64 (((l'++[b]).length:Int)-1)=(l'.length:Int):=by
    simp only[List.length_append,List.length_cons,List.length_nil]at *
    rw[aV (by omega) (by omega)];omega
   have hlt:decide ((0:Int)<((l'++[b]).length:Int))=true:=by have:=hll l' b;simp only[decide_eq_true_eq];omega
   have hlt2:((l'.length:Int)<((l'++[b]).length:Int))=True:=eq_true (hll l' b)
   have hgm:((l'++[b]).map AV.bool)[l'.length]?=some (.bool b):=by simp
   simp only[cf84L1,cf84E1,↓hlen,hlt,hw,hlt2,Nat.mul_one,Nat.zero_add,hg,go_sem,seval]
   simp
 ·rintro d x r env hp hes ⟨v,l,rfl,ho,hl,hI⟩
  subst hes
  have hks:∀k∈([1,9,21]:List Nat),k=1\/k=9\/k=21:=by simp
  have hd:d.length<=16777216:=by simp at hb;omega
  have hb2:(d++x::r).length<=big:=by simp only[big];omega
  simp only[lH]at hI
  cases hc:pQ x.op.bs
  case true=>
   have hst:lO l x=(decide (x.num=0)||decide (x.num=1)):=by simp[lO,hc]
   have hfin:∀(hp':Hp)(c:Bool),(∀k,k≠5->hp'.get k=hp.get k)->c=lO l x->∀(Q:AV->Eff->Prop)(t:Tok Q),
     (∀v' rd pa,wE (Eff.app hp' (.pat rd pa)) [1,9,21] v' (l++[lO l x])->Q v' (.pat rd pa))->XO pg 0 (.app 1 false 1) 9 hp' [v,.sl false [.bool c] true] Q t:=by
    intro hp' c hk hcc Q t hq
    obtain⟨k,hkm,ho'⟩:=ho
    refine pY (kb:=0) (s:=9) (k1:=k) (ho'.mono (hk k (by rcases hks k hkm with h|h|h<;>omega))) (El.bools l) (xs:=[.bool c]) (by intro y hy;simp at hy;subst hy;exact El.bool _) (by simp) (by simp;omega) (by omega) ?_
    intro v' rd pa ho2 _
    exact hq v' rd pa ⟨9,by simp,by simpa[hcc] using ho2⟩
   have hgp:∀o1 o2 k,k≠5->((hp.put 5 (hp.next 5) o1).put 5 (hp.next 5) o2).get k=hp.get k:=by
    intro o1 o2 k hk;rw[aH,if_neg (Ne.symm hk),aH,if_neg (Ne.symm hk)]
   have hor:decide (x.op.bs=[99,111,110,115,116])=true\/(decide (x.op.bs=[99,111,110,115,116])=false/\decide (x.op.bs=[116,114,117,116,104])=true):=by
    unfold pQ at hc
    cases h1:decide (x.op.bs=[99,111,110,115,116])
    ·rw[h1]at hc;exact .inr ⟨rfl,by simpa using hc⟩
    ·exact .inl rfl
   rcases hor with c1|⟨c1,c2⟩
   ·cases c3:decide (x.num=0)
    ·simp only[cf84L1,cf84E1,c1,c3,go_sem,seval]
     refine hfin _ _ (hgp _ _) (by rw[hst,c3];rfl) _ _ ?_
     intro v' rd pa ho2
     simp only[aM hb2,go_sem,seval]
     exact⟨v',_,rfl,ho2,by simp;omega,hI⟩
    ·simp only[cf84L1,cf84E1,c1,c3,go_sem,seval]
     refine hfin _ _ (hgp _ _) (by rw[hst,c3];rfl) _ _ ?_
     intro v' rd pa ho2
     simp only[aM hb2,go_sem,seval]
     exact⟨v',_,rfl,ho2,by simp;omega,hI⟩
   ·cases c3:decide (x.num=0)
    ·simp only[cf84L1,cf84E1,c1,c2,c3,go_sem,seval]
     refine hfin _ _ (hgp _ _) (by rw[hst,c3];rfl) _ _ ?_
     intro v' rd pa ho2
     simp only[aM hb2,go_sem,seval]
     exact⟨v',_,rfl,ho2,by simp;omega,hI⟩
    ·simp only[cf84L1,cf84E1,c1,c2,c3,go_sem,seval]
     refine hfin _ _ (hgp _ _) (by rw[hst,c3];rfl) _ _ ?_
     intro v' rd pa ho2
     simp only[aM hb2,go_sem,seval]
     exact⟨v',_,rfl,ho2,by simp;omega,hI⟩
  have hst:lO l x=eW x.op.bs (x.args.es.map (lP l)):=by simp[lO,hc]
  simp only[pQ,Bool.or_eq_false_iff]at hc
  obtain⟨c1,c2⟩:=hc
  have hxl:=x.args.ok
  obtain⟨hget,e1,e2,ew⟩:=cF rfl hb2
  simp only[cf84L1,cf84E1,c1,c2,go_sem,seval]
  have hlen:=ho.flen
  have hll:(l.length:Int)<=33554432:=by simp only[List.length_append,List.length_cons]at hb;omega
  have hgp:∀o1 o2 k,k≠5->((hp.put 5 (hp.next 5) o1).put 5 (hp.next 5) o2).get k=hp.get k:=by
   intro o1 o2 k hk;rw[aH,if_neg (Ne.symm hk),aH,if_neg (Ne.symm hk)]
  have hg5:∀o1 o2,((hp.put 5 (hp.next 5) o1).put 5 (hp.next 5) o2).get 5=some (hp.next 5,o2):=by
   intro o1 o2;rw[aH,if_pos rfl]
  generalize hH:(hp.put 5 (hp.next 5) (Ob.blk [AV.str [],AV.int IntKind.i64 0,AV.sl true [] true] 3 true true false)).put 5 (hp.next 5) (Ob.blk [AV.str x.op.bs,AV.int IntKind.i64 x.num,AV.sl x.args.nl (List.map aG x.args.es) x.args.cl] 3 true true false)=H
  have hH5:H.get 5=some (hp.next 5,Ob.blk [AV.str x.op.bs,AV.int IntKind.i64 x.num,AV.sl x.args.nl (List.map aG x.args.es) x.args.cl] 3 true true false):=by rw[<-hH];exact hg5 _ _
  have hHk:∀k,k≠5->H.get k=hp.get k:=by intro k hk;rw[<-hH];exact hgp _ _ k hk
  clear hgp hg5 hH
  refine aI x.args.es (fun d2 r2 env hp'=>∃v8,env=cf84E0 (.sl nl ((d++x::r).map aJ.av) cl) v (.int .i64 d.length) (.pt 5 (hp.next 5) 0) v8 (.int .i64 d2.length) /\
   Own hp' 13 1 false v8 ((d2.map (lP l)).map AV.bool)/\∀k,k≠13->hp'.get k=H.get k) ?_ ?_ ?_
  ·exact⟨_,rfl,Own.nil _ _ _ _ _ _ rfl,fun _ _=>rfl⟩
  ·rintro env hp' ⟨v8,rfl,ho8,hfr⟩
   have hg5:=(hfr 5 (by omega)).trans hH5
   simp only[cf84L0,cf84E0,hg5,aW,go_sem,seval]
   obtain⟨nl8,cl8,keys,hsn,hnl8⟩:=ho8.snap (El.bools _) 62
   have h2:=h120 x.op.bs nl8 cl8 (x.args.es.map (lP l)) (by simpa using hxl)
   rw[<-hst]at h2
   refine bQ h2 (oQ (by simp only[go_sem,seval]) hsn) (v:=.bool (lO l x)) (pa:=[]) rfl ?_
   simp only[go_sem,seval]
   obtain⟨k,hkm,ho'⟩:=ho
   have hk13:k≠13/\k≠5:=by rcases hks k hkm with h|h|h<;>omega
   refine pY (kb:=0) (s:=21) (k1:=k) (ho'.mono ?_) (El.bools l) (xs:=[.bool (lO l x)]) (by intro y hy;simp at hy;subst hy;exact El.bool _) (by simp) (by simp;omega) (by omega) ?_
   ·rw[hfr k hk13.1,hHk k hk13.2]
   ·intro v' rd pa ho2 _
    simp only[aM hb2,go_sem,seval]
    exact⟨v',_,rfl,⟨21,by simp,by simpa using ho2⟩,by simp;omega,hI⟩
  ·rintro d2 a r2 env hp' hes ⟨v8,rfl,ho8,hfr⟩
   have hb3:(d2++a::r2).length<=big:=by rw[<-hes];exact hxl
   have hfin:∀(c:Bool),c=lP l a->∀(Q:AV->Eff->Prop)(t:Tok Q),
     (∀v' rd pa,Own (Eff.app hp' (.pat rd pa)) 13 1 false v' (((d2++[a]).map (lP l)).map AV.bool)->(∀k,k≠13->(Eff.app hp' (.pat rd pa)).get k=H.get k)->Q v' (.pat rd pa))->XO pg 0 (.app 1 false 1) 13 hp' [v8,.sl false [.bool c] true] Q t:=by
    intro c hcc Q t hq
    refine fV (kb:=0) (s:=13) ho8 (El.bools _) (xs:=[.bool c]) (by intro y hy;simp at hy;subst hy;exact El.bool _) (by simp[big]at *;omega) (by omega) ?_
    intro v' rd pa ho2 hk _
    refine hq v' rd pa (by simpa[hcc] using ho2) (fun k hk13=>?_)
    rw[hk k (by omega),hfr k hk13]
   obtain⟨hget2,f1,f2,fw⟩:=cF hes hxl
   have hg5:=(hfr 5 (by omega)).trans hH5
   cases z1:decide (0<=a)
   ·simp only[cf84L0,cf84E0,hg5,f1,f2,hget2,z1,go_sem,seval]
    refine hfin _ (by simp[lP,z1]) _ _ ?_
    intro v' rd pa ho2 hk2
    simp only[aM hb3,go_sem,seval]
    exact⟨v',rfl,ho2,hk2⟩
   cases z2:decide (a<(l.length:Int))
   ·simp only[cf84L0,cf84E0,hg5,f1,f2,hget2,z1,z2,↓hlen,go_sem,seval]
    refine hfin _ (by simp[lP,z2]) _ _ ?_
    intro v' rd pa ho2 hk2
    simp only[aM hb3,go_sem,seval]
    exact⟨v',rfl,ho2,hk2⟩
   simp only[decide_eq_true_eq]at z1 z2
   obtain⟨k,e,hv,hg,hkm⟩:=ho.at z1 z2
   have hk13:k≠13/\k≠5:=by rcases hks k hkm with h|h|h<;>omega
   have hgk:hp'.get k=some (e,.blk (l.map AV.bool) 1 false false false):=by rw[hfr k hk13.1,hHk k hk13.2,hg]
   have hla:l[a.toNat]?=some (l[a.toNat]'(by omega)):=List.getElem?_eq_getElem (by omega)
   have z1':(0<=a)=True:=eq_true z1
   have z2':(a<(l.length:Int))=True:=eq_true z2
   have z3:decide (0<=a)=true:=decide_eq_true z1
   have z4:decide (a<(l.length:Int))=true:=decide_eq_true z2
   subst hv
   simp only[cf84L0,cf84E0,hg5,f1,f2,hget2,z3,z4,z1',z2',hgk,hla,Nat.mul_one,Nat.zero_add,go_sem,seval]
   refine hfin _ (by simp[lP,z1,z2,hla]) _ _ ?_
   intro v' rd pa ho2 hk2
   simp only[aM hb3,go_sem,seval]
   exact⟨v',rfl,ho2,hk2⟩
set_option maxHeartbeats 1000000 in
theorem c83(hf:pg.fs 83=some cf83)(h84:∀(nl cl:Bool) (code:List aJ),code.length<=16777216->∀(nl' cl':Bool) (args:List Bool),args.length<=16777216->Ret pg 84 [.sl nl (code.map aJ.av) cl,.sl nl' (args.map AV.bool) cl'] (.bool (dH code args)))
  (h120:∀(op:List UInt8)(nl cl:Bool)(kids:List Bool),kids.length<=big->Ret pg 120 [.str op,.sl nl (kids.map AV.bool) cl] (.bool (eW op kids)))
  (nl cl:Bool) (vals:List Typ):∀p:aC,p.ok->Ret pg 83 [p.av,.sl nl (vals.map Typ.av) cl] (.bool (dZ vals p)):=by
 refine aC.ind' fun p ih hp=>?_
 obtain⟨hk,hks⟩:=(aC.ok_iff p).1 hp
 refine Ret.ofX hf ?_
 unfold cf83
 simp only[go_sem,seval]
 generalize hH:Hp.put [] 1 0 _=H
 have hH1:H.get 1=some (0,.blk [.str p.op.bs,.int .i64 p.num,.int .i64 p.value,.str p.name.bs,.sl p.at_.nl (p.at_.es.map Lin.av) p.at_.cl,.bool p.dyn,.int .i64 p.check,.sl p.fn.nl (p.fn.es.map aJ.av) p.fn.cl,.sl p.knl (p.kids.map aC.av) p.kcl] 9 true true false):=by
  rw[<-hH,aH,if_pos rfl]
 clear hH
 rw[xW]
 refine aI p.kids (fun d r env hp=>∃v,env=cf83E0 (.sl nl (vals.map Typ.av) cl) (.pt 1 0 0) v (.int .i64 d.length)/\Own hp 9 1 false v ((d.map (dZ vals)).map AV.bool)/\hp.get 1=H.get 1) ?_ ?_ ?_
 ·exact⟨_,rfl,Own.nil _ _ _ _ _ _ rfl,rfl⟩
 ·rintro env hp ⟨v,rfl,ho,h1⟩
  rw[hH1]at h1
  have hlen:=ho.flen
  have hkl:(p.kids.map (dZ vals)).length<=big:=by simpa using hk
  generalize p.kids.map (dZ vals)=ks at ho hlen hkl ⊢
  simp only[cf83L0,cf83E0,h1,aW,go_sem,seval]
  cases o1:decide (p.op.bs=[99,111,110,115,116])
  case true=>
   repeat' (first|simp only[*,go_sem,seval]|refine aN (fun _=>?_) (fun _=>?_)|refine aO (fun _=>?_) (fun _=>?_)|refine And.intro (by kernel_rfl) ?_)
   all_goals (simp_all [eM])
  simp only[h1,go_sem,seval]
  cases o2:decide (p.op.bs=[108,105,110,101,97,114])
  case true=>
   simp only[go_sem,seval]
   simp[eM,o1,o2]
  simp only[h1,go_sem,seval]
  cases o3:decide (p.op.bs=[114,101,97,100])
  case true=>
   have hs:eM vals p.op.bs p.num p.value p.fn.es ks=tU vals p.value:=by simp[eM,o1,o2,o3]
   rw[hs]
   cases z1:decide (0<=p.value)
   ·simp only[h1,z1,go_sem,seval]
    simp[tU,z1]
   cases z2:decide (p.value<(vals.length:Int))
   ·simp only[h1,z1,z2,go_sem,seval]
    simp[tU,z2]
   simp only[decide_eq_true_eq]at z1 z2
   have z1':(0<=p.value)=True:=eq_true z1
   have z3:decide (0<=p.value)=true:=decide_eq_true z1
   have z4:decide (p.value<(vals.length:Int))=true:=decide_eq_true z2
   obtain⟨t,hla⟩:∃t,vals[p.value.toNat]?=some t:=⟨_,List.getElem?_eq_getElem (by omega)⟩
   simp only[h1,z3,z4,z1',hla,go_sem,seval]
   simp only[tU,z3,z4,hla,Option.map_some,Option.getD_some,Bool.true_and]
  simp only[h1,go_sem,seval]
  cases o4:decide (p.op.bs=[105,102])
  case true=>
   have hs:eM vals p.op.bs p.num p.value p.fn.es ks=ifT ks:=by simp[eM,o1,o2,o3,o4]
   rw[hs]
   match ks,ho,hlen,hkl with
   |[],ho,hlen,hkl=>
    simp only[h1,↓hlen,go_sem,seval]
    rfl
   |[a],ho,hlen,hkl=>
    simp only[h1,↓hlen,go_sem,seval]
    rfl
   |a::b::c::r,ho,hlen,hkl=>
    have h3:decide (((((r.length+1+1+1):Nat):Int))=2)=false:=by simp;omega
    simp only[h1,↓hlen,h3,go_sem,seval]
    rfl
   |[a,b],ho,hlen,hkl=>
    obtain⟨e,rfl,hg⟩:∃e,v = .rf 9 e 0 2 2/\hp.get 9=some (e,.blk [.bool a,.bool b] 1 false false false):=by
     rcases ho with ⟨he,_⟩|⟨e,cs,rfl,hg,hu⟩
     ·simp at he
     ·rw[cT]at hu;cases hu
      exact⟨e,rfl,hg⟩
    have q1:(0:Int)<((2:Nat):Int):=by decide
    have q2:(1:Int)<((2:Nat):Int):=by decide
    cases a
    ·simp only[h1,hg,go_sem,seval]
     rfl
    ·simp only[h1,hg,go_sem,seval]
     rfl
  simp only[h1,go_sem,seval]
  cases o5:decide (p.op.bs=[114,101,100,117,99,101])
  case true=>
   have hs:eM vals p.op.bs p.num p.value p.fn.es ks=R7 p.fn.es ks:=by simp[eM,o1,o2,o3,o4,o5]
   rw[hs]
   match ks,ho,hlen,hkl with
   |[],ho,hlen,hkl=>
    simp only[h1,↓hlen,go_sem,seval]
    refine And.intro (by kernel_rfl) ?_
    rfl
   |[a],ho,hlen,hkl=>
    simp only[h1,↓hlen,go_sem,seval]
    refine And.intro (by kernel_rfl) ?_
    rfl
   |a::b::c::r,ho,hlen,hkl=>
    have h3:decide (((((r.length+1+1+1):Nat):Int))=2)=false:=by simp;omega
    simp only[h1,↓hlen,h3,go_sem,seval]
    refine And.intro (by kernel_rfl) ?_
    rfl
   |[a,b],ho,hlen,hkl=>
    obtain⟨e,rfl,hg⟩:∃e,v = .rf 9 e 0 2 2/\hp.get 9=some (e,.blk [.bool a,.bool b] 1 false false false):=by
     rcases ho with ⟨he,_⟩|⟨e,cs,rfl,hg,hu⟩
     ·simp at he
     ·rw[cT]at hu;cases hu
      exact⟨e,rfl,hg⟩
    cases a
    ·simp only[h1,hg,go_sem,seval]
     refine And.intro (by kernel_rfl) ?_
     rfl
    ·simp only[h1,hg,go_sem,seval]
     refine aB (h84 p.fn.nl p.fn.cl p.fn.es p.fn.ok false true [true,b] (by simp)) (by simp only[go_sem,seval]) rfl ?_
     simp only[go_sem,seval]
     refine And.intro (by kernel_rfl) ?_
     rfl
  simp only[h1,go_sem,seval]
  cases o6:decide (p.op.bs=[99,111,100,101])
  case true=>
   have hs:eM vals p.op.bs p.num p.value p.fn.es ks=dH p.fn.es ks:=by simp[eM,o1,o2,o3,o4,o5,o6]
   rw[hs]
   simp only[h1,go_sem,seval]
   obtain⟨nl8,cl8,keys,hsn,hnl8⟩:=ho.snap (El.bools _) 62
   have h2:=h84 p.fn.nl p.fn.cl p.fn.es p.fn.ok nl8 cl8 ks hkl
   refine bQ h2 (oQ (by simp only[go_sem,seval]) hsn) (v:=.bool (dH p.fn.es ks)) (pa:=[]) rfl ?_
   simp only[go_sem,seval]
  have hs:eM vals p.op.bs p.num p.value p.fn.es ks=eW p.op.bs ks:=by simp[eM,o1,o2,o3,o4,o5,o6]
  rw[hs]
  simp only[h1,go_sem,seval]
  obtain⟨nl8,cl8,keys,hsn,hnl8⟩:=ho.snap (El.bools _) 62
  have h2:=h120 p.op.bs nl8 cl8 ks hkl
  refine bQ h2 (oQ (by simp only[go_sem,seval]) hsn) (v:=.bool (eW p.op.bs ks)) (pa:=[]) rfl ?_
  simp only[go_sem,seval]
 ·rintro d x r env hp hes ⟨v,rfl,ho,h1⟩
  have hxm:x∈p.kids:=by rw[hes];simp
  have hx:=ih x hxm (hks x hxm)
  have hb2:(d++x::r).length<=big:=by rw[<-hes];exact hk
  obtain⟨hget,e1,e2,ew⟩:=cF hes hk
  have h1':=h1.trans hH1
  simp only[cf83L0,cf83E0,h1',hget,e1,e2,go_sem,seval]
  refine aB hx (by simp only[go_sem,seval]) rfl ?_
  simp only[go_sem,seval]
  refine fV (kb:=0) (s:=9) (ho.mono ?_) (El.bools _) (xs:=[.bool (dZ vals x)]) (by intro y hy;simp at hy;subst hy;exact El.bool _) (by simp[big]at *;omega) (by omega) ?_
  ·simp only[go_sem,seval]
  ·intro v' rd pa ho2 hk2 _
   simp only[ew,go_sem,seval]
   exact⟨v',rfl,by simpa using ho2,by rw[hk2 1 (by omega)];simp only[h1,go_sem,seval]⟩
end
end Go.Tev
end
