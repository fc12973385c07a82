import Derived.Test.YtmcadllokkmeiaaGreatDoorSAW
import Derived.Test.YtmcadllokkmeiaaGreatDoorSAX
import Derived.Test.YtmcadllokkmeiaaGreatDoorSAR
import Derived.Test.YtmcadllokkmeiaaGreatDoorSAT
set_option linter.all false
section
namespace Go.Tev
section
variable{pg:Pg}
end
end Go.Tev
end
section
namespace Go.Tev
section
variable{pg:Pg}
end
end Go.Tev
end
section
namespace Go.Tev
section
variable{pg:Pg}
theorem c53(hf:pg.fs 53=some cf53)(c:bR)(v:Val):Ret pg 53 [v.av,.fp c.av] (.bool (decide (v.v.bs=c.v.bs))):=by
 refine Ret.ofX hf ?_
 unfold cf53
 simp only[go_sem,seval]
theorem mx2(a b:Int):(lT max2 (.int .i64 a) [.int .i64 b]).bind val=val (.int .i64 (if a<b then b else a)):=by simp[lT,max2]
theorem mn2(a b:Int):(lT min2 (.int .i64 a) [.int .i64 b]).bind val=val (.int .i64 (if b<a then b else a)):=by simp[lT,min2]
def GI(a n:Int):Int:=if 1099511627776<wr .i64 (n*(if a<0 then 0 else a)) then 1099511627776 else wr .i64 (n*(if a<0 then 0 else a))
end
end Go.Tev
end
section
namespace Go.Tev
section
variable{pg:Pg}
end
end Go.Tev
end
section
namespace Go.Tev
def iEq(x y:Int):Bool:=decide (x=y)
section
variable{pg:Pg}
theorem aCL(hf:pg.fs 15=some cf15)(nl cl nl' cl':Bool)(a b:List Int)(hb:a.length<=big):Ret pg 15 [.sl nl (a.map aH) cl,.sl nl' (b.map aH) cl'] (.bool (eqL iEq a b)):=by
 refine Ret.ofX hf ?_
 unfold cf15
 cases b2:decide ((a.length:Int)=(b.length:Int))
 case false=>
  simp only[b2,go_sem,seval]
  rw[uN b2]
 case true=>
 have hl:a.length=b.length:=by have:=of_decide_eq_true b2;omega
 simp only[b2,go_sem,seval]
 refine aG a (fun d r env hp=>env=cf15E0 (.sl nl (a.map aH) cl) (.sl nl' (b.map aH) cl') (.int .i64 d.length)/\eqL iEq a b=eqL iEq r (b.drop d.length)) ?_ ?_ ?_
 ·exact⟨rfl,rfl⟩
 ·rintro env hp ⟨rfl,hI⟩
  simp only[cf15L0,cf15E0,aX,go_sem,seval]
  rw[hI,l9 hl]
 ·rintro d x r env hp hes ⟨rfl,hI⟩
  obtain⟨hget,e1,e2,ew⟩:=cJ hes hb
  obtain⟨y,gy,f1,f2,hq⟩:=z7 (q:=iEq) hes hl
  rw[hq]at hI
  rw[hI]
  clear hI
  cases hxy:decide (x=y)
  ·simp only[cf15L0,cf15E0,e1,e2,hget,gy,f1,f2,hxy,go_sem,seval]
   exact⟨by kernel_rfl,by simp[iEq,hxy]⟩
  ·simp only[cf15L0,cf15E0,e1,e2,hget,gy,f1,f2,hxy,ew,go_sem,seval]
   exact⟨by kernel_rfl,rfl,by simp[iEq,hxy]⟩
theorem c161(hf:pg.fs 161=some cf161)(h15:pg.fs 15=some cf15)(nl cl nl' cl':Bool)(a b:List aI)(hb:a.length<=big):Ret pg 161 [.sl nl (a.map aI.av) cl,.sl nl' (b.map aI.av) cl'] (.bool (eqL eY a b)):=by
 refine Ret.ofX hf ?_
 unfold cf161
 cases b2:decide ((a.length:Int)=(b.length:Int))
 case false=>
  simp only[b2,go_sem,seval]
  rw[uN b2]
 case true=>
 have hl:a.length=b.length:=by have:=of_decide_eq_true b2;omega
 simp only[b2,go_sem,seval]
 refine aG a (fun d r env hp=>env=cf161E0 (.sl nl (a.map aI.av) cl) (.sl nl' (b.map aI.av) cl') (.int .i64 d.length)/\eqL eY a b=eqL eY r (b.drop d.length)) ?_ ?_ ?_
 ·exact⟨rfl,rfl⟩
 ·rintro env hp ⟨rfl,hI⟩
  simp only[cf161L0,cf161E0,aX,go_sem,seval]
  rw[hI,l9 hl]
 ·rintro d x r env hp hes ⟨rfl,hI⟩
  obtain⟨hget,e1,e2,ew⟩:=cJ hes hb
  obtain⟨y,gy,f1,f2,hq⟩:=z7 (q:=eY) hes hl
  rw[hq]at hI
  rw[hI]
  clear hI
  have hse:eY x y=(decide (x.op.bs=y.op.bs)&&decide (x.num=y.num)&&eqL iEq x.args.es y.args.es):=rfl
  cases c1:decide (x.op.bs=y.op.bs)
  case false=>
   simp only[cf161L0,cf161E0,e1,e2,hget,gy,f1,f2,c1,go_sem,seval]
   exact⟨by kernel_rfl,by simp[hse,c1]⟩
  case true=>
  cases c2:decide (x.num=y.num)
  case false=>
   simp only[cf161L0,cf161E0,e1,e2,hget,gy,f1,f2,c1,c2,go_sem,seval]
   exact⟨by kernel_rfl,by simp[hse,c2]⟩
  case true=>
  have a1:=aCL h15 x.args.nl x.args.cl y.args.nl y.args.cl x.args.es y.args.es x.args.ok
  simp only[cf161L0,cf161E0,e1,e2,hget,gy,f1,f2,c1,c2,go_sem,seval]
  refine aB a1 (by simp only[go_sem,seval]) rfl ?_
  cases c3:eqL iEq x.args.es y.args.es
  ·simp only[go_sem,seval]
   exact⟨by kernel_rfl,by simp[hse,c3]⟩
  ·simp only[ew,go_sem,seval]
   exact⟨by kernel_rfl,rfl,by simp[hse,c1,c2,c3]⟩
def eV:Str:=⟨[],by simp[big]⟩
set_option maxHeartbeats 1000000 in
theorem c118(hf:pg.fs 118=some cf118)(h161:pg.fs 161=some cf161)(h15:pg.fs 15=some cf15)(h121:∀a b:bF,Ret pg 121 [a.av,b.av] (.bool (fF a b))) :
  ∀p:aC,p.ok->∀q:aC,Ret pg 118 [p.av,q.av] (.bool (cY p q)):=by
 refine aC.ind' fun p ih hp q=>?_
 obtain⟨hk,hks⟩:=(aC.ok_iff p).1 hp
 have a1:=c161 h161 h15 p.fn.nl p.fn.cl q.fn.nl q.fn.cl p.fn.es q.fn.es p.fn.ok
 have a2:=h121 ⟨eV,p.at_⟩ ⟨eV,q.at_⟩
 have hs2:fF ⟨eV,p.at_⟩ ⟨eV,q.at_⟩=eqL bJ p.at_.es q.at_.es:=by simp[fF,eV]
 rw[hs2,bF.avc,bF.avc]at a2
 clear h121 h161 h15 hs2
 refine Ret.ofX hf ?_
 rw[nW,kV]
 unfold cf118
 cases b1:decide (p.op.bs=q.op.bs)
 case false=>
  simp only[b1,go_sem,seval]
 case true=>
 cases b2:decide (p.num=q.num)
 case false=>
  simp only[b1,b2,go_sem,seval]
 case true=>
 cases b3:decide (p.value=q.value)
 case false=>
  simp only[b1,b2,b3,go_sem,seval]
 case true=>
 cases b4:decide (p.name.bs=q.name.bs)
 case false=>
  simp only[b1,b2,b3,b4,go_sem,seval]
 case true=>
 cases b5:(p.dyn==q.dyn)
 case false=>
  simp only[b1,b2,b3,b4,b5,go_sem,seval]
 case true=>
 cases b6:decide (p.check=q.check)
 case false=>
  simp only[b1,b2,b3,b4,b5,b6,go_sem,seval]
 case true=>
 cases b7:decide ((p.kids.length:Int)=(q.kids.length:Int))
 case false=>
  rw[uN b7]
  simp only[b1,b2,b3,b4,b5,b6,b7,go_sem,seval]
 case true=>
 simp only[b1,b2,b3,b4,b5,b6,b7,go_sem,seval]
 refine aB a1 (by simp only[go_sem,seval]) rfl ?_
 cases b8:eqL eY p.fn.es q.fn.es
 case false=>
  simp only[go_sem,seval]
 case true=>
 simp only[go_sem,seval]
 refine aB a2 (by simp only[go_sem,seval]) rfl ?_
 cases b9:eqL bJ p.at_.es q.at_.es
 case false=>
  simp only[go_sem,seval]
 case true=>
 have hl:p.kids.length=q.kids.length:=by have:=of_decide_eq_true b7;omega
 simp only[go_sem,seval]
 refine aG p.kids (fun d r env hp=>hp.get 1=some (0,.blk [.str p.op.bs,.int .i64 p.num,.int .i64 p.value,.str p.name.bs,.sl p.at_.nl (p.at_.es.map Lin.av) p.at_.cl,.bool p.dyn,.int .i64 p.check,.sl p.fn.nl (p.fn.es.map aI.av) p.fn.cl,.sl p.knl (p.kids.map aC.av) p.kcl] 9 true true false) /\
   hp.get 5=some (0,.blk [.str q.op.bs,.int .i64 q.num,.int .i64 q.value,.str q.name.bs,.sl q.at_.nl (q.at_.es.map Lin.av) q.at_.cl,.bool q.dyn,.int .i64 q.check,.sl q.fn.nl (q.fn.es.map aI.av) q.fn.cl,.sl q.knl (q.kids.map aC.av) q.kcl] 9 true true false) /\
   env=cf118E0 (.pt 1 0 0) (.pt 5 0 0) (.int .i64 d.length)/\eqL cY p.kids q.kids=eqL cY r (q.kids.drop d.length)) ?_ ?_ ?_
 ·exact⟨rfl,rfl,rfl,rfl⟩
 ·rintro env hp ⟨g1,g5,rfl,hI⟩
  simp only[cf118L0,cf118E0,g1,aX,go_sem,seval]
  rw[hI,l9 hl]
 ·rintro d x r env hp hes ⟨g1,g5,rfl,hI⟩
  obtain⟨hget,e1,e2,ew⟩:=cJ hes hk
  obtain⟨y,gy,f1,f2,hq⟩:=z7 (q:=cY) hes hl
  rw[hq]at hI
  rw[hI]
  clear hI a1 a2
  have hx:x∈p.kids:=by rw[hes];simp
  have a3:=ih x hx (hks x hx) y
  clear ih hks
  simp only[cf118L0,cf118E0,g1,g5,hget,e1,e2,gy,f1,f2,go_sem,seval]
  refine aB a3 (by simp only[go_sem,seval]) rfl ?_
  cases hxy:cY x y
  ·simp only[go_sem,seval]
   kernel_rfl
  ·simp only[ew,go_sem,seval]
   exact⟨by kernel_rfl,g1,g5,rfl⟩
theorem c85(hf:pg.fs 85=some cf85)(h121:∀a b:bF,Ret pg 121 [a.av,b.av] (.bool (fF a b)))(nl cl nl' cl':Bool)(a b:List Lin)(ha:a.length<=big)(hb:b.length<=big) :
  Ret pg 85 [.sl nl (a.map Lin.av) cl,.sl nl' (b.map Lin.av) cl'] (.bool (eqL bJ a b)):=by
 have a2:=h121 ⟨eV,⟨nl,a,cl,ha⟩⟩ ⟨eV,⟨nl',b,cl',hb⟩⟩
 have hs2:fF ⟨eV,⟨nl,a,cl,ha⟩⟩ ⟨eV,⟨nl',b,cl',hb⟩⟩=eqL bJ a b:=by simp[fF,eV]
 rw[hs2,bF.avc,bF.avc]at a2
 refine Ret.ofX hf ?_
 unfold cf85
 simp only[go_sem,seval]
 refine aB a2 (by simp only[go_sem,seval]) rfl ?_
 simp only[go_sem,seval]
def fnP(f:Sl aI):aC:=.mk eV 0 0 eV (fV Lin) false 0 f true [] true
theorem RK(f:Sl aI):(fnP f).ok:=by simp[fnP,aC.ok,aC.oks]
theorem RL(f g:Sl aI):cY (fnP f) (fnP g)=eqL eY f.es g.es:=by
 rw[nW,kV]
 simp[fnP,aC.op,aC.num,aC.value,aC.name,aC.at_,aC.dyn,aC.check,aC.fn,aC.kids,fV,eqL]
theorem c119(hf:pg.fs 119=some cf119)(h118:∀p:aC,p.ok->∀q:aC,Ret pg 118 [p.av,q.av] (.bool (cY p q)))(a b:Sl aI) :
  Ret pg 119 [.sl a.nl (a.es.map aI.av) a.cl,.sl b.nl (b.es.map aI.av) b.cl] (.bool (eqL eY a.es b.es)):=by
 have a2:=h118 (fnP a) (RK a) (fnP b)
 rw[RL,aC.avc,aC.avc]at a2
 refine Ret.ofX hf ?_
 unfold cf119
 simp only[go_sem,seval]
 refine aB a2 (by simp only[go_sem,seval]) rfl ?_
 simp only[go_sem,seval]
theorem c88(hf:pg.fs 88=some cf88)(h121:∀a b:bF,Ret pg 121 [a.av,b.av] (.bool (fF a b)))(a b:Typ):Ret pg 88 [a.av,b.av] (.bool (gG a b)):=by
 have a2:=h121 a.shape b.shape
 rw[bF.avc,bF.avc]at a2
 refine Ret.ofX hf ?_
 unfold cf88
 cases b1:decide (a.elem.bs=b.elem.bs)
 case false=>
  simp only[b1,go_sem,seval]
  simp[gG,b1]
 case true=>
 simp only[b1,go_sem,seval]
 refine aB a2 (by simp only[go_sem,seval]) rfl ?_
 simp only[go_sem,seval]
 simp[gG,b1]
theorem c81(hf:pg.fs 81=some cf81)(h85:pg.fs 85=some cf85)(h121:∀a b:bF,Ret pg 121 [a.av,b.av] (.bool (fF a b)))(h118:∀p:aC,p.ok->∀q:aC,Ret pg 118 [p.av,q.av] (.bool (cY p q)))(h119:pg.fs 119=some cf119)
  (x y:aE) (hx:x.body.ok) (hi:x.index.ok):Ret pg 81 [x.av,y.av] (.bool (jQ x y)):=by
 have a1:=c85 h85 h121 x.space.nl x.space.cl y.space.nl y.space.cl x.space.es y.space.es x.space.ok y.space.ok
 have a2:=h118 x.body hx y.body
 have a3:=h118 x.index hi y.index
 have a4:=c119 h119 h118 x.fn y.fn
 rw[aC.avc,aC.avc]at a2 a3
 clear h85 h121 h118 h119
 refine Ret.ofX hf ?_
 unfold cf81
 cases b1:decide (x.kind=y.kind)
 case false=>
  simp only[b1,jQ,aE.av,aE.cells,aC.cells,go_sem,seval]
 case true=>
 cases b2:decide (x.value=y.value)
 case false=>
  simp only[b1,b2,jQ,go_sem,seval]
 case true=>
 cases b3:decide (x.source=y.source)
 case false=>
  simp only[b1,b2,b3,jQ,go_sem,seval]
 case true=>
 cases b4:decide (x.check=y.check)
 case false=>
  simp only[b1,b2,b3,b4,jQ,go_sem,seval]
 case true=>
 simp only[b1,b2,b3,b4,go_sem,seval]
 refine aB a1 (by simp only[go_sem,seval]) rfl ?_
 cases b5:eqL bJ x.space.es y.space.es
 case false=>
  simp only[b1,b2,b3,b4,b5,jQ,go_sem,seval]
 case true=>
 simp only[go_sem,seval]
 refine aB a2 (by simp only[go_sem,seval]) rfl ?_
 cases b6:cY x.body y.body
 case false=>
  simp only[b1,b2,b3,b4,b5,b6,jQ,go_sem,seval]
 case true=>
 simp only[go_sem,seval]
 refine aB a3 (by simp only[go_sem,seval]) rfl ?_
 cases b7:cY x.index y.index
 case false=>
  simp only[b1,b2,b3,b4,b5,b6,b7,jQ,go_sem,seval]
 case true=>
 simp only[go_sem,seval]
 refine aB a4 (by simp only[go_sem,seval]) rfl ?_
 simp only[b1,b2,b3,b4,b5,b6,b7,jQ,go_sem,seval]
theorem c82(hf:pg.fs 82=some cf82)(x:aE):Ret pg 82 [x.av] (sT x).av:=by
 refine Ret.ofX hf ?_
 unfold cf82
 cases b2:decide (x.kind=2)
 case true=>
  have h2:x.kind=2:=of_decide_eq_true b2
  have h3:decide (x.kind=3)=false:=by simp[h2]
  simp only[b2,h3,go_sem,seval]
  simp[sT,h2]
  rfl
 case false=>
 cases b3:decide (x.kind=3)
 case true=>
  have h3:x.kind=3:=of_decide_eq_true b3
  simp only[b2,b3,go_sem,seval]
  refine And.intro (by kernel_rfl) ?_
  simp[sT,h3]
  rfl
 case false=>
  have h2:=of_decide_eq_false b2
  have h3:=of_decide_eq_false b3
  simp only[b2,b3,go_sem,seval]
  simp[sT,h2,h3]
  rfl
end
end Go.Tev
end
section
namespace Go.Tev
theorem bU{op:List UInt8}{p:qZ}{r:AV}(h:hU op=some p)(hr:∃nl cl,r = .tup [.sl nl (p.params.map .str) cl,.str p.result,.bool true]):iJ op r:=by
 simp only[iJ,h];exact hr
theorem E6{op:List UInt8}{r:AV}(h:hU op=none)(hr:r = .tup [.sl true [] true,.str [],.bool false]):iJ op r:=by
 simp only[iJ,h];exact hr
section
variable{pg:Pg}
theorem c125(hf:pg.fs 125=some cf125)(op:List UInt8):bL pg 125 [.str op] (iJ op):=by
 refine bL.ofX hf ?_
 unfold cf125
 cases b0:decide (op=[97,100,100])
 case true=>
  have hop:op=[97,100,100]:=of_decide_eq_true b0
  simp only[b0,go_sem,seval]
  subst hop
  exact bU rfl ⟨_,_,rfl⟩
 case false=>
 cases b1:decide (op=[115,117,98])
 case true=>
  have hop:op=[115,117,98]:=of_decide_eq_true b1
  simp only[b0,b1,go_sem,seval]
  subst hop
  exact bU rfl ⟨_,_,rfl⟩
 case false=>
 cases b2:decide (op=[109,117,108])
 case true=>
  have hop:op=[109,117,108]:=of_decide_eq_true b2
  simp only[b0,b1,b2,go_sem,seval]
  subst hop
  exact bU rfl ⟨_,_,rfl⟩
 case false=>
 cases b3:decide (op=[100,105,118])
 case true=>
  have hop:op=[100,105,118]:=of_decide_eq_true b3
  simp only[b0,b1,b2,b3,go_sem,seval]
  subst hop
  exact bU rfl ⟨_,_,rfl⟩
 case false=>
 cases b4:decide (op=[109,111,100])
 case true=>
  have hop:op=[109,111,100]:=of_decide_eq_true b4
  simp only[b0,b1,b2,b3,b4,go_sem,seval]
  subst hop
  exact bU rfl ⟨_,_,rfl⟩
 case false=>
 cases b5:decide (op=[109,105,110])
 case true=>
  have hop:op=[109,105,110]:=of_decide_eq_true b5
  simp only[b0,b1,b2,b3,b4,b5,go_sem,seval]
  subst hop
  exact bU rfl ⟨_,_,rfl⟩
 case false=>
 cases b6:decide (op=[109,97,120])
 case true=>
  have hop:op=[109,97,120]:=of_decide_eq_true b6
  simp only[b0,b1,b2,b3,b4,b5,b6,go_sem,seval]
  subst hop
  exact bU rfl ⟨_,_,rfl⟩
 case false=>
 cases b7:decide (op=[110,101,103])
 case true=>
  have hop:op=[110,101,103]:=of_decide_eq_true b7
  simp only[b0,b1,b2,b3,b4,b5,b6,b7,go_sem,seval]
  subst hop
  exact bU rfl ⟨_,_,rfl⟩
 case false=>
 cases b8:decide (op=[97,98,115])
 case true=>
  have hop:op=[97,98,115]:=of_decide_eq_true b8
  simp only[b0,b1,b2,b3,b4,b5,b6,b7,b8,go_sem,seval]
  subst hop
  exact bU rfl ⟨_,_,rfl⟩
 case false=>
 cases b9:decide (op=[115,105,103,110])
 case true=>
  have hop:op=[115,105,103,110]:=of_decide_eq_true b9
  simp only[b0,b1,b2,b3,b4,b5,b6,b7,b8,b9,go_sem,seval]
  subst hop
  exact bU rfl ⟨_,_,rfl⟩
 case false=>
 cases b10:decide (op=[108,116])
 case true=>
  have hop:op=[108,116]:=of_decide_eq_true b10
  simp only[b0,b1,b2,b3,b4,b5,b6,b7,b8,b9,b10,go_sem,seval]
  subst hop
  exact bU rfl ⟨_,_,rfl⟩
 case false=>
 cases b11:decide (op=[108,101])
 case true=>
  have hop:op=[108,101]:=of_decide_eq_true b11
  simp only[b0,b1,b2,b3,b4,b5,b6,b7,b8,b9,b10,b11,go_sem,seval]
  subst hop
  exact bU rfl ⟨_,_,rfl⟩
 case false=>
 cases b12:decide (op=[103,116])
 case true=>
  have hop:op=[103,116]:=of_decide_eq_true b12
  simp only[b0,b1,b2,b3,b4,b5,b6,b7,b8,b9,b10,b11,b12,go_sem,seval]
  subst hop
  exact bU rfl ⟨_,_,rfl⟩
 case false=>
 cases b13:decide (op=[103,101])
 case true=>
  have hop:op=[103,101]:=of_decide_eq_true b13
  simp only[b0,b1,b2,b3,b4,b5,b6,b7,b8,b9,b10,b11,b12,b13,go_sem,seval]
  subst hop
  exact bU rfl ⟨_,_,rfl⟩
 case false=>
 cases b14:decide (op=[101,113])
 case true=>
  have hop:op=[101,113]:=of_decide_eq_true b14
  simp only[b0,b1,b2,b3,b4,b5,b6,b7,b8,b9,b10,b11,b12,b13,b14,go_sem,seval]
  subst hop
  exact bU rfl ⟨_,_,rfl⟩
 case false=>
 cases b15:decide (op=[110,101])
 case true=>
  have hop:op=[110,101]:=of_decide_eq_true b15
  simp only[b0,b1,b2,b3,b4,b5,b6,b7,b8,b9,b10,b11,b12,b13,b14,b15,go_sem,seval]
  subst hop
  exact bU rfl ⟨_,_,rfl⟩
 case false=>
 cases b16:decide (op=[97,110,100])
 case true=>
  have hop:op=[97,110,100]:=of_decide_eq_true b16
  simp only[b0,b1,b2,b3,b4,b5,b6,b7,b8,b9,b10,b11,b12,b13,b14,b15,b16,go_sem,seval]
  subst hop
  exact bU rfl ⟨_,_,rfl⟩
 case false=>
 cases b17:decide (op=[111,114])
 case true=>
  have hop:op=[111,114]:=of_decide_eq_true b17
  simp only[b0,b1,b2,b3,b4,b5,b6,b7,b8,b9,b10,b11,b12,b13,b14,b15,b16,b17,go_sem,seval]
  subst hop
  exact bU rfl ⟨_,_,rfl⟩
 case false=>
 cases b18:decide (op=[120,111,114])
 case true=>
  have hop:op=[120,111,114]:=of_decide_eq_true b18
  simp only[b0,b1,b2,b3,b4,b5,b6,b7,b8,b9,b10,b11,b12,b13,b14,b15,b16,b17,b18,go_sem,seval]
  subst hop
  exact bU rfl ⟨_,_,rfl⟩
 case false=>
 cases b19:decide (op=[110,111,116])
 case true=>
  have hop:op=[110,111,116]:=of_decide_eq_true b19
  simp only[b0,b1,b2,b3,b4,b5,b6,b7,b8,b9,b10,b11,b12,b13,b14,b15,b16,b17,b18,b19,go_sem,seval]
  subst hop
  exact bU rfl ⟨_,_,rfl⟩
 case false=>
 cases b20:decide (op=[115,101,108,101,99,116])
 case true=>
  have hop:op=[115,101,108,101,99,116]:=of_decide_eq_true b20
  simp only[b0,b1,b2,b3,b4,b5,b6,b7,b8,b9,b10,b11,b12,b13,b14,b15,b16,b17,b18,b19,b20,go_sem,seval]
  subst hop
  exact bU rfl ⟨_,_,rfl⟩
 case false=>
 cases b21:decide (op=[116,111,105,110,116])
 case true=>
  have hop:op=[116,111,105,110,116]:=of_decide_eq_true b21
  simp only[b0,b1,b2,b3,b4,b5,b6,b7,b8,b9,b10,b11,b12,b13,b14,b15,b16,b17,b18,b19,b20,b21,go_sem,seval]
  subst hop
  exact bU rfl ⟨_,_,rfl⟩
 case false=>
 simp only[b0,b1,b2,b3,b4,b5,b6,b7,b8,b9,b10,b11,b12,b13,b14,b15,b16,b17,b18,b19,b20,b21,go_sem,seval]
 refine E6 ?_ rfl
 have n0:decide ([97,100,100]=op)=false:=by rw[<-b0,decide_eq_decide];exact eq_comm
 have n1:decide ([115,117,98]=op)=false:=by rw[<-b1,decide_eq_decide];exact eq_comm
 have n2:decide ([109,117,108]=op)=false:=by rw[<-b2,decide_eq_decide];exact eq_comm
 have n3:decide ([100,105,118]=op)=false:=by rw[<-b3,decide_eq_decide];exact eq_comm
 have n4:decide ([109,111,100]=op)=false:=by rw[<-b4,decide_eq_decide];exact eq_comm
 have n5:decide ([109,105,110]=op)=false:=by rw[<-b5,decide_eq_decide];exact eq_comm
 have n6:decide ([109,97,120]=op)=false:=by rw[<-b6,decide_eq_decide];exact eq_comm
 have n7:decide ([110,101,103]=op)=false:=by rw[<-b7,decide_eq_decide];exact eq_comm
 have n8:decide ([97,98,115]=op)=false:=by rw[<-b8,decide_eq_decide];exact eq_comm
 have n9:decide ([115,105,103,110]=op)=false:=by rw[<-b9,decide_eq_decide];exact eq_comm
 have n10:decide ([108,116]=op)=false:=by rw[<-b10,decide_eq_decide];exact eq_comm
 have n11:decide ([108,101]=op)=false:=by rw[<-b11,decide_eq_decide];exact eq_comm
 have n12:decide ([103,116]=op)=false:=by rw[<-b12,decide_eq_decide];exact eq_comm
 have n13:decide ([103,101]=op)=false:=by rw[<-b13,decide_eq_decide];exact eq_comm
 have n14:decide ([101,113]=op)=false:=by rw[<-b14,decide_eq_decide];exact eq_comm
 have n15:decide ([110,101]=op)=false:=by rw[<-b15,decide_eq_decide];exact eq_comm
 have n16:decide ([97,110,100]=op)=false:=by rw[<-b16,decide_eq_decide];exact eq_comm
 have n17:decide ([111,114]=op)=false:=by rw[<-b17,decide_eq_decide];exact eq_comm
 have n18:decide ([120,111,114]=op)=false:=by rw[<-b18,decide_eq_decide];exact eq_comm
 have n19:decide ([110,111,116]=op)=false:=by rw[<-b19,decide_eq_decide];exact eq_comm
 have n20:decide ([115,101,108,101,99,116]=op)=false:=by rw[<-b20,decide_eq_decide];exact eq_comm
 have n21:decide ([116,111,105,110,116]=op)=false:=by rw[<-b21,decide_eq_decide];exact eq_comm
 simp only[hU,jC,List.find?_cons,List.find?_nil,n0,n1,n2,n3,n4,n5,n6,n7,n8,n9,n10,n11,n12,n13,n14,n15,n16,n17,n18,n19,n20,n21]
theorem CJ(n:Int)(s:aI)(r:List aI):eL n (s::r)=(gV s n&&eL (n+1) r):=rfl
set_option maxHeartbeats 1000000 in
theorem ED(h124:pg.fs 124=some cf124)(h125:∀op,bL pg 125 [.str op] (iJ op))(nl cl:Bool)(fn:List aI)(hb:fn.length<=big)(n:Int)(g1:0<=n)(g2:n<=20)(g3:(fn.length:Int)<=60)
  (d:List aI) (x:aI) (r:List aI) (hp:Hp) (hes:fn=d++x::r) (hI:eL n fn=eL (n+d.length) (x::r)) :
  XX pg 0 cf87L1 ⟨cf87E1 (.sl nl (fn.map aI.av) cl) (.int .i64 n) (.int .i64 d.length),hp⟩
   (lG (fun st'=>clear cf87M1 st'.env=cf87E1 (.sl nl (fn.map aI.av) cl) (.int .i64 n) (.int .i64 (d++[x]).length)/\eL n fn=eL (n+(d++[x]).length) r)
    (mR 0 (lG (fun st'=>XX pg 0 (.seq (.reg [⟨some 4,.mov,[.c (.bool true)],none,0,0⟩] false) .ret) st' (DX [.inl 4] (.bool (eL n fn))) ⟨⟩) (DX [.inl 4] (.bool (eL n fn)))))) ⟨⟩:=by
 obtain⟨hget,e1,e2,ew⟩:=cJ hes hb
 rw[CJ]at hI
 have en:n+((d++[x]).length:Int)=n+d.length+1:=by simp;omega
 have hdl:d.length<fn.length:=by rw[hes];simp
 have hw:wr .i64 (n+(d.length:Int))=n+d.length:=aR (by omega) (by omega)
 rw[en]
 rw[hI]
 clear hI
 cases o1:decide (x.op.bs=[99,111,110,115,116])
 case true=>
  have hs:gV x (n+d.length)=(decide ((x.args.es.length:Int)=0)&&lE x.num):=by simp[gV,of_decide_eq_true o1]
  rw[hs]
  cases o2:decide ((x.args.es.length:Int)=0)
  case false=>
   simp only[cf87L1,cf87E1,e1,e2,hget,o1,o2,go_sem,seval]
  case true=>
   simp only[cf87L1,cf87E1,e1,e2,hget,o1,o2,go_sem,seval]
   refine aB (PP h124 x.num) (by simp only[go_sem,seval]) rfl ?_
   cases o3:lE x.num
   ·simp only[go_sem,seval]
   ·simp only[ew,go_sem,seval]
    rfl
 case false=>
 cases o2:decide (x.op.bs=[116,114,117,116,104])
 case true=>
  have hs:gV x (n+d.length)=(decide ((x.args.es.length:Int)=0)&&o7 x.num):=by
   have h1:=of_decide_eq_true o2
   simp[gV,h1]
  rw[hs]
  cases o3:decide ((x.args.es.length:Int)=0)
  case false=>
   simp only[cf87L1,cf87E1,e1,e2,hget,o1,o2,o3,go_sem,seval]
  case true=>
   simp only[cf87L1,cf87E1,e1,e2,hget,o1,o2,o3,go_sem,seval]
   refine aB (VP h124 x.num) (by simp only[go_sem,seval]) rfl ?_
   cases o4:o7 x.num
   ·simp only[go_sem,seval]
   ·simp only[ew,go_sem,seval]
    rfl
 case false=>
 obtain⟨rr,hr,hP⟩:=h125 x.op.bs
 have hs:gV x (n+d.length)=(match hU x.op.bs with
  |none=>false
  |some p=>gX x.args.es (n+d.length)&&decide (x.num=0)&&decide ((x.args.es.length:Int)=(p.params.length:Int))):=by
  have h1:=of_decide_eq_false o1
  have h2:=of_decide_eq_false o2
  simp only[gV,h1,h2,if_false]
  rfl
 rw[hs]
 clear hs
 simp only[iJ]at hP
 cases hpt:hU x.op.bs with
 |none=>
  rw[hpt]at hP
  dsimp only at hP
  subst hP
  simp only[cf87L1,cf87E1,e1,e2,hget,o1,o2,go_sem,seval]
  refine aB hr (by simp only[go_sem,seval]) rfl ?_
  simp only[go_sem,seval]
 |some p=>
  rw[hpt]at hP
  dsimp only at hP
  obtain⟨nl2,cl2,rfl⟩:=hP
  dsimp only
  simp only[cf87L1,cf87E1,e1,e2,hget,o1,o2,go_sem,seval]
  refine aB hr (by simp only[go_sem,seval]) rfl ?_
  cases o3:decide ((x.args.es.length:Int)=(p.params.length:Int))
  case false=>
   simp only[o3,go_sem,seval]
  case true=>
  cases o4:decide (x.num=0)
  case false=>
   simp only[o3,o4,go_sem,seval]
  case true=>
  simp only[o3,o4,go_sem,seval]
  have hab:=x.args.ok
  refine aG x.args.es (fun d2 r2 env hp2=>env=cf87E0 (.sl nl (fn.map aI.av) cl) (.int .i64 n) (.int .i64 d.length) (.pt 1 (hp.next 1) 0) (.int .i64 d2.length) /\
   hp2.get 1=some (hp.next 1,.blk [.str x.op.bs,.int .i64 x.num,.sl x.args.nl (x.args.es.map aH) x.args.cl] 3 true true false)/\gX x.args.es (n+d.length)=gX r2 (n+d.length)) ?_ ?_ ?_
  ·refine⟨rfl,?_,rfl⟩
   simp only[go_sem,seval]
  ·rintro env hp2 ⟨rfl,h1,hI⟩
   simp only[cf87L0,cf87E0,h1,aX,ew,go_sem,seval]
   refine⟨rfl,?_⟩
   rw[hI];simp[gX]
  ·rintro d2 a r2 env hp2 he2 ⟨rfl,h1,hI⟩
   obtain⟨hget2,f1,f2,fw⟩:=cJ he2 hab
   have hI2:gX x.args.es (n+d.length)=((decide (0<=a)&&decide (a<n+d.length))&&gX r2 (n+d.length)):=by rw[hI];simp[gX]
   rw[hI2]
   clear hI hI2
   cases q1:decide (a<0)
   case true=>
    have:decide (0<=a)=false:=by simp at q1 ⊢;omega
    simp only[cf87L0,cf87E0,h1,f1,f2,hget2,q1,this,go_sem,seval]
   case false=>
   cases q2:decide (n+(d.length:Int)<=a)
   case true=>
    have:decide (a<n+d.length)=false:=by simp at q2 ⊢;omega
    simp only[cf87L0,cf87E0,h1,f1,f2,hget2,q1,hw,q2,this,go_sem,seval]
   case false=>
    have h3:decide (0<=a)=true:=by simp at q1 ⊢;omega
    have h4:decide (a<n+d.length)=true:=by simp at q2 ⊢;omega
    simp only[cf87L0,cf87E0,h1,f1,f2,hget2,q1,hw,q2,h3,h4,fw,go_sem,seval]
    rfl
set_option maxHeartbeats 1000000 in
theorem c87(hf:pg.fs 87=some cf87)(h124:pg.fs 124=some cf124)(h125:∀op,bL pg 125 [.str op] (iJ op))(nl cl:Bool)(fn:List aI)(hb:fn.length<=big)(n:Int) :
  Ret pg 87 [.sl nl (fn.map aI.av) cl,.int .i64 n] (.bool (cM fn n)):=by
 refine Ret.ofX hf ?_
 unfold cf87
 cases h1:decide (n<0)
 case true=>
  simp only[h1,go_sem,seval]
  have:decide (0<=n)=false:=by simp at h1 ⊢;omega
  simp[cM,this]
 case false=>
 cases h2:decide (20<n)
 case true=>
  simp only[h1,h2,go_sem,seval]
  have:decide (n<=20)=false:=by simp at h2 ⊢;omega
  simp[cM,this]
 case false=>
 cases h3:decide (60<(fn.length:Int))
 case true=>
  simp only[h1,h2,h3,go_sem,seval]
  have:decide ((fn.length:Int)<=60)=false:=by simp at h3 ⊢;omega
  simp[cM,this]
 case false=>
 have g1:=of_decide_eq_false h1
 have g2:=of_decide_eq_false h2
 have g3:=of_decide_eq_false h3
 have hspec:decide (n+(fn.length:Int)=0)=false->cM fn n=eL n fn:=by
  intro h4
  have e1:decide (0<=n)=true:=by simp;omega
  have e2:decide (n<=20)=true:=by simp;omega
  have e3:decide ((fn.length:Int)<=60)=true:=by simp;omega
  simp[cM,h4,e1,e2,e3]
 cases h4:decide (n=0)
 case true=>
  cases h5:decide ((fn.length:Int)=0)
  case true=>
   simp only[h1,h2,h3,h4,h5,go_sem,seval]
   have:decide (n+(fn.length:Int)=0)=true:=by simp at h4 h5 ⊢;simp[h4,h5]
   simp[cM,this]
  case false=>
   have hs:=hspec (by simp at h4 h5 ⊢;subst h4;simpa using h5)
   rw[hs]
   clear hs hspec
   simp only[h1,h2,h3,h4,h5,go_sem,seval]
   refine aG fn (fun d r env hp=>env=cf87E1 (.sl nl (fn.map aI.av) cl) (.int .i64 n) (.int .i64 d.length)/\eL n fn=eL (n+d.length) r) ?_ ?_ ?_
   ·exact⟨rfl,by simp⟩
   ·rintro env hp ⟨rfl,hI⟩
    simp only[cf87L1,cf87E1,aX,go_sem,seval]
    rw[hI];rfl
   ·rintro d x r env hp hes ⟨rfl,hI⟩
    exact ED h124 h125 nl cl fn hb n (by omega) (by omega) (by omega) d x r hp hes hI
 case false=>
  have hs:=hspec (by simp at h4 ⊢;omega)
  rw[hs]
  clear hs hspec
  simp only[h1,h2,h3,h4,go_sem,seval]
  refine aG fn (fun d r env hp=>env=cf87E1 (.sl nl (fn.map aI.av) cl) (.int .i64 n) (.int .i64 d.length)/\eL n fn=eL (n+d.length) r) ?_ ?_ ?_
  ·exact⟨rfl,by simp⟩
  ·rintro env hp ⟨rfl,hI⟩
   simp only[cf87L1,cf87E1,aX,go_sem,seval]
   rw[hI];rfl
  ·rintro d x r env hp hes ⟨rfl,hI⟩
   exact ED h124 h125 nl cl fn hb n (by omega) (by omega) (by omega) d x r hp hes hI
end
end Go.Tev
end
section
namespace Go.Tev
def j9(p:aC)(num value:Int)(name:Str)(at_:Sl Lin)(dyn:Bool)(check:Int)(fn:Sl aI):aC:=.mk p.op num value name at_ dyn check fn p.knl p.kids p.kcl
theorem j7(p:aC)(num value:Int)(name:Str)(at_:Sl Lin)(dyn:Bool)(check:Int)(fn:Sl aI):(j9 p num value name at_ dyn check fn).op=p.op:=rfl
theorem iL(p:aC)(num value:Int)(name:Str)(at_:Sl Lin)(dyn:Bool)(check:Int)(fn:Sl aI):(j9 p num value name at_ dyn check fn).num=num:=rfl
theorem fN(p:aC)(num value:Int)(name:Str)(at_:Sl Lin)(dyn:Bool)(check:Int)(fn:Sl aI):(j9 p num value name at_ dyn check fn).value=value:=rfl
theorem gN(p:aC)(num value:Int)(name:Str)(at_:Sl Lin)(dyn:Bool)(check:Int)(fn:Sl aI):(j9 p num value name at_ dyn check fn).name=name:=rfl
theorem iO(p:aC)(num value:Int)(name:Str)(at_:Sl Lin)(dyn:Bool)(check:Int)(fn:Sl aI):(j9 p num value name at_ dyn check fn).at_=at_:=rfl
theorem iM(p:aC)(num value:Int)(name:Str)(at_:Sl Lin)(dyn:Bool)(check:Int)(fn:Sl aI):(j9 p num value name at_ dyn check fn).dyn=dyn:=rfl
theorem fO(p:aC)(num value:Int)(name:Str)(at_:Sl Lin)(dyn:Bool)(check:Int)(fn:Sl aI):(j9 p num value name at_ dyn check fn).check=check:=rfl
theorem j8(p:aC)(num value:Int)(name:Str)(at_:Sl Lin)(dyn:Bool)(check:Int)(fn:Sl aI):(j9 p num value name at_ dyn check fn).fn=fn:=rfl
theorem gO(p:aC)(num value:Int)(name:Str)(at_:Sl Lin)(dyn:Bool)(check:Int)(fn:Sl aI):(j9 p num value name at_ dyn check fn).kids=p.kids:=rfl
theorem jZ(p:aC)(num value:Int)(name:Str)(at_:Sl Lin)(dyn:Bool)(check:Int)(fn:Sl aI):(j9 p num value name at_ dyn check fn).knl=p.knl:=rfl
theorem j0(p:aC)(num value:Int)(name:Str)(at_:Sl Lin)(dyn:Bool)(check:Int)(fn:Sl aI):(j9 p num value name at_ dyn check fn).kcl=p.kcl:=rfl
theorem mF(p:aC)(num value:Int)(name:Str)(at_:Sl Lin)(dyn:Bool)(check:Int)(fn:Sl aI) :
  cY p (j9 p num value name at_ dyn check fn)=(decide (p.num=num)&&decide (p.value=value)&&decide (p.name.bs=name.bs)&&(p.dyn==dyn)&&decide (p.check=check)&&eqL bJ p.at_.es at_.es&&eqL eY p.fn.es fn.es):=by
 rw[nW,kV]
 simp only[j7,iL,fN,gN,iO,iM,fO,j8,gO]
 rw[fQ pU]
 simp
 rfl
theorem bq1:(true==false)=false:=rfl
theorem bq2:(false==false)=true:=rfl
theorem bq3:(true==true)=true:=rfl
def fI(p:aC):aC:=
 if p.op.bs=[99,111,110,115,116] then j9 p p.num 0 eV (fV Lin) false 0 (fV aI)
 else if p.op.bs=[108,105,110,101,97,114] then j9 p 0 0 eV p.at_ false 0 (fV aI)
 else if p.op.bs=[114,101,97,100] then j9 p 0 p.value eV p.at_ p.dyn (if p.dyn then p.check else 0) (fV aI)
 else if p.op.bs=[105,102] then j9 p 0 0 eV p.at_ false 0 (fV aI)
 else if p.op.bs=[114,101,100,117,99,101] then j9 p 0 0 p.name p.at_ false 0 p.fn
 else if p.op.bs=[99,111,100,101] then j9 p 0 0 eV (fV Lin) false 0 p.fn
 else j9 p 0 0 eV (fV Lin) false 0 (fV aI)
def fU(p:aC):Bool:=
 if p.op.bs=[99,111,110,115,116] then decide ((p.kids.length:Int)=0)&&decide ((p.at_.es.length:Int)=0)
 else if p.op.bs=[108,105,110,101,97,114] then decide ((p.kids.length:Int)=0)&&decide ((p.at_.es.length:Int)=1)
 else if p.op.bs=[114,101,97,100] then
  (if p.dyn then decide ((p.kids.length:Int)=1)&&decide ((p.at_.es.length:Int)<=5) else decide ((p.kids.length:Int)=0)&&decide ((p.at_.es.length:Int)<=6))
 else if p.op.bs=[105,102] then decide ((p.kids.length:Int)=2)&&decide ((p.at_.es.length:Int)=1)
 else if p.op.bs=[114,101,100,117,99,101] then decide ((p.kids.length:Int)=2)&&decide ((p.at_.es.length:Int)=1)
 else if p.op.bs=[99,111,100,101] then decide ((p.kids.length:Int)<=20)&&decide ((p.at_.es.length:Int)=0)
 else match hU p.op.bs with
  |none=>false
  |some q=>decide ((p.kids.length:Int)=(q.params.length:Int))&&decide ((p.at_.es.length:Int)=0)
def nN(p:aC)(vars:List Str)(v:Int):Bool:=
 if p.op.bs=[99,111,110,115,116] then lE p.num
 else if p.op.bs=[114,101,97,100] then decide (0<=p.value)&&decide (p.value<v)&&decide (0<=p.check)
 else if p.op.bs=[114,101,100,117,99,101] then fJ p.name.bs && !jR vars p.name.bs&&cM p.fn.es 2
 else if p.op.bs=[99,111,100,101] then cM p.fn.es p.kids.length
 else true
theorem E5(p:aC)(vars:List Str)(v:Int):(fU p&&cY p (fI p)&&nN p vars v)=eQ p vars v:=by
 by_cases o1:p.op.bs=[99,111,110,115,116]
 ·simp only[fU,fI,nN,eQ,o1,if_true,mF,fV,eV,nG,d7]
  cases p.dyn<;>simp only[bq1,bq2,bq3,Bool.not_true,Bool.not_false,Bool.false_or,Bool.true_or,Bool.false_and,Bool.and_false,Bool.true_and,Bool.and_true,decide_true]
  (refine Bool.eq_iff_iff.2 ?_;simp only[Bool.and_eq_true];constructor<;>(intro h;simp only[h,and_self]))
 by_cases o2:p.op.bs=[108,105,110,101,97,114]
 ·have n1:¬p.op.bs=[114,101,97,100]:=by rw[o2];decide
  have n2:¬p.op.bs=[114,101,100,117,99,101]:=by rw[o2];decide
  have n3:¬p.op.bs=[99,111,100,101]:=by rw[o2];decide
  simp only[fU,fI,nN,eQ,o1,n1,n2,n3,if_false]
  simp only[o2,if_true,mF,fV,eV,nG,d7,fQ lA]
  cases p.dyn<;>simp only[bq1,bq2,bq3,Bool.not_true,Bool.not_false,Bool.false_or,Bool.true_or,Bool.false_and,Bool.and_false,Bool.true_and,Bool.and_true]
  (refine Bool.eq_iff_iff.2 ?_;simp only[Bool.and_eq_true];constructor<;>(intro h;simp only[h,and_self]))
 by_cases o3:p.op.bs=[114,101,97,100]
 ·simp only[fU,fI,nN,eQ,o1,o2,if_false]
  simp only[o3,if_true,mF,fV,eV,nG,d7,fQ lA,rT]
  cases p.dyn<;>simp only[bq1,bq2,bq3,Bool.not_true,Bool.not_false,Bool.false_or,Bool.true_or,Bool.false_and,Bool.and_false,Bool.true_and,Bool.and_true,Bool.false_eq_true,if_true,if_false,decide_true]
  ·cases h:decide (p.check=0)
   ·simp
   ·have:decide (0<=p.check)=true:=by simp at h ⊢;omega
    simp only[this,Bool.and_true,Bool.true_and]
    (refine Bool.eq_iff_iff.2 ?_;simp only[Bool.and_eq_true];constructor<;>(intro h;simp only[h,and_self]))
  ·(refine Bool.eq_iff_iff.2 ?_;simp only[Bool.and_eq_true];constructor<;>(intro h;simp only[h,and_self]))
 by_cases o4:p.op.bs=[105,102]
 ·have n2:¬p.op.bs=[114,101,100,117,99,101]:=by rw[o4];decide
  have n3:¬p.op.bs=[99,111,100,101]:=by rw[o4];decide
  simp only[fU,fI,nN,eQ,o1,o2,o3,n2,n3,if_false]
  simp only[o4,if_true,mF,fV,eV,nG,d7,fQ lA]
  cases p.dyn<;>simp only[bq1,bq2,bq3,Bool.not_true,Bool.not_false,Bool.false_or,Bool.true_or,Bool.false_and,Bool.and_false,Bool.true_and,Bool.and_true]
  (refine Bool.eq_iff_iff.2 ?_;simp only[Bool.and_eq_true];constructor<;>(intro h;simp only[h,and_self]))
 by_cases o5:p.op.bs=[114,101,100,117,99,101]
 ·simp only[fU,fI,nN,eQ,o1,o2,o3,o4,if_false]
  simp only[o5,if_true,mF,fV,eV,d7,fQ lA,fQ mY]
  cases p.dyn<;>simp only[bq1,bq2,bq3,Bool.not_true,Bool.not_false,Bool.false_or,Bool.true_or,Bool.false_and,Bool.and_false,Bool.true_and,Bool.and_true,decide_true]
  (refine Bool.eq_iff_iff.2 ?_;simp only[Bool.and_eq_true];constructor<;>(intro h;simp only[h,and_self]))
 by_cases o6:p.op.bs=[99,111,100,101]
 ·simp only[fU,fI,nN,eQ,o1,o2,o3,o4,o5,if_false]
  simp only[o6,if_true,mF,fV,eV,d7,nG,fQ mY]
  have hc:(decide ((p.kids.length:Int)<=20)&&cM p.fn.es p.kids.length)=cM p.fn.es p.kids.length:=by
   simp only[cM]
   cases decide ((p.kids.length:Int)<=20)<;>simp
  rw[<-hc]
  cases p.dyn<;>simp only[bq1,bq2,bq3,Bool.not_true,Bool.not_false,Bool.false_or,Bool.true_or,Bool.false_and,Bool.and_false,Bool.true_and,Bool.and_true,decide_true]
  cases decide ((p.kids.length:Int)<=20)<;>simp only[Bool.false_and,Bool.true_and,Bool.and_false]
  (refine Bool.eq_iff_iff.2 ?_;simp only[Bool.and_eq_true];constructor<;>(intro h;simp only[h,and_self]))
 ·simp only[fU,fI,nN,eQ,o1,o2,o3,o4,o5,o6,if_false]
  cases hpt:hU p.op.bs with
  |none=>simp
  |some q=>
   simp only[mF,fV,eV,d7,nG]
   cases p.dyn<;>simp only[bq1,bq2,bq3,Bool.not_true,Bool.not_false,Bool.false_or,Bool.true_or,Bool.false_and,Bool.and_false,Bool.true_and,Bool.and_true,decide_true]
   (refine Bool.eq_iff_iff.2 ?_;simp only[Bool.and_eq_true];constructor<;>(intro h;simp only[h,and_self]))
theorem mnA(a b:Int):(lT min2 (.int .i64 a) [.int .i64 b]).bind val=val (.int .i64 (if b<a then b else a)):=by simp[lT,min2]
theorem oU(n m:Int):decide (n=if m<n then m else n)=decide (n<=m):=by
 rw[decide_eq_decide];split<;>omega
section
variable{pg:Pg}
set_option maxHeartbeats 1000000 in
theorem c192(hf:pg.fs 192=some cf192)(h125:∀op,bL pg 125 [.str op] (iJ op))(p:aC):Ret pg 192 [p.av] (.tup [(fI p).av,.bool (fU p)]):=by
 refine Ret.ofX hf ?_
 unfold cf192
 cases o0:decide (p.op.bs=[99,111,110,115,116])
 case true=>
  have h0:=of_decide_eq_true o0
  have hP:(fI p).av = .agg [.str p.op.bs,.int .i64 p.num,.int .i64 0,.str [],.sl true [] true,.bool false,.int .i64 0,.sl true [] true,.sl p.knl (p.kids.map aC.av) p.kcl]:=by rw[aC.avc];simp only[fI];simp only[h0,if_true,if_false,j7,iL,fN,gN,iO,iM,fO,j8,gO,jZ,j0,eV,fV,List.map_nil]
  have hB:fU p=(decide ((p.kids.length:Int)=0)&&decide ((p.at_.es.length:Int)=0)):=by simp only[fU];simp only[h0,if_true,if_false]
  rw[hP,hB]
  clear hP hB h125
  cases k1:decide ((p.kids.length:Int)=0)
  ·simp only[o0,k1,go_sem,seval]
   show _=true
   kernel_rfl
  cases k2:decide ((p.at_.es.length:Int)=0)
  ·simp only[o0,k1,k2,go_sem,seval]
   show _=true
   kernel_rfl
  ·simp only[o0,k1,k2,go_sem,seval]
   show _=true
   kernel_rfl
 case false=>
 have h0:=of_decide_eq_false o0
 cases o1:decide (p.op.bs=[108,105,110,101,97,114])
 case true=>
  have h1:=of_decide_eq_true o1
  have hP:(fI p).av = .agg [.str p.op.bs,.int .i64 0,.int .i64 0,.str [],.sl p.at_.nl (p.at_.es.map Lin.av) p.at_.cl,.bool false,.int .i64 0,.sl true [] true,.sl p.knl (p.kids.map aC.av) p.kcl]:=by rw[aC.avc];simp only[fI,h0,if_false];simp only[h1,if_true,if_false,j7,iL,fN,gN,iO,iM,fO,j8,gO,jZ,j0,eV,fV,List.map_nil]
  have hB:fU p=(decide ((p.kids.length:Int)=0)&&decide ((p.at_.es.length:Int)=1)):=by simp only[fU,h0,if_false];simp only[h1,if_true,if_false]
  rw[hP,hB]
  clear hP hB h125
  cases k1:decide ((p.kids.length:Int)=0)
  ·simp only[o0,o1,k1,go_sem,seval]
   show _=true
   kernel_rfl
  cases k2:decide ((p.at_.es.length:Int)=1)
  ·simp only[o0,o1,k1,k2,go_sem,seval]
   show _=true
   kernel_rfl
  ·simp only[o0,o1,k1,k2,go_sem,seval]
   show _=true
   kernel_rfl
 case false=>
 have h1:=of_decide_eq_false o1
 cases o2:decide (p.op.bs=[114,101,97,100])
 case true=>
  have h2:=of_decide_eq_true o2
  cases hd:p.dyn
  case true=>
   have hP:(fI p).av = .agg [.str p.op.bs,.int .i64 0,.int .i64 p.value,.str [],.sl p.at_.nl (p.at_.es.map Lin.av) p.at_.cl,.bool true,.int .i64 p.check,.sl true [] true,.sl p.knl (p.kids.map aC.av) p.kcl]:=by rw[aC.avc];simp only[fI,h0,h1,if_false];simp only[hd,h2,if_true,if_false,j7,iL,fN,gN,iO,iM,fO,j8,gO,jZ,j0,eV,fV,List.map_nil]
   have hB:fU p=(decide ((p.kids.length:Int)=1)&&decide ((p.at_.es.length:Int)<=5)):=by simp only[fU,h0,h1,if_false];simp only[hd,h2,if_true,if_false]
   rw[hP,hB]
   clear hP hB h125
   cases k1:decide ((p.kids.length:Int)=1)
   ·repeat (first|simp only[o0,o1,o2,hd,mnA,oU,k1,go_sem,seval]|refine And.intro (by kernel_rfl) ?_)
    show _=true
    kernel_rfl
   cases k2:decide ((p.at_.es.length:Int)<=5)
   ·repeat (first|simp only[o0,o1,o2,hd,mnA,oU,k1,k2,go_sem,seval]|refine And.intro (by kernel_rfl) ?_)
    show _=true
    kernel_rfl
   ·repeat (first|simp only[o0,o1,o2,hd,mnA,oU,k1,k2,go_sem,seval]|refine And.intro (by kernel_rfl) ?_)
    show _=true
    kernel_rfl
  case false=>
   have hP:(fI p).av = .agg [.str p.op.bs,.int .i64 0,.int .i64 p.value,.str [],.sl p.at_.nl (p.at_.es.map Lin.av) p.at_.cl,.bool false,.int .i64 0,.sl true [] true,.sl p.knl (p.kids.map aC.av) p.kcl]:=by rw[aC.avc];simp only[fI,h0,h1,if_false];simp only[hd,Bool.false_eq_true,h2,if_true,if_false,j7,iL,fN,gN,iO,iM,fO,j8,gO,jZ,j0,eV,fV,List.map_nil]
   have hB:fU p=(decide ((p.kids.length:Int)=0)&&decide ((p.at_.es.length:Int)<=6)):=by simp only[fU,h0,h1,if_false];simp only[hd,Bool.false_eq_true,h2,if_true,if_false]
   rw[hP,hB]
   clear hP hB h125
   cases k1:decide ((p.kids.length:Int)=0)
   ·repeat (first|simp only[o0,o1,o2,hd,mnA,oU,k1,go_sem,seval]|refine And.intro (by kernel_rfl) ?_)
    show _=true
    kernel_rfl
   cases k2:decide ((p.at_.es.length:Int)<=6)
   ·repeat (first|simp only[o0,o1,o2,hd,mnA,oU,k1,k2,go_sem,seval]|refine And.intro (by kernel_rfl) ?_)
    show _=true
    kernel_rfl
   ·repeat (first|simp only[o0,o1,o2,hd,mnA,oU,k1,k2,go_sem,seval]|refine And.intro (by kernel_rfl) ?_)
    show _=true
    kernel_rfl
 case false=>
 have h2:=of_decide_eq_false o2
 cases o3:decide (p.op.bs=[105,102])
 case true=>
  have h3:=of_decide_eq_true o3
  have hP:(fI p).av = .agg [.str p.op.bs,.int .i64 0,.int .i64 0,.str [],.sl p.at_.nl (p.at_.es.map Lin.av) p.at_.cl,.bool false,.int .i64 0,.sl true [] true,.sl p.knl (p.kids.map aC.av) p.kcl]:=by rw[aC.avc];simp only[fI,h0,h1,h2,if_false];simp only[h3,if_true,if_false,j7,iL,fN,gN,iO,iM,fO,j8,gO,jZ,j0,eV,fV,List.map_nil]
  have hB:fU p=(decide ((p.kids.length:Int)=2)&&decide ((p.at_.es.length:Int)=1)):=by simp only[fU,h0,h1,h2,if_false];simp only[h3,if_true,if_false]
  rw[hP,hB]
  clear hP hB h125
  cases k1:decide ((p.kids.length:Int)=2)
  ·simp only[o0,o1,o2,o3,k1,go_sem,seval]
   show _=true
   kernel_rfl
  cases k2:decide ((p.at_.es.length:Int)=1)
  ·simp only[o0,o1,o2,o3,k1,k2,go_sem,seval]
   show _=true
   kernel_rfl
  ·simp only[o0,o1,o2,o3,k1,k2,go_sem,seval]
   show _=true
   kernel_rfl
 case false=>
 have h3:=of_decide_eq_false o3
 cases o4:decide (p.op.bs=[114,101,100,117,99,101])
 case true=>
  have h4:=of_decide_eq_true o4
  have hP:(fI p).av = .agg [.str p.op.bs,.int .i64 0,.int .i64 0,.str p.name.bs,.sl p.at_.nl (p.at_.es.map Lin.av) p.at_.cl,.bool false,.int .i64 0,.sl p.fn.nl (p.fn.es.map aI.av) p.fn.cl,.sl p.knl (p.kids.map aC.av) p.kcl]:=by rw[aC.avc];simp only[fI,h0,h1,h2,h3,if_false];simp only[h4,if_true,if_false,j7,iL,fN,gN,iO,iM,fO,j8,gO,jZ,j0,eV,fV,List.map_nil]
  have hB:fU p=(decide ((p.kids.length:Int)=2)&&decide ((p.at_.es.length:Int)=1)):=by simp only[fU,h0,h1,h2,h3,if_false];simp only[h4,if_true,if_false]
  rw[hP,hB]
  clear hP hB h125
  cases k1:decide ((p.kids.length:Int)=2)
  ·repeat (first|simp only[o0,o1,o2,o3,o4,k1,go_sem,seval]|refine And.intro (by kernel_rfl) ?_)
   show _=true
   kernel_rfl
  cases k2:decide ((p.at_.es.length:Int)=1)
  ·repeat (first|simp only[o0,o1,o2,o3,o4,k1,k2,go_sem,seval]|refine And.intro (by kernel_rfl) ?_)
   show _=true
   kernel_rfl
  ·repeat (first|simp only[o0,o1,o2,o3,o4,k1,k2,go_sem,seval]|refine And.intro (by kernel_rfl) ?_)
   show _=true
   kernel_rfl
 case false=>
 have h4:=of_decide_eq_false o4
 cases o5:decide (p.op.bs=[99,111,100,101])
 case true=>
  have h5:=of_decide_eq_true o5
  have hP:(fI p).av = .agg [.str p.op.bs,.int .i64 0,.int .i64 0,.str [],.sl true [] true,.bool false,.int .i64 0,.sl p.fn.nl (p.fn.es.map aI.av) p.fn.cl,.sl p.knl (p.kids.map aC.av) p.kcl]:=by rw[aC.avc];simp only[fI,h0,h1,h2,h3,h4,if_false];simp only[h5,if_true,if_false,j7,iL,fN,gN,iO,iM,fO,j8,gO,jZ,j0,eV,fV,List.map_nil]
  have hB:fU p=(decide ((p.kids.length:Int)<=20)&&decide ((p.at_.es.length:Int)=0)):=by simp only[fU,h0,h1,h2,h3,h4,if_false];simp only[h5,if_true,if_false]
  rw[hP,hB]
  clear hP hB h125
  cases k1:decide ((p.kids.length:Int)<=20)
  ·repeat (first|simp only[o0,o1,o2,o3,o4,o5,mnA,oU,k1,go_sem,seval]|refine And.intro (by kernel_rfl) ?_)
   show _=true
   kernel_rfl
  cases k2:decide ((p.at_.es.length:Int)=0)
  ·repeat (first|simp only[o0,o1,o2,o3,o4,o5,mnA,oU,k1,k2,go_sem,seval]|refine And.intro (by kernel_rfl) ?_)
   show _=true
   kernel_rfl
  ·repeat (first|simp only[o0,o1,o2,o3,o4,o5,mnA,oU,k1,k2,go_sem,seval]|refine And.intro (by kernel_rfl) ?_)
   show _=true
   kernel_rfl
 case false=>
 have h5:=of_decide_eq_false o5
 have hP:(fI p).av = .agg [.str p.op.bs,.int .i64 0,.int .i64 0,.str [],.sl true [] true,.bool false,.int .i64 0,.sl true [] true,.sl p.knl (p.kids.map aC.av) p.kcl]:=by rw[aC.avc];simp only[fI,h0,h1,h2,h3,h4,h5,if_false,j7,iL,fN,gN,iO,iM,fO,j8,gO,jZ,j0,eV,fV,List.map_nil]
 have hB:fU p=(match hU p.op.bs with
  |none=>false
  |some q=>decide ((p.kids.length:Int)=(q.params.length:Int))&&decide ((p.at_.es.length:Int)=0)):=by simp only[fU,h0,h1,h2,h3,h4,h5,if_false]
 rw[hP,hB]
 clear hP hB
 obtain⟨rr,hr,hR⟩:=h125 p.op.bs
 simp only[iJ]at hR
 cases hpt:hU p.op.bs with
 |none=>
  rw[hpt]at hR
  dsimp only at hR
  subst hR
  simp only[o0,o1,o2,o3,o4,o5,go_sem,seval]
  refine aB hr (by simp only[go_sem,seval]) rfl ?_
  simp only[go_sem,seval]
 |some q=>
  rw[hpt]at hR
  dsimp only at hR
  obtain⟨nl2,cl2,rfl⟩:=hR
  dsimp only
  simp only[o0,o1,o2,o3,o4,o5,go_sem,seval]
  refine aB hr (by simp only[go_sem,seval]) rfl ?_
  cases k1:decide ((p.kids.length:Int)=(q.params.length:Int))
  ·simp only[k1,go_sem,seval]
   show _=true
   kernel_rfl
  cases k2:decide ((p.at_.es.length:Int)=0)
  ·simp only[k1,k2,go_sem,seval]
   show _=true
   kernel_rfl
  ·simp only[k1,k2,go_sem,seval]
   show _=true
   kernel_rfl
end
end Go.Tev
end
section
namespace Go.Tev
section
variable{pg:Pg}
theorem gU{kb esz bytes s:Nat}{ag:Bool}{h:Hp}{xs:List AV}{nl cl nl0:Bool}{Q:AV->Eff->Prop}{t:Tok Q}(hx:∀x∈xs,El esz ag x)(hl:xs.length<=1073741824)(hb:bytes<=65536)
  (q1:xs=[]->Q (.sl nl0 [] true) (.pat [] []))
  (q2:xs≠[]->∀cs,bB esz ag xs=some cs->Q (.rf (kb+s) (h.next (kb+s)) 0 xs.length xs.length) (.pat [kb+s] [⟨kb+s,h.next (kb+s),.blk cs esz ag false false⟩])) :
  XO pg kb (.app esz ag bytes) s h [.sl nl0 [] true,.sl nl xs cl] Q t:=by
 rw[gF]
 obtain⟨ds,d1,d2,d3,_⟩:=cK hx
 simp only[lU,aP,d1,Option.map_some]
 by_cases hxs:xs=[]
 ·subst hxs
  cases d1
  simp only[kJ,List.length_nil,if_true]
  exact q1 rfl
 ·have hn:xs.length≠0:=by simpa using hxs
  simp only[kJ,hn,if_false,List.length_nil,Nat.zero_add,Bool.or_true,Bool.true_and,hl,hb,decide_true,Bool.and_self,if_true,bB,List.nil_append]
  exact q2 hxs ds d1
theorem u6{kb esz bytes s k e n:Nat}{ag:Bool}{h:Hp}{cs:List AV}{es xs:List AV}{nl cl:Bool}{Q:AV->Eff->Prop}{t:Tok Q}
  (hne:n=es.length) (hg:h.get k=some (e,.blk cs esz ag false false)) (hu:bB esz ag es=some cs) (hk:(k==kb+s)=false) (he:∀x∈es,El esz ag x) (hx:∀x∈xs,El esz ag x) (hxs:xs≠[])
  (hl:es.length+xs.length<=1073741824) (hb:bytes<=65536)
  (q2:∀cs',bB esz ag (es++xs)=some cs'->Q (.rf (kb+s) (h.next (kb+s)) 0 (n+xs.length) (n+xs.length)) (.pat [kb+s,k] [⟨k,e,.dead⟩,⟨kb+s,h.next (kb+s),.blk cs' esz ag false false⟩])) :
  XO pg kb (.app esz ag bytes) s h [.rf k e 0 n n,.sl nl xs cl] Q t:=by
 subst hne
 rw[gF]
 obtain⟨ds,d1,d2,d3,_⟩:=cK hx
 simp only[lU,aP,d1,Option.map_some]
 have hn:xs.length≠0:=by simpa using hxs
 obtain⟨cs',c1,c2,_,_⟩:=cK he
 rw[hu]at c1
 cases c1
 have h1:¬(es.length+xs.length<=es.length):=by omega
 simp only[kJ,hg,hn,if_false,true_and,Nat.zero_add]
 rw[if_pos (by omega)]
 simp only[h1,if_false,hl,hb,decide_true,Bool.true_and,hk,Bool.not_false,if_true,Bool.false_eq_true]
 have h3:(List.drop 0 cs).take (es.length*esz)++ds=cs++ds:=by simp[<-c2]
 rw[h3]
 exact q2 _ (hY hu d1)
def UV(hp:Hp)(nl cl:Bool)(vars:List Str)(name:Str)(red:Bool)(iv:AV):Prop:=
 (red=false/\iv = .sl nl (vars.map Str.av) cl)\/(red=true/\∃k,Own hp k 1 false iv ((vars++[name]).map Str.av))
set_option maxHeartbeats 1000000 in
theorem JG(v:Int)(p:aC)(nl cl:Bool)(vars:List Str)(hk:p.kids.length<=big)(hks:∀q∈p.kids,q.ok)(hb:vars.length+1+aC.szL p.kids<=big)
  (ih:∀q∈p.kids,q.ok->∀(nl cl:Bool)(vars:List Str),vars.length+q.sz<=big->Ret pg 164 [q.av,.sl nl (vars.map Str.av) cl,.int .i64 v] (.bool (fZ v q vars)))
  (iv:AV) (red b R:Bool) (env:List AV) (hp:Hp)
  (henv:clear cf164M0 env=cf164E0 (.sl nl (vars.map Str.av) cl) (.int .i64 v) (.pt 1 0 0) (.bool b) iv (.int .i64 0))
  (g1:hp.get 1=some (0,.blk [.str p.op.bs,.int .i64 p.num,.int .i64 p.value,.str p.name.bs,.sl p.at_.nl (p.at_.es.map Lin.av) p.at_.cl,.bool p.dyn,.int .i64 p.check,.sl p.fn.nl (p.fn.es.map aI.av) p.fn.cl,.sl p.knl (p.kids.map aC.av) p.kcl] 9 true true false))
  (hiv:UV hp nl cl vars p.name red iv) (hR:R=(b&&fX v red p.name vars 0 p.kids)) :
  XX pg 0 (.loop cf164L0 cf164M0) ⟨env,hp⟩
   (mR 1 (lG (fun st'=>XX pg 0 (.seq (.reg [⟨some 110,.mov,[.t 8],none,0,0⟩,⟨some 6,.mov,[.t 110],none,0,0⟩] false) .ret) st' (DX [.inl 6] (.bool R)) ⟨⟩) (DX [.inl 6] (.bool R)))) ⟨⟩:=by
 refine aG p.kids (fun d r env hp=>∃ok:Bool,env=cf164E0 (.sl nl (vars.map Str.av) cl) (.int .i64 v) (.pt 1 0 0) (.bool ok) iv (.int .i64 d.length) /\
  hp.get 1=some (0,.blk [.str p.op.bs,.int .i64 p.num,.int .i64 p.value,.str p.name.bs,.sl p.at_.nl (p.at_.es.map Lin.av) p.at_.cl,.bool p.dyn,.int .i64 p.check,.sl p.fn.nl (p.fn.es.map aI.av) p.fn.cl,.sl p.knl (p.kids.map aC.av) p.kcl] 9 true true false) /\
  UV hp nl cl vars p.name red iv/\R=(ok&&fX v red p.name vars d.length r)) ?_ ?_ ?_
 ·exact⟨b,henv,g1,hiv,hR⟩
 ·clear hiv g1 henv hR hp env
  rintro env hp ⟨ok,rfl,g1,hiv,hR⟩
  simp only[cf164L0,cf164E0,g1,aX,go_sem,seval]
  rw[hR];simp[fX]
 ·clear hiv g1 henv hR hp env
  rintro d x r env hp hes ⟨ok,rfl,g1,hiv,hR⟩
  obtain⟨hget,e1,e2,ew⟩:=cJ hes hk
  have hxm:x∈p.kids:=by rw[hes];simp
  have hxs:x.sz<=aC.szL p.kids:=aC.szL_mem hxm
  have hx:=ih x hxm (hks x hxm)
  clear ih hks
  cases ok
  case false=>
   simp only[cf164L0,cf164E0,g1,e1,go_sem,seval]
   rw[hR];simp
  case true=>
  simp only[fX,Bool.true_and]at hR
  have hd1:fX v red p.name vars (d++[x]).length r=fX v red p.name vars (d.length+1) r:=by simp
  cases c2:decide ((d.length:Int)=1)
  case false=>
   have a1:=hx nl cl vars (by omega)
   simp only[cf164L0,cf164E0,g1,e1,e2,hget,c2,go_sem,seval]
   refine aB a1 (by simp only[go_sem,seval]) rfl ?_
   simp only[ew,go_sem,seval]
   refine⟨_,rfl,g1,hiv,?_⟩
   rw[hR,c2,hd1];simp
  case true=>
  rcases hiv with ⟨hr,hv⟩|⟨hr,kk,ho⟩
  ·have a1:=hx nl cl vars (by omega)
   subst hv
   simp only[cf164L0,cf164E0,g1,e1,e2,hget,c2,go_sem,seval]
   refine aB a1 (by simp only[go_sem,seval]) rfl ?_
   simp only[ew,go_sem,seval]
   refine⟨_,rfl,g1,.inl ⟨hr,rfl⟩,?_⟩
   rw[hR,c2,hd1,hr];simp
  ·obtain⟨nl2,cl2,keys,hsn,hnl⟩:=ho.snap (El.strs (vars++[p.name])) 62
   have a1:=hx nl2 cl2 (vars++[p.name]) (by simp;omega)
   simp only[cf164L0,cf164E0,g1,e1,e2,hget,c2,go_sem,seval]
   refine bT a1 (oV (by simp only[go_sem,seval]) hsn (by simp only[go_sem,seval])) (v:=.bool (fZ v x (vars++[p.name]))) (pa:=[]) rfl ?_
   simp only[ew,go_sem,seval]
   refine⟨_,rfl,g1,.inr ⟨hr,kk,ho⟩,?_⟩
   rw[hR,c2,hd1,hr];simp
set_option maxHeartbeats 2000000 in
theorem c164(hf:pg.fs 164=some cf164)(h192:∀p:aC,Ret pg 192 [p.av] (.tup [(fI p).av,.bool (fU p)]))
  (h118:∀p:aC,p.ok->∀q:aC,Ret pg 118 [p.av,q.av] (.bool (cY p q)))
  (h193:∀(nl cl:Bool)(ls:List Lin),ls.length<=big->∀(nl' cl':Bool)(vars:List Str),vars.length<=big->Ret pg 193 [.sl nl (ls.map Lin.av) cl,.sl nl' (vars.map Str.av) cl'] (.bool (bZ ls vars)))
  (h124:pg.fs 124=some cf124) (h77:∀s:Str,Ret pg 77 [.str s.bs] (.bool (fJ s.bs))) (h194:pg.fs 194=some cf194)
  (h87:∀(nl cl:Bool)(fn:List aI),fn.length<=big->∀n:Int,Ret pg 87 [.sl nl (fn.map aI.av) cl,.int .i64 n] (.bool (cM fn n))) (v:Int) :
  ∀p:aC,p.ok->∀(nl cl:Bool)(vars:List Str),vars.length+p.sz<=big->Ret pg 164 [p.av,.sl nl (vars.map Str.av) cl,.int .i64 v] (.bool (fZ v p vars)):=by
 refine aC.ind' fun p ih hp nl cl vars hb=>?_
 obtain⟨hk,hks⟩:=(aC.ok_iff p).1 hp
 have hsz:=aC.sz_eq p
 have a1:=h192 p
 have a2:=h118 p hp (fI p)
 rw[aC.avc p]at a1 a2
 have a2':=a2
 rw[aC.avc (fI p)]at a2'
 have a3:=h193 p.at_.nl p.at_.cl p.at_.es p.at_.ok nl cl vars (by omega)
 have a4:=PP h124 p.num
 have a5:=h77 p.name
 have a6:=c194 h194 nl cl vars (by omega) p.name.bs
 have a7:=h87 p.fn.nl p.fn.cl p.fn.es p.fn.ok 2
 have a8:=h87 p.fn.nl p.fn.cl p.fn.es p.fn.ok p.kids.length
 clear h192 h118 h193 h124 h77 h194 h87
 have hspec:fZ v p vars=(fU p&&(cY p (fI p)&&(bZ p.at_.es vars&&(nN p vars v&&fX v (decide (p.op.bs=[114,101,100,117,99,101])) p.name vars 0 p.kids)))):=by
  rw[nR,<-E5]
  (refine Bool.eq_iff_iff.2 ?_;simp only[Bool.and_eq_true];constructor<;>(intro h;simp only[h,and_self]))
 rw[hspec]
 refine Ret.ofX hf ?_
 unfold cf164
 simp only[go_sem,seval]
 refine aB a1 (by simp only[go_sem,seval]) (by rfl) ?_
 have hro:nN p vars v=(if p.op.bs=[99,111,110,115,116] then lE p.num
  else if p.op.bs=[114,101,97,100] then decide (0<=p.value)&&decide (p.value<v)&&decide (0<=p.check)
  else if p.op.bs=[114,101,100,117,99,101] then fJ p.name.bs && !jR vars p.name.bs&&cM p.fn.es 2
  else if p.op.bs=[99,111,100,101] then cM p.fn.es p.kids.length
  else true):=rfl
 generalize hob:fU p=ob at *
 cases ob
 case false=>
  simp only[go_sem,seval]
 case true=>
 simp only[go_sem,seval]
 refine aB a2' (by simp only[go_sem,seval]) rfl ?_
 generalize hpe:cY p (fI p)=pe at *
 cases pe
 case false=>
  simp only[go_sem,seval]
 case true=>
 simp only[go_sem,seval]
 refine aB a3 (by simp only[go_sem,seval]) rfl ?_
 generalize hov:bZ p.at_.es vars=ov at *
 cases ov
 case false=>
  simp only[go_sem,seval]
 case true=>
 simp only[go_sem,seval]
 have hL:=fun iv b R env hp h1 h2 h3 h4=>JG v p nl cl vars hk hks (by omega) ih iv (decide (p.op.bs=[114,101,100,117,99,101])) b R env hp h1 h2 h3 h4
 clear ih hks a1 a2 a2' a3
 cases o1:decide (p.op.bs=[99,111,110,115,116])
 case true=>
  have h:=of_decide_eq_true o1
  have hr:decide (p.op.bs=[114,101,100,117,99,101])=false:=by rw[h];decide
  rw[hro,if_pos h]
  simp only[go_sem,seval]
  refine aB a4 (by simp only[go_sem,seval]) rfl ?_
  simp only[go_sem,seval]
  exact hL _ _ _ _ _ rfl rfl (.inl ⟨hr,rfl⟩) rfl
 case false=>
 rw[hro,if_neg (of_decide_eq_false o1)]
 simp only[go_sem,seval]
 cases o2:decide (p.op.bs=[114,101,97,100])
 case true=>
  have h:=of_decide_eq_true o2
  have hr:decide (p.op.bs=[114,101,100,117,99,101])=false:=by rw[h];decide
  rw[if_pos h]
  cases q1:decide (0<=p.value)
  case false=>
   simp only[q1,go_sem,seval]
   exact hL _ _ _ _ _ rfl rfl (.inl ⟨hr,rfl⟩) rfl
  case true=>
  cases q2:decide (p.value<v)
  case false=>
   simp only[q1,q2,go_sem,seval]
   exact hL _ _ _ _ _ rfl rfl (.inl ⟨hr,rfl⟩) rfl
  case true=>
   simp only[q1,q2,go_sem,seval]
   exact hL _ _ _ _ _ rfl rfl (.inl ⟨hr,rfl⟩) rfl
 case false=>
 rw[if_neg (of_decide_eq_false o2)]
 simp only[go_sem,seval]
 cases o3:decide (p.op.bs=[114,101,100,117,99,101])
 case true=>
  have h:=of_decide_eq_true o3
  rw[if_pos h]
  simp only[go_sem,seval]
  refine aB a5 (by simp only[go_sem,seval]) rfl ?_
  have hvl:vars.length+1<=1073741824:=by simp only[big]at hb;omega
  have hS:∀x∈[AV.str p.name.bs],El 1 false x:=by intro x hx;simp at hx;subst hx;exact⟨rfl,rfl,rfl⟩
  cases nm:fJ p.name.bs
  case false=>
   simp only[go_sem,seval]
   refine gU (El.strs vars) (by simp;omega) (by decide) (fun he=>?_) (fun he cs hcs=>?_)
   ·have hv:vars=[]:=by simpa using he
    simp only[go_sem,seval]
    refine gU hS (by simp) (by decide) (fun h=>by cases h) (fun _ cs2 hcs2=>?_)
    cases hcs2
    simp only[go_sem,seval]
    refine And.intro (by kernel_rfl) ?_
    exact hL _ _ _ _ _ rfl rfl (.inr ⟨o3,41,.inr ⟨_,_,by rw[hv];rfl,rfl,by rw[hv];rfl⟩⟩) (by rw[o3];rfl)
   ·simp only[go_sem,seval]
    refine u6 (es:=vars.map Str.av) (by simp) rfl hcs rfl (El.strs vars) hS (by simp) (by simp;omega) (by decide) (fun cs2 hcs2=>?_)
    simp only[go_sem,seval]
    refine And.intro (by kernel_rfl) ?_
    exact hL _ _ _ _ _ rfl rfl (.inr ⟨o3,41,.inr ⟨_,_,by simp,rfl,by rw[List.map_append];exact hcs2⟩⟩) (by rw[o3];rfl)
  case true=>
  simp only[go_sem,seval]
  refine aB a6 (by simp only[go_sem,seval]) rfl ?_
  cases hs:jR vars p.name.bs
  case true=>
   simp only[go_sem,seval]
   refine gU (El.strs vars) (by simp;omega) (by decide) (fun he=>?_) (fun he cs hcs=>?_)
   ·have hv:vars=[]:=by simpa using he
    simp only[go_sem,seval]
    refine gU hS (by simp) (by decide) (fun h=>by cases h) (fun _ cs2 hcs2=>?_)
    cases hcs2
    simp only[go_sem,seval]
    refine And.intro (by kernel_rfl) ?_
    exact hL _ _ _ _ _ rfl rfl (.inr ⟨o3,41,.inr ⟨_,_,by rw[hv];rfl,rfl,by rw[hv];rfl⟩⟩) (by rw[o3];rfl)
   ·simp only[go_sem,seval]
    refine u6 (es:=vars.map Str.av) (by simp) rfl hcs rfl (El.strs vars) hS (by simp) (by simp;omega) (by decide) (fun cs2 hcs2=>?_)
    simp only[go_sem,seval]
    refine And.intro (by kernel_rfl) ?_
    exact hL _ _ _ _ _ rfl rfl (.inr ⟨o3,41,.inr ⟨_,_,by simp,rfl,by rw[List.map_append];exact hcs2⟩⟩) (by rw[o3];rfl)
  case false=>
  simp only[go_sem,seval]
  refine aB a7 (by simp only[go_sem,seval]) rfl ?_
  simp only[go_sem,seval]
  refine gU (El.strs vars) (by simp;omega) (by decide) (fun he=>?_) (fun he cs hcs=>?_)
  ·have hv:vars=[]:=by simpa using he
   simp only[go_sem,seval]
   refine gU hS (by simp) (by decide) (fun h=>by cases h) (fun _ cs2 hcs2=>?_)
   cases hcs2
   simp only[go_sem,seval]
   refine And.intro (by kernel_rfl) ?_
   exact hL _ _ _ _ _ rfl rfl (.inr ⟨o3,41,.inr ⟨_,_,by rw[hv];rfl,rfl,by rw[hv];rfl⟩⟩) (by rw[o3];rfl)
  ·simp only[go_sem,seval]
   refine u6 (es:=vars.map Str.av) (by simp) rfl hcs rfl (El.strs vars) hS (by simp) (by simp;omega) (by decide) (fun cs2 hcs2=>?_)
   simp only[go_sem,seval]
   refine And.intro (by kernel_rfl) ?_
   exact hL _ _ _ _ _ rfl rfl (.inr ⟨o3,41,.inr ⟨_,_,by simp,rfl,by rw[List.map_append];exact hcs2⟩⟩) (by rw[o3];rfl)
 case false=>
 rw[if_neg (of_decide_eq_false o3)]
 simp only[go_sem,seval]
 cases o4:decide (p.op.bs=[99,111,100,101])
 case true=>
  have h:=of_decide_eq_true o4
  rw[if_pos h]
  simp only[go_sem,seval]
  refine aB a8 (by simp only[go_sem,seval]) rfl ?_
  simp only[go_sem,seval]
  exact hL _ _ _ _ _ rfl rfl (.inl ⟨o3,rfl⟩) (by rw[o3];rfl)
 case false=>
  rw[if_neg (of_decide_eq_false o4)]
  simp only[go_sem,seval]
  exact hL _ _ _ _ _ rfl rfl (.inl ⟨o3,rfl⟩) (by rw[o3];rfl)
end
end Go.Tev
end
