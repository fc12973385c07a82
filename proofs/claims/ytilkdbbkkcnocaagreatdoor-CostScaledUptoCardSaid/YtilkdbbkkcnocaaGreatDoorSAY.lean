import Derived.Test.YtilkdbbkkcnocaaGreatDoorSAX
import Derived.Test.YtilkdbbkkcnocaaGreatDoorSAR
import Derived.Test.YtilkdbbkkcnocaaGreatDoorSAT
import Derived.Test.YtilkdbbkkcnocaaGreatDoorSAS
set_option linter.all false
namespace Go.Tev
section
def iEq(x y:Int):Bool:=decide (x=y)
section
variable{pg:Pg}
theorem aRT(hf:pg.fs 15=some N0)(nl cl nl' cl':Bool)(a b:List Int)(hb:a.length<=big):Ret pg 15 [.sl nl (a.map aV) cl,.sl nl' (b.map aV) cl'] (.bool (eqL iEq a b)):=by
 refine Ret.ofX hf ?_;unfold N0;cases b2:decide ((a.length:Int)=(b.length:Int))
 case false=>simp only[b2,go_sem,seval];rw[FU b2]
 case true=>
 have hl:a.length=b.length:=by have:=aG b2;omega
 simp only[b2,go_sem,seval];refine aQ a (λd r env hp=>env=G4 (.sl nl (a.map aV) cl) (.sl nl' (b.map aV) cl') (.int .i64 d.length)/\eqL iEq a b=eqL iEq r (b.drop d.length)) ?_ ?_ ?_;exact⟨rfl,rfl⟩;rintro env hp ⟨rfl,hI⟩;simp only[G3,G4,bK,go_sem,seval];rw[hI,qU hl];rintro d x r env hp hes ⟨rfl,hI⟩;obtain⟨hget,e1,e2,ew⟩:=eD hes hb;obtain⟨y,gy,f1,f2,hq⟩:=OZ (q:=iEq) hes hl;rw[hq]at hI;rw[hI];clear hI;cases hxy:decide (x=y);simp only[G3,G4,e1,e2,hget,gy,f1,f2,hxy,go_sem,seval];exact⟨by kernel_rfl,by simp[iEq,hxy]⟩;simp only[G3,G4,e1,e2,hget,gy,f1,f2,hxy,ew,go_sem,seval];exact⟨by kernel_rfl,rfl,by simp[iEq,hxy]⟩
theorem c161(hf:pg.fs 161=some D2)(h15:pg.fs 15=some N0)(nl cl nl' cl':Bool)(a b:List aE)(hb:a.length<=big):Ret pg 161 [.sl nl (a.map aE.av) cl,.sl nl' (b.map aE.av) cl'] (.bool (eqL fO a b)):=by
 refine Ret.ofX hf ?_;unfold D2;cases b2:decide ((a.length:Int)=(b.length:Int))
 case false=>simp only[b2,go_sem,seval];rw[FU b2]
 case true=>
 have hl:a.length=b.length:=by have:=aG b2;omega
 simp only[b2,go_sem,seval];refine aQ a (λd r env hp=>env=uQ (.sl nl (a.map aE.av) cl) (.sl nl' (b.map aE.av) cl') (.int .i64 d.length)/\eqL fO a b=eqL fO r (b.drop d.length)) ?_ ?_ ?_;exact⟨rfl,rfl⟩;rintro env hp ⟨rfl,hI⟩;simp only[uP,uQ,bK,go_sem,seval];rw[hI,qU hl]
 ·rintro d x r env hp hes ⟨rfl,hI⟩;obtain⟨hget,e1,e2,ew⟩:=eD hes hb;obtain⟨y,gy,f1,f2,hq⟩:=OZ (q:=fO) hes hl;rw[hq]at hI;rw[hI];clear hI;have hse:fO x y=(decide (x.op.bs=y.op.bs)&&decide (x.num=y.num)&&eqL iEq x.args.es y.args.es):=rfl;cases c1:decide (x.op.bs=y.op.bs)
  case false=>simp only[uP,uQ,e1,e2,hget,gy,f1,f2,c1,go_sem,seval];exact⟨by kernel_rfl,by simp[hse,c1]⟩
  case true=>
  cases c2:decide (x.num=y.num)
  case false=>simp only[uP,uQ,e1,e2,hget,gy,f1,f2,c1,c2,go_sem,seval];exact⟨by kernel_rfl,by simp[hse,c2]⟩
  case true=>
  have a1:=aRT h15 x.args.nl x.args.cl y.args.nl y.args.cl x.args.es y.args.es x.args.ok;simp only[uP,uQ,e1,e2,hget,gy,f1,f2,c1,c2,go_sem,seval];refine aC a1 ?_;cases c3:eqL iEq x.args.es y.args.es;refine Wk ?_;exact⟨by kernel_rfl,by simp[hse,c3]⟩;simp only[ew,go_sem,seval];exact⟨by kernel_rfl,rfl,by simp[hse,c1,c2,c3]⟩
def gI:Str:=⟨[],by simp[big]⟩
set_option maxHeartbeats 1000000 in
theorem c118(hf:pg.fs 118=some K8)(h161:pg.fs 161=some D2)(h15:pg.fs 15=some N0)(h121:∀a b:cB,Ret pg 121 [a.av,b.av] (.bool (lO a b))) :
  ∀p:aA,p.ok->∀q:aA,Ret pg 118 [p.av,q.av] (.bool (dJ p q)):=by
 refine aA.ind' λp ih hp q=>?_;obtain⟨hk,hks⟩:=(aA.ok_iff p).1 hp;have a1:=c161 h161 h15 p.fn.nl p.fn.cl q.fn.nl q.fn.cl p.fn.es q.fn.es p.fn.ok;have a2:=h121 ⟨gI,p.at_⟩ ⟨gI,q.at_⟩;have hs2:lO ⟨gI,p.at_⟩ ⟨gI,q.at_⟩=eqL eU p.at_.es q.at_.es:=by simp[lO,gI]
 rw[hs2,cB.avc,cB.avc]at a2;clear h121 h161 h15 hs2;refine Ret.ofX hf ?_;rw[qS,mB];unfold K8;cases b1:decide (p.op.bs=q.op.bs)
 case false=>simp only[b1,go_sem,seval]
 case true=>
 cases b2:decide (p.num=q.num)
 case false=>simp only[b1,b2,go_sem,seval]
 case true=>
 cases b3:decide (p.value=q.value)
 case false=>simp only[b1,b2,b3,go_sem,seval]
 case true=>
 cases b4:decide (p.name.bs=q.name.bs)
 case false=>simp only[b1,b2,b3,b4,go_sem,seval]
 case true=>
 cases b5:(p.dyn==q.dyn)
 case false=>simp only[b1,b2,b3,b4,b5,go_sem,seval]
 case true=>
 cases b6:decide (p.check=q.check)
 case false=>simp only[b1,b2,b3,b4,b5,b6,go_sem,seval]
 case true=>
 cases b7:decide ((p.kids.length:Int)=(q.kids.length:Int))
 case false=>rw[FU b7];simp only[b1,b2,b3,b4,b5,b6,b7,go_sem,seval]
 case true=>
 simp only[b1,b2,b3,b4,b5,b6,b7,go_sem,seval];refine aC a1 ?_;cases b8:eqL fO p.fn.es q.fn.es
 case false=>simp only[go_sem,seval]
 case true=>
 refine Wk ?_;refine aC a2 ?_;cases b9:eqL eU p.at_.es q.at_.es
 case false=>simp only[go_sem,seval]
 case true=>
 have hl:p.kids.length=q.kids.length:=by have:=aG b7;omega
 refine Wk ?_
 refine aQ p.kids (λd r env hp=>hp.get 1=some (0,.blk [.str p.op.bs,.int .i64 p.num,.int .i64 p.value,.str p.name.bs,.sl p.at_.nl (p.at_.es.map Lin.av) p.at_.cl,.bool p.dyn,.int .i64 p.check,.sl p.fn.nl (p.fn.es.map aE.av) p.fn.cl,.sl p.knl (p.kids.map aA.av) p.kcl] 9 true true false) /\
   hp.get 5=some (0,.blk [.str q.op.bs,.int .i64 q.num,.int .i64 q.value,.str q.name.bs,.sl q.at_.nl (q.at_.es.map Lin.av) q.at_.cl,.bool q.dyn,.int .i64 q.check,.sl q.fn.nl (q.fn.es.map aE.av) q.fn.cl,.sl q.knl (q.kids.map aA.av) q.kcl] 9 true true false) /\
   env=HC (.pt 1 0 0) (.pt 5 0 0) (.int .i64 d.length)/\eqL dJ p.kids q.kids=eqL dJ r (q.kids.drop d.length)) ?_ ?_ ?_
 exact⟨rfl,rfl,rfl,rfl⟩;rintro env hp ⟨g1,g5,rfl,hI⟩;simp only[HB,HC,g1,bK,go_sem,seval];rw[hI,qU hl];rintro d x r env hp hes ⟨g1,g5,rfl,hI⟩;obtain⟨hget,e1,e2,ew⟩:=eD hes hk;obtain⟨y,gy,f1,f2,hq⟩:=OZ (q:=dJ) hes hl;rw[hq]at hI;rw[hI];clear hI a1 a2;have hx:x∈p.kids:=by rw[hes];simp
 have a3:=ih x hx (hks x hx) y;clear ih hks;simp only[HB,HC,g1,g5,hget,e1,e2,gy,f1,f2,go_sem,seval];refine aC a3 ?_;cases hxy:dJ x y;refine Wk ?_;kernel_rfl;simp only[ew,go_sem,seval];exact⟨by kernel_rfl,g1,g5,rfl⟩
end
end
section
theorem bS{op:List UInt8}{p:qL}{r:AV}(h:fE op=some p)(hr:∃nl cl,r = .tup [.sl nl (p.params.map .str) cl,.str p.result,.bool true]):kH op r:=by simp only[kH,h];exact hr
theorem L8{op:List UInt8}{r:AV}(h:fE op=none)(hr:r = .tup [.sl true [] true,.str [],.bool false]):kH op r:=by simp only[kH,h];exact hr
section
variable{pg:Pg}
theorem c125(hf:pg.fs 125=some KZ)(op:List UInt8):bV pg 125 [.str op] (kH op):=by
 refine bV.ofX hf ?_;unfold KZ;cases b0:decide (op=[97,100,100])
 case true=>have hop:op=[97,100,100]:=aG b0;simp only[b0,go_sem,seval];subst hop;exact bS rfl ⟨_,_,rfl⟩
 case false=>
 cases b1:decide (op=[115,117,98])
 case true=>have hop:op=[115,117,98]:=aG b1;simp only[b0,b1,go_sem,seval];subst hop;exact bS rfl ⟨_,_,rfl⟩
 case false=>
 cases b2:decide (op=[109,117,108])
 case true=>have hop:op=[109,117,108]:=aG b2;simp only[b0,b1,b2,go_sem,seval];subst hop;exact bS rfl ⟨_,_,rfl⟩
 case false=>
 cases b3:decide (op=[100,105,118])
 case true=>have hop:op=[100,105,118]:=aG b3;simp only[b0,b1,b2,b3,go_sem,seval];subst hop;exact bS rfl ⟨_,_,rfl⟩
 case false=>
 cases b4:decide (op=[109,111,100])
 case true=>have hop:op=[109,111,100]:=aG b4;simp only[b0,b1,b2,b3,b4,go_sem,seval];subst hop;exact bS rfl ⟨_,_,rfl⟩
 case false=>
 cases b5:decide (op=[109,105,110])
 case true=>have hop:op=[109,105,110]:=aG b5;simp only[b0,b1,b2,b3,b4,b5,go_sem,seval];subst hop;exact bS rfl ⟨_,_,rfl⟩
 case false=>
 cases b6:decide (op=[109,97,120])
 case true=>have hop:op=[109,97,120]:=aG b6;simp only[b0,b1,b2,b3,b4,b5,b6,go_sem,seval];subst hop;exact bS rfl ⟨_,_,rfl⟩
 case false=>
 cases b7:decide (op=[110,101,103])
 case true=>have hop:op=[110,101,103]:=aG b7;simp only[b0,b1,b2,b3,b4,b5,b6,b7,go_sem,seval];subst hop;exact bS rfl ⟨_,_,rfl⟩
 case false=>
 cases b8:decide (op=[97,98,115])
 case true=>have hop:op=[97,98,115]:=aG b8;simp only[b0,b1,b2,b3,b4,b5,b6,b7,b8,go_sem,seval];subst hop;exact bS rfl ⟨_,_,rfl⟩
 case false=>
 cases b9:decide (op=[115,105,103,110])
 case true=>have hop:op=[115,105,103,110]:=aG b9;simp only[b0,b1,b2,b3,b4,b5,b6,b7,b8,b9,go_sem,seval];subst hop;exact bS rfl ⟨_,_,rfl⟩
 case false=>
 cases b10:decide (op=[108,116])
 case true=>have hop:op=[108,116]:=aG b10;simp only[b0,b1,b2,b3,b4,b5,b6,b7,b8,b9,b10,go_sem,seval];subst hop;exact bS rfl ⟨_,_,rfl⟩
 case false=>
 cases b11:decide (op=[108,101])
 case true=>have hop:op=[108,101]:=aG b11;simp only[b0,b1,b2,b3,b4,b5,b6,b7,b8,b9,b10,b11,go_sem,seval];subst hop;exact bS rfl ⟨_,_,rfl⟩
 case false=>
 cases b12:decide (op=[103,116])
 case true=>have hop:op=[103,116]:=aG b12;simp only[b0,b1,b2,b3,b4,b5,b6,b7,b8,b9,b10,b11,b12,go_sem,seval];subst hop;exact bS rfl ⟨_,_,rfl⟩
 case false=>
 cases b13:decide (op=[103,101])
 case true=>have hop:op=[103,101]:=aG b13;simp only[b0,b1,b2,b3,b4,b5,b6,b7,b8,b9,b10,b11,b12,b13,go_sem,seval];subst hop;exact bS rfl ⟨_,_,rfl⟩
 case false=>
 cases b14:decide (op=[101,113])
 case true=>have hop:op=[101,113]:=aG b14;simp only[b0,b1,b2,b3,b4,b5,b6,b7,b8,b9,b10,b11,b12,b13,b14,go_sem,seval];subst hop;exact bS rfl ⟨_,_,rfl⟩
 case false=>
 cases b15:decide (op=[110,101])
 case true=>have hop:op=[110,101]:=aG b15;simp only[b0,b1,b2,b3,b4,b5,b6,b7,b8,b9,b10,b11,b12,b13,b14,b15,go_sem,seval];subst hop;exact bS rfl ⟨_,_,rfl⟩
 case false=>
 cases b16:decide (op=[97,110,100])
 case true=>have hop:op=[97,110,100]:=aG b16;simp only[b0,b1,b2,b3,b4,b5,b6,b7,b8,b9,b10,b11,b12,b13,b14,b15,b16,go_sem,seval];subst hop;exact bS rfl ⟨_,_,rfl⟩
 case false=>
 cases b17:decide (op=[111,114])
 case true=>have hop:op=[111,114]:=aG b17;simp only[b0,b1,b2,b3,b4,b5,b6,b7,b8,b9,b10,b11,b12,b13,b14,b15,b16,b17,go_sem,seval];subst hop;exact bS rfl ⟨_,_,rfl⟩
 case false=>
 cases b18:decide (op=[120,111,114])
 case true=>have hop:op=[120,111,114]:=aG b18;simp only[b0,b1,b2,b3,b4,b5,b6,b7,b8,b9,b10,b11,b12,b13,b14,b15,b16,b17,b18,go_sem,seval];subst hop;exact bS rfl ⟨_,_,rfl⟩
 case false=>
 cases b19:decide (op=[110,111,116])
 case true=>have hop:op=[110,111,116]:=aG b19;simp only[b0,b1,b2,b3,b4,b5,b6,b7,b8,b9,b10,b11,b12,b13,b14,b15,b16,b17,b18,b19,go_sem,seval];subst hop;exact bS rfl ⟨_,_,rfl⟩
 case false=>
 cases b20:decide (op=[115,101,108,101,99,116])
 case true=>have hop:op=[115,101,108,101,99,116]:=aG b20;simp only[b0,b1,b2,b3,b4,b5,b6,b7,b8,b9,b10,b11,b12,b13,b14,b15,b16,b17,b18,b19,b20,go_sem,seval];subst hop;exact bS rfl ⟨_,_,rfl⟩
 case false=>
 cases b21:decide (op=[116,111,105,110,116])
 case true=>have hop:op=[116,111,105,110,116]:=aG b21;simp only[b0,b1,b2,b3,b4,b5,b6,b7,b8,b9,b10,b11,b12,b13,b14,b15,b16,b17,b18,b19,b20,b21,go_sem,seval];subst hop;exact bS rfl ⟨_,_,rfl⟩
 case false=>
 simp only[b0,b1,b2,b3,b4,b5,b6,b7,b8,b9,b10,b11,b12,b13,b14,b15,b16,b17,b18,b19,b20,b21,go_sem,seval];refine L8 ?_ rfl;have n0:decide ([97,100,100]=op)=false:=by rw[<-b0,eE];exact eq_comm
 have n1:decide ([115,117,98]=op)=false:=by rw[<-b1,eE];exact eq_comm
 have n2:decide ([109,117,108]=op)=false:=by rw[<-b2,eE];exact eq_comm
 have n3:decide ([100,105,118]=op)=false:=by rw[<-b3,eE];exact eq_comm
 have n4:decide ([109,111,100]=op)=false:=by rw[<-b4,eE];exact eq_comm
 have n5:decide ([109,105,110]=op)=false:=by rw[<-b5,eE];exact eq_comm
 have n6:decide ([109,97,120]=op)=false:=by rw[<-b6,eE];exact eq_comm
 have n7:decide ([110,101,103]=op)=false:=by rw[<-b7,eE];exact eq_comm
 have n8:decide ([97,98,115]=op)=false:=by rw[<-b8,eE];exact eq_comm
 have n9:decide ([115,105,103,110]=op)=false:=by rw[<-b9,eE];exact eq_comm
 have n10:decide ([108,116]=op)=false:=by rw[<-b10,eE];exact eq_comm
 have n11:decide ([108,101]=op)=false:=by rw[<-b11,eE];exact eq_comm
 have n12:decide ([103,116]=op)=false:=by rw[<-b12,eE];exact eq_comm
 have n13:decide ([103,101]=op)=false:=by rw[<-b13,eE];exact eq_comm
 have n14:decide ([101,113]=op)=false:=by rw[<-b14,eE];exact eq_comm
 have n15:decide ([110,101]=op)=false:=by rw[<-b15,eE];exact eq_comm
 have n16:decide ([97,110,100]=op)=false:=by rw[<-b16,eE];exact eq_comm
 have n17:decide ([111,114]=op)=false:=by rw[<-b17,eE];exact eq_comm
 have n18:decide ([120,111,114]=op)=false:=by rw[<-b18,eE];exact eq_comm
 have n19:decide ([110,111,116]=op)=false:=by rw[<-b19,eE];exact eq_comm
 have n20:decide ([115,101,108,101,99,116]=op)=false:=by rw[<-b20,eE];exact eq_comm
 have n21:decide ([116,111,105,110,116]=op)=false:=by rw[<-b21,eE];exact eq_comm
 simp only[fE,fJ,List.find?_cons,List.find?_nil,n0,n1,n2,n3,n4,n5,n6,n7,n8,n9,n10,n11,n12,n13,n14,n15,n16,n17,n18,n19,n20,n21]
theorem HX(n:Int)(s:aE)(r:List aE):dH n (s::r)=(gV s n&&dH (n+1) r):=rfl
set_option maxHeartbeats 1000000 in
theorem LG(h124:pg.fs 124=some rX)(h125:∀op,bV pg 125 [.str op] (kH op))(nl cl:Bool)(fn:List aE)(hb:fn.length<=big)(n:Int)(g1:0<=n)(g2:n<=20)(g3:(fn.length:Int)<=60)
  (d:List aE) (x:aE) (r:List aE) (hp:Hp) (hes:fn=d++x::r) (hI:dH n fn=dH (n+d.length) (x::r)) :
  XX pg 0 nR ⟨lJ (.sl nl (fn.map aE.av) cl) (.int .i64 n) (.int .i64 d.length),hp⟩
   (lB (λst'=>clear V5 st'.env=lJ (.sl nl (fn.map aE.av) cl) (.int .i64 n) (.int .i64 (d++[x]).length)/\dH n fn=dH (n+(d++[x]).length) r)
    (nS 0 (lB (λst'=>XX pg 0 (.seq (.reg [⟨some 4,.mov,[.c (.bool true)],none,0,0⟩] false) .ret) st' (JR [.inl 4] (.bool (dH n fn))) ⟨⟩) (JR [.inl 4] (.bool (dH n fn)))))) ⟨⟩:=by
 obtain⟨hget,e1,e2,ew⟩:=eD hes hb;rw[HX]at hI;have en:n+((d++[x]).length:Int)=n+d.length+1:=by simp;omega
 have hdl:d.length<fn.length:=by rw[hes];simp
 have hw:wr .i64 (n+(d.length:Int))=n+d.length:=fZ (by omega) (by omega);rw[en];rw[hI];clear hI;cases o1:decide (x.op.bs=[99,111,110,115,116])
 case true=>
  have hs:gV x (n+d.length)=(decide ((x.args.es.length:Int)=0)&&iT x.num):=by simp[gV,aG o1]
  rw[hs];cases o2:decide ((x.args.es.length:Int)=0)
  case false=>simp only[nR,lJ,e1,e2,hget,o1,o2,go_sem,seval]
  case true=>simp only[nR,lJ,e1,e2,hget,o1,o2,go_sem,seval];refine aC (aEX h124 x.num) ?_;cases o3:iT x.num;simp only[go_sem,seval];simp only[ew,go_sem,seval];rfl
 case false=>
 cases o2:decide (x.op.bs=[116,114,117,116,104])
 case true=>
  have hs:gV x (n+d.length)=(decide ((x.args.es.length:Int)=0)&&lS x.num):=by have h1:=aG o2;simp[gV,h1]
  rw[hs];cases o3:decide ((x.args.es.length:Int)=0)
  case false=>simp only[nR,lJ,e1,e2,hget,o1,o2,o3,go_sem,seval]
  case true=>simp only[nR,lJ,e1,e2,hget,o1,o2,o3,go_sem,seval];refine aC (aLw h124 x.num) ?_;cases o4:lS x.num;simp only[go_sem,seval];simp only[ew,go_sem,seval];rfl
 case false=>
 obtain⟨rr,hr,hP⟩:=h125 x.op.bs
 have hs:gV x (n+d.length)=(match fE x.op.bs with
  |none=>false
  |some p=>gY x.args.es (n+d.length)&&decide (x.num=0)&&decide ((x.args.es.length:Int)=(p.params.length:Int))):=by
  have h1:=aN o1;have h2:=aN o2;simp only[gV,h1,h2,if_false];rfl
 rw[hs];clear hs;simp only[kH]at hP;cases hpt:fE x.op.bs with
 |none=>rw[hpt]at hP;dsimp only at hP;subst hP;simp only[nR,lJ,e1,e2,hget,o1,o2,go_sem,seval];refine aC hr ?_;simp only[go_sem,seval]
 |some p=>
  rw[hpt]at hP;dsimp only at hP;obtain⟨nl2,cl2,rfl⟩:=hP;dsimp only;simp only[nR,lJ,e1,e2,hget,o1,o2,go_sem,seval];refine aC hr ?_;cases o3:decide ((x.args.es.length:Int)=(p.params.length:Int))
  case false=>simp only[o3,go_sem,seval]
  case true=>
  cases o4:decide (x.num=0)
  case false=>simp only[o3,o4,go_sem,seval]
  case true=>
  simp only[o3,o4,go_sem,seval];have hab:=x.args.ok
  refine aQ x.args.es (λd2 r2 env hp2=>env=A0 (.sl nl (fn.map aE.av) cl) (.int .i64 n) (.int .i64 d.length) (.pt 1 (hp.next 1) 0) (.int .i64 d2.length) /\
   hp2.get 1=some (hp.next 1,.blk [.str x.op.bs,.int .i64 x.num,.sl x.args.nl (x.args.es.map aV) x.args.cl] 3 true true false)/\gY x.args.es (n+d.length)=gY r2 (n+d.length)) ?_ ?_ ?_
  refine⟨rfl,?_,rfl⟩;simp only[go_sem,seval];rintro env hp2 ⟨rfl,h1,hI⟩;simp only[AZ,A0,h1,bK,ew,go_sem,seval];refine⟨rfl,?_⟩;rw[hI];simp[gY]
  ·rintro d2 a r2 env hp2 he2 ⟨rfl,h1,hI⟩;obtain⟨hget2,f1,f2,fw⟩:=eD he2 hab;have hI2:gY x.args.es (n+d.length)=((decide (0<=a)&&decide (a<n+d.length))&&gY r2 (n+d.length)):=by rw[hI];simp[gY]
   rw[hI2];clear hI hI2;cases q1:decide (a<0)
   case true=>
    have:decide (0<=a)=false:=by simp at q1 ⊢;omega
    simp only[AZ,A0,h1,f1,f2,hget2,q1,this,go_sem,seval]
   case false=>
   cases q2:decide (n+(d.length:Int)<=a)
   case true=>
    have:decide (a<n+d.length)=false:=by simp at q2 ⊢;omega
    simp only[AZ,A0,h1,f1,f2,hget2,q1,hw,q2,this,go_sem,seval]
   case false=>
    have h3:decide (0<=a)=true:=by simp at q1 ⊢;omega
    have h4:decide (a<n+d.length)=true:=by simp at q2 ⊢;omega
    simp only[AZ,A0,h1,f1,f2,hget2,q1,hw,q2,h3,h4,fw,go_sem,seval];rfl
set_option maxHeartbeats 1000000 in
theorem c87(hf:pg.fs 87=some V6)(h124:pg.fs 124=some rX)(h125:∀op,bV pg 125 [.str op] (kH op))(nl cl:Bool)(fn:List aE)(hb:fn.length<=big)(n:Int) :
  Ret pg 87 [.sl nl (fn.map aE.av) cl,.int .i64 n] (.bool (cR fn n)):=by
 refine Ret.ofX hf ?_;unfold V6;cases h1:decide (n<0)
 case true=>
  simp only[h1,go_sem,seval];have:decide (0<=n)=false:=by simp at h1 ⊢;omega
  simp[cR,this]
 case false=>
 cases h2:decide (20<n)
 case true=>
  simp only[h1,h2,go_sem,seval];have:decide (n<=20)=false:=by simp at h2 ⊢;omega
  simp[cR,this]
 case false=>
 cases h3:decide (60<(fn.length:Int))
 case true=>
  simp only[h1,h2,h3,go_sem,seval];have:decide ((fn.length:Int)<=60)=false:=by simp at h3 ⊢;omega
  simp[cR,this]
 case false=>
 have g1:=aN h1;have g2:=aN h2;have g3:=aN h3;have hspec:decide (n+(fn.length:Int)=0)=false->cR fn n=dH n fn:=by
  intro h4;have e1:decide (0<=n)=true:=by simp;omega
  have e2:decide (n<=20)=true:=by simp;omega
  have e3:decide ((fn.length:Int)<=60)=true:=by simp;omega
  simp[cR,h4,e1,e2,e3]
 cases h4:decide (n=0)
 case true=>
  cases h5:decide ((fn.length:Int)=0)
  case true=>
   simp only[h1,h2,h3,h4,h5,go_sem,seval];have:decide (n+(fn.length:Int)=0)=true:=by simp at h4 h5 ⊢;simp[h4,h5]
   simp[cR,this]
  case false=>have hs:=hspec (by simp at h4 h5 ⊢;subst h4;simpa using h5);rw[hs];clear hs hspec;simp only[h1,h2,h3,h4,h5,go_sem,seval];refine aQ fn (λd r env hp=>env=lJ (.sl nl (fn.map aE.av) cl) (.int .i64 n) (.int .i64 d.length)/\dH n fn=dH (n+d.length) r) ?_ ?_ ?_;exact⟨rfl,by simp⟩;rintro env hp ⟨rfl,hI⟩;simp only[nR,lJ,bK,go_sem,seval];rw[hI];rfl;rintro d x r env hp hes ⟨rfl,hI⟩;exact LG h124 h125 nl cl fn hb n (by omega) (by omega) (by omega) d x r hp hes hI
 case false=>have hs:=hspec (by simp at h4 ⊢;omega);rw[hs];clear hs hspec;simp only[h1,h2,h3,h4,go_sem,seval];refine aQ fn (λd r env hp=>env=lJ (.sl nl (fn.map aE.av) cl) (.int .i64 n) (.int .i64 d.length)/\dH n fn=dH (n+d.length) r) ?_ ?_ ?_;exact⟨rfl,by simp⟩;rintro env hp ⟨rfl,hI⟩;simp only[nR,lJ,bK,go_sem,seval];rw[hI];rfl;rintro d x r env hp hes ⟨rfl,hI⟩;exact LG h124 h125 nl cl fn hb n (by omega) (by omega) (by omega) d x r hp hes hI
end
end
section
def j8(p:aA)(num value:Int)(name:Str)(at_:Sl Lin)(dyn:Bool)(check:Int)(fn:Sl aE):aA:=.mk p.op num value name at_ dyn check fn p.knl p.kids p.kcl
theorem j6(p:aA)(num value:Int)(name:Str)(at_:Sl Lin)(dyn:Bool)(check:Int)(fn:Sl aE):(j8 p num value name at_ dyn check fn).op=p.op:=rfl
theorem iK(p:aA)(num value:Int)(name:Str)(at_:Sl Lin)(dyn:Bool)(check:Int)(fn:Sl aE):(j8 p num value name at_ dyn check fn).num=num:=rfl
theorem fL(p:aA)(num value:Int)(name:Str)(at_:Sl Lin)(dyn:Bool)(check:Int)(fn:Sl aE):(j8 p num value name at_ dyn check fn).value=value:=rfl
theorem gM(p:aA)(num value:Int)(name:Str)(at_:Sl Lin)(dyn:Bool)(check:Int)(fn:Sl aE):(j8 p num value name at_ dyn check fn).name=name:=rfl
theorem iM(p:aA)(num value:Int)(name:Str)(at_:Sl Lin)(dyn:Bool)(check:Int)(fn:Sl aE):(j8 p num value name at_ dyn check fn).at_=at_:=rfl
theorem iL(p:aA)(num value:Int)(name:Str)(at_:Sl Lin)(dyn:Bool)(check:Int)(fn:Sl aE):(j8 p num value name at_ dyn check fn).dyn=dyn:=rfl
theorem fM(p:aA)(num value:Int)(name:Str)(at_:Sl Lin)(dyn:Bool)(check:Int)(fn:Sl aE):(j8 p num value name at_ dyn check fn).check=check:=rfl
theorem j7(p:aA)(num value:Int)(name:Str)(at_:Sl Lin)(dyn:Bool)(check:Int)(fn:Sl aE):(j8 p num value name at_ dyn check fn).fn=fn:=rfl
theorem gN(p:aA)(num value:Int)(name:Str)(at_:Sl Lin)(dyn:Bool)(check:Int)(fn:Sl aE):(j8 p num value name at_ dyn check fn).kids=p.kids:=rfl
theorem jO(p:aA)(num value:Int)(name:Str)(at_:Sl Lin)(dyn:Bool)(check:Int)(fn:Sl aE):(j8 p num value name at_ dyn check fn).knl=p.knl:=rfl
theorem jP(p:aA)(num value:Int)(name:Str)(at_:Sl Lin)(dyn:Bool)(check:Int)(fn:Sl aE):(j8 p num value name at_ dyn check fn).kcl=p.kcl:=rfl
theorem mC(p:aA)(num value:Int)(name:Str)(at_:Sl Lin)(dyn:Bool)(check:Int)(fn:Sl aE) :
  dJ p (j8 p num value name at_ dyn check fn)=(decide (p.num=num)&&decide (p.value=value)&&decide (p.name.bs=name.bs)&&(p.dyn==dyn)&&decide (p.check=check)&&eqL eU p.at_.es at_.es&&eqL fO p.fn.es fn.es):=by
 rw[qS,mB];simp only[j6,iK,fL,gM,iM,iL,fM,j7,gN];rw[gS IR];simp;rfl
theorem bq1:(true==false)=false:=rfl
theorem bq2:(false==false)=true:=rfl
theorem bq3:(true==true)=true:=rfl
def fF(p:aA):aA:=
 if p.op.bs=[99,111,110,115,116] then j8 p p.num 0 gI (iD Lin) false 0 (iD aE)
 else if p.op.bs=[108,105,110,101,97,114] then j8 p 0 0 gI p.at_ false 0 (iD aE)
 else if p.op.bs=[114,101,97,100] then j8 p 0 p.value gI p.at_ p.dyn (if p.dyn then p.check else 0) (iD aE)
 else if p.op.bs=[105,102] then j8 p 0 0 gI p.at_ false 0 (iD aE)
 else if p.op.bs=[114,101,100,117,99,101] then j8 p 0 0 p.name p.at_ false 0 p.fn
 else if p.op.bs=[99,111,100,101] then j8 p 0 0 gI (iD Lin) false 0 p.fn
 else j8 p 0 0 gI (iD Lin) false 0 (iD aE)
def fS(p:aA):Bool:=
 if p.op.bs=[99,111,110,115,116] then decide ((p.kids.length:Int)=0)&&decide ((p.at_.es.length:Int)=0)
 else if p.op.bs=[108,105,110,101,97,114] then decide ((p.kids.length:Int)=0)&&decide ((p.at_.es.length:Int)=1)
 else if p.op.bs=[114,101,97,100] then
  (if p.dyn then decide ((p.kids.length:Int)=1)&&decide ((p.at_.es.length:Int)<=5) else decide ((p.kids.length:Int)=0)&&decide ((p.at_.es.length:Int)<=6))
 else if p.op.bs=[105,102] then decide ((p.kids.length:Int)=2)&&decide ((p.at_.es.length:Int)=1)
 else if p.op.bs=[114,101,100,117,99,101] then decide ((p.kids.length:Int)=2)&&decide ((p.at_.es.length:Int)=1)
 else if p.op.bs=[99,111,100,101] then decide ((p.kids.length:Int)<=20)&&decide ((p.at_.es.length:Int)=0)
 else match fE p.op.bs with
  |none=>false
  |some q=>decide ((p.kids.length:Int)=(q.params.length:Int))&&decide ((p.at_.es.length:Int)=0)
def nJ(p:aA)(vars:List Str)(v:Int):Bool:=
 if p.op.bs=[99,111,110,115,116] then iT p.num
 else if p.op.bs=[114,101,97,100] then decide (0<=p.value)&&decide (p.value<v)&&decide (0<=p.check)
 else if p.op.bs=[114,101,100,117,99,101] then fT p.name.bs && !cJ vars p.name.bs&&cR p.fn.es 2
 else if p.op.bs=[99,111,100,101] then cR p.fn.es p.kids.length
 else true
theorem L4(p:aA)(vars:List Str)(v:Int):(fS p&&dJ p (fF p)&&nJ p vars v)=dK p vars v:=by
 by_cases o1:p.op.bs=[99,111,110,115,116]
 simp only[fS,fF,nJ,dK,o1,if_true,mC,iD,gI,rB,c7];cases p.dyn<;>simp only[bq1,bq2,bq3,Bool.not_true,Bool.not_false,Bool.false_or,Bool.true_or,Bool.false_and,Bool.and_false,Bool.true_and,Bool.and_true,decide_true]
 (refine Bool.eq_iff_iff.2 ?_;simp only[aD];constructor<;>(intro h;simp only[h,and_self]))
 by_cases o2:p.op.bs=[108,105,110,101,97,114]
 have n1:¬p.op.bs=[114,101,97,100]:=by rw[o2];decide
 have n2:¬p.op.bs=[114,101,100,117,99,101]:=by rw[o2];decide
 have n3:¬p.op.bs=[99,111,100,101]:=by rw[o2];decide
 simp only[fS,fF,nJ,dK,o1,n1,n2,n3,if_false];simp only[o2,if_true,mC,iD,gI,rB,c7,gS mG];cases p.dyn<;>simp only[bq1,bq2,bq3,Bool.not_true,Bool.not_false,Bool.false_or,Bool.true_or,Bool.false_and,Bool.and_false,Bool.true_and,Bool.and_true]
 (refine Bool.eq_iff_iff.2 ?_;simp only[aD];constructor<;>(intro h;simp only[h,and_self]))
 by_cases o3:p.op.bs=[114,101,97,100]
 simp only[fS,fF,nJ,dK,o1,o2,if_false];simp only[o3,if_true,mC,iD,gI,rB,c7,gS mG,nK];cases p.dyn<;>simp only[bq1,bq2,bq3,Bool.not_true,Bool.not_false,Bool.false_or,Bool.true_or,Bool.false_and,Bool.and_false,Bool.true_and,Bool.and_true,Bool.false_eq_true,if_true,if_false,decide_true];cases h:decide (p.check=0);simp;have:decide (0<=p.check)=true:=by simp at h ⊢;omega
 simp only[this,Bool.and_true,Bool.true_and]
 (refine Bool.eq_iff_iff.2 ?_;simp only[aD];constructor<;>(intro h;simp only[h,and_self]))
 (refine Bool.eq_iff_iff.2 ?_;simp only[aD];constructor<;>(intro h;simp only[h,and_self]))
 by_cases o4:p.op.bs=[105,102]
 have n2:¬p.op.bs=[114,101,100,117,99,101]:=by rw[o4];decide
 have n3:¬p.op.bs=[99,111,100,101]:=by rw[o4];decide
 simp only[fS,fF,nJ,dK,o1,o2,o3,n2,n3,if_false];simp only[o4,if_true,mC,iD,gI,rB,c7,gS mG];cases p.dyn<;>simp only[bq1,bq2,bq3,Bool.not_true,Bool.not_false,Bool.false_or,Bool.true_or,Bool.false_and,Bool.and_false,Bool.true_and,Bool.and_true]
 (refine Bool.eq_iff_iff.2 ?_;simp only[aD];constructor<;>(intro h;simp only[h,and_self]))
 by_cases o5:p.op.bs=[114,101,100,117,99,101]
 simp only[fS,fF,nJ,dK,o1,o2,o3,o4,if_false];simp only[o5,if_true,mC,iD,gI,c7,gS mG,gS pL];cases p.dyn<;>simp only[bq1,bq2,bq3,Bool.not_true,Bool.not_false,Bool.false_or,Bool.true_or,Bool.false_and,Bool.and_false,Bool.true_and,Bool.and_true,decide_true]
 (refine Bool.eq_iff_iff.2 ?_;simp only[aD];constructor<;>(intro h;simp only[h,and_self]))
 by_cases o6:p.op.bs=[99,111,100,101]
 simp only[fS,fF,nJ,dK,o1,o2,o3,o4,o5,if_false];simp only[o6,if_true,mC,iD,gI,c7,rB,gS pL];have hc:(decide ((p.kids.length:Int)<=20)&&cR p.fn.es p.kids.length)=cR p.fn.es p.kids.length:=by simp only[cR];cases decide ((p.kids.length:Int)<=20)<;>simp
 rw[<-hc];cases p.dyn<;>simp only[bq1,bq2,bq3,Bool.not_true,Bool.not_false,Bool.false_or,Bool.true_or,Bool.false_and,Bool.and_false,Bool.true_and,Bool.and_true,decide_true];cases decide ((p.kids.length:Int)<=20)<;>simp only[Bool.false_and,Bool.true_and,Bool.and_false]
 (refine Bool.eq_iff_iff.2 ?_;simp only[aD];constructor<;>(intro h;simp only[h,and_self]))
 simp only[fS,fF,nJ,dK,o1,o2,o3,o4,o5,o6,if_false];cases hpt:fE p.op.bs with
 |none=>simp
 |some q=>
  simp only[mC,iD,gI,c7,rB];cases p.dyn<;>simp only[bq1,bq2,bq3,Bool.not_true,Bool.not_false,Bool.false_or,Bool.true_or,Bool.false_and,Bool.and_false,Bool.true_and,Bool.and_true,decide_true]
  (refine Bool.eq_iff_iff.2 ?_;simp only[aD];constructor<;>(intro h;simp only[h,and_self]))
theorem mnA(a b:Int):(oY min2 (.int .i64 a) [.int .i64 b]).bind val=val (.int .i64 (if b<a then b else a)):=by simp[oY,min2]
theorem oO(n m:Int):decide (n=if m<n then m else n)=decide (n<=m):=by rw[eE];split<;>omega
section
variable{pg:Pg}
set_option maxHeartbeats 1000000 in
theorem c192(hf:pg.fs 192=some KO)(h125:∀op,bV pg 125 [.str op] (kH op))(p:aA):Ret pg 192 [p.av] (.tup [(fF p).av,.bool (fS p)]):=by
 refine Ret.ofX hf ?_;unfold KO;cases o0:decide (p.op.bs=[99,111,110,115,116])
 case true=>
  have h0:=aG o0;have hP:(fF p).av = .agg [.str p.op.bs,.int .i64 p.num,.int .i64 0,.str [],.sl true [] true,.bool false,.int .i64 0,.sl true [] true,.sl p.knl (p.kids.map aA.av) p.kcl]:=by rw[aA.avc];simp only[fF];simp only[h0,if_true,if_false,j6,iK,fL,gM,iM,iL,fM,j7,gN,jO,jP,gI,iD,List.map_nil]
  have hB:fS p=(decide ((p.kids.length:Int)=0)&&decide ((p.at_.es.length:Int)=0)):=by simp only[fS];simp only[h0,if_true,if_false]
  rw[hP,hB];clear hP hB h125;cases k1:decide ((p.kids.length:Int)=0);simp only[o0,k1,go_sem,seval];show _=true;kernel_rfl;cases k2:decide ((p.at_.es.length:Int)=0);simp only[o0,k1,k2,go_sem,seval];show _=true;kernel_rfl;simp only[o0,k1,k2,go_sem,seval];show _=true;kernel_rfl
 case false=>
 have h0:=aN o0;cases o1:decide (p.op.bs=[108,105,110,101,97,114])
 case true=>
  have h1:=aG o1;have hP:(fF p).av = .agg [.str p.op.bs,.int .i64 0,.int .i64 0,.str [],.sl p.at_.nl (p.at_.es.map Lin.av) p.at_.cl,.bool false,.int .i64 0,.sl true [] true,.sl p.knl (p.kids.map aA.av) p.kcl]:=by rw[aA.avc];simp only[fF,h0,if_false];simp only[h1,if_true,if_false,j6,iK,fL,gM,iM,iL,fM,j7,gN,jO,jP,gI,iD,List.map_nil]
  have hB:fS p=(decide ((p.kids.length:Int)=0)&&decide ((p.at_.es.length:Int)=1)):=by simp only[fS,h0,if_false];simp only[h1,if_true,if_false]
  rw[hP,hB];clear hP hB h125;cases k1:decide ((p.kids.length:Int)=0);simp only[o0,o1,k1,go_sem,seval];show _=true;kernel_rfl;cases k2:decide ((p.at_.es.length:Int)=1);simp only[o0,o1,k1,k2,go_sem,seval];show _=true;kernel_rfl;simp only[o0,o1,k1,k2,go_sem,seval];show _=true;kernel_rfl
 case false=>
 have h1:=aN o1;cases o2:decide (p.op.bs=[114,101,97,100])
 case true=>
  have h2:=aG o2;cases hd:p.dyn
  case true=>
   have hP:(fF p).av = .agg [.str p.op.bs,.int .i64 0,.int .i64 p.value,.str [],.sl p.at_.nl (p.at_.es.map Lin.av) p.at_.cl,.bool true,.int .i64 p.check,.sl true [] true,.sl p.knl (p.kids.map aA.av) p.kcl]:=by rw[aA.avc];simp only[fF,h0,h1,if_false];simp only[hd,h2,if_true,if_false,j6,iK,fL,gM,iM,iL,fM,j7,gN,jO,jP,gI,iD,List.map_nil]
   have hB:fS p=(decide ((p.kids.length:Int)=1)&&decide ((p.at_.es.length:Int)<=5)):=by simp only[fS,h0,h1,if_false];simp only[hd,h2,if_true,if_false]
   rw[hP,hB];clear hP hB h125;cases k1:decide ((p.kids.length:Int)=1)
   ·repeat (first|simp only[o0,o1,o2,hd,mnA,oO,k1,go_sem,seval]|refine cN ?_)
    show _=true;kernel_rfl
   cases k2:decide ((p.at_.es.length:Int)<=5)
   ·repeat (first|simp only[o0,o1,o2,hd,mnA,oO,k1,k2,go_sem,seval]|refine cN ?_)
    show _=true;kernel_rfl
   ·repeat (first|simp only[o0,o1,o2,hd,mnA,oO,k1,k2,go_sem,seval]|refine cN ?_)
    show _=true;kernel_rfl
  case false=>
   have hP:(fF p).av = .agg [.str p.op.bs,.int .i64 0,.int .i64 p.value,.str [],.sl p.at_.nl (p.at_.es.map Lin.av) p.at_.cl,.bool false,.int .i64 0,.sl true [] true,.sl p.knl (p.kids.map aA.av) p.kcl]:=by rw[aA.avc];simp only[fF,h0,h1,if_false];simp only[hd,Bool.false_eq_true,h2,if_true,if_false,j6,iK,fL,gM,iM,iL,fM,j7,gN,jO,jP,gI,iD,List.map_nil]
   have hB:fS p=(decide ((p.kids.length:Int)=0)&&decide ((p.at_.es.length:Int)<=6)):=by simp only[fS,h0,h1,if_false];simp only[hd,Bool.false_eq_true,h2,if_true,if_false]
   rw[hP,hB];clear hP hB h125;cases k1:decide ((p.kids.length:Int)=0)
   ·repeat (first|simp only[o0,o1,o2,hd,mnA,oO,k1,go_sem,seval]|refine cN ?_)
    show _=true;kernel_rfl
   cases k2:decide ((p.at_.es.length:Int)<=6)
   ·repeat (first|simp only[o0,o1,o2,hd,mnA,oO,k1,k2,go_sem,seval]|refine cN ?_)
    show _=true;kernel_rfl
   ·repeat (first|simp only[o0,o1,o2,hd,mnA,oO,k1,k2,go_sem,seval]|refine cN ?_)
    show _=true;kernel_rfl
 case false=>
 have h2:=aN o2;cases o3:decide (p.op.bs=[105,102])
 case true=>
  have h3:=aG o3;have hP:(fF p).av = .agg [.str p.op.bs,.int .i64 0,.int .i64 0,.str [],.sl p.at_.nl (p.at_.es.map Lin.av) p.at_.cl,.bool false,.int .i64 0,.sl true [] true,.sl p.knl (p.kids.map aA.av) p.kcl]:=by rw[aA.avc];simp only[fF,h0,h1,h2,if_false];simp only[h3,if_true,if_false,j6,iK,fL,gM,iM,iL,fM,j7,gN,jO,jP,gI,iD,List.map_nil]
  have hB:fS p=(decide ((p.kids.length:Int)=2)&&decide ((p.at_.es.length:Int)=1)):=by simp only[fS,h0,h1,h2,if_false];simp only[h3,if_true,if_false]
  rw[hP,hB];clear hP hB h125;cases k1:decide ((p.kids.length:Int)=2);simp only[o0,o1,o2,o3,k1,go_sem,seval];show _=true;kernel_rfl;cases k2:decide ((p.at_.es.length:Int)=1);simp only[o0,o1,o2,o3,k1,k2,go_sem,seval];show _=true;kernel_rfl;simp only[o0,o1,o2,o3,k1,k2,go_sem,seval];show _=true;kernel_rfl
 case false=>
 have h3:=aN o3;cases o4:decide (p.op.bs=[114,101,100,117,99,101])
 case true=>
  have h4:=aG o4;have hP:(fF p).av = .agg [.str p.op.bs,.int .i64 0,.int .i64 0,.str p.name.bs,.sl p.at_.nl (p.at_.es.map Lin.av) p.at_.cl,.bool false,.int .i64 0,.sl p.fn.nl (p.fn.es.map aE.av) p.fn.cl,.sl p.knl (p.kids.map aA.av) p.kcl]:=by rw[aA.avc];simp only[fF,h0,h1,h2,h3,if_false];simp only[h4,if_true,if_false,j6,iK,fL,gM,iM,iL,fM,j7,gN,jO,jP,gI,iD,List.map_nil]
  have hB:fS p=(decide ((p.kids.length:Int)=2)&&decide ((p.at_.es.length:Int)=1)):=by simp only[fS,h0,h1,h2,h3,if_false];simp only[h4,if_true,if_false]
  rw[hP,hB];clear hP hB h125;cases k1:decide ((p.kids.length:Int)=2)
  ·repeat (first|simp only[o0,o1,o2,o3,o4,k1,go_sem,seval]|refine cN ?_)
   show _=true;kernel_rfl
  cases k2:decide ((p.at_.es.length:Int)=1)
  ·repeat (first|simp only[o0,o1,o2,o3,o4,k1,k2,go_sem,seval]|refine cN ?_)
   show _=true;kernel_rfl
  ·repeat (first|simp only[o0,o1,o2,o3,o4,k1,k2,go_sem,seval]|refine cN ?_)
   show _=true;kernel_rfl
 case false=>
 have h4:=aN o4;cases o5:decide (p.op.bs=[99,111,100,101])
 case true=>
  have h5:=aG o5;have hP:(fF p).av = .agg [.str p.op.bs,.int .i64 0,.int .i64 0,.str [],.sl true [] true,.bool false,.int .i64 0,.sl p.fn.nl (p.fn.es.map aE.av) p.fn.cl,.sl p.knl (p.kids.map aA.av) p.kcl]:=by rw[aA.avc];simp only[fF,h0,h1,h2,h3,h4,if_false];simp only[h5,if_true,if_false,j6,iK,fL,gM,iM,iL,fM,j7,gN,jO,jP,gI,iD,List.map_nil]
  have hB:fS p=(decide ((p.kids.length:Int)<=20)&&decide ((p.at_.es.length:Int)=0)):=by simp only[fS,h0,h1,h2,h3,h4,if_false];simp only[h5,if_true,if_false]
  rw[hP,hB];clear hP hB h125;cases k1:decide ((p.kids.length:Int)<=20)
  ·repeat (first|simp only[o0,o1,o2,o3,o4,o5,mnA,oO,k1,go_sem,seval]|refine cN ?_)
   show _=true;kernel_rfl
  cases k2:decide ((p.at_.es.length:Int)=0)
  ·repeat (first|simp only[o0,o1,o2,o3,o4,o5,mnA,oO,k1,k2,go_sem,seval]|refine cN ?_)
   show _=true;kernel_rfl
  ·repeat (first|simp only[o0,o1,o2,o3,o4,o5,mnA,oO,k1,k2,go_sem,seval]|refine cN ?_)
   show _=true;kernel_rfl
 case false=>
 have h5:=aN o5;have hP:(fF p).av = .agg [.str p.op.bs,.int .i64 0,.int .i64 0,.str [],.sl true [] true,.bool false,.int .i64 0,.sl true [] true,.sl p.knl (p.kids.map aA.av) p.kcl]:=by rw[aA.avc];simp only[fF,h0,h1,h2,h3,h4,h5,if_false,j6,iK,fL,gM,iM,iL,fM,j7,gN,jO,jP,gI,iD,List.map_nil]
 have hB:fS p=(match fE p.op.bs with
  |none=>false
  |some q=>decide ((p.kids.length:Int)=(q.params.length:Int))&&decide ((p.at_.es.length:Int)=0)):=by simp only[fS,h0,h1,h2,h3,h4,h5,if_false]
 rw[hP,hB];clear hP hB;obtain⟨rr,hr,hR⟩:=h125 p.op.bs;simp only[kH]at hR;cases hpt:fE p.op.bs with
 |none=>rw[hpt]at hR;dsimp only at hR;subst hR;simp only[o0,o1,o2,o3,o4,o5,go_sem,seval];refine aC hr ?_;simp only[go_sem,seval]
 |some q=>rw[hpt]at hR;dsimp only at hR;obtain⟨nl2,cl2,rfl⟩:=hR;dsimp only;simp only[o0,o1,o2,o3,o4,o5,go_sem,seval];refine aC hr ?_;cases k1:decide ((p.kids.length:Int)=(q.params.length:Int));simp only[k1,go_sem,seval];show _=true;kernel_rfl;cases k2:decide ((p.at_.es.length:Int)=0);simp only[k1,k2,go_sem,seval];show _=true;kernel_rfl;simp only[k1,k2,go_sem,seval];show _=true;kernel_rfl
end
end
section
section
variable{pg:Pg}
theorem lY{kb esz bytes s:Nat}{ag:Bool}{h:Hp}{xs:List AV}{nl cl nl0:Bool}{Q:AV->Eff->Prop}{t:Tok Q}(hx:∀x∈xs,El esz ag x)(hl:xs.length<=1073741824)(hb:bytes<=65536)
  (q1:xs=[]->Q (.sl nl0 [] true) (.pat [] []))
  (q2:xs≠[]->∀cs,aP esz ag xs=some cs->Q (.rf (kb+s) (h.next (kb+s)) 0 xs.length xs.length) (.pat [kb+s] [⟨kb+s,h.next (kb+s),.blk cs esz ag false false⟩])) :
  XO pg kb (.app esz ag bytes) s h [.sl nl0 [] true,.sl nl xs cl] Q t:=by
 rw[qK];obtain⟨ds,d1,d2,d3,_⟩:=bU hx;simp only[o7,bM,d1,Option.map_some];by_cases hxs:xs=[]
 subst hxs;cases d1;simp only[lG,List.length_nil,if_true];exact q1 rfl;have hn:xs.length≠0:=by simpa using hxs
 simp only[lG,hn,if_false,List.length_nil,Nat.zero_add,Bool.or_true,Bool.true_and,hl,hb,decide_true,Bool.and_self,if_true,aP,List.nil_append];exact q2 hxs ds d1
theorem vX{kb esz bytes s k e n:Nat}{ag:Bool}{h:Hp}{cs:List AV}{es xs:List AV}{nl cl:Bool}{Q:AV->Eff->Prop}{t:Tok Q}
  (hne:n=es.length) (hg:h.get k=some (e,.blk cs esz ag false false)) (hu:aP esz ag es=some cs) (hk:(k==kb+s)=false) (he:∀x∈es,El esz ag x) (hx:∀x∈xs,El esz ag x) (hxs:xs≠[])
  (hl:es.length+xs.length<=1073741824) (hb:bytes<=65536)
  (q2:∀cs',aP esz ag (es++xs)=some cs'->Q (.rf (kb+s) (h.next (kb+s)) 0 (n+xs.length) (n+xs.length)) (.pat [kb+s,k] [⟨k,e,.dead⟩,⟨kb+s,h.next (kb+s),.blk cs' esz ag false false⟩])) :
  XO pg kb (.app esz ag bytes) s h [.rf k e 0 n n,.sl nl xs cl] Q t:=by
 subst hne;rw[qK];obtain⟨ds,d1,d2,d3,_⟩:=bU hx;simp only[o7,bM,d1,Option.map_some];have hn:xs.length≠0:=by simpa using hxs
 obtain⟨cs',c1,c2,_,_⟩:=bU he;rw[hu]at c1;cases c1;have h1:¬(es.length+xs.length<=es.length):=by omega
 simp only[lG,hg,hn,if_false,true_and,Nat.zero_add];rw[if_pos (by omega)];simp only[h1,if_false,hl,hb,decide_true,Bool.true_and,hk,Bool.not_false,if_true,Bool.false_eq_true];have h3:(List.drop 0 cs).take (es.length*esz)++ds=cs++ds:=by simp[<-c2]
 rw[h3];exact q2 _ (eV hu d1)
def aKr(hp:Hp)(nl cl:Bool)(vars:List Str)(name:Str)(red:Bool)(iv:AV):Prop:=
 (red=false/\iv = .sl nl (vars.map Str.av) cl)\/(red=true/\∃k,Own hp k 1 false iv ((vars++[name]).map Str.av))
set_option maxHeartbeats 1000000 in
theorem SH(v:Int)(p:aA)(nl cl:Bool)(vars:List Str)(hk:p.kids.length<=big)(hks:∀q∈p.kids,q.ok)(hb:vars.length+1+aA.szL p.kids<=big)
  (ih:∀q∈p.kids,q.ok->∀(nl cl:Bool)(vars:List Str),vars.length+q.sz<=big->Ret pg 164 [q.av,.sl nl (vars.map Str.av) cl,.int .i64 v] (.bool (cD v q vars)))
  (iv:AV) (red b R:Bool) (env:List AV) (hp:Hp)
  (henv:clear G2 env=oW (.sl nl (vars.map Str.av) cl) (.int .i64 v) (.pt 1 0 0) (.bool b) iv (.int .i64 0))
  (g1:hp.get 1=some (0,.blk [.str p.op.bs,.int .i64 p.num,.int .i64 p.value,.str p.name.bs,.sl p.at_.nl (p.at_.es.map Lin.av) p.at_.cl,.bool p.dyn,.int .i64 p.check,.sl p.fn.nl (p.fn.es.map aE.av) p.fn.cl,.sl p.knl (p.kids.map aA.av) p.kcl] 9 true true false))
  (hiv:aKr hp nl cl vars p.name red iv) (hR:R=(b&&dS v red p.name vars 0 p.kids)) :
  XX pg 0 (.loop oV G2) ⟨env,hp⟩
   (nS 1 (lB (λst'=>XX pg 0 (.seq (.reg [⟨some 110,.mov,[.t 8],none,0,0⟩,⟨some 6,.mov,[.t 110],none,0,0⟩] false) .ret) st' (JR [.inl 6] (.bool R)) ⟨⟩) (JR [.inl 6] (.bool R)))) ⟨⟩:=by
 refine aQ p.kids (λd r env hp=>∃ok:Bool,env=oW (.sl nl (vars.map Str.av) cl) (.int .i64 v) (.pt 1 0 0) (.bool ok) iv (.int .i64 d.length) /\
  hp.get 1=some (0,.blk [.str p.op.bs,.int .i64 p.num,.int .i64 p.value,.str p.name.bs,.sl p.at_.nl (p.at_.es.map Lin.av) p.at_.cl,.bool p.dyn,.int .i64 p.check,.sl p.fn.nl (p.fn.es.map aE.av) p.fn.cl,.sl p.knl (p.kids.map aA.av) p.kcl] 9 true true false) /\
  aKr hp nl cl vars p.name red iv/\R=(ok&&dS v red p.name vars d.length r)) ?_ ?_ ?_
 exact⟨b,henv,g1,hiv,hR⟩;clear hiv g1 henv hR hp env;rintro env hp ⟨ok,rfl,g1,hiv,hR⟩;simp only[oV,oW,g1,bK,go_sem,seval];rw[hR];simp[dS]
 ·clear hiv g1 henv hR hp env;rintro d x r env hp hes ⟨ok,rfl,g1,hiv,hR⟩;obtain⟨hget,e1,e2,ew⟩:=eD hes hk;have hxm:x∈p.kids:=by rw[hes];simp
  have hxs:x.sz<=aA.szL p.kids:=aA.szL_mem hxm;have hx:=ih x hxm (hks x hxm);clear ih hks;cases ok
  case false=>simp only[oV,oW,g1,e1,go_sem,seval];rw[hR];simp
  case true=>
  simp only[dS,Bool.true_and]at hR;have hd1:dS v red p.name vars (d++[x]).length r=dS v red p.name vars (d.length+1) r:=by simp
  cases c2:decide ((d.length:Int)=1)
  case false=>have a1:=hx nl cl vars (by omega);simp only[oV,oW,g1,e1,e2,hget,c2,go_sem,seval];refine aC a1 ?_;simp only[ew,go_sem,seval];refine⟨_,rfl,g1,hiv,?_⟩;rw[hR,c2,hd1];simp
  case true=>
  rcases hiv with ⟨hr,hv⟩|⟨hr,kk,ho⟩
  have a1:=hx nl cl vars (by omega);subst hv;simp only[oV,oW,g1,e1,e2,hget,c2,go_sem,seval];refine aC a1 ?_;simp only[ew,go_sem,seval];refine⟨_,rfl,g1,.inl ⟨hr,rfl⟩,?_⟩;rw[hR,c2,hd1,hr];simp;obtain⟨nl2,cl2,keys,hsn,hnl⟩:=ho.snap (El.strs (vars++[p.name])) 62;have a1:=hx nl2 cl2 (vars++[p.name]) (by simp;omega);simp only[oV,oW,g1,e1,e2,hget,c2,go_sem,seval];refine cX a1 (mE (by simp only[go_sem,seval]) hsn (by simp only[go_sem,seval])) (v:=.bool (cD v x (vars++[p.name]))) (pa:=[]) rfl ?_;simp only[ew,go_sem,seval];refine⟨_,rfl,g1,.inr ⟨hr,kk,ho⟩,?_⟩;rw[hR,c2,hd1,hr];simp
set_option maxHeartbeats 2000000 in
theorem c164(hf:pg.fs 164=some KT)(h192:∀p:aA,Ret pg 192 [p.av] (.tup [(fF p).av,.bool (fS p)]))
  (h118:∀p:aA,p.ok->∀q:aA,Ret pg 118 [p.av,q.av] (.bool (dJ p q)))
  (h193:∀(nl cl:Bool)(ls:List Lin),ls.length<=big->∀(nl' cl':Bool)(vars:List Str),vars.length<=big->Ret pg 193 [.sl nl (ls.map Lin.av) cl,.sl nl' (vars.map Str.av) cl'] (.bool (aY ls vars)))
  (h124:pg.fs 124=some rX) (h77:∀s:Str,Ret pg 77 [.str s.bs] (.bool (fT s.bs))) (h194:pg.fs 194=some A3)
  (h87:∀(nl cl:Bool)(fn:List aE),fn.length<=big->∀n:Int,Ret pg 87 [.sl nl (fn.map aE.av) cl,.int .i64 n] (.bool (cR fn n))) (v:Int) :
  ∀p:aA,p.ok->∀(nl cl:Bool)(vars:List Str),vars.length+p.sz<=big->Ret pg 164 [p.av,.sl nl (vars.map Str.av) cl,.int .i64 v] (.bool (cD v p vars)):=by
 refine aA.ind' λp ih hp nl cl vars hb=>?_;obtain⟨hk,hks⟩:=(aA.ok_iff p).1 hp;have hsz:=aA.sz_eq p;have a1:=h192 p;have a2:=h118 p hp (fF p);rw[aA.avc p]at a1 a2;have a2':=a2;rw[aA.avc (fF p)]at a2';have a3:=h193 p.at_.nl p.at_.cl p.at_.es p.at_.ok nl cl vars (by omega);have a4:=aEX h124 p.num;have a5:=h77 p.name;have a6:=c194 h194 nl cl vars (by omega) p.name.bs;have a7:=h87 p.fn.nl p.fn.cl p.fn.es p.fn.ok 2;have a8:=h87 p.fn.nl p.fn.cl p.fn.es p.fn.ok p.kids.length;clear h192 h118 h193 h124 h77 h194 h87;have hspec:cD v p vars=(fS p&&(dJ p (fF p)&&(aY p.at_.es vars&&(nJ p vars v&&dS v (decide (p.op.bs=[114,101,100,117,99,101])) p.name vars 0 p.kids)))):=by
  rw[iI,<-L4]
  (refine Bool.eq_iff_iff.2 ?_;simp only[aD];constructor<;>(intro h;simp only[h,and_self]))
 rw[hspec];refine Ret.ofX hf ?_;unfold KT;refine Wk ?_;refine gO a1 (by simp only[go_sem,seval]) (by rfl) ?_;have hro:nJ p vars v=(if p.op.bs=[99,111,110,115,116] then iT p.num
  else if p.op.bs=[114,101,97,100] then decide (0<=p.value)&&decide (p.value<v)&&decide (0<=p.check)
  else if p.op.bs=[114,101,100,117,99,101] then fT p.name.bs && !cJ vars p.name.bs&&cR p.fn.es 2
  else if p.op.bs=[99,111,100,101] then cR p.fn.es p.kids.length
  else true):=rfl
 generalize hob:fS p=ob at *;cases ob
 case false=>simp only[go_sem,seval]
 case true=>
 refine Wk ?_;refine aC a2' ?_;generalize hpe:dJ p (fF p)=pe at *;cases pe
 case false=>simp only[go_sem,seval]
 case true=>
 refine Wk ?_;refine aC a3 ?_;generalize hov:aY p.at_.es vars=ov at *;cases ov
 case false=>simp only[go_sem,seval]
 case true=>
 refine Wk ?_;have hL:=λiv b R env hp h1 h2 h3 h4=>SH v p nl cl vars hk hks (by omega) ih iv (decide (p.op.bs=[114,101,100,117,99,101])) b R env hp h1 h2 h3 h4;clear ih hks a1 a2 a2' a3;cases o1:decide (p.op.bs=[99,111,110,115,116])
 case true=>
  have h:=aG o1;have hr:decide (p.op.bs=[114,101,100,117,99,101])=false:=by rw[h];decide
  rw[hro,if_pos h];refine Wk ?_;refine aC a4 (Wk ?_);exact hL _ _ _ _ _ rfl rfl (.inl ⟨hr,rfl⟩) rfl
 case false=>
 rw[hro,if_neg (aN o1)];refine Wk ?_;cases o2:decide (p.op.bs=[114,101,97,100])
 case true=>
  have h:=aG o2;have hr:decide (p.op.bs=[114,101,100,117,99,101])=false:=by rw[h];decide
  rw[if_pos h];cases q1:decide (0<=p.value)
  case false=>simp only[q1,go_sem,seval];exact hL _ _ _ _ _ rfl rfl (.inl ⟨hr,rfl⟩) rfl
  case true=>
  cases q2:decide (p.value<v)
  case false=>simp only[q1,q2,go_sem,seval];exact hL _ _ _ _ _ rfl rfl (.inl ⟨hr,rfl⟩) rfl
  case true=>simp only[q1,q2,go_sem,seval];exact hL _ _ _ _ _ rfl rfl (.inl ⟨hr,rfl⟩) rfl
 case false=>
 rw[if_neg (aN o2)];refine Wk ?_;cases o3:decide (p.op.bs=[114,101,100,117,99,101])
 case true=>
  have h:=aG o3;rw[if_pos h];refine Wk ?_;refine aC a5 ?_;have hvl:vars.length+1<=1073741824:=by simp only[big]at hb;omega
  have hS:∀x∈[AV.str p.name.bs],El 1 false x:=by intro x hx;simp at hx;subst hx;exact⟨rfl,rfl,rfl⟩
  cases nm:fT p.name.bs
  case false=>
   refine Wk ?_;refine lY (El.strs vars) (by simp;omega) (by decide) (λhe=>?_) (λhe cs hcs=>?_);have hv:vars=[]:=by simpa using he
   refine Wk ?_;refine lY hS (by simp) (by decide) (λh=>by cases h) (λ_ cs2 hcs2=>?_);cases hcs2;refine Wk ?_;refine cN ?_;exact hL _ _ _ _ _ rfl rfl (.inr ⟨o3,41,.inr ⟨_,_,by rw[hv];rfl,rfl,by rw[hv];rfl⟩⟩) (by rw[o3];rfl);refine Wk ?_;refine vX (es:=vars.map Str.av) (by simp) rfl hcs rfl (El.strs vars) hS (by simp) (by simp;omega) (by decide) (λcs2 hcs2=>?_);refine Wk ?_;refine cN ?_;exact hL _ _ _ _ _ rfl rfl (.inr ⟨o3,41,.inr ⟨_,_,by simp,rfl,by rw[List.map_append];exact hcs2⟩⟩) (by rw[o3];rfl)
  case true=>
  refine Wk ?_;refine aC a6 ?_;cases hs:cJ vars p.name.bs
  case true=>
   refine Wk ?_;refine lY (El.strs vars) (by simp;omega) (by decide) (λhe=>?_) (λhe cs hcs=>?_);have hv:vars=[]:=by simpa using he
   refine Wk ?_;refine lY hS (by simp) (by decide) (λh=>by cases h) (λ_ cs2 hcs2=>?_);cases hcs2;refine Wk ?_;refine cN ?_;exact hL _ _ _ _ _ rfl rfl (.inr ⟨o3,41,.inr ⟨_,_,by rw[hv];rfl,rfl,by rw[hv];rfl⟩⟩) (by rw[o3];rfl);refine Wk ?_;refine vX (es:=vars.map Str.av) (by simp) rfl hcs rfl (El.strs vars) hS (by simp) (by simp;omega) (by decide) (λcs2 hcs2=>?_);refine Wk ?_;refine cN ?_;exact hL _ _ _ _ _ rfl rfl (.inr ⟨o3,41,.inr ⟨_,_,by simp,rfl,by rw[List.map_append];exact hcs2⟩⟩) (by rw[o3];rfl)
  case false=>
  refine Wk ?_;refine aC a7 (Wk ?_);refine lY (El.strs vars) (by simp;omega) (by decide) (λhe=>?_) (λhe cs hcs=>?_);have hv:vars=[]:=by simpa using he
  refine Wk ?_;refine lY hS (by simp) (by decide) (λh=>by cases h) (λ_ cs2 hcs2=>?_);cases hcs2;refine Wk ?_;refine cN ?_;exact hL _ _ _ _ _ rfl rfl (.inr ⟨o3,41,.inr ⟨_,_,by rw[hv];rfl,rfl,by rw[hv];rfl⟩⟩) (by rw[o3];rfl);refine Wk ?_;refine vX (es:=vars.map Str.av) (by simp) rfl hcs rfl (El.strs vars) hS (by simp) (by simp;omega) (by decide) (λcs2 hcs2=>?_);refine Wk ?_;refine cN ?_;exact hL _ _ _ _ _ rfl rfl (.inr ⟨o3,41,.inr ⟨_,_,by simp,rfl,by rw[List.map_append];exact hcs2⟩⟩) (by rw[o3];rfl)
 case false=>
 rw[if_neg (aN o3)];refine Wk ?_;cases o4:decide (p.op.bs=[99,111,100,101])
 case true=>have h:=aG o4;rw[if_pos h];refine Wk ?_;refine aC a8 (Wk ?_);exact hL _ _ _ _ _ rfl rfl (.inl ⟨o3,rfl⟩) (by rw[o3];rfl)
 case false=>rw[if_neg (aN o4)];refine Wk ?_;exact hL _ _ _ _ _ rfl rfl (.inl ⟨o3,rfl⟩) (by rw[o3];rfl)
end
end
section
section
variable{pg:Pg}
theorem c123(hf:pg.fs 123=some K0)(h40:pg.fs 40=some NQ)(h164:∀v:Int,∀p:aA,p.ok->∀(nl cl:Bool) (vars:List Str),vars.length+p.sz<=big->Ret pg 164 [p.av,.sl nl (vars.map Str.av) cl,.int .i64 v] (.bool (cD v p vars)))
  (p:aA) (hp:p.ok) (nl cl:Bool) (vars:List Str) (hb:vars.length+p.sz<=big) (v:Int):Ret pg 123 [p.av,.sl nl (vars.map Str.av) cl,.int .i64 v] (.bool (cU p vars v)):=by
 have a1:=c40 h40 p hp;have a2:=h164 v p hp nl cl vars hb;rw[aA.avc]at a1 a2;refine Ret.ofX hf ?_;clear h40 h164;unfold K0;refine Wk ?_;refine aC a1 ?_;cases c1:decide (kR p<=4000);simp only[c1,go_sem,seval];simp[cU,c1];simp only[c1,go_sem,seval];refine aC a2 (Wk ?_);simp[cU,c1]
end
end
end Go.Tev
