import Derived.Test.YtdegpppbhhjlhaaGreatDoorCAX
import Derived.Test.YtdegpppbhhjlhaaGreatDoorCAR
import Derived.Test.YtdegpppbhhjlhaaGreatDoorCAT
import Derived.Test.YtdegpppbhhjlhaaGreatDoorCAS
set_option linter.all false
namespace Go.Tev
section
def iEq(x y:Int):Bool:=decide (x=y)
section
variable{pg:Pg}
theorem aRu(hf:pg.fs 15=some NY)(nl cl nl' cl':Bool)(a b:List Int)(hb:a.length<=big):Ret pg 15 [.sl nl (a.map aH) cl,.sl nl' (b.map aH) cl'] (.bool (eqL iEq a b)):=by
 refine Ret.ofX hf ?_;unfold NY;cases b2:decide ((a.length:Int)=(b.length:Int))
 case false=>simp only[b2,go_sem,seval];rw[AQ b2]
 case true=>
 have hl:a.length=b.length:=by have:=aF b2;omega
 simp only[b2,go_sem,seval];refine aN a (λd r env hp=>env=HC (.sl nl (a.map aH) cl) (.sl nl' (b.map aH) cl') (.int .i64 d.length)/\eqL iEq a b=eqL iEq r (b.drop d.length)) ?_ ?_ ?_;exact⟨rfl,rfl⟩;rintro env hp ⟨rfl,hI⟩;simp only[HB,HC,bH,go_sem,seval];rw[hI,oF hl];rintro d x r env hp hes ⟨rfl,hI⟩;obtain⟨hget,e1,e2,ew⟩:=cY hes hb;obtain⟨y,gy,f1,f2,hq⟩:=I6 (q:=iEq) hes hl;rw[hq]at hI;rw[hI];clear hI;cases hxy:decide (x=y);simp only[HB,HC,e1,e2,hget,gy,f1,f2,hxy,go_sem,seval];exact⟨by kernel_rfl,by simp[iEq,hxy]⟩;simp only[HB,HC,e1,e2,hget,gy,f1,f2,hxy,ew,go_sem,seval];exact⟨by kernel_rfl,rfl,by simp[iEq,hxy]⟩
theorem c161(hf:pg.fs 161=some DZ)(h15:pg.fs 15=some NY)(nl cl nl' cl':Bool)(a b:List aE)(hb:a.length<=big):Ret pg 161 [.sl nl (a.map aE.av) cl,.sl nl' (b.map aE.av) cl'] (.bool (eqL mJ a b)):=by
 refine Ret.ofX hf ?_;unfold DZ;cases b2:decide ((a.length:Int)=(b.length:Int))
 case false=>simp only[b2,go_sem,seval];rw[AQ b2]
 case true=>
 have hl:a.length=b.length:=by have:=aF b2;omega
 simp only[b2,go_sem,seval];refine aN a (λd r env hp=>env=uP (.sl nl (a.map aE.av) cl) (.sl nl' (b.map aE.av) cl') (.int .i64 d.length)/\eqL mJ a b=eqL mJ r (b.drop d.length)) ?_ ?_ ?_;exact⟨rfl,rfl⟩;rintro env hp ⟨rfl,hI⟩;simp only[uO,uP,bH,go_sem,seval];rw[hI,oF hl]
 ·rintro d x r env hp hes ⟨rfl,hI⟩;obtain⟨hget,e1,e2,ew⟩:=cY hes hb;obtain⟨y,gy,f1,f2,hq⟩:=I6 (q:=mJ) hes hl;rw[hq]at hI;rw[hI];clear hI;have hse:mJ x y=(decide (x.op.bs=y.op.bs)&&decide (x.num=y.num)&&eqL iEq x.args.es y.args.es):=rfl;cases c1:decide (x.op.bs=y.op.bs)
  case false=>simp only[uO,uP,e1,e2,hget,gy,f1,f2,c1,go_sem,seval];exact⟨by kernel_rfl,by simp[hse,c1]⟩
  case true=>
  cases c2:decide (x.num=y.num)
  case false=>simp only[uO,uP,e1,e2,hget,gy,f1,f2,c1,c2,go_sem,seval];exact⟨by kernel_rfl,by simp[hse,c2]⟩
  case true=>
  have a1:=aRu h15 x.args.nl x.args.cl y.args.nl y.args.cl x.args.es y.args.es x.args.ok;simp only[uO,uP,e1,e2,hget,gy,f1,f2,c1,c2,go_sem,seval];refine aC a1 ?_;cases c3:eqL iEq x.args.es y.args.es;refine Wk ?_;exact⟨by kernel_rfl,by simp[hse,c3]⟩;simp only[ew,go_sem,seval];exact⟨by kernel_rfl,rfl,by simp[hse,c1,c2,c3]⟩
def gI:Str:=⟨[],by simp[big]⟩
set_option maxHeartbeats 1000000 in
theorem c118(hf:pg.fs 118=some K2)(h161:pg.fs 161=some DZ)(h15:pg.fs 15=some NY)(h121:∀a b:bV,Ret pg 121 [a.av,b.av] (.bool (lZ a b))) :
  ∀p:aA,p.ok->∀q:aA,Ret pg 118 [p.av,q.av] (.bool (jD p q)):=by
 refine aA.ind' λp ih hp q=>?_;obtain⟨hk,hks⟩:=(aA.ok_iff p).1 hp;have a1:=c161 h161 h15 p.fn.nl p.fn.cl q.fn.nl q.fn.cl p.fn.es q.fn.es p.fn.ok;have a2:=h121 ⟨gI,p.at_⟩ ⟨gI,q.at_⟩;have hs2:lZ ⟨gI,p.at_⟩ ⟨gI,q.at_⟩=eqL fZ p.at_.es q.at_.es:=by simp[lZ,gI]
 rw[hs2,bV.avc,bV.avc]at a2;clear h121 h161 h15 hs2;refine Ret.ofX hf ?_;rw[vD,oS];unfold K2;cases b1:decide (p.op.bs=q.op.bs)
 case false=>simp only[b1,go_sem,seval]
 case true=>
 cases b2:decide (p.num=q.num)
 case false=>simp only[b1,b2,go_sem,seval]
 case true=>
 cases b3:decide (p.value=q.value)
 case false=>simp only[b1,b2,b3,go_sem,seval]
 case true=>
 cases b4:decide (p.name.bs=q.name.bs)
 case false=>simp only[b1,b2,b3,b4,go_sem,seval]
 case true=>
 cases b5:(p.dyn==q.dyn)
 case false=>simp only[b1,b2,b3,b4,b5,go_sem,seval]
 case true=>
 cases b6:decide (p.check=q.check)
 case false=>simp only[b1,b2,b3,b4,b5,b6,go_sem,seval]
 case true=>
 cases b7:decide ((p.kids.length:Int)=(q.kids.length:Int))
 case false=>rw[AQ b7];simp only[b1,b2,b3,b4,b5,b6,b7,go_sem,seval]
 case true=>
 simp only[b1,b2,b3,b4,b5,b6,b7,go_sem,seval];refine aC a1 ?_;cases b8:eqL mJ p.fn.es q.fn.es
 case false=>simp only[go_sem,seval]
 case true=>
 refine Wk ?_;refine aC a2 ?_;cases b9:eqL fZ p.at_.es q.at_.es
 case false=>simp only[go_sem,seval]
 case true=>
 have hl:p.kids.length=q.kids.length:=by have:=aF b7;omega
 refine Wk ?_
 refine aN p.kids (λd r env hp=>hp.get 1=some (0,.blk [.str p.op.bs,.int .i64 p.num,.int .i64 p.value,.str p.name.bs,.sl p.at_.nl (p.at_.es.map Lin.av) p.at_.cl,.bool p.dyn,.int .i64 p.check,.sl p.fn.nl (p.fn.es.map aE.av) p.fn.cl,.sl p.knl (p.kids.map aA.av) p.kcl] 9 true true false) /\
   hp.get 5=some (0,.blk [.str q.op.bs,.int .i64 q.num,.int .i64 q.value,.str q.name.bs,.sl q.at_.nl (q.at_.es.map Lin.av) q.at_.cl,.bool q.dyn,.int .i64 q.check,.sl q.fn.nl (q.fn.es.map aE.av) q.fn.cl,.sl q.knl (q.kids.map aA.av) q.kcl] 9 true true false) /\
   env=HK (.pt 1 0 0) (.pt 5 0 0) (.int .i64 d.length)/\eqL jD p.kids q.kids=eqL jD r (q.kids.drop d.length)) ?_ ?_ ?_
 exact⟨rfl,rfl,rfl,rfl⟩;rintro env hp ⟨g1,g5,rfl,hI⟩;simp only[HJ,HK,g1,bH,go_sem,seval];rw[hI,oF hl];rintro d x r env hp hes ⟨g1,g5,rfl,hI⟩;obtain⟨hget,e1,e2,ew⟩:=cY hes hk;obtain⟨y,gy,f1,f2,hq⟩:=I6 (q:=jD) hes hl;rw[hq]at hI;rw[hI];clear hI a1 a2;have hx:x∈p.kids:=by rw[hes];simp
 have a3:=ih x hx (hks x hx) y;clear ih hks;simp only[HJ,HK,g1,g5,hget,e1,e2,gy,f1,f2,go_sem,seval];refine aC a3 ?_;cases hxy:jD x y;refine Wk ?_;kernel_rfl;simp only[ew,go_sem,seval];exact⟨by kernel_rfl,g1,g5,rfl⟩
end
end
section
theorem bP{op:List UInt8}{p:pO}{r:AV}(h:cX op=some p)(hr:∃nl cl,r = .tup [.sl nl (p.params.map .str) cl,.str p.result,.bool true]):iP op r:=by simp only[iP,h];exact hr
theorem L6{op:List UInt8}{r:AV}(h:cX op=none)(hr:r = .tup [.sl true [] true,.str [],.bool false]):iP op r:=by simp only[iP,h];exact hr
section
variable{pg:Pg}
theorem c125(hf:pg.fs 125=some KY)(op:List UInt8):cA pg 125 [.str op] (iP op):=by
 refine cA.ofX hf ?_;unfold KY;cases b0:decide (op=[97,100,100])
 case true=>have hop:op=[97,100,100]:=aF b0;simp only[b0,go_sem,seval];subst hop;exact bP rfl ⟨_,_,rfl⟩
 case false=>
 cases b1:decide (op=[115,117,98])
 case true=>have hop:op=[115,117,98]:=aF b1;simp only[b0,b1,go_sem,seval];subst hop;exact bP rfl ⟨_,_,rfl⟩
 case false=>
 cases b2:decide (op=[109,117,108])
 case true=>have hop:op=[109,117,108]:=aF b2;simp only[b0,b1,b2,go_sem,seval];subst hop;exact bP rfl ⟨_,_,rfl⟩
 case false=>
 cases b3:decide (op=[100,105,118])
 case true=>have hop:op=[100,105,118]:=aF b3;simp only[b0,b1,b2,b3,go_sem,seval];subst hop;exact bP rfl ⟨_,_,rfl⟩
 case false=>
 cases b4:decide (op=[109,111,100])
 case true=>have hop:op=[109,111,100]:=aF b4;simp only[b0,b1,b2,b3,b4,go_sem,seval];subst hop;exact bP rfl ⟨_,_,rfl⟩
 case false=>
 cases b5:decide (op=[109,105,110])
 case true=>have hop:op=[109,105,110]:=aF b5;simp only[b0,b1,b2,b3,b4,b5,go_sem,seval];subst hop;exact bP rfl ⟨_,_,rfl⟩
 case false=>
 cases b6:decide (op=[109,97,120])
 case true=>have hop:op=[109,97,120]:=aF b6;simp only[b0,b1,b2,b3,b4,b5,b6,go_sem,seval];subst hop;exact bP rfl ⟨_,_,rfl⟩
 case false=>
 cases b7:decide (op=[110,101,103])
 case true=>have hop:op=[110,101,103]:=aF b7;simp only[b0,b1,b2,b3,b4,b5,b6,b7,go_sem,seval];subst hop;exact bP rfl ⟨_,_,rfl⟩
 case false=>
 cases b8:decide (op=[97,98,115])
 case true=>have hop:op=[97,98,115]:=aF b8;simp only[b0,b1,b2,b3,b4,b5,b6,b7,b8,go_sem,seval];subst hop;exact bP rfl ⟨_,_,rfl⟩
 case false=>
 cases b9:decide (op=[115,105,103,110])
 case true=>have hop:op=[115,105,103,110]:=aF b9;simp only[b0,b1,b2,b3,b4,b5,b6,b7,b8,b9,go_sem,seval];subst hop;exact bP rfl ⟨_,_,rfl⟩
 case false=>
 cases b10:decide (op=[108,116])
 case true=>have hop:op=[108,116]:=aF b10;simp only[b0,b1,b2,b3,b4,b5,b6,b7,b8,b9,b10,go_sem,seval];subst hop;exact bP rfl ⟨_,_,rfl⟩
 case false=>
 cases b11:decide (op=[108,101])
 case true=>have hop:op=[108,101]:=aF b11;simp only[b0,b1,b2,b3,b4,b5,b6,b7,b8,b9,b10,b11,go_sem,seval];subst hop;exact bP rfl ⟨_,_,rfl⟩
 case false=>
 cases b12:decide (op=[103,116])
 case true=>have hop:op=[103,116]:=aF b12;simp only[b0,b1,b2,b3,b4,b5,b6,b7,b8,b9,b10,b11,b12,go_sem,seval];subst hop;exact bP rfl ⟨_,_,rfl⟩
 case false=>
 cases b13:decide (op=[103,101])
 case true=>have hop:op=[103,101]:=aF b13;simp only[b0,b1,b2,b3,b4,b5,b6,b7,b8,b9,b10,b11,b12,b13,go_sem,seval];subst hop;exact bP rfl ⟨_,_,rfl⟩
 case false=>
 cases b14:decide (op=[101,113])
 case true=>have hop:op=[101,113]:=aF b14;simp only[b0,b1,b2,b3,b4,b5,b6,b7,b8,b9,b10,b11,b12,b13,b14,go_sem,seval];subst hop;exact bP rfl ⟨_,_,rfl⟩
 case false=>
 cases b15:decide (op=[110,101])
 case true=>have hop:op=[110,101]:=aF b15;simp only[b0,b1,b2,b3,b4,b5,b6,b7,b8,b9,b10,b11,b12,b13,b14,b15,go_sem,seval];subst hop;exact bP rfl ⟨_,_,rfl⟩
 case false=>
 cases b16:decide (op=[97,110,100])
 case true=>have hop:op=[97,110,100]:=aF b16;simp only[b0,b1,b2,b3,b4,b5,b6,b7,b8,b9,b10,b11,b12,b13,b14,b15,b16,go_sem,seval];subst hop;exact bP rfl ⟨_,_,rfl⟩
 case false=>
 cases b17:decide (op=[111,114])
 case true=>have hop:op=[111,114]:=aF b17;simp only[b0,b1,b2,b3,b4,b5,b6,b7,b8,b9,b10,b11,b12,b13,b14,b15,b16,b17,go_sem,seval];subst hop;exact bP rfl ⟨_,_,rfl⟩
 case false=>
 cases b18:decide (op=[120,111,114])
 case true=>have hop:op=[120,111,114]:=aF b18;simp only[b0,b1,b2,b3,b4,b5,b6,b7,b8,b9,b10,b11,b12,b13,b14,b15,b16,b17,b18,go_sem,seval];subst hop;exact bP rfl ⟨_,_,rfl⟩
 case false=>
 cases b19:decide (op=[110,111,116])
 case true=>have hop:op=[110,111,116]:=aF b19;simp only[b0,b1,b2,b3,b4,b5,b6,b7,b8,b9,b10,b11,b12,b13,b14,b15,b16,b17,b18,b19,go_sem,seval];subst hop;exact bP rfl ⟨_,_,rfl⟩
 case false=>
 cases b20:decide (op=[115,101,108,101,99,116])
 case true=>have hop:op=[115,101,108,101,99,116]:=aF b20;simp only[b0,b1,b2,b3,b4,b5,b6,b7,b8,b9,b10,b11,b12,b13,b14,b15,b16,b17,b18,b19,b20,go_sem,seval];subst hop;exact bP rfl ⟨_,_,rfl⟩
 case false=>
 cases b21:decide (op=[116,111,105,110,116])
 case true=>have hop:op=[116,111,105,110,116]:=aF b21;simp only[b0,b1,b2,b3,b4,b5,b6,b7,b8,b9,b10,b11,b12,b13,b14,b15,b16,b17,b18,b19,b20,b21,go_sem,seval];subst hop;exact bP rfl ⟨_,_,rfl⟩
 case false=>
 simp only[b0,b1,b2,b3,b4,b5,b6,b7,b8,b9,b10,b11,b12,b13,b14,b15,b16,b17,b18,b19,b20,b21,go_sem,seval];refine L6 ?_ rfl;have n0:decide ([97,100,100]=op)=false:=by rw[<-b0,eC];exact eq_comm
 have n1:decide ([115,117,98]=op)=false:=by rw[<-b1,eC];exact eq_comm
 have n2:decide ([109,117,108]=op)=false:=by rw[<-b2,eC];exact eq_comm
 have n3:decide ([100,105,118]=op)=false:=by rw[<-b3,eC];exact eq_comm
 have n4:decide ([109,111,100]=op)=false:=by rw[<-b4,eC];exact eq_comm
 have n5:decide ([109,105,110]=op)=false:=by rw[<-b5,eC];exact eq_comm
 have n6:decide ([109,97,120]=op)=false:=by rw[<-b6,eC];exact eq_comm
 have n7:decide ([110,101,103]=op)=false:=by rw[<-b7,eC];exact eq_comm
 have n8:decide ([97,98,115]=op)=false:=by rw[<-b8,eC];exact eq_comm
 have n9:decide ([115,105,103,110]=op)=false:=by rw[<-b9,eC];exact eq_comm
 have n10:decide ([108,116]=op)=false:=by rw[<-b10,eC];exact eq_comm
 have n11:decide ([108,101]=op)=false:=by rw[<-b11,eC];exact eq_comm
 have n12:decide ([103,116]=op)=false:=by rw[<-b12,eC];exact eq_comm
 have n13:decide ([103,101]=op)=false:=by rw[<-b13,eC];exact eq_comm
 have n14:decide ([101,113]=op)=false:=by rw[<-b14,eC];exact eq_comm
 have n15:decide ([110,101]=op)=false:=by rw[<-b15,eC];exact eq_comm
 have n16:decide ([97,110,100]=op)=false:=by rw[<-b16,eC];exact eq_comm
 have n17:decide ([111,114]=op)=false:=by rw[<-b17,eC];exact eq_comm
 have n18:decide ([120,111,114]=op)=false:=by rw[<-b18,eC];exact eq_comm
 have n19:decide ([110,111,116]=op)=false:=by rw[<-b19,eC];exact eq_comm
 have n20:decide ([115,101,108,101,99,116]=op)=false:=by rw[<-b20,eC];exact eq_comm
 have n21:decide ([116,111,105,110,116]=op)=false:=by rw[<-b21,eC];exact eq_comm
 simp only[cX,fL,List.find?_cons,List.find?_nil,n0,n1,n2,n3,n4,n5,n6,n7,n8,n9,n10,n11,n12,n13,n14,n15,n16,n17,n18,n19,n20,n21]
theorem IA(n:Int)(s:aE)(r:List aE):bZ n (s::r)=(eV s n&&bZ (n+1) r):=rfl
set_option maxHeartbeats 1000000 in
theorem LD(h124:pg.fs 124=some mY)(h125:∀op,cA pg 125 [.str op] (iP op))(nl cl:Bool)(fn:List aE)(hb:fn.length<=big)(n:Int)(g1:0<=n)(g2:n<=20)(g3:(fn.length:Int)<=60)
  (d:List aE) (x:aE) (r:List aE) (hp:Hp) (hes:fn=d++x::r) (hI:bZ n fn=bZ (n+d.length) (x::r)) :
  XX pg 0 nY ⟨lR (.sl nl (fn.map aE.av) cl) (.int .i64 n) (.int .i64 d.length),hp⟩
   (lG (λst'=>clear VG st'.env=lR (.sl nl (fn.map aE.av) cl) (.int .i64 n) (.int .i64 (d++[x]).length)/\bZ n fn=bZ (n+(d++[x]).length) r)
    (nZ 0 (lG (λst'=>XX pg 0 (.seq (.reg [⟨some 4,.mov,[.c (.bool true)],none,0,0⟩] false) .ret) st' (JP [.inl 4] (.bool (bZ n fn))) ⟨⟩) (JP [.inl 4] (.bool (bZ n fn)))))) ⟨⟩:=by
 obtain⟨hget,e1,e2,ew⟩:=cY hes hb;rw[IA]at hI;have en:n+((d++[x]).length:Int)=n+d.length+1:=by simp;omega
 have hdl:d.length<fn.length:=by rw[hes];simp
 have hw:wr .i64 (n+(d.length:Int))=n+d.length:=gS (by omega) (by omega);rw[en];rw[hI];clear hI;cases o1:decide (x.op.bs=[99,111,110,115,116])
 case true=>
  have hs:eV x (n+d.length)=(decide ((x.args.es.length:Int)=0)&&eP x.num):=by simp[eV,aF o1]
  rw[hs];cases o2:decide ((x.args.es.length:Int)=0)
  case false=>simp only[nY,lR,e1,e2,hget,o1,o2,go_sem,seval]
  case true=>simp only[nY,lR,e1,e2,hget,o1,o2,go_sem,seval];refine aC (LE h124 x.num) ?_;cases o3:eP x.num;simp only[go_sem,seval];simp only[ew,go_sem,seval];rfl
 case false=>
 cases o2:decide (x.op.bs=[116,114,117,116,104])
 case true=>
  have hs:eV x (n+d.length)=(decide ((x.args.es.length:Int)=0)&&kO x.num):=by have h1:=aF o2;simp[eV,h1]
  rw[hs];cases o3:decide ((x.args.es.length:Int)=0)
  case false=>simp only[nY,lR,e1,e2,hget,o1,o2,o3,go_sem,seval]
  case true=>simp only[nY,lR,e1,e2,hget,o1,o2,o3,go_sem,seval];refine aC (WB h124 x.num) ?_;cases o4:kO x.num;simp only[go_sem,seval];simp only[ew,go_sem,seval];rfl
 case false=>
 obtain⟨rr,hr,hP⟩:=h125 x.op.bs
 have hs:eV x (n+d.length)=(match cX x.op.bs with
  |none=>false
  |some p=>gQ x.args.es (n+d.length)&&decide (x.num=0)&&decide ((x.args.es.length:Int)=(p.params.length:Int))):=by
  have h1:=aP o1;have h2:=aP o2;simp only[eV,h1,h2,if_false];rfl
 rw[hs];clear hs;simp only[iP]at hP;cases hpt:cX x.op.bs with
 |none=>rw[hpt]at hP;dsimp only at hP;subst hP;simp only[nY,lR,e1,e2,hget,o1,o2,go_sem,seval];refine aC hr ?_;simp only[go_sem,seval]
 |some p=>
  rw[hpt]at hP;dsimp only at hP;obtain⟨nl2,cl2,rfl⟩:=hP;dsimp only;simp only[nY,lR,e1,e2,hget,o1,o2,go_sem,seval];refine aC hr ?_;cases o3:decide ((x.args.es.length:Int)=(p.params.length:Int))
  case false=>simp only[o3,go_sem,seval]
  case true=>
  cases o4:decide (x.num=0)
  case false=>simp only[o3,o4,go_sem,seval]
  case true=>
  simp only[o3,o4,go_sem,seval];have hab:=x.args.ok
  refine aN x.args.es (λd2 r2 env hp2=>env=A8 (.sl nl (fn.map aE.av) cl) (.int .i64 n) (.int .i64 d.length) (.pt 1 (hp.next 1) 0) (.int .i64 d2.length) /\
   hp2.get 1=some (hp.next 1,.blk [.str x.op.bs,.int .i64 x.num,.sl x.args.nl (x.args.es.map aH) x.args.cl] 3 true true false)/\gQ x.args.es (n+d.length)=gQ r2 (n+d.length)) ?_ ?_ ?_
  refine⟨rfl,?_,rfl⟩;simp only[go_sem,seval];rintro env hp2 ⟨rfl,h1,hI⟩;simp only[A7,A8,h1,bH,ew,go_sem,seval];refine⟨rfl,?_⟩;rw[hI];simp[gQ]
  ·rintro d2 a r2 env hp2 he2 ⟨rfl,h1,hI⟩;obtain⟨hget2,f1,f2,fw⟩:=cY he2 hab;have hI2:gQ x.args.es (n+d.length)=((decide (0<=a)&&decide (a<n+d.length))&&gQ r2 (n+d.length)):=by rw[hI];simp[gQ]
   rw[hI2];clear hI hI2;cases q1:decide (a<0)
   case true=>
    have:decide (0<=a)=false:=by simp at q1 ⊢;omega
    simp only[A7,A8,h1,f1,f2,hget2,q1,this,go_sem,seval]
   case false=>
   cases q2:decide (n+(d.length:Int)<=a)
   case true=>
    have:decide (a<n+d.length)=false:=by simp at q2 ⊢;omega
    simp only[A7,A8,h1,f1,f2,hget2,q1,hw,q2,this,go_sem,seval]
   case false=>
    have h3:decide (0<=a)=true:=by simp at q1 ⊢;omega
    have h4:decide (a<n+d.length)=true:=by simp at q2 ⊢;omega
    simp only[A7,A8,h1,f1,f2,hget2,q1,hw,q2,h3,h4,fw,go_sem,seval];rfl
set_option maxHeartbeats 1000000 in
theorem c87(hf:pg.fs 87=some VH)(h124:pg.fs 124=some mY)(h125:∀op,cA pg 125 [.str op] (iP op))(nl cl:Bool)(fn:List aE)(hb:fn.length<=big)(n:Int) :
  Ret pg 87 [.sl nl (fn.map aE.av) cl,.int .i64 n] (.bool (cC fn n)):=by
 refine Ret.ofX hf ?_;unfold VH;cases h1:decide (n<0)
 case true=>
  simp only[h1,go_sem,seval];have:decide (0<=n)=false:=by simp at h1 ⊢;omega
  simp[cC,this]
 case false=>
 cases h2:decide (20<n)
 case true=>
  simp only[h1,h2,go_sem,seval];have:decide (n<=20)=false:=by simp at h2 ⊢;omega
  simp[cC,this]
 case false=>
 cases h3:decide (60<(fn.length:Int))
 case true=>
  simp only[h1,h2,h3,go_sem,seval];have:decide ((fn.length:Int)<=60)=false:=by simp at h3 ⊢;omega
  simp[cC,this]
 case false=>
 have g1:=aP h1;have g2:=aP h2;have g3:=aP h3;have hspec:decide (n+(fn.length:Int)=0)=false->cC fn n=bZ n fn:=by
  intro h4;have e1:decide (0<=n)=true:=by simp;omega
  have e2:decide (n<=20)=true:=by simp;omega
  have e3:decide ((fn.length:Int)<=60)=true:=by simp;omega
  simp[cC,h4,e1,e2,e3]
 cases h4:decide (n=0)
 case true=>
  cases h5:decide ((fn.length:Int)=0)
  case true=>
   simp only[h1,h2,h3,h4,h5,go_sem,seval];have:decide (n+(fn.length:Int)=0)=true:=by simp at h4 h5 ⊢;simp[h4,h5]
   simp[cC,this]
  case false=>have hs:=hspec (by simp at h4 h5 ⊢;subst h4;simpa using h5);rw[hs];clear hs hspec;simp only[h1,h2,h3,h4,h5,go_sem,seval];refine aN fn (λd r env hp=>env=lR (.sl nl (fn.map aE.av) cl) (.int .i64 n) (.int .i64 d.length)/\bZ n fn=bZ (n+d.length) r) ?_ ?_ ?_;exact⟨rfl,by simp⟩;rintro env hp ⟨rfl,hI⟩;simp only[nY,lR,bH,go_sem,seval];rw[hI];rfl;rintro d x r env hp hes ⟨rfl,hI⟩;exact LD h124 h125 nl cl fn hb n (by omega) (by omega) (by omega) d x r hp hes hI
 case false=>have hs:=hspec (by simp at h4 ⊢;omega);rw[hs];clear hs hspec;simp only[h1,h2,h3,h4,go_sem,seval];refine aN fn (λd r env hp=>env=lR (.sl nl (fn.map aE.av) cl) (.int .i64 n) (.int .i64 d.length)/\bZ n fn=bZ (n+d.length) r) ?_ ?_ ?_;exact⟨rfl,by simp⟩;rintro env hp ⟨rfl,hI⟩;simp only[nY,lR,bH,go_sem,seval];rw[hI];rfl;rintro d x r env hp hes ⟨rfl,hI⟩;exact LD h124 h125 nl cl fn hb n (by omega) (by omega) (by omega) d x r hp hes hI
end
end
section
def kK(p:aA)(num value:Int)(name:Str)(at_:Sl Lin)(dyn:Bool)(check:Int)(fn:Sl aE):aA:=.mk p.op num value name at_ dyn check fn p.knl p.kids p.kcl
theorem kI(p:aA)(num value:Int)(name:Str)(at_:Sl Lin)(dyn:Bool)(check:Int)(fn:Sl aE):(kK p num value name at_ dyn check fn).op=p.op:=rfl
theorem iR(p:aA)(num value:Int)(name:Str)(at_:Sl Lin)(dyn:Bool)(check:Int)(fn:Sl aE):(kK p num value name at_ dyn check fn).num=num:=rfl
theorem fN(p:aA)(num value:Int)(name:Str)(at_:Sl Lin)(dyn:Bool)(check:Int)(fn:Sl aE):(kK p num value name at_ dyn check fn).value=value:=rfl
theorem gO(p:aA)(num value:Int)(name:Str)(at_:Sl Lin)(dyn:Bool)(check:Int)(fn:Sl aE):(kK p num value name at_ dyn check fn).name=name:=rfl
theorem iU(p:aA)(num value:Int)(name:Str)(at_:Sl Lin)(dyn:Bool)(check:Int)(fn:Sl aE):(kK p num value name at_ dyn check fn).at_=at_:=rfl
theorem iT(p:aA)(num value:Int)(name:Str)(at_:Sl Lin)(dyn:Bool)(check:Int)(fn:Sl aE):(kK p num value name at_ dyn check fn).dyn=dyn:=rfl
theorem fO(p:aA)(num value:Int)(name:Str)(at_:Sl Lin)(dyn:Bool)(check:Int)(fn:Sl aE):(kK p num value name at_ dyn check fn).check=check:=rfl
theorem kJ(p:aA)(num value:Int)(name:Str)(at_:Sl Lin)(dyn:Bool)(check:Int)(fn:Sl aE):(kK p num value name at_ dyn check fn).fn=fn:=rfl
theorem gP(p:aA)(num value:Int)(name:Str)(at_:Sl Lin)(dyn:Bool)(check:Int)(fn:Sl aE):(kK p num value name at_ dyn check fn).kids=p.kids:=rfl
theorem j8(p:aA)(num value:Int)(name:Str)(at_:Sl Lin)(dyn:Bool)(check:Int)(fn:Sl aE):(kK p num value name at_ dyn check fn).knl=p.knl:=rfl
theorem j9(p:aA)(num value:Int)(name:Str)(at_:Sl Lin)(dyn:Bool)(check:Int)(fn:Sl aE):(kK p num value name at_ dyn check fn).kcl=p.kcl:=rfl
theorem mO(p:aA)(num value:Int)(name:Str)(at_:Sl Lin)(dyn:Bool)(check:Int)(fn:Sl aE) :
  jD p (kK p num value name at_ dyn check fn)=(decide (p.num=num)&&decide (p.value=value)&&decide (p.name.bs=name.bs)&&(p.dyn==dyn)&&decide (p.check=check)&&eqL fZ p.at_.es at_.es&&eqL mJ p.fn.es fn.es):=by
 rw[vD,oS];simp only[kI,iR,fN,gO,iU,iT,fO,kJ,gP];rw[gW IT];simp;rfl
theorem bq1:(true==false)=false:=rfl
theorem bq2:(false==false)=true:=rfl
theorem bq3:(true==true)=true:=rfl
def fE(p:aA):aA:=
 if p.op.bs=[99,111,110,115,116] then kK p p.num 0 gI (iJ Lin) false 0 (iJ aE)
 else if p.op.bs=[108,105,110,101,97,114] then kK p 0 0 gI p.at_ false 0 (iJ aE)
 else if p.op.bs=[114,101,97,100] then kK p 0 p.value gI p.at_ p.dyn (if p.dyn then p.check else 0) (iJ aE)
 else if p.op.bs=[105,102] then kK p 0 0 gI p.at_ false 0 (iJ aE)
 else if p.op.bs=[114,101,100,117,99,101] then kK p 0 0 p.name p.at_ false 0 p.fn
 else if p.op.bs=[99,111,100,101] then kK p 0 0 gI (iJ Lin) false 0 p.fn
 else kK p 0 0 gI (iJ Lin) false 0 (iJ aE)
def fS(p:aA):Bool:=
 if p.op.bs=[99,111,110,115,116] then decide ((p.kids.length:Int)=0)&&decide ((p.at_.es.length:Int)=0)
 else if p.op.bs=[108,105,110,101,97,114] then decide ((p.kids.length:Int)=0)&&decide ((p.at_.es.length:Int)=1)
 else if p.op.bs=[114,101,97,100] then
  (if p.dyn then decide ((p.kids.length:Int)=1)&&decide ((p.at_.es.length:Int)<=5) else decide ((p.kids.length:Int)=0)&&decide ((p.at_.es.length:Int)<=6))
 else if p.op.bs=[105,102] then decide ((p.kids.length:Int)=2)&&decide ((p.at_.es.length:Int)=1)
 else if p.op.bs=[114,101,100,117,99,101] then decide ((p.kids.length:Int)=2)&&decide ((p.at_.es.length:Int)=1)
 else if p.op.bs=[99,111,100,101] then decide ((p.kids.length:Int)<=20)&&decide ((p.at_.es.length:Int)=0)
 else match cX p.op.bs with
  |none=>false
  |some q=>decide ((p.kids.length:Int)=(q.params.length:Int))&&decide ((p.at_.es.length:Int)=0)
def nS(p:aA)(vars:List Str)(v:Int):Bool:=
 if p.op.bs=[99,111,110,115,116] then eP p.num
 else if p.op.bs=[114,101,97,100] then decide (0<=p.value)&&decide (p.value<v)&&decide (0<=p.check)
 else if p.op.bs=[114,101,100,117,99,101] then iA p.name.bs && !fD vars p.name.bs&&cC p.fn.es 2
 else if p.op.bs=[99,111,100,101] then cC p.fn.es p.kids.length
 else true
theorem L5(p:aA)(vars:List Str)(v:Int):(fS p&&jD p (fE p)&&nS p vars v)=cF p vars v:=by
 by_cases o1:p.op.bs=[99,111,110,115,116]
 simp only[fS,fE,nS,cF,o1,if_true,mO,iJ,gI,rB,dC];cases p.dyn<;>simp only[bq1,bq2,bq3,Bool.not_true,Bool.not_false,Bool.false_or,Bool.true_or,Bool.false_and,Bool.and_false,Bool.true_and,Bool.and_true,decide_true]
 (refine Bool.eq_iff_iff.2 ?_;simp only[aD];constructor<;>(intro h;simp only[h,and_self]))
 by_cases o2:p.op.bs=[108,105,110,101,97,114]
 have n1:¬p.op.bs=[114,101,97,100]:=by rw[o2];decide
 have n2:¬p.op.bs=[114,101,100,117,99,101]:=by rw[o2];decide
 have n3:¬p.op.bs=[99,111,100,101]:=by rw[o2];decide
 simp only[fS,fE,nS,cF,o1,n1,n2,n3,if_false];simp only[o2,if_true,mO,iJ,gI,rB,dC,gW mS];cases p.dyn<;>simp only[bq1,bq2,bq3,Bool.not_true,Bool.not_false,Bool.false_or,Bool.true_or,Bool.false_and,Bool.and_false,Bool.true_and,Bool.and_true]
 (refine Bool.eq_iff_iff.2 ?_;simp only[aD];constructor<;>(intro h;simp only[h,and_self]))
 by_cases o3:p.op.bs=[114,101,97,100]
 simp only[fS,fE,nS,cF,o1,o2,if_false];simp only[o3,if_true,mO,iJ,gI,rB,dC,gW mS,lN];cases p.dyn<;>simp only[bq1,bq2,bq3,Bool.not_true,Bool.not_false,Bool.false_or,Bool.true_or,Bool.false_and,Bool.and_false,Bool.true_and,Bool.and_true,Bool.false_eq_true,if_true,if_false,decide_true];cases h:decide (p.check=0);simp;have:decide (0<=p.check)=true:=by simp at h ⊢;omega
 simp only[this,Bool.and_true,Bool.true_and]
 (refine Bool.eq_iff_iff.2 ?_;simp only[aD];constructor<;>(intro h;simp only[h,and_self]))
 (refine Bool.eq_iff_iff.2 ?_;simp only[aD];constructor<;>(intro h;simp only[h,and_self]))
 by_cases o4:p.op.bs=[105,102]
 have n2:¬p.op.bs=[114,101,100,117,99,101]:=by rw[o4];decide
 have n3:¬p.op.bs=[99,111,100,101]:=by rw[o4];decide
 simp only[fS,fE,nS,cF,o1,o2,o3,n2,n3,if_false];simp only[o4,if_true,mO,iJ,gI,rB,dC,gW mS];cases p.dyn<;>simp only[bq1,bq2,bq3,Bool.not_true,Bool.not_false,Bool.false_or,Bool.true_or,Bool.false_and,Bool.and_false,Bool.true_and,Bool.and_true]
 (refine Bool.eq_iff_iff.2 ?_;simp only[aD];constructor<;>(intro h;simp only[h,and_self]))
 by_cases o5:p.op.bs=[114,101,100,117,99,101]
 simp only[fS,fE,nS,cF,o1,o2,o3,o4,if_false];simp only[o5,if_true,mO,iJ,gI,dC,gW mS,gW pS];cases p.dyn<;>simp only[bq1,bq2,bq3,Bool.not_true,Bool.not_false,Bool.false_or,Bool.true_or,Bool.false_and,Bool.and_false,Bool.true_and,Bool.and_true,decide_true]
 (refine Bool.eq_iff_iff.2 ?_;simp only[aD];constructor<;>(intro h;simp only[h,and_self]))
 by_cases o6:p.op.bs=[99,111,100,101]
 simp only[fS,fE,nS,cF,o1,o2,o3,o4,o5,if_false];simp only[o6,if_true,mO,iJ,gI,dC,rB,gW pS];have hc:(decide ((p.kids.length:Int)<=20)&&cC p.fn.es p.kids.length)=cC p.fn.es p.kids.length:=by simp only[cC];cases decide ((p.kids.length:Int)<=20)<;>simp
 rw[<-hc];cases p.dyn<;>simp only[bq1,bq2,bq3,Bool.not_true,Bool.not_false,Bool.false_or,Bool.true_or,Bool.false_and,Bool.and_false,Bool.true_and,Bool.and_true,decide_true];cases decide ((p.kids.length:Int)<=20)<;>simp only[Bool.false_and,Bool.true_and,Bool.and_false]
 (refine Bool.eq_iff_iff.2 ?_;simp only[aD];constructor<;>(intro h;simp only[h,and_self]))
 simp only[fS,fE,nS,cF,o1,o2,o3,o4,o5,o6,if_false];cases hpt:cX p.op.bs with
 |none=>simp
 |some q=>
  simp only[mO,iJ,gI,dC,rB];cases p.dyn<;>simp only[bq1,bq2,bq3,Bool.not_true,Bool.not_false,Bool.false_or,Bool.true_or,Bool.false_and,Bool.and_false,Bool.true_and,Bool.and_true,decide_true]
  (refine Bool.eq_iff_iff.2 ?_;simp only[aD];constructor<;>(intro h;simp only[h,and_self]))
theorem mnA(a b:Int):(lV min2 (.int .i64 a) [.int .i64 b]).bind val=val (.int .i64 (if b<a then b else a)):=by simp[lV,min2]
theorem oV(n m:Int):decide (n=if m<n then m else n)=decide (n<=m):=by rw[eC];split<;>omega
section
variable{pg:Pg}
set_option maxHeartbeats 1000000 in
theorem c192(hf:pg.fs 192=some KS)(h125:∀op,cA pg 125 [.str op] (iP op))(p:aA):Ret pg 192 [p.av] (.tup [(fE p).av,.bool (fS p)]):=by
 refine Ret.ofX hf ?_;unfold KS;cases o0:decide (p.op.bs=[99,111,110,115,116])
 case true=>
  have h0:=aF o0;have hP:(fE p).av = .agg [.str p.op.bs,.int .i64 p.num,.int .i64 0,.str [],.sl true [] true,.bool false,.int .i64 0,.sl true [] true,.sl p.knl (p.kids.map aA.av) p.kcl]:=by rw[aA.avc];simp only[fE];simp only[h0,if_true,if_false,kI,iR,fN,gO,iU,iT,fO,kJ,gP,j8,j9,gI,iJ,List.map_nil]
  have hB:fS p=(decide ((p.kids.length:Int)=0)&&decide ((p.at_.es.length:Int)=0)):=by simp only[fS];simp only[h0,if_true,if_false]
  rw[hP,hB];clear hP hB h125;cases k1:decide ((p.kids.length:Int)=0);simp only[o0,k1,go_sem,seval];show _=true;kernel_rfl;cases k2:decide ((p.at_.es.length:Int)=0);simp only[o0,k1,k2,go_sem,seval];show _=true;kernel_rfl;simp only[o0,k1,k2,go_sem,seval];show _=true;kernel_rfl
 case false=>
 have h0:=aP o0;cases o1:decide (p.op.bs=[108,105,110,101,97,114])
 case true=>
  have h1:=aF o1;have hP:(fE p).av = .agg [.str p.op.bs,.int .i64 0,.int .i64 0,.str [],.sl p.at_.nl (p.at_.es.map Lin.av) p.at_.cl,.bool false,.int .i64 0,.sl true [] true,.sl p.knl (p.kids.map aA.av) p.kcl]:=by rw[aA.avc];simp only[fE,h0,if_false];simp only[h1,if_true,if_false,kI,iR,fN,gO,iU,iT,fO,kJ,gP,j8,j9,gI,iJ,List.map_nil]
  have hB:fS p=(decide ((p.kids.length:Int)=0)&&decide ((p.at_.es.length:Int)=1)):=by simp only[fS,h0,if_false];simp only[h1,if_true,if_false]
  rw[hP,hB];clear hP hB h125;cases k1:decide ((p.kids.length:Int)=0);simp only[o0,o1,k1,go_sem,seval];show _=true;kernel_rfl;cases k2:decide ((p.at_.es.length:Int)=1);simp only[o0,o1,k1,k2,go_sem,seval];show _=true;kernel_rfl;simp only[o0,o1,k1,k2,go_sem,seval];show _=true;kernel_rfl
 case false=>
 have h1:=aP o1;cases o2:decide (p.op.bs=[114,101,97,100])
 case true=>
  have h2:=aF o2;cases hd:p.dyn
  case true=>
   have hP:(fE p).av = .agg [.str p.op.bs,.int .i64 0,.int .i64 p.value,.str [],.sl p.at_.nl (p.at_.es.map Lin.av) p.at_.cl,.bool true,.int .i64 p.check,.sl true [] true,.sl p.knl (p.kids.map aA.av) p.kcl]:=by rw[aA.avc];simp only[fE,h0,h1,if_false];simp only[hd,h2,if_true,if_false,kI,iR,fN,gO,iU,iT,fO,kJ,gP,j8,j9,gI,iJ,List.map_nil]
   have hB:fS p=(decide ((p.kids.length:Int)=1)&&decide ((p.at_.es.length:Int)<=5)):=by simp only[fS,h0,h1,if_false];simp only[hd,h2,if_true,if_false]
   rw[hP,hB];clear hP hB h125;cases k1:decide ((p.kids.length:Int)=1)
   ·repeat (first|simp only[o0,o1,o2,hd,mnA,oV,k1,go_sem,seval]|refine cB ?_)
    show _=true;kernel_rfl
   cases k2:decide ((p.at_.es.length:Int)<=5)
   ·repeat (first|simp only[o0,o1,o2,hd,mnA,oV,k1,k2,go_sem,seval]|refine cB ?_)
    show _=true;kernel_rfl
   ·repeat (first|simp only[o0,o1,o2,hd,mnA,oV,k1,k2,go_sem,seval]|refine cB ?_)
    show _=true;kernel_rfl
  case false=>
   have hP:(fE p).av = .agg [.str p.op.bs,.int .i64 0,.int .i64 p.value,.str [],.sl p.at_.nl (p.at_.es.map Lin.av) p.at_.cl,.bool false,.int .i64 0,.sl true [] true,.sl p.knl (p.kids.map aA.av) p.kcl]:=by rw[aA.avc];simp only[fE,h0,h1,if_false];simp only[hd,Bool.false_eq_true,h2,if_true,if_false,kI,iR,fN,gO,iU,iT,fO,kJ,gP,j8,j9,gI,iJ,List.map_nil]
   have hB:fS p=(decide ((p.kids.length:Int)=0)&&decide ((p.at_.es.length:Int)<=6)):=by simp only[fS,h0,h1,if_false];simp only[hd,Bool.false_eq_true,h2,if_true,if_false]
   rw[hP,hB];clear hP hB h125;cases k1:decide ((p.kids.length:Int)=0)
   ·repeat (first|simp only[o0,o1,o2,hd,mnA,oV,k1,go_sem,seval]|refine cB ?_)
    show _=true;kernel_rfl
   cases k2:decide ((p.at_.es.length:Int)<=6)
   ·repeat (first|simp only[o0,o1,o2,hd,mnA,oV,k1,k2,go_sem,seval]|refine cB ?_)
    show _=true;kernel_rfl
   ·repeat (first|simp only[o0,o1,o2,hd,mnA,oV,k1,k2,go_sem,seval]|refine cB ?_)
    show _=true;kernel_rfl
 case false=>
 have h2:=aP o2;cases o3:decide (p.op.bs=[105,102])
 case true=>
  have h3:=aF o3;have hP:(fE p).av = .agg [.str p.op.bs,.int .i64 0,.int .i64 0,.str [],.sl p.at_.nl (p.at_.es.map Lin.av) p.at_.cl,.bool false,.int .i64 0,.sl true [] true,.sl p.knl (p.kids.map aA.av) p.kcl]:=by rw[aA.avc];simp only[fE,h0,h1,h2,if_false];simp only[h3,if_true,if_false,kI,iR,fN,gO,iU,iT,fO,kJ,gP,j8,j9,gI,iJ,List.map_nil]
  have hB:fS p=(decide ((p.kids.length:Int)=2)&&decide ((p.at_.es.length:Int)=1)):=by simp only[fS,h0,h1,h2,if_false];simp only[h3,if_true,if_false]
  rw[hP,hB];clear hP hB h125;cases k1:decide ((p.kids.length:Int)=2);simp only[o0,o1,o2,o3,k1,go_sem,seval];show _=true;kernel_rfl;cases k2:decide ((p.at_.es.length:Int)=1);simp only[o0,o1,o2,o3,k1,k2,go_sem,seval];show _=true;kernel_rfl;simp only[o0,o1,o2,o3,k1,k2,go_sem,seval];show _=true;kernel_rfl
 case false=>
 have h3:=aP o3;cases o4:decide (p.op.bs=[114,101,100,117,99,101])
 case true=>
  have h4:=aF o4;have hP:(fE p).av = .agg [.str p.op.bs,.int .i64 0,.int .i64 0,.str p.name.bs,.sl p.at_.nl (p.at_.es.map Lin.av) p.at_.cl,.bool false,.int .i64 0,.sl p.fn.nl (p.fn.es.map aE.av) p.fn.cl,.sl p.knl (p.kids.map aA.av) p.kcl]:=by rw[aA.avc];simp only[fE,h0,h1,h2,h3,if_false];simp only[h4,if_true,if_false,kI,iR,fN,gO,iU,iT,fO,kJ,gP,j8,j9,gI,iJ,List.map_nil]
  have hB:fS p=(decide ((p.kids.length:Int)=2)&&decide ((p.at_.es.length:Int)=1)):=by simp only[fS,h0,h1,h2,h3,if_false];simp only[h4,if_true,if_false]
  rw[hP,hB];clear hP hB h125;cases k1:decide ((p.kids.length:Int)=2)
  ·repeat (first|simp only[o0,o1,o2,o3,o4,k1,go_sem,seval]|refine cB ?_)
   show _=true;kernel_rfl
  cases k2:decide ((p.at_.es.length:Int)=1)
  ·repeat (first|simp only[o0,o1,o2,o3,o4,k1,k2,go_sem,seval]|refine cB ?_)
   show _=true;kernel_rfl
  ·repeat (first|simp only[o0,o1,o2,o3,o4,k1,k2,go_sem,seval]|refine cB ?_)
   show _=true;kernel_rfl
 case false=>
 have h4:=aP o4;cases o5:decide (p.op.bs=[99,111,100,101])
 case true=>
  have h5:=aF o5;have hP:(fE p).av = .agg [.str p.op.bs,.int .i64 0,.int .i64 0,.str [],.sl true [] true,.bool false,.int .i64 0,.sl p.fn.nl (p.fn.es.map aE.av) p.fn.cl,.sl p.knl (p.kids.map aA.av) p.kcl]:=by rw[aA.avc];simp only[fE,h0,h1,h2,h3,h4,if_false];simp only[h5,if_true,if_false,kI,iR,fN,gO,iU,iT,fO,kJ,gP,j8,j9,gI,iJ,List.map_nil]
  have hB:fS p=(decide ((p.kids.length:Int)<=20)&&decide ((p.at_.es.length:Int)=0)):=by simp only[fS,h0,h1,h2,h3,h4,if_false];simp only[h5,if_true,if_false]
  rw[hP,hB];clear hP hB h125;cases k1:decide ((p.kids.length:Int)<=20)
  ·repeat (first|simp only[o0,o1,o2,o3,o4,o5,mnA,oV,k1,go_sem,seval]|refine cB ?_)
   show _=true;kernel_rfl
  cases k2:decide ((p.at_.es.length:Int)=0)
  ·repeat (first|simp only[o0,o1,o2,o3,o4,o5,mnA,oV,k1,k2,go_sem,seval]|refine cB ?_)
   show _=true;kernel_rfl
  ·repeat (first|simp only[o0,o1,o2,o3,o4,o5,mnA,oV,k1,k2,go_sem,seval]|refine cB ?_)
   show _=true;kernel_rfl
 case false=>
 have h5:=aP o5;have hP:(fE p).av = .agg [.str p.op.bs,.int .i64 0,.int .i64 0,.str [],.sl true [] true,.bool false,.int .i64 0,.sl true [] true,.sl p.knl (p.kids.map aA.av) p.kcl]:=by rw[aA.avc];simp only[fE,h0,h1,h2,h3,h4,h5,if_false,kI,iR,fN,gO,iU,iT,fO,kJ,gP,j8,j9,gI,iJ,List.map_nil]
 have hB:fS p=(match cX p.op.bs with
  |none=>false
  |some q=>decide ((p.kids.length:Int)=(q.params.length:Int))&&decide ((p.at_.es.length:Int)=0)):=by simp only[fS,h0,h1,h2,h3,h4,h5,if_false]
 rw[hP,hB];clear hP hB;obtain⟨rr,hr,hR⟩:=h125 p.op.bs;simp only[iP]at hR;cases hpt:cX p.op.bs with
 |none=>rw[hpt]at hR;dsimp only at hR;subst hR;simp only[o0,o1,o2,o3,o4,o5,go_sem,seval];refine aC hr ?_;simp only[go_sem,seval]
 |some q=>rw[hpt]at hR;dsimp only at hR;obtain⟨nl2,cl2,rfl⟩:=hR;dsimp only;simp only[o0,o1,o2,o3,o4,o5,go_sem,seval];refine aC hr ?_;cases k1:decide ((p.kids.length:Int)=(q.params.length:Int));simp only[k1,go_sem,seval];show _=true;kernel_rfl;cases k2:decide ((p.at_.es.length:Int)=0);simp only[k1,k2,go_sem,seval];show _=true;kernel_rfl;simp only[k1,k2,go_sem,seval];show _=true;kernel_rfl
end
end
section
section
variable{pg:Pg}
theorem mC{kb esz bytes s:Nat}{ag:Bool}{h:Hp}{xs:List AV}{nl cl nl0:Bool}{Q:AV->Eff->Prop}{t:Tok Q}(hx:∀x∈xs,El esz ag x)(hl:xs.length<=1073741824)(hb:bytes<=65536)
  (q1:xs=[]->Q (.sl nl0 [] true) (.pat [] []))
  (q2:xs≠[]->∀cs,aV esz ag xs=some cs->Q (.rf (kb+s) (h.next (kb+s)) 0 xs.length xs.length) (.pat [kb+s] [⟨kb+s,h.next (kb+s),.blk cs esz ag false false⟩])) :
  XO pg kb (.app esz ag bytes) s h [.sl nl0 [] true,.sl nl xs cl] Q t:=by
 rw[eQ];obtain⟨ds,d1,d2,d3,_⟩:=cG hx;simp only[jN,aO,d1,Option.map_some];by_cases hxs:xs=[]
 subst hxs;cases d1;simp only[i6,List.length_nil,if_true];exact q1 rfl;have hn:xs.length≠0:=by simpa using hxs
 simp only[i6,hn,if_false,List.length_nil,Nat.zero_add,Bool.or_true,Bool.true_and,hl,hb,decide_true,Bool.and_self,if_true,aV,List.nil_append];exact q2 hxs ds d1
theorem wF{kb esz bytes s k e n:Nat}{ag:Bool}{h:Hp}{cs:List AV}{es xs:List AV}{nl cl:Bool}{Q:AV->Eff->Prop}{t:Tok Q}
  (hne:n=es.length) (hg:h.get k=some (e,.blk cs esz ag false false)) (hu:aV esz ag es=some cs) (hk:(k==kb+s)=false) (he:∀x∈es,El esz ag x) (hx:∀x∈xs,El esz ag x) (hxs:xs≠[])
  (hl:es.length+xs.length<=1073741824) (hb:bytes<=65536)
  (q2:∀cs',aV esz ag (es++xs)=some cs'->Q (.rf (kb+s) (h.next (kb+s)) 0 (n+xs.length) (n+xs.length)) (.pat [kb+s,k] [⟨k,e,.dead⟩,⟨kb+s,h.next (kb+s),.blk cs' esz ag false false⟩])) :
  XO pg kb (.app esz ag bytes) s h [.rf k e 0 n n,.sl nl xs cl] Q t:=by
 subst hne;rw[eQ];obtain⟨ds,d1,d2,d3,_⟩:=cG hx;simp only[jN,aO,d1,Option.map_some];have hn:xs.length≠0:=by simpa using hxs
 obtain⟨cs',c1,c2,_,_⟩:=cG he;rw[hu]at c1;cases c1;have h1:¬(es.length+xs.length<=es.length):=by omega
 simp only[i6,hg,hn,if_false,true_and,Nat.zero_add];rw[if_pos (by omega)];simp only[h1,if_false,hl,hb,decide_true,Bool.true_and,hk,Bool.not_false,if_true,Bool.false_eq_true];have h3:(List.drop 0 cs).take (es.length*esz)++ds=cs++ds:=by simp[<-c2]
 rw[h3];exact q2 _ (fY hu d1)
def aJH(hp:Hp)(nl cl:Bool)(vars:List Str)(name:Str)(red:Bool)(iv:AV):Prop:=
 (red=false/\iv = .sl nl (vars.map Str.av) cl)\/(red=true/\∃k,Own hp k 1 false iv ((vars++[name]).map Str.av))
set_option maxHeartbeats 1000000 in
theorem R0(v:Int)(p:aA)(nl cl:Bool)(vars:List Str)(hk:p.kids.length<=big)(hks:∀q∈p.kids,q.ok)(hb:vars.length+1+aA.szL p.kids<=big)
  (ih:∀q∈p.kids,q.ok->∀(nl cl:Bool)(vars:List Str),vars.length+q.sz<=big->Ret pg 164 [q.av,.sl nl (vars.map Str.av) cl,.int .i64 v] (.bool (bO v q vars)))
  (iv:AV) (red b R:Bool) (env:List AV) (hp:Hp)
  (henv:clear HA env=pC (.sl nl (vars.map Str.av) cl) (.int .i64 v) (.pt 1 0 0) (.bool b) iv (.int .i64 0))
  (g1:hp.get 1=some (0,.blk [.str p.op.bs,.int .i64 p.num,.int .i64 p.value,.str p.name.bs,.sl p.at_.nl (p.at_.es.map Lin.av) p.at_.cl,.bool p.dyn,.int .i64 p.check,.sl p.fn.nl (p.fn.es.map aE.av) p.fn.cl,.sl p.knl (p.kids.map aA.av) p.kcl] 9 true true false))
  (hiv:aJH hp nl cl vars p.name red iv) (hR:R=(b&&cN v red p.name vars 0 p.kids)) :
  XX pg 0 (.loop pB HA) ⟨env,hp⟩
   (nZ 1 (lG (λst'=>XX pg 0 (.seq (.reg [⟨some 110,.mov,[.t 8],none,0,0⟩,⟨some 6,.mov,[.t 110],none,0,0⟩] false) .ret) st' (JP [.inl 6] (.bool R)) ⟨⟩) (JP [.inl 6] (.bool R)))) ⟨⟩:=by
 refine aN p.kids (λd r env hp=>∃ok:Bool,env=pC (.sl nl (vars.map Str.av) cl) (.int .i64 v) (.pt 1 0 0) (.bool ok) iv (.int .i64 d.length) /\
  hp.get 1=some (0,.blk [.str p.op.bs,.int .i64 p.num,.int .i64 p.value,.str p.name.bs,.sl p.at_.nl (p.at_.es.map Lin.av) p.at_.cl,.bool p.dyn,.int .i64 p.check,.sl p.fn.nl (p.fn.es.map aE.av) p.fn.cl,.sl p.knl (p.kids.map aA.av) p.kcl] 9 true true false) /\
  aJH hp nl cl vars p.name red iv/\R=(ok&&cN v red p.name vars d.length r)) ?_ ?_ ?_
 exact⟨b,henv,g1,hiv,hR⟩;clear hiv g1 henv hR hp env;rintro env hp ⟨ok,rfl,g1,hiv,hR⟩;simp only[pB,pC,g1,bH,go_sem,seval];rw[hR];simp[cN]
 ·clear hiv g1 henv hR hp env;rintro d x r env hp hes ⟨ok,rfl,g1,hiv,hR⟩;obtain⟨hget,e1,e2,ew⟩:=cY hes hk;have hxm:x∈p.kids:=by rw[hes];simp
  have hxs:x.sz<=aA.szL p.kids:=aA.szL_mem hxm;have hx:=ih x hxm (hks x hxm);clear ih hks;cases ok
  case false=>simp only[pB,pC,g1,e1,go_sem,seval];rw[hR];simp
  case true=>
  simp only[cN,Bool.true_and]at hR;have hd1:cN v red p.name vars (d++[x]).length r=cN v red p.name vars (d.length+1) r:=by simp
  cases c2:decide ((d.length:Int)=1)
  case false=>have a1:=hx nl cl vars (by omega);simp only[pB,pC,g1,e1,e2,hget,c2,go_sem,seval];refine aC a1 ?_;simp only[ew,go_sem,seval];refine⟨_,rfl,g1,hiv,?_⟩;rw[hR,c2,hd1];simp
  case true=>
  rcases hiv with ⟨hr,hv⟩|⟨hr,kk,ho⟩
  have a1:=hx nl cl vars (by omega);subst hv;simp only[pB,pC,g1,e1,e2,hget,c2,go_sem,seval];refine aC a1 ?_;simp only[ew,go_sem,seval];refine⟨_,rfl,g1,.inl ⟨hr,rfl⟩,?_⟩;rw[hR,c2,hd1,hr];simp;obtain⟨nl2,cl2,keys,hsn,hnl⟩:=ho.snap (El.strs (vars++[p.name])) 62;have a1:=hx nl2 cl2 (vars++[p.name]) (by simp;omega);simp only[pB,pC,g1,e1,e2,hget,c2,go_sem,seval];refine i7 a1 (sP (by simp only[go_sem,seval]) hsn (by simp only[go_sem,seval])) (v:=.bool (bO v x (vars++[p.name]))) (pa:=[]) rfl ?_;simp only[ew,go_sem,seval];refine⟨_,rfl,g1,.inr ⟨hr,kk,ho⟩,?_⟩;rw[hR,c2,hd1,hr];simp
set_option maxHeartbeats 2000000 in
theorem c164(hf:pg.fs 164=some KU)(h192:∀p:aA,Ret pg 192 [p.av] (.tup [(fE p).av,.bool (fS p)]))
  (h118:∀p:aA,p.ok->∀q:aA,Ret pg 118 [p.av,q.av] (.bool (jD p q)))
  (h193:∀(nl cl:Bool)(ls:List Lin),ls.length<=big->∀(nl' cl':Bool)(vars:List Str),vars.length<=big->Ret pg 193 [.sl nl (ls.map Lin.av) cl,.sl nl' (vars.map Str.av) cl'] (.bool (dS ls vars)))
  (h124:pg.fs 124=some mY) (h77:∀s:Str,Ret pg 77 [.str s.bs] (.bool (iA s.bs))) (h194:pg.fs 194=some xG)
  (h87:∀(nl cl:Bool)(fn:List aE),fn.length<=big->∀n:Int,Ret pg 87 [.sl nl (fn.map aE.av) cl,.int .i64 n] (.bool (cC fn n))) (v:Int) :
  ∀p:aA,p.ok->∀(nl cl:Bool)(vars:List Str),vars.length+p.sz<=big->Ret pg 164 [p.av,.sl nl (vars.map Str.av) cl,.int .i64 v] (.bool (bO v p vars)):=by
 refine aA.ind' λp ih hp nl cl vars hb=>?_;obtain⟨hk,hks⟩:=(aA.ok_iff p).1 hp;have hsz:=aA.sz_eq p;have a1:=h192 p;have a2:=h118 p hp (fE p);rw[aA.avc p]at a1 a2;have a2':=a2;rw[aA.avc (fE p)]at a2';have a3:=h193 p.at_.nl p.at_.cl p.at_.es p.at_.ok nl cl vars (by omega);have a4:=LE h124 p.num;have a5:=h77 p.name;have a6:=c194 h194 nl cl vars (by omega) p.name.bs;have a7:=h87 p.fn.nl p.fn.cl p.fn.es p.fn.ok 2;have a8:=h87 p.fn.nl p.fn.cl p.fn.es p.fn.ok p.kids.length;clear h192 h118 h193 h124 h77 h194 h87;have hspec:bO v p vars=(fS p&&(jD p (fE p)&&(dS p.at_.es vars&&(nS p vars v&&cN v (decide (p.op.bs=[114,101,100,117,99,101])) p.name vars 0 p.kids)))):=by
  rw[fI,<-L5]
  (refine Bool.eq_iff_iff.2 ?_;simp only[aD];constructor<;>(intro h;simp only[h,and_self]))
 rw[hspec];refine Ret.ofX hf ?_;unfold KU;refine Wk ?_;refine cO a1 (by simp only[go_sem,seval]) (by rfl) ?_;have hro:nS p vars v=(if p.op.bs=[99,111,110,115,116] then eP p.num
  else if p.op.bs=[114,101,97,100] then decide (0<=p.value)&&decide (p.value<v)&&decide (0<=p.check)
  else if p.op.bs=[114,101,100,117,99,101] then iA p.name.bs && !fD vars p.name.bs&&cC p.fn.es 2
  else if p.op.bs=[99,111,100,101] then cC p.fn.es p.kids.length
  else true):=rfl
 generalize hob:fS p=ob at *;cases ob
 case false=>simp only[go_sem,seval]
 case true=>
 refine Wk ?_;refine aC a2' ?_;generalize hpe:jD p (fE p)=pe at *;cases pe
 case false=>simp only[go_sem,seval]
 case true=>
 refine Wk ?_;refine aC a3 ?_;generalize hov:dS p.at_.es vars=ov at *;cases ov
 case false=>simp only[go_sem,seval]
 case true=>
 refine Wk ?_;have hL:=λiv b R env hp h1 h2 h3 h4=>R0 v p nl cl vars hk hks (by omega) ih iv (decide (p.op.bs=[114,101,100,117,99,101])) b R env hp h1 h2 h3 h4;clear ih hks a1 a2 a2' a3;cases o1:decide (p.op.bs=[99,111,110,115,116])
 case true=>
  have h:=aF o1;have hr:decide (p.op.bs=[114,101,100,117,99,101])=false:=by rw[h];decide
  rw[hro,if_pos h];refine Wk ?_;refine aC a4 (Wk ?_);exact hL _ _ _ _ _ rfl rfl (.inl ⟨hr,rfl⟩) rfl
 case false=>
 rw[hro,if_neg (aP o1)];refine Wk ?_;cases o2:decide (p.op.bs=[114,101,97,100])
 case true=>
  have h:=aF o2;have hr:decide (p.op.bs=[114,101,100,117,99,101])=false:=by rw[h];decide
  rw[if_pos h];cases q1:decide (0<=p.value)
  case false=>simp only[q1,go_sem,seval];exact hL _ _ _ _ _ rfl rfl (.inl ⟨hr,rfl⟩) rfl
  case true=>
  cases q2:decide (p.value<v)
  case false=>simp only[q1,q2,go_sem,seval];exact hL _ _ _ _ _ rfl rfl (.inl ⟨hr,rfl⟩) rfl
  case true=>simp only[q1,q2,go_sem,seval];exact hL _ _ _ _ _ rfl rfl (.inl ⟨hr,rfl⟩) rfl
 case false=>
 rw[if_neg (aP o2)];refine Wk ?_;cases o3:decide (p.op.bs=[114,101,100,117,99,101])
 case true=>
  have h:=aF o3;rw[if_pos h];refine Wk ?_;refine aC a5 ?_;have hvl:vars.length+1<=1073741824:=by simp only[big]at hb;omega
  have hS:∀x∈[AV.str p.name.bs],El 1 false x:=by intro x hx;simp at hx;subst hx;exact⟨rfl,rfl,rfl⟩
  cases nm:iA p.name.bs
  case false=>
   refine Wk ?_;refine mC (El.strs vars) (by simp;omega) (by decide) (λhe=>?_) (λhe cs hcs=>?_);have hv:vars=[]:=by simpa using he
   refine Wk ?_;refine mC hS (by simp) (by decide) (λh=>by cases h) (λ_ cs2 hcs2=>?_);cases hcs2;refine Wk ?_;refine cB ?_;exact hL _ _ _ _ _ rfl rfl (.inr ⟨o3,41,.inr ⟨_,_,by rw[hv];rfl,rfl,by rw[hv];rfl⟩⟩) (by rw[o3];rfl);refine Wk ?_;refine wF (es:=vars.map Str.av) (by simp) rfl hcs rfl (El.strs vars) hS (by simp) (by simp;omega) (by decide) (λcs2 hcs2=>?_);refine Wk ?_;refine cB ?_;exact hL _ _ _ _ _ rfl rfl (.inr ⟨o3,41,.inr ⟨_,_,by simp,rfl,by rw[List.map_append];exact hcs2⟩⟩) (by rw[o3];rfl)
  case true=>
  refine Wk ?_;refine aC a6 ?_;cases hs:fD vars p.name.bs
  case true=>
   refine Wk ?_;refine mC (El.strs vars) (by simp;omega) (by decide) (λhe=>?_) (λhe cs hcs=>?_);have hv:vars=[]:=by simpa using he
   refine Wk ?_;refine mC hS (by simp) (by decide) (λh=>by cases h) (λ_ cs2 hcs2=>?_);cases hcs2;refine Wk ?_;refine cB ?_;exact hL _ _ _ _ _ rfl rfl (.inr ⟨o3,41,.inr ⟨_,_,by rw[hv];rfl,rfl,by rw[hv];rfl⟩⟩) (by rw[o3];rfl);refine Wk ?_;refine wF (es:=vars.map Str.av) (by simp) rfl hcs rfl (El.strs vars) hS (by simp) (by simp;omega) (by decide) (λcs2 hcs2=>?_);refine Wk ?_;refine cB ?_;exact hL _ _ _ _ _ rfl rfl (.inr ⟨o3,41,.inr ⟨_,_,by simp,rfl,by rw[List.map_append];exact hcs2⟩⟩) (by rw[o3];rfl)
  case false=>
  refine Wk ?_;refine aC a7 (Wk ?_);refine mC (El.strs vars) (by simp;omega) (by decide) (λhe=>?_) (λhe cs hcs=>?_);have hv:vars=[]:=by simpa using he
  refine Wk ?_;refine mC hS (by simp) (by decide) (λh=>by cases h) (λ_ cs2 hcs2=>?_);cases hcs2;refine Wk ?_;refine cB ?_;exact hL _ _ _ _ _ rfl rfl (.inr ⟨o3,41,.inr ⟨_,_,by rw[hv];rfl,rfl,by rw[hv];rfl⟩⟩) (by rw[o3];rfl);refine Wk ?_;refine wF (es:=vars.map Str.av) (by simp) rfl hcs rfl (El.strs vars) hS (by simp) (by simp;omega) (by decide) (λcs2 hcs2=>?_);refine Wk ?_;refine cB ?_;exact hL _ _ _ _ _ rfl rfl (.inr ⟨o3,41,.inr ⟨_,_,by simp,rfl,by rw[List.map_append];exact hcs2⟩⟩) (by rw[o3];rfl)
 case false=>
 rw[if_neg (aP o3)];refine Wk ?_;cases o4:decide (p.op.bs=[99,111,100,101])
 case true=>have h:=aF o4;rw[if_pos h];refine Wk ?_;refine aC a8 (Wk ?_);exact hL _ _ _ _ _ rfl rfl (.inl ⟨o3,rfl⟩) (by rw[o3];rfl)
 case false=>rw[if_neg (aP o4)];refine Wk ?_;exact hL _ _ _ _ _ rfl rfl (.inl ⟨o3,rfl⟩) (by rw[o3];rfl)
end
end
section
section
variable{pg:Pg}
theorem c123(hf:pg.fs 123=some KZ)(h40:pg.fs 40=some NQ)(h164:∀v:Int,∀p:aA,p.ok->∀(nl cl:Bool) (vars:List Str),vars.length+p.sz<=big->Ret pg 164 [p.av,.sl nl (vars.map Str.av) cl,.int .i64 v] (.bool (bO v p vars)))
  (p:aA) (hp:p.ok) (nl cl:Bool) (vars:List Str) (hb:vars.length+p.sz<=big) (v:Int):Ret pg 123 [p.av,.sl nl (vars.map Str.av) cl,.int .i64 v] (.bool (dQ p vars v)):=by
 have a1:=c40 h40 p hp;have a2:=h164 v p hp nl cl vars hb;rw[aA.avc]at a1 a2;refine Ret.ofX hf ?_;clear h40 h164;unfold KZ;refine Wk ?_;refine aC a1 ?_;cases c1:decide (kX p<=4000);simp only[c1,go_sem,seval];simp[dQ,c1];simp only[c1,go_sem,seval];refine aC a2 (Wk ?_);simp[dQ,c1]
end
end
end Go.Tev
