import Derived.Test.YtagdhpkdbdilaaaGreatDoorSAX
import Derived.Test.YtagdhpkdbdilaaaGreatDoorSAR
import Derived.Test.YtagdhpkdbdilaaaGreatDoorSAS
set_option linter.all false
namespace Go.Tev
section
def fZ(ls:List Loop)(l:Lin):Bool:=l.ts.es.any λc=>ls.any λy=>decide (y.v.bs=c.v.bs)
def d9:List Loop->Bool
 |[]=>true
 |x::r => !((x.hi.es++[x.lo]).any (fZ (x::r)))&&d9 r
def nZ:List aN->List UInt8->Int
 |[],_=>0
 |x::r,s=>if x.v.bs=s then x.c else nZ r s
def mL(l:Lin)(s:List UInt8):Bool := !decide (nZ l.ts.es s=0)
def kZ(x:Loop)(s:List UInt8):Bool:=mL x.lo s||x.hi.es.any λh=>mL h s
def tM:List Loop->Bool
 |[]=>true
 |x::r => !((x::r).any λy=>kZ x y.v.bs)&&tM r
theorem BU:∀(l p:List aN),iW p l=true->∀x∈l,x.c≠0
 |[],_,_,x,hx=>by simp at hx
 |y::r,p,h,x,hx=>by simp only[iW,aF]at h;rcases List.mem_cons.1 hx with rfl|hx;simpa using h.1.1.1.2;exact BU r _ h.2 x hx
theorem x4:∀(l:List aN)(s:List UInt8),(∀x∈l,x.c≠0)->(!decide (nZ l s=0))=l.any λc=>decide (s=c.v.bs)
 |[],s,_=>by simp[nZ]
 |x::r,s,h=>by have ih:=x4 r s (λy hy=>h y (bS _ hy));rw[List.any_cons,<-ih,nZ];by_cases hx:x.v.bs=s;have:=h x List.mem_cons_self;simp[hx,this];rw[if_neg hx];simp[Ne.symm hx]
theorem OG{α β : Type}(l:List α)(m:List β)(p : α -> β -> Bool):(l.any λx=>m.any λy=>p x y)=m.any λy=>l.any λx=>p x y:=by rw[Bool.eq_iff_iff];simp only[List.any_eq_true];exact⟨λ⟨x,hx,y,hy,h⟩=>⟨y,hy,x,hx,h⟩,λ⟨y,hy,x,hx,h⟩=>⟨x,hx,y,hy,h⟩⟩
def zS(x:Loop):Bool:=gC x.lo&&x.hi.es.all gC
theorem uL:∀(ls:List Loop)(all:List Str),dS ls all=true->∀x∈ls,zS x=true
 |[],_,_,x,hx=>by simp at hx
 |y::r,all,h,x,hx=>by simp only[dS,aF]at h;rcases List.mem_cons.1 hx with rfl|hx;have h1:=h.1;simp only[fJ,aF,bW,List.all_cons,List.all_nil,Bool.and_true]at h1;simp only[zS,aF,eJ];refine⟨h1.2.2.1,λl hl=>?_⟩;have:=eJ.1 h1.2.1 l hl;simp only[aF]at this;exact this.1;exact uL r _ h.2 x hx
theorem xC:∀(ls:List Loop)(all:List Str),dS ls all=true->∀x∈ls,cN all x.v.bs=false
 |[],_,_,x,hx=>by simp at hx
 |y::r,all,h,x,hx=>by simp only[dS,aF]at h;rcases List.mem_cons.1 hx with rfl|hx;have h1:=h.1;simp only[fJ,aF,gI]at h1;exact h1.1.1.2;have:=xC r _ h.2 x hx;simp only[cN,List.any_append,Bool.or_eq_false_iff]at this;exact this.1
theorem w6{ls:List Lin}{all:List Str}(h:bW ls all=true){xs:List Loop}(hn:∀x∈xs,cN all x.v.bs=false):ls.any (fZ xs)=false:=by rw[List.any_eq_false];intro l hl;have h1:=eJ.1 h l hl;simp only[aF,eJ]at h1;simp only[fZ,Bool.not_eq_true,List.any_eq_false];intro c hc y hy;have h2:=h1.2 c hc;have h3:=hn y hy;simp only[cN,List.any_eq_true,List.any_eq_false,cY]at h2 h3 ⊢;obtain⟨s,hs,e⟩:=h2;exact decide_eq_false λq=>h3 s hs (q.trans e)
theorem uK:∀(ls:List Loop)(all:List Str),dS ls all=true->d9 ls=true
 |[],_,_=>rfl
 |x::r,all,h=>by have hn:=xC _ _ h;simp only[dS,aF]at h;have h1:=h.1;simp only[fJ,aF]at h1;simp only[d9,aF,gI,List.any_append,Bool.or_eq_false_iff];exact⟨⟨w6 h1.2.1 hn,w6 h1.2.2 hn⟩,uK r _ h.2⟩
end
section
def Lin.strip(l:Lin):Lin:=⟨l.c,⟨false,l.ts.es,false,l.ts.ok⟩⟩
def aJ.strip(s:aJ):aJ:=⟨s.op,s.num,⟨false,s.args.es,false,s.args.ok⟩⟩
def Sl.mapS{α : Type}(f : α -> α)(s:Sl α):Sl α:=⟨false,s.es.map f,false,by simpa using s.ok⟩
mutual
def aE.strip:aE->aE
 |.mk op num value name at_ dyn check fn _ kids _ => .mk op num value name (at_.mapS Lin.strip) dyn check (fn.mapS aJ.strip) false (aE.strips kids) false
def aE.strips:List aE->List aE
 |[]=>[]
 |p::r=>p.strip::aE.strips r
end
theorem aE.strips_eq:∀l:List aE,aE.strips l=l.map aE.strip
 |[]=>by simp[aE.strips]
 |p::r=>by simp[aE.strips,aE.strips_eq r]
theorem aE.strip_eq(p:aE):p.strip = .mk p.op p.num p.value p.name (p.at_.mapS Lin.strip) p.dyn p.check (p.fn.mapS aJ.strip) false (p.kids.map aE.strip) false:=by cases p;rw[aE.strip,aE.strips_eq];rfl
theorem aE.strip_kids(p:aE):p.strip.kids=p.kids.map aE.strip:=by cases p;rw[aE.strip,aE.strips_eq];rfl
theorem aE.strip_f(p:aE):p.strip.op=p.op/\p.strip.num=p.num/\p.strip.value=p.value/\p.strip.name=p.name/\p.strip.at_=p.at_.mapS Lin.strip/\p.strip.dyn=p.dyn/\p.strip.check=p.check/\p.strip.fn=p.fn.mapS aJ.strip:=by cases p;rw[aE.strip];exact⟨rfl,rfl,rfl,rfl,rfl,rfl,rfl,rfl⟩
def Loop.strip(x:Loop):Loop:=⟨x.v,x.lo.strip,x.hi.mapS Lin.strip,x.step⟩
def aK.strip(n:aK):aK:=⟨n.loops.mapS Loop.strip,n.value,n.at_.mapS Lin.strip,n.dyn,n.index.strip,n.check,n.body.strip⟩
theorem zH(ls:List Lin)(vars:List Str):bW (ls.map Lin.strip) vars=bW ls vars:=by simp only[bW,List.all_map];rfl
theorem nW:∀(fn:List aJ)(n:Int),cV n (fn.map aJ.strip)=cV n fn
 |[],_=>rfl
 |s::r,n=>by rw[List.map_cons,cV,cV,nW r];rfl
theorem AB(fn:List aJ)(n:Int):dH (fn.map aJ.strip) n=dH fn n:=by rw[dH,dH,nW,aZ]
theorem qA(p:aE)(a b c d e f:Bool):fL p.strip a b c d e f=fL p a b c d e f:=by rw[aE.strip_eq];simp only[fL,aE.num,aE.value,aE.name,aE.at_,aE.dyn,aE.check,aE.fn,Sl.mapS,aZ];cases p;rfl
theorem zK(p:aE)(vars:List Str)(v:Int):iP p.strip vars v=iP p vars v:=by
 have h1:tJ p.strip v=tJ p v:=by simp only[tJ,qA];rw[aE.strip_eq];simp only[aE.value,aE.at_,aE.dyn,aE.check,aE.kids,Sl.mapS,aZ];cases p;rfl
 simp only[iP,qA,h1];rw[aE.strip_eq];simp only[aE.op,aE.num,aE.name,aE.at_,aE.kids,aE.fn,Sl.mapS,aZ,AB];cases p;rfl
mutual
theorem yQ(v:Int):∀(p:aE)(vars:List Str),iI v p.strip vars=iI v p vars
 |.mk op num value name at_ dyn check fn knl kids kcl,vars=>by have h:=zK (.mk op num value name at_ dyn check fn knl kids kcl) vars v;rw[aE.strip]at h ⊢;rw[iI,iI,h,nU v _ _ _ kids];simp only[Sl.mapS,zH]
theorem nU(v:Int)(red:Bool)(name:Str)(vars:List Str):∀(kids:List aE)(i:Nat),fB v red name vars i (aE.strips kids)=fB v red name vars i kids
 |[],i=>by rw[aE.strips]
 |k::r,i=>by rw[aE.strips,fB,fB,yQ v k,nU v red name vars r]
end
mutual
theorem zJ:∀p:aE,jA p.strip=jA p
 |.mk op num value name at_ dyn check fn knl kids kcl=>by rw[aE.strip,jA,jA,pE kids]
theorem pE:∀(l:List aE)(a:Int),iM a (aE.strips l)=iM a l
 |[],a=>by rw[aE.strips]
 |p::r,a=>by rw[aE.strips,iM,iM,zJ p,pE r]
end
theorem lJ{α β : Type}{q : α -> β -> Bool}{f : α -> α}(h:∀x y,q (f x) y=q x y):∀(l:List α)(m:List β),eqL q (l.map f) m=eqL q l m
 |[],m=>rfl
 |x::r,[]=>rfl
 |x::r,y::s=>by rw[List.map_cons,eqL,eqL,h,lJ h]
theorem lI{α β : Type}{q : α -> β -> Bool}{f : β -> β}(h:∀x y,q x (f y)=q x y):∀(l:List α)(m:List β),eqL q l (m.map f)=eqL q l m
 |[],[]=>rfl
 |[],y::s=>rfl
 |x::r,[]=>rfl
 |x::r,y::s=>by rw[List.map_cons,eqL,eqL,h,lI h]
theorem uO(x y:Lin):bU x.strip y=bU x y:=rfl
theorem uN(x y:Lin):bU x y.strip=bU x y:=rfl
theorem H6(x y:aJ):gK x.strip y=gK x y:=rfl
theorem HZ(x y:aJ):gK x y.strip=gK x y:=rfl
theorem xW{α β : Type}{q : α -> β -> Bool}{f : α -> α}:∀(l:List α)(m:List β),(∀x∈l,∀y,q (f x) y=q x y)->eqL q (l.map f) m=eqL q l m
 |[],m,_=>rfl
 |x::r,[],_=>rfl
 |x::r,y::s,h=>by rw[List.map_cons,eqL,eqL,h x (by simp),xW r s (λz hz=>h z (by simp[hz]))]
theorem IG:∀(p q:aE),bT p.strip q=bT p q:=
 λp=>by refine aE.ind' (P:=λp=>∀q,bT p.strip q=bT p q) (λp ih q=>?_) p;rw[iL,iL,fG,fG];obtain⟨e1,e2,e3,e4,e5,e6,e7,e8⟩:=aE.strip_f p;rw[e1,e2,e3,e4,e5,e6,e7,e8,aE.strip_kids];simp only[Sl.mapS];rw[lJ uO,lJ H6,xW _ _ (λx hx y=>ih x hx y)]
theorem xV{α β : Type}{q : α -> β -> Bool}{f : β -> β}:∀(l:List α)(m:List β),(∀x∈l,∀y,q x (f y)=q x y)->eqL q l (m.map f)=eqL q l m
 |[],[],_=>rfl
 |[],y::s,_=>rfl
 |x::r,[],_=>rfl
 |x::r,y::s,h=>by rw[List.map_cons,eqL,eqL,h x (by simp),xV r s (λz hz=>h z (by simp[hz]))]
theorem IE:∀(p q:aE),bT p q.strip=bT p q:=
 λp=>by refine aE.ind' (P:=λp=>∀q,bT p q.strip=bT p q) (λp ih q=>?_) p;rw[iL,iL,fG,fG];obtain⟨e1,e2,e3,e4,e5,e6,e7,e8⟩:=aE.strip_f q;rw[e1,e2,e3,e4,e5,e6,e7,e8,aE.strip_kids];simp only[Sl.mapS];rw[lI uN,lI HZ,xV _ _ (λx hx y=>ih x hx y)]
mutual
theorem aE.strip_strip:∀p:aE,p.strip.strip=p.strip
 |.mk op num value name at_ dyn check fn knl kids kcl=>by rw[aE.strip,aE.strip,aE.strips_strips kids];simp only[Sl.mapS,List.map_map];rfl
theorem aE.strips_strips:∀l:List aE,aE.strips (aE.strips l)=aE.strips l
 |[]=>by rw[aE.strips,aE.strips]
 |p::r=>by rw[aE.strips,aE.strips,aE.strip_strip p,aE.strips_strips r]
end
mutual
theorem aE.ok_strip:∀p:aE,p.strip.ok↔p.ok
 |.mk op num value name at_ dyn check fn knl kids kcl=>by rw[aE.strip,aE.ok,aE.ok,aE.oks_strip kids,aE.strips_eq,aZ]
theorem aE.oks_strip:∀l:List aE,aE.oks (aE.strips l)↔aE.oks l
 |[]=>by rw[aE.strips]
 |p::r=>by rw[aE.strips,aE.oks,aE.oks,aE.ok_strip p,aE.oks_strip r]
end
mutual
theorem aE.sz_strip:∀p:aE,p.strip.sz=p.sz
 |.mk op num value name at_ dyn check fn knl kids kcl=>by rw[aE.strip,aE.sz,aE.sz,aE.szL_strip kids]
theorem aE.szL_strip:∀l:List aE,aE.szL (aE.strips l)=aE.szL l
 |[]=>by rw[aE.strips]
 |p::r=>by rw[aE.strips,aE.szL,aE.szL,aE.sz_strip p,aE.szL_strip r]
end
def e9(x y:Loop):Bool := !(!decide (x.v.bs=y.v.bs) || !decide (x.step=y.step) || !bU x.lo y.lo || !eqL bU x.hi.es y.hi.es)
def cT(a b:aK):Bool:=
 decide ((a.loops.es.length:Int)=(b.loops.es.length:Int))&&decide (a.value=b.value)&&(a.dyn==b.dyn)&&decide (a.check=b.check)&&eqL bU a.at_.es b.at_.es&&bT a.index b.index&&bT a.body b.body&&eqL e9 a.loops.es b.loops.es
theorem I2(x y:Loop):e9 x.strip y=e9 x y:=by simp only[e9,Loop.strip,Sl.mapS,lJ uO];rfl
theorem I1(x y:Loop):e9 x y.strip=e9 x y:=by simp only[e9,Loop.strip,Sl.mapS,lI uN];rfl
theorem rR(x:Loop):e9 x x=true:=by simp[e9,eO,cP eO]
theorem IU(a b:aK):cT a.strip b=cT a b:=by simp only[cT,aK.strip,Sl.mapS,aZ,lJ uO,IG,lJ I2];rfl
theorem IT(a b:aK):cT a b.strip=cT a b:=by simp only[cT,aK.strip,Sl.mapS,aZ,lI uN,IE,lI I1];rfl
theorem iZ(a:aK):cT a a=true:=by simp[cT,cP eO,mT,cP rR]
theorem l8{a b:aK}(h:a.strip=b.strip):cT a b=true:=by rw[<-IU,<-IT,h];exact iZ _
end
section
def iEq(x y:Int):Bool:=decide (x=y)
section
variable{pg:Pg}
theorem bAv(hf:pg.fs 15=some GH)(nl cl nl' cl':Bool)(a b:List Int)(hb:a.length<=big):Ret pg 15 [.sl nl (a.map bL) cl,.sl nl' (b.map bL) cl'] (.bool (eqL iEq a b)):=by
 refine Ret.ofX hf ?_;unfold GH;cases b2:decide ((a.length:Int)=(b.length:Int))
 case false=>simp only[b2,go_sem,seval];rw[u7 b2]
 case true=>
 have hl:a.length=b.length:=by have:=aR b2;omega
 simp only[b2,go_sem,seval];refine aY a (λd r env hp=>env=BH (.sl nl (a.map bL) cl) (.sl nl' (b.map bL) cl') (.int .i64 d.length)/\eqL iEq a b=eqL iEq r (b.drop d.length)) ?_ ?_ ?_;exact⟨rfl,rfl⟩;rintro env hp ⟨rfl,hI⟩;simp only[BG,BH,bA,go_sem,seval];rw[hI,jL hl];rintro d x r env hp hes ⟨rfl,hI⟩;obtain⟨hget,e1,e2,ew⟩:=cM hes hb;obtain⟨y,gy,f1,f2,hq⟩:=xD (q:=iEq) hes hl;rw[hq]at hI;rw[hI];clear hI;cases hxy:decide (x=y);simp only[BG,BH,e1,e2,hget,gy,f1,f2,hxy,go_sem,seval];exact⟨by kernel_rfl,by simp[iEq,hxy]⟩;simp only[BG,BH,e1,e2,hget,gy,f1,f2,hxy,ew,go_sem,seval];exact⟨by kernel_rfl,rfl,by simp[iEq,hxy]⟩
theorem c161(hf:pg.fs 161=some yE)(h15:pg.fs 15=some GH)(nl cl nl' cl':Bool)(a b:List aJ)(hb:a.length<=big):Ret pg 161 [.sl nl (a.map aJ.av) cl,.sl nl' (b.map aJ.av) cl'] (.bool (eqL gK a b)):=by
 refine Ret.ofX hf ?_;unfold yE;cases b2:decide ((a.length:Int)=(b.length:Int))
 case false=>simp only[b2,go_sem,seval];rw[u7 b2]
 case true=>
 have hl:a.length=b.length:=by have:=aR b2;omega
 simp only[b2,go_sem,seval];refine aY a (λd r env hp=>env=pW (.sl nl (a.map aJ.av) cl) (.sl nl' (b.map aJ.av) cl') (.int .i64 d.length)/\eqL gK a b=eqL gK r (b.drop d.length)) ?_ ?_ ?_;exact⟨rfl,rfl⟩;rintro env hp ⟨rfl,hI⟩;simp only[pV,pW,bA,go_sem,seval];rw[hI,jL hl]
 ·rintro d x r env hp hes ⟨rfl,hI⟩;obtain⟨hget,e1,e2,ew⟩:=cM hes hb;obtain⟨y,gy,f1,f2,hq⟩:=xD (q:=gK) hes hl;rw[hq]at hI;rw[hI];clear hI;have hse:gK x y=(decide (x.op.bs=y.op.bs)&&decide (x.num=y.num)&&eqL iEq x.args.es y.args.es):=rfl;cases c1:decide (x.op.bs=y.op.bs)
  case false=>simp only[pV,pW,e1,e2,hget,gy,f1,f2,c1,go_sem,seval];exact⟨by kernel_rfl,by simp[hse,c1]⟩
  case true=>
  cases c2:decide (x.num=y.num)
  case false=>simp only[pV,pW,e1,e2,hget,gy,f1,f2,c1,c2,go_sem,seval];exact⟨by kernel_rfl,by simp[hse,c2]⟩
  case true=>
  have a1:=bAv h15 x.args.nl x.args.cl y.args.nl y.args.cl x.args.es y.args.es x.args.ok;simp only[pV,pW,e1,e2,hget,gy,f1,f2,c1,c2,go_sem,seval];refine aG a1 ?_;cases c3:eqL iEq x.args.es y.args.es;refine Wk ?_;exact⟨by kernel_rfl,by simp[hse,c3]⟩;simp only[ew,go_sem,seval];exact⟨by kernel_rfl,rfl,by simp[hse,c1,c2,c3]⟩
def eI:Str:=⟨[],by simp[big]⟩
set_option maxHeartbeats 1000000 in
theorem c118(hf:pg.fs 118=some D7)(h161:pg.fs 161=some yE)(h15:pg.fs 15=some GH)(h121:∀a b:bO,Ret pg 121 [a.av,b.av] (.bool (kF a b))) :
  ∀p:aE,p.ok->∀q:aE,Ret pg 118 [p.av,q.av] (.bool (bT p q)):=by
 refine aE.ind' λp ih hp q=>?_;obtain⟨hk,hks⟩:=(aE.ok_iff p).1 hp;have a1:=c161 h161 h15 p.fn.nl p.fn.cl q.fn.nl q.fn.cl p.fn.es q.fn.es p.fn.ok;have a2:=h121 ⟨eI,p.at_⟩ ⟨eI,q.at_⟩;have hs2:kF ⟨eI,p.at_⟩ ⟨eI,q.at_⟩=eqL bU p.at_.es q.at_.es:=by simp[kF,eI]
 rw[hs2,bO.avc,bO.avc]at a2;clear h121 h161 h15 hs2;refine Ret.ofX hf ?_;rw[iL,fG];unfold D7;cases b1:decide (p.op.bs=q.op.bs)
 case false=>simp only[b1,go_sem,seval]
 case true=>
 cases b2:decide (p.num=q.num)
 case false=>simp only[b1,b2,go_sem,seval]
 case true=>
 cases b3:decide (p.value=q.value)
 case false=>simp only[b1,b2,b3,go_sem,seval]
 case true=>
 cases b4:decide (p.name.bs=q.name.bs)
 case false=>simp only[b1,b2,b3,b4,go_sem,seval]
 case true=>
 cases b5:(p.dyn==q.dyn)
 case false=>simp only[b1,b2,b3,b4,b5,go_sem,seval]
 case true=>
 cases b6:decide (p.check=q.check)
 case false=>simp only[b1,b2,b3,b4,b5,b6,go_sem,seval]
 case true=>
 cases b7:decide ((p.kids.length:Int)=(q.kids.length:Int))
 case false=>rw[u7 b7];simp only[b1,b2,b3,b4,b5,b6,b7,go_sem,seval]
 case true=>
 simp only[b1,b2,b3,b4,b5,b6,b7,go_sem,seval];refine aG a1 ?_;cases b8:eqL gK p.fn.es q.fn.es
 case false=>simp only[go_sem,seval]
 case true=>
 refine Wk ?_;refine aG a2 ?_;cases b9:eqL bU p.at_.es q.at_.es
 case false=>simp only[go_sem,seval]
 case true=>
 have hl:p.kids.length=q.kids.length:=by have:=aR b7;omega
 refine Wk ?_
 refine aY p.kids (λd r env hp=>hp.get 1=some (0,.blk [.str p.op.bs,.int .i64 p.num,.int .i64 p.value,.str p.name.bs,.sl p.at_.nl (p.at_.es.map Lin.av) p.at_.cl,.bool p.dyn,.int .i64 p.check,.sl p.fn.nl (p.fn.es.map aJ.av) p.fn.cl,.sl p.knl (p.kids.map aE.av) p.kcl] 9 true true false) /\
   hp.get 5=some (0,.blk [.str q.op.bs,.int .i64 q.num,.int .i64 q.value,.str q.name.bs,.sl q.at_.nl (q.at_.es.map Lin.av) q.at_.cl,.bool q.dyn,.int .i64 q.check,.sl q.fn.nl (q.fn.es.map aJ.av) q.fn.cl,.sl q.knl (q.kids.map aE.av) q.kcl] 9 true true false) /\
   env=BJ (.pt 1 0 0) (.pt 5 0 0) (.int .i64 d.length)/\eqL bT p.kids q.kids=eqL bT r (q.kids.drop d.length)) ?_ ?_ ?_
 exact⟨rfl,rfl,rfl,rfl⟩;rintro env hp ⟨g1,g5,rfl,hI⟩;simp only[BI,BJ,g1,bA,go_sem,seval];rw[hI,jL hl];rintro d x r env hp hes ⟨g1,g5,rfl,hI⟩;obtain⟨hget,e1,e2,ew⟩:=cM hes hk;obtain⟨y,gy,f1,f2,hq⟩:=xD (q:=bT) hes hl;rw[hq]at hI;rw[hI];clear hI a1 a2;have hx:x∈p.kids:=by rw[hes];simp
 have a3:=ih x hx (hks x hx) y;clear ih hks;simp only[BI,BJ,g1,g5,hget,e1,e2,gy,f1,f2,go_sem,seval];refine aG a3 ?_;cases hxy:bT x y;refine Wk ?_;kernel_rfl;simp only[ew,go_sem,seval];exact⟨by kernel_rfl,g1,g5,rfl⟩
end
end
section
theorem bG{op:List UInt8}{p:OV}{r:AV}(h:k7 op=some p)(hr:∃nl cl,r = .tup [.sl nl (p.params.map .str) cl,.str p.result,.bool true]):oD op r:=by simp only[oD,h];exact hr
theorem EY{op:List UInt8}{r:AV}(h:k7 op=none)(hr:r = .tup [.sl true [] true,.str [],.bool false]):oD op r:=by simp only[oD,h];exact hr
section
variable{pg:Pg}
theorem c125(hf:pg.fs 125=some D4)(op:List UInt8):bZ pg 125 [.str op] (oD op):=by
 refine bZ.ofX hf ?_;unfold D4;cases b0:decide (op=[97,100,100])
 case true=>have hop:op=[97,100,100]:=aR b0;simp only[b0,go_sem,seval];subst hop;exact bG rfl ⟨_,_,rfl⟩
 case false=>
 cases b1:decide (op=[115,117,98])
 case true=>have hop:op=[115,117,98]:=aR b1;simp only[b0,b1,go_sem,seval];subst hop;exact bG rfl ⟨_,_,rfl⟩
 case false=>
 cases b2:decide (op=[109,117,108])
 case true=>have hop:op=[109,117,108]:=aR b2;simp only[b0,b1,b2,go_sem,seval];subst hop;exact bG rfl ⟨_,_,rfl⟩
 case false=>
 cases b3:decide (op=[100,105,118])
 case true=>have hop:op=[100,105,118]:=aR b3;simp only[b0,b1,b2,b3,go_sem,seval];subst hop;exact bG rfl ⟨_,_,rfl⟩
 case false=>
 cases b4:decide (op=[109,111,100])
 case true=>have hop:op=[109,111,100]:=aR b4;simp only[b0,b1,b2,b3,b4,go_sem,seval];subst hop;exact bG rfl ⟨_,_,rfl⟩
 case false=>
 cases b5:decide (op=[109,105,110])
 case true=>have hop:op=[109,105,110]:=aR b5;simp only[b0,b1,b2,b3,b4,b5,go_sem,seval];subst hop;exact bG rfl ⟨_,_,rfl⟩
 case false=>
 cases b6:decide (op=[109,97,120])
 case true=>have hop:op=[109,97,120]:=aR b6;simp only[b0,b1,b2,b3,b4,b5,b6,go_sem,seval];subst hop;exact bG rfl ⟨_,_,rfl⟩
 case false=>
 cases b7:decide (op=[110,101,103])
 case true=>have hop:op=[110,101,103]:=aR b7;simp only[b0,b1,b2,b3,b4,b5,b6,b7,go_sem,seval];subst hop;exact bG rfl ⟨_,_,rfl⟩
 case false=>
 cases b8:decide (op=[97,98,115])
 case true=>have hop:op=[97,98,115]:=aR b8;simp only[b0,b1,b2,b3,b4,b5,b6,b7,b8,go_sem,seval];subst hop;exact bG rfl ⟨_,_,rfl⟩
 case false=>
 cases b9:decide (op=[115,105,103,110])
 case true=>have hop:op=[115,105,103,110]:=aR b9;simp only[b0,b1,b2,b3,b4,b5,b6,b7,b8,b9,go_sem,seval];subst hop;exact bG rfl ⟨_,_,rfl⟩
 case false=>
 cases b10:decide (op=[108,116])
 case true=>have hop:op=[108,116]:=aR b10;simp only[b0,b1,b2,b3,b4,b5,b6,b7,b8,b9,b10,go_sem,seval];subst hop;exact bG rfl ⟨_,_,rfl⟩
 case false=>
 cases b11:decide (op=[108,101])
 case true=>have hop:op=[108,101]:=aR b11;simp only[b0,b1,b2,b3,b4,b5,b6,b7,b8,b9,b10,b11,go_sem,seval];subst hop;exact bG rfl ⟨_,_,rfl⟩
 case false=>
 cases b12:decide (op=[103,116])
 case true=>have hop:op=[103,116]:=aR b12;simp only[b0,b1,b2,b3,b4,b5,b6,b7,b8,b9,b10,b11,b12,go_sem,seval];subst hop;exact bG rfl ⟨_,_,rfl⟩
 case false=>
 cases b13:decide (op=[103,101])
 case true=>have hop:op=[103,101]:=aR b13;simp only[b0,b1,b2,b3,b4,b5,b6,b7,b8,b9,b10,b11,b12,b13,go_sem,seval];subst hop;exact bG rfl ⟨_,_,rfl⟩
 case false=>
 cases b14:decide (op=[101,113])
 case true=>have hop:op=[101,113]:=aR b14;simp only[b0,b1,b2,b3,b4,b5,b6,b7,b8,b9,b10,b11,b12,b13,b14,go_sem,seval];subst hop;exact bG rfl ⟨_,_,rfl⟩
 case false=>
 cases b15:decide (op=[110,101])
 case true=>have hop:op=[110,101]:=aR b15;simp only[b0,b1,b2,b3,b4,b5,b6,b7,b8,b9,b10,b11,b12,b13,b14,b15,go_sem,seval];subst hop;exact bG rfl ⟨_,_,rfl⟩
 case false=>
 cases b16:decide (op=[97,110,100])
 case true=>have hop:op=[97,110,100]:=aR b16;simp only[b0,b1,b2,b3,b4,b5,b6,b7,b8,b9,b10,b11,b12,b13,b14,b15,b16,go_sem,seval];subst hop;exact bG rfl ⟨_,_,rfl⟩
 case false=>
 cases b17:decide (op=[111,114])
 case true=>have hop:op=[111,114]:=aR b17;simp only[b0,b1,b2,b3,b4,b5,b6,b7,b8,b9,b10,b11,b12,b13,b14,b15,b16,b17,go_sem,seval];subst hop;exact bG rfl ⟨_,_,rfl⟩
 case false=>
 cases b18:decide (op=[120,111,114])
 case true=>have hop:op=[120,111,114]:=aR b18;simp only[b0,b1,b2,b3,b4,b5,b6,b7,b8,b9,b10,b11,b12,b13,b14,b15,b16,b17,b18,go_sem,seval];subst hop;exact bG rfl ⟨_,_,rfl⟩
 case false=>
 cases b19:decide (op=[110,111,116])
 case true=>have hop:op=[110,111,116]:=aR b19;simp only[b0,b1,b2,b3,b4,b5,b6,b7,b8,b9,b10,b11,b12,b13,b14,b15,b16,b17,b18,b19,go_sem,seval];subst hop;exact bG rfl ⟨_,_,rfl⟩
 case false=>
 cases b20:decide (op=[115,101,108,101,99,116])
 case true=>have hop:op=[115,101,108,101,99,116]:=aR b20;simp only[b0,b1,b2,b3,b4,b5,b6,b7,b8,b9,b10,b11,b12,b13,b14,b15,b16,b17,b18,b19,b20,go_sem,seval];subst hop;exact bG rfl ⟨_,_,rfl⟩
 case false=>
 cases b21:decide (op=[116,111,105,110,116])
 case true=>have hop:op=[116,111,105,110,116]:=aR b21;simp only[b0,b1,b2,b3,b4,b5,b6,b7,b8,b9,b10,b11,b12,b13,b14,b15,b16,b17,b18,b19,b20,b21,go_sem,seval];subst hop;exact bG rfl ⟨_,_,rfl⟩
 case false=>
 simp only[b0,b1,b2,b3,b4,b5,b6,b7,b8,b9,b10,b11,b12,b13,b14,b15,b16,b17,b18,b19,b20,b21,go_sem,seval];refine EY ?_ rfl;have n0:decide ([97,100,100]=op)=false:=by rw[<-b0,cJ];exact eq_comm
 have n1:decide ([115,117,98]=op)=false:=by rw[<-b1,cJ];exact eq_comm
 have n2:decide ([109,117,108]=op)=false:=by rw[<-b2,cJ];exact eq_comm
 have n3:decide ([100,105,118]=op)=false:=by rw[<-b3,cJ];exact eq_comm
 have n4:decide ([109,111,100]=op)=false:=by rw[<-b4,cJ];exact eq_comm
 have n5:decide ([109,105,110]=op)=false:=by rw[<-b5,cJ];exact eq_comm
 have n6:decide ([109,97,120]=op)=false:=by rw[<-b6,cJ];exact eq_comm
 have n7:decide ([110,101,103]=op)=false:=by rw[<-b7,cJ];exact eq_comm
 have n8:decide ([97,98,115]=op)=false:=by rw[<-b8,cJ];exact eq_comm
 have n9:decide ([115,105,103,110]=op)=false:=by rw[<-b9,cJ];exact eq_comm
 have n10:decide ([108,116]=op)=false:=by rw[<-b10,cJ];exact eq_comm
 have n11:decide ([108,101]=op)=false:=by rw[<-b11,cJ];exact eq_comm
 have n12:decide ([103,116]=op)=false:=by rw[<-b12,cJ];exact eq_comm
 have n13:decide ([103,101]=op)=false:=by rw[<-b13,cJ];exact eq_comm
 have n14:decide ([101,113]=op)=false:=by rw[<-b14,cJ];exact eq_comm
 have n15:decide ([110,101]=op)=false:=by rw[<-b15,cJ];exact eq_comm
 have n16:decide ([97,110,100]=op)=false:=by rw[<-b16,cJ];exact eq_comm
 have n17:decide ([111,114]=op)=false:=by rw[<-b17,cJ];exact eq_comm
 have n18:decide ([120,111,114]=op)=false:=by rw[<-b18,cJ];exact eq_comm
 have n19:decide ([110,111,116]=op)=false:=by rw[<-b19,cJ];exact eq_comm
 have n20:decide ([115,101,108,101,99,116]=op)=false:=by rw[<-b20,cJ];exact eq_comm
 have n21:decide ([116,111,105,110,116]=op)=false:=by rw[<-b21,cJ];exact eq_comm
 simp only[k7,B9,List.find?_cons,List.find?_nil,n0,n1,n2,n3,n4,n5,n6,n7,n8,n9,n10,n11,n12,n13,n14,n15,n16,n17,n18,n19,n20,n21]
theorem B1(n:Int)(s:aJ)(r:List aJ):cV n (s::r)=(mN s n&&cV (n+1) r):=rfl
set_option maxHeartbeats 1000000 in
theorem ED(h124:pg.fs 124=some oA)(h125:∀op,bZ pg 125 [.str op] (oD op))(nl cl:Bool)(fn:List aJ)(hb:fn.length<=big)(n:Int)(g1:0<=n)(g2:n<=20)(g3:(fn.length:Int)<=60)
  (d:List aJ) (x:aJ) (r:List aJ) (hp:Hp) (hes:fn=d++x::r) (hI:cV n fn=cV (n+d.length) (x::r)) :
  XX pg 0 kX ⟨jC (.sl nl (fn.map aJ.av) cl) (.int .i64 n) (.int .i64 d.length),hp⟩
   (jQ (λst'=>clear M0 st'.env=jC (.sl nl (fn.map aJ.av) cl) (.int .i64 n) (.int .i64 (d++[x]).length)/\cV n fn=cV (n+(d++[x]).length) r)
    (l3 0 (jQ (λst'=>XX pg 0 (.seq (.reg [⟨some 4,.mov,[.c (.bool true)],none,0,0⟩] false) .ret) st' (C8 [.inl 4] (.bool (cV n fn))) ⟨⟩) (C8 [.inl 4] (.bool (cV n fn)))))) ⟨⟩:=by
 obtain⟨hget,e1,e2,ew⟩:=cM hes hb;rw[B1]at hI;have en:n+((d++[x]).length:Int)=n+d.length+1:=by simp;omega
 have hdl:d.length<fn.length:=by rw[hes];simp
 have hw:wr .i64 (n+(d.length:Int))=n+d.length:=eB (by omega) (by omega);rw[en];rw[hI];clear hI;cases o1:decide (x.op.bs=[99,111,110,115,116])
 case true=>
  have hs:mN x (n+d.length)=(decide ((x.args.es.length:Int)=0)&&kL x.num):=by simp[mN,aR o1]
  rw[hs];cases o2:decide ((x.args.es.length:Int)=0)
  case false=>simp only[kX,jC,e1,e2,hget,o1,o2,go_sem,seval]
  case true=>simp only[kX,jC,e1,e2,hget,o1,o2,go_sem,seval];refine aG (aGX h124 x.num) ?_;cases o3:kL x.num;simp only[go_sem,seval];simp only[ew,go_sem,seval];rfl
 case false=>
 cases o2:decide (x.op.bs=[116,114,117,116,104])
 case true=>
  have hs:mN x (n+d.length)=(decide ((x.args.es.length:Int)=0)&&pN x.num):=by have h1:=aR o2;simp[mN,h1]
  rw[hs];cases o3:decide ((x.args.es.length:Int)=0)
  case false=>simp only[kX,jC,e1,e2,hget,o1,o2,o3,go_sem,seval]
  case true=>simp only[kX,jC,e1,e2,hget,o1,o2,o3,go_sem,seval];refine aG (aSW h124 x.num) ?_;cases o4:pN x.num;simp only[go_sem,seval];simp only[ew,go_sem,seval];rfl
 case false=>
 obtain⟨rr,hr,hP⟩:=h125 x.op.bs
 have hs:mN x (n+d.length)=(match k7 x.op.bs with
  |none=>false
  |some p=>m9 x.args.es (n+d.length)&&decide (x.num=0)&&decide ((x.args.es.length:Int)=(p.params.length:Int))):=by
  have h1:=bQ o1;have h2:=bQ o2;simp only[mN,h1,h2,if_false];rfl
 rw[hs];clear hs;simp only[oD]at hP;cases hpt:k7 x.op.bs with
 |none=>rw[hpt]at hP;dsimp only at hP;subst hP;simp only[kX,jC,e1,e2,hget,o1,o2,go_sem,seval];refine aG hr ?_;simp only[go_sem,seval]
 |some p=>
  rw[hpt]at hP;dsimp only at hP;obtain⟨nl2,cl2,rfl⟩:=hP;dsimp only;simp only[kX,jC,e1,e2,hget,o1,o2,go_sem,seval];refine aG hr ?_;cases o3:decide ((x.args.es.length:Int)=(p.params.length:Int))
  case false=>simp only[o3,go_sem,seval]
  case true=>
  cases o4:decide (x.num=0)
  case false=>simp only[o3,o4,go_sem,seval]
  case true=>
  simp only[o3,o4,go_sem,seval];have hab:=x.args.ok
  refine aY x.args.es (λd2 r2 env hp2=>env=vF (.sl nl (fn.map aJ.av) cl) (.int .i64 n) (.int .i64 d.length) (.pt 1 (hp.next 1) 0) (.int .i64 d2.length) /\
   hp2.get 1=some (hp.next 1,.blk [.str x.op.bs,.int .i64 x.num,.sl x.args.nl (x.args.es.map bL) x.args.cl] 3 true true false)/\m9 x.args.es (n+d.length)=m9 r2 (n+d.length)) ?_ ?_ ?_
  refine⟨rfl,?_,rfl⟩;simp only[go_sem,seval];rintro env hp2 ⟨rfl,h1,hI⟩;simp only[vE,vF,h1,bA,ew,go_sem,seval];refine⟨rfl,?_⟩;rw[hI];simp[m9]
  ·rintro d2 a r2 env hp2 he2 ⟨rfl,h1,hI⟩;obtain⟨hget2,f1,f2,fw⟩:=cM he2 hab;have hI2:m9 x.args.es (n+d.length)=((decide (0<=a)&&decide (a<n+d.length))&&m9 r2 (n+d.length)):=by rw[hI];simp[m9]
   rw[hI2];clear hI hI2;cases q1:decide (a<0)
   case true=>
    have:decide (0<=a)=false:=by simp at q1 ⊢;omega
    simp only[vE,vF,h1,f1,f2,hget2,q1,this,go_sem,seval]
   case false=>
   cases q2:decide (n+(d.length:Int)<=a)
   case true=>
    have:decide (a<n+d.length)=false:=by simp at q2 ⊢;omega
    simp only[vE,vF,h1,f1,f2,hget2,q1,hw,q2,this,go_sem,seval]
   case false=>
    have h3:decide (0<=a)=true:=by simp at q1 ⊢;omega
    have h4:decide (a<n+d.length)=true:=by simp at q2 ⊢;omega
    simp only[vE,vF,h1,f1,f2,hget2,q1,hw,q2,h3,h4,fw,go_sem,seval];rfl
set_option maxHeartbeats 1000000 in
theorem c87(hf:pg.fs 87=some M1)(h124:pg.fs 124=some oA)(h125:∀op,bZ pg 125 [.str op] (oD op))(nl cl:Bool)(fn:List aJ)(hb:fn.length<=big)(n:Int) :
  Ret pg 87 [.sl nl (fn.map aJ.av) cl,.int .i64 n] (.bool (dH fn n)):=by
 refine Ret.ofX hf ?_;unfold M1;cases h1:decide (n<0)
 case true=>
  simp only[h1,go_sem,seval];have:decide (0<=n)=false:=by simp at h1 ⊢;omega
  simp[dH,this]
 case false=>
 cases h2:decide (20<n)
 case true=>
  simp only[h1,h2,go_sem,seval];have:decide (n<=20)=false:=by simp at h2 ⊢;omega
  simp[dH,this]
 case false=>
 cases h3:decide (60<(fn.length:Int))
 case true=>
  simp only[h1,h2,h3,go_sem,seval];have:decide ((fn.length:Int)<=60)=false:=by simp at h3 ⊢;omega
  simp[dH,this]
 case false=>
 have g1:=bQ h1;have g2:=bQ h2;have g3:=bQ h3;have hspec:decide (n+(fn.length:Int)=0)=false->dH fn n=cV n fn:=by
  intro h4;have e1:decide (0<=n)=true:=by simp;omega
  have e2:decide (n<=20)=true:=by simp;omega
  have e3:decide ((fn.length:Int)<=60)=true:=by simp;omega
  simp[dH,h4,e1,e2,e3]
 cases h4:decide (n=0)
 case true=>
  cases h5:decide ((fn.length:Int)=0)
  case true=>
   simp only[h1,h2,h3,h4,h5,go_sem,seval];have:decide (n+(fn.length:Int)=0)=true:=by simp at h4 h5 ⊢;simp[h4,h5]
   simp[dH,this]
  case false=>have hs:=hspec (by simp at h4 h5 ⊢;subst h4;simpa using h5);rw[hs];clear hs hspec;simp only[h1,h2,h3,h4,h5,go_sem,seval];refine aY fn (λd r env hp=>env=jC (.sl nl (fn.map aJ.av) cl) (.int .i64 n) (.int .i64 d.length)/\cV n fn=cV (n+d.length) r) ?_ ?_ ?_;exact⟨rfl,by simp⟩;rintro env hp ⟨rfl,hI⟩;simp only[kX,jC,bA,go_sem,seval];rw[hI];rfl;rintro d x r env hp hes ⟨rfl,hI⟩;exact ED h124 h125 nl cl fn hb n (by omega) (by omega) (by omega) d x r hp hes hI
 case false=>have hs:=hspec (by simp at h4 ⊢;omega);rw[hs];clear hs hspec;simp only[h1,h2,h3,h4,go_sem,seval];refine aY fn (λd r env hp=>env=jC (.sl nl (fn.map aJ.av) cl) (.int .i64 n) (.int .i64 d.length)/\cV n fn=cV (n+d.length) r) ?_ ?_ ?_;exact⟨rfl,by simp⟩;rintro env hp ⟨rfl,hI⟩;simp only[kX,jC,bA,go_sem,seval];rw[hI];rfl;rintro d x r env hp hes ⟨rfl,hI⟩;exact ED h124 h125 nl cl fn hb n (by omega) (by omega) (by omega) d x r hp hes hI
end
end
section
def gZ(p:aE)(num value:Int)(name:Str)(at_:Sl Lin)(dyn:Bool)(check:Int)(fn:Sl aJ):aE:=.mk p.op num value name at_ dyn check fn p.knl p.kids p.kcl
theorem gX(p:aE)(num value:Int)(name:Str)(at_:Sl Lin)(dyn:Bool)(check:Int)(fn:Sl aJ):(gZ p num value name at_ dyn check fn).op=p.op:=rfl
theorem fO(p:aE)(num value:Int)(name:Str)(at_:Sl Lin)(dyn:Bool)(check:Int)(fn:Sl aJ):(gZ p num value name at_ dyn check fn).num=num:=rfl
theorem dK(p:aE)(num value:Int)(name:Str)(at_:Sl Lin)(dyn:Bool)(check:Int)(fn:Sl aJ):(gZ p num value name at_ dyn check fn).value=value:=rfl
theorem eM(p:aE)(num value:Int)(name:Str)(at_:Sl Lin)(dyn:Bool)(check:Int)(fn:Sl aJ):(gZ p num value name at_ dyn check fn).name=name:=rfl
theorem fQ(p:aE)(num value:Int)(name:Str)(at_:Sl Lin)(dyn:Bool)(check:Int)(fn:Sl aJ):(gZ p num value name at_ dyn check fn).at_=at_:=rfl
theorem fP(p:aE)(num value:Int)(name:Str)(at_:Sl Lin)(dyn:Bool)(check:Int)(fn:Sl aJ):(gZ p num value name at_ dyn check fn).dyn=dyn:=rfl
theorem dQ(p:aE)(num value:Int)(name:Str)(at_:Sl Lin)(dyn:Bool)(check:Int)(fn:Sl aJ):(gZ p num value name at_ dyn check fn).check=check:=rfl
theorem gY(p:aE)(num value:Int)(name:Str)(at_:Sl Lin)(dyn:Bool)(check:Int)(fn:Sl aJ):(gZ p num value name at_ dyn check fn).fn=fn:=rfl
theorem eN(p:aE)(num value:Int)(name:Str)(at_:Sl Lin)(dyn:Bool)(check:Int)(fn:Sl aJ):(gZ p num value name at_ dyn check fn).kids=p.kids:=rfl
theorem gR(p:aE)(num value:Int)(name:Str)(at_:Sl Lin)(dyn:Bool)(check:Int)(fn:Sl aJ):(gZ p num value name at_ dyn check fn).knl=p.knl:=rfl
theorem gS(p:aE)(num value:Int)(name:Str)(at_:Sl Lin)(dyn:Bool)(check:Int)(fn:Sl aJ):(gZ p num value name at_ dyn check fn).kcl=p.kcl:=rfl
theorem jV(p:aE)(num value:Int)(name:Str)(at_:Sl Lin)(dyn:Bool)(check:Int)(fn:Sl aJ) :
  bT p (gZ p num value name at_ dyn check fn)=(decide (p.num=num)&&decide (p.value=value)&&decide (p.name.bs=name.bs)&&(p.dyn==dyn)&&decide (p.check=check)&&eqL bU p.at_.es at_.es&&eqL gK p.fn.es fn.es):=by
 rw[iL,fG];simp only[gX,fO,dK,eM,fQ,fP,dQ,gY,eN];rw[cP mT];simp;rfl
theorem bq1:(true==false)=false:=rfl
theorem bq2:(false==false)=true:=rfl
theorem bq3:(true==true)=true:=rfl
def c7(p:aE):aE:=
 if p.op.bs=[99,111,110,115,116] then gZ p p.num 0 eI (fH Lin) false 0 (fH aJ)
 else if p.op.bs=[108,105,110,101,97,114] then gZ p 0 0 eI p.at_ false 0 (fH aJ)
 else if p.op.bs=[114,101,97,100] then gZ p 0 p.value eI p.at_ p.dyn (if p.dyn then p.check else 0) (fH aJ)
 else if p.op.bs=[105,102] then gZ p 0 0 eI p.at_ false 0 (fH aJ)
 else if p.op.bs=[114,101,100,117,99,101] then gZ p 0 0 p.name p.at_ false 0 p.fn
 else if p.op.bs=[99,111,100,101] then gZ p 0 0 eI (fH Lin) false 0 p.fn
 else gZ p 0 0 eI (fH Lin) false 0 (fH aJ)
def eA(p:aE):Bool:=
 if p.op.bs=[99,111,110,115,116] then decide ((p.kids.length:Int)=0)&&decide ((p.at_.es.length:Int)=0)
 else if p.op.bs=[108,105,110,101,97,114] then decide ((p.kids.length:Int)=0)&&decide ((p.at_.es.length:Int)=1)
 else if p.op.bs=[114,101,97,100] then
  (if p.dyn then decide ((p.kids.length:Int)=1)&&decide ((p.at_.es.length:Int)<=5) else decide ((p.kids.length:Int)=0)&&decide ((p.at_.es.length:Int)<=6))
 else if p.op.bs=[105,102] then decide ((p.kids.length:Int)=2)&&decide ((p.at_.es.length:Int)=1)
 else if p.op.bs=[114,101,100,117,99,101] then decide ((p.kids.length:Int)=2)&&decide ((p.at_.es.length:Int)=1)
 else if p.op.bs=[99,111,100,101] then decide ((p.kids.length:Int)<=20)&&decide ((p.at_.es.length:Int)=0)
 else match k7 p.op.bs with
  |none=>false
  |some q=>decide ((p.kids.length:Int)=(q.params.length:Int))&&decide ((p.at_.es.length:Int)=0)
def kT(p:aE)(vars:List Str)(v:Int):Bool:=
 if p.op.bs=[99,111,110,115,116] then kL p.num
 else if p.op.bs=[114,101,97,100] then decide (0<=p.value)&&decide (p.value<v)&&decide (0<=p.check)
 else if p.op.bs=[114,101,100,117,99,101] then c8 p.name.bs && !cN vars p.name.bs&&dH p.fn.es 2
 else if p.op.bs=[99,111,100,101] then dH p.fn.es p.kids.length
 else true
theorem EU(p:aE)(vars:List Str)(v:Int):(eA p&&bT p (c7 p)&&kT p vars v)=iP p vars v:=by
 by_cases o1:p.op.bs=[99,111,110,115,116]
 simp only[eA,c7,kT,iP,o1,if_true,jV,fH,eI,nF,fL];cases p.dyn<;>simp only[bq1,bq2,bq3,Bool.not_true,Bool.not_false,Bool.false_or,Bool.true_or,Bool.false_and,Bool.and_false,Bool.true_and,Bool.and_true,decide_true]
 (refine Bool.eq_iff_iff.2 ?_;simp only[aF];constructor<;>(intro h;simp only[h,and_self]))
 by_cases o2:p.op.bs=[108,105,110,101,97,114]
 have n1:¬p.op.bs=[114,101,97,100]:=by rw[o2];decide
 have n2:¬p.op.bs=[114,101,100,117,99,101]:=by rw[o2];decide
 have n3:¬p.op.bs=[99,111,100,101]:=by rw[o2];decide
 simp only[eA,c7,kT,iP,o1,n1,n2,n3,if_false];simp only[o2,if_true,jV,fH,eI,nF,fL,cP eO];cases p.dyn<;>simp only[bq1,bq2,bq3,Bool.not_true,Bool.not_false,Bool.false_or,Bool.true_or,Bool.false_and,Bool.and_false,Bool.true_and,Bool.and_true]
 (refine Bool.eq_iff_iff.2 ?_;simp only[aF];constructor<;>(intro h;simp only[h,and_self]))
 by_cases o3:p.op.bs=[114,101,97,100]
 simp only[eA,c7,kT,iP,o1,o2,if_false];simp only[o3,if_true,jV,fH,eI,nF,fL,cP eO,tJ];cases p.dyn<;>simp only[bq1,bq2,bq3,Bool.not_true,Bool.not_false,Bool.false_or,Bool.true_or,Bool.false_and,Bool.and_false,Bool.true_and,Bool.and_true,Bool.false_eq_true,if_true,if_false,decide_true];cases h:decide (p.check=0);simp;have:decide (0<=p.check)=true:=by simp at h ⊢;omega
 simp only[this,Bool.and_true,Bool.true_and]
 (refine Bool.eq_iff_iff.2 ?_;simp only[aF];constructor<;>(intro h;simp only[h,and_self]))
 (refine Bool.eq_iff_iff.2 ?_;simp only[aF];constructor<;>(intro h;simp only[h,and_self]))
 by_cases o4:p.op.bs=[105,102]
 have n2:¬p.op.bs=[114,101,100,117,99,101]:=by rw[o4];decide
 have n3:¬p.op.bs=[99,111,100,101]:=by rw[o4];decide
 simp only[eA,c7,kT,iP,o1,o2,o3,n2,n3,if_false];simp only[o4,if_true,jV,fH,eI,nF,fL,cP eO];cases p.dyn<;>simp only[bq1,bq2,bq3,Bool.not_true,Bool.not_false,Bool.false_or,Bool.true_or,Bool.false_and,Bool.and_false,Bool.true_and,Bool.and_true]
 (refine Bool.eq_iff_iff.2 ?_;simp only[aF];constructor<;>(intro h;simp only[h,and_self]))
 by_cases o5:p.op.bs=[114,101,100,117,99,101]
 simp only[eA,c7,kT,iP,o1,o2,o3,o4,if_false];simp only[o5,if_true,jV,fH,eI,fL,cP eO,cP mO];cases p.dyn<;>simp only[bq1,bq2,bq3,Bool.not_true,Bool.not_false,Bool.false_or,Bool.true_or,Bool.false_and,Bool.and_false,Bool.true_and,Bool.and_true,decide_true]
 (refine Bool.eq_iff_iff.2 ?_;simp only[aF];constructor<;>(intro h;simp only[h,and_self]))
 by_cases o6:p.op.bs=[99,111,100,101]
 simp only[eA,c7,kT,iP,o1,o2,o3,o4,o5,if_false];simp only[o6,if_true,jV,fH,eI,fL,nF,cP mO];have hc:(decide ((p.kids.length:Int)<=20)&&dH p.fn.es p.kids.length)=dH p.fn.es p.kids.length:=by simp only[dH];cases decide ((p.kids.length:Int)<=20)<;>simp
 rw[<-hc];cases p.dyn<;>simp only[bq1,bq2,bq3,Bool.not_true,Bool.not_false,Bool.false_or,Bool.true_or,Bool.false_and,Bool.and_false,Bool.true_and,Bool.and_true,decide_true];cases decide ((p.kids.length:Int)<=20)<;>simp only[Bool.false_and,Bool.true_and,Bool.and_false]
 (refine Bool.eq_iff_iff.2 ?_;simp only[aF];constructor<;>(intro h;simp only[h,and_self]))
 simp only[eA,c7,kT,iP,o1,o2,o3,o4,o5,o6,if_false];cases hpt:k7 p.op.bs with
 |none=>simp
 |some q=>
  simp only[jV,fH,eI,fL,nF];cases p.dyn<;>simp only[bq1,bq2,bq3,Bool.not_true,Bool.not_false,Bool.false_or,Bool.true_or,Bool.false_and,Bool.and_false,Bool.true_and,Bool.and_true,decide_true]
  (refine Bool.eq_iff_iff.2 ?_;simp only[aF];constructor<;>(intro h;simp only[h,and_self]))
theorem mnA(a b:Int):(mC min2 (.int .i64 a) [.int .i64 b]).bind val=val (.int .i64 (if b<a then b else a)):=by simp[mC,min2]
theorem lS(n m:Int):decide (n=if m<n then m else n)=decide (n<=m):=by rw[cJ];split<;>omega
section
variable{pg:Pg}
set_option maxHeartbeats 1000000 in
theorem c192(hf:pg.fs 192=some D1)(h125:∀op,bZ pg 125 [.str op] (oD op))(p:aE):Ret pg 192 [p.av] (.tup [(c7 p).av,.bool (eA p)]):=by
 refine Ret.ofX hf ?_;unfold D1;cases o0:decide (p.op.bs=[99,111,110,115,116])
 case true=>
  have h0:=aR o0;have hP:(c7 p).av = .agg [.str p.op.bs,.int .i64 p.num,.int .i64 0,.str [],.sl true [] true,.bool false,.int .i64 0,.sl true [] true,.sl p.knl (p.kids.map aE.av) p.kcl]:=by rw[aE.avc];simp only[c7];simp only[h0,if_true,if_false,gX,fO,dK,eM,fQ,fP,dQ,gY,eN,gR,gS,eI,fH,List.map_nil]
  have hB:eA p=(decide ((p.kids.length:Int)=0)&&decide ((p.at_.es.length:Int)=0)):=by simp only[eA];simp only[h0,if_true,if_false]
  rw[hP,hB];clear hP hB h125;cases k1:decide ((p.kids.length:Int)=0);simp only[o0,k1,go_sem,seval];show _=true;kernel_rfl;cases k2:decide ((p.at_.es.length:Int)=0);simp only[o0,k1,k2,go_sem,seval];show _=true;kernel_rfl;simp only[o0,k1,k2,go_sem,seval];show _=true;kernel_rfl
 case false=>
 have h0:=bQ o0;cases o1:decide (p.op.bs=[108,105,110,101,97,114])
 case true=>
  have h1:=aR o1;have hP:(c7 p).av = .agg [.str p.op.bs,.int .i64 0,.int .i64 0,.str [],.sl p.at_.nl (p.at_.es.map Lin.av) p.at_.cl,.bool false,.int .i64 0,.sl true [] true,.sl p.knl (p.kids.map aE.av) p.kcl]:=by rw[aE.avc];simp only[c7,h0,if_false];simp only[h1,if_true,if_false,gX,fO,dK,eM,fQ,fP,dQ,gY,eN,gR,gS,eI,fH,List.map_nil]
  have hB:eA p=(decide ((p.kids.length:Int)=0)&&decide ((p.at_.es.length:Int)=1)):=by simp only[eA,h0,if_false];simp only[h1,if_true,if_false]
  rw[hP,hB];clear hP hB h125;cases k1:decide ((p.kids.length:Int)=0);simp only[o0,o1,k1,go_sem,seval];show _=true;kernel_rfl;cases k2:decide ((p.at_.es.length:Int)=1);simp only[o0,o1,k1,k2,go_sem,seval];show _=true;kernel_rfl;simp only[o0,o1,k1,k2,go_sem,seval];show _=true;kernel_rfl
 case false=>
 have h1:=bQ o1;cases o2:decide (p.op.bs=[114,101,97,100])
 case true=>
  have h2:=aR o2;cases hd:p.dyn
  case true=>
   have hP:(c7 p).av = .agg [.str p.op.bs,.int .i64 0,.int .i64 p.value,.str [],.sl p.at_.nl (p.at_.es.map Lin.av) p.at_.cl,.bool true,.int .i64 p.check,.sl true [] true,.sl p.knl (p.kids.map aE.av) p.kcl]:=by rw[aE.avc];simp only[c7,h0,h1,if_false];simp only[hd,h2,if_true,if_false,gX,fO,dK,eM,fQ,fP,dQ,gY,eN,gR,gS,eI,fH,List.map_nil]
   have hB:eA p=(decide ((p.kids.length:Int)=1)&&decide ((p.at_.es.length:Int)<=5)):=by simp only[eA,h0,h1,if_false];simp only[hd,h2,if_true,if_false]
   rw[hP,hB];clear hP hB h125;cases k1:decide ((p.kids.length:Int)=1)
   ·repeat (first|simp only[o0,o1,o2,hd,mnA,lS,k1,go_sem,seval]|refine cC ?_)
    show _=true;kernel_rfl
   cases k2:decide ((p.at_.es.length:Int)<=5)
   ·repeat (first|simp only[o0,o1,o2,hd,mnA,lS,k1,k2,go_sem,seval]|refine cC ?_)
    show _=true;kernel_rfl
   ·repeat (first|simp only[o0,o1,o2,hd,mnA,lS,k1,k2,go_sem,seval]|refine cC ?_)
    show _=true;kernel_rfl
  case false=>
   have hP:(c7 p).av = .agg [.str p.op.bs,.int .i64 0,.int .i64 p.value,.str [],.sl p.at_.nl (p.at_.es.map Lin.av) p.at_.cl,.bool false,.int .i64 0,.sl true [] true,.sl p.knl (p.kids.map aE.av) p.kcl]:=by rw[aE.avc];simp only[c7,h0,h1,if_false];simp only[hd,Bool.false_eq_true,h2,if_true,if_false,gX,fO,dK,eM,fQ,fP,dQ,gY,eN,gR,gS,eI,fH,List.map_nil]
   have hB:eA p=(decide ((p.kids.length:Int)=0)&&decide ((p.at_.es.length:Int)<=6)):=by simp only[eA,h0,h1,if_false];simp only[hd,Bool.false_eq_true,h2,if_true,if_false]
   rw[hP,hB];clear hP hB h125;cases k1:decide ((p.kids.length:Int)=0)
   ·repeat (first|simp only[o0,o1,o2,hd,mnA,lS,k1,go_sem,seval]|refine cC ?_)
    show _=true;kernel_rfl
   cases k2:decide ((p.at_.es.length:Int)<=6)
   ·repeat (first|simp only[o0,o1,o2,hd,mnA,lS,k1,k2,go_sem,seval]|refine cC ?_)
    show _=true;kernel_rfl
   ·repeat (first|simp only[o0,o1,o2,hd,mnA,lS,k1,k2,go_sem,seval]|refine cC ?_)
    show _=true;kernel_rfl
 case false=>
 have h2:=bQ o2;cases o3:decide (p.op.bs=[105,102])
 case true=>
  have h3:=aR o3;have hP:(c7 p).av = .agg [.str p.op.bs,.int .i64 0,.int .i64 0,.str [],.sl p.at_.nl (p.at_.es.map Lin.av) p.at_.cl,.bool false,.int .i64 0,.sl true [] true,.sl p.knl (p.kids.map aE.av) p.kcl]:=by rw[aE.avc];simp only[c7,h0,h1,h2,if_false];simp only[h3,if_true,if_false,gX,fO,dK,eM,fQ,fP,dQ,gY,eN,gR,gS,eI,fH,List.map_nil]
  have hB:eA p=(decide ((p.kids.length:Int)=2)&&decide ((p.at_.es.length:Int)=1)):=by simp only[eA,h0,h1,h2,if_false];simp only[h3,if_true,if_false]
  rw[hP,hB];clear hP hB h125;cases k1:decide ((p.kids.length:Int)=2);simp only[o0,o1,o2,o3,k1,go_sem,seval];show _=true;kernel_rfl;cases k2:decide ((p.at_.es.length:Int)=1);simp only[o0,o1,o2,o3,k1,k2,go_sem,seval];show _=true;kernel_rfl;simp only[o0,o1,o2,o3,k1,k2,go_sem,seval];show _=true;kernel_rfl
 case false=>
 have h3:=bQ o3;cases o4:decide (p.op.bs=[114,101,100,117,99,101])
 case true=>
  have h4:=aR o4;have hP:(c7 p).av = .agg [.str p.op.bs,.int .i64 0,.int .i64 0,.str p.name.bs,.sl p.at_.nl (p.at_.es.map Lin.av) p.at_.cl,.bool false,.int .i64 0,.sl p.fn.nl (p.fn.es.map aJ.av) p.fn.cl,.sl p.knl (p.kids.map aE.av) p.kcl]:=by rw[aE.avc];simp only[c7,h0,h1,h2,h3,if_false];simp only[h4,if_true,if_false,gX,fO,dK,eM,fQ,fP,dQ,gY,eN,gR,gS,eI,fH,List.map_nil]
  have hB:eA p=(decide ((p.kids.length:Int)=2)&&decide ((p.at_.es.length:Int)=1)):=by simp only[eA,h0,h1,h2,h3,if_false];simp only[h4,if_true,if_false]
  rw[hP,hB];clear hP hB h125;cases k1:decide ((p.kids.length:Int)=2)
  ·repeat (first|simp only[o0,o1,o2,o3,o4,k1,go_sem,seval]|refine cC ?_)
   show _=true;kernel_rfl
  cases k2:decide ((p.at_.es.length:Int)=1)
  ·repeat (first|simp only[o0,o1,o2,o3,o4,k1,k2,go_sem,seval]|refine cC ?_)
   show _=true;kernel_rfl
  ·repeat (first|simp only[o0,o1,o2,o3,o4,k1,k2,go_sem,seval]|refine cC ?_)
   show _=true;kernel_rfl
 case false=>
 have h4:=bQ o4;cases o5:decide (p.op.bs=[99,111,100,101])
 case true=>
  have h5:=aR o5;have hP:(c7 p).av = .agg [.str p.op.bs,.int .i64 0,.int .i64 0,.str [],.sl true [] true,.bool false,.int .i64 0,.sl p.fn.nl (p.fn.es.map aJ.av) p.fn.cl,.sl p.knl (p.kids.map aE.av) p.kcl]:=by rw[aE.avc];simp only[c7,h0,h1,h2,h3,h4,if_false];simp only[h5,if_true,if_false,gX,fO,dK,eM,fQ,fP,dQ,gY,eN,gR,gS,eI,fH,List.map_nil]
  have hB:eA p=(decide ((p.kids.length:Int)<=20)&&decide ((p.at_.es.length:Int)=0)):=by simp only[eA,h0,h1,h2,h3,h4,if_false];simp only[h5,if_true,if_false]
  rw[hP,hB];clear hP hB h125;cases k1:decide ((p.kids.length:Int)<=20)
  ·repeat (first|simp only[o0,o1,o2,o3,o4,o5,mnA,lS,k1,go_sem,seval]|refine cC ?_)
   show _=true;kernel_rfl
  cases k2:decide ((p.at_.es.length:Int)=0)
  ·repeat (first|simp only[o0,o1,o2,o3,o4,o5,mnA,lS,k1,k2,go_sem,seval]|refine cC ?_)
   show _=true;kernel_rfl
  ·repeat (first|simp only[o0,o1,o2,o3,o4,o5,mnA,lS,k1,k2,go_sem,seval]|refine cC ?_)
   show _=true;kernel_rfl
 case false=>
 have h5:=bQ o5;have hP:(c7 p).av = .agg [.str p.op.bs,.int .i64 0,.int .i64 0,.str [],.sl true [] true,.bool false,.int .i64 0,.sl true [] true,.sl p.knl (p.kids.map aE.av) p.kcl]:=by rw[aE.avc];simp only[c7,h0,h1,h2,h3,h4,h5,if_false,gX,fO,dK,eM,fQ,fP,dQ,gY,eN,gR,gS,eI,fH,List.map_nil]
 have hB:eA p=(match k7 p.op.bs with
  |none=>false
  |some q=>decide ((p.kids.length:Int)=(q.params.length:Int))&&decide ((p.at_.es.length:Int)=0)):=by simp only[eA,h0,h1,h2,h3,h4,h5,if_false]
 rw[hP,hB];clear hP hB;obtain⟨rr,hr,hR⟩:=h125 p.op.bs;simp only[oD]at hR;cases hpt:k7 p.op.bs with
 |none=>rw[hpt]at hR;dsimp only at hR;subst hR;simp only[o0,o1,o2,o3,o4,o5,go_sem,seval];refine aG hr ?_;simp only[go_sem,seval]
 |some q=>rw[hpt]at hR;dsimp only at hR;obtain⟨nl2,cl2,rfl⟩:=hR;dsimp only;simp only[o0,o1,o2,o3,o4,o5,go_sem,seval];refine aG hr ?_;cases k1:decide ((p.kids.length:Int)=(q.params.length:Int));simp only[k1,go_sem,seval];show _=true;kernel_rfl;cases k2:decide ((p.at_.es.length:Int)=0);simp only[k1,k2,go_sem,seval];show _=true;kernel_rfl;simp only[k1,k2,go_sem,seval];show _=true;kernel_rfl
end
end
section
section
variable{pg:Pg}
theorem jN{kb esz bytes s:Nat}{ag:Bool}{h:Hp}{xs:List AV}{nl cl nl0:Bool}{Q:AV->Eff->Prop}{t:Tok Q}(hx:∀x∈xs,El esz ag x)(hl:xs.length<=1073741824)(hb:bytes<=65536)
  (q1:xs=[]->Q (.sl nl0 [] true) (.pat [] []))
  (q2:xs≠[]->∀cs,aP esz ag xs=some cs->Q (.rf (kb+s) (h.next (kb+s)) 0 xs.length xs.length) (.pat [kb+s] [⟨kb+s,h.next (kb+s),.blk cs esz ag false false⟩])) :
  XO pg kb (.app esz ag bytes) s h [.sl nl0 [] true,.sl nl xs cl] Q t:=by
 rw[kY];obtain⟨ds,d1,d2,d3,_⟩:=bE hx;simp only[lH,bI,d1,Option.map_some];by_cases hxs:xs=[]
 subst hxs;cases d1;simp only[fM,List.length_nil,if_true];exact q1 rfl;have hn:xs.length≠0:=by simpa using hxs
 simp only[fM,hn,if_false,List.length_nil,Nat.zero_add,Bool.or_true,Bool.true_and,hl,hb,decide_true,Bool.and_self,if_true,aP,List.nil_append];exact q2 hxs ds d1
theorem rG{kb esz bytes s k e n:Nat}{ag:Bool}{h:Hp}{cs:List AV}{es xs:List AV}{nl cl:Bool}{Q:AV->Eff->Prop}{t:Tok Q}
  (hne:n=es.length) (hg:h.get k=some (e,.blk cs esz ag false false)) (hu:aP esz ag es=some cs) (hk:(k==kb+s)=false) (he:∀x∈es,El esz ag x) (hx:∀x∈xs,El esz ag x) (hxs:xs≠[])
  (hl:es.length+xs.length<=1073741824) (hb:bytes<=65536)
  (q2:∀cs',aP esz ag (es++xs)=some cs'->Q (.rf (kb+s) (h.next (kb+s)) 0 (n+xs.length) (n+xs.length)) (.pat [kb+s,k] [⟨k,e,.dead⟩,⟨kb+s,h.next (kb+s),.blk cs' esz ag false false⟩])) :
  XO pg kb (.app esz ag bytes) s h [.rf k e 0 n n,.sl nl xs cl] Q t:=by
 subst hne;rw[kY];obtain⟨ds,d1,d2,d3,_⟩:=bE hx;simp only[lH,bI,d1,Option.map_some];have hn:xs.length≠0:=by simpa using hxs
 obtain⟨cs',c1,c2,_,_⟩:=bE he;rw[hu]at c1;cases c1;have h1:¬(es.length+xs.length<=es.length):=by omega
 simp only[fM,hg,hn,if_false,true_and,Nat.zero_add];rw[if_pos (by omega)];simp only[h1,if_false,hl,hb,decide_true,Bool.true_and,hk,Bool.not_false,if_true,Bool.false_eq_true];have h3:(List.drop 0 cs).take (es.length*esz)++ds=cs++ds:=by simp[<-c2]
 rw[h3];exact q2 _ (cG hu d1)
def aSf(hp:Hp)(nl cl:Bool)(vars:List Str)(name:Str)(red:Bool)(iv:AV):Prop:=
 (red=false/\iv = .sl nl (vars.map Str.av) cl)\/(red=true/\∃k,Own hp k 1 false iv ((vars++[name]).map Str.av))
set_option maxHeartbeats 1000000 in
theorem JS(v:Int)(p:aE)(nl cl:Bool)(vars:List Str)(hk:p.kids.length<=big)(hks:∀q∈p.kids,q.ok)(hb:vars.length+1+aE.szL p.kids<=big)
  (ih:∀q∈p.kids,q.ok->∀(nl cl:Bool)(vars:List Str),vars.length+q.sz<=big->Ret pg 164 [q.av,.sl nl (vars.map Str.av) cl,.int .i64 v] (.bool (iI v q vars)))
  (iv:AV) (red b R:Bool) (env:List AV) (hp:Hp)
  (henv:clear BF env=lY (.sl nl (vars.map Str.av) cl) (.int .i64 v) (.pt 1 0 0) (.bool b) iv (.int .i64 0))
  (g1:hp.get 1=some (0,.blk [.str p.op.bs,.int .i64 p.num,.int .i64 p.value,.str p.name.bs,.sl p.at_.nl (p.at_.es.map Lin.av) p.at_.cl,.bool p.dyn,.int .i64 p.check,.sl p.fn.nl (p.fn.es.map aJ.av) p.fn.cl,.sl p.knl (p.kids.map aE.av) p.kcl] 9 true true false))
  (hiv:aSf hp nl cl vars p.name red iv) (hR:R=(b&&fB v red p.name vars 0 p.kids)) :
  XX pg 0 (.loop lX BF) ⟨env,hp⟩
   (l3 1 (jQ (λst'=>XX pg 0 (.seq (.reg [⟨some 110,.mov,[.t 8],none,0,0⟩,⟨some 6,.mov,[.t 110],none,0,0⟩] false) .ret) st' (C8 [.inl 6] (.bool R)) ⟨⟩) (C8 [.inl 6] (.bool R)))) ⟨⟩:=by
 refine aY p.kids (λd r env hp=>∃ok:Bool,env=lY (.sl nl (vars.map Str.av) cl) (.int .i64 v) (.pt 1 0 0) (.bool ok) iv (.int .i64 d.length) /\
  hp.get 1=some (0,.blk [.str p.op.bs,.int .i64 p.num,.int .i64 p.value,.str p.name.bs,.sl p.at_.nl (p.at_.es.map Lin.av) p.at_.cl,.bool p.dyn,.int .i64 p.check,.sl p.fn.nl (p.fn.es.map aJ.av) p.fn.cl,.sl p.knl (p.kids.map aE.av) p.kcl] 9 true true false) /\
  aSf hp nl cl vars p.name red iv/\R=(ok&&fB v red p.name vars d.length r)) ?_ ?_ ?_
 exact⟨b,henv,g1,hiv,hR⟩;clear hiv g1 henv hR hp env;rintro env hp ⟨ok,rfl,g1,hiv,hR⟩;simp only[lX,lY,g1,bA,go_sem,seval];rw[hR];simp[fB]
 ·clear hiv g1 henv hR hp env;rintro d x r env hp hes ⟨ok,rfl,g1,hiv,hR⟩;obtain⟨hget,e1,e2,ew⟩:=cM hes hk;have hxm:x∈p.kids:=by rw[hes];simp
  have hxs:x.sz<=aE.szL p.kids:=aE.szL_mem hxm;have hx:=ih x hxm (hks x hxm);clear ih hks;cases ok
  case false=>simp only[lX,lY,g1,e1,go_sem,seval];rw[hR];simp
  case true=>
  simp only[fB,Bool.true_and]at hR;have hd1:fB v red p.name vars (d++[x]).length r=fB v red p.name vars (d.length+1) r:=by simp
  cases c2:decide ((d.length:Int)=1)
  case false=>have a1:=hx nl cl vars (by omega);simp only[lX,lY,g1,e1,e2,hget,c2,go_sem,seval];refine aG a1 ?_;simp only[ew,go_sem,seval];refine⟨_,rfl,g1,hiv,?_⟩;rw[hR,c2,hd1];simp
  case true=>
  rcases hiv with ⟨hr,hv⟩|⟨hr,kk,ho⟩
  have a1:=hx nl cl vars (by omega);subst hv;simp only[lX,lY,g1,e1,e2,hget,c2,go_sem,seval];refine aG a1 ?_;simp only[ew,go_sem,seval];refine⟨_,rfl,g1,.inl ⟨hr,rfl⟩,?_⟩;rw[hR,c2,hd1,hr];simp;obtain⟨nl2,cl2,keys,hsn,hnl⟩:=ho.snap (El.strs (vars++[p.name])) 62;have a1:=hx nl2 cl2 (vars++[p.name]) (by simp;omega);simp only[lX,lY,g1,e1,e2,hget,c2,go_sem,seval];refine cL a1 (lT (by simp only[go_sem,seval]) hsn (by simp only[go_sem,seval])) (v:=.bool (iI v x (vars++[p.name]))) (pa:=[]) rfl ?_;simp only[ew,go_sem,seval];refine⟨_,rfl,g1,.inr ⟨hr,kk,ho⟩,?_⟩;rw[hR,c2,hd1,hr];simp
set_option maxHeartbeats 2000000 in
theorem c164(hf:pg.fs 164=some D2)(h192:∀p:aE,Ret pg 192 [p.av] (.tup [(c7 p).av,.bool (eA p)]))
  (h118:∀p:aE,p.ok->∀q:aE,Ret pg 118 [p.av,q.av] (.bool (bT p q)))
  (h193:∀(nl cl:Bool)(ls:List Lin),ls.length<=big->∀(nl' cl':Bool)(vars:List Str),vars.length<=big->Ret pg 193 [.sl nl (ls.map Lin.av) cl,.sl nl' (vars.map Str.av) cl'] (.bool (bW ls vars)))
  (h124:pg.fs 124=some oA) (h77:∀s:Str,Ret pg 77 [.str s.bs] (.bool (c8 s.bs))) (h194:pg.fs 194=some vN)
  (h87:∀(nl cl:Bool)(fn:List aJ),fn.length<=big->∀n:Int,Ret pg 87 [.sl nl (fn.map aJ.av) cl,.int .i64 n] (.bool (dH fn n))) (v:Int) :
  ∀p:aE,p.ok->∀(nl cl:Bool)(vars:List Str),vars.length+p.sz<=big->Ret pg 164 [p.av,.sl nl (vars.map Str.av) cl,.int .i64 v] (.bool (iI v p vars)):=by
 refine aE.ind' λp ih hp nl cl vars hb=>?_;obtain⟨hk,hks⟩:=(aE.ok_iff p).1 hp;have hsz:=aE.sz_eq p;have a1:=h192 p;have a2:=h118 p hp (c7 p);rw[aE.avc p]at a1 a2;have a2':=a2;rw[aE.avc (c7 p)]at a2';have a3:=h193 p.at_.nl p.at_.cl p.at_.es p.at_.ok nl cl vars (by omega);have a4:=aGX h124 p.num;have a5:=h77 p.name;have a6:=c194 h194 nl cl vars (by omega) p.name.bs;have a7:=h87 p.fn.nl p.fn.cl p.fn.es p.fn.ok 2;have a8:=h87 p.fn.nl p.fn.cl p.fn.es p.fn.ok p.kids.length;clear h192 h118 h193 h124 h77 h194 h87;have hspec:iI v p vars=(eA p&&(bT p (c7 p)&&(bW p.at_.es vars&&(kT p vars v&&fB v (decide (p.op.bs=[114,101,100,117,99,101])) p.name vars 0 p.kids)))):=by
  rw[HP,<-EU]
  (refine Bool.eq_iff_iff.2 ?_;simp only[aF];constructor<;>(intro h;simp only[h,and_self]))
 rw[hspec];refine Ret.ofX hf ?_;unfold D2;refine Wk ?_;refine cS a1 (by simp only[go_sem,seval]) (by rfl) ?_;have hro:kT p vars v=(if p.op.bs=[99,111,110,115,116] then kL p.num
  else if p.op.bs=[114,101,97,100] then decide (0<=p.value)&&decide (p.value<v)&&decide (0<=p.check)
  else if p.op.bs=[114,101,100,117,99,101] then c8 p.name.bs && !cN vars p.name.bs&&dH p.fn.es 2
  else if p.op.bs=[99,111,100,101] then dH p.fn.es p.kids.length
  else true):=rfl
 generalize hob:eA p=ob at *;cases ob
 case false=>simp only[go_sem,seval]
 case true=>
 refine Wk ?_;refine aG a2' ?_;generalize hpe:bT p (c7 p)=pe at *;cases pe
 case false=>simp only[go_sem,seval]
 case true=>
 refine Wk ?_;refine aG a3 ?_;generalize hov:bW p.at_.es vars=ov at *;cases ov
 case false=>simp only[go_sem,seval]
 case true=>
 refine Wk ?_;have hL:=λiv b R env hp h1 h2 h3 h4=>JS v p nl cl vars hk hks (by omega) ih iv (decide (p.op.bs=[114,101,100,117,99,101])) b R env hp h1 h2 h3 h4;clear ih hks a1 a2 a2' a3;cases o1:decide (p.op.bs=[99,111,110,115,116])
 case true=>
  have h:=aR o1;have hr:decide (p.op.bs=[114,101,100,117,99,101])=false:=by rw[h];decide
  rw[hro,if_pos h];refine Wk ?_;refine aG a4 (Wk ?_);exact hL _ _ _ _ _ rfl rfl (.inl ⟨hr,rfl⟩) rfl
 case false=>
 rw[hro,if_neg (bQ o1)];refine Wk ?_;cases o2:decide (p.op.bs=[114,101,97,100])
 case true=>
  have h:=aR o2;have hr:decide (p.op.bs=[114,101,100,117,99,101])=false:=by rw[h];decide
  rw[if_pos h];cases q1:decide (0<=p.value)
  case false=>simp only[q1,go_sem,seval];exact hL _ _ _ _ _ rfl rfl (.inl ⟨hr,rfl⟩) rfl
  case true=>
  cases q2:decide (p.value<v)
  case false=>simp only[q1,q2,go_sem,seval];exact hL _ _ _ _ _ rfl rfl (.inl ⟨hr,rfl⟩) rfl
  case true=>simp only[q1,q2,go_sem,seval];exact hL _ _ _ _ _ rfl rfl (.inl ⟨hr,rfl⟩) rfl
 case false=>
 rw[if_neg (bQ o2)];refine Wk ?_;cases o3:decide (p.op.bs=[114,101,100,117,99,101])
 case true=>
  have h:=aR o3;rw[if_pos h];refine Wk ?_;refine aG a5 ?_;have hvl:vars.length+1<=1073741824:=by simp only[big]at hb;omega
  have hS:∀x∈[AV.str p.name.bs],El 1 false x:=by intro x hx;simp at hx;subst hx;exact⟨rfl,rfl,rfl⟩
  cases nm:c8 p.name.bs
  case false=>
   refine Wk ?_;refine jN (El.strs vars) (by simp;omega) (by decide) (λhe=>?_) (λhe cs hcs=>?_);have hv:vars=[]:=by simpa using he
   refine Wk ?_;refine jN hS (by simp) (by decide) (λh=>by cases h) (λ_ cs2 hcs2=>?_);cases hcs2;refine Wk ?_;refine cC ?_;exact hL _ _ _ _ _ rfl rfl (.inr ⟨o3,41,.inr ⟨_,_,by rw[hv];rfl,rfl,by rw[hv];rfl⟩⟩) (by rw[o3];rfl);refine Wk ?_;refine rG (es:=vars.map Str.av) (by simp) rfl hcs rfl (El.strs vars) hS (by simp) (by simp;omega) (by decide) (λcs2 hcs2=>?_);refine Wk ?_;refine cC ?_;exact hL _ _ _ _ _ rfl rfl (.inr ⟨o3,41,.inr ⟨_,_,by simp,rfl,by rw[List.map_append];exact hcs2⟩⟩) (by rw[o3];rfl)
  case true=>
  refine Wk ?_;refine aG a6 ?_;cases hs:cN vars p.name.bs
  case true=>
   refine Wk ?_;refine jN (El.strs vars) (by simp;omega) (by decide) (λhe=>?_) (λhe cs hcs=>?_);have hv:vars=[]:=by simpa using he
   refine Wk ?_;refine jN hS (by simp) (by decide) (λh=>by cases h) (λ_ cs2 hcs2=>?_);cases hcs2;refine Wk ?_;refine cC ?_;exact hL _ _ _ _ _ rfl rfl (.inr ⟨o3,41,.inr ⟨_,_,by rw[hv];rfl,rfl,by rw[hv];rfl⟩⟩) (by rw[o3];rfl);refine Wk ?_;refine rG (es:=vars.map Str.av) (by simp) rfl hcs rfl (El.strs vars) hS (by simp) (by simp;omega) (by decide) (λcs2 hcs2=>?_);refine Wk ?_;refine cC ?_;exact hL _ _ _ _ _ rfl rfl (.inr ⟨o3,41,.inr ⟨_,_,by simp,rfl,by rw[List.map_append];exact hcs2⟩⟩) (by rw[o3];rfl)
  case false=>
  refine Wk ?_;refine aG a7 (Wk ?_);refine jN (El.strs vars) (by simp;omega) (by decide) (λhe=>?_) (λhe cs hcs=>?_);have hv:vars=[]:=by simpa using he
  refine Wk ?_;refine jN hS (by simp) (by decide) (λh=>by cases h) (λ_ cs2 hcs2=>?_);cases hcs2;refine Wk ?_;refine cC ?_;exact hL _ _ _ _ _ rfl rfl (.inr ⟨o3,41,.inr ⟨_,_,by rw[hv];rfl,rfl,by rw[hv];rfl⟩⟩) (by rw[o3];rfl);refine Wk ?_;refine rG (es:=vars.map Str.av) (by simp) rfl hcs rfl (El.strs vars) hS (by simp) (by simp;omega) (by decide) (λcs2 hcs2=>?_);refine Wk ?_;refine cC ?_;exact hL _ _ _ _ _ rfl rfl (.inr ⟨o3,41,.inr ⟨_,_,by simp,rfl,by rw[List.map_append];exact hcs2⟩⟩) (by rw[o3];rfl)
 case false=>
 rw[if_neg (bQ o3)];refine Wk ?_;cases o4:decide (p.op.bs=[99,111,100,101])
 case true=>have h:=aR o4;rw[if_pos h];refine Wk ?_;refine aG a8 (Wk ?_);exact hL _ _ _ _ _ rfl rfl (.inl ⟨o3,rfl⟩) (by rw[o3];rfl)
 case false=>rw[if_neg (bQ o4)];refine Wk ?_;exact hL _ _ _ _ _ rfl rfl (.inl ⟨o3,rfl⟩) (by rw[o3];rfl)
end
end
end Go.Tev
