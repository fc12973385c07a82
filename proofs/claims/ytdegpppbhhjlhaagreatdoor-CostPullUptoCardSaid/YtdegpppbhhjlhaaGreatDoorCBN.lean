import Derived.Test.YtdegpppbhhjlhaaGreatDoorCBM
import Derived.Test.YtdegpppbhhjlhaaGreatDoorCBL
import Derived.Test.YtdegpppbhhjlhaaGreatDoorCBK
import Derived.Test.YtdegpppbhhjlhaaGreatDoorCAW
import Derived.Test.YtdegpppbhhjlhaaGreatDoorCBC
import Derived.Test.YtdegpppbhhjlhaaGreatDoorCAR
set_option linter.all false
namespace Go.Tev
section
def SrE(pg:Pg)(q:aA)(env:List Val):Prop:=∀(er kb:Nat)(h:Hp)(wk:Int)(enl ecl:Bool),65536<=kb->kb % 65536=0->bW h=true->Sr er wk h->0<=wk->wk+(aX q env).n<=200000->(aX q env).n<=30000 ->
 cW pg 983 [.pt 17 er 0,q.av,.sl enl (env.map Val.av) ecl] kb h (SrP er h kb (wk+(aX q env).n) (fG (aX q env).r (aX q env).o))
section
variable{pg:Pg}
set_option maxRecDepth 100000 in
set_option maxHeartbeats 4000000 in
theorem c983(hf:pg.fs 983=some J2)(hx:AscX pg)(h998:pg.fs 998=some DM)(h999:pg.fs 999=some DL)(h1000:pg.fs 1000=some wB)(h1001:pg.fs 1001=some wA)(h959:∀op,Ret pg 959 [.str op] (.bool (cX op).isSome))
  (h34:∀(l:Lin)(nl cl:Bool)(ds:List Val),ds.length<=big->Ret pg 34 [l.av,.sl nl (ds.map Val.av) cl] (.tup [.int .i64 (cD ds l).1,.int .i64 (cD ds l).2])) (vals:Int) :
  ∀p:aA,p.ok->i8 p=true->∀env,env.length+p.sz<=big->bO vals p (env.map (·.v))=true->tH env->SrE pg p env:=by
 refine aA.ind' λp ih hpo hfew env hsz hv hg er kb h wk enl ecl hkb hkb2 ha hc hw0 hw hn=>?_;obtain⟨hkb3,hks⟩:=(aA.ok_iff p).1 hpo;have hps:=aA.sz_eq p;have heb:env.length<=big:=by omega
 have hfn:=MR hfew;have hst:aQ p.fn.es<=10:=by have:=l9 p.fn.es;omega
 have hlin:=u4 hv hg;have hbk:∀q∈p.kids,∀env,tJ (aX q env):=λq hq=>qN q (iX hfew hq);have hpos:=mX p env;have hbp:=qN p hfew env;obtain⟨S,hS⟩:∃S,S=aX p env:=⟨_,rfl⟩
 rw[<-hS]at hw hn hpos hbp ⊢;rw[rD]at hS;obtain⟨hbp1,hbp2⟩:=hbp;have hc0:=hc;unfold Sr at hc0;have w1:wr .i64 (wk+1)=wk+1:=gH (by omega) (by omega);have d1:decide (200000<wk+1)=false:=by simp;omega
 refine cW.ofX hf ?_;unfold J2;obtain⟨H2,hH2⟩:∃H2:Hp,H2=(((h.put (kb+1) (h.next (kb+1)) (.blk p.cells 9 true true false)).put (kb+5) (h.next (kb+5)) (.blk [.int .i64 0,.int .i64 0,.int .i64 0,.int .i64 0] 4 true true false)).put 17 er (.blk [.int .i64 (wk+1),.int .i64 0] 2 true true false)).put (kb+9) (h.next (kb+9)) (.blk [.int .i64 0,.int .i64 0,.int .i64 0,.int .i64 0] 4 true true false):=⟨_,rfl⟩
 have g1:H2.get (kb+1)=some (h.next (kb+1),.blk p.cells 9 true true false):=by rw[hH2,aB,if_neg (by omega),aB,if_neg (by omega),aB,if_neg (by omega),aB,if_pos rfl]
 have g5:H2.get (kb+5)=some (h.next (kb+5),.blk [.int .i64 0,.int .i64 0,.int .i64 0,.int .i64 0] 4 true true false):=by rw[hH2,aB,if_neg (by omega),aB,if_neg (by omega),aB,if_pos rfl]
 have g13:H2.get (kb+9)=some (h.next (kb+9),kD 0 0):=by rw[hH2,aB,if_pos rfl];rfl
 have gC:Sr er (wk+1) H2:=by unfold Sr;rw[hH2,aB,if_neg (by omega),aB,if_pos rfl]
 have gK:gF h H2 kb:=by rw[hH2];exact((((gF.refl _ _).put (.inl (by omega))).put (.inl (by omega))).put (.inr rfl)).put (.inl (by omega))
 have gA:bW H2=true:=by rw[hH2];exact aR (aR (aR (aR ha)))
 simp only[aA.cells,aA.kav,Sl.av]at hH2;have n1:(kb=16)=False:=eq_false (by omega);have n5:(kb=12)=False:=eq_false (by omega);have n13:(kb=8)=False:=eq_false (by omega);have n1':(16=kb)=False:=eq_false (by omega);have n5':(12=kb)=False:=eq_false (by omega);have n13':(8=kb)=False:=eq_false (by omega);simp only[hc0,w1,d1,n1,n5,n13,n1',n5',n13',go_sem,seval];rw[<-hH2];clear hH2 n1 n5 n13 n1' n5' n13' hc0 w1 d1;generalize h.next (kb+1)=E1 at g1 ⊢;generalize h.next (kb+5)=E5 at g5 ⊢;generalize h.next (kb+9)=E13 at g13 ⊢;have g1':=g1;simp only[aA.cells,aA.kav,Sl.av]at g1';have hs17:∀{wk:Int}{H:Hp},Sr er wk H->H.get 17=some (er,.blk [.int .i64 wk,.int .i64 0] 2 true true false):=λh=>h;cases bI:decide (p.op.bs=[105,102])
 case true=>
  have mI:=aF bI;obtain⟨k0,k1,l,hk,hat,v0,v1⟩:=tL hv mI;have hk0:p.kids[0]?=some k0:=by rw[hk];rfl
  have hk1:p.kids[1]?=some k1:=by rw[hk];rfl
  have hl0:p.at_.es[0]?=some l:=by rw[hat];rfl
  have m0:k0∈p.kids:=by rw[hk];simp
  have m1:k1∈p.kids:=by rw[hk];simp
  have sz0:=aA.szL_mem m0;have sz1:=aA.szL_mem m1;have hat':atC env p=(cD env l).1:=by simp only[atC,hat]
  have hSI:S=Cs.add ⟨1,0,0⟩ (if (cD env l).1<0 then aX k1 env else aX k0 env):=by rw[hS];unfold rR;rw[if_pos mI,hk,hat'];rfl
  have y17:=hs17 gC;simp only[bI,g1',hl0,y17,go_sem,seval]
  try rw[<-Lin.avc]
  refine lC hx (.inl rfl) (B:=(kb+13+1)*65536) (PZ ..) gA (c998 h998 h34 er (wk+1) _ H2 (by omega) gC l enl ecl env heb (hlin l (by rw[hat];simp))) ?_;rintro r3 h3 ⟨k3,c3,rfl⟩ a3;have p1:=(k3.1 (kb+1) (by omega) (by omega)).trans g1';have p5:=(k3.1 (kb+5) (by omega) (by omega)).trans g5;have y17:=hs17 c3;cases bn:decide ((cD env l).1<0);rw[if_neg (aP bn)]at hSI;have hSn:S.n=1+(aX k0 env).n:=by rw[hSI];rfl
  have hSr:S.r=(aX k0 env).r:=by rw[hSI];simp[Cs.add]
  have hSo:S.o=(aX k0 env).o:=by rw[hSI];simp[Cs.add]
  simp only[bn,p1,hk0,y17,go_sem,seval];refine kS (B:=(kb+17+1)*65536) hx (oL ..) a3 (ih k0 m0 (hks k0 m0) (iX hfew m0) env (by omega) v0 hg er _ h3 (wk+1) enl ecl (by omega) (by omega) a3 c3 (by omega) (by omega) (by omega)) (λr h' q=>q.1.2) ?_;rintro r4 h4 pa4 ⟨s1,s2,rfl⟩ a4 g4 d4;have hap:Eff.app h3 (.all pa4)=aJ h3 pa4:=rfl;rw[hap];have k4:=s1.of_get g4;have c4:=s2.of_get g4;generalize aJ h3 pa4=H4 at k4 c4 a4;clear hap g4 d4 s1 s2;have p5':=(k4.1 (kb+5) (by omega) (by omega)).trans p5;simp only[p5',fG,go_sem,seval];rw[<-hSr,<-hSo];refine⟨((gK.trans k3 (by omega)).trans k4 (by omega)).put (.inl (by omega)),?_,rfl⟩;have e:wk+1+((aX k0 env).n:Int)=wk+S.n:=by omega
  rw[e]at c4;exact c4.mono (by rw[aB,if_neg (by omega)]);rw[if_pos (aF bn)]at hSI;have hSn:S.n=1+(aX k1 env).n:=by rw[hSI];rfl
  have hSr:S.r=(aX k1 env).r:=by rw[hSI];simp[Cs.add]
  have hSo:S.o=(aX k1 env).o:=by rw[hSI];simp[Cs.add]
  simp only[bn,p1,hk1,y17,go_sem,seval];refine kS (B:=(kb+17+1)*65536) hx (oL ..) a3 (ih k1 m1 (hks k1 m1) (iX hfew m1) env (by omega) v1 hg er _ h3 (wk+1) enl ecl (by omega) (by omega) a3 c3 (by omega) (by omega) (by omega)) (λr h' q=>q.1.2) ?_;rintro r4 h4 pa4 ⟨s1,s2,rfl⟩ a4 g4 d4;have hap:Eff.app h3 (.all pa4)=aJ h3 pa4:=rfl;rw[hap];have k4:=s1.of_get g4;have c4:=s2.of_get g4;generalize aJ h3 pa4=H4 at k4 c4 a4;clear hap g4 d4 s1 s2;have p5':=(k4.1 (kb+5) (by omega) (by omega)).trans p5;simp only[p5',fG,go_sem,seval];rw[<-hSr,<-hSo];refine⟨((gK.trans k3 (by omega)).trans k4 (by omega)).put (.inl (by omega)),?_,rfl⟩;have e:wk+1+((aX k1 env).n:Int)=wk+S.n:=by omega
  rw[e]at c4;exact c4.mono (by rw[aB,if_neg (by omega)])
 have mI:=aP bI;have g13z:H2.get (kb+9)=some (E13,.blk [.int .i64 0,.int .i64 0,.int .i64 0,.int .i64 0] 4 true true false):=g13;cases bR:decide (p.op.bs=[114,101,100,117,99,101])
 case true=>
  have mR:=aF bR;obtain⟨k0,k1,l,hk,hat,v0,v1,_⟩:=qR hv mR;have hk0:p.kids[0]?=some k0:=by rw[hk];rfl
  have hk1:p.kids[1]?=some k1:=by rw[hk];rfl
  have hl0:p.at_.es[0]?=some l:=by rw[hat];rfl
  have m0:k0∈p.kids:=by rw[hk];simp
  have m1:k1∈p.kids:=by rw[hk];simp
  have sz0:=aA.szL_mem m0;have sz1:=aA.szL_mem m1;have hat':atC env p=(cD env l).1:=by simp only[atC,hat]
  obtain⟨M,hM⟩:∃M,M=(cD env l).1:=⟨_,rfl⟩
  have hSR:S=Cs.add ⟨1,0,0⟩ ((aX k0 env).add (fT (aQ p.fn.es) p.name (aX k1) env M.toNat 0)):=by rw[hS];unfold rR;rw[if_neg mI,if_pos mR,hk,hat',hM];rfl
  have hSn0:S.n=1+((aX k0 env).n+(fT (aQ p.fn.es) p.name (aX k1) env M.toNat 0).n):=by rw[hSR];rfl
  obtain⟨hb0,hb0'⟩:=hbk k0 m0 env;have b1':=hbk k1 m1;have h0:=hlin l (by rw[hat];simp);simp only[bI,bR,g1',hk0,go_sem,seval]
  try rw[<-aA.avc]
  refine kS (B:=(kb+21+1)*65536) hx (oL ..) gA (ih k0 m0 (hks k0 m0) (iX hfew m0) env (by omega) v0 hg er _ H2 (wk+1) enl ecl (by omega) (by omega) gA gC (by omega) (by omega) (by omega)) (λr h' q=>q.1.2) ?_;rintro r3 h3 pa3 ⟨s1,s2,rfl⟩ a3 g3 d3;have hap:Eff.app H2 (.all pa3)=aJ H2 pa3:=rfl;rw[hap];have k3:=s1.of_get g3;have c3:=s2.of_get g3;generalize aJ H2 pa3=H3 at k3 c3 a3;clear hap g3 d3 s1 s2;have p1:=(k3.1 (kb+1) (by omega) (by omega)).trans g1;have p5:=(k3.1 (kb+5) (by omega) (by omega)).trans g5;have p13:=(k3.1 (kb+9) (by omega) (by omega)).trans g13z;have p1':=p1;simp only[aA.cells,aA.kav,Sl.av]at p1';obtain⟨H4,hH4⟩:∃H4:Hp,H4=H3.put (kb+9) E13 (.blk [.int .i64 (aX k0 env).r,.int .i64 0,.int .i64 (aX k0 env).o,.int .i64 0] 4 true true false):=⟨_,rfl⟩
  have o4:∀q,q≠kb+9->H4.get q=H3.get q:=λq hq=>by rw[hH4,aB,if_neg (Ne.symm hq)]
  have a4:bW H4=true:=by rw[hH4];exact aR a3
  have c4:Sr er (wk+1+(aX k0 env).n) H4:=c3.mono (o4 _ (by omega));have k4:gF h H4 kb:=by rw[hH4];exact(gK.trans k3 (by omega)).put (.inl (by omega))
  have t13:H4.get (kb+9)=some (E13,kD (aX k0 env).r (aX k0 env).o):=by rw[hH4,aB,if_pos rfl];rfl
  simp only[p13,fG,p1',hl0,go_sem,seval];rw[<-hH4]
  try rw[<-Lin.avc]
  refine lC hx (.inl rfl) (B:=(kb+25+1)*65536) (PZ ..) a4 (c998 h998 h34 er _ _ H4 (by omega) c4 l enl ecl env heb h0) ?_;rintro r5 h5 ⟨k5,c5,rfl⟩ a5;refine Wk ?_;rw[<-hM];have u1:=(k5.1 (kb+1) (by omega) (by omega)).trans ((o4 _ (by omega)).trans p1);have u5:=(k5.1 (kb+5) (by omega) (by omega)).trans ((o4 _ (by omega)).trans p5);have u13:=(k5.1 (kb+9) (by omega) (by omega)).trans t13;have K5:=k4.trans k5 (by omega);clear hH4 o4 a4 c4 k4 t13 p1' p1 p5 p13 k3 c3 a3 g1 g5 g13 g1' g13z gC gK gA k5
  refine oM (λa:Nat=>a) (λk e hp=>∃(i:Int)(n r o:Nat),e=F4 (.pt 17 er 0) (.sl enl (env.map Val.av) ecl) (.pt (kb+1) E1 0) (.pt (kb+5) E5 0) (.pt (kb+9) E13 0) (.int .i64 M) (.int .i64 i) /\
   gF h hp kb/\bW hp=true/\Sr er (wk+n) hp/\hp.get (kb+1)=some (E1,.blk p.cells 9 true true false)/\hp.get (kb+5)=some (E5,.blk [.int .i64 0,.int .i64 0,.int .i64 0,.int .i64 0] 4 true true false) /\
   hp.get (kb+9)=some (E13,kD r o)/\0<=i/\i+k<=30000/\k=(M-i).toNat/\xU ⟨n,r,o⟩/\S=Cs.add ⟨n,r,o⟩ (fT (aQ p.fn.es) p.name (aX k1) env k i)) M.toNat ?_ ?_
  have hge:=tZ (st:=aQ p.fn.es) (name:=p.name) (env:=env) (g:=aX k1) (mX k1) M.toNat 0;have e:wk+1+((aX k0 env).n:Int)=wk+((1+(aX k0 env).n:Nat):Int):=by omega
  rw[e]at c5;exact⟨0,1+(aX k0 env).n,(aX k0 env).r,(aX k0 env).o,rfl,K5,a5,c5,u1,u5,u13,Int.le_refl _,by omega,by omega,⟨by simp only;omega,by simp only;omega⟩,by rw[hSR];simp[Cs.add,Nat.add_assoc]⟩;rintro k e hp ⟨i,n,r,o,rfl,hK,hA,hC,q1,q5,q13,i0,i1,hk',hB,hT⟩;have q13':=q13;simp only[kD]at q13';have y17:=hs17 hC;cases b1:decide (i<M);have hk0':k=0:=by simp at b1;omega
  subst hk0';have hS2:S=⟨n,r,o⟩:=by rw[hT];simp[Cs.add,fT]
  simp only[F2,F4,b1,q13',q5,go_sem,seval];rw[hS2];exact⟨hK.put (.inl (by omega)),hC.mono (by rw[aB,if_neg (by omega)]),rfl⟩;have hiM:i<M:=aF b1;obtain⟨k',rfl⟩:∃k',k=k'+1:=⟨k-1,by omega⟩
  have wi:wr .i64 (i+1)=i+1:=gH (by omega) (by omega);rw[fT]at hT;have q1':=q1;simp only[aA.cells,aA.kav,Sl.av]at q1';simp only[F2,F4,b1,y17,q1',go_sem,seval];refine m8 (kb:=kb) (s:=29) (bytes:=24) (es:=[]) (xs:=env.map Val.av) (Own.nil _ _ _ _ _ _ rfl) (by simp) (El.vals env) (by simp only[List.length_nil,bU,big]at *;omega) (by decide) ?_;intro x1 rd1 pa1 ow1 hg1 hp1;have n1x:∀q,hp.get q≠none->(Eff.app hp (.pat rd1 pa1)).get q≠none:=λq hq=>xZ pa1 hp q hq;have a1x:bW (Eff.app hp (.pat rd1 pa1))=true:=eU (pa:=pa1) hA;have d1x:∀x∈pa1,¬x.k=kb+1:=λx hx e=>by have:=hp1 x hx;omega
  rw[List.nil_append]at ow1;have f1x:=(hg1 (kb+1) (by omega)).trans q1';generalize Eff.app hp (.pat rd1 pa1)=H5 at ow1 hg1 n1x a1x f1x ⊢;simp only[f1x,go_sem,seval];refine LK (kb:=kb) (s:=33) (k1:=kb+29) (bytes:=24) (es:=env.map Val.av) ow1 (by omega) (El.vals env) (xs:=[Val.av ⟨p.name,i⟩]) (El.vals [⟨p.name,i⟩]) (by simp) (by simp only[bU,List.length_singleton,big]at *;omega) (by decide) ?_;intro x2 rd2 pa2 ow2 hg2 hn2 hp2;have a2x:bW (Eff.app H5 (.pat rd2 pa2))=true:=eU (pa:=pa2) a1x;have ow2':Own (Eff.app H5 (.pat rd2 pa2)) (kb+33) 2 true x2 ((env++[(⟨p.name,i⟩:Val)]).map Val.av):=by rw[List.map_append];exact ow2
  clear ow2;generalize Eff.app H5 (.pat rd2 pa2)=H6 at ow2' hg2 hn2 a2x ⊢;obtain⟨nl6,cl6,keys,hs6,hk6⟩:=ow2'.snapK (El.vals _) 62;refine Wk ?_;refine WM hs6 ?_
  have f7:∀q,q≠kb+29->q≠kb+33->(Eff.app H6 (.pat keys (aU H6 keys))).get q=hp.get q:=λq hq hq2=>by rw[AF (λhm=>hq2 (hk6 q hm)),hg2 q hq hq2,hg1 q hq]
  have a7:bW (Eff.app H6 (.pat keys (aU H6 keys)))=true:=eU (h:=H6) (pa:=aU H6 keys) a2x;have n7:∀q,hp.get q≠none->(Eff.app H6 (.pat keys (aU H6 keys))).get q≠none:=λq hq=>xZ (aU H6 keys) H6 q (hn2 q (n1x q hq));refine Wk ?_;refine And.intro (by simp[bT,bS,R.apart,R.uses,X.tmp,Eff.apart,lP,Nat.testBit];exact d1x) ?_;generalize Eff.app H6 (.pat keys (aU H6 keys))=H7 at f7 a7 n7 ⊢;have K7:gF h H7 kb:=⟨λq x y=>(f7 q (by omega) (by omega)).trans (hK.1 q x y),λq hq=>n7 q (hK.2 q hq)⟩
  have C7:Sr er (wk+n) H7:=hC.mono (f7 _ (by omega) (by omega));have r1:=(f7 (kb+1) (by omega) (by omega)).trans q1;have r5:=(f7 (kb+5) (by omega) (by omega)).trans q5;have r13:=(f7 (kb+9) (by omega) (by omega)).trans q13;have r1':=r1;have r13':=r13;simp only[aA.cells,aA.kav,Sl.av]at r1';simp only[kD]at r13';clear f7 n7 hs6 hk6 ow2' hg2 hn2 hp2 a2x ow1 hg1 n1x a1x f1x d1x hp1 q1' q13' q1 q5 q13 hA hC hK y17;obtain⟨c1,hc1⟩:∃c1,c1=aX k1 (env++[(⟨p.name,i⟩:Val)]):=⟨_,rfl⟩
  have hSn:S.n=n+(c1.n+0+(fT (aQ p.fn.es) p.name (aX k1) env k' (i+1)).n):=by rw[hT,hc1];rfl
  have bb:=b1' (env++[(⟨p.name,i⟩:Val)]);rw[<-hc1]at bb hT;obtain⟨bb1,bb2⟩:=bb;obtain⟨bt1,bt2⟩:=hB;simp only at bt1 bt2;have e983:=ih k1 m1 (hks k1 m1) (iX hfew m1) _ (by simp only[dA,List.length_singleton];omega) (by rw[tY];exact v1) (hg.snoc (name:=p.name) i0 (by omega)) er ((kb+37+1)*65536) H7 (wk+n) nl6 cl6 (by omega) (by omega) a7 C7 (by omega) (by rw[<-hc1];omega) (by rw[<-hc1];omega);rw[<-hc1]at e983;simp only[r13',r1',hk1,go_sem,seval];refine kS (B:=(kb+37+1)*65536) hx (oL ..) a7 e983 (λr h' q=>q.1.2) ?_;rintro r8 h8 pa8 ⟨s1,s2,rfl⟩ a8 g8 d8;have hap:Eff.app H7 (.all pa8)=aJ H7 pa8:=rfl;rw[hap];have d813:=d8 (kb+9) (s1.1 _ (by omega) (by omega));have k8:=s1.of_get g8;have c8:=s2.of_get g8;generalize aJ H7 pa8=H8 at k8 c8 a8;clear hap g8 d8 s1 s2 e983;have t13:=(k8.1 (kb+9) (by omega) (by omega)).trans r13';have t1:=(k8.1 (kb+1) (by omega) (by omega)).trans r1';have e999:=c999 h999 r o c1.r c1.o (by omega) (by omega);refine Wk ?_;refine cO e999 rfl rfl ?_;simp only[t13,fG,go_sem,seval];refine And.intro (by simp[bT,bS,R.apart,R.uses,X.tmp,Eff.apart,lP,Nat.testBit];exact d813) ?_;simp only[t1,go_sem,seval];refine aC (c1000 h1000 h959 p.fn.nl p.fn.cl p.fn.es p.fn.ok) ?_;have ws:wr .i64 (((o+c1.o:Nat):Int)+aQ p.fn.es)=((o+c1.o+aQ p.fn.es:Nat):Int):=by rw[gH (by omega) (by omega)];omega
  obtain⟨H9,hH9⟩:∃H9:Hp,H9=(H8.put (kb+9) E13 (.blk [.int .i64 ((r+c1.r:Nat):Int),.int .i64 0,.int .i64 ((o+c1.o:Nat):Int),.int .i64 0] 4 true true false)).put (kb+9) E13 (.blk [.int .i64 ((r+c1.r:Nat):Int),.int .i64 0,.int .i64 ((o+c1.o+aQ p.fn.es:Nat):Int),.int .i64 0] 4 true true false):=⟨_,rfl⟩
  have o9:∀q,q≠kb+9->H9.get q=H8.get q:=λq hq=>by rw[hH9,aB,if_neg (Ne.symm hq),aB,if_neg (Ne.symm hq)]
  have a9:bW H9=true:=by rw[hH9];exact aR (aR a8)
  have c9:Sr er (wk+n+c1.n) H9:=c8.mono (o9 _ (by omega));have k9:gF h H9 kb:=by rw[hH9];exact((K7.trans k8 (by omega)).put (.inl (by omega))).put (.inl (by omega))
  have z13:H9.get (kb+9)=some (E13,kD (r+c1.r) (o+c1.o+aQ p.fn.es)):=by rw[hH9,aB,if_pos rfl];rfl
  have z1:=(o9 (kb+1) (by omega)).trans ((k8.1 (kb+1) (by omega) (by omega)).trans r1);have z5:=(o9 (kb+5) (by omega)).trans ((k8.1 (kb+5) (by omega) (by omega)).trans r5);simp only[t13,t1,ws,go_sem,seval];refine And.intro (by simp[bT,bS,R.apart,R.uses,X.tmp,Eff.apart,lP,Nat.testBit]) ?_;rw[<-hH9];refine lC hx (.inl rfl) (B:=(kb+49+1)*65536) rfl a9 (c1001 h1001 er _ _ H9 (by omega) c9 (r+c1.r) (o+c1.o+aQ p.fn.es) (by omega) (by omega)) ?_;rintro r10 h10 ⟨k10,c10,rfl⟩ a10;simp only[wi,go_sem,seval];refine⟨k',by omega,i+1,n+c1.n,r+c1.r,o+c1.o+aQ p.fn.es,rfl,k9.trans k10 (by omega),a10,?_,(k10.1 _ (by omega) (by omega)).trans z1,(k10.1 _ (by omega) (by omega)).trans z5,(k10.1 _ (by omega) (by omega)).trans z13,by omega,by omega,by omega,⟨by simp only;omega,by simp only;omega⟩,?_⟩;have e:wk+n+(c1.n:Int)=wk+((n+c1.n:Nat):Int):=by omega
  rw[e]at c10;exact c10;rw[hT];simp only[Cs.add,Nat.add_zero,Nat.add_assoc]
 have mR:=aP bR;have hkv:=mF hv mR;have hSO:S=(jE p).add (lH (p.kids.map aX) env):=by rw[hS];unfold rR;rw[if_neg mI,if_neg mR]
 have hob:=zM (p:=p) hfn;have q5x:∀o,(H2.put (kb+9) E13 o).get (kb+5)=some (E5,.blk [.int .i64 0,.int .i64 0,.int .i64 0,.int .i64 0] 4 true true false):=λo=>by rw[aB,if_neg (by omega)];exact g5
 have q1x:∀o,(H2.put (kb+9) E13 o).get (kb+1)=some (E1,.blk p.cells 9 true true false):=λo=>by rw[aB,if_neg (by omega)];exact g1
 have KX:∀o,gF h (H2.put (kb+9) E13 o) kb:=λo=>gK.put (.inl (by omega));have CX:∀o,Sr er (wk+1) (H2.put (kb+9) E13 o):=λo=>gC.mono (by rw[aB,if_neg (by omega)]);cases bD:decide (p.op.bs=[114,101,97,100])
 rotate_left 1
 obtain⟨H,hH⟩:∃H:Hp,H=H2.put (kb+9) E13 (.blk [.int .i64 1,.int .i64 0,.int .i64 0,.int .i64 0] 4 true true false):=⟨_,rfl⟩
 obtain⟨hK,hA,hC,q5,q1,rr,oo,ho,q13⟩:gF h H kb/\bW H=true/\Sr er (wk+1) H/\H.get (kb+5)=some (E5,.blk [.int .i64 0,.int .i64 0,.int .i64 0,.int .i64 0] 4 true true false)/\H.get (kb+1)=some (E1,.blk p.cells 9 true true false)/\∃rr oo:Nat,jE p=⟨1,rr,oo⟩/\H.get (kb+9)=some (E13,kD rr oo):=by rw[hH];exact⟨KX _,aR gA,CX _,q5x _,q1x _,1,0,by rw[jE,if_pos (aF bD)],by rw[aB,if_pos rfl];rfl⟩
 simp only[bI,bR,bD,g13z,g1',go_sem,seval];rw[<-hH]
 rotate_left 1
 cases bX:decide (p.op.bs=[99,111,100,101])
 rotate_left 1
 obtain⟨H,hH⟩:∃H:Hp,H=H2.put (kb+9) E13 (.blk [.int .i64 0,.int .i64 0,.int .i64 (aQ p.fn.es),.int .i64 0] 4 true true false):=⟨_,rfl⟩
 obtain⟨hK,hA,hC,q5,q1,rr,oo,ho,q13⟩:gF h H kb/\bW H=true/\Sr er (wk+1) H/\H.get (kb+5)=some (E5,.blk [.int .i64 0,.int .i64 0,.int .i64 0,.int .i64 0] 4 true true false)/\H.get (kb+1)=some (E1,.blk p.cells 9 true true false)/\∃rr oo:Nat,jE p=⟨1,rr,oo⟩/\H.get (kb+9)=some (E13,kD rr oo):=by rw[hH];exact⟨KX _,aR gA,CX _,q5x _,q1x _,0,aQ p.fn.es,by rw[jE,if_neg (aP bD),if_pos (aF bX)],by rw[aB,if_pos rfl];rfl⟩
 simp only[bI,bR,bD,bX,g1',go_sem,seval];refine aC (c1000 h1000 h959 p.fn.nl p.fn.cl p.fn.es p.fn.ok) ?_;simp only[g13z,g1',go_sem,seval];rw[<-hH]
 rotate_left 2
 simp only[bI,bR,bD,bX,g1',go_sem,seval];refine cO (h959 p.op.bs) rfl rfl ?_;cases hP:(cX p.op.bs).isSome;obtain⟨H,hH⟩:∃H:Hp,H=H2:=⟨_,rfl⟩
 obtain⟨hK,hA,hC,q5,q1,rr,oo,ho,q13⟩:gF h H kb/\bW H=true/\Sr er (wk+1) H/\H.get (kb+5)=some (E5,.blk [.int .i64 0,.int .i64 0,.int .i64 0,.int .i64 0] 4 true true false)/\H.get (kb+1)=some (E1,.blk p.cells 9 true true false)/\∃rr oo:Nat,jE p=⟨1,rr,oo⟩/\H.get (kb+9)=some (E13,kD rr oo):=by rw[hH];exact⟨gK,gA,gC,g5,g1,0,0,by rw[jE,if_neg (aP bD),if_neg (aP bX),hP];rfl,g13⟩
 simp only[hP,g1',go_sem,seval];rw[<-hH]
 rotate_left 1
 obtain⟨H,hH⟩:∃H:Hp,H=H2.put (kb+9) E13 (.blk [.int .i64 0,.int .i64 0,.int .i64 1,.int .i64 0] 4 true true false):=⟨_,rfl⟩
 obtain⟨hK,hA,hC,q5,q1,rr,oo,ho,q13⟩:gF h H kb/\bW H=true/\Sr er (wk+1) H/\H.get (kb+5)=some (E5,.blk [.int .i64 0,.int .i64 0,.int .i64 0,.int .i64 0] 4 true true false)/\H.get (kb+1)=some (E1,.blk p.cells 9 true true false)/\∃rr oo:Nat,jE p=⟨1,rr,oo⟩/\H.get (kb+9)=some (E13,kD rr oo):=by rw[hH];exact⟨KX _,aR gA,CX _,q5x _,q1x _,0,1,by rw[jE,if_neg (aP bD),if_neg (aP bX),hP];rfl,by rw[aB,if_pos rfl];rfl⟩
 simp only[hP,g13z,g1',go_sem,seval];rw[<-hH]
 all_goals
  clear g1 g5 g13 gC gK gA g13z q5x q1x KX CX g1';rw[ho]at hob hSO
  refine aN p.kids (λd r e hp=>∃n ro oo':Nat,e=F3 (.pt 17 er 0) (.sl enl (env.map Val.av) ecl) (.pt (kb+1) E1 0) (.pt (kb+5) E5 0) (.pt (kb+9) E13 0) (.int .i64 d.length) /\
   gF h hp kb/\bW hp=true/\Sr er (wk+n) hp/\hp.get (kb+1)=some (E1,.blk p.cells 9 true true false)/\hp.get (kb+5)=some (E5,.blk [.int .i64 0,.int .i64 0,.int .i64 0,.int .i64 0] 4 true true false)/\hp.get (kb+9)=some (E13,kD ro oo')/\xU ⟨n,ro,oo'⟩/\S=Cs.add ⟨n,ro,oo'⟩ (lH (r.map aX) env)) ?_ ?_ ?_
  exact⟨1,rr,oo,rfl,hK,hA,hC,q1,q5,q13,hob.t,hSO⟩;rintro e hp ⟨n,ro,oo',rfl,hK,hA,hC,q1,q5,q13,hB,hT⟩;have hT2:S=⟨n,ro,oo'⟩:=by rw[hT];simp[Cs.add,lH]
  have q13':=q13;simp only[kD]at q13';have q1':=q1;simp only[aA.cells,aA.kav,Sl.av]at q1';have hSn:S.n=n:=by rw[hT2]
  have hSr:S.r=ro:=by rw[hT2]
  have hSo:S.o=oo':=by rw[hT2]
  simp only[F0,F3,bH,q13',q1',go_sem,seval];refine lC hx (.inl rfl) (B:=(kb+69+1)*65536) rfl hA (c1001 h1001 er _ _ hp (by omega) hC ro oo' (by omega) (by omega)) ?_;rintro r4 h4 ⟨k4,c4,rfl⟩ a4;have p5':=(k4.1 (kb+5) (by omega) (by omega)).trans q5;have p13':=(k4.1 (kb+9) (by omega) (by omega)).trans q13';simp only[p5',p13',go_sem,seval];rw[hSr,hSo,hSn];exact⟨(hK.trans k4 (by omega)).put (.inl (by omega)),c4.mono (by rw[aB,if_neg (by omega)]),rfl⟩
  ·rintro d x r e hp hes ⟨n,ro,oo',rfl,hK,hA,hC,q1,q5,q13,hB,hT⟩;obtain⟨hget,e1,e2,ew⟩:=cY hes hkb3;have hxm:x∈p.kids:=by rw[hes];simp
   have szx:=aA.szL_mem hxm;obtain⟨c1,hc1⟩:∃c1,c1=aX x env:=⟨_,rfl⟩
   have hSn:S.n=n+(c1.n+(lH (r.map aX) env).n):=by rw[hT,hc1];rfl
   have bb:=hbk x hxm env;rw[List.map_cons,lH]at hT;rw[<-hc1]at bb hT;obtain⟨bb1,bb2⟩:=bb;obtain⟨bt1,bt2⟩:=hB;simp only at bt1 bt2;have e983:=ih x hxm (hks x hxm) (iX hfew hxm) env (by omega) (hkv x hxm) hg er ((kb+61+1)*65536) hp (wk+n) enl ecl (by omega) (by omega) hA hC (by omega) (by rw[<-hc1];omega) (by rw[<-hc1];omega);rw[<-hc1]at e983;have q13':=q13;simp only[kD]at q13';have q1':=q1;simp only[aA.cells,aA.kav,Sl.av]at q1';simp only[F0,F3,e1,e2,hget,q13',q1',go_sem,seval]
   try rw[<-aA.avc]
   refine kS (B:=(kb+61+1)*65536) hx (oL ..) hA e983 (λr h' q=>q.1.2) ?_;rintro r8 h8 pa8 ⟨s1,s2,rfl⟩ a8 g8 d8;have hap:Eff.app hp (.all pa8)=aJ hp pa8:=rfl;rw[hap];have d813:=d8 (kb+9) (s1.1 _ (by omega) (by omega));have k8:=s1.of_get g8;have c8:=s2.of_get g8;generalize aJ hp pa8=H8 at k8 c8 a8;clear hap g8 d8 s1 s2 e983;have t13:=(k8.1 (kb+9) (by omega) (by omega)).trans q13';have t1:=(k8.1 (kb+1) (by omega) (by omega)).trans q1;have t5:=(k8.1 (kb+5) (by omega) (by omega)).trans q5;refine Wk ?_;refine cO (c999 h999 ro oo' c1.r c1.o (by omega) (by omega)) rfl rfl ?_;simp only[t13,fG,go_sem,seval];refine And.intro (by simp[bT,bS,R.apart,R.uses,X.tmp,Eff.apart,lP,Nat.testBit];exact d813) ?_;simp only[ew,go_sem,seval];refine⟨n+c1.n,ro+c1.r,oo'+c1.o,rfl,(hK.trans k8 (by omega)).put (.inl (by omega)),aR a8,?_,t1,t5,rfl,⟨by simp only;omega,by simp only;omega⟩,?_⟩;have e:wk+n+(c1.n:Int)=wk+((n+c1.n:Nat):Int):=by omega
   rw[e]at c8;exact c8.mono (by rw[aB,if_neg (by omega)]);rw[hT];simp only[Cs.add,Nat.add_assoc]
end
end
section
section
variable{pg:Pg}
set_option maxRecDepth 100000 in
theorem c973(hf:pg.fs 973=some J5)(hx:AscX pg)(h978:pg.fs 978=some A5)(h572:pg.fs 572=some xF)
  (h123:∀p:aA,p.ok->∀(nl cl:Bool)(vars:List Str),vars.length+p.sz<=big->∀v:Int,Ret pg 123 [p.av,.sl nl (vars.map Str.av) cl,.int .i64 v] (.bool (dQ p vars v)))
  (p:aA) (hp:p.ok) (enl ecl:Bool) (env:List Val) (hsz:env.length+p.sz<=big) (hl:tG p env) (h983:bO 1000 p (env.map (·.v))=true->SrE pg p env):Ret pg 973 [p.av,.sl enl (env.map Val.av) ecl] (cpV p env):=by
 obtain⟨r,a978,hN⟩:=c978 h978 h572 enl ecl env (by omega);refine Ret.ofX hf ?_;unfold J5;unfold pE at hN;split at hN
 ·rename_i hd;obtain⟨nl,cl,rfl,_⟩:=hN;have a123:=h123 p hp nl cl (env.map (·.v)) (by simpa using hsz) 1000;rw[aA.avc]at a123;refine Wk ?_;refine aC a978 (Wk ?_);refine aC a123 ?_;cases hv:dQ p (env.map (·.v)) 1000;have hcp:cpV p env = .tup [fG 0 0,.int .i64 1]:=if_neg (λh=>by rw[h.2]at hv;cases hv);rw[hcp];simp only[fG,go_sem,seval]
  ·have hok:ME p env:=⟨hd,hv⟩
   have hcp:cpV p env = .tup [fG (aX p env).r (aX p env).o,.int .i64 0]:=if_pos hok;have hn:=hl hok;have hv2:=hv;simp only[dQ,aD]at hv2;rw[hcp];obtain⟨H,hH⟩:∃H:Hp,H=(((Hp.put [] 1 0 (.blk p.cells 9 true true false)).put 5 0 (.blk [.int .i64 0,.int .i64 0,.int .i64 0,.int .i64 0] 4 true true false)).put 17 0 (.blk [.int .i64 0,.int .i64 0] 2 true true false)):=⟨_,rfl⟩
   have g5:H.get 5=some (0,.blk [.int .i64 0,.int .i64 0,.int .i64 0,.int .i64 0] 4 true true false):=by rw[hH];rfl
   have gA:bW H=true:=by rw[hH];rfl
   have gC:Sr 0 0 H:=by rw[hH];rfl
   simp only[aA.cells,aA.kav,Sl.av]at hH;refine Wk ?_;rw[<-hH]
   try rw[<-aA.avc]
   refine lC hx (.inl rfl) (B:=1441792) (oL ..) gA (h983 hv2.2 0 1441792 H 0 enl ecl (by omega) (by omega) gA gC (by omega) (by omega) hn) ?_;rintro r' h' ⟨k1,c1,rfl⟩ a1;have z1:h'.get 17=some (0,.blk [.int .i64 (0+(aX p env).n),.int .i64 0] 2 true true false):=c1;have g5':=(k1.1 5 (by decide) (by decide)).trans g5;simp only[z1,fG,g5',go_sem,seval]
 rename_i hd;subst hN;have hcp:cpV p env = .tup [fG 0 0,.int .i64 1]:=if_neg (λh=>hd h.1);rw[hcp];refine Wk ?_;refine aC a978 ?_;simp only[fG,go_sem,seval]
end
end
section
def BP(s m q:Int):Prop:=0<=q/\q<=m/\(0<q->s+q=m)
def W0(p:aA)(env:List Val)(m:Int)(r:AV):Prop:=∃q:Int,r = .int .i64 q/\BP (aX p env).n m q
theorem aJr{i m q q':Int}(a:i<=m-q)(b:q'+1<=q):i+1<=m-q':=by omega
theorem aJq{i M:Int}{k:Nat}(a:k+1=(M-i).toNat):k=(M-(i+1)).toNat:=by omega
theorem aJp{s n c q q' m:Int}(a:n+q=m)(b:c+q'=q):n+c+q'=m:=by omega
section
variable{pg:Pg}
theorem c991(hf:pg.fs 991=some DP)(enl ecl:Bool)(env:List Val)(heb:env.length<big)(name:Str)(i:Int):cA pg 991 [.sl enl (env.map Val.av) ecl,.str name.bs,.int .i64 i] (pP 2 true ((env++[(⟨name,i⟩:Val)]).map Val.av)):=by refine cA.ofX hf ?_;unfold DP;refine Wk ?_;refine m8 (kb:=0) (s:=1) (bytes:=24) (es:=[]) (xs:=env.map Val.av) (Own.nil _ _ _ _ _ _ rfl) (by simp) (El.vals env) ?_ (by decide) ?_;simp only[List.length_nil,bU,big]at *;omega;intro v1 rd pa ho hk hpa;refine Wk ?_;rw[List.nil_append]at ho;have ho':Own (Eff.app [] (.pat rd pa)) 1 2 true v1 (env.map Val.av):=ho;refine LK (kb:=0) (s:=5) (k1:=1) (bytes:=24) (es:=env.map Val.av) ho' (by decide) (El.vals env) (xs:=[Val.av ⟨name,i⟩]) (El.vals [⟨name,i⟩]) (by simp) (by simp only[bU,List.length_singleton,big]at *;omega) (by decide) ?_;intro v2 rd2 pa2 ow2 hg2 hn2 hp2;refine Wk ?_;rw[List.map_append];exact ow2.conv (El.vals (env++[⟨name,i⟩]) |> λh x hx=>h x (by rw[List.map_append];exact hx))
set_option maxRecDepth 100000 in
set_option maxHeartbeats 1000000 in
theorem c979(hf:pg.fs 979=some J4)(h991:pg.fs 991=some DP)(h34:∀(l:Lin) (nl cl:Bool) (ds:List Val),ds.length<=big->Ret pg 34 [l.av,.sl nl (ds.map Val.av) cl] (.tup [.int .i64 (cD ds l).1,.int .i64 (cD ds l).2]))(vals:Int) :
  ∀p:aA,p.ok->∀env,env.length+p.sz<=big->bO vals p (env.map (·.v))=true->∀(enl ecl:Bool)(m:Int),0<=m->m<=30000->cA pg 979 [p.av,.sl enl (env.map Val.av) ecl,.int .i64 m] (W0 p env m):=by
 refine aA.ind' λp ih hpo env hsz hv enl ecl m hm0 hm1=>?_;obtain⟨hb,hks⟩:=(aA.ok_iff p).1 hpo;have hps:=aA.sz_eq p;have heb:env.length<=big:=by omega
 obtain⟨S,hS⟩:∃S,S=aX p env:=⟨_,rfl⟩
 have hR:W0 p env m=λr=>∃q:Int,r = .int .i64 q/\BP S.n m q:=by rw[hS];rfl
 rw[hR];rw[rD]at hS;clear hR;have w1:wr .i64 (m-1)=m-1:=gH (by omega) (by omega);refine cA.ofX hf ?_;unfold J4;cases b0:decide (m-1<=0)
 case true=>
  simp only[w1,b0,go_sem,seval]
  first|exact⟨Int.le_refl _,hm0,λh=>by omega⟩|exact⟨0,rfl,Int.le_refl _,hm0,λh=>by omega⟩
 have m1:=aP b0;cases bI:decide (p.op.bs=[105,102])
 case true=>
  have mI:=aF bI;obtain⟨k0,k1,l,hk,hat,v0,v1⟩:=tL hv mI;have hk0:p.kids[0]?=some k0:=by rw[hk];rfl
  have hk1:p.kids[1]?=some k1:=by rw[hk];rfl
  have hl0:p.at_.es[0]?=some l:=by rw[hat];rfl
  have m0:k0∈p.kids:=by rw[hk];simp
  have m1':k1∈p.kids:=by rw[hk];simp
  have sz0:=aA.szL_mem m0;have sz1:=aA.szL_mem m1';have hat':atC env p=(cD env l).1:=by simp only[atC,hat]
  have hSI:S=Cs.add ⟨1,0,0⟩ (if (cD env l).1<0 then aX k1 env else aX k0 env):=by rw[hS];unfold rR;rw[if_pos mI,hk,hat'];rfl
  have a34:=h34 l enl ecl env heb;rw[Lin.avc]at a34;simp only[w1,b0,bI,hl0,go_sem,seval]
  try rw[Lin.avc]
  refine aC a34 ?_;cases bn:decide ((cD env l).1<0);obtain⟨r,a,q,rfl,i1,i2,i3⟩:=ih k0 m0 (hks k0 m0) env (by omega) v0 enl ecl (m-1) (by omega) (by omega);simp only[bn,hk0,go_sem,seval];refine aC a (Wk ?_);rw[if_neg (aP bn)]at hSI;have hq:BP S.n m q:=⟨i1,by omega,λh=>by have:=i3 h;rw[hSI];simp only[Cs.add];omega⟩
  first|exact hq|exact⟨q,rfl,hq⟩
  obtain⟨r,a,q,rfl,i1,i2,i3⟩:=ih k1 m1' (hks k1 m1') env (by omega) v1 enl ecl (m-1) (by omega) (by omega);simp only[bn,hk1,go_sem,seval];refine aC a (Wk ?_);rw[if_pos (aF bn)]at hSI;have hq:BP S.n m q:=⟨i1,by omega,λh=>by have:=i3 h;rw[hSI];simp only[Cs.add];omega⟩
  first|exact hq|exact⟨q,rfl,hq⟩
 have mI:=aP bI;cases bR:decide (p.op.bs=[114,101,100,117,99,101])
 case true=>
  have mR:=aF bR;obtain⟨k0,k1,l,hk,hat,v0,v1,_⟩:=qR hv mR;have hk0:p.kids[0]?=some k0:=by rw[hk];rfl
  have hk1:p.kids[1]?=some k1:=by rw[hk];rfl
  have hl0:p.at_.es[0]?=some l:=by rw[hat];rfl
  have m0:k0∈p.kids:=by rw[hk];simp
  have m1':k1∈p.kids:=by rw[hk];simp
  have sz0:=aA.szL_mem m0;have sz1:=aA.szL_mem m1';have hat':atC env p=(cD env l).1:=by simp only[atC,hat]
  have hSR:S=Cs.add ⟨1,0,0⟩ ((aX k0 env).add (fT (aQ p.fn.es) p.name (aX k1) env (cD env l).1.toNat 0)):=by rw[hS];unfold rR;rw[if_neg mI,if_pos mR,hk,hat'];rfl
  have a34:=h34 l enl ecl env heb;rw[Lin.avc]at a34;obtain⟨r,a,q,rfl,i1,i2,i3⟩:=ih k0 m0 (hks k0 m0) env (by omega) v0 enl ecl (m-1) (by omega) (by omega);simp only[w1,b0,bI,bR,hk0,go_sem,seval];refine aC a ?_;simp only[hl0,go_sem,seval]
  try rw[Lin.avc]
  refine aC a34 (Wk ?_);obtain⟨M,hM⟩:∃M,M=(cD env l).1:=⟨_,rfl⟩
  rw[<-hM]at hSR ⊢
  refine oM (λa:Nat=>a) (λk e hp=>∃(i q:Int),e=yC (.sl enl (env.map Val.av) ecl) (.int .i64 q) (.pt 1 0 0) (.int .i64 M) (.int .i64 i)/\hp.get 1=some (0,.blk (kH p p.kids) 9 true true false)/\0<=q/\q<=m/\0<=i/\i<=m-q/\k=(M-i).toNat /\
   (0<q->∃n:Nat,(n:Int)+q=m/\S.n=n+(fT (aQ p.fn.es) p.name (aX k1) env k i).n)) M.toNat ?_ ?_
  refine⟨0,q,rfl,rfl,i1,by omega,Int.le_refl _,by omega,by omega,λh=>⟨1+(aX k0 env).n,by have:=i3 h;omega,?_⟩⟩;rw[hSR];simp only[Cs.add];omega;rintro k e hp ⟨i,q,rfl,g1,j1,j2,j3,j4,hk',j5⟩;have g0:=g1;simp only[kH]at g1;cases b1:decide (i<M);have hk0':k=0:=by simp at b1;omega
  subst hk0';simp only[yB,yC,b1,go_sem,seval];have hq:BP S.n m q:=⟨j1,j2,λh=>by obtain⟨n,n1,n2⟩:=j5 h;rw[n2];simp only[fT];omega⟩
  first|exact hq|exact⟨q,rfl,hq⟩
  cases b2:decide (0<q);have hq0:=aP b2;simp only[yB,yC,b1,b2,go_sem,seval];have hq:BP S.n m q:=⟨j1,j2,λh=>by omega⟩
  first|exact hq|exact⟨q,rfl,hq⟩
  have hiM:i<M:=aF b1;have hq0:=aF b2;obtain⟨k',rfl⟩:∃k',k=k'+1:=⟨k-1,by omega⟩
  have wi:wr .i64 (i+1)=i+1:=gH (by omega) (by omega);obtain⟨n,n1,n2⟩:=j5 hq0;have hb2:env.length<big:=by omega
  simp only[yB,yC,b1,b2,g1,hk1,go_sem,seval];refine qQ (c991 h991 enl ecl env hb2 p.name i) (by simp only[go_sem,seval]) ?_;intro nl5 cl5 hnl5;obtain⟨r,a,q',rfl,l1,l2,l3⟩:=ih k1 m1' (hks k1 m1') (env++[⟨p.name,i⟩]) (by simp only[dA,List.length_singleton];omega) (by rw[tY];exact v1) nl5 cl5 q j1 (by omega);refine Wk ?_;refine aC a (Wk ?_);refine cB ?_;have hp1:=mX k1 (env++[(⟨p.name,i⟩:Val)]);have hqq:q'+1<=q:=by by_cases h:0<q';have:=l3 h;omega;omega
  rw[wi];have x2:q'<=m:=by omega
  have x3:0<=i+1:=by omega
  have x4:i+1<=m-q':=aJr j4 hqq;have x5:k'=(M-(i+1)).toNat:=aJq hk';have x6:0<q'->((n+(aX k1 (env++[(⟨p.name,i⟩:Val)])).n:Nat):Int)+q'=m:=λh=>by rw[Int.natCast_add];exact aJp (s:=0) n1 (l3 h)
  refine⟨k',Nat.lt_succ_self _,i+1,q',rfl,g0,l1,x2,x3,x4,x5,λh=>⟨n+(aX k1 (env++[(⟨p.name,i⟩:Val)])).n,x6 h,?_⟩⟩;rw[n2];simp only[fT,Cs.add];omega
 have mR:=aP bR;have hkv:=mF hv mR;have hSO:S=(jE p).add (lH (p.kids.map aX) env):=by rw[hS];unfold rR;rw[if_neg mI,if_neg mR]
 simp only[w1,b0,bI,bR,go_sem,seval]
 refine aN p.kids (λd r e hp=>∃q:Int,e=GB (.sl enl (env.map Val.av) ecl) (.int .i64 q) (.pt 1 0 0) (.int .i64 d.length)/\hp.get 1=some (0,.blk (kH p p.kids) 9 true true false)/\0<=q/\q<=m /\
  (0<q->∃n:Nat,(n:Int)+q=m/\S.n=n+(lH (r.map aX) env).n)) ?_ ?_ ?_
 refine⟨m-1,rfl,rfl,by omega,by omega,λ_=>⟨1,by omega,?_⟩⟩;rw[hSO];simp only[Cs.add,TD];rintro e hp ⟨q,rfl,g1,i1,i2,i3⟩;simp only[kH]at g1;simp only[GA,GB,bH,g1,go_sem,seval];have hq:BP S.n m q:=⟨i1,i2,λh=>by obtain⟨n,n1,n2⟩:=i3 h;rw[n2];simp only[List.map_nil,lH];omega⟩
 first|exact hq|exact⟨q,rfl,hq⟩
 rintro d x r e hp hes ⟨q,rfl,g1,i1,i2,i3⟩;have g0:=g1;simp only[kH]at g1;obtain⟨hget,e1,e2,ew⟩:=cY hes hb;have hxm:x∈p.kids:=by rw[hes];simp
 have szx:=aA.szL_mem hxm;obtain⟨r',a,q',rfl,j1,j2,j3⟩:=ih x hxm (hks x hxm) env (by omega) (hkv x hxm) enl ecl q i1 (by omega);simp only[GA,GB,e1,e2,g1,hget,go_sem,seval];refine aC a ?_;simp only[ew,go_sem,seval];refine⟨q',rfl,g0,j1,by omega,λh=>?_⟩;have h2:=j3 h;obtain⟨n,n1,n2⟩:=i3 (by have:=mX x env;omega);refine⟨n+(aX x env).n,by omega,?_⟩;rw[n2];simp only[List.map_cons,lH,Cs.add];omega
set_option maxRecDepth 100000 in
theorem c971(hf:pg.fs 971=some J7)(h978:pg.fs 978=some A5)(h572:pg.fs 572=some xF)
  (h123:∀p:aA,p.ok->∀(nl cl:Bool)(vars:List Str),vars.length+p.sz<=big->∀v:Int,Ret pg 123 [p.av,.sl nl (vars.map Str.av) cl,.int .i64 v] (.bool (dQ p vars v)))
  (p:aA) (hp:p.ok) (enl ecl:Bool) (env:List Val) (hsz:env.length+p.sz<=big) (h979:bO 1000 p (env.map (·.v))=true->cA pg 979 [p.av,.sl enl (env.map Val.av) ecl,.int .i64 30000] (W0 p env 30000)) :
  cA pg 971 [p.av,.sl enl (env.map Val.av) ecl,.int .i64 30000] (LQ (tG p env)):=by
 obtain⟨r,a978,hN⟩:=c978 h978 h572 enl ecl env (by omega);refine cA.ofX hf ?_;unfold J7;unfold pE at hN;split at hN;rename_i hd;obtain⟨nl,cl,rfl,_⟩:=hN;have a123:=h123 p hp nl cl (env.map (·.v)) (by simpa using hsz) 1000;rw[aA.avc]at a123;refine Wk ?_;refine aC a978 (Wk ?_);refine aC a123 ?_;cases hv:dQ p (env.map (·.v)) 1000;refine Wk ?_;exact⟨_,rfl,λ_ h=>by rw[h.2]at hv;cases hv⟩;have hv2:=hv;simp only[dQ,aD]at hv2;obtain⟨r,a,q,rfl,l1,l2,l3⟩:=h979 hv2.2;rw[aA.avc]at a;refine Wk ?_;refine aC a (Wk ?_);refine⟨_,rfl,λh _=>?_⟩;have:=l3 (aF h);have h2:=aF h;omega;rename_i hd;subst hN;refine Wk ?_;refine aC a978 (Wk ?_);exact⟨_,rfl,λ_ h=>(hd h.1).elim⟩
end
end
section
section
variable{pg:Pg}
set_option maxRecDepth 100000 in
set_option maxHeartbeats 1000000 in
theorem c967(hf:pg.fs 967=some KA)(h968:Ret pg 968 [] (.bool true))(p:aA)(enl ecl anl acl:Bool)(env:List Val)(arrs:List Arr)
  (a569:cA pg 569 [p.av] (LQ (qJ p=true))) (a969:cA pg 969 [.sl enl (env.map Val.av) ecl] (LQ (tH env/\env.length<=6))) (a970:cA pg 970 [.sl anl (arrs.map Arr.av) acl] (LQ (arrs.length<=6)))
  (a971:cA pg 971 [p.av,.sl enl (env.map Val.av) ecl,.int .i64 30000] (LQ (tG p env)))
  (a972:qJ p=true->tH env->tG p env->Ret pg 972 [p.av,.sl enl (env.map Val.av) ecl] (cpV p env)) (a973:qJ p=true->tH env->tG p env->Ret pg 973 [p.av,.sl enl (env.map Val.av) ecl] (cpV p env))
  (a937:cA pg 937 [p.av,.sl enl (env.map Val.av) ecl,.sl anl (arrs.map Arr.av) acl] (LR (lW arrs p env))) :
  Ret pg 967 [p.av,.sl enl (env.map Val.av) ecl,.sl anl (arrs.map Arr.av) acl] (.bool true):=by
 have te:treeL (env.map Val.av)=true:=bQ (λ_=>rfl) env;have ta:treeL (arrs.map Arr.av)=true:=Arr.treeL_av arrs;have tp:treeL [p.av]=true:=by simp only[treeL,aA.tree_av,Bool.and_true]
 obtain⟨p0,p1,p2,p3,p4,p5,p6,p7,p8,hpa⟩:∃p0 p1 p2 p3 p4 p5 p6 p7 p8,p.av = .agg [p0,p1,p2,p3,p4,p5,p6,p7,p8]:=⟨_,_,_,_,_,_,_,_,_,aA.avc p⟩
 obtain⟨E,hE⟩:∃E,E=AV.sl enl (env.map Val.av) ecl:=⟨_,rfl⟩
 obtain⟨A,hA⟩:∃A,A=AV.sl anl (arrs.map Arr.av) acl:=⟨_,rfl⟩
 have tE:E.tree=true:=by rw[hE];simp only[te,go_sem,seval]
 have tA:A.tree=true:=by rw[hA];simp only[ta,go_sem,seval]
 rw[<-hE,<-hA]at a937 ⊢;rw[<-hE]at a969 a971 a972 a973;rw[<-hA]at a970;rw[hpa]at a569 a971 a972 a973 a937 tp ⊢;have tpe:treeL [AV.agg [p0,p1,p2,p3,p4,p5,p6,p7,p8],E]=true:=by simp only[treeL,aD]at tp ⊢;exact⟨tp.1,tE,trivial⟩
 have tpei:treeL [AV.agg [p0,p1,p2,p3,p4,p5,p6,p7,p8],E,.int .i64 30000]=true:=by simp only[treeL,aD]at tp ⊢;exact⟨tp.1,tE,rfl,trivial⟩
 have tpea:treeL [AV.agg [p0,p1,p2,p3,p4,p5,p6,p7,p8],E,A]=true:=by simp only[treeL,aD]at tp ⊢;exact⟨tp.1,tE,tA,trivial⟩
 have tEE:treeL [E]=true:=by simp only[treeL,aD];exact⟨tE,trivial⟩
 have tAA:treeL [A]=true:=by simp only[treeL,aD];exact⟨tA,trivial⟩
 clear te ta hE hA;obtain⟨_,a569,f1,rfl,hf1⟩:=a569;obtain⟨_,a969,f2,rfl,hf2⟩:=a969;obtain⟨_,a970,f3,rfl,hf3⟩:=a970;obtain⟨_,a971,f4,rfl,hf4⟩:=a971;refine Ret.ofX hf ?_;unfold KA;refine Wk ?_;refine cO h968 rfl rfl (Wk ?_);refine cO a569 tp rfl ?_;cases f1
 case false=>simp only[go_sem,seval]
 refine Wk ?_;refine cO a969 tEE rfl ?_;cases f2
 case false=>simp only[go_sem,seval]
 refine Wk ?_;refine cO a970 tAA rfl ?_;cases f3
 case false=>simp only[go_sem,seval]
 refine Wk ?_;refine cO a971 tpei rfl ?_;cases f4
 case false=>simp only[go_sem,seval]
 have hl:=hf4 rfl;have hg:=(hf2 rfl).1;have hal:=hf3 rfl;have hfw:=hf1 rfl;have hfw4:i8 p=true:=by simp only[qJ,aD]at hfw;exact hfw.2
 have b972:=a972 hfw hg hl;have b973:=a973 hfw hg hl;clear a972 a973;refine Wk ?_;by_cases hok:ME p env;have hcp:cpV p env = .tup [fG (aX p env).r (aX p env).o,.int .i64 0]:=if_pos hok;rw[hcp]at b972 b973;refine cO b972 tpe rfl ?_;simp only[fG,go_sem,seval];refine cO b973 tpe rfl ?_;simp only[fG,go_sem,seval];obtain⟨r9,a937,q9⟩:=a937;cases hE:lW arrs p env with
 |er e=>
  rw[hE]at q9;simp only[LR]at q9;subst q9;have hne:decide (e=0)=false:=by simp[JM hE]
  refine cO a937 tpea rfl ?_;simp only[hne,go_sem,seval]
 |ok n c=>rw[hE]at q9;obtain⟨nl1,cl1,rfl⟩:=q9;obtain⟨_,hrd,hop⟩:=JX hg hal hl hfw4 hE;rw[hrd,hop]at a937;refine cO a937 tpea rfl ?_;simp only[go_sem,seval]
 have hcp:cpV p env = .tup [fG 0 0,.int .i64 1]:=if_neg hok;rw[hcp]at b972 b973;refine cO b972 tpe rfl ?_;simp only[fG,go_sem,seval];refine cO b973 tpe rfl ?_;simp only[fG,go_sem,seval];obtain⟨r9,a937,q9⟩:=a937;cases hE:lW arrs p env with
 |er e=>
  rw[hE]at q9;simp only[LR]at q9;subst q9;have hne:decide (e=0)=false:=by simp[JM hE]
  refine cO a937 tpea rfl ?_;simp only[hne,go_sem,seval]
 |ok n c=>exact(hok (JX hg hal hl hfw4 hE).1).elim
end
end
section
structure CodeCp(pg:Pg):Prop where
 f15:pg.fs 15=some NY
 f25:pg.fs 25=some VQ
 f26:pg.fs 26=some NX
 f32:pg.fs 32=some VP
 f34:pg.fs 34=some VO
 f37:pg.fs 37=some VN
 f40:pg.fs 40=some NQ
 f41:pg.fs 41=some RR
 f42:pg.fs 42=some NL
 f51:pg.fs 51=some VM
 f52:pg.fs 52=some VL
 f53:pg.fs 53=some NG
 f54:pg.fs 54=some VK
 f55:pg.fs 55=some s9
 f56:pg.fs 56=some KQ
 f57:pg.fs 57=some RQ
 f70:pg.fs 70=some VJ
 f77:pg.fs 77=some VI
 f87:pg.fs 87=some VH
 f89:pg.fs 89=some RP
 f90:pg.fs 90=some RO
 f91:pg.fs 91=some M4
 f95:pg.fs 95=some VF
 f96:pg.fs 96=some RN
 f98:pg.fs 98=some F9
 f107:pg.fs 107=some D4
 f109:pg.fs 109=some K8
 f111:pg.fs 111=some K6
 f114:pg.fs 114=some D3
 f115:pg.fs 115=some D2
 f118:pg.fs 118=some K2
 f121:pg.fs 121=some K0
 f123:pg.fs 123=some KZ
 f124:pg.fs 124=some mY
 f125:pg.fs 125=some KY
 f126:pg.fs 126=some xH
 f137:pg.fs 137=some D1
 f138:pg.fs 138=some sC
 f140:pg.fs 140=some KW
 f146:pg.fs 146=some D0
 f147:pg.fs 147=some KV
 f148:pg.fs 148=some uQ
 f161:pg.fs 161=some DZ
 f162:pg.fs 162=some DY
 f164:pg.fs 164=some KU
 f177:pg.fs 177=some pH
 f182:pg.fs 182=some KT
 f183:pg.fs 183=some VS
 f184:pg.fs 184=some DX
 f191:pg.fs 191=some BD
 f192:pg.fs 192=some KS
 f193:pg.fs 193=some KR
 f194:pg.fs 194=some xG
 f206:pg.fs 206=some lL
 f207:pg.fs 207=some DW
 f208:pg.fs 208=some VR
 f209:pg.fs 209=some BC
 f568:pg.fs 568=some KP
 f569:pg.fs 569=some KO
 f572:pg.fs 572=some xF
 f587:pg.fs 587=some xD
 f588:pg.fs 588=some DV
 f605:pg.fs 605=some A9
 f937:pg.fs 937=some KN
 f942:pg.fs 942=some DU
 f943:pg.fs 943=some KM
 f944:pg.fs 944=some KL
 f949:pg.fs 949=some KJ
 f950:pg.fs 950=some xC
 f951:pg.fs 951=some DT
 f952:pg.fs 952=some DS
 f953:pg.fs 953=some KI
 f954:pg.fs 954=some KH
 f957:pg.fs 957=some KG
 f958:pg.fs 958=some KF
 f959:pg.fs 959=some KE
 f960:pg.fs 960=some KD
 f961:pg.fs 961=some KC
 f964:pg.fs 964=some KB
 f965:pg.fs 965=some A6
 f966:pg.fs 966=some DR
 f967:pg.fs 967=some KA
 f969:pg.fs 969=some J9
 f970:pg.fs 970=some J8
 f971:pg.fs 971=some J7
 f972:pg.fs 972=some J6
 f973:pg.fs 973=some J5
 f978:pg.fs 978=some A5
 f979:pg.fs 979=some J4
 f980:pg.fs 980=some DQ
 f981:pg.fs 981=some xB
 f982:pg.fs 982=some J3
 f983:pg.fs 983=some J2
 f991:pg.fs 991=some DP
 f992:pg.fs 992=some w9
 f993:pg.fs 993=some w8
 f994:pg.fs 994=some A4
 f995:pg.fs 995=some DN
 f996:pg.fs 996=some A3
 f997:pg.fs 997=some A2
 f998:pg.fs 998=some DM
 f999:pg.fs 999=some DL
 f1000:pg.fs 1000=some wB
 f1001:pg.fs 1001=some wA
section
variable{pg:Pg}
theorem aJV(C:CodeCp pg)(A:Ora pg)(p:aA)(hp:p.ok)(nl cl:Bool)(vars:List Str)(hb:vars.length+p.sz<=big)(v:Int):Ret pg 109 [p.av,.sl nl (vars.map Str.av) cl,.int .i64 v] (.bool (dQ p vars v)):=by
 have h57:=c57 A C.f57 C.f91 C.f126;have h51:∀l:Lin,Ret pg 51 [l.av] (.bool (gV l)):=c51 C.f51 C.f89 h57;have h183:∀(nl cl:Bool)(ls:List Lin),ls.length<=big->∀(nl' cl':Bool)(vars:List Str),vars.length<=big->Ret pg 183 [.sl nl (ls.map Lin.av) cl,.sl nl' (vars.map Str.av) cl'] (.bool (dS ls vars)):=
  λnl cl ls hb nl' cl' vars hb'=>TE (g:=208) C.f183 h51 C.f96 C.f95 C.f137 C.f208 C.f98 C.f138 nl cl ls hb nl' cl' vars hb'
 have h140:∀op,cA pg 140 [.str op] (iP op):=c140 C.f140 C.f177 C.f107;have h111:=c111 C.f111 C.f148 h140;have h70:∀(nl cl:Bool)(fn:List aE),fn.length<=big->∀n:Int,Ret pg 70 [.sl nl (fn.map aE.av) cl,.int .i64 n] (.bool (cC fn n)):=λnl cl fn hb n=>c70 C.f70 h111 nl cl fn hb n;have h182:∀(p:aA),p.kids.length<=big->∀(nl cl:Bool)(vars:List Str),vars.length<=big->∀v:Int,Ret pg 182 [p.av,.sl nl (vars.map Str.av) cl,.int .i64 v] (.bool (cF p vars v)):=
  λp hp nl cl vars hb v=>c182 h57 C.f182 C.f206 C.f148 C.f207 C.f98 C.f138 h70 h140 p hp nl cl vars hb v
 have h147:∀p:aA,p.ok->∀(nl cl:Bool)(vars:List Str),vars.length+p.sz<=big->∀v:Int,Ret pg 147 [p.av,.sl nl (vars.map Str.av) cl,.int .i64 v] (.bool (bO v p vars)):=
  λp hp nl cl vars hb v=>c147 C.f147 h182 h183 C.f184 C.f209 v p hp nl cl vars hb
 exact c109 C.f109 C.f146 h147 p hp nl cl vars hb v
theorem U5(C:CodeCp pg)(p:aA)(hp:p.ok)(nl cl:Bool)(vars:List Str)(hb:vars.length+p.sz<=big)(v:Int):Ret pg 123 [p.av,.sl nl (vars.map Str.av) cl,.int .i64 v] (.bool (dQ p vars v)):=by
 have h77:∀s:Str,Ret pg 77 [.str s.bs] (.bool (iA s.bs)):=λs=>c77 C.f77 C.f114 C.f115 s.bs s.ok;have h54:∀l:Lin,Ret pg 54 [l.av] (.bool (gV l)):=c54 C.f54 h77 C.f90;have h121:=c121 C.f121 C.f162 C.f191;have h118:=c118 C.f118 C.f161 C.f15 h121;have h125:=c125 C.f125;have h87:∀(nl cl:Bool)(fn:List aE),fn.length<=big->∀n:Int,Ret pg 87 [.sl nl (fn.map aE.av) cl,.int .i64 n] (.bool (cC fn n)):=λnl cl fn hb n=>c87 C.f87 C.f124 h125 nl cl fn hb n;have h192:=c192 C.f192 h125;have h193:∀(nl cl:Bool)(ls:List Lin),ls.length<=big->∀(nl' cl':Bool)(vars:List Str),vars.length<=big->Ret pg 193 [.sl nl (ls.map Lin.av) cl,.sl nl' (vars.map Str.av) cl'] (.bool (dS ls vars)):=
  λnl cl ls hb nl' cl' vars hb'=>c193 C.f193 h54 C.f194 nl cl ls hb nl' cl' vars hb'
 exact c123 C.f123 C.f40 (c164 C.f164 h192 h118 h193 C.f124 h77 C.f194 h87) p hp nl cl vars hb v
theorem RF(C:CodeCp pg)(arrs:Sl Arr)(p:aA)(hp:p.ok)(env:Sl Val)(hb:env.es.length+p.sz<=big) :
  cA pg 937 [p.av,.sl env.nl (env.es.map Val.av) env.cl,.sl arrs.nl (arrs.es.map Arr.av) arrs.cl] (LR (lW arrs.es p env.es)):=by
 have h125:=c125 C.f125;have h960:=c960 C.f960 C.f950 C.f965;have h961:=c961 C.f961 C.f950 C.f965 C.f966;have h954:∀op nl cl (xs:List Int),xs.length<=big->Ret pg 954 [.str op,.sl nl (xs.map aH) cl] (lA op xs):=λop nl cl xs hb=>c954 C.f954 C.f124 h125 h960 h961 op nl cl xs hb;have h87:∀(nl cl:Bool)(fn:List aE),fn.length<=big->∀n:Int,Ret pg 87 [.sl nl (fn.map aE.av) cl,.int .i64 n] (.bool (cC fn n)):=λnl cl fn hb n=>c87 C.f87 C.f124 h125 nl cl fn hb n;have h958:=c958 C.f958 C.f124 h87 h954;have h959:=c959 C.f959 h125;have h943:=c943 C.f943 C.f588 C.f587 C.f124 C.f605;have h964:=c964 C.f964 C.f587;have h957:=c957 C.f957 h943 h964;have h944:=c944 C.f944 C.f55 C.f950 C.f951 C.f952 (c949 C.f949) (c953 C.f953 h959 h958) h954 arrs.es arrs.nl arrs.cl h957;exact c937 C.f937 C.f194 (U5 C) (c37 C.f37 C.f55) arrs.es arrs.nl arrs.cl (λa _=>h943 a) arrs.ok h944 p hp env.nl env.cl env.es hb
theorem aGX(C:CodeCp pg)(A:Ora pg)(hx:AscX pg)(h968:Ret pg 968 [] (.bool true))(p:aA)(hp:p.ok)(env:Sl Val)(arrs:Sl Arr)(hb:env.es.length+p.sz<=big) :
  Ret pg 967 [p.av,env.av Val.av,arrs.av Arr.av] (.bool true):=by
 have h25:∀p:aA,p.ok->Ret pg 25 [p.av] (.bool (qJ p)):=c25 C.f25 C.f40 C.f41 C.f42 C.f56 C.f26;have h57:=c57 A C.f57 C.f91 C.f126;have h51:∀l:Lin,Ret pg 51 [l.av] (.bool (gV l)):=c51 C.f51 C.f89 h57;have h32:=aRg C.f32 h51 C.f52 C.f53;have h77:∀s:Str,Ret pg 77 [.str s.bs] (.bool (iA s.bs)):=λs=>c77 C.f77 C.f114 C.f115 s.bs s.ok;have h54:∀l:Lin,Ret pg 54 [l.av] (.bool (gV l)):=c54 C.f54 h77 C.f90;have h34:=aRf C.f34 h54;have h959:=c959 C.f959 (c125 C.f125);refine c967 C.f967 h968 p env.nl env.cl arrs.nl arrs.cl env.es arrs.es (aKM C.f569 (c568 C.f568) h25 p hp) (c969 C.f969 env.nl env.cl env.es env.ok) (c970 C.f970 C.f942 arrs.nl arrs.cl arrs.es arrs.ok) ?_ ?_ ?_ (RF C arrs p hp env hb);exact c971 C.f971 C.f978 C.f572 (U5 C) p hp env.nl env.cl env.es hb (λhv=>c979 C.f979 C.f991 h34 1000 p hp env.es hb hv env.nl env.cl 30000 (by omega) (by omega));intro hf hg hl;have hf4:i8 p=true:=by simp only[qJ,aD]at hf;exact hf.2
 exact c972 C.f972 hx C.f98 C.f138 C.f980 (aJV C A) (c981 C.f981 C.f992 C.f177) p hp env.nl env.cl env.es hb hl (λhv=>c982 C.f982 hx C.f993 C.f994 C.f995 C.f996 C.f997 h32 1000 p hp hf4 env.es hb hv hg);intro hf hg hl;have hf4:i8 p=true:=by simp only[qJ,aD]at hf;exact hf.2
 exact c973 C.f973 hx C.f978 C.f572 (U5 C) p hp env.nl env.cl env.es hb hl (λhv=>c983 C.f983 hx C.f998 C.f999 C.f1000 C.f1001 h959 h34 1000 p hp hf4 env.es hb hv hg)
end
end
section
def W4(g:List AV->Nat->Hp->Option (AV×Hp)):Prop:=∀args kb h r h',g args kb h=some (r,h')->bW h=true->bW h'=true
theorem SA:W4 nX:=by
 intro args kb h r h' e ha;unfold nX at e
 repeat' (split at e)
 all_goals first|(cases e;done)|(cases e;exact ha)
theorem R8:W4 oY:=by
 intro args kb h r h' e ha;unfold oY at e
 repeat' (split at e)
 all_goals first|(cases e;done)|(cases e;exact ha)
theorem R6:W4 sZ:=by
 intro args kb h r h' e ha;unfold sZ at e
 repeat' (split at e)
 all_goals first|(cases e;done)|(cases e;exact ha)|(cases e;exact aR ha)
theorem R9:W4 s6:=by
 intro args kb h r h' e ha;unfold s6 at e
 repeat' (split at e)
 all_goals first|(cases e;done)|(cases e;exact ha)|(cases e;exact aR ha)
theorem R7:W4 vU:=by
 intro args kb h r h' e ha;unfold vU at e
 repeat' (split at e)
 all_goals first|(cases e;done)|(cases e;exact ha)
end
end Go.Tev
