import Derived.Test.YtilkdbbkkcnocaaGreatDoorSBM
import Derived.Test.YtilkdbbkkcnocaaGreatDoorSBL
set_option linter.all false
namespace Go.Tev
section
def rW(wk e:Int):Ob:=.blk [.mp 1179649 0,.int .i64 wk,.int .i64 e] 3 true true false
def CtX(wk e:Int)(h:Hp):Prop:=∃bs ck,h.get 1179653=some (0,rW wk e)/\h.get 1179649=some (0,.mpo (LY fJ) bs ck)
theorem CtX.nosnap{wk e:Int}{h:Hp}(o:CtX wk e h)(r:List AV):mapS (Tev.snap depth h) (.pt 1179653 0 0::r)=none:=by
 obtain⟨bs,ck,a1,a2⟩:=o;have h1:Tev.snap 63 h (.mp 1179649 0)=none:=by show Tev.snap (62+1) h _=_;unfold Tev.snap;simp[AV.tree]
 have:Tev.snap depth h (.pt 1179653 0 0)=none:=by show Tev.snap (63+1) h _=_;unfold Tev.snap;simp[AV.tree,a1,rW,bG,h1]
 rw[bG,this]
theorem CtX.mono{wk e:Int}{h h':Hp}(o:CtX wk e h)(h1:h'.get 1179653=h.get 1179653)(h2:h'.get 1179649=h.get 1179649):CtX wk e h':=by obtain⟨bs,ck,a1,a2⟩:=o;exact⟨bs,ck,h1.trans a1,h2.trans a2⟩
theorem CtX.of_get{wk e:Int}{h' H:Hp}(q:CtX wk e h')(hg:∀q,H.get q=h'.get q):CtX wk e H:=q.mono (hg _) (hg _)
def mO(a b:Int):AV:=.agg [.int .i64 a,.int .i64 0,.int .i64 b,.int .i64 0]
def lE(a b:Int):Ob:=.blk [.int .i64 a,.int .i64 0,.int .i64 b,.int .i64 0] 4 true true false
def iY(e e1:Int):Int:=if e=0 then e1 else e
def pT(e A B:Int):Int:=if 1000000<A\/1000000<B then iY e 3 else e
structure Rsn where
 w:Int
 e:Int
 a:Int
 b:Int
def pS(s t:Rsn):Rsn:=⟨t.w,pT t.e (wr .i64 (s.a+t.a)) (wr .i64 (s.b+t.b)),wr .i64 (s.a+t.a),wr .i64 (s.b+t.b)⟩
abbrev RsF:=List Val->Int->Int->Rsn
def pA:List RsF->List Val->Rsn->Rsn
 |[],_,s=>s
 |f::r,env,s=>pA r env (pS s (f env s.w s.e))
def nZ(st:Nat)(name:Str)(g:RsF)(env:List Val):Nat->Int->Rsn->Rsn
 |0,_,s=>s
 |k+1,i,s=>if s.e=0 then nZ st name g env k (i+1) (pS (pS s (g (env++[⟨name,i⟩]) s.w s.e)) ⟨(pS s (g (env++[⟨name,i⟩]) s.w s.e)).w,(pS s (g (env++[⟨name,i⟩]) s.w s.e)).e,0,st⟩) else s
def atE(env:List Val)(p:aA):Int:=match p.at_.es with|l::_=>(aO env l).2|[]=>0
def OF(w e:Int):Int:=if 200000<wr .i64 (w+1) then iY e 3 else e
def rnN(p:aA)(fs:List RsF)(env:List Val)(w e:Int):Rsn:=
 if OF w e≠0 then ⟨wr .i64 (w+1),OF w e,0,0⟩ else
 if p.op.bs=[105,102] then (match fs with|[f,g]=>(if atC env p<0 then g env (wr .i64 (w+1)) (atE env p) else f env (wr .i64 (w+1)) (atE env p))|_=>⟨0,0,0,0⟩) else
 if p.op.bs=[114,101,100,117,99,101] then (match fs with|[f,g]=>nZ (eL p.fn.es) p.name g env (atC env p).toNat 0 ⟨(f env (wr .i64 (w+1)) 0).w,iY (f env (wr .i64 (w+1)) 0).e (atE env p),(f env (wr .i64 (w+1)) 0).a,(f env (wr .i64 (w+1)) 0).b⟩|_=>⟨0,0,0,0⟩) else
 pS (pA fs env ⟨wr .i64 (w+1),0,(lQ p).r,(lQ p).o⟩) ⟨(pA fs env ⟨wr .i64 (w+1),0,(lQ p).r,(lQ p).o⟩).w,(pA fs env ⟨wr .i64 (w+1),0,(lQ p).r,(lQ p).o⟩).e,0,0⟩
mutual
def rnU:aA->RsF
 |.mk op num value name at_ dyn check fn knl kids kcl=>rnN (.mk op num value name at_ dyn check fn knl kids kcl) (TJ kids)
def TJ:List aA->List RsF
 |[]=>[]
 |p::r=>rnU p::TJ r
end
theorem OP:∀l:List aA,TJ l=l.map rnU
 |[]=>by rw[TJ];rfl
 |p::r=>by rw[TJ,OP r];rfl
theorem TK(p:aA):rnU p=rnN p (p.kids.map rnU):=by cases p;rw[rnU,OP];rfl
section
variable{pg:Pg}
theorem P3(hf:pg.fs 993=some uJ)(wk e e1:Int)(kb:Nat)(h:Hp)(hc:CtX wk e h):fD pg 993 [.pt 1179653 0 0,.int .i64 e1] kb h (λr h'=>cH h h' kb/\CtX wk (iY e e1) h'/\r = .tup []):=by have hc0:=hc;obtain⟨bs,ck,a1,a2⟩:=hc;refine fD.ofX hf ?_;unfold uJ;unfold iY;cases b:decide (e=0);rw[if_neg (aN b)];simp only[a1,rW,b,go_sem,seval];exact⟨cH.refl _ _,hc0⟩;rw[if_pos (aG b)];simp only[a1,rW,b,go_sem,seval];exact⟨(cH.refl _ _).put (.inr rfl),⟨bs,ck,by rw[aB,if_pos rfl];rfl,by rw[aB,if_neg (by decide)];exact a2⟩⟩
theorem aEV(hf:pg.fs 994=some AY)(h993:pg.fs 993=some uJ)(h32:∀(l:Lin) (nl cl:Bool) (ds:List Val),ds.length<=big->Ret pg 32 [l.av,.sl nl (ds.map Val.av) cl] (.tup [.int .i64 (aO ds l).1,.int .i64 (aO ds l).2]))
  (wk e:Int) (kb:Nat) (h:Hp) (hkb:1441792<=kb) (hc:CtX wk e h) (l:Lin) (nl cl:Bool) (env:List Val) (heb:env.length<=big) :
  fD pg 994 [.pt 1179653 0 0,l.av,.sl nl (env.map Val.av) cl] kb h (λr h'=>cH h h' kb/\CtX wk (iY e (aO env l).2) h'/\r = .int .i64 (aO env l).1):=by
 have hlb:=l.ts.ok;have a32:=h32 l nl cl env heb;refine fD.ofX hf ?_;unfold AY;refine Wk ?_;refine aC a32 (Wk ?_);have hc2:CtX wk e (h.put (kb+1) (h.next (kb+1)) (.blk [.int .i64 l.c,.sl l.ts.nl (l.ts.es.map aR.av) l.ts.cl] 2 true true false)):=hc.mono (by rw[aB,if_neg (by omega)]) (by rw[aB,if_neg (by omega)]);refine jU (.inr (hc2.nosnap _)) (B:=(kb+9+1)*65536) rfl (P3 h993 wk e (aO env l).2 _ _ hc2) ?_;rintro r h' ⟨q1,q2,rfl⟩;refine Wk ?_;exact⟨((cH.refl _ _).put (.inl (by omega))).trans q1 (by omega),q2⟩
set_option maxRecDepth 100000 in
theorem aEU(hf:pg.fs 996=some AX)(wk er:Int)(kb:Nat)(h:Hp)(hkb:1441792<=kb)(hc:CtX wk er h)(nl cl:Bool)(fn:List aE)(hb:fn.length<=big) :
  fD pg 996 [.pt 1179653 0 0,.sl nl (fn.map aE.av) cl] kb h (λr h'=>cH h h' kb/\CtX wk er h'/\r = .int .i64 (eL fn)):=by
 refine fD.ofX hf ?_;unfold AX;refine Wk ?_;refine aQ fn (λd r e hp=>e=FZ (.pt 1179653 0 0) (.int .i64 (eL d)) (.sl nl (fn.map aE.av) cl) (.int .i64 fn.length) (.int .i64 d.length)/\CtX wk er hp/\cH h hp kb) ?_ ?_ ?_;exact⟨rfl,hc,cH.refl _ _⟩;rintro e hp ⟨rfl,hc,hk⟩;simp only[FY,FZ,bK,go_sem,seval];exact⟨hk,hc⟩;rintro d x r e hp hes ⟨rfl,hc,hk⟩;obtain⟨hget,e1,e2,ew⟩:=eD hes hb;have hc':=hc;obtain⟨bs,ck,a1,a2⟩:=hc;have k8:(kb=1179652)=False:=eq_false (by omega);have hq:(AV.str x.op.bs).keyQ 1=true:=rfl;have hf:fX (LY fJ) (.str x.op.bs)=some ((fE x.op.bs).map λ_=>AV.bool true):=FO x.op.bs fJ;have hlk:∀h2:Hp,h2.get 1179649=hp.get 1179649->wS h2 1 (.bool false) false [.mp 1179649 0,.str x.op.bs]=some (.bool (fE x.op.bs).isSome,.pat [1179649] []):=by intro h2 e2;simp only[wS,e2,a2,hq,and_self,if_true,hf];cases fE x.op.bs<;>rfl
 have hl2:=hlk ((hp.put (kb+1) (hp.next (kb+1)) (.blk [.str [],.int .i64 0,.sl true [] true] 3 true true false)).put (kb+1) (hp.next (kb+1)) (.blk [.str x.op.bs,.int .i64 x.num,.sl x.args.nl (x.args.es.map aV) x.args.cl] 3 true true false)) (by rw[aB,if_neg (by omega),aB,if_neg (by omega)]);simp only[FY,FZ,e1,e2,hget,k8,a1,rW,↓hl2,go_sem,seval];refine And.intro (by simp[cW,dC,R.apart,R.uses,X.tmp,Eff.apart,nQ,Nat.testBit]) ?_;have hcH:∀o1 o2,CtX wk er ((hp.put (kb+1) (hp.next (kb+1)) o1).put (kb+1) (hp.next (kb+1)) o2):=λo1 o2=>hc'.mono (by rw[aB,if_neg (by omega),aB,if_neg (by omega)]) (by rw[aB,if_neg (by omega),aB,if_neg (by omega)]);have hkH:∀o1 o2,cH h ((hp.put (kb+1) (hp.next (kb+1)) o1).put (kb+1) (hp.next (kb+1)) o2) kb:=λo1 o2=>(hk.put (.inl (by omega))).put (.inl (by omega));have hdl:d.length<fn.length:=by rw[hes];simp
 have hsd:=QV d;cases hP:(fE x.op.bs).isSome;have hs:eL (d++[x])=eL d:=by simp[eL,List.filter_append,List.filter_cons,hP]
 simp only[ew,go_sem,seval];exact⟨by rw[hs];rfl,hcH _ _,hkH _ _⟩;have hs:((eL (d++[x]):Nat):Int)=wr .i64 ((eL d:Int)+1):=by rw[lA (by omega) (by simp only[big]at hb;omega)];simp[eL,List.filter_append,List.filter_cons,hP]
 simp only[ew,go_sem,seval];exact⟨by rw[hs];rfl,hcH _ _,hkH _ _⟩
def aCe(h:Hp)(kb:Nat)(wk e a b a' b':Int)(r:AV)(h':Hp):Prop:=cH h h' kb/\CtX wk (pT e (wr .i64 (a+a')) (wr .i64 (b+b'))) h'/\r=mO (wr .i64 (a+a')) (wr .i64 (b+b'))
theorem P2(hf:pg.fs 997=some AW)(h993:pg.fs 993=some uJ)(wk e:Int)(kb:Nat)(h:Hp)(hkb:1441792<=kb)(hc:CtX wk e h)(a b a' b':Int) :
  fD pg 997 [.pt 1179653 0 0,mO a b,mO a' b'] kb h (aCe h kb wk e a b a' b'):=by
 refine fD.ofX hf ?_;unfold AW mO;have w0:wr .i64 0=0:=rfl;obtain⟨A,hA⟩:∃A,A=wr .i64 (a+a'):=⟨_,rfl⟩
 obtain⟨B,hB⟩:∃B,B=wr .i64 (b+b'):=⟨_,rfl⟩
 have fin:∀(H:Hp),cH h H kb->CtX wk (pT e A B) H->aCe h kb wk e a b a' b' (.agg [.int .i64 A,.int .i64 0,.int .i64 B,.int .i64 0]) H:=λH k c=>⟨k,by rw[<-hA,<-hB];exact c,by rw[<-hA,<-hB];rfl⟩
 simp only[<-hA,<-hB,w0,go_sem,seval];obtain⟨H,hH⟩:∃H:Hp,H=(((((h.put (kb+1) (h.next (kb+1)) (.blk [.int .i64 a,.int .i64 0,.int .i64 b,.int .i64 0] 4 true true false)).put (kb+5) (h.next (kb+5)) (.blk [.int .i64 a',.int .i64 0,.int .i64 b',.int .i64 0] 4 true true false)).put (kb+9) (h.next (kb+9)) (.blk [.int .i64 0,.int .i64 0,.int .i64 0,.int .i64 0] 4 true true false)).put (kb+13) (h.next (kb+13)) (.blk [.int .i64 0,.int .i64 0,.int .i64 0,.int .i64 0] 4 true true false)).put (kb+13) (h.next (kb+13)) (.blk [.int .i64 A,.int .i64 0,.int .i64 B,.int .i64 0] 4 true true false)):=⟨_,rfl⟩
 have hK:cH h H kb:=by rw[hH];exact(((((cH.refl _ _).put (.inl (by omega))).put (.inl (by omega))).put (.inl (by omega))).put (.inl (by omega))).put (.inl (by omega))
 have hC:CtX wk e H:=hc.mono (by rw[hH];simp only[aB];rw[if_neg (by omega),if_neg (by omega),if_neg (by omega),if_neg (by omega),if_neg (by omega)]) (by rw[hH];simp only[aB];rw[if_neg (by omega),if_neg (by omega),if_neg (by omega),if_neg (by omega),if_neg (by omega)]);have g13:H.get (kb+13)=some (h.next (kb+13),.blk [.int .i64 A,.int .i64 0,.int .i64 B,.int .i64 0] 4 true true false):=by rw[hH,aB,if_pos rfl]
 have g9:H.get (kb+9)=some (h.next (kb+9),.blk [.int .i64 0,.int .i64 0,.int .i64 0,.int .i64 0] 4 true true false):=by rw[hH,aB,if_neg (by omega),aB,if_neg (by omega),aB,if_pos rfl]
 rw[<-hH];cases b1:decide (1000000<A);cases b2:decide (1000000<B);have hp:pT e A B=e:=if_neg (λh=>by rcases h with h|h<;>simp[h]at b1 b2);simp only[b1,b2,g13,g9,go_sem,seval];refine fin _ (hK.put (.inl (by omega))) ?_;rw[hp];exact hC.mono (by rw[aB,if_neg (by omega)]) (by rw[aB,if_neg (by omega)]);have hp:pT e A B=iY e 3:=if_pos (.inr (aG b2));simp only[b1,b2,g13,g9,go_sem,seval];refine jU (.inr (hC.nosnap _)) (B:=(kb+17+1)*65536) rfl (P3 h993 wk e 3 _ _ hC) ?_;rintro r h' ⟨q1,q2,rfl⟩;have p13:=(q1.1 (kb+13) (by omega) (by omega)).trans g13;have p9:=(q1.1 (kb+9) (by omega) (by omega)).trans g9;simp only[p13,p9,go_sem,seval];refine fin _ ((hK.trans q1 (by omega)).put (.inl (by omega))) ?_;rw[hp];exact q2.mono (by rw[aB,if_neg (by omega)]) (by rw[aB,if_neg (by omega)]);have hp:pT e A B=iY e 3:=if_pos (.inl (aG b1));simp only[b1,g13,g9,go_sem,seval];refine jU (.inr (hC.nosnap _)) (B:=(kb+17+1)*65536) rfl (P3 h993 wk e 3 _ _ hC) ?_;rintro r h' ⟨q1,q2,rfl⟩;have p13:=(q1.1 (kb+13) (by omega) (by omega)).trans g13;have p9:=(q1.1 (kb+9) (by omega) (by omega)).trans g9;simp only[p13,p9,go_sem,seval];refine fin _ ((hK.trans q1 (by omega)).put (.inl (by omega))) ?_;rw[hp];exact q2.mono (by rw[aB,if_neg (by omega)]) (by rw[aB,if_neg (by omega)])
end
end
section
def aBY(t:Rsn)(h:Hp)(kb:Nat)(r:AV)(h':Hp):Prop:=cH h h' kb/\CtX t.w t.e h'/\r=mO t.a t.b
def aCa(pg:Pg)(q:aA)(env:List Val):Prop:=∀(kb:Nat)(h:Hp)(wk e:Int)(enl ecl:Bool),1441792<=kb->kb % 65536=0->cM h=true->CtX wk e h ->
 fD pg 982 [.pt 1179653 0 0,q.av,.sl enl (env.map Val.av) ecl] kb h (aBY (rnU q env wk e) h kb)
theorem LS(x:Int) : -9223372036854775808<=wr .i64 x/\wr .i64 x<=9223372036854775807:=by
 simp only[wr];split;assumption;have e1:(2 ^ IntKind.bits .i64:Int)=18446744073709551616:=by decide
 have e2:(2 ^ (IntKind.bits .i64-1):Int)=9223372036854775808:=by decide
 simp only[IntKind.wrap,e1,e2];split;rename_i h;simp only[aD,cK]at h;omega;rename_i h;have hs:IntKind.signed .i64=true:=rfl;simp only[hs,Bool.true_and,cK]at h;omega
theorem DI{env:List Val}:∀{ts:List aR}{n:Int},-9223372036854775808<=n/\n<=9223372036854775807 -> -9223372036854775808<=(kC env n ts).1/\(kC env n ts).1<=9223372036854775807
 |[],n,h=>h
 |t::r,n,h=>by
  cases hv:kN env t.v.bs with
  |none=>rw[mN hv];decide
  |some v=>rw[mM hv];split;decide;exact DI (LS _)
theorem RT(l:Lin)(env:List Val) : -9223372036854775808<=(aO env l).1/\(aO env l).1<=9223372036854775807:=by unfold aO;split;rename_i h;simp only[eT,kD,aD,cK]at h;exact DI ⟨by omega,by omega⟩;decide
theorem MJ{st:Nat}{name:Str}{g:RsF}{env:List Val}{s:Rsn}(h:s.e≠0):∀{k:Nat}{i:Int},nZ st name g env k i s=s
 |0,_=>rfl
 |k+1,i=>by rw[nZ,if_neg h]
section
variable{pg:Pg}
set_option maxRecDepth 100000 in
set_option maxHeartbeats 2000000 in
theorem aLn(hf:pg.fs 995=some DQ)(hx:AscX pg)(h994:pg.fs 994=some AY)(h993:pg.fs 993=some uJ)(h996:pg.fs 996=some AX)(h997:pg.fs 997=some AW)
  (h32:∀(l:Lin)(nl cl:Bool)(ds:List Val),ds.length<=big->Ret pg 32 [l.av,.sl nl (ds.map Val.av) cl] (.tup [.int .i64 (aO ds l).1,.int .i64 (aO ds l).2]))
  (p:aA) (env:List Val) (heb:env.length<=big) (k0 k1:aA) (hks:p.kids=[k0,k1]) (l:Lin) (hat:p.at_.es=[l])
  (ih0:aCa pg k0 env) (ih1:∀i:Int,aCa pg k1 (env++[⟨p.name,i⟩]))
  (kb:Nat) (h:Hp) (wk er:Int) (S:Rsn) (hS:S=nZ (eL p.fn.es) p.name (rnU k1) env (aO env l).1.toNat 0 ⟨(rnU k0 env wk er).w,iY (rnU k0 env wk er).e (aO env l).2,(rnU k0 env wk er).a,(rnU k0 env wk er).b⟩)
  (enl ecl:Bool) (hkb:1441792<=kb) (hkb2:kb % 65536=0) (ha:cM h=true) (hc:CtX wk er h) :
  fD pg 995 [.pt 1179653 0 0,p.av,.sl enl (env.map Val.av) ecl] kb h (aBY S h kb):=by
 refine fD.ofX hf ?_;unfold DQ;have hk0:p.kids[0]?=some k0:=by rw[hks];rfl
 have hk1:p.kids[1]?=some k1:=by rw[hks];rfl
 have hl0:p.at_.es[0]?=some l:=by rw[hat];rfl
 obtain⟨H,hH⟩:∃H:Hp,H=(h.put (kb+1) (h.next (kb+1)) (.blk p.cells 9 true true false)).put (kb+5) (h.next (kb+5)) (.blk [.int .i64 0,.int .i64 0,.int .i64 0,.int .i64 0] 4 true true false):=⟨_,rfl⟩
 have g1:H.get (kb+1)=some (h.next (kb+1),.blk p.cells 9 true true false):=by rw[hH,aB,if_neg (by omega),aB,if_pos rfl]
 have g5:H.get (kb+5)=some (h.next (kb+5),.blk [.int .i64 0,.int .i64 0,.int .i64 0,.int .i64 0] 4 true true false):=by rw[hH,aB,if_pos rfl]
 have hkH:cH h H kb:=by rw[hH];exact((cH.refl _ _).put (.inl (by omega))).put (.inl (by omega))
 have haH:cM H=true:=by rw[hH];exact bO (bO ha)
 have hcH:CtX wk er H:=hc.mono (by rw[hH,aB,if_neg (by omega),aB,if_neg (by omega)]) (by rw[hH,aB,if_neg (by omega),aB,if_neg (by omega)]);simp only[aA.cells,aA.kav,Sl.av]at hH;simp only[hk0,go_sem,seval];rw[<-hH]
 try rw[<-aA.avc]
 refine nG (B:=(kb+9+1)*65536) hx (BG ..) haH (ih0 _ H wk er enl ecl (by omega) (by omega) haH hcH) (λr h' q=>q.1.2) ?_;obtain⟨t0,ht0⟩:∃t0,t0=rnU k0 env wk er:=⟨_,rfl⟩
 rw[<-ht0]at hS ⊢;obtain⟨wk1,e1,a1,b1⟩:=t0;rintro r h1 pa ⟨q1,q2,rfl⟩ ha1 hg1 hd1;dsimp only at q2;have hap:Eff.app H (.all pa)=aM H pa:=rfl;rw[hap];have k1':=q1.of_get hg1;have c1:=q2.of_get hg1;generalize aM H pa=H1 at k1' c1 ha1;clear hap hg1 hd1 q1 q2;obtain⟨H2,hH2⟩:∃H2:Hp,H2=(H1.put (kb+13) (H1.next (kb+13)) (.blk [.int .i64 0,.int .i64 0,.int .i64 0,.int .i64 0] 4 true true false)).put (kb+13) (H1.next (kb+13)) (.blk [.int .i64 a1,.int .i64 0,.int .i64 b1,.int .i64 0] 4 true true false):=⟨_,rfl⟩
 have o2:∀q,q≠kb+13->H2.get q=H1.get q:=λq hq=>by rw[hH2,aB,if_neg (Ne.symm hq),aB,if_neg (Ne.symm hq)]
 have a2:cM H2=true:=by rw[hH2];exact bO (bO ha1)
 have c2:CtX wk1 e1 H2:=c1.mono (o2 _ (by omega)) (o2 _ (by omega));have k2:cH H H2 (kb+13):=by refine cH.trans (kb':=kb+13) (⟨λq a b=>k1'.1 q (by omega) b,k1'.2⟩:cH H H1 (kb+13)) ⟨λq a b=>o2 q (by omega),?_⟩ (Nat.le_refl _);rw[hH2];exact tZ _ _ _ (tZ _ _ _ (λq h=>h))
 have p1:=(k2.1 (kb+1) (by omega) (by omega)).trans g1;have p1':=p1;simp only[aA.cells,aA.kav,Sl.av]at p1';have p0':=(k1'.1 (kb+1) (by omega) (by omega)).trans g1;simp only[aA.cells,aA.kav,Sl.av]at p0';simp only[mO,p0',hl0,go_sem,seval];rw[<-hH2]
 try rw[<-Lin.avc]
 have e994:=aEV h994 h993 h32 wk1 e1 ((kb+17+1)*65536) H2 (by omega) c2 l enl ecl env heb;refine nG (B:=(kb+17+1)*65536) hx (aFa ..) a2 e994 (λr h' q=>q.1.2) ?_;rintro r h3 pa ⟨q1,q2,rfl⟩ ha3 hg3 hd3;have hap:Eff.app H2 (.all pa)=aM H2 pa:=rfl;rw[hap];have k3:=q1.of_get hg3;have c3:=q2.of_get hg3;generalize aM H2 pa=H3 at k3 c3 ha3;clear hap hg3 hd3 q1 q2 e994;dsimp only at hS;generalize iY e1 (aO env l).2=e2 at c3 hS;have p3':=(k3.1 (kb+1) (by omega) (by omega)).trans p1;simp only[aA.cells,aA.kav,Sl.av]at p3';simp only[p3',go_sem,seval];have e996:=aEU h996 wk1 e2 ((kb+21+1)*65536) H3 (by omega) c3 p.fn.nl p.fn.cl p.fn.es p.fn.ok;refine nG (B:=(kb+21+1)*65536) hx rfl ha3 e996 (λr h' q=>q.1.2) ?_;rintro r h4 pa ⟨q1,q2,rfl⟩ ha4 hg4 hd4;have hap:Eff.app H3 (.all pa)=aM H3 pa:=rfl;rw[hap];have k4:=q1.of_get hg4;have c4:=q2.of_get hg4;generalize aM H3 pa=H4 at k4 c4 ha4;clear hap hg4 hd4 q1 q2 e996;obtain⟨H5,hH5⟩:∃H5:Hp,H5=(H4.put (kb+25) (H4.next (kb+25)) (.blk [.int .i64 0,.int .i64 0,.int .i64 0,.int .i64 0] 4 true true false)).put (kb+25) (H4.next (kb+25)) (.blk [.int .i64 0,.int .i64 0,.int .i64 (eL p.fn.es),.int .i64 0] 4 true true false):=⟨_,rfl⟩
 have K3:=k2.trans k3 (by omega);have K4:=K3.trans k4 (by omega);have K5:cH H H5 (kb+13):=by rw[hH5];exact(K4.put (.inl (by omega))).put (.inl (by omega))
 have o5:∀q,q≠kb+25->H5.get q=H4.get q:=λq hq=>by rw[hH5,aB,if_neg (Ne.symm hq),aB,if_neg (Ne.symm hq)]
 have a5:cM H5=true:=by rw[hH5];exact bO (bO ha4)
 have c5:CtX wk1 e2 H5:=c4.mono (o5 _ (by omega)) (o5 _ (by omega));obtain⟨E13,hE13⟩:∃E,E=H1.next (kb+13):=⟨_,rfl⟩
 obtain⟨E25,hE25⟩:∃E,E=H4.next (kb+25):=⟨_,rfl⟩
 have g13:H5.get (kb+13)=some (E13,lE a1 b1):=by rw[o5 _ (by omega),k4.1 _ (by omega) (by omega),k3.1 _ (by omega) (by omega),hH2,aB,if_pos rfl,hE13];rfl
 have g25:H5.get (kb+25)=some (E25,lE 0 (eL p.fn.es)):=by rw[hH5,aB,if_pos rfl,hE25];rfl
 have gg1:=(K5.1 (kb+1) (by omega) (by omega)).trans g1;have gg5:=(K5.1 (kb+5) (by omega) (by omega)).trans g5;have KK:cH h H5 kb:=hkH.trans K5 (by omega);refine Wk ?_;rw[<-hH5,<-hE13,<-hE25];clear K3 K4 K5 o5 k4 k3 k2 o2 hH5 hH2 a2 c2 c3 c4 ha3 ha4 ha1 p0' p1 p1' p3' k1' c1 g1 g5 hE13 hE25 hkH haH hcH;obtain⟨M,hM⟩:∃M,M=(aO env l).1:=⟨_,rfl⟩
 rw[<-hM]at hS ⊢;generalize h.next (kb+1)=E1 at gg1 ⊢;generalize h.next (kb+5)=E5 at gg5 ⊢
 refine kV (λa:Nat=>a) (λk e hp=>∃(i:Int)(s:Rsn),e=xY (.pt 1179653 0 0) (.sl enl (env.map Val.av) ecl) (.pt (kb+1) E1 0) (.pt (kb+5) E5 0) (.pt (kb+13) E13 0) (.int .i64 M) (.pt (kb+25) E25 0) (.int .i64 i) /\
  cH h hp kb/\cM hp=true/\CtX s.w s.e hp/\hp.get (kb+1)=some (E1,.blk p.cells 9 true true false)/\hp.get (kb+5)=some (E5,.blk [.int .i64 0,.int .i64 0,.int .i64 0,.int .i64 0] 4 true true false) /\
  hp.get (kb+13)=some (E13,lE s.a s.b)/\hp.get (kb+25)=some (E25,lE 0 (eL p.fn.es))/\0<=i/\k=(M-i).toNat/\S=nZ (eL p.fn.es) p.name (rnU k1) env k i s) M.toNat ?_ ?_
 exact⟨0,⟨wk1,e2,a1,b1⟩,rfl,KK,a5,c5,gg1,gg5,g13,g25,Int.le_refl _,by rw[Int.sub_zero],hS⟩;rintro k e hp ⟨i,⟨wkc,ec,a,b⟩,rfl,hK,hA,hC,q1,q5,q13,q25,hi0,hk,hT⟩;dsimp only at hC q13;have q13':=q13;simp only[lE]at q13';have hC':=hC;obtain⟨bs,ck,z1,z2⟩:=hC;have z1':=z1;simp only[rW]at z1'
 have stop:S=⟨wkc,ec,a,b⟩->∀o,aBY S h kb (mO a b) (hp.put (kb+5) E5 o):=λhs o=>by rw[hs];exact⟨hK.put (.inl (by omega)),hC'.mono (by rw[aB,if_neg (by omega)]) (by rw[aB,if_neg (by omega)]),rfl⟩
 unfold mO at stop;cases bi:decide (i<M);have hni:=aN bi;have hz:k=0:=by omega
 rw[hz,nZ]at hT;simp only[xX,xY,bi,q13',q5,go_sem,seval];exact stop hT _;cases be:decide (ec=0);have hne:=aN be;rw[MJ (s:=⟨wkc,ec,a,b⟩) hne]at hT;simp only[xX,xY,bi,z1',be,q13',q5,go_sem,seval];exact stop hT _;have he0:=aG be;have hiM:=aG bi;have hMM:M<=9223372036854775807:=by rw[hM];exact(RT l env).2
 have wi:wr .i64 (i+1)=i+1:=lA (by omega) (by omega);have hk1':k=(M-(i+1)).toNat+1:=by omega
 rw[hk1',nZ]at hT;dsimp only at hT;rw[if_pos he0]at hT;have q1':=q1;simp only[aA.cells,aA.kav,Sl.av]at q1';simp only[xX,xY,bi,be,z1',q1',↓aIw,go_sem,seval];refine QE (v:=⟨p.name,i⟩) (by simp only[big]at heb;omega) ?_;intro cs hcs;obtain⟨H6,hH6⟩:∃H6:Hp,H6=hp.put (kb+29) (hp.next (kb+29)) (.blk cs 2 true false false):=⟨_,rfl⟩
 have ow:Own H6 (kb+29) 2 true (.rf (kb+29) (hp.next (kb+29)) 0 (env.length+1) (env.length+1)) ((env++[(⟨p.name,i⟩:Val)]).map Val.av):=.inr ⟨hp.next (kb+29),cs,by simp,by rw[hH6,aB,if_pos rfl],hcs⟩;obtain⟨nl6,cl6,keys,hs6,hk6⟩:=ow.snapK (El.vals _) 62;refine Wk ?_;rw[<-hH6];refine BL hs6 ?_
 have f7:∀q,q≠kb+29->(Eff.app H6 (.pat keys (aI H6 keys))).get q=hp.get q:=λq hq=>by rw[fB (λhm=>hq (hk6 q hm)),hH6,aB,if_neg (Ne.symm hq)]
 have a7:cM (Eff.app H6 (.pat keys (aI H6 keys)))=true:=by refine iG (h:=H6) (pa:=aI H6 keys) ?_;rw[hH6];exact bO hA
 have n7:∀q,hp.get q≠none->(Eff.app H6 (.pat keys (aI H6 keys))).get q≠none:=λq hq=>by refine O5 (aI H6 keys) H6 q ?_;rw[hH6];exact tZ _ _ _ (λq h=>h) q hq
 refine Wk ?_;refine And.intro (by simp[cW,dC,R.apart,R.uses,X.tmp,Eff.apart,nQ,Nat.testBit]) ?_;generalize Eff.app H6 (.pat keys (aI H6 keys))=H7 at f7 a7 n7 ⊢;have K7:cH h H7 kb:=⟨λq x y=>(f7 q (by omega)).trans (hK.1 q x y),λq hq=>n7 q (hK.2 q hq)⟩
 have C7:CtX wkc ec H7:=hC'.mono (f7 _ (by omega)) (f7 _ (by omega));have r1:=(f7 (kb+1) (by omega)).trans q1;have r5:=(f7 (kb+5) (by omega)).trans q5;have r13:=(f7 (kb+13) (by omega)).trans q13;have r25:=(f7 (kb+25) (by omega)).trans q25;have r1':=r1;have r13':=r13;simp only[aA.cells,aA.kav,Sl.av]at r1';simp only[lE]at r13';clear f7 n7 hs6 hk6 ow hH6 hcs z1 z2 z1' q1' q13' q1 q5 q13 q25 hA hC' hK stop;obtain⟨t8,ht8⟩:∃t8,t8=rnU k1 (env++[(⟨p.name,i⟩:Val)]) wkc ec:=⟨_,rfl⟩
 have e982:=ih1 i ((kb+33+1)*65536) H7 wkc ec nl6 cl6 (by omega) (by omega) a7 C7;rw[<-ht8]at e982 hT;obtain⟨wk8,e8,a8',b8⟩:=t8;simp only[r13',r1',hk1,go_sem,seval];refine nG (B:=(kb+33+1)*65536) hx (BG ..) a7 e982 (λr h' q=>q.1.2) ?_;rintro r8 h8 pa8 ⟨s1,s2,rfl⟩ a8 g8 d8;dsimp only at s2;have hap:Eff.app H7 (.all pa8)=aM H7 pa8:=rfl;rw[hap];have d813:=d8 (kb+13) (s1.1 _ (by omega) (by omega));have d825:=d8 (kb+25) (s1.1 _ (by omega) (by omega));have k8:=s1.of_get g8;have c8:=s2.of_get g8;generalize aM H7 pa8=H8 at k8 c8 a8;clear hap g8 d8 s1 s2 e982;refine Wk ?_;refine nG (B:=(kb+37+1)*65536) hx rfl a8 (P2 h997 h993 wk8 e8 _ H8 (by omega) c8 a b a8' b8) (λr h' q=>q.1.2) ?_;rintro r9 h9 pa9 ⟨s1,s2,rfl⟩ a9 g9 d9;have hap:Eff.app H8 (.all pa9)=aM H8 pa9:=rfl;rw[hap];have d925:=d9 (kb+25) (s1.1 _ (by omega) (by omega));have k9:=s1.of_get g9;have c9:=s2.of_get g9;generalize aM H8 pa9=H9 at k9 c9 a9;clear hap g9 d9 s1 s2;have t25:=((k9.1 (kb+25) (by omega) (by omega)).trans (k8.1 (kb+25) (by omega) (by omega))).trans r25;simp only[lE]at t25;simp only[t25,go_sem,seval];dsimp only[pS]at hT;generalize pT e8 (wr .i64 (a+a8')) (wr .i64 (b+b8))=e9 at c9 hT;generalize wr .i64 (a+a8')=A9 at hT ⊢;generalize wr .i64 (b+b8)=B9 at hT ⊢;refine nG (B:=(kb+41+1)*65536) hx rfl a9 (P2 h997 h993 wk8 e9 _ H9 (by omega) c9 A9 B9 0 (eL p.fn.es)) (λr h' q=>q.1.2) ?_;rintro r10 h10 pa10 ⟨s1,s2,rfl⟩ a10 g10 d10;have hap:Eff.app H9 (.all pa10)=aM H9 pa10:=rfl;rw[hap];have k10:=s1.of_get g10;have c10:=s2.of_get g10;generalize aM H9 pa10=H10 at k10 c10 a10;clear hap g10 d10 s1 s2;have o10:∀q,q<kb+29->q≠1179653->H10.get q=H7.get q:=λq x y=>((k10.1 q (by omega) y).trans (k9.1 q (by omega) y)).trans (k8.1 q (by omega) y);have t13:=(o10 (kb+13) (by omega) (by omega)).trans r13;simp only[lE]at t13;generalize pT e9 (wr .i64 (A9+0)) (wr .i64 (B9+(eL p.fn.es:Int)))=e10 at c10 hT;generalize wr .i64 (A9+0)=A10 at hT ⊢;generalize wr .i64 (B9+(eL p.fn.es:Int))=B10 at hT ⊢;simp only[t13,mO,go_sem,seval];refine And.intro (by simp[cW,dC,R.apart,R.uses,X.tmp,Eff.apart,nQ,Nat.testBit];exact⟨d813,d825,d925⟩) ?_;simp only[wi,go_sem,seval];have K10:cH h H10 kb:=((K7.trans k8 (by omega)).trans k9 (by omega)).trans k10 (by omega);refine⟨(M-(i+1)).toNat,by omega,i+1,⟨wk8,e10,A10,B10⟩,rfl,K10.put (.inl (by omega)),bO a10,c10.mono (by rw[aB,if_neg (by omega)]) (by rw[aB,if_neg (by omega)]),?_,?_,rfl,?_,by omega,rfl,hT⟩;exact(o10 _ (by omega) (by omega)).trans r1;exact(o10 _ (by omega) (by omega)).trans r5;exact(o10 _ (by omega) (by omega)).trans r25
end
end
section
theorem RR{e e1:Int}(h:e1≠0):iY e e1≠0:=by unfold iY;split<;>assumption
section
variable{pg:Pg}
set_option maxRecDepth 100000 in
set_option maxHeartbeats 4000000 in
theorem aLp(hf:pg.fs 982=some J2)(hx:AscX pg)(h993:pg.fs 993=some uJ)(h994:pg.fs 994=some AY)(h995:pg.fs 995=some DQ)(h996:pg.fs 996=some AX)(h997:pg.fs 997=some AW)
  (h32:∀(l:Lin)(nl cl:Bool)(ds:List Val),ds.length<=big->Ret pg 32 [l.av,.sl nl (ds.map Val.av) cl] (.tup [.int .i64 (aO ds l).1,.int .i64 (aO ds l).2])) (vals:Int) :
  ∀p:aA,p.ok->∀env,env.length+p.sz<=big->cD vals p (env.map (·.v))=true->aCa pg p env:=by
 refine aA.ind' λp ih hpo env hsz hv kb h wk er enl ecl hkb hkb2 ha hc=>?_;obtain⟨hkb3,hks⟩:=(aA.ok_iff p).1 hpo;have hps:=aA.sz_eq p;have heb:env.length<=big:=by omega
 obtain⟨S,hS⟩:∃S,S=rnU p env wk er:=⟨_,rfl⟩
 rw[<-hS];rw[TK]at hS;unfold rnN OF at hS;have hc0:=hc;obtain⟨bs,ck,z1,z2⟩:=hc;simp only[rW]at z1;obtain⟨W,hW⟩:∃W,W=wr .i64 (wk+1):=⟨_,rfl⟩
 rw[<-hW]at hS;refine fD.ofX hf ?_;unfold J2;obtain⟨H1,hH1⟩:∃H1:Hp,H1=((h.put (kb+1) (h.next (kb+1)) (.blk p.cells 9 true true false)).put (kb+5) (h.next (kb+5)) (.blk [.int .i64 0,.int .i64 0,.int .i64 0,.int .i64 0] 4 true true false)).put 1179653 0 (.blk [.mp 1179649 0,.int .i64 W,.int .i64 er] 3 true true false):=⟨_,rfl⟩
 have f1:H1.get (kb+1)=some (h.next (kb+1),.blk p.cells 9 true true false):=by rw[hH1,aB,if_neg (by omega),aB,if_neg (by omega),aB,if_pos rfl]
 have f5:H1.get (kb+5)=some (h.next (kb+5),.blk [.int .i64 0,.int .i64 0,.int .i64 0,.int .i64 0] 4 true true false):=by rw[hH1,aB,if_neg (by omega),aB,if_pos rfl]
 have fz:H1.get 1179653=some (0,.blk [.mp 1179649 0,.int .i64 W,.int .i64 er] 3 true true false):=by rw[hH1,aB,if_pos rfl]
 have fC:CtX W er H1:=⟨bs,ck,fz,by rw[hH1,aB,if_neg (by decide),aB,if_neg (by omega),aB,if_neg (by omega)];exact z2⟩
 have fK:cH h H1 kb:=by rw[hH1];exact(((cH.refl _ _).put (.inl (by omega))).put (.inl (by omega))).put (.inr rfl)
 have fA:cM H1=true:=by rw[hH1];exact bO (bO (bO ha))
 simp only[aA.cells,aA.kav,Sl.av]at hH1;have n1:(kb=1179652)=False:=eq_false (by omega);have n5:(kb=1179648)=False:=eq_false (by omega);have n13:(kb=1179640)=False:=eq_false (by omega);have n1':(1179652=kb)=False:=eq_false (by omega);have n5':(1179648=kb)=False:=eq_false (by omega);have n13':(1179640=kb)=False:=eq_false (by omega);cases d1:decide (200000<W)
 rotate_left 1
 rw[if_pos (aG d1)]at hS;simp only[z1,<-hW,n1,n5,n13,n1',n5',n13',d1,go_sem,seval];rw[<-hH1];refine jU (.inr (fC.nosnap _)) (B:=(kb+9+1)*65536) rfl (P3 h993 W er 3 _ _ fC) ?_;rintro r h' ⟨q1,q2,rfl⟩;have hne:iY er 3≠0:=RR (by decide);have d2:decide (iY er 3=0)=false:=decide_eq_false hne;have q5:=(q1.1 (kb+5) (by omega) (by omega)).trans f5;have q2':=q2;obtain⟨bs',ck',y1,y2⟩:=q2';simp only[rW]at y1;simp only[y1,d2,q5,go_sem,seval];rw[if_pos hne]at hS;rw[hS];exact⟨(fK.trans q1 (by omega)).put (.inl (by omega)),q2.mono (by rw[aB,if_neg (by omega)]) (by rw[aB,if_neg (by omega)]),rfl⟩;rw[if_neg (aN d1)]at hS;cases d0:decide (er=0);have hne:=aN d0;simp only[z1,<-hW,n1,n5,n13,n1',n5',n13',d1,go_sem,seval];rw[<-hH1];simp only[fz,d0,f5,go_sem,seval];rw[if_pos hne]at hS;rw[hS];exact⟨fK.put (.inl (by omega)),fC.mono (by rw[aB,if_neg (by omega)]) (by rw[aB,if_neg (by omega)]),rfl⟩;have he0:=aG d0;subst he0;rw[if_neg (by simp)]at hS;obtain⟨H2,hH2⟩:∃H2:Hp,H2=H1.put (kb+13) (h.next (kb+13)) (.blk [.int .i64 0,.int .i64 0,.int .i64 0,.int .i64 0] 4 true true false):=⟨_,rfl⟩
 have g1:H2.get (kb+1)=some (h.next (kb+1),.blk p.cells 9 true true false):=by rw[hH2,aB,if_neg (by omega)];exact f1
 have g5:H2.get (kb+5)=some (h.next (kb+5),.blk [.int .i64 0,.int .i64 0,.int .i64 0,.int .i64 0] 4 true true false):=by rw[hH2,aB,if_neg (by omega)];exact f5
 have g13:H2.get (kb+13)=some (h.next (kb+13),lE 0 0):=by rw[hH2,aB,if_pos rfl];rfl
 have gC:CtX W 0 H2:=by exact fC.mono (by rw[hH2,aB,if_neg (by omega)]) (by rw[hH2,aB,if_neg (by omega)])
 have gK:cH h H2 kb:=by rw[hH2];exact fK.put (.inl (by omega))
 have gA:cM H2=true:=by rw[hH2];exact bO fA
 simp only[z1,<-hW,n1,n5,n13,n1',n5',n13',d1,go_sem,seval];rw[<-hH1];rw[<-hH2];clear hH2 hH1 fC fK fA f1 f5 fz n1 n5 n13 n1' n5' n13' z1 z2 d1 d0;generalize h.next (kb+1)=E1 at g1 ⊢;generalize h.next (kb+5)=E5 at g5 ⊢;generalize h.next (kb+13)=E13 at g13 ⊢;have g1':=g1;simp only[aA.cells,aA.kav,Sl.av]at g1';cases bI:decide (p.op.bs=[105,102])
 case true=>
  have mI:=aG bI;obtain⟨k0,k1,l,hk,hat,v0,v1⟩:=tF hv mI;have hk0:p.kids[0]?=some k0:=by rw[hk];rfl
  have hk1:p.kids[1]?=some k1:=by rw[hk];rfl
  have hl0:p.at_.es[0]?=some l:=by rw[hat];rfl
  have m0:k0∈p.kids:=by rw[hk];simp
  have m1:k1∈p.kids:=by rw[hk];simp
  have sz0:=aA.szL_mem m0;have sz1:=aA.szL_mem m1;have hat':atC env p=(aO env l).1:=by simp only[atC,hat]
  have hat2:atE env p=(aO env l).2:=by simp only[atE,hat]
  have hSI:S=if (aO env l).1<0 then rnU k1 env W (aO env l).2 else rnU k0 env W (aO env l).2:=by rw[hS,if_pos mI,hk,hat',hat2];rfl
  simp only[bI,g1',hl0,go_sem,seval]
  try rw[<-Lin.avc]
  refine nG (B:=(kb+17+1)*65536) hx (aFa ..) gA (aEV h994 h993 h32 W 0 _ H2 (by omega) gC l enl ecl env heb) (λr h' q=>q.1.2) ?_;rintro r3 h3 pa3 ⟨s1,s2,rfl⟩ a3 g3 d3;have hap:Eff.app H2 (.all pa3)=aM H2 pa3:=rfl;rw[hap];have k3:=s1.of_get g3;have c3:=s2.of_get g3;generalize aM H2 pa3=H3 at k3 c3 a3;clear hap g3 d3 s1 s2;have p1:=(k3.1 (kb+1) (by omega) (by omega)).trans g1';have p5:=(k3.1 (kb+5) (by omega) (by omega)).trans g5;have hf0:iY 0 (aO env l).2=(aO env l).2:=if_pos rfl;rw[hf0]at c3;generalize (aO env l).2=e3 at c3 hSI;have fin:∀(H4:Hp),cH H3 H4 ((kb+21+1)*65536)->CtX S.w S.e H4->aBY S h kb (.agg [.int .i64 S.a,.int .i64 0,.int .i64 S.b,.int .i64 0]) (H4.put (kb+5) E5 (.blk [.int .i64 S.a,.int .i64 0,.int .i64 S.b,.int .i64 0] 4 true true false)):=λH4 k4 c4=>
   ⟨((gK.trans k3 (by omega)).trans k4 (by omega)).put (.inl (by omega)),c4.mono (by rw[aB,if_neg (by omega)]) (by rw[aB,if_neg (by omega)]),rfl⟩
  cases bn:decide ((aO env l).1<0);rw[if_neg (aN bn)]at hSI;simp only[bn,p1,hk0,go_sem,seval];refine nG (B:=(kb+21+1)*65536) hx (BG ..) a3 (ih k0 m0 (hks k0 m0) env (by omega) v0 _ H3 W e3 enl ecl (by omega) (by omega) a3 c3) (λr h' q=>q.1.2) ?_;rw[<-hSI];rintro r4 h4 pa4 ⟨s1,s2,rfl⟩ a4 g4 d4;have hap:Eff.app H3 (.all pa4)=aM H3 pa4:=rfl;rw[hap];have k4:=s1.of_get g4;have c4:=s2.of_get g4;generalize aM H3 pa4=H4 at k4 c4 a4;clear hap g4 d4 s1 s2;have p5':=(k4.1 (kb+5) (by omega) (by omega)).trans p5;simp only[p5',mO,go_sem,seval];exact fin _ k4 c4;rw[if_pos (aG bn)]at hSI;simp only[bn,p1,hk1,go_sem,seval];refine nG (B:=(kb+21+1)*65536) hx (BG ..) a3 (ih k1 m1 (hks k1 m1) env (by omega) v1 _ H3 W e3 enl ecl (by omega) (by omega) a3 c3) (λr h' q=>q.1.2) ?_;rw[<-hSI];rintro r4 h4 pa4 ⟨s1,s2,rfl⟩ a4 g4 d4;have hap:Eff.app H3 (.all pa4)=aM H3 pa4:=rfl;rw[hap];have k4:=s1.of_get g4;have c4:=s2.of_get g4;generalize aM H3 pa4=H4 at k4 c4 a4;clear hap g4 d4 s1 s2;have p5':=(k4.1 (kb+5) (by omega) (by omega)).trans p5;simp only[p5',mO,go_sem,seval];exact fin _ k4 c4
 have mI:=aN bI;cases bR:decide (p.op.bs=[114,101,100,117,99,101])
 case true=>
  have mR:=aG bR;obtain⟨k0,k1,l,hk,hat,v0,v1,_⟩:=qM hv mR;have m0:k0∈p.kids:=by rw[hk];simp
  have m1:k1∈p.kids:=by rw[hk];simp
  have sz0:=aA.szL_mem m0;have sz1:=aA.szL_mem m1;have hat':atC env p=(aO env l).1:=by simp only[atC,hat]
  have hat2:atE env p=(aO env l).2:=by simp only[atE,hat]
  have hS2:S=nZ (eL p.fn.es) p.name (rnU k1) env (aO env l).1.toNat 0 ⟨(rnU k0 env W 0).w,iY (rnU k0 env W 0).e (aO env l).2,(rnU k0 env W 0).a,(rnU k0 env W 0).b⟩:=by rw[hS,if_neg mI,if_pos mR,hk,hat',hat2];rfl
  simp only[bI,bR,g1',go_sem,seval]
  try rw[<-aA.avc]
  refine nG (B:=(kb+25+1)*65536) hx (BG ..) gA (aLn h995 hx h994 h993 h996 h997 h32 p env heb k0 k1 hk l hat (ih k0 m0 (hks k0 m0) env (by omega) v0)
   (λi=>ih k1 m1 (hks k1 m1) _ (by simp only[cO,List.length_singleton];omega) (by rw[pY];exact v1)) _ H2 W 0 S hS2 enl ecl (by omega) (by omega) gA gC) (λr h' q=>q.1.2) ?_
  rintro r4 h4 pa4 ⟨s1,s2,rfl⟩ a4 g4 d4;have hap:Eff.app H2 (.all pa4)=aM H2 pa4:=rfl;rw[hap];have k4:=s1.of_get g4;have c4:=s2.of_get g4;generalize aM H2 pa4=H4 at k4 c4 a4;clear hap g4 d4 s1 s2;have p5':=(k4.1 (kb+5) (by omega) (by omega)).trans g5;simp only[p5',mO,go_sem,seval];exact⟨(gK.trans k4 (by omega)).put (.inl (by omega)),c4.mono (by rw[aB,if_neg (by omega)]) (by rw[aB,if_neg (by omega)]),rfl⟩
 have mR:=aN bR;have hkv:=l0 hv mR;have hSO:S=pS (pA (p.kids.map rnU) env ⟨W,0,(lQ p).r,(lQ p).o⟩) ⟨(pA (p.kids.map rnU) env ⟨W,0,(lQ p).r,(lQ p).o⟩).w,(pA (p.kids.map rnU) env ⟨W,0,(lQ p).r,(lQ p).o⟩).e,0,0⟩:=by rw[hS,if_neg mI,if_neg mR]
 have g13z:H2.get (kb+13)=some (E13,.blk [.int .i64 0,.int .i64 0,.int .i64 0,.int .i64 0] 4 true true false):=g13;have q5x:∀o,(H2.put (kb+13) E13 o).get (kb+5)=some (E5,.blk [.int .i64 0,.int .i64 0,.int .i64 0,.int .i64 0] 4 true true false):=λo=>by rw[aB,if_neg (by omega)];exact g5
 have KX:∀o,cH h (H2.put (kb+13) E13 o) kb:=λo=>gK.put (.inl (by omega));have CX:∀o,CtX W 0 (H2.put (kb+13) E13 o):=λo=>gC.mono (by rw[aB,if_neg (by omega)]) (by rw[aB,if_neg (by omega)]);cases bD:decide (p.op.bs=[114,101,97,100])
 rotate_left 1
 obtain⟨H,hH⟩:∃H:Hp,H=H2.put (kb+13) E13 (.blk [.int .i64 1,.int .i64 0,.int .i64 0,.int .i64 0] 4 true true false):=⟨_,rfl⟩
 obtain⟨hK,hA,hC,q5,rr,oo,ho,q13⟩:cH h H kb/\cM H=true/\CtX W 0 H/\H.get (kb+5)=some (E5,.blk [.int .i64 0,.int .i64 0,.int .i64 0,.int .i64 0] 4 true true false)/\∃rr oo:Nat,lQ p=⟨1,rr,oo⟩/\H.get (kb+13)=some (E13,lE rr oo):=by rw[hH];exact⟨KX _,bO gA,CX _,q5x _,1,0,by rw[lQ,if_pos (aG bD)],by rw[aB,if_pos rfl];rfl⟩
 simp only[bI,bR,bD,g13z,g1',go_sem,seval];rw[<-hH]
 rotate_left 1
 cases bX:decide (p.op.bs=[99,111,100,101])
 rotate_left 1
 simp only[bI,bR,bD,bX,g1',go_sem,seval];refine nG (B:=(kb+29+1)*65536) hx rfl gA (aEU h996 W 0 _ H2 (by omega) gC p.fn.nl p.fn.cl p.fn.es p.fn.ok) (λr h' q=>q.1.2) ?_;rintro r3 h3 pa3 ⟨s1,s2,rfl⟩ a3 g3 d3;have hap:Eff.app H2 (.all pa3)=aM H2 pa3:=rfl;rw[hap];have k3:=s1.of_get g3;have c3:=s2.of_get g3;generalize aM H2 pa3=H3 at k3 c3 a3;clear hap g3 d3 s1 s2;have p13:=(k3.1 (kb+13) (by omega) (by omega)).trans g13z;have p5:=(k3.1 (kb+5) (by omega) (by omega)).trans g5;obtain⟨H,hH⟩:∃H:Hp,H=H3.put (kb+13) E13 (.blk [.int .i64 0,.int .i64 0,.int .i64 (eL p.fn.es),.int .i64 0] 4 true true false):=⟨_,rfl⟩
 obtain⟨hK,hA,hC,q5,rr,oo,ho,q13⟩:cH h H kb/\cM H=true/\CtX W 0 H/\H.get (kb+5)=some (E5,.blk [.int .i64 0,.int .i64 0,.int .i64 0,.int .i64 0] 4 true true false)/\∃rr oo:Nat,lQ p=⟨1,rr,oo⟩/\H.get (kb+13)=some (E13,lE rr oo):=by rw[hH];exact⟨(gK.trans k3 (by omega)).put (.inl (by omega)),bO a3,c3.mono (by rw[aB,if_neg (by omega)]) (by rw[aB,if_neg (by omega)]),by rw[aB,if_neg (by omega)];exact p5,0,eL p.fn.es,by rw[lQ,if_neg (aN bD),if_pos (aG bX)],by rw[aB,if_pos rfl];rfl⟩
 have p1:=(k3.1 (kb+1) (by omega) (by omega)).trans g1';simp only[p13,p1,go_sem,seval];rw[<-hH]
 rotate_left 2
 have gC':=gC;obtain⟨bs2,ck2,y1,y2⟩:=gC';simp only[rW]at y1;have hq:(AV.str p.op.bs).keyQ 1=true:=rfl;have hf3:fX (LY fJ) (.str p.op.bs)=some ((fE p.op.bs).map λ_=>AV.bool true):=FO p.op.bs fJ;have hlk:wS H2 1 (.bool false) false [.mp 1179649 0,.str p.op.bs]=some (.bool (fE p.op.bs).isSome,.pat [1179649] []):=by simp only[wS,y2,hq,and_self,if_true,hf3];cases fE p.op.bs<;>rfl
 simp only[bI,bR,bD,bX,g1',y1,↓hlk,go_sem,seval];refine And.intro (by simp[cW,dC,R.apart,R.uses,X.tmp,Eff.apart,nQ,Nat.testBit]) ?_;cases hP:(fE p.op.bs).isSome;obtain⟨H,hH⟩:∃H:Hp,H=H2:=⟨_,rfl⟩
 obtain⟨hK,hA,hC,q5,rr,oo,ho,q13⟩:cH h H kb/\cM H=true/\CtX W 0 H/\H.get (kb+5)=some (E5,.blk [.int .i64 0,.int .i64 0,.int .i64 0,.int .i64 0] 4 true true false)/\∃rr oo:Nat,lQ p=⟨1,rr,oo⟩/\H.get (kb+13)=some (E13,lE rr oo):=by rw[hH];exact⟨gK,gA,gC,g5,0,0,by rw[lQ,if_neg (aN bD),if_neg (aN bX),hP];rfl,g13⟩
 simp only[hP,g1',go_sem,seval];rw[<-hH]
 rotate_left 1
 obtain⟨H,hH⟩:∃H:Hp,H=H2.put (kb+13) E13 (.blk [.int .i64 0,.int .i64 0,.int .i64 1,.int .i64 0] 4 true true false):=⟨_,rfl⟩
 obtain⟨hK,hA,hC,q5,rr,oo,ho,q13⟩:cH h H kb/\cM H=true/\CtX W 0 H/\H.get (kb+5)=some (E5,.blk [.int .i64 0,.int .i64 0,.int .i64 0,.int .i64 0] 4 true true false)/\∃rr oo:Nat,lQ p=⟨1,rr,oo⟩/\H.get (kb+13)=some (E13,lE rr oo):=by rw[hH];exact⟨KX _,bO gA,CX _,q5x _,0,1,by rw[lQ,if_neg (aN bD),if_neg (aN bX),hP];rfl,by rw[aB,if_pos rfl];rfl⟩
 simp only[hP,g13z,g1',go_sem,seval];rw[<-hH]
 all_goals
  clear g1 g5 g13 gC gK gA g13z q5x KX CX g1';rw[ho]at hSO
  refine aQ p.kids (λd r e hp=>∃s:Rsn,e=F8 (.pt 1179653 0 0) (.sl enl (env.map Val.av) ecl) (.pt (kb+5) E5 0) (.pt (kb+13) E13 0) (.sl p.knl (p.kids.map aA.av) p.kcl) (.int .i64 p.kids.length) (.int .i64 d.length) /\
   cH h hp kb/\cM hp=true/\CtX s.w s.e hp/\hp.get (kb+5)=some (E5,.blk [.int .i64 0,.int .i64 0,.int .i64 0,.int .i64 0] 4 true true false)/\hp.get (kb+13)=some (E13,lE s.a s.b) /\
   S=pS (pA (r.map rnU) env s) ⟨(pA (r.map rnU) env s).w,(pA (r.map rnU) env s).e,0,0⟩) ?_ ?_ ?_
  exact⟨⟨W,0,rr,oo⟩,rfl,hK,hA,hC,q5,q13,hSO⟩;rintro e hp ⟨⟨wkc,ec,a,b⟩,rfl,hK,hA,hC,q5,q13,hT⟩;dsimp only at hC q13;have q13':=q13;simp only[lE]at q13';rw[List.map_nil,pA]at hT;dsimp only[pS]at hT;simp only[F7,F8,bK,q13',go_sem,seval];refine nG (B:=(kb+45+1)*65536) hx rfl hA (P2 h997 h993 wkc ec _ hp (by omega) hC a b 0 0) (λr h' q=>q.1.2) ?_;rintro r4 h4 pa4 ⟨s1,s2,rfl⟩ a4 g4 d4;have hap:Eff.app hp (.all pa4)=aM hp pa4:=rfl;rw[hap];have k4:=s1.of_get g4;have c4:=s2.of_get g4;generalize aM hp pa4=H4 at k4 c4 a4;clear hap g4 d4 s1 s2;generalize pT ec (wr .i64 (a+0)) (wr .i64 (b+0))=e4 at c4 hT;generalize wr .i64 (a+0)=A4 at hT ⊢;generalize wr .i64 (b+0)=B4 at hT ⊢;have p5':=(k4.1 (kb+5) (by omega) (by omega)).trans q5;simp only[p5',mO,go_sem,seval];rw[hT];exact⟨(hK.trans k4 (by omega)).put (.inl (by omega)),c4.mono (by rw[aB,if_neg (by omega)]) (by rw[aB,if_neg (by omega)]),rfl⟩
  ·rintro d x r e hp hes ⟨⟨wkc,ec,a,b⟩,rfl,hK,hA,hC,q5,q13,hT⟩;dsimp only at hC q13;obtain⟨hget,e1,e2,ew⟩:=eD hes hkb3;have hxm:x∈p.kids:=by rw[hes];simp
   have szx:=aA.szL_mem hxm;obtain⟨H6,hH6⟩:∃H6:Hp,H6=(hp.put (kb+33) (hp.next (kb+33)) (.blk [.str [],.int .i64 0,.int .i64 0,.str [],.sl true [] true,.bool false,.int .i64 0,.sl true [] true,.sl true [] true] 9 true true false)).put (kb+33) (hp.next (kb+33)) (.blk x.cells 9 true true false):=⟨_,rfl⟩
   have f7:∀q,q≠kb+33->H6.get q=hp.get q:=λq hq=>by rw[hH6,aB,if_neg (Ne.symm hq),aB,if_neg (Ne.symm hq)]
   have a7:cM H6=true:=by rw[hH6];exact bO (bO hA)
   have K7:cH h H6 kb:=by rw[hH6];exact(hK.put (.inl (by omega))).put (.inl (by omega))
   have C7:CtX wkc ec H6:=hC.mono (f7 _ (by omega)) (f7 _ (by omega));have r5:=(f7 (kb+5) (by omega)).trans q5;have r13:=(f7 (kb+13) (by omega)).trans q13;have r33:H6.get (kb+33)=some (hp.next (kb+33),.blk x.cells 9 true true false):=by rw[hH6,aB,if_pos rfl]
   have r13':=r13;simp only[lE]at r13';simp only[aA.cells,aA.kav,Sl.av]at hH6 r33;obtain⟨t8,ht8⟩:∃t8,t8=rnU x env wkc ec:=⟨_,rfl⟩
   have e982:=ih x hxm (hks x hxm) env (by omega) (hkv x hxm) ((kb+37+1)*65536) H6 wkc ec enl ecl (by omega) (by omega) a7 C7;rw[List.map_cons,pA]at hT;dsimp only at hT;rw[<-ht8]at e982 hT;obtain⟨wk8,e8,a8',b8⟩:=t8;have q13':=q13;simp only[lE]at q13';simp only[F7,F8,e1,e2,hget,q13',go_sem,seval];rw[<-hH6]
   try rw[<-aA.avc]
   refine nG (B:=(kb+37+1)*65536) hx (BG ..) a7 e982 (λr h' q=>q.1.2) ?_;rintro r8 h8 pa8 ⟨s1,s2,rfl⟩ a8 g8 d8;dsimp only at s2;have hap:Eff.app H6 (.all pa8)=aM H6 pa8:=rfl;rw[hap];have d813:=d8 (kb+13) (s1.1 _ (by omega) (by omega));have k8:=s1.of_get g8;have c8:=s2.of_get g8;generalize aM H6 pa8=H8 at k8 c8 a8;clear hap g8 d8 s1 s2 e982;refine Wk ?_;refine nG (B:=(kb+41+1)*65536) hx rfl a8 (P2 h997 h993 wk8 e8 _ H8 (by omega) c8 a b a8' b8) (λr h' q=>q.1.2) ?_;rintro r9 h9 pa9 ⟨s1,s2,rfl⟩ a9 g9 d9;have hap:Eff.app H8 (.all pa9)=aM H8 pa9:=rfl;rw[hap];have k9:=s1.of_get g9;have c9:=s2.of_get g9;generalize aM H8 pa9=H9 at k9 c9 a9;clear hap g9 d9 s1 s2;rw[show pS ⟨wkc,ec,a,b⟩ ⟨wk8,e8,a8',b8⟩=⟨wk8,pT e8 (wr .i64 (a+a8')) (wr .i64 (b+b8)),wr .i64 (a+a8'),wr .i64 (b+b8)⟩ from rfl]at hT;generalize pT e8 (wr .i64 (a+a8')) (wr .i64 (b+b8))=e9 at c9 hT;generalize wr .i64 (a+a8')=A9 at hT ⊢;generalize wr .i64 (b+b8)=B9 at hT ⊢;have t13:=((k9.1 (kb+13) (by omega) (by omega)).trans (k8.1 (kb+13) (by omega) (by omega))).trans r13';have t5:=((k9.1 (kb+5) (by omega) (by omega)).trans (k8.1 (kb+5) (by omega) (by omega))).trans r5;simp only[t13,mO,go_sem,seval];refine And.intro (by simp[cW,dC,R.apart,R.uses,X.tmp,Eff.apart,nQ,Nat.testBit];exact d813) ?_;simp only[ew,go_sem,seval];exact⟨⟨wk8,e9,A9,B9⟩,rfl,((K7.trans k8 (by omega)).trans k9 (by omega)).put (.inl (by omega)),bO a9,c9.mono (by rw[aB,if_neg (by omega)]) (by rw[aB,if_neg (by omega)]),t5,rfl,hT⟩
end
end
section
section
variable{pg:Pg}
end
end
section
def MF(p:aA)(env:List Val):Prop:=lR env/\cU p (env.map (·.v)) 1000=true
end
section
instance (p:aA) (env:List Val):Decidable (MF p env):=inferInstanceAs (Decidable (lR env/\_))
def m5:Hp:=[⟨1179649,0,.mpo (LY fJ) (List.range 22) 22⟩,⟨1179653,0,.blk [.mp 1179649 0,.int .i64 0,.int .i64 0] 3 true true false⟩]
section
variable{pg:Pg}
set_option maxRecDepth 100000 in
theorem c981(hf:pg.fs 981=some wZ)(h992:pg.fs 992=some wX)(h177:pg.fs 177=some o8):tE pg 981 [] 1179648 [] (.pt 1179653 0 0) m5:=by
 have ht:∀f cf,(BT.n 981 wZ (.n 177 o8 .e .e) (.n 992 wX .e .e)).find f=some cf->pg.fs f=some cf:=by intro f cf h;exact BT.All.find (p:=λf cf=>pg.fs f=some cf) (t:=.n 981 wZ (.n 177 o8 .e .e) (.n 992 wX .e .e)) ⟨hf,⟨h177,trivial,trivial⟩,⟨h992,trivial,trivial⟩⟩ h
 have hr:aX ⟨λf=>(BT.n 981 wZ (.n 177 o8 .e .e) (.n 992 wX .e .e)).find f,pg.gl,λ_=>none⟩ 40 981 [] 1179648 []=some (.pt 1179653 0 0,m5):=by kernel_rfl
 exact⟨40,(rL (pg:=⟨λf=>(BT.n 981 wZ (.n 177 o8 .e .e) (.n 992 wX .e .e)).find f,pg.gl,λ_=>none⟩) ht rfl (λ_=>rfl) 40).1 _ _ _ _ _ hr⟩
end
end
section
structure Pv where
 r:Int
 o:Int
 e:Int
def iV(p:aA)(env:List Val):Pv:=
 if MF p env then (if (rnU p env 0 0).e=0 then ⟨(rnU p env 0 0).a,(rnU p env 0 0).b,0⟩ else ⟨0,0,(rnU p env 0 0).e⟩) else ⟨0,0,1⟩
def Pv.av(v:Pv):AV:=.tup [mO v.r v.o,.int .i64 v.e]
section
variable{pg:Pg}
set_option maxRecDepth 100000 in
theorem aLq(hf:pg.fs 972=some J5)(hx:AscX pg)(h98:pg.fs 98=some vS)(h138:pg.fs 138=some nB)(h980:pg.fs 980=some DS)
  (h109:∀p:aA,p.ok->∀(nl cl:Bool)(vars:List Str),vars.length+p.sz<=big->∀v:Int,Ret pg 109 [p.av,.sl nl (vars.map Str.av) cl,.int .i64 v] (.bool (cU p vars v)))
  (hnew:tE pg 981 [] 1179648 [] (.pt 1179653 0 0) m5)
  (p:aA) (hp:p.ok) (enl ecl:Bool) (env:List Val) (hsz:env.length+p.sz<=big) (h982:cD 1000 p (env.map (·.v))=true->aCa pg p env):Ret pg 972 [p.av,.sl enl (env.map Val.av) ecl] (iV p env).av:=by
 obtain⟨r,a980,hN⟩:=c980 h980 h98 h138 enl ecl env (by omega);refine Ret.ofX hf ?_;unfold J5;unfold kI at hN;split at hN
 ·rename_i hd;obtain⟨nl,cl,rfl,_⟩:=hN;have a109:=h109 p hp nl cl (env.map (·.v)) (by simpa using hsz) 1000;rw[aA.avc]at a109;refine Wk ?_;refine aC a980 (Wk ?_);refine aC a109 ?_;cases hv:cU p (env.map (·.v)) 1000;have hcp:(iV p env).av = .tup [mO 0 0,.int .i64 1]:=by unfold iV;rw[if_neg (λh=>by rw[h.2]at hv;cases hv)];rfl
  rw[hcp];simp only[mO,go_sem,seval]
  ·have hok:MF p env:=⟨hd,hv⟩
   have hcp:iV p env=(if (rnU p env 0 0).e=0 then ⟨(rnU p env 0 0).a,(rnU p env 0 0).b,0⟩ else ⟨0,0,(rnU p env 0 0).e⟩):=if_pos hok;rw[hcp];refine Wk ?_;refine XM rfl hnew (by kernel_rfl) ?_ ?_;intro x hx;simp only[m5,List.mem_cons,List.not_mem_nil,or_false]at hx;rcases hx with rfl|rfl<;>rfl
   ·have hp0:=hp;obtain⟨H0,hH0⟩:∃H0:Hp,H0=((Hp.put [] 1 0 (.blk p.cells 9 true true false)).put 5 0 (.blk [.int .i64 0,.int .i64 0,.int .i64 0,.int .i64 0] 4 true true false)):=⟨_,rfl⟩
    have g1:(Eff.app H0 (.pat (m5.map (·.k)) m5)).get 1=some (0,.blk p.cells 9 true true false):=by rw[hH0];rfl
    have g5:(Eff.app H0 (.pat (m5.map (·.k)) m5)).get 5=some (0,.blk [.int .i64 0,.int .i64 0,.int .i64 0,.int .i64 0] 4 true true false):=by rw[hH0];rfl
    have gA:cM (Eff.app H0 (.pat (m5.map (·.k)) m5))=true:=by rw[hH0];rfl
    have gC:CtX 0 0 (Eff.app H0 (.pat (m5.map (·.k)) m5)):=by rw[hH0];exact⟨List.range 22,22,rfl,rfl⟩
    simp only[aA.cells,aA.kav,Sl.av]at hH0 g1;rw[<-hH0];generalize Eff.app H0 (.pat (m5.map (·.k)) m5)=H at g1 g5 gA gC ⊢;have hv2:=hv;simp only[cU,aD]at hv2;simp only[g1,go_sem,seval]
    try rw[<-aA.avc]
    refine OB hx (.inr (gC.nosnap _)) (B:=1441792) (BG ..) gA (h982 hv2.2 1441792 H 0 0 enl ecl (by omega) (by omega) gA gC) ?_;obtain⟨t,ht⟩:∃t,t=rnU p env 0 0:=⟨_,rfl⟩
    rw[<-ht];obtain⟨w1,e1,a1,b1⟩:=t;rintro r' h' ⟨k1,c1,rfl⟩ a1';obtain⟨bs,ck,z1,z2⟩:=c1;simp only[rW]at z1;have g5':=(k1.1 5 (by decide) (by decide)).trans g5;cases b:decide (e1=0);have hne:=aN b;dsimp only;rw[if_neg hne];simp only[z1,mO,g5',Pv.av,b,go_sem,seval];rfl;have he:=aG b;subst he;dsimp only;rw[if_pos rfl];simp only[z1,mO,g5',Pv.av,go_sem,seval]
 rename_i hd;subst hN;have hcp:(iV p env).av = .tup [mO 0 0,.int .i64 1]:=by unfold iV;rw[if_neg (λh=>hd h.1)];rfl
 rw[hcp];refine Wk ?_;refine aC a980 ?_;simp only[mO,go_sem,seval]
end
end
end Go.Tev
