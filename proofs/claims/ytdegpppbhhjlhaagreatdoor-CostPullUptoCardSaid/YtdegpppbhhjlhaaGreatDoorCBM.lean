import Derived.Test.YtdegpppbhhjlhaaGreatDoorCBL
import Derived.Test.YtdegpppbhhjlhaaGreatDoorCBD
import Derived.Test.YtdegpppbhhjlhaaGreatDoorCBG
set_option linter.all false
namespace Go.Tev
section
theorem aQf(k:Nat):(k=k+4)=False:=eq_false (by omega)
theorem aJw(k:Nat):(k+4=k)=False:=eq_false (by omega)
theorem aQe(k:Nat):(k=k+8)=False:=eq_false (by omega)
theorem aJs(k:Nat):(k+8=k)=False:=eq_false (by omega)
theorem aJD(k:Nat):(k=k+12)=False:=eq_false (by omega)
theorem aGf(k:Nat):(k+12=k)=False:=eq_false (by omega)
theorem aJC(k:Nat):(k=k+16)=False:=eq_false (by omega)
theorem aGe(k:Nat):(k+16=k)=False:=eq_false (by omega)
theorem aJB(k:Nat):(k=k+20)=False:=eq_false (by omega)
theorem aGd(k:Nat):(k+20=k)=False:=eq_false (by omega)
theorem aJA(k:Nat):(k=k+24)=False:=eq_false (by omega)
theorem aGc(k:Nat):(k+24=k)=False:=eq_false (by omega)
theorem aJz(k:Nat):(k=k+28)=False:=eq_false (by omega)
theorem aGb(k:Nat):(k+28=k)=False:=eq_false (by omega)
theorem aJy(k:Nat):(k=k+32)=False:=eq_false (by omega)
theorem aGa(k:Nat):(k+32=k)=False:=eq_false (by omega)
theorem aJx(k:Nat):(k=k+36)=False:=eq_false (by omega)
theorem aFZ(k:Nat):(k+36=k)=False:=eq_false (by omega)
theorem aJv(k:Nat):(k=k+40)=False:=eq_false (by omega)
theorem aFY(k:Nat):(k+40=k)=False:=eq_false (by omega)
theorem aJu(k:Nat):(k=k+44)=False:=eq_false (by omega)
theorem aFX(k:Nat):(k+44=k)=False:=eq_false (by omega)
theorem aJt(k:Nat):(k=k+48)=False:=eq_false (by omega)
theorem aFW(k:Nat):(k+48=k)=False:=eq_false (by omega)
attribute [go_sem] aQf aJw aQe aJs aJD aGf aJC aGe aJB aGd aJA aGc aJz aGb aJy aGa aJx aFZ aJv aFY aJu aFX aJt aFW
def JT(wk:Int):Ob:=.blk [.mp 1179649 0,.int .i64 wk,.int .i64 0] 3 true true false
def QP(l:List pO):List (AV×AV):=l.map λr=>(.str r.op,.bool true)
private theorem eq1s(a b:List UInt8):eq1 (.str a) (.str b)=some (decide (a=b)):=rfl
theorem FK(s:List UInt8):∀l:List pO,fX (QP l) (.str s)=some ((l.find? λr=>decide (r.op=s)).map λ_=>AV.bool true)
 |[]=>rfl
 |x::r=>by have ih:=FK s r;simp only[QP,List.map_cons,fX,eq1s]at ih ⊢;by_cases h:x.op=s;subst h;simp;have h':¬s=x.op:=λe=>h e.symm;simp only[List.find?_cons,h,h',decide_false];rw[<-ih]
def Ct(wk:Int)(h:Hp):Prop:=∃bs ck,h.get 1179653=some (0,JT wk)/\h.get 1179649=some (0,.mpo (QP fL) bs ck)
theorem Ct.nosnap{wk:Int}{h:Hp}(o:Ct wk h)(r:List AV):mapS (Tev.snap depth h) (.pt 1179653 0 0::r)=none:=by
 obtain⟨bs,ck,a1,a2⟩:=o;have h1:Tev.snap 63 h (.mp 1179649 0)=none:=by show Tev.snap (62+1) h _=_;unfold Tev.snap;simp[AV.tree]
 have:Tev.snap depth h (.pt 1179653 0 0)=none:=by show Tev.snap (63+1) h _=_;unfold Tev.snap;simp[AV.tree,a1,JT,eG,h1]
 rw[eG,this]
def eB(h h':Hp)(kb:Nat):Prop:=(∀q,q<kb->q≠1179653->h'.get q=h.get q)/\∀q,h.get q≠none->h'.get q≠none
theorem eB.refl(h:Hp)(kb:Nat):eB h h kb:=⟨λ_ _ _=>rfl,λ_ h=>h⟩
theorem eB.trans{h h' h'':Hp}{kb kb':Nat}(a:eB h h' kb)(b:eB h' h'' kb')(hk:kb<=kb'):eB h h'' kb:=
 ⟨λq h1 h2=>(b.1 q (by omega) h2).trans (a.1 q h1 h2),λq hq=>b.2 q (a.2 q hq)⟩
theorem uD{h hp:Hp}(k e:Nat)(o:Ob)(hk:∀q,h.get q≠none->hp.get q≠none):∀q,h.get q≠none->(hp.put k e o).get q≠none:=λq hq=>by rw[aB];split;exact Option.some_ne_none _;exact hk q hq
theorem eB.put{h h':Hp}{kb k e:Nat}{o:Ob}(a:eB h h' kb)(hk:kb<=k\/k=1179653):eB h (h'.put k e o) kb:=
 ⟨λq h1 h2=>by rw[aB,if_neg (by omega)];exact a.1 q h1 h2,uD k e o a.2⟩
theorem Ct.mono{wk:Int}{h h':Hp}(o:Ct wk h)(h1:h'.get 1179653=h.get 1179653)(h2:h'.get 1179649=h.get 1179649):Ct wk h':=by obtain⟨bs,ck,a1,a2⟩:=o;exact⟨bs,ck,h1.trans a1,h2.trans a2⟩
def CtP(h:Hp)(kb:Nat)(wk:Int)(v r:AV)(h':Hp):Prop:=eB h h' kb/\Ct wk h'/\r=v
section
variable{pg:Pg}
theorem c993(hf:pg.fs 993=some w8)(wk:Int)(kb:Nat)(h:Hp)(hc:Ct wk h):cW pg 993 [.pt 1179653 0 0,.int .i64 0] kb h (CtP h kb wk (.tup [])):=by obtain⟨bs,ck,a1,a2⟩:=hc;refine cW.ofX hf ?_;unfold w8;simp only[a1,JT,go_sem,seval];exact⟨(eB.refl _ _).put (.inr rfl),⟨bs,ck,by rw[aB,if_pos rfl];rfl,by rw[aB,if_neg (by decide)];exact a2⟩,rfl⟩
theorem c994(hf:pg.fs 994=some A4)(h993:pg.fs 993=some w8)(h32:∀(l:Lin) (nl cl:Bool) (ds:List Val),ds.length<=big->Ret pg 32 [l.av,.sl nl (ds.map Val.av) cl] (.tup [.int .i64 (cD ds l).1,.int .i64 (cD ds l).2]))
  (wk:Int) (kb:Nat) (h:Hp) (hkb:1441792<=kb) (hc:Ct wk h) (l:Lin) (nl cl:Bool) (env:List Val) (heb:env.length<=big) (h0:(cD env l).2=0) :
  cW pg 994 [.pt 1179653 0 0,l.av,.sl nl (env.map Val.av) cl] kb h (CtP h kb wk (.int .i64 (cD env l).1)):=by
 have hlb:=l.ts.ok;have a32:=h32 l nl cl env heb;rw[h0]at a32;refine cW.ofX hf ?_;unfold A4;refine Wk ?_;refine aC a32 (Wk ?_);have hc2:Ct wk (h.put (kb+1) (h.next (kb+1)) (.blk [.int .i64 l.c,.sl l.ts.nl (l.ts.es.map bE.av) l.ts.cl] 2 true true false)):=hc.mono (by rw[aB,if_neg (by omega)]) (by rw[aB,if_neg (by omega)]);refine eA (.inr (hc2.nosnap _)) (B:=(kb+9+1)*65536) rfl (c993 h993 wk _ _ hc2) ?_;rintro r h' ⟨q1,q2,rfl⟩;refine Wk ?_;exact⟨((eB.refl _ _).put (.inl (by omega))).trans q1 (by omega),q2,rfl⟩
set_option maxRecDepth 100000 in
theorem c996(hf:pg.fs 996=some A3)(wk:Int)(kb:Nat)(h:Hp)(hkb:1441792<=kb)(hc:Ct wk h)(nl cl:Bool)(fn:List aE)(hb:fn.length<=big) :
  cW pg 996 [.pt 1179653 0 0,.sl nl (fn.map aE.av) cl] kb h (CtP h kb wk (.int .i64 (aQ fn))):=by
 refine cW.ofX hf ?_;unfold A3;refine Wk ?_;refine aN fn (λd r e hp=>e=FX (.pt 1179653 0 0) (.int .i64 (aQ d)) (.sl nl (fn.map aE.av) cl) (.int .i64 fn.length) (.int .i64 d.length)/\Ct wk hp/\eB h hp kb) ?_ ?_ ?_;exact⟨rfl,hc,eB.refl _ _⟩;rintro e hp ⟨rfl,hc,hk⟩;simp only[FV,FX,bH,go_sem,seval];exact⟨hk,hc,rfl⟩;rintro d x r e hp hes ⟨rfl,hc,hk⟩;obtain⟨hget,e1,e2,ew⟩:=cY hes hb;have hc':=hc;obtain⟨bs,ck,a1,a2⟩:=hc;have k8:(kb=1179652)=False:=eq_false (by omega);have hq:(AV.str x.op.bs).keyQ 1=true:=rfl;have hf:fX (QP fL) (.str x.op.bs)=some ((cX x.op.bs).map λ_=>AV.bool true):=FK x.op.bs fL;have hlk:∀h2:Hp,h2.get 1179649=hp.get 1179649->wW h2 1 (.bool false) false [.mp 1179649 0,.str x.op.bs]=some (.bool (cX x.op.bs).isSome,.pat [1179649] []):=by intro h2 e2;simp only[wW,e2,a2,hq,and_self,if_true,hf];cases cX x.op.bs<;>rfl
 have hl2:=hlk ((hp.put (kb+1) (hp.next (kb+1)) (.blk [.str [],.int .i64 0,.sl true [] true] 3 true true false)).put (kb+1) (hp.next (kb+1)) (.blk [.str x.op.bs,.int .i64 x.num,.sl x.args.nl (x.args.es.map aH) x.args.cl] 3 true true false)) (by rw[aB,if_neg (by omega),aB,if_neg (by omega)]);simp only[FV,FX,e1,e2,hget,k8,a1,JT,↓hl2,go_sem,seval];refine And.intro (by simp[bT,bS,R.apart,R.uses,X.tmp,Eff.apart,lP,Nat.testBit]) ?_;have hcH:∀o1 o2,Ct wk ((hp.put (kb+1) (hp.next (kb+1)) o1).put (kb+1) (hp.next (kb+1)) o2):=λo1 o2=>hc'.mono (by rw[aB,if_neg (by omega),aB,if_neg (by omega)]) (by rw[aB,if_neg (by omega),aB,if_neg (by omega)]);have hkH:∀o1 o2,eB h ((hp.put (kb+1) (hp.next (kb+1)) o1).put (kb+1) (hp.next (kb+1)) o2) kb:=λo1 o2=>(hk.put (.inl (by omega))).put (.inl (by omega));have hdl:d.length<fn.length:=by rw[hes];simp
 have hsd:=l9 d;cases hP:(cX x.op.bs).isSome;have hs:aQ (d++[x])=aQ d:=by simp[aQ,List.filter_append,List.filter_cons,hP]
 simp only[ew,go_sem,seval];exact⟨by rw[hs];rfl,hcH _ _,hkH _ _⟩;have hs:((aQ (d++[x]):Nat):Int)=wr .i64 ((aQ d:Int)+1):=by rw[gH (by omega) (by simp only[big]at hb;omega)];simp[aQ,List.filter_append,List.filter_cons,hP]
 simp only[ew,go_sem,seval];exact⟨by rw[hs];rfl,hcH _ _,hkH _ _⟩
def fG(r o:Nat):AV:=.agg [.int .i64 r,.int .i64 0,.int .i64 o,.int .i64 0]
theorem c997(hf:pg.fs 997=some A2)(wk:Int)(kb:Nat)(h:Hp)(hkb:1441792<=kb)(hc:Ct wk h)(r o r' o':Nat)(hr:r+r'<=1000000)(ho:o+o'<=1000000) :
  cW pg 997 [.pt 1179653 0 0,fG r o,fG r' o'] kb h (CtP h kb wk (fG (r+r') (o+o'))):=by
 refine cW.ofX hf ?_;unfold A2 fG;have w1:wr .i64 ((r:Int)+r')=((r+r':Nat):Int):=by rw[gH (by omega) (by omega)];omega
 have w2:wr .i64 ((o:Int)+o')=((o+o':Nat):Int):=by rw[gH (by omega) (by omega)];omega
 have b1:decide (1000000<(((r+r':Nat)):Int))=false:=by simp;omega
 have b2:decide (1000000<(((o+o':Nat)):Int))=false:=by simp;omega
 simp only[w1,w2,b1,b2,go_sem,seval];have w0:wr .i64 0=0:=rfl;rw[w0];exact⟨(((((((eB.refl _ _).put (.inl (by omega))).put (.inl (by omega))).put (.inl (by omega))).put (.inl (by omega))).put (.inl (by omega))).put (.inl (by omega))),hc.mono (by simp only[aB];rw[if_neg (by omega),if_neg (by omega),if_neg (by omega),if_neg (by omega),if_neg (by omega),if_neg (by omega)]) (by simp only[aB];rw[if_neg (by omega),if_neg (by omega),if_neg (by omega),if_neg (by omega),if_neg (by omega),if_neg (by omega)]),rfl⟩
theorem kS{kb:Nat}(hx:AscX pg){f s:Nat}{h:Hp}{vs:List AV}{P:AV->Hp->Prop}{Q:AV->Eff->Prop}{t:Tok Q}{B:Nat}(hB:eD kb s vs=B)(ha:bW h=true)(hr:cW pg f vs B h P)(hk:∀r h',P r h'->∀q,h.get q≠none->h'.get q≠none)
  (hq:∀r h' pa,P r h'->bW (aJ h pa)=true->(∀q,(aJ h pa).get q=h'.get q)->(∀q,h'.get q=h.get q->∀x∈pa,¬x.k=q)->Q r (.all pa)):XO pg kb (.callr f) s h vs Q t:=by
 obtain⟨r,h',h1,h2⟩:=hr;refine WP (P:=P) hB ⟨r,h',h1,h2,h1.asc hx ha,hk r h' h2⟩ ?_;intro r h' pa hp hg hn;refine hq r h' pa hp (eU ha) hg (λq hq=>?_);intro x hx e;exact hn q hq (e ▸ List.mem_map_of_mem hx)
end
end
section
theorem oL(kb s a b c:Nat)(q:aA)(nl cl:Bool)(es:List AV):eD kb s [.pt a b c,q.av,.sl nl es cl]=(kb+s+1)*65536:=by rw[aA.avc];rfl
theorem PZ(kb s a b c:Nat)(q:Lin)(nl cl:Bool)(es:List AV):eD kb s [.pt a b c,q.av,.sl nl es cl]=(kb+s+1)*65536:=by rw[Lin.avc];rfl
def CtE(pg:Pg)(q:aA)(env:List Val):Prop:=∀(kb:Nat)(h:Hp)(wk:Int)(enl ecl:Bool),1441792<=kb->kb % 65536=0->bW h=true->Ct wk h->0<=wk->wk+(aX q env).n<=200000->(aX q env).n<=30000 ->
 cW pg 982 [.pt 1179653 0 0,q.av,.sl enl (env.map Val.av) ecl] kb h (CtP h kb (wk+(aX q env).n) (fG (aX q env).r (aX q env).o))
def kD(r o:Nat):Ob:=.blk [.int .i64 r,.int .i64 0,.int .i64 o,.int .i64 0] 4 true true false
theorem eB.of_get{h h' H:Hp}{kb:Nat}(q:eB h h' kb)(hg:∀q,H.get q=h'.get q):eB h H kb:=⟨λx a b=>(hg x).trans (q.1 _ a b),λa hq=>by rw[hg];exact q.2 a hq⟩
theorem Ct.of_get{wk:Int}{h' H:Hp}(q:Ct wk h')(hg:∀q,H.get q=h'.get q):Ct wk H:=q.mono (hg _) (hg _)
theorem xZ:∀(l:List Ent)(h:Hp)(q:Nat),h.get q≠none->(aJ h l).get q≠none
 |[],_,_,hq=>hq
 |x::r,h,q,hq=>xZ r _ q (uD x.k x.e x.o (λ_ h=>h) q hq)
theorem W8(env:List Val):((env.map Val.av).all λv=>v.cells.length==2)=true:=by simp only[List.all_map,eE];intro x _;rfl
section
variable{pg:Pg}{kb:Nat}
theorem aLb(h:Hp)(env:List Val)(nl cl:Bool):iB h 2 false true true [.sl nl (env.map Val.av) cl,.int .i64 env.length,.int .i64 env.length]=some (.sl nl (env.map Val.av) true,.pat [] []):=by
 have hv:=W8 env;have hl:(env.map Val.av).length=env.length:=by simp
 simp only[iB,iI,if_true,Bool.false_eq_true,if_false,iH,Option.getD_none,Option.getD_some,Option.isSome_some,hl];rw[if_pos ⟨by omega,by omega,by omega,by omega,hv⟩];simp only[val,Int.toNat_zero,List.drop_zero,Int.toNat_natCast,Nat.sub_zero,beq_self_eq_true];rw[List.take_of_length_le (by simp)]
theorem aBp{s:Nat}{h:Hp}{env:List Val}{v:Val}{nl b c:Bool}{Q:AV->Eff->Prop}{t:Tok Q}(hb:env.length+1<=1073741824)
  (q:∀cs,aV 2 true ((env++[v]).map Val.av)=some cs->Q (.rf (kb+s) (h.next (kb+s)) 0 (env.length+1) (env.length+1)) (.pat [kb+s] [⟨kb+s,h.next (kb+s),.blk cs 2 true false false⟩])) :
  XO pg kb (.app 2 true 24) s h [.sl nl (env.map Val.av) true,.sl b [v.av] c] Q t:=by
 rw[eQ];obtain⟨ds,d1,d2,d3,d4⟩:=cG (El.vals env);obtain⟨es,e1,e2,e3,e4⟩:=cG (El.vals [v]);have hl:(env.map Val.av).length=env.length:=by simp
 have e1':aV 2 true [v.av]=some es:=e1;have h24:decide (24<=65536)=true:=rfl;have q':=q (ds++es) (by rw[List.map_append];exact fY d1 e1);simp only[jN,aO,e1',Option.map_some,List.length_cons,List.length_nil,i6,hl,Bool.or_true,hb,decide_true,h24,Bool.and_self,if_true,d1];exact q'
end
section
variable{pg:Pg}
set_option maxRecDepth 100000 in
set_option maxHeartbeats 1000000 in
theorem c995(hf:pg.fs 995=some DN)(hx:AscX pg)(h994:pg.fs 994=some A4)(h993:pg.fs 993=some w8)(h996:pg.fs 996=some A3)(h997:pg.fs 997=some A2)
  (h32:∀(l:Lin)(nl cl:Bool)(ds:List Val),ds.length<=big->Ret pg 32 [l.av,.sl nl (ds.map Val.av) cl] (.tup [.int .i64 (cD ds l).1,.int .i64 (cD ds l).2]))
  (p:aA) (env:List Val) (heb:env.length<=big) (k0 k1:aA) (hks:p.kids=[k0,k1]) (l:Lin) (hat:p.at_.es=[l]) (h0:(cD env l).2=0) (hst:aQ p.fn.es<=10)
  (b0:tJ (aX k0 env)) (b1':∀env,tJ (aX k1 env)) (ih0:CtE pg k0 env) (ih1:∀i:Int,0<=i->i<=30000->CtE pg k1 (env++[⟨p.name,i⟩]))
  (S:Cs) (hS:S=(aX k0 env).add (fT (aQ p.fn.es) p.name (aX k1) env (cD env l).1.toNat 0))
  (kb:Nat) (h:Hp) (wk:Int) (enl ecl:Bool) (hkb:1441792<=kb) (hkb2:kb % 65536=0) (ha:bW h=true) (hc:Ct wk h) (hw0:0<=wk) (hw:wk+S.n<=200000) (hn:S.n<=30000) :
  cW pg 995 [.pt 1179653 0 0,p.av,.sl enl (env.map Val.av) ecl] kb h (CtP h kb (wk+S.n) (fG S.r S.o)):=by
 refine cW.ofX hf ?_;unfold DN;have hk0:p.kids[0]?=some k0:=by rw[hks];rfl
 have hk1:p.kids[1]?=some k1:=by rw[hks];rfl
 have hl0:p.at_.es[0]?=some l:=by rw[hat];rfl
 obtain⟨H,hH⟩:∃H:Hp,H=(h.put (kb+1) (h.next (kb+1)) (.blk p.cells 9 true true false)).put (kb+5) (h.next (kb+5)) (.blk [.int .i64 0,.int .i64 0,.int .i64 0,.int .i64 0] 4 true true false):=⟨_,rfl⟩
 have g1:H.get (kb+1)=some (h.next (kb+1),.blk p.cells 9 true true false):=by rw[hH,aB,if_neg (by omega),aB,if_pos rfl]
 have g5:H.get (kb+5)=some (h.next (kb+5),.blk [.int .i64 0,.int .i64 0,.int .i64 0,.int .i64 0] 4 true true false):=by rw[hH,aB,if_pos rfl]
 have hkH:eB h H kb:=by rw[hH];exact((eB.refl _ _).put (.inl (by omega))).put (.inl (by omega))
 have haH:bW H=true:=by rw[hH];exact aR (aR ha)
 have hcH:Ct wk H:=hc.mono (by rw[hH,aB,if_neg (by omega),aB,if_neg (by omega)]) (by rw[hH,aB,if_neg (by omega),aB,if_neg (by omega)]);simp only[aA.cells,aA.kav,Sl.av]at hH;simp only[hk0,go_sem,seval];rw[<-hH]
 try rw[<-aA.avc]
 have hSn:(aX k0 env).n<=S.n:=by rw[hS];simp only[Cs.add];omega
 have hb0:=b0.1;have hb0':=b0.2;refine kS (B:=(kb+9+1)*65536) hx (oL ..) haH (ih0 _ H wk enl ecl (by omega) (by omega) haH hcH hw0 (by omega) (by omega)) (λr h' q=>q.1.2) ?_;rintro r h1 pa ⟨q1,q2,rfl⟩ ha1 hg1 hd1;have hap:Eff.app H (.all pa)=aJ H pa:=rfl;rw[hap];have k1:=q1.of_get hg1;have c1:=q2.of_get hg1;generalize aJ H pa=H1 at k1 c1 ha1;clear hap hg1 hd1 q1 q2;obtain⟨H2,hH2⟩:∃H2:Hp,H2=(H1.put (kb+13) (H1.next (kb+13)) (.blk [.int .i64 0,.int .i64 0,.int .i64 0,.int .i64 0] 4 true true false)).put (kb+13) (H1.next (kb+13)) (.blk [.int .i64 (aX k0 env).r,.int .i64 0,.int .i64 (aX k0 env).o,.int .i64 0] 4 true true false):=⟨_,rfl⟩
 have o2:∀q,q≠kb+13->H2.get q=H1.get q:=λq hq=>by rw[hH2,aB,if_neg (Ne.symm hq),aB,if_neg (Ne.symm hq)]
 have a2:bW H2=true:=by rw[hH2];exact aR (aR ha1)
 have c2:Ct (wk+(aX k0 env).n) H2:=c1.mono (o2 _ (by omega)) (o2 _ (by omega));have k2:eB H H2 (kb+13):=by refine eB.trans (kb':=kb+13) (⟨λq a b=>k1.1 q (by omega) b,k1.2⟩:eB H H1 (kb+13)) ⟨λq a b=>o2 q (by omega),?_⟩ (Nat.le_refl _);rw[hH2];exact uD _ _ _ (uD _ _ _ (λq h=>h))
 have p1:=(k2.1 (kb+1) (by omega) (by omega)).trans g1;have p1':=p1;simp only[aA.cells,aA.kav,Sl.av]at p1';have p0':=(k1.1 (kb+1) (by omega) (by omega)).trans g1;simp only[aA.cells,aA.kav,Sl.av]at p0';simp only[fG,p0',hl0,go_sem,seval];rw[<-hH2]
 try rw[<-Lin.avc]
 have e994:=c994 h994 h993 h32 (wk+(aX k0 env).n) ((kb+17+1)*65536) H2 (by omega) c2 l enl ecl env heb h0;refine kS (B:=(kb+17+1)*65536) hx (PZ ..) a2 e994 (λr h' q=>q.1.2) ?_;rintro r h3 pa ⟨q1,q2,rfl⟩ ha3 hg3 hd3;have hap:Eff.app H2 (.all pa)=aJ H2 pa:=rfl;rw[hap];have k3:=q1.of_get hg3;have c3:=q2.of_get hg3;generalize aJ H2 pa=H3 at k3 c3 ha3;clear hap hg3 hd3 q1 q2 e994;have p3':=(k3.1 (kb+1) (by omega) (by omega)).trans p1;simp only[aA.cells,aA.kav,Sl.av]at p3';simp only[p3',go_sem,seval];have e996:=c996 h996 (wk+(aX k0 env).n) ((kb+21+1)*65536) H3 (by omega) c3 p.fn.nl p.fn.cl p.fn.es p.fn.ok;refine kS (B:=(kb+21+1)*65536) hx rfl ha3 e996 (λr h' q=>q.1.2) ?_;rintro r h4 pa ⟨q1,q2,rfl⟩ ha4 hg4 hd4;have hap:Eff.app H3 (.all pa)=aJ H3 pa:=rfl;rw[hap];have k4:=q1.of_get hg4;have c4:=q2.of_get hg4;generalize aJ H3 pa=H4 at k4 c4 ha4;clear hap hg4 hd4 q1 q2 e996;obtain⟨H5,hH5⟩:∃H5:Hp,H5=(H4.put (kb+25) (H4.next (kb+25)) (.blk [.int .i64 0,.int .i64 0,.int .i64 0,.int .i64 0] 4 true true false)).put (kb+25) (H4.next (kb+25)) (.blk [.int .i64 0,.int .i64 0,.int .i64 (aQ p.fn.es),.int .i64 0] 4 true true false):=⟨_,rfl⟩
 have K3:=k2.trans k3 (by omega);have K4:=K3.trans k4 (by omega);have K5:eB H H5 (kb+13):=by rw[hH5];exact(K4.put (.inl (by omega))).put (.inl (by omega))
 have o5:∀q,q≠kb+25->H5.get q=H4.get q:=λq hq=>by rw[hH5,aB,if_neg (Ne.symm hq),aB,if_neg (Ne.symm hq)]
 have a5:bW H5=true:=by rw[hH5];exact aR (aR ha4)
 have c5:Ct (wk+(aX k0 env).n) H5:=c4.mono (o5 _ (by omega)) (o5 _ (by omega));obtain⟨E13,hE13⟩:∃E,E=H1.next (kb+13):=⟨_,rfl⟩
 obtain⟨E25,hE25⟩:∃E,E=H4.next (kb+25):=⟨_,rfl⟩
 have g13:H5.get (kb+13)=some (E13,kD (aX k0 env).r (aX k0 env).o):=by rw[o5 _ (by omega),k4.1 _ (by omega) (by omega),k3.1 _ (by omega) (by omega),hH2,aB,if_pos rfl,hE13];rfl
 have g25:H5.get (kb+25)=some (E25,kD 0 (aQ p.fn.es)):=by rw[hH5,aB,if_pos rfl,hE25];rfl
 have gg1:=(K5.1 (kb+1) (by omega) (by omega)).trans g1;have gg5:=(K5.1 (kb+5) (by omega) (by omega)).trans g5;have KK:eB h H5 kb:=hkH.trans K5 (by omega);refine Wk ?_;rw[<-hH5,<-hE13,<-hE25];clear K3 K4 K5 o5 k4 k3 k2 o2 hH5 hH2 a2 c2 c3 c4 ha3 ha4 ha1 p0' p1 p1' p3' k1 c1 g1 g5 hE13 hE25 hkH haH hcH;obtain⟨M,hM⟩:∃M,M=(cD env l).1:=⟨_,rfl⟩
 rw[<-hM]at hS ⊢;generalize h.next (kb+1)=E1 at gg1 ⊢;generalize h.next (kb+5)=E5 at gg5 ⊢
 refine oM (λa:Nat=>a) (λk e hp=>∃(i:Int)(n r o:Nat),e=FZ (.pt 1179653 0 0) (.sl enl (env.map Val.av) ecl) (.pt (kb+1) E1 0) (.pt (kb+5) E5 0) (.pt (kb+13) E13 0) (.int .i64 M) (.pt (kb+25) E25 0) (.int .i64 i) /\
  eB h hp kb/\bW hp=true/\Ct (wk+n) hp/\hp.get (kb+1)=some (E1,.blk p.cells 9 true true false)/\hp.get (kb+5)=some (E5,.blk [.int .i64 0,.int .i64 0,.int .i64 0,.int .i64 0] 4 true true false) /\
  hp.get (kb+13)=some (E13,kD r o)/\hp.get (kb+25)=some (E25,kD 0 (aQ p.fn.es))/\0<=i/\i+k<=30000/\k=(M-i).toNat/\xU ⟨n,r,o⟩/\S=Cs.add ⟨n,r,o⟩ (fT (aQ p.fn.es) p.name (aX k1) env k i)) M.toNat ?_ ?_
 have hge:=tZ (st:=aQ p.fn.es) (name:=p.name) (env:=env) (g:=aX k1) (mX k1) M.toNat 0;have hSl:(fT (aQ p.fn.es) p.name (aX k1) env M.toNat 0).n<=S.n:=by rw[hS];simp only[Cs.add];omega
 exact⟨0,_,_,_,rfl,KK,a5,c5,gg1,gg5,g13,g25,Int.le_refl _,by omega,by omega,b0.t,hS⟩;rintro k e hp ⟨i,n,r,o,rfl,hK,hA,hC,q1,q5,q13,q25,i0,i1,hk,hB,hT⟩;have q13':=q13;simp only[kD]at q13';have hC':=hC;obtain⟨bs,ck,z1,z2⟩:=hC;cases b1:decide (i<M);have hk0':k=0:=by simp at b1;omega
 subst hk0';have hS2:S=⟨n,r,o⟩:=by rw[hT];simp[Cs.add,fT]
 simp only[FY,FZ,b1,q13',q5,go_sem,seval];rw[hS2];exact⟨hK.put (.inl (by omega)),hC'.mono (by rw[aB,if_neg (by omega)]) (by rw[aB,if_neg (by omega)]),rfl⟩;have hiM:i<M:=aF b1;obtain⟨k',rfl⟩:∃k',k=k'+1:=⟨k-1,by omega⟩
 have wi:wr .i64 (i+1)=i+1:=gH (by omega) (by omega);rw[fT]at hT;have q1':=q1;simp only[aA.cells,aA.kav,Sl.av]at q1';have z1':=z1;simp only[JT]at z1';simp only[FY,FZ,b1,z1',q1',↓aLb,go_sem,seval];refine aBp (v:=⟨p.name,i⟩) (by simp only[big]at heb;omega) ?_;intro cs hcs;obtain⟨H6,hH6⟩:∃H6:Hp,H6=hp.put (kb+29) (hp.next (kb+29)) (.blk cs 2 true false false):=⟨_,rfl⟩
 have ow:Own H6 (kb+29) 2 true (.rf (kb+29) (hp.next (kb+29)) 0 (env.length+1) (env.length+1)) ((env++[(⟨p.name,i⟩:Val)]).map Val.av):=.inr ⟨hp.next (kb+29),cs,by simp,by rw[hH6,aB,if_pos rfl],hcs⟩;obtain⟨nl6,cl6,keys,hs6,hk6⟩:=ow.snapK (El.vals _) 62;refine Wk ?_;rw[<-hH6];refine WM hs6 ?_
 have f7:∀q,q≠kb+29->(Eff.app H6 (.pat keys (aU H6 keys))).get q=hp.get q:=λq hq=>by rw[AF (λhm=>hq (hk6 q hm)),hH6,aB,if_neg (Ne.symm hq)]
 have a7:bW (Eff.app H6 (.pat keys (aU H6 keys)))=true:=by refine eU (h:=H6) (pa:=aU H6 keys) ?_;rw[hH6];exact aR hA
 have n7:∀q,hp.get q≠none->(Eff.app H6 (.pat keys (aU H6 keys))).get q≠none:=λq hq=>by refine xZ (aU H6 keys) H6 q ?_;rw[hH6];exact uD _ _ _ (λq h=>h) q hq
 refine Wk ?_;refine And.intro (by simp[bT,bS,R.apart,R.uses,X.tmp,Eff.apart,lP,Nat.testBit]) ?_;generalize Eff.app H6 (.pat keys (aU H6 keys))=H7 at f7 a7 n7 ⊢;have K7:eB h H7 kb:=⟨λq x y=>(f7 q (by omega)).trans (hK.1 q x y),λq hq=>n7 q (hK.2 q hq)⟩
 have C7:Ct (wk+n) H7:=hC'.mono (f7 _ (by omega)) (f7 _ (by omega));have r1:=(f7 (kb+1) (by omega)).trans q1;have r5:=(f7 (kb+5) (by omega)).trans q5;have r13:=(f7 (kb+13) (by omega)).trans q13;have r25:=(f7 (kb+25) (by omega)).trans q25;have r1':=r1;have r13':=r13;simp only[aA.cells,aA.kav,Sl.av]at r1';simp only[kD]at r13';clear f7 n7 hs6 hk6 ow hH6 hcs z1 z2 z1' q1' q13' q1 q5 q13 q25 hA hC' hK;obtain⟨c1,hc1⟩:∃c1,c1=aX k1 (env++[(⟨p.name,i⟩:Val)]):=⟨_,rfl⟩
 have hSn:S.n=n+(c1.n+0+(fT (aQ p.fn.es) p.name (aX k1) env k' (i+1)).n):=by rw[hT,hc1];rfl
 have bb:=b1' (env++[(⟨p.name,i⟩:Val)]);rw[<-hc1]at bb hT;obtain⟨bb1,bb2⟩:=bb;obtain⟨bt1,bt2⟩:=hB;simp only at bt1 bt2;have e982:=ih1 i i0 (by omega) ((kb+33+1)*65536) H7 (wk+n) nl6 cl6 (by omega) (by omega) a7 C7 (by omega) (by rw[<-hc1];omega) (by rw[<-hc1];omega);rw[<-hc1]at e982;simp only[r13',r1',hk1,go_sem,seval];refine kS (B:=(kb+33+1)*65536) hx (oL ..) a7 e982 (λr h' q=>q.1.2) ?_;rintro r8 h8 pa8 ⟨s1,s2,rfl⟩ a8 g8 d8;have hap:Eff.app H7 (.all pa8)=aJ H7 pa8:=rfl;rw[hap];have d813:=d8 (kb+13) (s1.1 _ (by omega) (by omega));have d825:=d8 (kb+25) (s1.1 _ (by omega) (by omega));have k8:=s1.of_get g8;have c8:=s2.of_get g8;generalize aJ H7 pa8=H8 at k8 c8 a8;clear hap g8 d8 s1 s2 e982;refine Wk ?_;refine kS (B:=(kb+37+1)*65536) hx rfl a8 (c997 h997 (wk+n+c1.n) _ H8 (by omega) c8 r o c1.r c1.o (by omega) (by omega)) (λr h' q=>q.1.2) ?_;rintro r9 h9 pa9 ⟨s1,s2,rfl⟩ a9 g9 d9;have hap:Eff.app H8 (.all pa9)=aJ H8 pa9:=rfl;rw[hap];have d925:=d9 (kb+25) (s1.1 _ (by omega) (by omega));have k9:=s1.of_get g9;have c9:=s2.of_get g9;generalize aJ H8 pa9=H9 at k9 c9 a9;clear hap g9 d9 s1 s2;have t25:=((k9.1 (kb+25) (by omega) (by omega)).trans (k8.1 (kb+25) (by omega) (by omega))).trans r25;simp only[kD]at t25;simp only[t25,go_sem,seval];refine kS (B:=(kb+41+1)*65536) hx rfl a9 (c997 h997 (wk+n+c1.n) _ H9 (by omega) c9 (r+c1.r) (o+c1.o) 0 (aQ p.fn.es) (by omega) (by omega)) (λr h' q=>q.1.2) ?_;rintro r10 h10 pa10 ⟨s1,s2,rfl⟩ a10 g10 d10;have hap:Eff.app H9 (.all pa10)=aJ H9 pa10:=rfl;rw[hap];have k10:=s1.of_get g10;have c10:=s2.of_get g10;generalize aJ H9 pa10=H10 at k10 c10 a10;clear hap g10 d10 s1 s2;have o10:∀q,q<kb+29->q≠1179653->H10.get q=H7.get q:=λq x y=>((k10.1 q (by omega) y).trans (k9.1 q (by omega) y)).trans (k8.1 q (by omega) y);have t13:=(o10 (kb+13) (by omega) (by omega)).trans r13;simp only[kD]at t13;simp only[t13,fG,go_sem,seval];refine And.intro (by simp[bT,bS,R.apart,R.uses,X.tmp,Eff.apart,lP,Nat.testBit];exact⟨d813,d825,d925⟩) ?_;simp only[wi,go_sem,seval];have K10:eB h H10 kb:=((K7.trans k8 (by omega)).trans k9 (by omega)).trans k10 (by omega);refine⟨k',by omega,i+1,n+c1.n,r+c1.r+0,o+c1.o+aQ p.fn.es,rfl,K10.put (.inl (by omega)),aR a10,?_,(o10 _ (by omega) (by omega)).trans r1,(o10 _ (by omega) (by omega)).trans r5,rfl,(o10 _ (by omega) (by omega)).trans r25,by omega,by omega,by omega,⟨by simp only;omega,by simp only;omega⟩,?_⟩;have e:wk+n+(c1.n:Int)=wk+((n+c1.n:Nat):Int):=by omega
 rw[e]at c10;exact c10.mono (by rw[aB,if_neg (by omega)]) (by rw[aB,if_neg (by omega)]);rw[hT];simp only[Cs.add,Nat.add_zero,Nat.add_assoc]
end
end
section
section
variable{pg:Pg}
set_option maxRecDepth 100000 in
set_option maxHeartbeats 4000000 in
theorem c982(hf:pg.fs 982=some J3)(hx:AscX pg)(h993:pg.fs 993=some w8)(h994:pg.fs 994=some A4)(h995:pg.fs 995=some DN)(h996:pg.fs 996=some A3)(h997:pg.fs 997=some A2)
  (h32:∀(l:Lin)(nl cl:Bool)(ds:List Val),ds.length<=big->Ret pg 32 [l.av,.sl nl (ds.map Val.av) cl] (.tup [.int .i64 (cD ds l).1,.int .i64 (cD ds l).2])) (vals:Int) :
  ∀p:aA,p.ok->i8 p=true->∀env,env.length+p.sz<=big->bO vals p (env.map (·.v))=true->tH env->CtE pg p env:=by
 refine aA.ind' λp ih hpo hfew env hsz hv hg kb h wk enl ecl hkb hkb2 ha hc hw0 hw hn=>?_;obtain⟨hkb3,hks⟩:=(aA.ok_iff p).1 hpo;have hps:=aA.sz_eq p;have heb:env.length<=big:=by omega
 have hfn:=MR hfew;have hst:aQ p.fn.es<=10:=by have:=l9 p.fn.es;omega
 have hlin:=u4 hv hg;have hbk:∀q∈p.kids,∀env,tJ (aX q env):=λq hq=>qN q (iX hfew hq);have hpos:=mX p env;have hbp:=qN p hfew env;obtain⟨S,hS⟩:∃S,S=aX p env:=⟨_,rfl⟩
 rw[<-hS]at hw hn hpos hbp ⊢;rw[rD]at hS;obtain⟨hbp1,hbp2⟩:=hbp;have hc0:=hc;obtain⟨bs,ck,z1,z2⟩:=hc;simp only[JT]at z1;have w1:wr .i64 (wk+1)=wk+1:=gH (by omega) (by omega);have d1:decide (200000<wk+1)=false:=by simp;omega
 refine cW.ofX hf ?_;unfold J3;obtain⟨H2,hH2⟩:∃H2:Hp,H2=(((h.put (kb+1) (h.next (kb+1)) (.blk p.cells 9 true true false)).put (kb+5) (h.next (kb+5)) (.blk [.int .i64 0,.int .i64 0,.int .i64 0,.int .i64 0] 4 true true false)).put 1179653 0 (.blk [.mp 1179649 0,.int .i64 (wk+1),.int .i64 0] 3 true true false)).put (kb+13) (h.next (kb+13)) (.blk [.int .i64 0,.int .i64 0,.int .i64 0,.int .i64 0] 4 true true false):=⟨_,rfl⟩
 have g1:H2.get (kb+1)=some (h.next (kb+1),.blk p.cells 9 true true false):=by rw[hH2,aB,if_neg (by omega),aB,if_neg (by omega),aB,if_neg (by omega),aB,if_pos rfl]
 have g5:H2.get (kb+5)=some (h.next (kb+5),.blk [.int .i64 0,.int .i64 0,.int .i64 0,.int .i64 0] 4 true true false):=by rw[hH2,aB,if_neg (by omega),aB,if_neg (by omega),aB,if_pos rfl]
 have g13:H2.get (kb+13)=some (h.next (kb+13),kD 0 0):=by rw[hH2,aB,if_pos rfl];rfl
 have gC:Ct (wk+1) H2:=⟨bs,ck,by rw[hH2,aB,if_neg (by omega),aB,if_pos rfl];rfl,by rw[hH2,aB,if_neg (by omega),aB,if_neg (by decide),aB,if_neg (by omega),aB,if_neg (by omega)];exact z2⟩
 have gK:eB h H2 kb:=by rw[hH2];exact((((eB.refl _ _).put (.inl (by omega))).put (.inl (by omega))).put (.inr rfl)).put (.inl (by omega))
 have gA:bW H2=true:=by rw[hH2];exact aR (aR (aR (aR ha)))
 simp only[aA.cells,aA.kav,Sl.av]at hH2;have n1:(kb=1179652)=False:=eq_false (by omega);have n5:(kb=1179648)=False:=eq_false (by omega);have n13:(kb=1179640)=False:=eq_false (by omega);have n1':(1179652=kb)=False:=eq_false (by omega);have n5':(1179648=kb)=False:=eq_false (by omega);have n13':(1179640=kb)=False:=eq_false (by omega);simp only[z1,w1,d1,n1,n5,n13,n1',n5',n13',go_sem,seval];rw[<-hH2];clear hH2 n1 n5 n13 n1' n5' n13' z1 z2 w1 d1;generalize h.next (kb+1)=E1 at g1 ⊢;generalize h.next (kb+5)=E5 at g5 ⊢;generalize h.next (kb+13)=E13 at g13 ⊢;have g1':=g1;simp only[aA.cells,aA.kav,Sl.av]at g1';cases bI:decide (p.op.bs=[105,102])
 case true=>
  have mI:=aF bI;obtain⟨k0,k1,l,hk,hat,v0,v1⟩:=tL hv mI;have hk0:p.kids[0]?=some k0:=by rw[hk];rfl
  have hk1:p.kids[1]?=some k1:=by rw[hk];rfl
  have hl0:p.at_.es[0]?=some l:=by rw[hat];rfl
  have m0:k0∈p.kids:=by rw[hk];simp
  have m1:k1∈p.kids:=by rw[hk];simp
  have sz0:=aA.szL_mem m0;have sz1:=aA.szL_mem m1;have hat':atC env p=(cD env l).1:=by simp only[atC,hat]
  have hSI:S=Cs.add ⟨1,0,0⟩ (if (cD env l).1<0 then aX k1 env else aX k0 env):=by rw[hS];unfold rR;rw[if_pos mI,hk,hat'];rfl
  simp only[bI,g1',hl0,go_sem,seval]
  try rw[<-Lin.avc]
  refine kS (B:=(kb+17+1)*65536) hx (PZ ..) gA (c994 h994 h993 h32 (wk+1) _ H2 (by omega) gC l enl ecl env heb (hlin l (by rw[hat];simp))) (λr h' q=>q.1.2) ?_;rintro r3 h3 pa3 ⟨s1,s2,rfl⟩ a3 g3 d3;have hap:Eff.app H2 (.all pa3)=aJ H2 pa3:=rfl;rw[hap];have k3:=s1.of_get g3;have c3:=s2.of_get g3;generalize aJ H2 pa3=H3 at k3 c3 a3;clear hap g3 d3 s1 s2;have p1:=(k3.1 (kb+1) (by omega) (by omega)).trans g1';have p5:=(k3.1 (kb+5) (by omega) (by omega)).trans g5;cases bn:decide ((cD env l).1<0);rw[if_neg (aP bn)]at hSI;have hSn:S.n=1+(aX k0 env).n:=by rw[hSI];rfl
  have hSr:S.r=(aX k0 env).r:=by rw[hSI];simp[Cs.add]
  have hSo:S.o=(aX k0 env).o:=by rw[hSI];simp[Cs.add]
  simp only[bn,p1,hk0,go_sem,seval];refine kS (B:=(kb+21+1)*65536) hx (oL ..) a3 (ih k0 m0 (hks k0 m0) (iX hfew m0) env (by omega) v0 hg _ H3 (wk+1) enl ecl (by omega) (by omega) a3 c3 (by omega) (by omega) (by omega)) (λr h' q=>q.1.2) ?_;rintro r4 h4 pa4 ⟨s1,s2,rfl⟩ a4 g4 d4;have hap:Eff.app H3 (.all pa4)=aJ H3 pa4:=rfl;rw[hap];have k4:=s1.of_get g4;have c4:=s2.of_get g4;generalize aJ H3 pa4=H4 at k4 c4 a4;clear hap g4 d4 s1 s2;have p5':=(k4.1 (kb+5) (by omega) (by omega)).trans p5;simp only[p5',fG,go_sem,seval];rw[<-hSr,<-hSo];refine⟨((gK.trans k3 (by omega)).trans k4 (by omega)).put (.inl (by omega)),?_,rfl⟩;have e:wk+1+((aX k0 env).n:Int)=wk+S.n:=by omega
  rw[e]at c4;exact c4.mono (by rw[aB,if_neg (by omega)]) (by rw[aB,if_neg (by omega)]);rw[if_pos (aF bn)]at hSI;have hSn:S.n=1+(aX k1 env).n:=by rw[hSI];rfl
  have hSr:S.r=(aX k1 env).r:=by rw[hSI];simp[Cs.add]
  have hSo:S.o=(aX k1 env).o:=by rw[hSI];simp[Cs.add]
  simp only[bn,p1,hk1,go_sem,seval];refine kS (B:=(kb+21+1)*65536) hx (oL ..) a3 (ih k1 m1 (hks k1 m1) (iX hfew m1) env (by omega) v1 hg _ H3 (wk+1) enl ecl (by omega) (by omega) a3 c3 (by omega) (by omega) (by omega)) (λr h' q=>q.1.2) ?_;rintro r4 h4 pa4 ⟨s1,s2,rfl⟩ a4 g4 d4;have hap:Eff.app H3 (.all pa4)=aJ H3 pa4:=rfl;rw[hap];have k4:=s1.of_get g4;have c4:=s2.of_get g4;generalize aJ H3 pa4=H4 at k4 c4 a4;clear hap g4 d4 s1 s2;have p5':=(k4.1 (kb+5) (by omega) (by omega)).trans p5;simp only[p5',fG,go_sem,seval];rw[<-hSr,<-hSo];refine⟨((gK.trans k3 (by omega)).trans k4 (by omega)).put (.inl (by omega)),?_,rfl⟩;have e:wk+1+((aX k1 env).n:Int)=wk+S.n:=by omega
  rw[e]at c4;exact c4.mono (by rw[aB,if_neg (by omega)]) (by rw[aB,if_neg (by omega)])
 have mI:=aP bI;cases bR:decide (p.op.bs=[114,101,100,117,99,101])
 case true=>
  have mR:=aF bR;obtain⟨k0,k1,l,hk,hat,v0,v1,_⟩:=qR hv mR;have m0:k0∈p.kids:=by rw[hk];simp
  have m1:k1∈p.kids:=by rw[hk];simp
  have sz0:=aA.szL_mem m0;have sz1:=aA.szL_mem m1;have hat':atC env p=(cD env l).1:=by simp only[atC,hat]
  obtain⟨S2,hS2⟩:∃S2,S2=(aX k0 env).add (fT (aQ p.fn.es) p.name (aX k1) env (cD env l).1.toNat 0):=⟨_,rfl⟩
  have hSR:S=Cs.add ⟨1,0,0⟩ S2:=by rw[hS];unfold rR;rw[if_neg mI,if_pos mR,hk,hat',hS2];rfl
  have hSn:S.n=1+S2.n:=by rw[hSR];rfl
  have hSr:S.r=S2.r:=by rw[hSR];simp[Cs.add]
  have hSo:S.o=S2.o:=by rw[hSR];simp[Cs.add]
  simp only[bI,bR,g1',go_sem,seval]
  try rw[<-aA.avc]
  refine kS (B:=(kb+25+1)*65536) hx (oL ..) gA (c995 h995 hx h994 h993 h996 h997 h32 p env heb k0 k1 hk l hat (hlin l (by rw[hat];simp)) hst (hbk k0 m0 env) (hbk k1 m1) (ih k0 m0 (hks k0 m0) (iX hfew m0) env (by omega) v0 hg)
   (λi i0 i1=>ih k1 m1 (hks k1 m1) (iX hfew m1) _ (by simp only[dA,List.length_singleton];omega) (by rw[tY];exact v1) (hg.snoc i0 i1)) S2 hS2 _ H2 (wk+1) enl ecl (by omega) (by omega) gA gC (by omega) (by omega) (by omega)) (λr h' q=>q.1.2) ?_
  rintro r4 h4 pa4 ⟨s1,s2,rfl⟩ a4 g4 d4;have hap:Eff.app H2 (.all pa4)=aJ H2 pa4:=rfl;rw[hap];have k4:=s1.of_get g4;have c4:=s2.of_get g4;generalize aJ H2 pa4=H4 at k4 c4 a4;clear hap g4 d4 s1 s2;have p5':=(k4.1 (kb+5) (by omega) (by omega)).trans g5;simp only[p5',fG,go_sem,seval];rw[<-hSr,<-hSo];refine⟨(gK.trans k4 (by omega)).put (.inl (by omega)),?_,rfl⟩;have e:wk+1+(S2.n:Int)=wk+S.n:=by omega
  rw[e]at c4;exact c4.mono (by rw[aB,if_neg (by omega)]) (by rw[aB,if_neg (by omega)])
 have mR:=aP bR;have hkv:=mF hv mR;have hSO:S=(jE p).add (lH (p.kids.map aX) env):=by rw[hS];unfold rR;rw[if_neg mI,if_neg mR]
 have g13z:H2.get (kb+13)=some (E13,.blk [.int .i64 0,.int .i64 0,.int .i64 0,.int .i64 0] 4 true true false):=g13;have hob:=zM (p:=p) hfn;have q5x:∀o,(H2.put (kb+13) E13 o).get (kb+5)=some (E5,.blk [.int .i64 0,.int .i64 0,.int .i64 0,.int .i64 0] 4 true true false):=λo=>by rw[aB,if_neg (by omega)];exact g5
 have KX:∀o,eB h (H2.put (kb+13) E13 o) kb:=λo=>gK.put (.inl (by omega));have CX:∀o,Ct (wk+1) (H2.put (kb+13) E13 o):=λo=>gC.mono (by rw[aB,if_neg (by omega)]) (by rw[aB,if_neg (by omega)]);cases bD:decide (p.op.bs=[114,101,97,100])
 rotate_left 1
 obtain⟨H,hH⟩:∃H:Hp,H=H2.put (kb+13) E13 (.blk [.int .i64 1,.int .i64 0,.int .i64 0,.int .i64 0] 4 true true false):=⟨_,rfl⟩
 obtain⟨hK,hA,hC,q5,rr,oo,ho,q13⟩:eB h H kb/\bW H=true/\Ct (wk+1) H/\H.get (kb+5)=some (E5,.blk [.int .i64 0,.int .i64 0,.int .i64 0,.int .i64 0] 4 true true false)/\∃rr oo:Nat,jE p=⟨1,rr,oo⟩/\H.get (kb+13)=some (E13,kD rr oo):=by rw[hH];exact⟨KX _,aR gA,CX _,q5x _,1,0,by rw[jE,if_pos (aF bD)],by rw[aB,if_pos rfl];rfl⟩
 simp only[bI,bR,bD,g13z,g1',go_sem,seval];rw[<-hH]
 rotate_left 1
 cases bX:decide (p.op.bs=[99,111,100,101])
 rotate_left 1
 simp only[bI,bR,bD,bX,g1',go_sem,seval];refine kS (B:=(kb+29+1)*65536) hx rfl gA (c996 h996 (wk+1) _ H2 (by omega) gC p.fn.nl p.fn.cl p.fn.es p.fn.ok) (λr h' q=>q.1.2) ?_;rintro r3 h3 pa3 ⟨s1,s2,rfl⟩ a3 g3 d3;have hap:Eff.app H2 (.all pa3)=aJ H2 pa3:=rfl;rw[hap];have k3:=s1.of_get g3;have c3:=s2.of_get g3;generalize aJ H2 pa3=H3 at k3 c3 a3;clear hap g3 d3 s1 s2;have p13:=(k3.1 (kb+13) (by omega) (by omega)).trans g13z;have p5:=(k3.1 (kb+5) (by omega) (by omega)).trans g5;obtain⟨H,hH⟩:∃H:Hp,H=H3.put (kb+13) E13 (.blk [.int .i64 0,.int .i64 0,.int .i64 (aQ p.fn.es),.int .i64 0] 4 true true false):=⟨_,rfl⟩
 obtain⟨hK,hA,hC,q5,rr,oo,ho,q13⟩:eB h H kb/\bW H=true/\Ct (wk+1) H/\H.get (kb+5)=some (E5,.blk [.int .i64 0,.int .i64 0,.int .i64 0,.int .i64 0] 4 true true false)/\∃rr oo:Nat,jE p=⟨1,rr,oo⟩/\H.get (kb+13)=some (E13,kD rr oo):=by rw[hH];exact⟨(gK.trans k3 (by omega)).put (.inl (by omega)),aR a3,c3.mono (by rw[aB,if_neg (by omega)]) (by rw[aB,if_neg (by omega)]),by rw[aB,if_neg (by omega)];exact p5,0,aQ p.fn.es,by rw[jE,if_neg (aP bD),if_pos (aF bX)],by rw[aB,if_pos rfl];rfl⟩
 have p1:=(k3.1 (kb+1) (by omega) (by omega)).trans g1';simp only[p13,p1,go_sem,seval];rw[<-hH]
 rotate_left 2
 have gC':=gC;obtain⟨bs2,ck2,y1,y2⟩:=gC';simp only[JT]at y1;have hq:(AV.str p.op.bs).keyQ 1=true:=rfl;have hf3:fX (QP fL) (.str p.op.bs)=some ((cX p.op.bs).map λ_=>AV.bool true):=FK p.op.bs fL;have hlk:wW H2 1 (.bool false) false [.mp 1179649 0,.str p.op.bs]=some (.bool (cX p.op.bs).isSome,.pat [1179649] []):=by simp only[wW,y2,hq,and_self,if_true,hf3];cases cX p.op.bs<;>rfl
 simp only[bI,bR,bD,bX,g1',y1,↓hlk,go_sem,seval];refine And.intro (by simp[bT,bS,R.apart,R.uses,X.tmp,Eff.apart,lP,Nat.testBit]) ?_;cases hP:(cX p.op.bs).isSome;obtain⟨H,hH⟩:∃H:Hp,H=H2:=⟨_,rfl⟩
 obtain⟨hK,hA,hC,q5,rr,oo,ho,q13⟩:eB h H kb/\bW H=true/\Ct (wk+1) H/\H.get (kb+5)=some (E5,.blk [.int .i64 0,.int .i64 0,.int .i64 0,.int .i64 0] 4 true true false)/\∃rr oo:Nat,jE p=⟨1,rr,oo⟩/\H.get (kb+13)=some (E13,kD rr oo):=by rw[hH];exact⟨gK,gA,gC,g5,0,0,by rw[jE,if_neg (aP bD),if_neg (aP bX),hP];rfl,g13⟩
 simp only[hP,g1',go_sem,seval];rw[<-hH]
 rotate_left 1
 obtain⟨H,hH⟩:∃H:Hp,H=H2.put (kb+13) E13 (.blk [.int .i64 0,.int .i64 0,.int .i64 1,.int .i64 0] 4 true true false):=⟨_,rfl⟩
 obtain⟨hK,hA,hC,q5,rr,oo,ho,q13⟩:eB h H kb/\bW H=true/\Ct (wk+1) H/\H.get (kb+5)=some (E5,.blk [.int .i64 0,.int .i64 0,.int .i64 0,.int .i64 0] 4 true true false)/\∃rr oo:Nat,jE p=⟨1,rr,oo⟩/\H.get (kb+13)=some (E13,kD rr oo):=by rw[hH];exact⟨KX _,aR gA,CX _,q5x _,0,1,by rw[jE,if_neg (aP bD),if_neg (aP bX),hP];rfl,by rw[aB,if_pos rfl];rfl⟩
 simp only[hP,g13z,g1',go_sem,seval];rw[<-hH]
 all_goals
  clear g1 g5 g13 gC gK gA g13z q5x KX CX g1';rw[ho]at hob hSO
  refine aN p.kids (λd r e hp=>∃n ro oo':Nat,e=F6 (.pt 1179653 0 0) (.sl enl (env.map Val.av) ecl) (.pt (kb+5) E5 0) (.pt (kb+13) E13 0) (.sl p.knl (p.kids.map aA.av) p.kcl) (.int .i64 p.kids.length) (.int .i64 d.length) /\
   eB h hp kb/\bW hp=true/\Ct (wk+n) hp/\hp.get (kb+5)=some (E5,.blk [.int .i64 0,.int .i64 0,.int .i64 0,.int .i64 0] 4 true true false)/\hp.get (kb+13)=some (E13,kD ro oo')/\xU ⟨n,ro,oo'⟩/\S=Cs.add ⟨n,ro,oo'⟩ (lH (r.map aX) env)) ?_ ?_ ?_
  exact⟨1,rr,oo,rfl,hK,hA,hC,q5,q13,hob.t,hSO⟩;rintro e hp ⟨n,ro,oo',rfl,hK,hA,hC,q5,q13,hB,hT⟩;have hT2:S=⟨n,ro,oo'⟩:=by rw[hT];simp[Cs.add,lH]
  have q13':=q13;simp only[kD]at q13';have hSn:S.n=n:=by rw[hT2]
  have hSr:S.r=ro:=by rw[hT2]
  have hSo:S.o=oo':=by rw[hT2]
  simp only[F5,F6,bH,q13',go_sem,seval];refine kS (B:=(kb+45+1)*65536) hx rfl hA (c997 h997 (wk+n) _ hp (by omega) hC ro oo' 0 0 (by omega) (by omega)) (λr h' q=>q.1.2) ?_;rintro r4 h4 pa4 ⟨s1,s2,rfl⟩ a4 g4 d4;have hap:Eff.app hp (.all pa4)=aJ hp pa4:=rfl;rw[hap];have k4:=s1.of_get g4;have c4:=s2.of_get g4;generalize aJ hp pa4=H4 at k4 c4 a4;clear hap g4 d4 s1 s2;have p5':=(k4.1 (kb+5) (by omega) (by omega)).trans q5;simp only[p5',fG,go_sem,seval];rw[hSr,hSo,hSn];exact⟨(hK.trans k4 (by omega)).put (.inl (by omega)),c4.mono (by rw[aB,if_neg (by omega)]) (by rw[aB,if_neg (by omega)]),rfl⟩
  ·rintro d x r e hp hes ⟨n,ro,oo',rfl,hK,hA,hC,q5,q13,hB,hT⟩;obtain⟨hget,e1,e2,ew⟩:=cY hes hkb3;have hxm:x∈p.kids:=by rw[hes];simp
   have szx:=aA.szL_mem hxm;obtain⟨H6,hH6⟩:∃H6:Hp,H6=(hp.put (kb+33) (hp.next (kb+33)) (.blk [.str [],.int .i64 0,.int .i64 0,.str [],.sl true [] true,.bool false,.int .i64 0,.sl true [] true,.sl true [] true] 9 true true false)).put (kb+33) (hp.next (kb+33)) (.blk x.cells 9 true true false):=⟨_,rfl⟩
   have f7:∀q,q≠kb+33->H6.get q=hp.get q:=λq hq=>by rw[hH6,aB,if_neg (Ne.symm hq),aB,if_neg (Ne.symm hq)]
   have a7:bW H6=true:=by rw[hH6];exact aR (aR hA)
   have K7:eB h H6 kb:=by rw[hH6];exact(hK.put (.inl (by omega))).put (.inl (by omega))
   have C7:Ct (wk+n) H6:=hC.mono (f7 _ (by omega)) (f7 _ (by omega));have r5:=(f7 (kb+5) (by omega)).trans q5;have r13:=(f7 (kb+13) (by omega)).trans q13;have r33:H6.get (kb+33)=some (hp.next (kb+33),.blk x.cells 9 true true false):=by rw[hH6,aB,if_pos rfl]
   have r13':=r13;simp only[kD]at r13';simp only[aA.cells,aA.kav,Sl.av]at hH6 r33;obtain⟨c1,hc1⟩:∃c1,c1=aX x env:=⟨_,rfl⟩
   have hSn:S.n=n+(c1.n+(lH (r.map aX) env).n):=by rw[hT,hc1];rfl
   have bb:=hbk x hxm env;rw[List.map_cons,lH]at hT;rw[<-hc1]at bb hT;obtain⟨bb1,bb2⟩:=bb;obtain⟨bt1,bt2⟩:=hB;simp only at bt1 bt2;have e982:=ih x hxm (hks x hxm) (iX hfew hxm) env (by omega) (hkv x hxm) hg ((kb+37+1)*65536) H6 (wk+n) enl ecl (by omega) (by omega) a7 C7 (by omega) (by rw[<-hc1];omega) (by rw[<-hc1];omega);rw[<-hc1]at e982;have q13':=q13;simp only[kD]at q13';simp only[F5,F6,e1,e2,hget,q13',go_sem,seval];rw[<-hH6]
   try rw[<-aA.avc]
   refine kS (B:=(kb+37+1)*65536) hx (oL ..) a7 e982 (λr h' q=>q.1.2) ?_;rintro r8 h8 pa8 ⟨s1,s2,rfl⟩ a8 g8 d8;have hap:Eff.app H6 (.all pa8)=aJ H6 pa8:=rfl;rw[hap];have d813:=d8 (kb+13) (s1.1 _ (by omega) (by omega));have k8:=s1.of_get g8;have c8:=s2.of_get g8;generalize aJ H6 pa8=H8 at k8 c8 a8;clear hap g8 d8 s1 s2 e982;refine Wk ?_;refine kS (B:=(kb+41+1)*65536) hx rfl a8 (c997 h997 (wk+n+c1.n) _ H8 (by omega) c8 ro oo' c1.r c1.o (by omega) (by omega)) (λr h' q=>q.1.2) ?_;rintro r9 h9 pa9 ⟨s1,s2,rfl⟩ a9 g9 d9;have hap:Eff.app H8 (.all pa9)=aJ H8 pa9:=rfl;rw[hap];have k9:=s1.of_get g9;have c9:=s2.of_get g9;generalize aJ H8 pa9=H9 at k9 c9 a9;clear hap g9 d9 s1 s2;have t13:=((k9.1 (kb+13) (by omega) (by omega)).trans (k8.1 (kb+13) (by omega) (by omega))).trans r13';have t5:=((k9.1 (kb+5) (by omega) (by omega)).trans (k8.1 (kb+5) (by omega) (by omega))).trans r5;simp only[t13,fG,go_sem,seval];refine And.intro (by simp[bT,bS,R.apart,R.uses,X.tmp,Eff.apart,lP,Nat.testBit];exact d813) ?_;simp only[ew,go_sem,seval];refine⟨n+c1.n,ro+c1.r,oo'+c1.o,rfl,((K7.trans k8 (by omega)).trans k9 (by omega)).put (.inl (by omega)),aR a9,?_,t5,rfl,⟨by simp only;omega,by simp only;omega⟩,?_⟩;have e:wk+n+(c1.n:Int)=wk+((n+c1.n:Nat):Int):=by omega
   rw[e]at c9;exact c9.mono (by rw[aB,if_neg (by omega)]) (by rw[aB,if_neg (by omega)]);rw[hT];simp only[Cs.add,Nat.add_assoc]
end
end
section
theorem IX{a b:Int}(hab:a<=b){p:aA}{vars:List Str}(hn:cF p vars a=true):cF p vars b=true:=by unfold cF at hn ⊢;split;rename_i h1;rw[if_pos h1]at hn;exact hn;rename_i h1;rw[if_neg h1]at hn;split;rename_i h2;rw[if_pos h2]at hn;exact hn;rename_i h2;rw[if_neg h2]at hn;split;rename_i h3;rw[if_pos h3]at hn;simp only[lN,aD,bC]at hn ⊢;exact⟨⟨⟨⟨hn.1.1.1.1,hn.1.1.1.2⟩,by have:=hn.1.1.2;omega⟩,hn.1.2⟩,hn.2⟩;rename_i h3;rw[if_neg h3]at hn;exact hn
theorem tM{a b:Int}{red:Bool}{name:Str}{vars:List Str}:∀(l:List aA)(i:Nat),(∀q∈l,∀vars,bO a q vars=true->bO b q vars=true)->cN a red name vars i l=true->cN b red name vars i l=true
 |[],_,_,_=>by simp[cN]
 |q::r,i,h,hv=>by simp only[cN,aD]at hv ⊢;exact⟨h q (by simp) _ hv.1,tM r (i+1) (λx hx=>h x (cE _ hx)) hv.2⟩
theorem HU{a b:Int}(hab:a<=b):∀p:aA,∀vars,bO a p vars=true->bO b p vars=true:=by refine aA.ind' λp ih vars h=>?_;rw[fI]at h ⊢;simp only[aD]at h ⊢;exact⟨⟨IX hab h.1.1,h.1.2⟩,tM _ _ ih h.2⟩
def ME(p:aA)(env:List Val):Prop:=kN env/\dQ p (env.map (·.v)) 1000=true
def tG(p:aA)(env:List Val):Prop:=ME p env->(aX p env).n<=30000
theorem JX{arrs:List Arr}{p:aA}{env:List Val}{n:Int}{c:Cn}(hg:tH env)(ha:arrs.length<=6)(hl:tG p env)(hf:i8 p=true)(h:lW arrs p env = .ok n c) :
  ME p env/\c.rd=(aX p env).r/\c.ops=(aX p env).o:=by
 unfold lW at h;split at h;cases h;rename_i hd;have hd:kN env:=Decidable.not_not.1 hd;split at h;cases h;rename_i hp;have hp:dQ p (env.map (·.v)) arrs.length=true:=by simpa using hp
 split at h;cases h;simp only[dQ,aD]at hp;have hp2:dQ p (env.map (·.v)) 1000=true:=by simp only[dQ,aD];exact⟨hp.1,HU (by omega) p _ hp.2⟩
 have hn:=hl ⟨hd,hp2⟩;obtain⟨b1,b2⟩:=qN p hf env;obtain⟨a1,a2⟩:=aGo arrs arrs.length p env hp.2 hg _ n c ⟨by simp,by simp,by simp only;omega,by simp only;omega⟩ hn h;simp only[Int.zero_add]at a1 a2;exact⟨⟨hd,hp2⟩,a1,a2⟩
def NeF(f:EvF):Prop:=∀env c e,f env c = .er e->e≠0
theorem zX:∀{fs:List EvF}{env:List Val}{acc:List Int}{c:Cn}{e:Int},(∀f∈fs,NeF f)->jK fs env acc c = .er e->e≠0
 |[],env,acc,c,e,_,h=>by simp[jK]at h
 |f::r,env,acc,c,e,hf,h=>by simp only[jK]at h;split at h;rename_i e2 h2;cases h;exact hf f (by simp) env c _ h2;exact zX (λg hg=>hf g (cE _ hg)) h
theorem J0{fn:List aE}{xs:List Int}{c:Cn}{e:Int}(h:lY fn xs c = .er e):e≠0:=by unfold lY at h;cases hB:pW fn xs;rw[hB]at h;cases h;decide;rw[hB]at h;cases h
theorem I4{fn:List aE}{name:Str}{g:EvF}{env:List Val}(hg:NeF g):∀{k:Nat}{i acc:Int}{c:Cn}{e:Int},nI fn name g env k i acc c = .er e->e≠0
 |0,i,acc,c,e,h=>by simp[nI]at h
 |k+1,i,acc,c,e,h=>by simp only[nI]at h;split at h;rename_i e2 h2;cases h;exact hg _ c _ h2;split at h;rename_i e3 h3;cases h;exact J0 h3;exact I4 hg h
theorem S5{a:Arr}{dyn:Bool}{check:Int}{ix:List Int}{c:Cn}{e:Int}(h:qA a dyn check ix c = .er e):e≠0:=by unfold qA at h;split at h;cases h;decide;split at h;cases h;decide;split at h<;>cases h
theorem RG(arrs:List Arr)(p:aA){fs:List EvF}(hf:∀f∈fs,NeF f):NeF (o7 arrs p fs):=by intro env c e h;unfold o7 at h;split at h;cases h;decide;split at h;cases h;split at h;split at h;cases h;decide;cases h;split at h;unfold pG at h;split at h;rename_i hk;cases h;exact zX hf hk;split at h;cases h;decide;split at h;cases h;decide;exact S5 h;split at h;unfold ifN at h;split at h;cases h;decide;split at h;rename_i f g;split at h;exact hf f (by simp) _ _ _ h;exact hf g (by simp) _ _ _ h;cases h;decide;split at h;unfold IM at h;split at h;rename_i f g;split at h;rename_i hm;cases h;exact hf f (by simp) _ _ _ hm;split at h;cases h;decide;exact I4 (hf g (by simp)) h;cases h;decide;unfold D9 at h;split at h;rename_i hk;cases h;exact zX hf hk;split at h;exact J0 h;split at h;cases h;cases h;decide
theorem aGp(arrs:List Arr):∀p:aA,NeF (evU arrs p):=by refine aA.ind' λp ih=>?_;rw[FQ];refine RG arrs p ?_;intro f hf;simp only[List.mem_map]at hf;obtain⟨q,hq,rfl⟩:=hf;exact ih q hq
theorem JM{arrs:List Arr}{p:aA}{env:List Val}{e:Int}(h:lW arrs p env = .er e):e≠0:=by unfold lW at h;split at h;cases h;decide;split at h;cases h;decide;split at h;cases h;decide;exact aGp arrs p _ _ _ h
end
section
instance (p:aA) (env:List Val):Decidable (ME p env):=inferInstanceAs (Decidable (kN env/\_))
def cpV(p:aA)(env:List Val):AV:=if ME p env then .tup [fG (aX p env).r (aX p env).o,.int .i64 0] else .tup [fG 0 0,.int .i64 1]
def nJ:Hp:=[⟨1179649,0,.mpo (QP fL) (List.range 22) 22⟩,⟨1179653,0,.blk [.mp 1179649 0,.int .i64 0,.int .i64 0] 3 true true false⟩]
section
variable{pg:Pg}
set_option maxRecDepth 100000 in
theorem c981(hf:pg.fs 981=some xB)(h992:pg.fs 992=some w9)(h177:pg.fs 177=some pH):tF pg 981 [] 1179648 [] (.pt 1179653 0 0) nJ:=by
 have ht:∀f cf,(BT.n 981 xB (.n 177 pH .e .e) (.n 992 w9 .e .e)).find f=some cf->pg.fs f=some cf:=by intro f cf h;exact BT.All.find (p:=λf cf=>pg.fs f=some cf) (t:=.n 981 xB (.n 177 pH .e .e) (.n 992 w9 .e .e)) ⟨hf,⟨h177,trivial,trivial⟩,⟨h992,trivial,trivial⟩⟩ h
 have hr:aZ ⟨λf=>(BT.n 981 xB (.n 177 pH .e .e) (.n 992 w9 .e .e)).find f,pg.gl,λ_=>none⟩ 40 981 [] 1179648 []=some (.pt 1179653 0 0,nJ):=by kernel_rfl
 exact⟨40,(rP (pg:=⟨λf=>(BT.n 981 xB (.n 177 pH .e .e) (.n 992 w9 .e .e)).find f,pg.gl,λ_=>none⟩) ht rfl (λ_=>rfl) 40).1 _ _ _ _ _ hr⟩
set_option maxRecDepth 100000 in
theorem c972(hf:pg.fs 972=some J6)(hx:AscX pg)(h98:pg.fs 98=some F9)(h138:pg.fs 138=some sC)(h980:pg.fs 980=some DQ)
  (h109:∀p:aA,p.ok->∀(nl cl:Bool)(vars:List Str),vars.length+p.sz<=big->∀v:Int,Ret pg 109 [p.av,.sl nl (vars.map Str.av) cl,.int .i64 v] (.bool (dQ p vars v)))
  (hnew:tF pg 981 [] 1179648 [] (.pt 1179653 0 0) nJ)
  (p:aA) (hp:p.ok) (enl ecl:Bool) (env:List Val) (hsz:env.length+p.sz<=big) (hl:tG p env) (h982:bO 1000 p (env.map (·.v))=true->CtE pg p env):Ret pg 972 [p.av,.sl enl (env.map Val.av) ecl] (cpV p env):=by
 obtain⟨r,a980,hN⟩:=c980 h980 h98 h138 enl ecl env (by omega);refine Ret.ofX hf ?_;unfold J6;unfold pE at hN;split at hN
 ·rename_i hd;obtain⟨nl,cl,rfl,_⟩:=hN;have a109:=h109 p hp nl cl (env.map (·.v)) (by simpa using hsz) 1000;rw[aA.avc]at a109;refine Wk ?_;refine aC a980 (Wk ?_);refine aC a109 ?_;cases hv:dQ p (env.map (·.v)) 1000;have hcp:cpV p env = .tup [fG 0 0,.int .i64 1]:=if_neg (λh=>by rw[h.2]at hv;cases hv);rw[hcp];simp only[fG,go_sem,seval]
  ·have hok:ME p env:=⟨hd,hv⟩
   have hcp:cpV p env = .tup [fG (aX p env).r (aX p env).o,.int .i64 0]:=if_pos hok;have hn:=hl hok;rw[hcp];refine Wk ?_;refine WQ rfl hnew (by kernel_rfl) ?_ ?_;intro x hx;simp only[nJ,List.mem_cons,List.not_mem_nil,or_false]at hx;rcases hx with rfl|rfl<;>rfl
   ·have hp0:=hp;obtain⟨H0,hH0⟩:∃H0:Hp,H0=((Hp.put [] 1 0 (.blk p.cells 9 true true false)).put 5 0 (.blk [.int .i64 0,.int .i64 0,.int .i64 0,.int .i64 0] 4 true true false)):=⟨_,rfl⟩
    have g1:(Eff.app H0 (.pat (nJ.map (·.k)) nJ)).get 1=some (0,.blk p.cells 9 true true false):=by rw[hH0];rfl
    have g5:(Eff.app H0 (.pat (nJ.map (·.k)) nJ)).get 5=some (0,.blk [.int .i64 0,.int .i64 0,.int .i64 0,.int .i64 0] 4 true true false):=by rw[hH0];rfl
    have gA:bW (Eff.app H0 (.pat (nJ.map (·.k)) nJ))=true:=by rw[hH0];rfl
    have gC:Ct 0 (Eff.app H0 (.pat (nJ.map (·.k)) nJ)):=by rw[hH0];exact⟨List.range 22,22,rfl,rfl⟩
    simp only[aA.cells,aA.kav,Sl.av]at hH0 g1;rw[<-hH0];generalize Eff.app H0 (.pat (nJ.map (·.k)) nJ)=H at g1 g5 gA gC ⊢;have hv2:=hv;simp only[dQ,aD]at hv2;simp only[g1,go_sem,seval]
    try rw[<-aA.avc]
    refine lC hx (.inr (gC.nosnap _)) (B:=1441792) (oL ..) gA (h982 hv2.2 1441792 H 0 enl ecl (by omega) (by omega) gA gC (by omega) (by omega) hn) ?_;rintro r' h' ⟨k1,c1,rfl⟩ a1;obtain⟨bs,ck,z1,z2⟩:=c1;simp only[JT]at z1;have g5':=(k1.1 5 (by decide) (by decide)).trans g5;simp only[z1,fG,g5',go_sem,seval]
 rename_i hd;subst hN;have hcp:cpV p env = .tup [fG 0 0,.int .i64 1]:=if_neg (λh=>hd h.1);rw[hcp];refine Wk ?_;refine aC a980 ?_;simp only[fG,go_sem,seval]
end
end
section
def Sr(er:Nat)(wk:Int)(h:Hp):Prop:=h.get 17=some (er,.blk [.int .i64 wk,.int .i64 0] 2 true true false)
def gF(h h':Hp)(kb:Nat):Prop:=(∀q,q<kb->q≠17->h'.get q=h.get q)/\∀q,h.get q≠none->h'.get q≠none
theorem gF.refl(h:Hp)(kb:Nat):gF h h kb:=⟨λ_ _ _=>rfl,λ_ h=>h⟩
theorem gF.trans{h h' h'':Hp}{kb kb':Nat}(a:gF h h' kb)(b:gF h' h'' kb')(hk:kb<=kb'):gF h h'' kb:=
 ⟨λq h1 h2=>(b.1 q (by omega) h2).trans (a.1 q h1 h2),λq hq=>b.2 q (a.2 q hq)⟩
theorem gF.put{h h':Hp}{kb k e:Nat}{o:Ob}(a:gF h h' kb)(hk:kb<=k\/k=17):gF h (h'.put k e o) kb:=
 ⟨λq h1 h2=>by rw[aB,if_neg (by omega)];exact a.1 q h1 h2,uD k e o a.2⟩
theorem gF.of_get{h h' H:Hp}{kb:Nat}(q:gF h h' kb)(hg:∀q,H.get q=h'.get q):gF h H kb:=⟨λx a b=>(hg x).trans (q.1 _ a b),λa hq=>by rw[hg];exact q.2 a hq⟩
def SrP(er:Nat)(h:Hp)(kb:Nat)(wk:Int)(v r:AV)(h':Hp):Prop:=gF h h' kb/\Sr er wk h'/\r=v
theorem Sr.mono{er:Nat}{wk:Int}{h h':Hp}(o:Sr er wk h)(h1:h'.get 17=h.get 17):Sr er wk h':=h1.trans o
theorem Sr.of_get{er:Nat}{wk:Int}{h' H:Hp}(q:Sr er wk h')(hg:∀q,H.get q=h'.get q):Sr er wk H:=q.mono (hg _)
section
variable{pg:Pg}{kb:Nat}
theorem LK{k1 esz bytes s:Nat}{ag:Bool}{h:Hp}{v:AV}{es xs:List AV}{nl cl:Bool}{Q:AV->Eff->Prop}{t:Tok Q}(o:Own h k1 esz ag v es)(hk:k1≠kb+s)(he:∀x∈es,El esz ag x)(hx:∀x∈xs,El esz ag x)(hn:xs≠[])
  (hl:es.length+xs.length<=1073741824) (hb:bytes<=65536)
  (q:∀v' rd pa,Own (Eff.app h (.pat rd pa)) (kb+s) esz ag v' (es++xs)->(∀k,k≠k1->k≠kb+s->(Eff.app h (.pat rd pa)).get k=h.get k)->(∀k,h.get k≠none->(Eff.app h (.pat rd pa)).get k≠none)->(∀x∈pa,x.k=k1\/x.k=kb+s)->Q v' (.pat rd pa)) :
  XO pg kb (.app esz ag bytes) s h [v,.sl nl xs cl] Q t:=by
 rcases o with ⟨hnil,nl',cl',rfl,hc⟩|⟨e,cs,rfl,hg,hu⟩
 subst hnil;refine P8 hc hx hn (by simpa using hl) hb ?_;intro ds hds;refine q _ _ _ (.inr ⟨h.next (kb+s),ds,by simp,?_,by simpa using hds⟩) ?_ ?_ ?_;show (h.put (kb+s) (h.next (kb+s)) (.blk ds esz ag false false)).get (kb+s)=_;rw[aB,if_pos rfl];intro k _ h2;show (h.put (kb+s) (h.next (kb+s)) (.blk ds esz ag false false)).get k=_;rw[aB,if_neg (Ne.symm h2)];exact uD _ _ _ (λq h=>h);intro x hx;simp only[List.mem_singleton]at hx;rw[hx];exact .inr rfl;refine P7 (k1:=k1) (es:=es) rfl hg hu hk he hx hn hl hb ?_;intro ds hds;refine q _ _ _ (.inr ⟨h.next (kb+s),ds,by simp,?_,hds⟩) ?_ ?_ ?_;show ((h.put k1 e .dead).put (kb+s) (h.next (kb+s)) (.blk ds esz ag false false)).get (kb+s)=_;rw[aB,if_pos rfl];intro k h1 h2;show ((h.put k1 e .dead).put (kb+s) (h.next (kb+s)) (.blk ds esz ag false false)).get k=_;rw[aB,if_neg (Ne.symm h2),aB,if_neg (Ne.symm h1)];exact uD _ _ _ (uD _ _ _ (λq h=>h));intro x hx;simp only[List.mem_cons,List.not_mem_nil,or_false]at hx;rcases hx with rfl|rfl;exact .inl rfl;exact .inr rfl
end
section
variable{pg:Pg}
theorem c999(hf:pg.fs 999=some DL)(r o r' o':Nat)(hr:r+r'<=1000000)(ho:o+o'<=1000000):Ret pg 999 [fG r o,fG r' o'] (fG (r+r') (o+o')):=by
 have w1:wr .i64 ((r:Int)+r')=((r+r':Nat):Int):=by rw[gH (by omega) (by omega)];omega
 have w2:wr .i64 ((o:Int)+o')=((o+o':Nat):Int):=by rw[gH (by omega) (by omega)];omega
 have w0:wr .i64 0=0:=rfl;refine Ret.ofX hf ?_;unfold DL fG;simp only[w1,w2,w0,go_sem,seval]
theorem c1000(hf:pg.fs 1000=some wB)(h959:∀op,Ret pg 959 [.str op] (.bool (cX op).isSome))(nl cl:Bool)(fn:List aE)(hb:fn.length<=big):Ret pg 1000 [.sl nl (fn.map aE.av) cl] (.int .i64 (aQ fn)):=by
 refine Ret.ofX hf ?_;unfold wB;refine Wk ?_;refine aN fn (λd r e hp=>e=BF (.sl nl (fn.map aE.av) cl) (.int .i64 (aQ d)) (.int .i64 d.length)) ?_ ?_ ?_;rfl;rintro e hp rfl;simp only[BE,BF,bH,go_sem,seval];rintro d x r e hp hes rfl;obtain⟨hget,e1,e2,ew⟩:=cY hes hb;have hdl:d.length<fn.length:=by rw[hes];simp
 have hsd:=l9 d;simp only[BE,BF,e1,e2,hget,go_sem,seval];refine cO (h959 x.op.bs) rfl rfl ?_;cases hP:(cX x.op.bs).isSome;have hs:aQ (d++[x])=aQ d:=by simp[aQ,List.filter_append,List.filter_cons,hP]
 simp only[ew,go_sem,seval];rw[hs];rfl;have hs:((aQ (d++[x]):Nat):Int)=wr .i64 ((aQ d:Int)+1):=by rw[gH (by omega) (by simp only[big]at hb;omega)];simp[aQ,List.filter_append,List.filter_cons,hP]
 simp only[ew,go_sem,seval];rw[hs];rfl
theorem c1001(hf:pg.fs 1001=some wA)(er:Nat)(wk:Int)(kb:Nat)(h:Hp)(hkb:65536<=kb)(hs:Sr er wk h)(r o:Nat)(hr:r<=1000000)(ho:o<=1000000):cW pg 1001 [.pt 17 er 0,fG r o] kb h (SrP er h kb wk (.tup [])):=by
 refine cW.ofX hf ?_;unfold wA fG;have b1:decide (1000000<(r:Int))=false:=by simp;omega
 have b2:decide (1000000<(o:Int))=false:=by simp;omega
 have hs':=hs;unfold Sr at hs';simp only[b1,b2,hs',go_sem,seval];exact⟨(gF.refl _ _).put (.inl (by omega)),by unfold Sr;rw[aB,if_neg (by omega)];exact hs,rfl⟩
theorem c998(hf:pg.fs 998=some DM)(h34:∀(l:Lin) (nl cl:Bool) (ds:List Val),ds.length<=big->Ret pg 34 [l.av,.sl nl (ds.map Val.av) cl] (.tup [.int .i64 (cD ds l).1,.int .i64 (cD ds l).2]))
  (er:Nat) (wk:Int) (kb:Nat) (h:Hp) (hkb:65536<=kb) (hs:Sr er wk h) (l:Lin) (nl cl:Bool) (env:List Val) (heb:env.length<=big) (h0:(cD env l).2=0) :
  cW pg 998 [.pt 17 er 0,l.av,.sl nl (env.map Val.av) cl] kb h (SrP er h kb wk (.int .i64 (cD env l).1)):=by
 have hlb:=l.ts.ok;have a34:=h34 l nl cl env heb;rw[h0]at a34;have hs':=hs;unfold Sr at hs';have n16:(kb=16)=False:=eq_false (by omega);refine cW.ofX hf ?_;unfold DM;refine Wk ?_;refine aC a34 ?_;simp only[n16,hs',go_sem,seval];exact⟨((gF.refl _ _).put (.inl (by omega))).put (.inr rfl),by unfold Sr;rw[aB,if_pos rfl],rfl⟩
end
end
end Go.Tev
