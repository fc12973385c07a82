import Derived.Test.YtagdhpkdbdilaaaGreatDoorSAN
import Derived.Test.YtagdhpkdbdilaaaGreatDoorSAR
import Derived.Lib.AppendIntMem
set_option linter.all false
section
set_option maxRecDepth 100000
namespace Go.Proofs
open Go.Tev
def exB(f:Nat):Option (List AV->Nat->Hp->Option (AV×Hp)):=
 bif f.beq 92 then some m5 else bif f.beq 93 then some m0 else none
def glS(g:Nat):Option AV:=
 bif g.beq 0 then some (.ifc .top) else bif g.beq 1 then some (.ifc .top) else bif g.beq 2 then some (.agg (Lib.pow10Tab.map λn => .int .u64 n)) else none
def pgS:Pg:=⟨λf=>tab.find f,glS,exB⟩
def nm:Nm:=aXt Tryz.prog num gnum
theorem n92:nm.f 92=80:=by kernel_rfl
theorem n93:nm.f 93=46:=by kernel_rfl
theorem aZx:UC Tryz.prog (nm.f 92):=by rw[n92];exact⟨Tryz.f80,Tryz.func80,by kernel_rfl,of_decide_eq_true (by kernel_rfl)⟩
theorem aZw:UC Tryz.prog (nm.f 93):=by rw[n93];exact⟨Tryz.f46,Tryz.func46,by kernel_rfl,of_decide_eq_true (by kernel_rfl)⟩
theorem aSg:iU Tryz.prog nm glS gnum ⟨λf' avs kb h=>if f'=93 then m0 avs kb h else none,λ_ _ _ _=>none⟩:=by refine aIu aZw 2 rfl ?_;intro n h0 h1 w hw;obtain⟨T,fr,ht⟩:=hw;have ht':w.heap[2]?=some (.cells (Lib.pow10Tab.map λz=>Value.int .u64 z).toArray T fr):=ht;rw[n93];refine(Tryz.strconv_Itoa n (by omega) h1 w ht').mono ?_;rintro e w' ⟨rfl,k,os,rfl⟩;exact⟨rfl,Lib.below_grow _ w (Nat.le_refl _) k os⟩
theorem J7(s:List UInt8):((⟨s.toArray⟩:ByteArray).data.toList)=s:=by simp
theorem aHk(s:List UInt8):(⟨s.toArray⟩:ByteArray).size=s.length:=by simp[ByteArray.size]
theorem aTb:iU Tryz.prog nm glS gnum ⟨λf' avs kb h=>if f'=92 then m5 avs kb h else none,λ_ _ _ _=>none⟩:=by
 refine aIX aZx 0 1 rfl rfl ?_ ?_ ?_;intro s hs v hv w;rw[n92];refine(Tryz.strconv_Atoi_ok ⟨s.toArray⟩ (by rw[aHk];omega) v (by rw[J7];exact hv) w).mono ?_;rintro e w' ⟨rfl,hw⟩;refine⟨rfl,?_⟩;rcases hw with rfl|⟨t,rfl⟩
 exact RowKit.Below.refl _ _;exact Lib.bytesWorld_below _ _ _;intro s hs hv1 hv2 w te pe hc;rw[n92];refine(Tryz.strconv_Atoi_bad ⟨s.toArray⟩ (by rw[aHk];omega) (by rw[J7];exact hv1) (by rw[J7];exact hv2) _ w hc (.inr ⟨te,pe,rfl⟩)).mono ?_;rintro e w' ⟨N,rfl,_,_,hb⟩;exact⟨_,_,rfl,hb⟩;intro s hs hv w te pe hc;rw[n92];refine(Tryz.strconv_Atoi_range ⟨s.toArray⟩ (by rw[aHk];omega) (by rw[J7];exact hv) _ w hc (.inr ⟨te,pe,rfl⟩)).mono ?_;rintro e w' ⟨N,rfl,_,_,hb⟩;rw[J7];exact⟨_,_,rfl,hb⟩
theorem exS:∀f g,exB f=some g->iU Tryz.prog nm glS gnum ⟨λf' avs kb h=>if f'=f then g avs kb h else none,λ_ _ _ _=>none⟩:=by
 intro f g h;unfold exB at h;cases h1:f.beq 92 with
 |true=>rw[h1]at h;cases h;obtain rfl:=Nat.eq_of_beq_eq_true h1;exact aTb
 |false=>
  cases h2:f.beq 93 with
  |true=>rw[h1,h2]at h;cases h;obtain rfl:=Nat.eq_of_beq_eq_true h2;exact aSg
  |false=>rw[h1,h2]at h;cases h
theorem fitS:OX Tryz.prog nm gnum pgS:=fitP_of fits exS (λ_ _ _ _=>Iff.rfl)
end Go.Proofs
end
namespace Go.Tev
section
def aSh(op:List UInt8):Bool:=decide (op=[108,116])||decide (op=[108,101])||decide (op=[103,116])||decide (op=[103,101])||decide (op=[101,113])||decide (op=[110,101])
def aTk:List Bool->Bool
 |[_,b,c]=>b&&c
 |_=>false
def LX(op:List UInt8)(kids:List Bool):Bool:=
 if aSh op then decide ((kids.length:Int)=2)
 else if decide (op=[115,101,108,101,99,116]) then aTk kids
 else match k7 op with
  |none=>false
  |some p=>decide (p.result=[98,111,111,108])&&decide ((p.params.length:Int)=(kids.length:Int)) && !kids.any (λb=>b==false)
theorem BR(l:List Bool):Tev.treeL (l.map AV.bool)=true:=bV (f:=AV.bool) (λ_=>rfl) l
theorem EN(l:List (List UInt8)):Tev.treeL (l.map AV.str)=true:=bV (f:=AV.str) (λ_=>rfl) l
attribute [go_sem] BR EN
section
variable{pg:Pg}
def PY(op:List UInt8):Bool:=decide (op=[99,111,110,115,116])||decide (op=[116,114,117,116,104])
def aJX(l:List Bool)(a:Int):Bool:=decide (0<=a)&&(decide (a<(l.length:Int))&&(l[a.toNat]?).getD false)
def aJT(l:List Bool)(s:aJ):Bool:=if PY s.op.bs then decide (s.num=0)||decide (s.num=1) else LX s.op.bs (s.args.es.map (aJX l))
def GS(l:List Bool):List aJ->List Bool
 |[]=>l
 |s::r=>GS (l++[aJT l s]) r
def GR(code:List aJ)(args:List Bool):Bool:=(GS args code).getLast?.getD false
def BP(h:Hp)(ks:List Nat)(v:AV)(es:List Bool):Prop:=∃k∈ks,Own h k 1 false v (es.map AV.bool)
theorem BP.mono{h h':Hp}{ks:List Nat}{v:AV}{es:List Bool}(o:BP h ks v es)(hh:∀k∈ks,h'.get k=h.get k):BP h' ks v es:=by obtain⟨k,hk,o⟩:=o;exact⟨k,hk,o.mono (hh k hk)⟩
theorem nV:∀(l:List Bool),aP 1 false (l.map AV.bool)=some (l.map AV.bool)
 |[]=>rfl
 |x::r=>by have ih:=nV r;rw[List.map_cons,aP,ih];rfl
theorem BP.at{h:Hp}{ks:List Nat}{v:AV}{es:List Bool}(o:BP h ks v es){n:Int}(h0:0<=n)(h1:n<es.length):∃k e,v = .rf k e 0 es.length es.length/\h.get k=some (e,.blk (es.map AV.bool) 1 false false false)/\k∈ks:=by
 obtain⟨k,hk,⟨he,nl,cl,rfl,hc⟩|⟨e,cs,rfl,hg,hu⟩⟩:=o;have:es=[]:=by simpa using he
 subst this;simp at h1;omega;rw[nV]at hu;cases hu;exact⟨k,e,by simp,hg,hk⟩
theorem BP.len{h:Hp}{ks:List Nat}{v:AV}{es:List Bool}(o:BP h ks v es)(kb s:Nat)(h':Hp)(Q:AV->Eff->Prop)(t:Tok Q):XO pg kb (.len 1) s h' [v] Q t=Q (.int .i64 es.length) (.pat [] []):=by
 obtain⟨k,hk,⟨he,nl,cl,rfl,hc⟩|⟨e,cs,rfl,hg,hu⟩⟩:=o;have:es=[]:=by simpa using he
 subst this;simp only[go_sem,seval];rw[aZ];simp only[go_sem,seval]
theorem BP.flen{h:Hp}{ks:List Nat}{v:AV}{es:List Bool}(o:BP h ks v es)(h':Hp):u1 h' 1 [v]=some (.int .i64 es.length,.pat [] []):=by
 obtain⟨k,hk,⟨he,nl,cl,rfl,hc⟩|⟨e,cs,rfl,hg,hu⟩⟩:=o;have:es=[]:=by simpa using he
 subst this;rfl;rw[aZ];rfl
theorem mV{h:Hp}{d:Nat}{a b b':AV}{keys:List Nat}(ha:a.tree=true)(hb:Tev.snap (d+1) h b=some (b',keys)):mapS (Tev.snap (d+1) h) [a,b]=some ([a,b'],keys):=by simp[fR,lE,sI ha,hb]
end
end
section
def aJV(vals:List Typ)(v:Int):Bool:=decide (0<=v)&&(decide (v<(vals.length:Int))&&((vals[v.toNat]?).map λt=>decide (t.elem.bs=[98,111,111,108])).getD false)
def ifT:List Bool->Bool
 |[a,b]=>a&&b
 |_=>false
def aTm(fn:List aJ):List Bool->Bool
 |[a,b]=>a&&GR fn [true,b]
 |_=>false
def aHi(vals:List Typ)(op:List UInt8)(num value:Int)(fn:List aJ)(kids:List Bool):Bool:=
 if decide (op=[99,111,110,115,116]) then decide (num=0)||decide (num=1)
 else if decide (op=[108,105,110,101,97,114]) then false
 else if decide (op=[114,101,97,100]) then aJV vals value
 else if decide (op=[105,102]) then ifT kids
 else if decide (op=[114,101,100,117,99,101]) then aTm fn kids
 else if decide (op=[99,111,100,101]) then GR fn kids
 else LX op kids
mutual
def O4(vals:List Typ):aE->Bool
 |.mk op num value _ _ _ _ fn _ kids _=>aHi vals op.bs num value fn.es (GT vals kids)
def GT(vals:List Typ):List aE->List Bool
 |[]=>[]
 |p::r=>O4 vals p::GT vals r
end
theorem Own.flen{h:Hp}{k esz:Nat}{ag:Bool}{v:AV}{es:List AV}(o:Own h k esz ag v es)(h':Hp):u1 h' 1 [v]=some (.int .i64 es.length,.pat [] []):=by
 rcases o with ⟨rfl,nl,cl,rfl,hc⟩|⟨e,cs,rfl,hg,hu⟩
 rfl;rfl
section
variable{pg:Pg}
end
end
section
def kD:aE:=.mk ⟨[],by decide⟩ 0 0 ⟨[],by decide⟩ ⟨true,[],true,by decide⟩ false 0 ⟨true,[],true,by decide⟩ true [] true
section
variable{pg:Pg}
def G4(i:Nat):Str:=⟨LB i,by simp[LB,big]⟩
end
end
section
end
section
theorem IW{h:Hp}{d:Nat}{a b b':AV}{keys:List Nat}(hb:Tev.snap (d+1) h b=some (b',keys))(ha:a.tree=true):mapS (Tev.snap (d+1) h) [b,a]=some ([b',a],keys):=by rw[fR,hb,fR,l7,if_pos ha,lE];simp
section
variable{pg:Pg}
end
end
section
section
variable{pg:Pg}
end
end
section
def uZ(l:Lin):Bool:=(l.ts.es.all λc => !decide (35<(c.v.bs.length:Int)))&&decide ((l.ts.es.length:Int)<=14)
def C4(s:bO):Bool:=(s.dims.es.all uZ)&&(decide ((s.dims.es.length:Int)<=8)&&decide ((s.row.bs.length:Int)<=35))
def xQ(l:List aJ):Bool:=(l.all λs => !(decide (4<(s.args.es.length:Int))||decide (20<(s.op.bs.length:Int))))&&decide ((l.length:Int)<=10)
def wY(p:aE)(l:List aE):List AV:=
 [.str p.op.bs,.int .i64 p.num,.int .i64 p.value,.str p.name.bs,.sl p.at_.nl (p.at_.es.map Lin.av) p.at_.cl,.bool p.dyn,.int .i64 p.check,.sl p.fn.nl (p.fn.es.map aJ.av) p.fn.cl,.sl p.knl (l.map aE.av) p.kcl]
mutual
def nY:aE->Bool
 |.mk op _ _ name at_ _ _ fn _ kids _=>u0 kids&&(C4 ⟨⟨[],by decide⟩,at_⟩&&xQ fn.es&&decide ((name.bs.length:Int)<=35)&&decide ((op.bs.length:Int)<=20))
def u0:List aE->Bool
 |[]=>true
 |p::r=>nY p&&u0 r
end
theorem xP:∀l,u0 l=l.all nY
 |[]=>by simp[u0]
 |p::r=>by simp[u0,xP r]
theorem C5(p:aE):nY p=(p.kids.all nY&&(C4 ⟨⟨[],by decide⟩,p.at_⟩&&xQ p.fn.es&&decide ((p.name.bs.length:Int)<=35)&&decide ((p.op.bs.length:Int)<=20))):=by cases p;rw[nY,xP];rfl
def G7(p:aE):Bool:=decide (jA p<=60)&&nY p
section
variable{pg:Pg}
theorem c56(hf:pg.fs 56=some DX)(l:Lin):Ret pg 56 [l.av] (.bool (uZ l)):=by have hb:=l.ts.ok;refine Ret.ofX hf ?_;unfold DX;simp only[go_sem,seval];refine iB l.ts.es (λd e=>dC e (some 3) (.int .i64 d.length)) (λd r hp=>hp.get 1=some (0,.blk [.int .i64 l.c,.sl l.ts.nl (l.ts.es.map aN.av) l.ts.cl] 2 true true false)/\(l.ts.es.all λc => !decide (35<(c.v.bs.length:Int)))=(r.all λc => !decide (35<(c.v.bs.length:Int)))) rfl ?_ ?_ ?_;simp only[go_sem,seval];rintro hp ⟨h1,hI⟩;simp only[F0,FZ,h1,go_sem,seval];simp[uZ,hI];rintro d x r hp hes ⟨h1,hI⟩;rw[hes]at hb hI h1;have h0:=h1;rw[hes];simp only[F0,FZ,h1,go_sem,seval];cases hd:decide (35<(x.v.bs.length:Int));simp only[gJ hb,go_sem,seval];exact⟨h0,by simpa[hd] using hI⟩;simp only[go_sem,seval];simp only[uZ,hes,hI,List.all_cons,hd];rfl
theorem c42(hf:pg.fs 42=some F8)(h56:pg.fs 56=some DX)(s:bO):Ret pg 42 [s.av] (.bool (C4 s)):=by
 have hb:=s.dims.ok;refine Ret.ofX hf ?_;unfold F8;simp only[go_sem,seval];refine iB s.dims.es (λd e=>dC e (some 3) (.int .i64 d.length)) (λd r hp=>hp.get 1=some (0,.blk [.str s.row.bs,.sl s.dims.nl (s.dims.es.map Lin.av) s.dims.cl] 2 true true false)/\(s.dims.es.all uZ)=(r.all uZ)) rfl ?_ ?_ ?_;simp only[go_sem,seval]
 ·rintro hp ⟨h1,hI⟩
  repeat' (first|simp only[F7,F6,h1, *,go_sem,seval]|refine kA (λ_=>?_) (λ_=>?_)|refine kB (λ_=>?_) (λ_=>?_)|refine cC ?_)
  all_goals (simp_all [C4])
  all_goals (intro h;omega)
 rintro d x r hp hes ⟨h1,hI⟩;have hx:=c56 h56 x;rw[Lin.avc]at hx;rw[hes]at hb hI h1;have h0:=h1;rw[hes];simp only[F7,F6,h1,go_sem,seval];refine aG (hx) ?_;cases hd:uZ x;simp only[go_sem,seval];simp only[C4,hes,hI,List.all_cons,hd];rfl;simp only[gJ hb,go_sem,seval];exact⟨h0,by simpa[hd] using hI⟩
theorem c26(hf:pg.fs 26=some GG)(nl cl:Bool)(l:List aJ)(hb:l.length<=big):Ret pg 26 [.sl nl (l.map aJ.av) cl] (.bool (xQ l)):=by
 refine Ret.ofX hf ?_;unfold GG;simp only[go_sem,seval];refine iB l (λd e=>dC e (some 3) (.int .i64 d.length)) (λd r hp=>(l.all λs => !(decide (4<(s.args.es.length:Int))||decide (20<(s.op.bs.length:Int))))=(r.all λs => !(decide (4<(s.args.es.length:Int))||decide (20<(s.op.bs.length:Int))))) rfl ?_ ?_ ?_;rfl
 ·rintro hp hI
  repeat' (first|simp only[GF,GE, *,go_sem,seval]|refine kA (λ_=>?_) (λ_=>?_)|refine kB (λ_=>?_) (λ_=>?_)|refine cC ?_)
  all_goals (simp_all [xQ])
 rintro d x r hp hes hI;rw[hes]at hb hI;rw[hes];simp only[GF,GE,go_sem,seval];cases hd:decide (4<(x.args.es.length:Int));simp only[go_sem,seval];cases hd2:decide (20<(x.op.bs.length:Int));simp only[gJ hb,go_sem,seval];simpa[hd,hd2] using hI;simp only[go_sem,seval];simp only[xQ,hes,hI,List.all_cons,hd,hd2];rfl;simp only[go_sem,seval];simp only[xQ,hes,hI,List.all_cons,hd];rfl
theorem c40(hf:pg.fs 40=some GD):∀p:aE,p.ok->Ret pg 40 [p.av] (.int .i64 (jA p)):=by refine aE.ind' λp ih hp=>?_;obtain⟨hb,hk⟩:=(aE.ok_iff p).1 hp;refine Ret.ofX hf ?_;unfold GD;simp only[go_sem,seval];refine iB p.kids (λd e=>dC (dC e (some 4) (.int .i64 d.length)) (some 3) (.int .i64 (iM 1 d))) (λd r hp=>hp.get 1=some (0,.blk p.cells 9 true true false)) (by simp only[iM];rfl) ?_ ?_ ?_;simp only[go_sem,seval];rfl;rintro hp h1;simp only[aE.cells,Sl.av,aE.kav]at h1;simp only[GC,GB,h1,go_sem,seval];exact(IR p).symm;rintro d x r hp hes h1;have h0:=h1;simp only[aE.cells,Sl.av,aE.kav]at h1;have hx:=ih x (by rw[hes];simp) (hk x (by rw[hes];simp));rw[hes]at hb h1;rw[hes];have h2:hp.get 1=some (0,.blk [.str p.op.bs,.int .i64 p.num,.int .i64 p.value,.str p.name.bs,.sl p.at_.nl (p.at_.es.map Lin.av) p.at_.cl,.bool p.dyn,.int .i64 p.check,.sl p.fn.nl (p.fn.es.map aJ.av) p.fn.cl,.sl p.knl ((d++x::r).map aE.av) p.kcl] 9 true true false):=h1;simp only[GC,GB,h2,go_sem,seval];refine aG (hx) ?_;simp only[gJ hb,rO,go_sem,seval];exact h0
theorem c41(hf:pg.fs 41=some JN)(h42:pg.fs 42=some F8)(h56:pg.fs 56=some DX)(h26:pg.fs 26=some GG):∀p:aE,p.ok->Ret pg 41 [p.av] (.bool (nY p)):=by
 refine aE.ind' λp ih hp=>?_;obtain⟨hb,hk⟩:=(aE.ok_iff p).1 hp;have a1:=c42 h42 h56 ⟨⟨[],by decide⟩,p.at_⟩;have a2:=c26 h26 p.fn.nl p.fn.cl p.fn.es p.fn.ok;rw[bO.avc]at a1;refine Ret.ofX hf ?_;unfold JN;simp only[go_sem,seval];refine iB p.kids (λd e=>dC e (some 3) (.int .i64 d.length)) (λd r hp=>hp.get 1=some (0,.blk (wY p p.kids) 9 true true false)/\p.kids.all nY=r.all nY) rfl ?_ ?_ ?_;exact⟨by simp only[go_sem,seval];rfl,rfl⟩
 ·rintro hp ⟨h1,hI⟩;simp only[wY]at h1
  repeat' (first|simp only[GA,F9, *,go_sem,seval]|refine kA (λ_=>?_) (λ_=>?_)|refine kB (λ_=>?_) (λ_=>?_)|(refine aG a1 ?_)|(refine aG a2 ?_)|refine cC ?_)
  all_goals (clear h1 a1 a2 hf h42 h56 h26 ih)
  all_goals (rw[C5,hI])
  all_goals (simp_all)
  all_goals (try (intros;omega))
 rintro d x r hp hes ⟨h1,hI⟩;have hx:=ih x (by rw[hes];simp) (hk x (by rw[hes];simp));have hI2:=hI;rw[hes]at hb hI h1;have h0:=h1;simp only[wY]at h1;rw[hes];have hx':=hx;rw[aE.avc]at hx';simp only[GA,F9,h1,go_sem,seval]
 first|refine aG hx ?_|refine aG hx' ?_
 cases hd:nY x;simp only[go_sem,seval];rw[C5,hI2,List.all_cons,hd];rfl;simp only[gJ hb,go_sem,seval];exact⟨h0,by rw[hI,List.all_cons,hd];rfl⟩
theorem c25(hf:pg.fs 25=some NI)(h40:pg.fs 40=some GD)(h41:pg.fs 41=some JN)(h42:pg.fs 42=some F8)(h56:pg.fs 56=some DX)(h26:pg.fs 26=some GG)(p:aE)(hp:p.ok):Ret pg 25 [p.av] (.bool (G7 p)):=by
 have a1:=c40 h40 p hp;have a2:=c41 h41 h42 h56 h26 p hp;rw[aE.avc]at a1 a2;refine Ret.ofX hf ?_;unfold NI
 repeat' (first|simp only[*,go_sem,seval]|refine kA (λ_=>?_) (λ_=>?_)|refine kB (λ_=>?_) (λ_=>?_)|(refine aG a1 ?_)|(refine aG a2 ?_)|refine cC ?_)
 all_goals (simp_all [G7])
 all_goals (try (intros;omega))
end
end
end Go.Tev
