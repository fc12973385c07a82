import Derived.Test.YtdglfamcgppilaaGreatDoorVAS
set_option linter.all false
namespace Go.Tev
section
def YL:aA:=.mk ⟨[],by decide⟩ 0 0 ⟨[],by decide⟩ ⟨true,[],true,by decide⟩ false 0 ⟨true,[],true,by decide⟩ true [] true
theorem NP{p:aA}{v:Int}(h:kZ p v=true):0<=p.value/\p.value<v:=by simp only[kZ,aD,aQ]at h;exact⟨h.1.1.1.2,h.1.1.2⟩
theorem uQ(v:Int):∀p:aA,∀vars,eJ v p vars=true->∀a∈cJ p,0<=a/\a<v:=by
 refine aA.ind' λp ih vars h=>?_;rw[kH]at h;simp only[aD]at h;obtain⟨⟨h1,_⟩,h2⟩:=h;have hk:∀(l:List aA),(∀q∈l,q∈p.kids)->∀i red,cU v red p.name vars i l=true->∀a∈fG l,0<=a/\a<v:=by
  intro l
  induction l with
  |nil=>intro _ i red _ a ha;simp[fG]at ha
  |cons q r ih2=>intro hm i red hv a ha;simp only[cU,aD]at hv;simp only[fG,lS]at ha;rcases ha with ha|ha;exact ih q (hm q (by simp)) _ hv.1 a ha;exact ih2 (λq hq=>hm q (by simp[hq])) _ red hv.2 a ha
 intro a ha;rw[pS,lS]at ha;rcases ha with ha|ha;split at ha;rename_i ho;simp only[List.mem_singleton]at ha;subst ha;simp only[aQ]at ho;have e1:¬(p.op.bs=[99,111,110,115,116]):=by rw[ho];decide
 have e2:¬(p.op.bs=[108,105,110,101,97,114]):=by rw[ho];decide
 have:bZ p vars v=kZ p v:=by unfold bZ;rw[if_neg e1,if_neg e2,if_pos ho]
 rw[this]at h1;exact NP h1;simp at ha;exact hk p.kids (λq hq=>hq) 0 _ h2 a ha
section
variable{pg:Pg}
theorem c71(hf:pg.fs 71=some KD)(nl cl:Bool)(es:List Int)(hb:es.length<=big)(g:Nat)(cs:List AV)(hcs:treeL cs=true)(p:Int->Bool)(hp:∀x∈es,Ret pg g (aE x::cs) (.bool (p x))) :
  cB pg 71 [.sl nl (es.map aE) cl,.fn g cs] (λr=>∃i:Int,r = .int .i64 i/\decide (0<=i)=es.any p):=
 DG (f:=71) (esz:=1) (ag:=false) hf aE (λ_=>rfl) (λ_=>rfl) nl cl es hb g cs hcs p hp
theorem c45(hf:pg.fs 45=some OO)(h71:pg.fs 71=some KD)(nl cl:Bool)(es:List Int)(hb:es.length<=big)(g:Nat)(cs:List AV)(hcs:treeL cs=true)(p:Int->Bool)(hp:∀x∈es,Ret pg g (aE x::cs) (.bool (p x))) :
  Ret pg 45 [.sl nl (es.map aE) cl,.fn g cs] (.bool (es.any p)):=
 rZ (n:=71) hf (by simp only[treeL,pQ,vW,hcs,gO,Bool.and_true]) (c71 h71 nl cl es hb g cs hcs p hp)
def LX(i:Nat):Str:=⟨QS i,by simp[QS,big]⟩
end
end
section
end
section
theorem NZ{h:Hp}{d:Nat}{a b b':AV}{keys:List Nat}(hb:Tev.snap (d+1) h b=some (b',keys))(ha:a.tree=true):mapS (Tev.snap (d+1) h) [b,a]=some ([b',a],keys):=by rw[cA,hb,cA,lV,if_pos ha,fY];simp
section
variable{pg:Pg}
end
end
section
section
variable{pg:Pg}
end
end
section
def yB(l:Lin):Bool:=(l.ts.es.all λc => !decide (35<(c.v.bs.length:Int)))&&decide ((l.ts.es.length:Int)<=14)
def GR(s:bP):Bool:=(s.dims.es.all yB)&&(decide ((s.dims.es.length:Int)<=8)&&decide ((s.row.bs.length:Int)<=35))
def BA(l:List aH):Bool:=(l.all λs => !(decide (4<(s.args.es.length:Int))||decide (20<(s.op.bs.length:Int))))&&decide ((l.length:Int)<=10)
def nA(p:aA)(l:List aA):List AV:=
 [.str p.op.bs,.int .i64 p.num,.int .i64 p.value,.str p.name.bs,.sl p.at_.nl (p.at_.es.map Lin.av) p.at_.cl,.bool p.dyn,.int .i64 p.check,.sl p.fn.nl (p.fn.es.map aH.av) p.fn.cl,.sl p.knl (l.map aA.av) p.kcl]
mutual
def qO:aA->Bool
 |.mk op _ _ name at_ _ _ fn _ kids _=>yC kids&&(GR ⟨⟨[],by decide⟩,at_⟩&&BA fn.es&&decide ((name.bs.length:Int)<=35)&&decide ((op.bs.length:Int)<=20))
def yC:List aA->Bool
 |[]=>true
 |p::r=>qO p&&yC r
end
theorem A9:∀l,yC l=l.all qO
 |[]=>by simp[yC]
 |p::r=>by simp[yC,A9 r]
theorem GS(p:aA):qO p=(p.kids.all qO&&(GR ⟨⟨[],by decide⟩,p.at_⟩&&BA p.fn.es&&decide ((p.name.bs.length:Int)<=35)&&decide ((p.op.bs.length:Int)<=20))):=by cases p;rw[qO,A9];rfl
def YQ(p:aA):Bool:=decide (kI p<=60)&&qO p
section
variable{pg:Pg}
theorem c56(hf:pg.fs 56=some HH)(l:Lin):Ret pg 56 [l.av] (.bool (yB l)):=by have hb:=l.ts.ok;refine Ret.ofX hf ?_;unfold HH;refine Wk ?_;refine fP l.ts.es (λd e=>eN e (some 3) (.int .i64 d.length)) (λd r hp=>hp.get 1=some (0,.blk [.int .i64 l.c,.sl l.ts.nl (l.ts.es.map bH.av) l.ts.cl] 2 true true false)/\(l.ts.es.all λc => !decide (35<(c.v.bs.length:Int)))=(r.all λc => !decide (35<(c.v.bs.length:Int)))) rfl ?_ ?_ ?_;simp only[go_sem,seval];rintro hp ⟨h1,hI⟩;simp only[KH,KG,h1,go_sem,seval];simp[yB,hI];rintro d x r hp hes ⟨h1,hI⟩;rw[hes]at hb hI h1;have h0:=h1;rw[hes];simp only[KH,KG,h1,go_sem,seval];cases hd:decide (35<(x.v.bs.length:Int));simp only[cW hb,go_sem,seval];exact⟨h0,by simpa[hd] using hI⟩;refine Wk ?_;simp only[yB,hes,hI,List.all_cons,hd];rfl
theorem c42(hf:pg.fs 42=some KP)(h56:pg.fs 56=some HH)(s:bP):Ret pg 42 [s.av] (.bool (GR s)):=by
 have hb:=s.dims.ok;refine Ret.ofX hf ?_;unfold KP;refine Wk ?_;refine fP s.dims.es (λd e=>eN e (some 3) (.int .i64 d.length)) (λd r hp=>hp.get 1=some (0,.blk [.str s.row.bs,.sl s.dims.nl (s.dims.es.map Lin.av) s.dims.cl] 2 true true false)/\(s.dims.es.all yB)=(r.all yB)) rfl ?_ ?_ ?_;simp only[go_sem,seval]
 ·rintro hp ⟨h1,hI⟩
  repeat' (first|simp only[KO,KN,h1, *,go_sem,seval]|refine bW (λ_=>?_) (λ_=>?_)|refine bX (λ_=>?_) (λ_=>?_)|refine bI ?_)
  all_goals (simp_all [GR])
  all_goals (intro h;omega)
 rintro d x r hp hes ⟨h1,hI⟩;have hx:=c56 h56 x;rw[Lin.avc]at hx;rw[hes]at hb hI h1;have h0:=h1;rw[hes];simp only[KO,KN,h1,go_sem,seval];refine aC (hx) ?_;cases hd:yB x;refine Wk ?_;simp only[GR,hes,hI,List.all_cons,hd];rfl;simp only[cW hb,go_sem,seval];exact⟨h0,by simpa[hd] using hI⟩
theorem c26(hf:pg.fs 26=some KX)(nl cl:Bool)(l:List aH)(hb:l.length<=big):Ret pg 26 [.sl nl (l.map aH.av) cl] (.bool (BA l)):=by
 refine Ret.ofX hf ?_;unfold KX;refine Wk ?_;refine fP l (λd e=>eN e (some 3) (.int .i64 d.length)) (λd r hp=>(l.all λs => !(decide (4<(s.args.es.length:Int))||decide (20<(s.op.bs.length:Int))))=(r.all λs => !(decide (4<(s.args.es.length:Int))||decide (20<(s.op.bs.length:Int))))) rfl ?_ ?_ ?_;rfl
 ·rintro hp hI
  repeat' (first|simp only[KW,KV, *,go_sem,seval]|refine bW (λ_=>?_) (λ_=>?_)|refine bX (λ_=>?_) (λ_=>?_)|refine bI ?_)
  all_goals (simp_all [BA])
 rintro d x r hp hes hI;rw[hes]at hb hI;rw[hes];simp only[KW,KV,go_sem,seval];cases hd:decide (4<(x.args.es.length:Int));refine Wk ?_;cases hd2:decide (20<(x.op.bs.length:Int));simp only[cW hb,go_sem,seval];simpa[hd,hd2] using hI;refine Wk ?_;simp only[BA,hes,hI,List.all_cons,hd,hd2];rfl;refine Wk ?_;simp only[BA,hes,hI,List.all_cons,hd];rfl
theorem c40(hf:pg.fs 40=some KU):∀p:aA,p.ok->Ret pg 40 [p.av] (.int .i64 (kI p)):=by refine aA.ind' λp ih hp=>?_;obtain⟨hb,hk⟩:=(aA.ok_iff p).1 hp;refine Ret.ofX hf ?_;unfold KU;refine Wk ?_;refine fP p.kids (λd e=>eN (eN e (some 4) (.int .i64 d.length)) (some 3) (.int .i64 (jN 1 d))) (λd r hp=>hp.get 1=some (0,.blk p.cells 9 true true false)) (by simp only[jN];rfl) ?_ ?_ ?_;refine Wk ?_;rfl;rintro hp h1;simp only[aA.cells,Sl.av,aA.kav]at h1;simp only[KT,KS,h1,go_sem,seval];exact(AO p).symm;rintro d x r hp hes h1;have h0:=h1;simp only[aA.cells,Sl.av,aA.kav]at h1;have hx:=ih x (by rw[hes];simp) (hk x (by rw[hes];simp));rw[hes]at hb h1;rw[hes];have h2:hp.get 1=some (0,.blk [.str p.op.bs,.int .i64 p.num,.int .i64 p.value,.str p.name.bs,.sl p.at_.nl (p.at_.es.map Lin.av) p.at_.cl,.bool p.dyn,.int .i64 p.check,.sl p.fn.nl (p.fn.es.map aH.av) p.fn.cl,.sl p.knl ((d++x::r).map aA.av) p.kcl] 9 true true false):=h1;simp only[KT,KS,h2,go_sem,seval];refine aC (hx) ?_;simp only[cW hb,o8,go_sem,seval];exact h0
theorem c41(hf:pg.fs 41=some OP)(h42:pg.fs 42=some KP)(h56:pg.fs 56=some HH)(h26:pg.fs 26=some KX):∀p:aA,p.ok->Ret pg 41 [p.av] (.bool (qO p)):=by
 refine aA.ind' λp ih hp=>?_;obtain⟨hb,hk⟩:=(aA.ok_iff p).1 hp;have a1:=c42 h42 h56 ⟨⟨[],by decide⟩,p.at_⟩;have a2:=c26 h26 p.fn.nl p.fn.cl p.fn.es p.fn.ok;rw[bP.avc]at a1;refine Ret.ofX hf ?_;unfold OP;refine Wk ?_;refine fP p.kids (λd e=>eN e (some 3) (.int .i64 d.length)) (λd r hp=>hp.get 1=some (0,.blk (nA p p.kids) 9 true true false)/\p.kids.all qO=r.all qO) rfl ?_ ?_ ?_;exact⟨by simp only[go_sem,seval];rfl,rfl⟩
 ·rintro hp ⟨h1,hI⟩;simp only[nA]at h1
  repeat' (first|simp only[KR,KQ, *,go_sem,seval]|refine bW (λ_=>?_) (λ_=>?_)|refine bX (λ_=>?_) (λ_=>?_)|(refine aC a1 ?_)|(refine aC a2 ?_)|refine bI ?_)
  all_goals (clear h1 a1 a2 hf h42 h56 h26 ih)
  all_goals (rw[GS,hI])
  all_goals (simp_all)
  all_goals (try (intros;omega))
 rintro d x r hp hes ⟨h1,hI⟩;have hx:=ih x (by rw[hes];simp) (hk x (by rw[hes];simp));have hI2:=hI;rw[hes]at hb hI h1;have h0:=h1;simp only[nA]at h1;rw[hes];have hx':=hx;rw[aA.avc]at hx';simp only[KR,KQ,h1,go_sem,seval]
 first|refine aC hx ?_|refine aC hx' ?_
 cases hd:qO x;refine Wk ?_;rw[GS,hI2,List.all_cons,hd];rfl;simp only[cW hb,go_sem,seval];exact⟨h0,by rw[hI,List.all_cons,hd];rfl⟩
theorem c25(hf:pg.fs 25=some R9)(h40:pg.fs 40=some KU)(h41:pg.fs 41=some OP)(h42:pg.fs 42=some KP)(h56:pg.fs 56=some HH)(h26:pg.fs 26=some KX)(p:aA)(hp:p.ok):Ret pg 25 [p.av] (.bool (YQ p)):=by
 have a1:=c40 h40 p hp;have a2:=c41 h41 h42 h56 h26 p hp;rw[aA.avc]at a1 a2;refine Ret.ofX hf ?_;unfold R9
 repeat' (first|simp only[*,go_sem,seval]|refine bW (λ_=>?_) (λ_=>?_)|refine bX (λ_=>?_) (λ_=>?_)|(refine aC a1 ?_)|(refine aC a2 ?_)|refine bI ?_)
 all_goals (simp_all [YQ])
 all_goals (try (intros;omega))
end
end
section
def aDt(q:aX):List Int:=cX q.body++if decide (q.kind=3) then cX q.index++[q.source] else []
section
variable{pg:Pg}{kb:Nat}
end
section
variable{pg:Pg}
end
end
section
end
section
section
variable{pg:Pg}
end
end
end Go.Tev
