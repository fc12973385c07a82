import Derived.Test.YtdideofckfhnfaaGreatDoorPAS
set_option linter.all false
namespace Go.Tev
section
section
variable{pg:Pg}
end
end
section
end
section
section
variable{pg:Pg}
end
end
section
section
variable{pg:Pg}
end
end
section
def sD(l:Lin):Bool:=(l.ts.es.all λc => !decide (35<(c.v.bs.length:Int)))&&decide ((l.ts.es.length:Int)<=14)
def yW(s:bF):Bool:=(s.dims.es.all sD)&&(decide ((s.dims.es.length:Int)<=8)&&decide ((s.row.bs.length:Int)<=35))
def u4(l:List aE):Bool:=(l.all λs => !(decide (4<(s.args.es.length:Int))||decide (20<(s.op.bs.length:Int))))&&decide ((l.length:Int)<=10)
def lM(p:aA)(l:List aA):List AV:=
 [.str p.op.bs,.int .i64 p.num,.int .i64 p.value,.str p.name.bs,.sl p.at_.nl (p.at_.es.map Lin.av) p.at_.cl,.bool p.dyn,.int .i64 p.check,.sl p.fn.nl (p.fn.es.map aE.av) p.fn.cl,.sl p.knl (l.map aA.av) p.kcl]
mutual
def mL:aA->Bool
 |.mk op _ _ name at_ _ _ fn _ kids _=>sE kids&&(yW ⟨⟨[],by decide⟩,at_⟩&&u4 fn.es&&decide ((name.bs.length:Int)<=35)&&decide ((op.bs.length:Int)<=20))
def sE:List aA->Bool
 |[]=>true
 |p::r=>mL p&&sE r
end
theorem u3:∀l,sE l=l.all mL
 |[]=>by simp[sE]
 |p::r=>by simp[sE,u3 r]
theorem yX(p:aA):mL p=(p.kids.all mL&&(yW ⟨⟨[],by decide⟩,p.at_⟩&&u4 p.fn.es&&decide ((p.name.bs.length:Int)<=35)&&decide ((p.op.bs.length:Int)<=20))):=by cases p;rw[mL,u3];rfl
def HV(p:aA):Bool:=decide (kN p<=60)&&mL p
section
variable{pg:Pg}
theorem c56(hf:pg.fs 56=some zG)(l:Lin):Ret pg 56 [l.av] (.bool (sD l)):=by have hb:=l.ts.ok;refine Ret.ofX hf ?_;unfold zG;refine Wk ?_;refine cN l.ts.es (λd e=>cG e (some 3) (.int .i64 d.length)) (λd r hp=>hp.get 1=some (0,.blk [.int .i64 l.c,.sl l.ts.nl (l.ts.es.map aZ.av) l.ts.cl] 2 true true false)/\(l.ts.es.all λc => !decide (35<(c.v.bs.length:Int)))=(r.all λc => !decide (35<(c.v.bs.length:Int)))) rfl ?_ ?_ ?_;simp only[go_sem,seval];rintro hp ⟨h1,hI⟩;simp only[B9,B8,h1,go_sem,seval];simp[sD,hI];rintro d x r hp hes ⟨h1,hI⟩;rw[hes]at hb hI h1;have h0:=h1;rw[hes];simp only[B9,B8,h1,go_sem,seval];cases hd:decide (35<(x.v.bs.length:Int));simp only[bL hb,go_sem,seval];exact⟨h0,by simpa[hd] using hI⟩;refine Wk ?_;simp only[sD,hes,hI,List.all_cons,hd];rfl
theorem c42(hf:pg.fs 42=some CI)(h56:pg.fs 56=some zG)(s:bF):Ret pg 42 [s.av] (.bool (yW s)):=by
 have hb:=s.dims.ok;refine Ret.ofX hf ?_;unfold CI;refine Wk ?_;refine cN s.dims.es (λd e=>cG e (some 3) (.int .i64 d.length)) (λd r hp=>hp.get 1=some (0,.blk [.str s.row.bs,.sl s.dims.nl (s.dims.es.map Lin.av) s.dims.cl] 2 true true false)/\(s.dims.es.all sD)=(r.all sD)) rfl ?_ ?_ ?_;simp only[go_sem,seval]
 ·rintro hp ⟨h1,hI⟩
  repeat' (first|simp only[CH,CG,h1, *,go_sem,seval]|refine bC (λ_=>?_) (λ_=>?_)|refine bD (λ_=>?_) (λ_=>?_)|refine bP ?_)
  all_goals (simp_all [yW])
  all_goals (intro h;omega)
 rintro d x r hp hes ⟨h1,hI⟩;have hx:=c56 h56 x;rw[Lin.avc]at hx;rw[hes]at hb hI h1;have h0:=h1;rw[hes];simp only[CH,CG,h1,go_sem,seval];refine aC (hx) ?_;cases hd:sD x;refine Wk ?_;simp only[yW,hes,hI,List.all_cons,hd];rfl;simp only[bL hb,go_sem,seval];exact⟨h0,by simpa[hd] using hI⟩
theorem c26(hf:pg.fs 26=some CQ)(nl cl:Bool)(l:List aE)(hb:l.length<=big):Ret pg 26 [.sl nl (l.map aE.av) cl] (.bool (u4 l)):=by
 refine Ret.ofX hf ?_;unfold CQ;refine Wk ?_;refine cN l (λd e=>cG e (some 3) (.int .i64 d.length)) (λd r hp=>(l.all λs => !(decide (4<(s.args.es.length:Int))||decide (20<(s.op.bs.length:Int))))=(r.all λs => !(decide (4<(s.args.es.length:Int))||decide (20<(s.op.bs.length:Int))))) rfl ?_ ?_ ?_;rfl
 ·rintro hp hI
  repeat' (first|simp only[CP,CO, *,go_sem,seval]|refine bC (λ_=>?_) (λ_=>?_)|refine bD (λ_=>?_) (λ_=>?_)|refine bP ?_)
  all_goals (simp_all [u4])
 rintro d x r hp hes hI;rw[hes]at hb hI;rw[hes];simp only[CP,CO,go_sem,seval];cases hd:decide (4<(x.args.es.length:Int));refine Wk ?_;cases hd2:decide (20<(x.op.bs.length:Int));simp only[bL hb,go_sem,seval];simpa[hd,hd2] using hI;refine Wk ?_;simp only[u4,hes,hI,List.all_cons,hd,hd2];rfl;refine Wk ?_;simp only[u4,hes,hI,List.all_cons,hd];rfl
theorem c40(hf:pg.fs 40=some CN):∀p:aA,p.ok->Ret pg 40 [p.av] (.int .i64 (kN p)):=by refine aA.ind' λp ih hp=>?_;obtain⟨hb,hk⟩:=(aA.ok_iff p).1 hp;refine Ret.ofX hf ?_;unfold CN;refine Wk ?_;refine cN p.kids (λd e=>cG (cG e (some 4) (.int .i64 d.length)) (some 3) (.int .i64 (jI 1 d))) (λd r hp=>hp.get 1=some (0,.blk p.cells 9 true true false)) (by simp only[jI];rfl) ?_ ?_ ?_;refine Wk ?_;rfl;rintro hp h1;simp only[aA.cells,Sl.av,aA.kav]at h1;simp only[CM,CL,h1,go_sem,seval];exact(uK p).symm;rintro d x r hp hes h1;have h0:=h1;simp only[aA.cells,Sl.av,aA.kav]at h1;have hx:=ih x (by rw[hes];simp) (hk x (by rw[hes];simp));rw[hes]at hb h1;rw[hes];have h2:hp.get 1=some (0,.blk [.str p.op.bs,.int .i64 p.num,.int .i64 p.value,.str p.name.bs,.sl p.at_.nl (p.at_.es.map Lin.av) p.at_.cl,.bool p.dyn,.int .i64 p.check,.sl p.fn.nl (p.fn.es.map aE.av) p.fn.cl,.sl p.knl ((d++x::r).map aA.av) p.kcl] 9 true true false):=h1;simp only[CM,CL,h2,go_sem,seval];refine aC (hx) ?_;simp only[bL hb,lN,go_sem,seval];exact h0
theorem c41(hf:pg.fs 41=some FO)(h42:pg.fs 42=some CI)(h56:pg.fs 56=some zG)(h26:pg.fs 26=some CQ):∀p:aA,p.ok->Ret pg 41 [p.av] (.bool (mL p)):=by
 refine aA.ind' λp ih hp=>?_;obtain⟨hb,hk⟩:=(aA.ok_iff p).1 hp;have a1:=c42 h42 h56 ⟨⟨[],by decide⟩,p.at_⟩;have a2:=c26 h26 p.fn.nl p.fn.cl p.fn.es p.fn.ok;rw[bF.avc]at a1;refine Ret.ofX hf ?_;unfold FO;refine Wk ?_;refine cN p.kids (λd e=>cG e (some 3) (.int .i64 d.length)) (λd r hp=>hp.get 1=some (0,.blk (lM p p.kids) 9 true true false)/\p.kids.all mL=r.all mL) rfl ?_ ?_ ?_;exact⟨by simp only[go_sem,seval];rfl,rfl⟩
 ·rintro hp ⟨h1,hI⟩;simp only[lM]at h1
  repeat' (first|simp only[CK,CJ, *,go_sem,seval]|refine bC (λ_=>?_) (λ_=>?_)|refine bD (λ_=>?_) (λ_=>?_)|(refine aC a1 ?_)|(refine aC a2 ?_)|refine bP ?_)
  all_goals (clear h1 a1 a2 hf h42 h56 h26 ih)
  all_goals (rw[yX,hI])
  all_goals (simp_all)
  all_goals (try (intros;omega))
 rintro d x r hp hes ⟨h1,hI⟩;have hx:=ih x (by rw[hes];simp) (hk x (by rw[hes];simp));have hI2:=hI;rw[hes]at hb hI h1;have h0:=h1;simp only[lM]at h1;rw[hes];have hx':=hx;rw[aA.avc]at hx';simp only[CK,CJ,h1,go_sem,seval]
 first|refine aC hx ?_|refine aC hx' ?_
 cases hd:mL x;refine Wk ?_;rw[yX,hI2,List.all_cons,hd];rfl;simp only[bL hb,go_sem,seval];exact⟨h0,by rw[hI,List.all_cons,hd];rfl⟩
theorem c25(hf:pg.fs 25=some I6)(h40:pg.fs 40=some CN)(h41:pg.fs 41=some FO)(h42:pg.fs 42=some CI)(h56:pg.fs 56=some zG)(h26:pg.fs 26=some CQ)(p:aA)(hp:p.ok):Ret pg 25 [p.av] (.bool (HV p)):=by
 have a1:=c40 h40 p hp;have a2:=c41 h41 h42 h56 h26 p hp;rw[aA.avc]at a1 a2;refine Ret.ofX hf ?_;unfold I6
 repeat' (first|simp only[*,go_sem,seval]|refine bC (λ_=>?_) (λ_=>?_)|refine bD (λ_=>?_) (λ_=>?_)|(refine aC a1 ?_)|(refine aC a2 ?_)|refine bP ?_)
 all_goals (simp_all [HV])
 all_goals (try (intros;omega))
end
end
section
def WI(q:aO):List Int:=iG q.body++if decide (q.kind=3) then iG q.index++[q.source] else []
section
variable{pg:Pg}{kb:Nat}
end
section
variable{pg:Pg}
end
end
section
end
section
section
variable{pg:Pg}
end
end
end Go.Tev
