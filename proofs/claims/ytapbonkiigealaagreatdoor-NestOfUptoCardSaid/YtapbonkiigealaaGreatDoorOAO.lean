import Derived.Test.YtapbonkiigealaaGreatDoorOAN
set_option linter.all false
section
namespace Go.Tev
def zeroP:Pull:=.mk ⟨[],by decide⟩ 0 0 ⟨[],by decide⟩ ⟨true,[],true,by decide⟩ false 0 ⟨true,[],true,by decide⟩ true [] true
section
variable {pg:Pg}
def loopStr (i:Nat):Str:=⟨loopN' i,by simp [loopN',big]⟩
end
end Go.Tev
end
section
namespace Go.Tev
end Go.Tev
end
section
namespace Go.Tev
theorem mapS_two' {h:Hp} {d:Nat} {a b b':AV} {keys:List Nat} (hb:Tev.snap (d+1) h b=some (b',keys)) (ha:a.tree=true):mapS (Tev.snap (d+1) h) [b,a]=some ([b',a],keys):=by
 rw [mapS_cons,hb,mapS_cons,snapX,if_pos ha,mapS_nil]
 simp
section
variable {pg:Pg}
end
end Go.Tev
end
section
namespace Go.Tev
section
variable {pg:Pg}
end
end Go.Tev
end
section
namespace Go.Tev
def few56 (l:Lin):Bool:=(l.ts.es.all fun c => !decide (35 < (c.v.bs.length:Int)))&&decide ((l.ts.es.length:Int)≤14)
def few42 (s:Shape):Bool:=(s.dims.es.all few56)&&(decide ((s.dims.es.length:Int)≤8)&&decide ((s.row.bs.length:Int)≤35))
def few26 (l:List Step):Bool:=(l.all fun s => !(decide (4 < (s.args.es.length:Int))||decide (20 < (s.op.bs.length:Int))))&&decide ((l.length:Int)≤10)
def kcell (k:Kernels) (l:List Kernel) (vs:List Typ):List AV:=
 [.sl k.vars.nl (k.vars.es.map Str.av) k.vars.cl,.sl k.wher.nl (k.wher.es.map Lin.av) k.wher.cl,.int .i64 k.inputs,.sl k.values.nl (vs.map Typ.av) k.values.cl,.sl k.list.nl (l.map Kernel.av) k.list.cl,.sl k.results.nl (k.results.es.map intA) k.results.cl]
def pcell (p:Pull) (l:List Pull):List AV:=
 [.str p.op.bs,.int .i64 p.num,.int .i64 p.value,.str p.name.bs,.sl p.at_.nl (p.at_.es.map Lin.av) p.at_.cl,.bool p.dyn,.int .i64 p.check,.sl p.fn.nl (p.fn.es.map Step.av) p.fn.cl,.sl p.knl (l.map Pull.av) p.kcl]
mutual
def few41:Pull→Bool
 | .mk op _ _ name at_ _ _ fn _ kids _=>few41s kids&&(few42 ⟨⟨[],by decide⟩,at_⟩&&few26 fn.es&&decide ((name.bs.length:Int)≤35)&&decide ((op.bs.length:Int)≤20))
def few41s:List Pull→Bool
 | []=>true
 | p :: r=>few41 p&&few41s r
end
theorem few41s_eq:∀ l,few41s l=l.all few41
 | []=>by simp [few41s]
 | p :: r=>by simp [few41s,few41s_eq r]
theorem few41_eq (p:Pull):few41 p=(p.kids.all few41&&(few42 ⟨⟨[],by decide⟩,p.at_⟩&&few26 p.fn.es&&decide ((p.name.bs.length:Int)≤35)&&decide ((p.op.bs.length:Int)≤20))):=by
 cases p;rw [few41,few41s_eq];rfl
def few25 (p:Pull):Bool:=decide (nodesU p≤60)&&few41 p
section
variable {pg:Pg}
theorem c56 (hf:pg.fs 56=some cf56) (l:Lin):Ret pg 56 [l.av] (.bool (few56 l)):=by
 have hb:=l.ts.ok
 refine Ret.ofX hf ?_
 unfold cf56
 simp only [go_sem,seval]
 refine XX_listU l.ts.es (fun d e=>setD e (some 3) (.int .i64 d.length)) (fun d r hp=>hp.get 1=some (0,.blk [.int .i64 l.c,.sl l.ts.nl (l.ts.es.map Coef.av) l.ts.cl] 2 true true false)∧(l.ts.es.all fun c => !decide (35 < (c.v.bs.length:Int)))=(r.all fun c => !decide (35 < (c.v.bs.length:Int)))) rfl ?_ ?_ ?_
 ·simp only [go_sem,seval]
 ·rintro hp ⟨h1,hI⟩
  simp only [cf56L0,cf56M0,h1,go_sem,seval]
  simp [few56,hI]
 ·rintro d x r hp hes ⟨h1,hI⟩
  rw [hes] at hb hI h1
  have h0:=h1
  rw [hes]
  simp only [cf56L0,cf56M0,h1,go_sem,seval]
  cases hd:decide (35 < (x.v.bs.length:Int))
  ·simp only [wr_mid hb,go_sem,seval]
   exact ⟨h0,by simpa [hd] using hI⟩
  ·simp only [go_sem,seval]
   simp only [few56,hes,hI,List.all_cons,hd]
   rfl
theorem c42 (hf:pg.fs 42=some cf42) (h56:pg.fs 56=some cf56) (s:Shape):Ret pg 42 [s.av] (.bool (few42 s)):=by
 have hb:=s.dims.ok
 refine Ret.ofX hf ?_
 unfold cf42
 simp only [go_sem,seval]
 refine XX_listU s.dims.es (fun d e=>setD e (some 3) (.int .i64 d.length)) (fun d r hp=>hp.get 1=some (0,.blk [.str s.row.bs,.sl s.dims.nl (s.dims.es.map Lin.av) s.dims.cl] 2 true true false)∧(s.dims.es.all few56)=(r.all few56)) rfl ?_ ?_ ?_
 ·simp only [go_sem,seval]
 ·rintro hp ⟨h1,hI⟩
  repeat' (first | simp only [cf42L0,cf42M0,h1, *,go_sem,seval] | refine XG_split (fun _=>?_) (fun _=>?_) | refine XC_split (fun _=>?_) (fun _=>?_) | refine And.intro (by kernel_rfl) ?_)
  all_goals (simp_all [few42])
  all_goals (intro h;omega)
 ·rintro d x r hp hes ⟨h1,hI⟩
  have hx:=c56 h56 x
  rw [Lin.avc] at hx
  rw [hes] at hb hI h1
  have h0:=h1
  rw [hes]
  simp only [cf42L0,cf42M0,h1,go_sem,seval]
  refine XO_tree (hx) (by simp only [go_sem,seval]) rfl ?_
  cases hd:few56 x
  ·simp only [go_sem,seval]
   simp only [few42,hes,hI,List.all_cons,hd]
   rfl
  ·simp only [wr_mid hb,go_sem,seval]
   exact ⟨h0,by simpa [hd] using hI⟩
theorem c26 (hf:pg.fs 26=some cf26) (nl cl:Bool) (l:List Step) (hb:l.length≤big):Ret pg 26 [.sl nl (l.map Step.av) cl] (.bool (few26 l)):=by
 refine Ret.ofX hf ?_
 unfold cf26
 simp only [go_sem,seval]
 refine XX_listU l (fun d e=>setD e (some 3) (.int .i64 d.length)) (fun d r hp=>(l.all fun s => !(decide (4 < (s.args.es.length:Int))||decide (20 < (s.op.bs.length:Int))))=(r.all fun s => !(decide (4 < (s.args.es.length:Int))||decide (20 < (s.op.bs.length:Int))))) rfl ?_ ?_ ?_
 ·rfl
 ·rintro hp hI
  repeat' (first | simp only [cf26L0,cf26M0, *,go_sem,seval] | refine XG_split (fun _=>?_) (fun _=>?_) | refine XC_split (fun _=>?_) (fun _=>?_) | refine And.intro (by kernel_rfl) ?_)
  all_goals (simp_all [few26])
 ·rintro d x r hp hes hI
  rw [hes] at hb hI
  rw [hes]
  simp only [cf26L0,cf26M0,go_sem,seval]
  cases hd:decide (4 < (x.args.es.length:Int))
  ·simp only [go_sem,seval]
   cases hd2:decide (20 < (x.op.bs.length:Int))
   ·simp only [wr_mid hb,go_sem,seval]
    simpa [hd,hd2] using hI
   ·simp only [go_sem,seval]
    simp only [few26,hes,hI,List.all_cons,hd,hd2]
    rfl
  ·simp only [go_sem,seval]
   simp only [few26,hes,hI,List.all_cons,hd]
   rfl
theorem c40 (hf:pg.fs 40=some cf40):∀ p:Pull,p.ok→Ret pg 40 [p.av] (.int .i64 (nodesU p)):=by
 refine Pull.ind' fun p ih hp=>?_
 obtain ⟨hb,hk⟩:=(Pull.ok_iff p).1 hp
 refine Ret.ofX hf ?_
 unfold cf40
 simp only [go_sem,seval]
 refine XX_listU p.kids (fun d e=>setD (setD e (some 4) (.int .i64 d.length)) (some 3) (.int .i64 (nodesL 1 d))) (fun d r hp=>hp.get 1=some (0,.blk p.cells 9 true true false)) (by simp only [nodesL];rfl) ?_ ?_ ?_
 ·simp only [go_sem,seval]
  rfl
 ·rintro hp h1
  simp only [Pull.cells,Sl.av,Pull.kav] at h1
  simp only [cf40L0,cf40M0,h1,go_sem,seval]
  exact (nodesU_eq p).symm
 ·rintro d x r hp hes h1
  have h0:=h1
  simp only [Pull.cells,Sl.av,Pull.kav] at h1
  have hx:=ih x (by rw [hes];simp) (hk x (by rw [hes];simp))
  rw [hes] at hb h1
  rw [hes]
  have h2:hp.get 1=some (0,.blk [.str p.op.bs,.int .i64 p.num,.int .i64 p.value,.str p.name.bs,.sl p.at_.nl (p.at_.es.map Lin.av) p.at_.cl,.bool p.dyn,.int .i64 p.check,.sl p.fn.nl (p.fn.es.map Step.av) p.fn.cl,.sl p.knl ((d++x :: r).map Pull.av) p.kcl] 9 true true false):=h1
  simp only [cf40L0,cf40M0,h2,go_sem,seval]
  refine XO_tree (hx) (by simp only [go_sem,seval]) rfl ?_
  simp only [wr_mid hb,nodesL_snoc,go_sem,seval]
  exact h0
theorem c41 (hf:pg.fs 41=some cf41) (h42:pg.fs 42=some cf42) (h56:pg.fs 56=some cf56) (h26:pg.fs 26=some cf26):∀ p:Pull,p.ok→Ret pg 41 [p.av] (.bool (few41 p)):=by
 refine Pull.ind' fun p ih hp=>?_
 obtain ⟨hb,hk⟩:=(Pull.ok_iff p).1 hp
 have a1:=c42 h42 h56 ⟨⟨[],by decide⟩,p.at_⟩
 have a2:=c26 h26 p.fn.nl p.fn.cl p.fn.es p.fn.ok
 rw [Shape.avc] at a1
 refine Ret.ofX hf ?_
 unfold cf41
 simp only [go_sem,seval]
 refine XX_listU p.kids (fun d e=>setD e (some 3) (.int .i64 d.length)) (fun d r hp=>hp.get 1=some (0,.blk (pcell p p.kids) 9 true true false)∧p.kids.all few41=r.all few41) rfl ?_ ?_ ?_
 ·exact ⟨by simp only [go_sem,seval];rfl,rfl⟩
 ·rintro hp ⟨h1,hI⟩
  simp only [pcell] at h1
  repeat' (first | simp only [cf41L0,cf41M0, *,go_sem,seval] | refine XG_split (fun _=>?_) (fun _=>?_) | refine XC_split (fun _=>?_) (fun _=>?_) | (refine XO_tree a1 (by simp only [go_sem,seval]) rfl ?_) | (refine XO_tree a2 (by simp only [go_sem,seval]) rfl ?_) | refine And.intro (by kernel_rfl) ?_)
  all_goals (clear h1 a1 a2 hf h42 h56 h26 ih)
  all_goals (rw [few41_eq,hI])
  all_goals (simp_all)
  all_goals (try (intros;omega))
 ·rintro d x r hp hes ⟨h1,hI⟩
  have hx:=ih x (by rw [hes];simp) (hk x (by rw [hes];simp))
  have hI2:=hI
  rw [hes] at hb hI h1
  have h0:=h1
  simp only [pcell] at h1
  rw [hes]
  have hx':=hx
  rw [Pull.avc] at hx'
  simp only [cf41L0,cf41M0,h1,go_sem,seval]
  first | refine XO_tree hx (by simp only [go_sem,seval]) rfl ?_ | refine XO_tree hx' (by simp only [go_sem,seval]) rfl ?_
  cases hd:few41 x
  ·simp only [go_sem,seval]
   rw [few41_eq,hI2,List.all_cons,hd]
   rfl
  ·simp only [wr_mid hb,go_sem,seval]
   exact ⟨h0,by rw [hI,List.all_cons,hd];rfl⟩
theorem c25 (hf:pg.fs 25=some cf25) (h40:pg.fs 40=some cf40) (h41:pg.fs 41=some cf41) (h42:pg.fs 42=some cf42) (h56:pg.fs 56=some cf56) (h26:pg.fs 26=some cf26) (p:Pull) (hp:p.ok):Ret pg 25 [p.av] (.bool (few25 p)):=by
 have a1:=c40 h40 p hp
 have a2:=c41 h41 h42 h56 h26 p hp
 rw [Pull.avc] at a1 a2
 refine Ret.ofX hf ?_
 unfold cf25
 repeat' (first | simp only [*,go_sem,seval] | refine XG_split (fun _=>?_) (fun _=>?_) | refine XC_split (fun _=>?_) (fun _=>?_) | (refine XO_tree a1 (by simp only [go_sem,seval]) rfl ?_) | (refine XO_tree a2 (by simp only [go_sem,seval]) rfl ?_) | refine And.intro (by kernel_rfl) ?_)
 all_goals (simp_all [few25])
 all_goals (try (intros;omega))
end
end Go.Tev
end
section
namespace Go.Tev
def readsK (q:Kernel):List Int:=readsV q.body++if decide (q.kind=3) then readsV q.index++[q.source] else []
section
variable {pg:Pg} {kb:Nat}
end
section
variable {pg:Pg}
end
end Go.Tev
end
section
namespace Go.Tev
abbrev Sp:=Int × Int
end Go.Tev
end
section
namespace Go.Tev
section
variable {pg:Pg}
end
end Go.Tev
end
