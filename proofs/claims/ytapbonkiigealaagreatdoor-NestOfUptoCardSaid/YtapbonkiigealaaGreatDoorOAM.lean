import Derived.Test.YtapbonkiigealaaGreatDoorOAL
import Derived.Test.YtapbonkiigealaaGreatDoorOAH
import Derived.Test.YtapbonkiigealaaGreatDoorOAI
import Derived.Lib.AtoiAll
set_option linter.all false
section
namespace Go.Tev
def sInt:List UInt8:=[105,110,116]
def sBool:List UInt8:=[98,111,111,108]
def sA:List UInt8:=[65]
structure Prim where
 op:List UInt8
 params:List (List UInt8)
 result:List UInt8
def primRows:List Prim:=[
 ⟨[97,100,100],[sInt,sInt],sInt⟩,⟨[115,117,98],[sInt,sInt],sInt⟩,⟨[109,117,108],[sInt,sInt],sInt⟩,⟨[100,105,118],[sInt,sInt],sInt⟩,⟨[109,111,100],[sInt,sInt],sInt⟩,
 ⟨[109,105,110],[sInt,sInt],sInt⟩,⟨[109,97,120],[sInt,sInt],sInt⟩,⟨[110,101,103],[sInt],sInt⟩,⟨[97,98,115],[sInt],sInt⟩,⟨[115,105,103,110],[sInt],sInt⟩,
 ⟨[108,116],[sInt,sInt],sBool⟩,⟨[108,101],[sInt,sInt],sBool⟩,⟨[103,116],[sInt,sInt],sBool⟩,⟨[103,101],[sInt,sInt],sBool⟩,⟨[101,113],[sA,sA],sBool⟩,⟨[110,101],[sA,sA],sBool⟩,
 ⟨[97,110,100],[sBool,sBool],sBool⟩,⟨[111,114],[sBool,sBool],sBool⟩,⟨[120,111,114],[sBool,sBool],sBool⟩,⟨[110,111,116],[sBool],sBool⟩,
 ⟨[115,101,108,101,99,116],[sBool,sA,sA],sA⟩,⟨[116,111,105,110,116],[sBool],sInt⟩]
def Prim.cells (r:Prim):List AV:=[.str r.op,.sl false (r.params.map .str) true,.str r.result]
def rowsAV:AV:=.agg (primRows.flatMap Prim.cells)
def primT (op:List UInt8):Option Prim:=primRows.find? fun r=>decide (r.op=op)
section
variable {pg:Pg}
theorem c107 (hf:pg.fs 107=some cf107) (nl cl:Bool) (es:List AV) (hel:∀ x∈es,El 1 false x) (hb:es.length≤big) (hnl:nl=true→es=[]):RetP pg 107 [.sl nl es cl] (IsSl 1 false es):=by
 refine RetP.ofX hf ?_
 unfold cf107
 simp only [go_sem,seval]
 cases nl
 ·simp only [go_sem,seval]
  refine XO_own (kb:=0) (s:=1) (bytes:=16) (es:=[]) (xs:=es) (Own.nil _ _ _ _ _ _ rfl) (by simp) hel ?_ (by decide) ?_
  ·simp only [List.length_nil,big] at *;omega
  ·intro v' rd pa ho hk hpa
   simp only [go_sem,seval]
   exact ho.conv (by simpa using hel)
 ·simp only [go_sem,seval]
  exact .inl ⟨hnl rfl,true,true,rfl,rfl⟩
theorem c177 (hf:pg.fs 177=some cf177):Ret pg 177 [] rowsAV:=
 Ret.closed (.n 177 cf177 .e .e) (by intro f cf h;have:=BT.All.find (p:=fun f cf=>pg.fs f=some cf) (t:=.n 177 cf177 .e .e) ⟨hf,trivial,trivial⟩ h;exact this) 2 (by kernel_rfl)
theorem row_at (d:List Prim) (x:Prim) (r:List Prim):partA ((d++x :: r).flatMap Prim.cells) (d.length*3) 3 true=some (.agg x.cells):=by
 have hl:∀ l:List Prim,(l.flatMap Prim.cells).length=l.length*3:=by
  intro l
  induction l with
  | nil=>rfl
  | cons y s ih=>simp [Prim.cells,ih];omega
 rw [partA_agg,if_pos (by rw [hl];simp;omega)]
 rw [List.flatMap_append,List.drop_append_of_le_length (by rw [hl];omega),List.drop_eq_nil_of_le (by rw [hl];omega),List.nil_append]
 rw [List.flatMap_cons]
 have:x.cells.length=3:=rfl
 rw [← this,List.take_left]
def PrimR (op:List UInt8) (r:AV):Prop:=
 match primT op with
 | none=>r = .tup [.sl true [] true,.str [],.bool false]
 | some p=>∃ nl cl,r = .tup [.sl nl (p.params.map .str) cl,.str p.result,.bool true]
theorem c140 (hf:pg.fs 140=some cf140) (h177:pg.fs 177=some cf177) (h107:pg.fs 107=some cf107) (op:List UInt8):RetP pg 140 [.str op] (PrimR op):=by
 refine RetP.ofX hf ?_
 unfold cf140
 simp only [go_sem,seval]
 refine XO_tree (c177 h177) (by simp only [go_sem,seval]) rfl ?_
 simp only [go_sem,seval]
 have h22:(22:Int)=primRows.length:=rfl
 refine XX_listU primRows (fun d e=>setD e (some 8) (.int .i64 d.length)) (fun d r hp=>primT op=r.find? fun x=>decide (x.op=op)) rfl ?_ ?_ ?_
 ·rfl
 ·intro hp hI
  simp only [cf140L0,cf140M0,← h22,go_sem,seval]
  simp [PrimR,hI]
 ·intro d x r hp hes hI
  have hlt:decide ((d.length:Int) < 22)=true:=by rw [h22,hes];exact ltMid d x r
  have hlt':((d.length:Int) < 22)=True:=by simpa using hlt
  have hpa:partA (primRows.flatMap Prim.cells) (d.length*3) 3 true=some (.agg x.cells):=by rw [hes];exact row_at d x r
  have hb:(d++x :: r).length≤big:=by rw [← hes];decide
  have hlt'':((d.length:Int) < ((22:Nat):Int))=True:=by simpa using hlt
  simp only [cf140L0,cf140M0,rowsAV,hlt,hlt',hlt'',hpa,Prim.cells,go_sem,seval]
  cases hx:decide (x.op=op)
  ·simp only [wr_mid hb,go_sem,seval]
   simpa [List.find?_cons,hx] using hI
  ·simp only [go_sem,seval]
   have hel:∀ y∈x.params.map AV.str,El 1 false y:=by
    intro y hy
    simp only [List.mem_map] at hy
    obtain ⟨z,_,rfl⟩:=hy
    exact El.str z
   have hI':primT op=some x:=by simpa [List.find?_cons,hx] using hI
   refine XO_slO' (c107 h107 false true (x.params.map .str) hel ?_ (by simp)) ?_ hel ?_ ?_
   ·have:∀ y∈primRows,y.params.length≤big:=by decide
    simpa using this x (by rw [hes];simp)
   ·simp only [treeL,tree_sl,Bool.and_true]
    exact treeL_map (f:=AV.str) (fun _=>rfl) x.params
   ·intro hnil nl cl _
    simp only [go_sem,seval]
    refine And.intro (by kernel_rfl) ?_
    simp only [PrimR,hI']
    exact ⟨nl,cl,by rw [hnil]⟩
   ·intro cs hcs hch
    simp only [go_sem,seval]
    refine And.intro (by kernel_rfl) ?_
    have htr:treeL (x.params.map AV.str)=true:=treeL_map (f:=AV.str) (fun _=>rfl) x.params
    have hms:∀ h,mapS (snap 62 h) (x.params.map AV.str)=some (x.params.map AV.str,[]):=fun h=>mapS_tree 61 h htr
    have hch':chunk 1 false x.params.length cs=some (x.params.map AV.str):=by simpa using hch
    simp only [hms,hch',PrimR,hI',conv,depth,snapX,mapS_nil,mapS_cons,go_sem,seval]
    exact ⟨false,_,rfl⟩
def elemOKi (n:Int):Bool:=decide (-2147483648≤n)&&decide (n≤2147483647)
def elemOKb (n:Int):Bool:=decide (n=0)||decide (n=1)
theorem c148i (hf:pg.fs 148=some cf148) (n:Int):Ret pg 148 [.str [105,110,116],.int .i64 n] (.bool (elemOKi n)):=by
 refine Ret.ofX hf ?_
 unfold cf148
 repeat' (first | simp only [*,go_sem,seval] | refine XG_split (fun _=>?_) (fun _=>?_) | refine XC_split (fun _=>?_) (fun _=>?_) | refine And.intro (by kernel_rfl) ?_)
 all_goals simp [elemOKi, *]
theorem c148b (hf:pg.fs 148=some cf148) (n:Int):Ret pg 148 [.str [98,111,111,108],.int .i64 n] (.bool (elemOKb n)):=by
 refine Ret.ofX hf ?_
 unfold cf148
 simp only [go_sem,seval]
 simp only [show decide (([98,111,111,108]:List UInt8)=[105,110,116])=false by decide]
 repeat' (first | simp only [*,go_sem,seval] | refine XG_split (fun _=>?_) (fun _=>?_) | refine XC_split (fun _=>?_) (fun _=>?_) | refine And.intro (by kernel_rfl) ?_)
 all_goals simp [elemOKb, *]
def argsOK (l:List Int) (n:Int):Bool:=l.all fun a=>decide (0≤a)&&decide (a < n)
def stepOK (s:Step) (n:Int):Bool:=
 if s.op.bs=[99,111,110,115,116] then decide ((s.args.es.length:Int)=0)&&elemOKi s.num
 else if s.op.bs=[116,114,117,116,104] then decide ((s.args.es.length:Int)=0)&&elemOKb s.num
 else match primT s.op.bs with
  | none=>false
  | some p=>argsOK s.args.es n&&decide (s.num=0)&&decide ((s.args.es.length:Int)=(p.params.length:Int))
theorem c111 (hf:pg.fs 111=some cf111) (h148:pg.fs 148=some cf148) (h140:∀ op,RetP pg 140 [.str op] (PrimR op)) (s:Step) (n:Int):Ret pg 111 [s.av,.int .i64 n] (.bool (stepOK s n)):=by
 refine Ret.ofX hf ?_
 have hb:=s.args.ok
 unfold cf111
 simp only [go_sem,seval]
 cases h1:decide (s.op.bs=[99,111,110,115,116])
 case true=>
  simp only [go_sem,seval]
  cases h2:decide ((s.args.es.length:Int)=0)
  ·simp only [h2,go_sem,seval]
   simp at h1 h2
   simp [stepOK,h1,h2]
  ·simp only [h2,go_sem,seval]
   refine XO_tree (c148i h148 s.num) (by simp only [go_sem,seval]) rfl ?_
   simp only [go_sem,seval]
   simp at h1 h2
   simp [stepOK,h1,h2]
 simp only [go_sem,seval]
 cases h3:decide (s.op.bs=[116,114,117,116,104])
 case true=>
  simp only [go_sem,seval]
  cases h2:decide ((s.args.es.length:Int)=0)
  ·simp only [h2,go_sem,seval]
   simp at h1 h2 h3
   simp [stepOK,h1,h2,h3]
  ·simp only [h2,go_sem,seval]
   refine XO_tree (c148b h148 s.num) (by simp only [go_sem,seval]) rfl ?_
   simp only [go_sem,seval]
   simp at h1 h2 h3
   simp [stepOK,h1,h2,h3]
 simp only [go_sem,seval]
 obtain ⟨r,hr,hP⟩:=h140 s.op.bs
 have hspec:stepOK s n=match primT s.op.bs with
  | none=>false
  | some p=>argsOK s.args.es n&&decide (s.num=0)&&decide ((s.args.es.length:Int)=(p.params.length:Int)):=by
  simp at h1 h3
  simp [stepOK,h1,h3]
 generalize stepOK s n=res at hspec ⊢
 obtain ⟨nl,cl,ps,rs,ok,rfl,hres⟩:∃ nl cl,∃ ps:List (List UInt8),∃ rs ok,r = .tup [.sl nl (ps.map .str) cl,.str rs,.bool ok]∧res=(ok&&argsOK s.args.es n&&decide (s.num=0)&&decide ((s.args.es.length:Int)=(ps.length:Int))):=by
  unfold PrimR at hP
  cases hp:primT s.op.bs with
  | none=>
   rw [hp] at hP hspec
   exact ⟨_,_,[],_,_,hP,by simp [hspec]⟩
  | some p=>
   rw [hp] at hP hspec
   obtain ⟨nl,cl,hP⟩:=hP
   exact ⟨_,_,p.params,_,_,hP,by simp [hspec]⟩
 refine XO_tree hr (by simp only [go_sem,seval]) rfl ?_
 simp only [go_sem,seval]
 refine XX_listU s.args.es (fun d e=>setD (setD e (some 44) (.int .i64 d.length)) (some 7) (.bool (ok&&argsOK d n))) (fun d r hp=>(∃ fz,hp.get 1=some (0,.blk [.str s.op.bs,.int .i64 s.num,.sl s.args.nl (s.args.es.map intA) s.args.cl] 3 true true fz)))
  (by have h0:(ok&&argsOK [] n)=ok:=by simp [argsOK]
      rw [h0];rfl) ?_ ?_ ?_
 ·exact ⟨_,rfl⟩
 ·rintro hp ⟨fz,h1⟩
  simp only [cf111L0,cf111M0,go_sem,seval]
  cases h4:ok&&argsOK s.args.es n
  ·simp only [h4,h1,go_sem,seval]
   simp [hres,h4]
  cases h5:decide (s.num=0)
  ·simp only [h1,h5,go_sem,seval]
   simp [hres,h4,h5]
  simp only [h1,h5,go_sem,seval]
  simp [hres,h4,h5]
 ·rintro d x r hp hes ⟨fz,h1⟩
  rw [hes] at hb h1 ⊢
  have hx:(ok&&argsOK (d++[x]) n)=((ok&&argsOK d n)&&(decide (0≤x)&&decide (x < n))):=by simp [argsOK,Bool.and_assoc]
  rw [hx]
  cases hA:(ok&&argsOK d n)<;>cases hB:decide (0≤x)<;>cases hC:decide (x < n)
  all_goals simp only [cf111L0,cf111M0,hA,hB,hC,wr_mid hb,go_sem,seval]
  all_goals exact ⟨fz,h1⟩
end
end Go.Tev
end
section
namespace Go.Tev
section
variable {pg:Pg}
theorem c205 (hf:pg.fs 205=some cf205) (nl cl:Bool) (es:List Lin) (hb:es.length≤big) (g:Nat) (cs:List AV) (hcs:treeL cs=true) (p:Lin→Bool) (hp:∀ x∈es,Ret pg g (x.av :: cs) (.bool (p x))) :
  RetP pg 205 [.sl nl (es.map Lin.av) cl,.fn g cs] (fun r=>∃ i:Int,r = .int .i64 i∧decide (0≤i)=es.any p):=
 idxF_ok (f:=205) (esz:=2) (ag:=true) hf Lin.av (fun _=>by simp only [go_sem,seval]) (fun _=>by simp only [go_sem,seval]) nl cl es hb g cs hcs p hp
theorem c175 (hf:pg.fs 175=some cf175) (h205:pg.fs 205=some cf205) (nl cl:Bool) (es:List Lin) (hb:es.length≤big) (g:Nat) (cs:List AV) (hcs:treeL cs=true) (p:Lin→Bool) (hp:∀ x∈es,Ret pg g (x.av :: cs) (.bool (p x))) :
  Ret pg 175 [.sl nl (es.map Lin.av) cl,.fn g cs] (.bool (es.any p)):=
 conF_ok (n:=205) hf (by simp only [treeL,tree_sl,tree_fn,hcs,Lin.treeL_av,Bool.and_true]) (c205 h205 nl cl es hb g cs hcs p hp)
end
end Go.Tev
end
section
namespace Go.Tev
def stepsOK (n:Int):List Step→Bool
 | []=>true
 | s :: r=>stepOK s n&&stepsOK (n+1) r
def codeOK (fn:List Step) (n:Int):Bool:=decide (0≤n)&&decide (n≤20)&&decide ((fn.length:Int)≤60) && !decide (n+fn.length=0)&&stepsOK n fn
def bareOK (p:Pull) (a b c d e f:Bool):Bool:=
 (a||decide (p.num=0))&&(b||decide (p.value=0))&&(c||decide (p.name.bs=[]))&&(d||decide ((p.at_.es.length:Int)=0))&&(e || !p.dyn&&decide (p.check=0))&&(f||decide ((p.fn.es.length:Int)=0))
def readOK (p:Pull) (values:Int):Bool:=
 bareOK p false true false true true false&&decide (0≤p.value)&&decide (p.value < values)&&decide (0≤p.check) &&
  (if p.dyn then decide ((p.at_.es.length:Int)≤5)&&decide ((p.kids.length:Int)=1) else decide ((p.at_.es.length:Int)≤6)&&decide ((p.kids.length:Int)=0)&&decide (p.check=0))
section
variable {pg:Pg}
theorem c70 (hf:pg.fs 70=some cf70) (h111:∀ (s:Step) (n:Int),Ret pg 111 [s.av,.int .i64 n] (.bool (stepOK s n))) (nl cl:Bool) (fn:List Step) (hb:fn.length≤big) (n:Int) :
  Ret pg 70 [.sl nl (fn.map Step.av) cl,.int .i64 n] (.bool (codeOK fn n)):=by
 refine Ret.ofX hf ?_
 unfold cf70
 simp only [go_sem,seval]
 cases h1:decide (n < 0)
 case true=>
  simp only [h1,go_sem,seval]
  simp at h1
  have:decide (0≤n)=false:=by simp;omega
  simp [codeOK,this]
 simp only [h1,go_sem,seval]
 cases h2:decide (20 < n)
 case true=>
  simp only [h2,go_sem,seval]
  simp at h2
  have:decide (n≤20)=false:=by simp;omega
  simp [codeOK,this]
 simp only [h2,go_sem,seval]
 cases h3:decide (60 < (fn.length:Int))
 case true=>
  simp only [h3,go_sem,seval]
  simp at h3
  have:decide ((fn.length:Int)≤60)=false:=by simp;omega
  simp [codeOK,this]
 simp only [decide_eq_false_iff_not] at h1 h2
 have hw:wr .i64 (n+fn.length)=n+fn.length:=by simp only [big] at hb;exact wr_small (by omega) (by omega)
 simp only [h3,hw,go_sem,seval]
 cases h4:decide (n+(fn.length:Int)=0)
 case true=>
  simp only [h4,go_sem,seval]
  simp [codeOK,h4]
 simp only [h4,go_sem,seval]
 have hspec:codeOK fn n=stepsOK n fn:=by
  simp only [decide_eq_false_iff_not] at h3
  have e1:decide (0≤n)=true:=by simp;omega
  have e2:decide (n≤20)=true:=by simp;omega
  have e3:decide ((fn.length:Int)≤60)=true:=by simp;omega
  simp [codeOK,h4,e1,e2,e3]
 rw [hspec]
 refine XX_listU fn (fun d e=>setD e (some 27) (.int .i64 d.length)) (fun d r hp=>stepsOK n fn=stepsOK (n+d.length) r) rfl ?_ ?_ ?_
 ·simp
 ·intro hp hI
  simp only [cf70L0,cf70M0,go_sem,seval]
  rw [hI];rfl
 ·intro d x r hp hes hI
  subst hes
  have hw:wr .i64 (n+d.length)=n+d.length:=by
   simp only [big,List.length_append,List.length_cons] at hb;exact wr_small (by omega) (by omega)
  simp only [cf70L0,cf70M0,go_sem,seval]
  rw [hw]
  refine XO_tree (h111 x _) (by simp only [go_sem,seval]) rfl ?_
  simp only [go_sem,seval]
  cases hx:stepOK x (n+d.length)
  ·simp only [go_sem,seval]
   rw [hI];simp [stepsOK,hx]
  ·simp only [wr_mid hb,go_sem,seval]
   rw [hI];simp [stepsOK,hx,Int.add_assoc]
theorem c206_read (hf:pg.fs 206=some cf206) (p:Pull):Ret pg 206 [p.av,.bool false,.bool true,.bool false,.bool true,.bool true,.bool false] (.bool (bareOK p false true false true true false)):=by
 refine Ret.ofX hf ?_
 unfold cf206
 repeat' (first | simp only [*,go_sem,seval] | refine XG_split (fun _=>?_) (fun _=>?_) | refine XC_split (fun _=>?_) (fun _=>?_) | refine And.intro (by kernel_rfl) ?_)
 all_goals (simp_all [bareOK])
theorem c206_const (hf:pg.fs 206=some cf206) (p:Pull):Ret pg 206 [p.av,.bool true,.bool false,.bool false,.bool false,.bool false,.bool false] (.bool (bareOK p true false false false false false)):=by
 refine Ret.ofX hf ?_
 unfold cf206
 repeat' (first | simp only [*,go_sem,seval] | refine XG_split (fun _=>?_) (fun _=>?_) | refine XC_split (fun _=>?_) (fun _=>?_) | refine And.intro (by kernel_rfl) ?_)
 all_goals (simp_all [bareOK])
theorem c206_lin (hf:pg.fs 206=some cf206) (p:Pull):Ret pg 206 [p.av,.bool false,.bool false,.bool false,.bool true,.bool false,.bool false] (.bool (bareOK p false false false true false false)):=by
 refine Ret.ofX hf ?_
 unfold cf206
 repeat' (first | simp only [*,go_sem,seval] | refine XG_split (fun _=>?_) (fun _=>?_) | refine XC_split (fun _=>?_) (fun _=>?_) | refine And.intro (by kernel_rfl) ?_)
 all_goals (simp_all [bareOK])
theorem c206_red (hf:pg.fs 206=some cf206) (p:Pull):Ret pg 206 [p.av,.bool false,.bool false,.bool true,.bool true,.bool false,.bool true] (.bool (bareOK p false false true true false true)):=by
 refine Ret.ofX hf ?_
 unfold cf206
 repeat' (first | simp only [*,go_sem,seval] | refine XG_split (fun _=>?_) (fun _=>?_) | refine XC_split (fun _=>?_) (fun _=>?_) | refine And.intro (by kernel_rfl) ?_)
 all_goals (simp_all [bareOK])
theorem c206_code (hf:pg.fs 206=some cf206) (p:Pull):Ret pg 206 [p.av,.bool false,.bool false,.bool false,.bool false,.bool false,.bool true] (.bool (bareOK p false false false false false true)):=by
 refine Ret.ofX hf ?_
 unfold cf206
 repeat' (first | simp only [*,go_sem,seval] | refine XG_split (fun _=>?_) (fun _=>?_) | refine XC_split (fun _=>?_) (fun _=>?_) | refine And.intro (by kernel_rfl) ?_)
 all_goals (simp_all [bareOK])
theorem c206_op (hf:pg.fs 206=some cf206) (p:Pull):Ret pg 206 [p.av,.bool false,.bool false,.bool false,.bool false,.bool false,.bool false] (.bool (bareOK p false false false false false false)):=by
 refine Ret.ofX hf ?_
 unfold cf206
 repeat' (first | simp only [*,go_sem,seval] | refine XG_split (fun _=>?_) (fun _=>?_) | refine XC_split (fun _=>?_) (fun _=>?_) | refine And.intro (by kernel_rfl) ?_)
 all_goals (simp_all [bareOK])
theorem c207 (hf:pg.fs 207=some cf207) (h206:pg.fs 206=some cf206) (p:Pull) (hp:p.kids.length≤big) (v:Int) :
  Ret pg 207 [p.av,.int .i64 v] (.bool (readOK p v)):=by
 have h6:=c206_read h206 p
 rw [Pull.avc] at h6
 refine Ret.ofX hf ?_
 unfold cf207
 clear h206
 repeat' (first | simp only [*,go_sem,seval] | refine XG_split (fun _=>?_) (fun _=>?_) | refine XC_split (fun _=>?_) (fun _=>?_) | (refine XO_tree h6 (by simp only [go_sem,seval]) rfl ?_) | refine And.intro (by kernel_rfl) ?_)
 all_goals (clear h6)
 all_goals (simp_all [readOK])
 all_goals (try omega)
end
end Go.Tev
end
section
namespace Go.Tev
mutual
theorem Pull.ind' {P:Pull→Prop} (h:∀ p:Pull,(∀ q∈p.kids,P q)→P p):∀ p,P p
 | .mk op num value name at_ dyn check fn knl kids kcl=>h _ (Pull.inds h kids)
theorem Pull.inds {P:Pull→Prop} (h:∀ p:Pull,(∀ q∈p.kids,P q)→P p):∀ l:List Pull,∀ q∈l,P q
 | []=>by simp
 | x :: r=>List.forall_mem_cons.2 ⟨Pull.ind' h x,Pull.inds h r⟩
end
mutual
def nodesU:Pull→Int
 | .mk _ _ _ _ _ _ _ _ _ kids _=>nodesL 1 kids
def nodesL (a:Int):List Pull→Int
 | []=>a
 | p :: r=>nodesL (wr .i64 (a+nodesU p)) r
end
theorem nodesU_eq (p:Pull):nodesU p=nodesL 1 p.kids:=by cases p;rw [nodesU];rfl
theorem nodesL_snoc:∀ (d:List Pull) (a:Int) (x:Pull),nodesL a (d++[x])=wr .i64 (nodesL a d+nodesU x)
 | [],a,x=>by simp [nodesL]
 | y :: d,a,x=>by simp only [List.cons_append,nodesL];exact nodesL_snoc d _ x
section
variable {pg:Pg}
theorem c146 (hf:pg.fs 146=some cf146):∀ p:Pull,p.ok→Ret pg 146 [p.av] (.int .i64 (nodesU p)):=by
 refine Pull.ind' fun p ih hp=>?_
 obtain ⟨hb,hk⟩:=(Pull.ok_iff p).1 hp
 refine Ret.ofX hf ?_
 unfold cf146
 simp only [go_sem,seval]
 refine XX_listU p.kids (fun d e=>setD (setD e (some 9) (.int .i64 d.length)) (some 3) (.int .i64 (nodesL 1 d))) (fun d r hp=>True) (by simp only [nodesL];rfl) trivial ?_ ?_
 ·rintro hp -
  simp only [cf146L0,cf146M0,go_sem,seval]
  exact (nodesU_eq p).symm
 ·rintro d x r hp hes -
  have hx:=ih x (by rw [hes];simp) (hk x (by rw [hes];simp))
  rw [hes] at hb
  rw [hes]
  rw [Pull.avc] at hx
  simp only [cf146L0,cf146M0,go_sem,seval]
  refine XO_tree (hx) (by simp only [go_sem,seval]) rfl ?_
  simp only [wr_mid hb,nodesL_snoc,go_sem,seval]
theorem c209 (hf:pg.fs 209=some cf209) (n:Nat) (h0:0 < n) (hb:n≤1073741824):RetP pg 209 [.sl true [] true,.int .i64 n] (IsSl 1 false []):=by
 refine RetP.ofX hf ?_
 have e1:decide ((n:Int) < 0)=false:=by simp
 have e2:decide ((0:Int) < n)=true:=by simp;omega
 have e3:wr .i64 (n:Int)=n:=wr_small (by omega) (by omega)
 have e4:wr .i64 (0:Int)=0:=rfl
 unfold cf209
 simp only [e1,optI,sliceA,Int.sub_zero,Int.sub_self,e3,e4,e2,Option.getD_none,go_sem,seval]
 have hz:XO pg 0 (.apz 1 false 16 [.str []]) 1 [] [.sl true [] true,.int .i64 (n:Int)]=fun Q _=>Q (.rf 1 0 0 n n) (.pat [1] [⟨1,0,.blk (List.replicate n [.str []]).flatten 1 false false false⟩]):=by
  funext Q t
  have hn:n ≠ 0:=by omega
  show WO pg 0 _ 1 [] _ Q=_
  rw [WO_op rfl]
  have ha:allOne [AV.str []]=true:=rfl
  have hb':(n:Int)≤1073741824:=by omega
  simp [op1F,f_apz,hb,hb',ha,appA,hn,optQ,unchunk,Hp.next,get_nil]
 rw [hz]
 simp only [optI,sliceA,Option.getD_none,Option.getD_some,go_sem,seval]
 simp only [XV,optQ,Option.getD_none,Option.getD_some,Option.isNone_none,Bool.or_true,Int.toNat_zero,Nat.sub_zero]
 rw [if_pos (by simp)]
 simp only [go_sem,seval]
 simp only [chunk,List.drop_zero,conv,depth,snapX,mapS_nil,mapS_cons,go_sem,seval]
 exact ⟨_,by simp,.inr rfl⟩
theorem El.strs (l:List Str):∀ x∈l.map Str.av,El 1 false x:=by
 intro x hx
 simp only [List.mem_map] at hx
 obtain ⟨y,_,rfl⟩:=hx
 exact ⟨rfl,rfl,rfl⟩
theorem c184 (hf:pg.fs 184=some cf184) (h209:pg.fs 209=some cf209) (nl cl:Bool) (vars:List Str) (s:Str) (hb:vars.length≤big) :
  RetP pg 184 [.sl false [.sl nl (vars.map Str.av) cl,.sl false [.str s.bs] true] true] (IsSl 1 false ((vars++[s]).map Str.av)):=by
 refine RetP.ofX hf ?_
 simp only [big] at hb
 have e1:wr .i64 (vars.length:Int)=vars.length:=wr_small (by omega) (by omega)
 have e2:wr .i64 ((vars.length:Int)+1)=((vars.length+1:Nat):Int):=by rw [wr_small (by omega) (by omega)];omega
 have e3:decide ((vars.length:Int) < 0)=false:=by simp
 have e4:decide ((((vars.length+1:Nat):Int)) < 0)=false:=by simp;omega
 have e5:wr .i64 1=1:=rfl
 have e6:wr .i64 2=2:=rfl
 have e7:((1:Int).toNat)=1:=rfl
 have e8:(((2:Nat):Int))=2:=rfl
 have e13:(((1:Nat):Int))=1:=rfl
 have e9:decide ((0:Int) < 2)=true:=rfl
 have e10:decide ((1:Int) < 2)=true:=rfl
 have e11:decide ((2:Int) < 2)=false:=rfl
 have e12:((0:Int)≤1)=True:=by simp
 unfold cf184
 simp only [go_sem,seval]
 rw [XX_loop]
 simp only [cf184L0,cf184M0,e1,e3,Int.zero_add,e5,e8,e9,go_sem,seval]
 rw [XX_loop]
 simp only [cf184L0,cf184M0,e13,e2,e4,e5,e6,e7,e8,e10,e12,Int.reduceAdd,go_sem,seval]
 rw [XX_loop]
 simp only [cf184L0,cf184M0,e8,e11,go_sem,seval]
 refine XO_slO (c209 h209 (vars.length+1) (by omega) (by omega)) (by simp only [go_sem,seval]) (by simp) ?_
 intro v rd pa ho hk hpa
 simp only [go_sem,seval]
 rw [XX_loop]
 simp only [cf184L1,cf184M1,e8,e9,go_sem,seval]
 have hcat:∀ v':AV,∀ hp:Hp,Own hp 5 1 false v' (vars.map Str.av++[.str s.bs])→∃ r,conv hp v'=some r∧IsSl 1 false ((vars++[s]).map Str.av) r:=by
  intro v' hp ho'
  have:=ho'.conv (by have:=El.strs (vars++[s]);simpa [Str.av] using this)
  simpa [Str.av] using this
 have hfin:∀ (v':AV) (hp:Hp),(Own hp 1 1 false v' (vars.map Str.av)∧vars=[])∨Own hp 5 1 false v' (vars.map Str.av) →
   ∀ (Q:AV→Eff→Prop) (t:Tok Q),(∀ v2 rd pa,Own (Eff.app hp (.pat rd pa)) 5 1 false v2 (vars.map Str.av++[.str s.bs])→Q v2 (.pat rd pa))→XO pg 0 (.app 1 false 16) 5 hp [v',.sl false [.str s.bs] true] Q t:=by
  intro v' hp hor Q t hq
  have hs:∀ x∈[AV.str s.bs],El 1 false x:=by intro x hx;simp at hx;subst hx;exact ⟨rfl,rfl,rfl⟩
  rcases hor with ⟨ho',hv⟩ | ho'
  ·exact XO_own2 (kb:=0) (s:=5) ho' (by decide) (El.strs vars) hs (by simp;omega) (by omega) (fun h=>by simp at h) (fun _ v2 rd pa h _=>hq v2 rd pa h)
  ·exact XO_own (kb:=0) (s:=5) ho' (El.strs vars) hs (by simp;omega) (by omega) (fun v2 rd pa h _ _=>hq v2 rd pa h)
 have hrest:∀ (v':AV) (hp:Hp),(Own hp 1 1 false v' (vars.map Str.av)∧vars=[])∨Own hp 5 1 false v' (vars.map Str.av)→∀ env:List AV,
   clear cf184M1 env=cf184E1 v' (.sl false [.sl nl (vars.map Str.av) cl,.sl false [.str s.bs] true] true) (.int .i64 2) (.int .i64 1) →
   XX pg 0 (.loop cf184L1 cf184M1) ⟨env,hp⟩ (blockQ 2 (thenQ (fun st'=>XX pg 0 ((C.reg [⟨some 35,.mov,[.t 6],none,0,0⟩,⟨some 2,.mov,[.t 35],none,0,0⟩] false).seq C.ret) st' (endP [Sum.inl 2] (IsSl 1 false ((vars++[s]).map Str.av))) ⟨⟩) (endP [Sum.inl 2] (IsSl 1 false ((vars++[s]).map Str.av))))) ⟨⟩:=by
  intro v' hp hor env henv
  rw [XX_loop,henv]
  simp only [cf184L1,cf184E1,e8,e10,e7,e12,go_sem,seval]
  refine hfin v' hp hor _ _ ?_
  intro v2 rd pa ho2
  simp only [e6,e5,go_sem,seval]
  rw [XX_loop]
  simp only [cf184L1,cf184M1,e8,e11,Int.reduceAdd,e6,go_sem,seval]
  exact hcat _ _ ho2
 refine XO_own2 (kb:=0) (s:=5) (k1:=1) ho (by decide) (by simp) (El.strs vars) (by simp;omega) (by omega) ?_ ?_
 ·intro hx rd
  have hv:vars=[]:=by simpa using hx
  simp only [e5,go_sem,seval]
  exact hrest v _ (.inl ⟨by rw [hv];exact ho,hv⟩) _ rfl
 ·intro _ v' rd' pa' ho' _
  simp only [e5,go_sem,seval]
  exact hrest v' _ (.inr (by simpa using ho')) _ rfl
end
end Go.Tev
end
section
namespace Go.Tev
def nodeOK (p:Pull) (vars:List Str) (values:Int):Bool:=
 if p.op.bs=[99,111,110,115,116] then bareOK p true false false false false false&&decide ((p.kids.length:Int)=0)&&elemOKi p.num
 else if p.op.bs=[108,105,110,101,97,114] then bareOK p false false false true false false&&decide ((p.kids.length:Int)=0)&&decide ((p.at_.es.length:Int)=1)
 else if p.op.bs=[114,101,97,100] then readOK p values
 else if p.op.bs=[105,102] then bareOK p false false false true false false&&decide ((p.kids.length:Int)=2)&&decide ((p.at_.es.length:Int)=1)
 else if p.op.bs=[114,101,100,117,99,101] then bareOK p false false true true false true&&decide ((p.kids.length:Int)=2)&&decide ((p.at_.es.length:Int)=1)&&nameU p.name.bs && !hasS vars p.name.bs&&codeOK p.fn.es 2
 else if p.op.bs=[99,111,100,101] then bareOK p false false false false false true&&codeOK p.fn.es p.kids.length
 else match primT p.op.bs with
  | none=>false
  | some q=>bareOK p false false false false false false&&decide ((p.kids.length:Int)=(q.params.length:Int))
section
variable {pg:Pg}
set_option maxHeartbeats 1000000 in
theorem c182 (hname:∀ s:Str,Ret pg 57 [.str s.bs] (.bool (nameU s.bs))) (hf:pg.fs 182=some cf182) (h206:pg.fs 206=some cf206) (h148:pg.fs 148=some cf148) (h207:pg.fs 207=some cf207) (h98:pg.fs 98=some cf98) (h138:pg.fs 138=some cf138)
  (h70:∀ (nl cl:Bool) (fn:List Step),fn.length≤big→∀ n:Int,Ret pg 70 [.sl nl (fn.map Step.av) cl,.int .i64 n] (.bool (codeOK fn n))) (h140:∀ op,RetP pg 140 [.str op] (PrimR op))
  (p:Pull) (hk:p.kids.length≤big) (nl cl:Bool) (vars:List Str) (hb:vars.length≤big) (v:Int):Ret pg 182 [p.av,.sl nl (vars.map Str.av) cl,.int .i64 v] (.bool (nodeOK p vars v)):=by
 have k1:=c206_const h206 p
 have k2:=c206_lin h206 p
 have k3:=c206_red h206 p
 have k4:=c206_code h206 p
 have k5:=c206_op h206 p
 have k6:=c207 h207 h206 p hk v
 have k7:=c148i h148 p.num
 have k8:=hname p.name
 have k9:Ret pg 98 [.sl nl (vars.map Str.av) cl,.str p.name.bs] (.bool (hasS vars p.name.bs)):=c98 h98 h138 nl cl vars hb p.name.bs
 have k10:=h70 p.fn.nl p.fn.cl p.fn.es p.fn.ok 2
 have k11:=h70 p.fn.nl p.fn.cl p.fn.es p.fn.ok p.kids.length
 rw [Pull.avc] at k1 k2 k3 k4 k5 k6
 refine Ret.ofX hf ?_
 clear h206 h148 h207 h98 h138 h70 hname
 unfold cf182
 simp only [go_sem,seval]
 cases o1:decide (p.op.bs=[99,111,110,115,116])
 case true=>
  clear h140
  repeat' (first | simp only [*,go_sem,seval] | refine XG_split (fun _=>?_) (fun _=>?_) | refine XC_split (fun _=>?_) (fun _=>?_) | (refine XO_tree k1 (by simp only [go_sem,seval]) rfl ?_) | (refine XO_tree k7 (by simp only [go_sem,seval]) rfl ?_) | refine And.intro (by kernel_rfl) ?_)
  all_goals (clear k1 k2 k3 k4 k5 k6 k7 k8 k9 k10 k11)
  all_goals (simp_all [nodeOK])
 simp only [go_sem,seval]
 cases o2:decide (p.op.bs=[108,105,110,101,97,114])
 case true=>
  clear h140
  repeat' (first | simp only [*,go_sem,seval] | refine XG_split (fun _=>?_) (fun _=>?_) | refine XC_split (fun _=>?_) (fun _=>?_) | (refine XO_tree k2 (by simp only [go_sem,seval]) rfl ?_) | refine And.intro (by kernel_rfl) ?_)
  all_goals (clear k1 k2 k3 k4 k5 k6 k7 k8 k9 k10 k11)
  all_goals (simp_all [nodeOK])
 simp only [go_sem,seval]
 cases o3:decide (p.op.bs=[114,101,97,100])
 case true=>
  clear h140
  repeat' (first | simp only [*,go_sem,seval] | refine XG_split (fun _=>?_) (fun _=>?_) | refine XC_split (fun _=>?_) (fun _=>?_) | (refine XO_tree k6 (by simp only [go_sem,seval]) rfl ?_) | refine And.intro (by kernel_rfl) ?_)
  all_goals (clear k1 k2 k3 k4 k5 k6 k7 k8 k9 k10 k11)
  all_goals (simp_all [nodeOK])
 simp only [go_sem,seval]
 cases o4:decide (p.op.bs=[105,102])
 case true=>
  clear h140
  repeat' (first | simp only [*,go_sem,seval] | refine XG_split (fun _=>?_) (fun _=>?_) | refine XC_split (fun _=>?_) (fun _=>?_) | (refine XO_tree k2 (by simp only [go_sem,seval]) rfl ?_) | refine And.intro (by kernel_rfl) ?_)
  all_goals (clear k1 k2 k3 k4 k5 k6 k7 k8 k9 k10 k11)
  all_goals (simp_all [nodeOK])
 simp only [go_sem,seval]
 cases o5:decide (p.op.bs=[114,101,100,117,99,101])
 case true=>
  clear h140
  repeat' (first | simp only [*,go_sem,seval] | refine XG_split (fun _=>?_) (fun _=>?_) | refine XC_split (fun _=>?_) (fun _=>?_) | (refine XO_tree k3 (by simp only [go_sem,seval]) rfl ?_) | (refine XO_tree k8 (by simp only [go_sem,seval]) rfl ?_) | (refine XO_tree k9 (by simp only [go_sem,seval]) rfl ?_) | (refine XO_tree k10 (by simp only [go_sem,seval]) rfl ?_) | refine And.intro (by kernel_rfl) ?_)
  all_goals (clear k1 k2 k3 k4 k5 k6 k7 k8 k9 k10 k11)
  all_goals (simp_all [nodeOK])
 simp only [go_sem,seval]
 cases o6:decide (p.op.bs=[99,111,100,101])
 case true=>
  clear h140
  repeat' (first | simp only [*,go_sem,seval] | refine XG_split (fun _=>?_) (fun _=>?_) | refine XC_split (fun _=>?_) (fun _=>?_) | (refine XO_tree k4 (by simp only [go_sem,seval]) rfl ?_) | (refine XO_tree k11 (by simp only [go_sem,seval]) rfl ?_) | refine And.intro (by kernel_rfl) ?_)
  all_goals (clear k1 k2 k3 k4 k5 k6 k7 k8 k9 k10 k11)
  all_goals (simp_all [nodeOK])
 obtain ⟨r,hr,hP⟩:=h140 p.op.bs
 clear h140
 have hspec:nodeOK p vars v=match primT p.op.bs with
  | none=>false
  | some q=>bareOK p false false false false false false&&decide ((p.kids.length:Int)=(q.params.length:Int)):=by
  simp at o1 o2 o3 o4 o5 o6
  simp [nodeOK,o1,o2,o3,o4,o5,o6]
 generalize nodeOK p vars v=res at hspec ⊢
 obtain ⟨nl',cl',ps,rs,ok,rfl,hres⟩:∃ nl cl,∃ ps:List (List UInt8),∃ rs ok,r = .tup [.sl nl (ps.map .str) cl,.str rs,.bool ok]∧res=(ok&&bareOK p false false false false false false&&decide ((p.kids.length:Int)=(ps.length:Int))):=by
  unfold PrimR at hP
  cases hp:primT p.op.bs with
  | none=>
   rw [hp] at hP hspec
   exact ⟨_,_,[],_,_,hP,by simp [hspec]⟩
  | some q=>
   rw [hp] at hP hspec
   obtain ⟨nl,cl,hP⟩:=hP
   exact ⟨_,_,q.params,_,_,hP,by simp [hspec]⟩
 clear hP hspec
 have htr:treeL (ps.map AV.str)=true:=treeL_map (f:=AV.str) (fun _=>rfl) ps
 repeat' (first | simp only [*,go_sem,seval] | refine XG_split (fun _=>?_) (fun _=>?_) | refine XC_split (fun _=>?_) (fun _=>?_) | (refine XO_tree hr (by simp only [go_sem,seval]) rfl ?_) | (refine XO_tree k5 (by simp only [go_sem,seval]) rfl ?_) | refine And.intro (by kernel_rfl) ?_)
 all_goals (clear k1 k2 k3 k4 k5 k6 k7 k8 k9 k10 k11 hr)
 all_goals (simp_all)
end
end Go.Tev
end
section
namespace Go.Tev
mutual
def Pull.sz:Pull→Nat
 | .mk _ _ _ _ _ _ _ _ _ kids _=>1+Pull.szL kids
def Pull.szL:List Pull→Nat
 | []=>0
 | p :: r=>p.sz+Pull.szL r
end
theorem Pull.sz_eq (p:Pull):p.sz=1+Pull.szL p.kids:=by cases p;rw [Pull.sz];rfl
theorem Pull.szL_mem:∀ {l:List Pull} {q:Pull},q∈l→q.sz≤Pull.szL l
 | x :: r,q,h=>by
  rcases List.mem_cons.1 h with rfl | h
  ·rw [Pull.szL];omega
  ·have:=Pull.szL_mem h;rw [Pull.szL];omega
mutual
def validU (values:Int):Pull→List Str→Bool
 | .mk op num value name at_ dyn check fn knl kids kcl,vars=>
  nodeOK (.mk op num value name at_ dyn check fn knl kids kcl) vars values&&overOK at_.es vars&&validKs values (decide (op.bs=[114,101,100,117,99,101])) name vars 0 kids
def validKs (values:Int) (red:Bool) (name:Str) (vars:List Str):Nat→List Pull→Bool
 | _,[]=>true
 | i,k :: r=>validU values k (if red&&decide ((i:Int)=1) then vars++[name] else vars)&&validKs values red name vars (i+1) r
end
theorem validU_eq (values:Int) (p:Pull) (vars:List Str):validU values p vars=(nodeOK p vars values&&overOK p.at_.es vars&&validKs values (decide (p.op.bs=[114,101,100,117,99,101])) p.name vars 0 p.kids):=by
 cases p;rw [validU];rfl
theorem Own.snap {h:Hp} {k0 esz:Nat} {ag:Bool} {v:AV} {es:List AV} (o:Own h k0 esz ag v es) (he:∀ x∈es,El esz ag x) (d:Nat):∃ nl cl keys,Tev.snap (d+2) h v=some (.sl nl es cl,keys)∧(nl=true→es=[]):=by
 rcases o with ⟨rfl,nl,cl,rfl,hc⟩ | ⟨e,cs,rfl,hg,hu⟩
 ·exact ⟨nl,cl,[],by rw [snapX];rfl,fun _=>rfl⟩
 ·obtain ⟨cs',h1,h2,h3,h4⟩:=chunk_el he
  rw [hu] at h1;cases h1
  have h5:=h4 []
  rw [List.append_nil] at h5
  have ht:treeL es=true:=by
   clear h2 h4 h5 hu hg
   induction es with
   | nil=>rfl
   | cons x r ih=>simp only [treeL,Bool.and_eq_true];exact ⟨(he x (by simp)).tree,ih (fun y hy=>he y (List.mem_cons_of_mem _ hy))⟩
  have h6:mapS (Tev.snap (d+1) h) es=some (es,[]):=mapS_tree d h ht
  exact ⟨false,false,[k0],by rw [snapX];simp [hg,h5,h6,AV.tree],fun h=>by cases h⟩
theorem snap_tr {h:Hp} {d:Nat} {a:AV} (ha:a.tree=true):Tev.snap (d+1) h a=some (a,[]):=by rw [snapX,if_pos ha]
theorem mapS_three {h:Hp} {d:Nat} {a b c b':AV} {keys:List Nat} (ha:a.tree=true) (hb:Tev.snap (d+1) h b=some (b',keys)) (hc:c.tree=true):mapS (Tev.snap (d+1) h) [a,b,c]=some ([a,b',c],keys):=by
 simp [mapS_cons,mapS_nil,snap_tr ha,snap_tr hc,hb]
section
variable {pg:Pg}
theorem c147 (hf:pg.fs 147=some cf147) (h182:∀ (p:Pull),p.kids.length≤big→∀ (nl cl:Bool) (vars:List Str),vars.length≤big→∀ v:Int,Ret pg 182 [p.av,.sl nl (vars.map Str.av) cl,.int .i64 v] (.bool (nodeOK p vars v)))
  (h183:∀ (nl cl:Bool) (ls:List Lin),ls.length≤big→∀ (nl' cl':Bool) (vars:List Str),vars.length≤big→Ret pg 183 [.sl nl (ls.map Lin.av) cl,.sl nl' (vars.map Str.av) cl'] (.bool (overOK ls vars)))
  (h184:pg.fs 184=some cf184) (h209:pg.fs 209=some cf209) (v:Int) :
  ∀ p:Pull,p.ok→∀ (nl cl:Bool) (vars:List Str),vars.length+p.sz≤big→Ret pg 147 [p.av,.sl nl (vars.map Str.av) cl,.int .i64 v] (.bool (validU v p vars)):=by
 refine Pull.ind' fun p ih hp nl cl vars hb=>?_
 obtain ⟨hk,hks⟩:=(Pull.ok_iff p).1 hp
 have hsz:=Pull.sz_eq p
 have a1:=h182 p hk nl cl vars (by omega) v
 have a2:=h183 p.at_.nl p.at_.cl p.at_.es p.at_.ok nl cl vars (by omega)
 rw [Pull.avc] at a1
 clear h182 h183
 refine Ret.ofX hf ?_
 unfold cf147
 simp only [go_sem,seval]
 refine XO_tree (a1) (by simp only [go_sem,seval]) rfl ?_
 simp only [go_sem,seval]
 cases b1:nodeOK p vars v
 ·simp only [go_sem,seval]
  rw [validU_eq,b1];rfl
 simp only [go_sem,seval]
 refine XO_tree (a2) (by simp only [go_sem,seval]) rfl ?_
 simp only [go_sem,seval]
 cases b2:overOK p.at_.es vars
 ·simp only [go_sem,seval]
  rw [validU_eq,b1,b2];rfl
 simp only [go_sem,seval]
 generalize hred:decide (p.op.bs=[114,101,100,117,99,101])=red
 have hspec:validU v p vars=validKs v red p.name vars 0 p.kids:=by rw [validU_eq,b1,b2,hred];rfl
 rw [hspec]
 refine XX_listU p.kids (fun d e=>setD e (some 25) (.int .i64 d.length)) (fun d r hp=>hp.get 1=some (0,.blk [.str p.op.bs,.int .i64 p.num,.int .i64 p.value,.str p.name.bs,.sl p.at_.nl (p.at_.es.map Lin.av) p.at_.cl,.bool p.dyn,.int .i64 p.check,.sl p.fn.nl (p.fn.es.map Step.av) p.fn.cl,.sl p.knl (p.kids.map Pull.av) p.kcl] 9 true true false)∧validKs v red p.name vars 0 p.kids=validKs v red p.name vars d.length r) rfl ?_ ?_ ?_
 ·exact ⟨rfl,rfl⟩
 ·rintro hp ⟨h1,hI⟩
  simp only [cf147L0,cf147M0,go_sem,seval]
  rw [hI];rfl
 ·rintro d x r hp hes ⟨h1,hI⟩
  have hxm:x∈p.kids:=by rw [hes];simp
  have hxs:x.sz≤Pull.szL p.kids:=Pull.szL_mem hxm
  have hx:=ih x hxm (hks x hxm)
  simp only [validKs] at hI
  have hb2:(d++x :: r).length≤big:=by rw [← hes];exact hk
  have hlast:∀ own:List Str,∀ hp2:Hp,hp2.get 1=hp.get 1→validU v x own=validU v x (if red&&decide ((d.length:Int)=1) then vars++[p.name] else vars)→True:=fun _ _ _ _=>trivial
  have h0:=h1
  rw [hes] at h1 ⊢
  simp only [cf147L0,cf147M0,h1,hred,go_sem,seval]
  cases c1:red
  ·simp only [go_sem,seval]
   have hx1:=hx nl cl vars (by omega)
   rw [Pull.avc] at hx1
   refine XO_tree (hx1) (by simp only [go_sem,seval]) rfl ?_
   rw [c1] at hI
   simp only [go_sem,seval]
   cases b3:validU v x vars
   ·simp only [go_sem,seval]
    rw [← hes,hI];simp [b3]
   ·simp only [wr_mid hb2,go_sem,seval]
    rw [← hes]
    exact ⟨h0,by simpa [b3] using hI⟩
  simp only [go_sem,seval]
  cases c2:decide ((d.length:Int)=1)
  ·simp only [c2,go_sem,seval]
   have hx1:=hx nl cl vars (by omega)
   rw [Pull.avc] at hx1
   refine XO_tree (hx1) (by simp only [go_sem,seval]) rfl ?_
   rw [c1,c2] at hI
   simp only [go_sem,seval]
   cases b3:validU v x vars
   ·simp only [go_sem,seval]
    rw [← hes,hI];simp [b3]
   ·simp only [wr_mid hb2,go_sem,seval]
    rw [← hes]
    exact ⟨h0,by simpa [b3] using hI⟩
  ·simp only [c2,h1,go_sem,seval]
   refine XO_slO (c184 h184 h209 nl cl vars p.name (by omega)) (by simp only [go_sem,seval]) (El.strs (vars++[p.name])) ?_
   intro v' rd pa ho hkk hpa
   simp only [hkk,go_sem,seval]
   obtain ⟨nl2,cl2,keys,hsn,hnl⟩:=ho.snap (El.strs (vars++[p.name])) 62
   have hx2:=hx nl2 cl2 (vars++[p.name]) (by simp;omega)
   rw [Pull.avc] at hx2
   refine XO_call hx2 (mapS_three (by simp only [go_sem,seval]) hsn (by simp only [go_sem,seval])) (v:=.bool (validU v x (vars++[p.name]))) (pa:=[]) rfl ?_
   rw [c1,c2] at hI
   simp only [hkk,go_sem,seval]
   cases b3:validU v x (vars++[p.name])
   ·simp only [go_sem,seval]
    rw [← hes,hI];simp [b3]
   ·simp only [wr_mid hb2,hkk,go_sem,seval]
    rw [← hes]
    exact ⟨h0,by simpa [b3] using hI⟩
def pullOK (p:Pull) (vars:List Str) (v:Int):Bool:=decide (nodesU p≤4000)&&validU v p vars
theorem c109 (hf:pg.fs 109=some cf109) (h146:pg.fs 146=some cf146) (h147:∀ p:Pull,p.ok→∀ (nl cl:Bool) (vars:List Str),vars.length+p.sz≤big→∀ v:Int,Ret pg 147 [p.av,.sl nl (vars.map Str.av) cl,.int .i64 v] (.bool (validU v p vars)))
  (p:Pull) (hp:p.ok) (nl cl:Bool) (vars:List Str) (hb:vars.length+p.sz≤big) (v:Int):Ret pg 109 [p.av,.sl nl (vars.map Str.av) cl,.int .i64 v] (.bool (pullOK p vars v)):=by
 have a1:=c146 h146 p hp
 have a2:=h147 p hp nl cl vars hb v
 rw [Pull.avc] at a1 a2
 refine Ret.ofX hf ?_
 clear h146 h147
 unfold cf109
 repeat' (first | simp only [*,go_sem,seval] | refine XG_split (fun _=>?_) (fun _=>?_) | refine XC_split (fun _=>?_) (fun _=>?_) | (refine XO_tree a1 (by simp only [go_sem,seval]) rfl ?_) | (refine XO_tree a2 (by simp only [go_sem,seval]) rfl ?_) | refine And.intro (by kernel_rfl) ?_)
 all_goals (clear a1 a2)
 all_goals (simp_all [pullOK])
 all_goals (intro h;exfalso;omega)
def stepEq (a b:Step):Bool:=decide (a.op.bs=b.op.bs)&&decide (a.num=b.num)&&eqL (fun x y=>decide (x=y)) a.args.es b.args.es
mutual
def pullEq:Pull→Pull→Bool
 | .mk op num value name at_ dyn check fn knl kids kcl,q=>
  decide (op.bs=q.op.bs)&&decide (num=q.num)&&decide (value=q.value)&&decide (name.bs=q.name.bs)&&(dyn == q.dyn)&&decide (check=q.check)&&eqL linEq at_.es q.at_.es&&eqL stepEq fn.es q.fn.es&&pullEqs kids q.kids
def pullEqs:List Pull→List Pull→Bool
 | [],l=>l.isEmpty
 | p :: r,l=>match l with | []=>false | q :: s=>pullEq p q&&pullEqs r s
end
theorem pullEq_eq (p q:Pull):pullEq p q=(decide (p.op.bs=q.op.bs)&&decide (p.num=q.num)&&decide (p.value=q.value)&&decide (p.name.bs=q.name.bs)&&(p.dyn == q.dyn)&&decide (p.check=q.check)&&eqL linEq p.at_.es q.at_.es&&eqL stepEq p.fn.es q.fn.es&&pullEqs p.kids q.kids):=by
 cases p;rw [pullEq];rfl
theorem pullEqs_eq:∀ a b:List Pull,pullEqs a b=eqL pullEq a b
 | [],[]=>by simp [pullEqs,eqL]
 | [],_ :: _=>by simp [pullEqs,eqL]
 | _ :: _,[]=>by simp [pullEqs,eqL]
 | p :: r,q :: s=>by simp [pullEqs,eqL,pullEqs_eq r s]
theorem c181 (hf:pg.fs 181=some cf181) (nl cl nl' cl':Bool) (es es':List Int) (hb:es.length≤big):Ret pg 181 [.sl nl (es.map intA) cl,.sl nl' (es'.map intA) cl'] (.bool (eqL (fun x y=>decide (x=y)) es es')):=
 eqV_ok (f:=181) (k:=.bin .neq) hf intA (fun _=>rfl) nl cl nl' cl' es es' hb _ (by intro kb s h x y Q t;simp only [go_sem,seval]) rfl
theorem c180 (hf:pg.fs 180=some cf180) (h181:pg.fs 181=some cf181) (a b:Step):Ret pg 180 [a.av,b.av] (.bool (stepEq a b)):=by
 have k:=c181 h181 a.args.nl a.args.cl b.args.nl b.args.cl a.args.es b.args.es a.args.ok
 refine Ret.ofX hf ?_
 unfold cf180
 repeat' (first | simp only [*,go_sem,seval] | refine XG_split (fun _=>?_) (fun _=>?_) | refine XC_split (fun _=>?_) (fun _=>?_) | (refine XO_tree k (by simp only [go_sem,seval]) rfl ?_) | refine And.intro (by kernel_rfl) ?_)
 all_goals (clear k)
 all_goals (simp_all [stepEq])
theorem c179 (hf:pg.fs 179=some cf179) (h180:∀ a b:Step,Ret pg 180 [a.av,b.av] (.bool (stepEq a b))) (nl cl nl' cl':Bool) (es es':List Step) (hb:es.length≤big) :
  Ret pg 179 [.sl nl (es.map Step.av) cl,.sl nl' (es'.map Step.av) cl',.fn 180 []] (.bool (eqL stepEq es es')):=
 eqF_ok (f:=179) (esz:=3) (ag:=true) rfl hf Step.av (fun x=>[.str x.op.bs,.int .i64 x.num,x.args.av intA]) (fun _=>rfl) (fun _=>rfl) (fun _=>rfl) rfl (fun x=>by simp only [go_sem,seval]) nl cl nl' cl' es es' hb 180 stepEq (fun x _ y _=>h180 x y)
theorem c144 (hf:pg.fs 144=some cf144) (h179:∀ (nl cl nl' cl':Bool) (es es':List Step),es.length≤big→Ret pg 179 [.sl nl (es.map Step.av) cl,.sl nl' (es'.map Step.av) cl',.fn 180 []] (.bool (eqL stepEq es es')))
  (nl cl nl' cl':Bool) (es es':List Step) (hb:es.length≤big):Ret pg 144 [.sl nl (es.map Step.av) cl,.sl nl' (es'.map Step.av) cl'] (.bool (eqL stepEq es es')):=by
 have k:=h179 nl cl nl' cl' es es' hb
 refine Ret.ofX hf ?_
 clear h179
 unfold cf144
 repeat' (first | simp only [*,go_sem,seval] | refine XG_split (fun _=>?_) (fun _=>?_) | refine XC_split (fun _=>?_) (fun _=>?_) | (refine XO_tree k (by simp only [go_sem,seval]) rfl ?_) | refine And.intro (by kernel_rfl) ?_)
theorem Pull.one_cells (x:Pull):allOne x.cells=true:=rfl
theorem c105 (hf:pg.fs 105=some cf105) (h67:∀ (nl cl nl' cl':Bool) (es es':List Lin),es.length≤big→Ret pg 67 [.sl nl (es.map Lin.av) cl,.sl nl' (es'.map Lin.av) cl',.fn 143 []] (.bool (eqL linEq es es')))
  (h144:∀ (nl cl nl' cl':Bool) (es es':List Step),es.length≤big→Ret pg 144 [.sl nl (es.map Step.av) cl,.sl nl' (es'.map Step.av) cl'] (.bool (eqL stepEq es es'))) (h145:pg.fs 145=some cf145) :
  ∀ p:Pull,p.ok→∀ q:Pull,Ret pg 105 [p.av,q.av] (.bool (pullEq p q)):=by
 refine Pull.ind' fun p ih hp q=>?_
 obtain ⟨hk,hks⟩:=(Pull.ok_iff p).1 hp
 have a1:=h67 p.at_.nl p.at_.cl q.at_.nl q.at_.cl p.at_.es q.at_.es p.at_.ok
 have a2:=h144 p.fn.nl p.fn.cl q.fn.nl q.fn.cl p.fn.es q.fn.es p.fn.ok
 have a3:Ret pg 145 [.sl p.knl (p.kids.map Pull.av) p.kcl,.sl q.knl (q.kids.map Pull.av) q.kcl,.fn 105 []] (.bool (eqL pullEq p.kids q.kids)):=
  eqF_ok (f:=145) (esz:=9) (ag:=true) rfl h145 Pull.av Pull.cells Pull.av_eq (fun _=>rfl) Pull.one_cells rfl Pull.tree_av p.knl p.kcl q.knl q.kcl p.kids q.kids hk 105 pullEq (fun x hx y _=>ih x hx (hks x hx) y)
 refine Ret.ofX hf ?_
 clear h67 h144 ih hks
 unfold cf105
 repeat' (first | simp only [*,go_sem,seval] | refine XG_split (fun _=>?_) (fun _=>?_) | refine XC_split (fun _=>?_) (fun _=>?_) | (refine XO_tree a1 (by simp only [go_sem,seval]) rfl ?_) | (refine XO_tree a2 (by simp only [go_sem,seval]) rfl ?_) | (refine XO_tree a3 (by simp only [go_sem,seval]) rfl ?_) | refine And.intro (by kernel_rfl) ?_)
 all_goals (clear a1 a2 a3)
 all_goals (rw [pullEq_eq,pullEqs_eq])
 all_goals (simp_all)
end
end Go.Tev
end
section
namespace Go.Tev
mutual
def readsU:Pull→List Int
 | .mk op _ value _ _ _ _ _ _ kids _=>(if decide (op.bs=[114,101,97,100]) then [value] else [])++readsL kids
def readsL:List Pull→List Int
 | []=>[]
 | p :: r=>readsU p++readsL r
end
mutual
theorem readsU_len:∀ p:Pull,(readsU p).length≤p.sz
 | .mk op num value name at_ dyn check fn knl kids kcl=>by
  have:=readsL_len kids
  rw [readsU,Pull.sz,List.length_append]
  split<;>simp<;>omega
theorem readsL_len:∀ l:List Pull,(readsL l).length≤Pull.szL l
 | []=>by simp [readsL,Pull.szL]
 | p :: r=>by
  have h1:=readsU_len p
  have h2:=readsL_len r
  simp only [readsL,Pull.szL,List.length_append];omega
end
def RetHP (pg:Pg) (f:Nat) (vs:List AV) (kb:Nat) (h:Hp) (P:AV→Hp→Prop):Prop:=∃ r h',RetH pg f vs kb h r h'∧P r h'
def endHP (res:List (Sum Nat (Nat × Nat × Bool))) (P:AV→Hp→Prop) (ex:Ex) (st:St):Prop:=
 match ex with
 | .ext _=>False
 | _=>∃ v,result st res=some v∧P v st.hp
theorem endHP_nor (res:List (Sum Nat (Nat × Nat × Bool))) (P:AV→Hp→Prop) (st:St):endHP res P .nor st=∃ v,result st res=some v∧P v st.hp:=rfl
theorem endHP_ret (res:List (Sum Nat (Nat × Nat × Bool))) (P:AV→Hp→Prop) (st:St):endHP res P .ret st=∃ v,result st res=some v∧P v st.hp:=rfl
attribute [go_sem ↓] endHP_nor endHP_ret
section
variable {pg:Pg} {kb:Nat}
theorem RetHP.ofX {f:Nat} {cf:CF} {vs:List AV} {h:Hp} {P:AV→Hp→Prop} (hf:pg.fs f=some cf) (hw:XX pg kb cf.body ⟨enter cf vs,h⟩ (endHP cf.res P) ⟨⟩):RetHP pg f vs kb h P:=by
 obtain ⟨n,ex,st,h1,h2⟩:=hw
 cases ex with
 | ext i=>exact h2.elim
 | nor=>obtain ⟨v,h3,h4⟩:=h2;exact ⟨v,st.hp,RetH.of hf ⟨n,.nor,st,h1,trivial,h3,rfl⟩,h4⟩
 | ret=>obtain ⟨v,h3,h4⟩:=h2;exact ⟨v,st.hp,RetH.of hf ⟨n,.ret,st,h1,trivial,h3,rfl⟩,h4⟩
theorem XO_callHP {f s:Nat} {th im:Bool} {h:Hp} {vs:List AV} {P:AV→Hp→Prop} {Q:AV→Eff→Prop} {t:Tok Q} (hm:im=true∨mapS (snap depth h) vs=none) {B:Nat} (hB:baseOf kb s vs=B) (hr:RetHP pg f vs B h P)
   (hq:∀ r h',P r h'→Q r (.whole h')):XO pg kb (.call f th im) s h vs Q t:=by
 obtain ⟨r,h',h1,h2⟩:=hr
 exact XO_callH hm hB h1 (hq r h' h2)
theorem XO_own3 {esz bytes s k1:Nat} {ag:Bool} {h:Hp} {v:AV} {es xs:List AV} {nl cl:Bool} {Q:AV→Eff→Prop} {t:Tok Q} (o:Own h k1 esz ag v es) (he:∀ x∈es,El esz ag x) (hx:∀ x∈xs,El esz ag x) (hxs:xs ≠ [])
  (hl:es.length+xs.length≤1073741824) (hb:bytes≤65536)
  (q2:∀ v' rd pa,Own (Eff.app h (.pat rd pa)) (kb+s) esz ag v' (es++xs)→(∀ k,k ≠ kb+s→k ≠ k1→(Eff.app h (.pat rd pa)).get k=h.get k)→Q v' (.pat rd pa)) :
  XO pg kb (.app esz ag bytes) s h [v,.sl nl xs cl] Q t:=by
 by_cases hk:k1=kb+s
 ·subst hk
  exact XO_own o he hx hl hb (fun v' rd pa h1 h2 _=>q2 v' rd pa h1 (fun k h3 _=>h2 k h3))
 ·exact XO_own2 o hk he hx hl hb (fun h=>absurd h hxs) (fun _ v' rd pa h1 h2=>q2 v' rd pa h1 h2)
def Out (h:Hp) (v:AV) (es:List Int):Prop:=∃ k,Own h k 1 false v (es.map intA)∧65536≤k∧k % 65536=5
theorem Out.put {h:Hp} {v:AV} {es:List Int} (o:Out h v es) {q e:Nat} {ob:Ob} (hq:q < 65536∨q % 65536 ≠ 5):Out (h.put q e ob) v es:=by
 obtain ⟨k,o,h1,h2⟩:=o
 refine ⟨k,o.mono ?_,h1,h2⟩
 rw [get_put,if_neg (by intro h;subst h;omega)]
theorem Own.one {h:Hp} {k0 esz:Nat} {ag:Bool} {v:AV} {es:List AV} (o:Own h k0 esz ag v es):v.fits 1 false=true∧v.one=true∧v.cells=[v]:=by
 rcases o with ⟨rfl,nl,cl,rfl,hc⟩ | ⟨e,cs,rfl,hg,hu⟩
 ·exact ⟨rfl,rfl,rfl⟩
 ·exact ⟨rfl,rfl,rfl⟩
end
end Go.Tev
end
section
namespace Go.Tev
def insI (x:Int):List Int→List Int
 | []=>[x]
 | y :: r=>if x≤y then x :: y :: r else y :: insI x r
def sortI:List Int→List Int
 | []=>[]
 | x :: r=>insI x (sortI r)
def compI:List Int→List Int
 | []=>[]
 | [x]=>[x]
 | x :: y :: r=>if x=y then compI (y :: r) else x :: compI (y :: r)
theorem insI_len (x:Int):∀ l,(insI x l).length=l.length+1
 | []=>rfl
 | y :: r=>by simp only [insI];split<;>simp [insI_len x r]
theorem sortI_len:∀ l,(sortI l).length=l.length
 | []=>rfl
 | x :: r=>by simp [sortI,insI_len,sortI_len r]
theorem compI_len:∀ l:List Int,(compI l).length≤l.length
 | []=>by simp [compI]
 | [x]=>by simp [compI]
 | x :: y :: r=>by
  have:=compI_len (y :: r)
  simp only [compI];split<;>simp at * <;> omega
theorem mem_insI (x a:Int):∀ l,a∈insI x l↔a=x∨a∈l
 | []=>by simp [insI]
 | y :: r=>by
  simp only [insI]
  split
  ·simp
  ·simp [mem_insI x a r]
   constructor<;>intro h<;>rcases h with h | h | h<;>simp [h]
def readsV (p:Pull):List Int:=compI (sortI (readsU p))
section
variable {pg:Pg}
theorem RetHP.mono {f:Nat} {vs:List AV} {kb:Nat} {h:Hp} {P P':AV→Hp→Prop} (hr:RetHP pg f vs kb h P) (hP:∀ r h',P r h'→P' r h'):RetHP pg f vs kb h P':=by
 obtain ⟨r,h',a,b⟩:=hr
 exact ⟨r,h',a,hP r h' b⟩
end
end Go.Tev
end
section
namespace Go.Tev
def digs:Nat→Nat→List UInt8
 | 0,_=>[]
 | f+1,u=>if u < 10 then [UInt8.ofNat (48+u)] else digs f (u / 10)++[UInt8.ofNat (48+u % 10)]
def dfold (acc:Nat) (l:List UInt8):Nat:=l.foldl (fun a c=>a*10+(c.toNat - 48)) acc
theorem dfold_ge:∀ (l:List UInt8) (acc:Nat),acc≤dfold acc l
 | [],acc=>Nat.le_refl _
 | c :: r,acc=>by
  have:=dfold_ge r (acc*10+(c.toNat - 48))
  simp only [dfold,List.foldl_cons] at this ⊢
  omega
theorem dfold_lt:∀ (l:List UInt8) (acc:Nat),l.all digit=true→dfold acc l < (acc+1)*10 ^ l.length
 | [],acc,_=>by simp [dfold]
 | c :: r,acc,h=>by
  simp only [List.all_cons,Bool.and_eq_true,digit,decide_eq_true_eq] at h
  have:=dfold_lt r (acc*10+(c.toNat - 48)) (by simpa [digit] using h.2)
  simp only [dfold,List.foldl_cons,List.length_cons,Nat.pow_succ] at this ⊢
  refine Nat.lt_of_lt_of_le this ?_
  rw [Nat.mul_comm (10 ^ r.length) 10,← Nat.mul_assoc]
  exact Nat.mul_le_mul_right _ (by omega)
theorem dfold_snoc (l:List UInt8) (c:UInt8) (acc:Nat):dfold acc (l++[c])=dfold acc l*10+(c.toNat - 48):=by simp [dfold]
theorem parse_digits:∀ (l:List UInt8) (acc:Nat),l.all digit=true→dfold acc l < 1844674407370955162→Lib.parseUint10 acc l = .ok (dfold acc l)
 | [],acc,_,_=>rfl
 | c :: r,acc,h,hb=>by
  simp only [List.all_cons,Bool.and_eq_true] at h
  have hd:=h.1
  simp only [digit,Bool.and_eq_true,decide_eq_true_eq] at hd
  have h1:=dfold_ge r (acc*10+(c.toNat - 48))
  have e:dfold acc (c :: r)=dfold (acc*10+(c.toNat - 48)) r:=rfl
  rw [e] at hb ⊢
  rw [Lib.parseUint10,if_pos hd,if_neg (by omega),if_neg (by omega)]
  exact parse_digits r _ h.2 hb
theorem dfold_pos {l:List UInt8} (h:l.all digit=true) (h0:l ≠ []) (hh:l.head? ≠ some 48):0 < dfold 0 l:=by
 cases l with
 | nil=>exact absurd rfl h0
 | cons c r=>
  simp only [List.all_cons,Bool.and_eq_true,digit,decide_eq_true_eq] at h
  have h1:=dfold_ge r (0*10+(c.toNat - 48))
  have h2:c.toNat ≠ 48:=fun e=>hh (by simp;exact UInt8.toNat_inj.1 e)
  have e:dfold 0 (c :: r)=dfold (0*10+(c.toNat - 48)) r:=rfl
  rw [e]
  omega
theorem digs_val:∀ (n f:Nat) (l:List UInt8),l.length=n→n≤f→l.all digit=true→l ≠ []→l.head? ≠ some 48→digs f (dfold 0 l)=l
 | 0,f,l,hn,_,_,h0,_=>absurd (List.eq_nil_of_length_eq_zero hn) h0
 | n+1,f,l,hn,hf,hd,h0,hh=>by
  obtain ⟨f,rfl⟩:∃ g,f=g+1:=⟨f - 1,by omega⟩
  obtain ⟨l',c,rfl⟩:∃ l' c,l=l'++[c]:=by
   rcases List.eq_nil_or_concat l with h | ⟨l',c,h⟩
   ·exact absurd h h0
   ·exact ⟨l',c,by simpa using h⟩
  simp only [List.all_append,List.all_cons,List.all_nil,Bool.and_true,Bool.and_eq_true] at hd
  have hc:=hd.2
  simp only [digit,Bool.and_eq_true,decide_eq_true_eq] at hc
  have hcc:UInt8.ofNat (48+(c.toNat - 48))=c:=by rw [Nat.add_sub_cancel' hc.1];exact UInt8.ofNat_toNat
  rw [dfold_snoc]
  by_cases hl:l'=[]
  ·subst hl
   have:dfold 0 []=0:=rfl
   rw [this,digs,if_pos (by omega)]
   simp only [Nat.zero_mul,Nat.zero_add,List.nil_append]
   rw [hcc]
  ·have hh':l'.head? ≠ some 48:=by
    cases l' with
    | nil=>exact absurd rfl hl
    | cons x r=>simpa using hh
   have hp:=dfold_pos hd.1 hl hh'
   rw [digs,if_neg (by omega)]
   have e1:(dfold 0 l'*10+(c.toNat - 48)) / 10=dfold 0 l':=by omega
   have e2:(dfold 0 l'*10+(c.toNat - 48)) % 10=c.toNat - 48:=by omega
   rw [e1,e2,hcc,digs_val n f l' (by simpa using hn) (by omega) hd.1 hl hh']
theorem digs_digit:∀ (f u:Nat),0 < u→u < 10 ^ f→(digs f u).all digit=true∧digs f u ≠ []∧(digs f u).head? ≠ some 48
 | 0,u,h,hu=>by simp at hu;omega
 | f+1,u,h,hu=>by
  have hof:∀ n:Nat,n < 10→(UInt8.ofNat (48+n)).toNat=48+n:=fun n hn=>by simp;omega
  rw [digs]
  split
  ·rename_i h1
   refine ⟨by simp [digit,hof u h1];omega,by simp,?_⟩
   intro he
   simp only [List.head?_cons,Option.some.injEq] at he
   have:=congrArg UInt8.toNat he
   rw [hof u h1] at this
   simp at this
   omega
  ·obtain ⟨a,b,c⟩:=digs_digit f (u / 10) (by omega) (by rw [Nat.pow_succ] at hu;omega)
   refine ⟨?_,by simp,?_⟩
   ·rw [List.all_append,a]
    simp [digit,hof (u % 10) (by omega)]
    omega
   ·cases hx:digs f (u / 10) with
    | nil=>exact absurd hx b
    | cons x r=>rw [hx] at c;simpa using c
def atoiName (t:List UInt8):Bool:=
 match Lib.atoiAll t with
 | .ok v=>decide (0 < v)&&decide ((t.length:Int)+1≤10)&&decide (digs 20 v.toNat=t)
 | _=>false
theorem atoiName_eq (t:List UInt8):atoiName t=(decide (2≤t.length+1)&&decide (t.length+1≤10) && !decide (t.head?=some 48)&&t.all digit):=by
 cases hr:(decide (2≤t.length+1)&&decide (t.length+1≤10) && !decide (t.head?=some 48)&&t.all digit)
 ·cases ha:atoiName t
  ·rfl
  ·exfalso
   simp only [atoiName] at ha
   split at ha
   ·rename_i v hv
    simp only [Bool.and_eq_true,decide_eq_true_eq] at ha
    obtain ⟨⟨h1,h2⟩,h3⟩:=ha
    obtain ⟨hb1,hb2⟩:v.toNat < 10 ^ 20∧0 < v.toNat:=by
     have hv2:v.toNat < 18446744073709551616:=by
      cases t with
      | nil=>simp [Lib.atoiAll] at hv
      | cons c r=>
       simp only [Lib.atoiAll] at hv
       split at hv
       ·cases hv
       ·cases hv
       ·rename_i u hu
        have:=Lib.parseMag_lt hu
        split at hv
        ·cases hv
        ·split at hv
         ·cases hv
         ·injection hv with hv
          split at hv<;>omega
     exact ⟨by omega,by omega⟩
    obtain ⟨a,b,c⟩:=digs_digit 20 v.toNat hb2 hb1
    rw [h3] at a b c
    have hlen:0 < t.length:=List.length_pos_iff.2 b
    simp [a,c] at hr
    omega
   ·cases ha
 ·simp only [Bool.and_eq_true,Bool.not_eq_true',decide_eq_true_eq,decide_eq_false_iff_not] at hr
  obtain ⟨⟨⟨h1,h2⟩,h3⟩,h4⟩:=hr
  have h0:t ≠ []:=by rintro rfl;simp at h1
  have hlt:=dfold_lt t 0 h4
  have hpow:(10:Nat) ^ t.length≤10 ^ 9:=Nat.pow_le_pow_right (by decide) (by omega)
  have hsm:dfold 0 t < 1844674407370955162:=by
   have:(10:Nat) ^ 9=1000000000:=by decide
   omega
  have hp:=parse_digits t 0 h4 hsm
  have hpos:=dfold_pos h4 h0 h3
  have hv:Lib.atoiAll t = .ok ((dfold 0 t:Nat):Int):=by
   cases t with
   | nil=>exact absurd rfl h0
   | cons c r=>
    have hc:digit c=true:=by simp only [List.all_cons,Bool.and_eq_true] at h4;exact h4.1
    simp only [digit,Bool.and_eq_true,decide_eq_true_eq] at hc
    simp only [Lib.atoiAll]
    rw [if_neg (by omega)]
    simp only [Lib.parseMag]
    rw [if_neg (by simp),hp]
    simp only
    rw [if_neg (by omega),if_neg (by omega),if_neg (by omega)]
  have hd:=digs_val t.length 20 t rfl (by omega) h4 h0 h3
  simp only [atoiName,hv,Int.toNat_natCast,hd,decide_true,Bool.and_true,Bool.and_eq_true,decide_eq_true_eq]
  omega
end Go.Tev
end
