import Derived.Test.YtdpdokigjeaaiaaGreatDoorNAm
import Derived.Test.YtdpdokigjeaaiaaGreatDoorTabCm
import Derived.Test.YtdpdokigjeaaiaaGreatDoorTabDm
set_option linter.all false
section
namespace Go.Tev
structure Base (pg:Pg):Prop where
 name:∀ s:Str,Ret pg 57 [.str s.bs] (.bool (nameU s.bs))
 trim:∀ s:List UInt8,s.length≤big→∃ t,Ret pg 94 [.str s,.str [48,49,50,51,52,53,54,55,56,57]] (.str t)∧decide (t=[])=s.all digit
 loop:∀ i:Nat,i < 10→Ret pg 108 [.int .i64 i] (.str (loopN' i))
def resU (s:List UInt8):Bool:=
 match s with
 | c :: d :: t=>(decide ((c.toNat:Int)=105)||decide ((c.toNat:Int)=106))&&(d :: t).all digit
 | _=>false
def shapeOK (s:Shape):Bool:=(decide (s.row.bs=[])||nameU s.row.bs)&&decide ((s.dims.es.length:Int)≤6)&&s.dims.es.all linOK
def typOK (t:Typ):Bool:=(decide (t.elem.bs=[105,110,116])||decide (t.elem.bs=[98,111,111,108])||elemVarU t.elem.bs)&&shapeOK t.shape
def typedOK (t:Typ) (vars:List Str):Bool:=typOK t && !elemVarU t.elem.bs&&decide (t.shape.row.bs=[])&&overOK t.shape.dims.es vars
def varsOK (p:List Str):List Str→Bool
 | []=>true
 | x :: r=>nameU x.bs && !resU x.bs&&(match p.getLast? with | none=>true | some q=>Op.bytesLess q.bs x.bs)&&varsOK (p++[x]) r
section
variable {pg:Pg}
theorem c101 (B:Base pg) (hf:pg.fs 101=some cf101) (s:Str):Ret pg 101 [.str s.bs] (.bool (elemVarU s.bs)):=by
 obtain ⟨s,hb⟩:=s
 refine Ret.ofX hf ?_
 unfold cf101
 cases s with
 | nil=>
  repeat' (first | simp only [*,go_sem,seval] | refine XG_split (fun _=>?_) (fun _=>?_) | refine XC_split (fun _=>?_) (fun _=>?_) | refine And.intro (by kernel_rfl) ?_)
  all_goals simp_all [elemVarU]
 | cons c t=>
  obtain ⟨u,hu,hd⟩:=B.trim t (by simp [big] at hb ⊢;omega)
  have hl:¬ ((↑(t.length+1):Int) < 1):=by omega
  repeat' (first | simp only [*,go_sem,seval] | refine XG_split (fun _=>?_) (fun _=>?_) | refine XC_split (fun _=>?_) (fun _=>?_) | (refine XO_tree hu (by simp only [go_sem,seval]) rfl ?_) | refine And.intro (by kernel_rfl) ?_)
  all_goals (simp_all [elemVarU])
  all_goals (try omega)
theorem c58 (B:Base pg) (hf:pg.fs 58=some cf58) (s:Str):Ret pg 58 [.str s.bs] (.bool (resU s.bs)):=by
 obtain ⟨s,hb⟩:=s
 refine Ret.ofX hf ?_
 unfold cf58
 match s,hb with
 | [],hb=>
  repeat' (first | simp only [*,go_sem,seval] | refine XG_split (fun _=>?_) (fun _=>?_) | refine XC_split (fun _=>?_) (fun _=>?_) | refine And.intro (by kernel_rfl) ?_)
  all_goals simp_all [resU]
 | [c],hb=>
  repeat' (first | simp only [*,go_sem,seval] | refine XG_split (fun _=>?_) (fun _=>?_) | refine XC_split (fun _=>?_) (fun _=>?_) | refine And.intro (by kernel_rfl) ?_)
  all_goals simp_all [resU]
 | c :: d :: t,hb=>
  obtain ⟨u,hu,hd⟩:=B.trim (d :: t) (by simp [big] at hb ⊢;omega)
  have hl:decide ((1:Int) < ↑(t.length+1+1))=true:=by simp;omega
  repeat' (first | simp only [*,go_sem,seval] | refine XG_split (fun _=>?_) (fun _=>?_) | refine XC_split (fun _=>?_) (fun _=>?_) | (refine XO_tree hu (by simp only [go_sem,seval]) rfl ?_) | refine And.intro (by kernel_rfl) ?_)
  all_goals (simp_all [resU])
  all_goals (try omega)
theorem c176 (hf:pg.fs 176=some cf176) (h51:∀ l:Lin,Ret pg 51 [l.av] (.bool (linOK l))) (l:Lin):Ret pg 176 [l.av] (.bool (!linOK l)):=by
 refine Ret.ofX hf ?_
 unfold cf176
 repeat' (first | simp only [*,go_sem,seval] | refine XG_split (fun _=>?_) (fun _=>?_) | refine XC_split (fun _=>?_) (fun _=>?_) | (refine XO_tree (h51 l) (by simp only [go_sem,seval]) rfl ?_) | refine And.intro (by kernel_rfl) ?_)
theorem c205 (hf:pg.fs 205=some cf205) (nl cl:Bool) (es:List Lin) (hb:es.length≤big) (g:Nat) (cs:List AV) (hcs:treeL cs=true) (p:Lin→Bool) (hp:∀ x∈es,Ret pg g (x.av :: cs) (.bool (p x))) :
  RetP pg 205 [.sl nl (es.map Lin.av) cl,.fn g cs] (fun r=>∃ i:Int,r = .int .i64 i∧decide (0≤i)=es.any p):=
 idxF_ok (f:=205) (esz:=2) (ag:=true) hf Lin.av (fun _=>by simp only [go_sem,seval]) (fun _=>by simp only [go_sem,seval]) nl cl es hb g cs hcs p hp
theorem c175 (hf:pg.fs 175=some cf175) (h205:pg.fs 205=some cf205) (nl cl:Bool) (es:List Lin) (hb:es.length≤big) (g:Nat) (cs:List AV) (hcs:treeL cs=true) (p:Lin→Bool) (hp:∀ x∈es,Ret pg g (x.av :: cs) (.bool (p x))) :
  Ret pg 175 [.sl nl (es.map Lin.av) cl,.fn g cs] (.bool (es.any p)):=
 conF_ok (n:=205) hf (by simp only [treeL,tree_sl,tree_fn,hcs,Lin.treeL_av,Bool.and_true]) (c205 h205 nl cl es hb g cs hcs p hp)
theorem c139 (B:Base pg) (hf:pg.fs 139=some cf139) (h175:pg.fs 175=some cf175) (h205:pg.fs 205=some cf205) (h176:pg.fs 176=some cf176) (h51:∀ l:Lin,Ret pg 51 [l.av] (.bool (linOK l))) (s:Shape) :
  Ret pg 139 [s.av] (.bool (shapeOK s)):=by
 refine Ret.ofX hf ?_
 have hc:=c175 h175 h205 s.dims.nl s.dims.cl s.dims.es s.dims.ok 176 [] rfl (fun l => !linOK l) (fun l _=>c176 h176 h51 l)
 unfold cf139
 repeat' (first | simp only [*,go_sem,seval] | refine XG_split (fun _=>?_) (fun _=>?_) | refine XC_split (fun _=>?_) (fun _=>?_) | (refine XO_tree (B.name s.row) (by simp only [go_sem,seval]) rfl ?_) | (refine XO_tree hc (by simp only [go_sem,seval]) rfl ?_) | refine And.intro (by kernel_rfl) ?_)
 all_goals (have hany:(s.dims.es.any fun l => !linOK l) = !(s.dims.es.all linOK):=by rw [List.not_all_eq_any_not])
 all_goals (simp_all [shapeOK])
 all_goals (intro h;exfalso;omega)
theorem c100 (hf:pg.fs 100=some cf100) (h101:∀ s:Str,Ret pg 101 [.str s.bs] (.bool (elemVarU s.bs))) (h139:∀ s:Shape,Ret pg 139 [s.av] (.bool (shapeOK s))) (t:Typ):Ret pg 100 [t.av] (.bool (typOK t)):=by
 refine Ret.ofX hf ?_
 unfold cf100
 repeat' (first | simp only [*,go_sem,seval] | refine XG_split (fun _=>?_) (fun _=>?_) | refine XC_split (fun _=>?_) (fun _=>?_) | (refine XO_tree (h101 t.elem) (by simp only [go_sem,seval]) rfl ?_) | (refine XO_tree (h139 t.shape) (by simp only [go_sem,seval]) rfl ?_) | refine And.intro (by kernel_rfl) ?_)
 all_goals (simp_all [typOK])
theorem c62 (hf:pg.fs 62=some cf62) (h100:∀ t:Typ,Ret pg 100 [t.av] (.bool (typOK t))) (h101:∀ s:Str,Ret pg 101 [.str s.bs] (.bool (elemVarU s.bs)))
  (h59:∀ (nl cl:Bool) (ls:List Lin),ls.length≤big→∀ (nl' cl':Bool) (vars:List Str),vars.length≤big→Ret pg 59 [.sl nl (ls.map Lin.av) cl,.sl nl' (vars.map Str.av) cl'] (.bool (overOK ls vars)))
  (t:Typ) (nl cl:Bool) (vars:List Str) (hb:vars.length≤big):Ret pg 62 [t.av,.sl nl (vars.map Str.av) cl] (.bool (typedOK t vars)):=by
 refine Ret.ofX hf ?_
 unfold cf62
 repeat' (first | simp only [*,go_sem,seval] | refine XG_split (fun _=>?_) (fun _=>?_) | refine XC_split (fun _=>?_) (fun _=>?_) | (refine XO_tree (h100 t) (by simp only [go_sem,seval]) rfl ?_) | (refine XO_tree (h101 t.elem) (by simp only [go_sem,seval]) rfl ?_) | (refine XO_tree (h59 _ _ t.shape.dims.es t.shape.dims.ok nl cl vars hb) (by simp only [go_sem,seval]) rfl ?_) | refine And.intro (by kernel_rfl) ?_)
 all_goals (simp_all [typedOK])
theorem c61 (hf:pg.fs 61=some cf61) (h62:∀ (t:Typ) (nl cl:Bool) (vars:List Str),vars.length≤big→Ret pg 62 [t.av,.sl nl (vars.map Str.av) cl] (.bool (typedOK t vars))) (t:Typ) (k:Kernels) :
  Ret pg 61 [t.av,.fp k.av] (.bool (!typedOK t k.vars.es)):=by
 refine Ret.ofX hf ?_
 unfold cf61
 repeat' (first | simp only [*,go_sem,seval] | refine XG_split (fun _=>?_) (fun _=>?_) | refine XC_split (fun _=>?_) (fun _=>?_) | (refine XO_tree (h62 t _ _ k.vars.es k.vars.ok) (by simp only [go_sem,seval]) rfl ?_) | refine And.intro (by kernel_rfl) ?_)
theorem c99 (hf:pg.fs 99=some cf99) (nl cl:Bool) (es:List Typ) (hb:es.length≤big) (g:Nat) (cs:List AV) (hcs:treeL cs=true) (p:Typ→Bool) (hp:∀ x∈es,Ret pg g (x.av :: cs) (.bool (p x))) :
  RetP pg 99 [.sl nl (es.map Typ.av) cl,.fn g cs] (fun r=>∃ i:Int,r = .int .i64 i∧decide (0≤i)=es.any p):=
 idxF_ok (f:=99) (esz:=3) (ag:=true) hf Typ.av (fun _=>by simp only [go_sem,seval]) (fun _=>by simp only [go_sem,seval]) nl cl es hb g cs hcs p hp
theorem c60 (hf:pg.fs 60=some cf60) (h99:pg.fs 99=some cf99) (nl cl:Bool) (es:List Typ) (hb:es.length≤big) (g:Nat) (cs:List AV) (hcs:treeL cs=true) (p:Typ→Bool) (hp:∀ x∈es,Ret pg g (x.av :: cs) (.bool (p x))) :
  Ret pg 60 [.sl nl (es.map Typ.av) cl,.fn g cs] (.bool (es.any p)):=
 conF_ok (n:=99) hf (by simp only [treeL,tree_sl,tree_fn,hcs,Typ.treeL_av,Bool.and_true]) (c99 h99 nl cl es hb g cs hcs p hp)
def outsideOK (k:Kernels):Bool:=
 varsOK [] k.vars.es&&(decide ((k.vars.es.length:Int)≤12)&&overOK k.wher.es k.vars.es&&decide (0≤k.inputs)&&decide (k.inputs≤8)&&decide (k.inputs≤k.values.es.length)&&decide ((k.values.es.length:Int)≤k.inputs+400) &&
  decide ((k.list.es.length:Int)≤400)&&k.values.es.all fun t=>typedOK t k.vars.es)
theorem c43 (B:Base pg) (hf:pg.fs 43=some cf43) (h58:∀ s:Str,Ret pg 58 [.str s.bs] (.bool (resU s.bs)))
  (h59:∀ (nl cl:Bool) (ls:List Lin),ls.length≤big→∀ (nl' cl':Bool) (vars:List Str),vars.length≤big→Ret pg 59 [.sl nl (ls.map Lin.av) cl,.sl nl' (vars.map Str.av) cl'] (.bool (overOK ls vars)))
  (h60:pg.fs 60=some cf60) (h99:pg.fs 99=some cf99) (h61:∀ (t:Typ) (k:Kernels),Ret pg 61 [t.av,.fp k.av] (.bool (!typedOK t k.vars.es))) (k:Kernels):Ret pg 43 [k.av] (.bool (outsideOK k)):=by
 have hb:=k.vars.ok
 have hbl:=k.values.ok
 have hall:=c60 h60 h99 k.values.nl k.values.cl k.values.es k.values.ok 61 [.fp k.av] (by simp only [go_sem,seval]) (fun t => !typedOK t k.vars.es) (fun t _=>h61 t k)
 have hov:=h59 k.wher.nl k.wher.cl k.wher.es k.wher.ok k.vars.nl k.vars.cl k.vars.es k.vars.ok
 refine Ret.ofX hf ?_
 unfold cf43
 simp only [go_sem,seval]
 refine XX_listU k.vars.es (fun d e=>setD e (some 8) (.int .i64 d.length)) (fun d r hp=>(hp.get 1=some (0,.blk k.cells 6 true true false))∧varsOK [] k.vars.es=varsOK d r) rfl ?_ ?_ ?_
 ·exact ⟨rfl,rfl⟩
 ·rintro hp ⟨h1,hI⟩
  simp only [varsOK] at hI
  simp only [Kernels.cells,Sl.av] at h1
  have hinp:decide (8 < k.inputs)=false→decide (k.inputs < 0)=false→wr .i64 (k.inputs+400)=k.inputs+400:=by
   intro a b
   simp at a b
   exact wr_small (by omega) (by omega)
  have hany:(k.values.es.any fun t => !typedOK t k.vars.es) = !(k.values.es.all fun t=>typedOK t k.vars.es):=by rw [List.not_all_eq_any_not]
  have hov':=hov
  simp only [cf43L0,cf43M0]
  clear h59 h60 h99 h61 h58
  repeat' (first | simp only [*,go_sem,seval] | refine XG_split (fun _=>?_) (fun _=>?_) | refine XC_split (fun _=>?_) (fun _=>?_) | (refine XO_tree hov' (by simp only [go_sem,seval]) rfl ?_) | (refine XO_call (hall) (by simp only [ h1,depth,mapS_nil,mapS_cons,snapX,go_sem,seval];rfl) (by first | rfl | simp only [receive]) ?_) | refine And.intro (by kernel_rfl) ?_)
  all_goals (clear hall hov hov' hf B)
  all_goals (simp only [decide_eq_true_eq,decide_eq_false_iff_not] at *)
  all_goals (clear h1 hp hb hbl)
  all_goals (try rw [hany])
  all_goals (clear hany hinp)
  all_goals (simp only [outsideOK,hI,Bool.true_and])
  all_goals (simp_all)
  all_goals (try omega)
 ·rintro d x r hp hes ⟨h1,hI⟩
  have h0:=h1
  rw [hes] at hb hI
  rw [hes]
  simp only [varsOK] at hI
  simp only [Kernels.cells,Sl.av] at h1
  rw [hes] at h1
  simp only [cf43L0,cf43M0,h1,go_sem,seval]
  refine XO_tree (B.name x) (by simp only [go_sem,seval]) rfl ?_
  simp only [go_sem,seval]
  cases hn:nameU x.bs
  ·simp only [go_sem,seval]
   simp [outsideOK,hes,hI,hn]
  simp only [go_sem,seval]
  refine XO_tree (h58 x) (by simp only [go_sem,seval]) rfl ?_
  simp only [go_sem,seval]
  cases hr:resU x.bs
  case true=>
   simp only [go_sem,seval]
   simp [outsideOK,hes,hI,hr]
  simp only [go_sem,seval]
  cases hd:decide (0 < (d.length:Int))
  ·simp only [hd,wr_mid hb,go_sem,seval]
   have:d=[]:=by cases d<;>simp_all<;>omega
   subst this
   exact ⟨h0,by simpa [hn,hr] using hI⟩
  ·obtain ⟨d',y,rfl⟩:∃ d' y,d=d'++[y]:=by
    rcases List.eq_nil_or_concat d with rfl | ⟨d',y,h⟩
    ·simp at hd
    ·exact ⟨d',y,by simpa using h⟩
   have hw:wr .i64 (((d'++[y]).length:Int) - 1)=(d'.length:Int):=by
    simp only [List.length_append,List.length_cons,List.length_nil,big] at *
    rw [wr_small (by omega) (by omega)];omega
   have hy:(d'++[y]++x :: r)[d'.length]?=some y:=by simp
   simp only [hd,h1,hw,hy,go_sem,seval]
   cases hl:Op.bytesLess y.bs x.bs
   ·simp only [go_sem,seval]
    have:varsOK [] k.vars.es=false:=by rw [hes,hI];simp [hl]
    simp [outsideOK,this]
   ·simp only [wr_mid hb,go_sem,seval]
    exact ⟨h0,by simpa [hn,hr,hl] using hI⟩
end
end Go.Tev
end
section
namespace Go.Tev
def stepsOK (n:Int):List Step→Bool
 | []=>true
 | s :: r=>stepOK s n&&stepsOK (n+1) r
def codeOK (fn:List Step) (n:Int):Bool:=decide (0≤n)&&decide (n≤20)&&decide ((fn.length:Int)≤60) && !decide (n+fn.length=0)&&stepsOK n fn
def bareOK (p:Pull) (a b c d e f:Bool):Bool:=
 (a||decide (p.num=0))&&(b||decide (p.value=0))&&(c||decide (p.name.bs=[]))&&(d||decide ((p.at_.es.length:Int)=0))&&(e || !p.dyn&&decide (p.check=0))&&(f||decide ((p.fn.es.length:Int)=0))
def readOK (p:Pull) (values:Int):Bool:=
 bareOK p false true false true true false&&decide (0≤p.value)&&decide (p.value < values)&&decide (0≤p.check) &&
  (if p.dyn then decide ((p.at_.es.length:Int)≤5)&&decide ((p.kids.length:Int)=1) else decide ((p.at_.es.length:Int)≤6)&&decide ((p.kids.length:Int)=0)&&decide (p.check=0))
section
variable {pg:Pg}
theorem c70 (hf:pg.fs 70=some cf70) (h111:∀ (s:Step) (n:Int),Ret pg 111 [s.av,.int .i64 n] (.bool (stepOK s n))) (nl cl:Bool) (fn:List Step) (hb:fn.length≤big) (n:Int) :
  Ret pg 70 [.sl nl (fn.map Step.av) cl,.int .i64 n] (.bool (codeOK fn n)):=by
 refine Ret.ofX hf ?_
 unfold cf70
 simp only [go_sem,seval]
 cases h1:decide (n < 0)
 case true=>
  simp only [h1,go_sem,seval]
  simp at h1
  have:decide (0≤n)=false:=by simp;omega
  simp [codeOK,this]
 simp only [h1,go_sem,seval]
 cases h2:decide (20 < n)
 case true=>
  simp only [h2,go_sem,seval]
  simp at h2
  have:decide (n≤20)=false:=by simp;omega
  simp [codeOK,this]
 simp only [h2,go_sem,seval]
 cases h3:decide (60 < (fn.length:Int))
 case true=>
  simp only [h3,go_sem,seval]
  simp at h3
  have:decide ((fn.length:Int)≤60)=false:=by simp;omega
  simp [codeOK,this]
 simp only [decide_eq_false_iff_not] at h1 h2
 have hw:wr .i64 (n+fn.length)=n+fn.length:=by simp only [big] at hb;exact wr_small (by omega) (by omega)
 simp only [h3,hw,go_sem,seval]
 cases h4:decide (n+(fn.length:Int)=0)
 case true=>
  simp only [h4,go_sem,seval]
  simp [codeOK,h4]
 simp only [h4,go_sem,seval]
 have hspec:codeOK fn n=stepsOK n fn:=by
  simp only [decide_eq_false_iff_not] at h3
  have e1:decide (0≤n)=true:=by simp;omega
  have e2:decide (n≤20)=true:=by simp;omega
  have e3:decide ((fn.length:Int)≤60)=true:=by simp;omega
  simp [codeOK,h4,e1,e2,e3]
 rw [hspec]
 refine XX_listU fn (fun d e=>setD e (some 27) (.int .i64 d.length)) (fun d r hp=>stepsOK n fn=stepsOK (n+d.length) r) rfl ?_ ?_ ?_
 ·simp
 ·intro hp hI
  simp only [cf70L0,cf70M0,go_sem,seval]
  rw [hI];rfl
 ·intro d x r hp hes hI
  subst hes
  have hw:wr .i64 (n+d.length)=n+d.length:=by
   simp only [big,List.length_append,List.length_cons] at hb;exact wr_small (by omega) (by omega)
  simp only [cf70L0,cf70M0,go_sem,seval]
  rw [hw]
  refine XO_tree (h111 x _) (by simp only [go_sem,seval]) rfl ?_
  simp only [go_sem,seval]
  cases hx:stepOK x (n+d.length)
  ·simp only [go_sem,seval]
   rw [hI];simp [stepsOK,hx]
  ·simp only [wr_mid hb,go_sem,seval]
   rw [hI];simp [stepsOK,hx,Int.add_assoc]
theorem c206_read (hf:pg.fs 206=some cf206) (p:Pull):Ret pg 206 [p.av,.bool false,.bool true,.bool false,.bool true,.bool true,.bool false] (.bool (bareOK p false true false true true false)):=by
 refine Ret.ofX hf ?_
 unfold cf206
 repeat' (first | simp only [*,go_sem,seval] | refine XG_split (fun _=>?_) (fun _=>?_) | refine XC_split (fun _=>?_) (fun _=>?_) | refine And.intro (by kernel_rfl) ?_)
 all_goals (simp_all [bareOK])
theorem c206_const (hf:pg.fs 206=some cf206) (p:Pull):Ret pg 206 [p.av,.bool true,.bool false,.bool false,.bool false,.bool false,.bool false] (.bool (bareOK p true false false false false false)):=by
 refine Ret.ofX hf ?_
 unfold cf206
 repeat' (first | simp only [*,go_sem,seval] | refine XG_split (fun _=>?_) (fun _=>?_) | refine XC_split (fun _=>?_) (fun _=>?_) | refine And.intro (by kernel_rfl) ?_)
 all_goals (simp_all [bareOK])
theorem c206_lin (hf:pg.fs 206=some cf206) (p:Pull):Ret pg 206 [p.av,.bool false,.bool false,.bool false,.bool true,.bool false,.bool false] (.bool (bareOK p false false false true false false)):=by
 refine Ret.ofX hf ?_
 unfold cf206
 repeat' (first | simp only [*,go_sem,seval] | refine XG_split (fun _=>?_) (fun _=>?_) | refine XC_split (fun _=>?_) (fun _=>?_) | refine And.intro (by kernel_rfl) ?_)
 all_goals (simp_all [bareOK])
theorem c206_red (hf:pg.fs 206=some cf206) (p:Pull):Ret pg 206 [p.av,.bool false,.bool false,.bool true,.bool true,.bool false,.bool true] (.bool (bareOK p false false true true false true)):=by
 refine Ret.ofX hf ?_
 unfold cf206
 repeat' (first | simp only [*,go_sem,seval] | refine XG_split (fun _=>?_) (fun _=>?_) | refine XC_split (fun _=>?_) (fun _=>?_) | refine And.intro (by kernel_rfl) ?_)
 all_goals (simp_all [bareOK])
theorem c206_code (hf:pg.fs 206=some cf206) (p:Pull):Ret pg 206 [p.av,.bool false,.bool false,.bool false,.bool false,.bool false,.bool true] (.bool (bareOK p false false false false false true)):=by
 refine Ret.ofX hf ?_
 unfold cf206
 repeat' (first | simp only [*,go_sem,seval] | refine XG_split (fun _=>?_) (fun _=>?_) | refine XC_split (fun _=>?_) (fun _=>?_) | refine And.intro (by kernel_rfl) ?_)
 all_goals (simp_all [bareOK])
theorem c206_op (hf:pg.fs 206=some cf206) (p:Pull):Ret pg 206 [p.av,.bool false,.bool false,.bool false,.bool false,.bool false,.bool false] (.bool (bareOK p false false false false false false)):=by
 refine Ret.ofX hf ?_
 unfold cf206
 repeat' (first | simp only [*,go_sem,seval] | refine XG_split (fun _=>?_) (fun _=>?_) | refine XC_split (fun _=>?_) (fun _=>?_) | refine And.intro (by kernel_rfl) ?_)
 all_goals (simp_all [bareOK])
theorem c207 (hf:pg.fs 207=some cf207) (h206:pg.fs 206=some cf206) (p:Pull) (hp:p.kids.length≤big) (v:Int) :
  Ret pg 207 [p.av,.int .i64 v] (.bool (readOK p v)):=by
 have h6:=c206_read h206 p
 rw [Pull.avc] at h6
 refine Ret.ofX hf ?_
 unfold cf207
 clear h206
 repeat' (first | simp only [*,go_sem,seval] | refine XG_split (fun _=>?_) (fun _=>?_) | refine XC_split (fun _=>?_) (fun _=>?_) | (refine XO_tree h6 (by simp only [go_sem,seval]) rfl ?_) | refine And.intro (by kernel_rfl) ?_)
 all_goals (clear h6)
 all_goals (simp_all [readOK])
 all_goals (try omega)
end
end Go.Tev
end
section
namespace Go.Tev
mutual
theorem Pull.ind' {P:Pull→Prop} (h:∀ p:Pull,(∀ q∈p.kids,P q)→P p):∀ p,P p
 | .mk op num value name at_ dyn check fn knl kids kcl=>h _ (Pull.inds h kids)
theorem Pull.inds {P:Pull→Prop} (h:∀ p:Pull,(∀ q∈p.kids,P q)→P p):∀ l:List Pull,∀ q∈l,P q
 | []=>by simp
 | x :: r=>List.forall_mem_cons.2 ⟨Pull.ind' h x,Pull.inds h r⟩
end
mutual
def nodesU:Pull→Int
 | .mk _ _ _ _ _ _ _ _ _ kids _=>nodesL 1 kids
def nodesL (a:Int):List Pull→Int
 | []=>a
 | p :: r=>nodesL (wr .i64 (a+nodesU p)) r
end
theorem nodesU_eq (p:Pull):nodesU p=nodesL 1 p.kids:=by cases p;rw [nodesU];rfl
theorem nodesL_snoc:∀ (d:List Pull) (a:Int) (x:Pull),nodesL a (d++[x])=wr .i64 (nodesL a d+nodesU x)
 | [],a,x=>by simp [nodesL]
 | y :: d,a,x=>by simp only [List.cons_append,nodesL];exact nodesL_snoc d _ x
section
variable {pg:Pg}
theorem c146 (hf:pg.fs 146=some cf146):∀ p:Pull,p.ok→Ret pg 146 [p.av] (.int .i64 (nodesU p)):=by
 refine Pull.ind' fun p ih hp=>?_
 obtain ⟨hb,hk⟩:=(Pull.ok_iff p).1 hp
 refine Ret.ofX hf ?_
 unfold cf146
 simp only [go_sem,seval]
 refine XX_listU p.kids (fun d e=>setD (setD e (some 9) (.int .i64 d.length)) (some 3) (.int .i64 (nodesL 1 d))) (fun d r hp=>True) (by simp only [nodesL];rfl) trivial ?_ ?_
 ·rintro hp -
  simp only [cf146L0,cf146M0,go_sem,seval]
  exact (nodesU_eq p).symm
 ·rintro d x r hp hes -
  have hx:=ih x (by rw [hes];simp) (hk x (by rw [hes];simp))
  rw [hes] at hb
  rw [hes]
  rw [Pull.avc] at hx
  simp only [cf146L0,cf146M0,go_sem,seval]
  refine XO_tree (hx) (by simp only [go_sem,seval]) rfl ?_
  simp only [wr_mid hb,nodesL_snoc,go_sem,seval]
theorem c209 (hf:pg.fs 209=some cf209) (n:Nat) (h0:0 < n) (hb:n≤1073741824):RetP pg 209 [.sl true [] true,.int .i64 n] (IsSl 1 false []):=by
 refine RetP.ofX hf ?_
 have e1:decide ((n:Int) < 0)=false:=by simp
 have e2:decide ((0:Int) < n)=true:=by simp;omega
 have e3:wr .i64 (n:Int)=n:=wr_small (by omega) (by omega)
 have e4:wr .i64 (0:Int)=0:=rfl
 unfold cf209
 simp only [e1,optI,sliceA,Int.sub_zero,Int.sub_self,e3,e4,e2,Option.getD_none,go_sem,seval]
 have hz:XO pg 0 (.apz 1 false 16 [.str []]) 1 [] [.sl true [] true,.int .i64 (n:Int)]=fun Q _=>Q (.rf 1 0 0 n n) (.pat [1] [⟨1,0,.blk (List.replicate n [.str []]).flatten 1 false false false⟩]):=by
  funext Q t
  have hn:n ≠ 0:=by omega
  show WO pg 0 _ 1 [] _ Q=_
  rw [WO_op rfl]
  have ha:allOne [AV.str []]=true:=rfl
  have hb':(n:Int)≤1073741824:=by omega
  simp [op1F,f_apz,hb,hb',ha,appA,hn,optQ,unchunk,Hp.next,get_nil]
 rw [hz]
 simp only [optI,sliceA,Option.getD_none,Option.getD_some,go_sem,seval]
 simp only [XV,optQ,Option.getD_none,Option.getD_some,Option.isNone_none,Bool.or_true,Int.toNat_zero,Nat.sub_zero]
 rw [if_pos (by simp)]
 simp only [go_sem,seval]
 simp only [chunk,List.drop_zero,conv,depth,snapX,mapS_nil,mapS_cons,go_sem,seval]
 exact ⟨_,by simp,.inr rfl⟩
theorem El.strs (l:List Str):∀ x∈l.map Str.av,El 1 false x:=by
 intro x hx
 simp only [List.mem_map] at hx
 obtain ⟨y,_,rfl⟩:=hx
 exact ⟨rfl,rfl,rfl⟩
theorem c184 (hf:pg.fs 184=some cf184) (h209:pg.fs 209=some cf209) (nl cl:Bool) (vars:List Str) (s:Str) (hb:vars.length≤big) :
  RetP pg 184 [.sl false [.sl nl (vars.map Str.av) cl,.sl false [.str s.bs] true] true] (IsSl 1 false ((vars++[s]).map Str.av)):=by
 refine RetP.ofX hf ?_
 simp only [big] at hb
 have e1:wr .i64 (vars.length:Int)=vars.length:=wr_small (by omega) (by omega)
 have e2:wr .i64 ((vars.length:Int)+1)=((vars.length+1:Nat):Int):=by rw [wr_small (by omega) (by omega)];omega
 have e3:decide ((vars.length:Int) < 0)=false:=by simp
 have e4:decide ((((vars.length+1:Nat):Int)) < 0)=false:=by simp;omega
 have e5:wr .i64 1=1:=rfl
 have e6:wr .i64 2=2:=rfl
 have e7:((1:Int).toNat)=1:=rfl
 have e8:(((2:Nat):Int))=2:=rfl
 have e13:(((1:Nat):Int))=1:=rfl
 have e9:decide ((0:Int) < 2)=true:=rfl
 have e10:decide ((1:Int) < 2)=true:=rfl
 have e11:decide ((2:Int) < 2)=false:=rfl
 have e12:((0:Int)≤1)=True:=by simp
 unfold cf184
 simp only [go_sem,seval]
 rw [XX_loop]
 simp only [cf184L0,cf184M0,e1,e3,Int.zero_add,e5,e8,e9,go_sem,seval]
 rw [XX_loop]
 simp only [cf184L0,cf184M0,e13,e2,e4,e5,e6,e7,e8,e10,e12,Int.reduceAdd,go_sem,seval]
 rw [XX_loop]
 simp only [cf184L0,cf184M0,e8,e11,go_sem,seval]
 refine XO_slO (c209 h209 (vars.length+1) (by omega) (by omega)) (by simp only [go_sem,seval]) (by simp) ?_
 intro v rd pa ho hk hpa
 simp only [go_sem,seval]
 rw [XX_loop]
 simp only [cf184L1,cf184M1,e8,e9,go_sem,seval]
 have hcat:∀ v':AV,∀ hp:Hp,Own hp 5 1 false v' (vars.map Str.av++[.str s.bs])→∃ r,conv hp v'=some r∧IsSl 1 false ((vars++[s]).map Str.av) r:=by
  intro v' hp ho'
  have:=ho'.conv (by have:=El.strs (vars++[s]);simpa [Str.av] using this)
  simpa [Str.av] using this
 have hfin:∀ (v':AV) (hp:Hp),(Own hp 1 1 false v' (vars.map Str.av)∧vars=[])∨Own hp 5 1 false v' (vars.map Str.av) →
   ∀ (Q:AV→Eff→Prop) (t:Tok Q),(∀ v2 rd pa,Own (Eff.app hp (.pat rd pa)) 5 1 false v2 (vars.map Str.av++[.str s.bs])→Q v2 (.pat rd pa))→XO pg 0 (.app 1 false 16) 5 hp [v',.sl false [.str s.bs] true] Q t:=by
  intro v' hp hor Q t hq
  have hs:∀ x∈[AV.str s.bs],El 1 false x:=by intro x hx;simp at hx;subst hx;exact ⟨rfl,rfl,rfl⟩
  rcases hor with ⟨ho',hv⟩ | ho'
  ·exact XO_own2 (kb:=0) (s:=5) ho' (by decide) (El.strs vars) hs (by simp;omega) (by omega) (fun h=>by simp at h) (fun _ v2 rd pa h _=>hq v2 rd pa h)
  ·exact XO_own (kb:=0) (s:=5) ho' (El.strs vars) hs (by simp;omega) (by omega) (fun v2 rd pa h _ _=>hq v2 rd pa h)
 have hrest:∀ (v':AV) (hp:Hp),(Own hp 1 1 false v' (vars.map Str.av)∧vars=[])∨Own hp 5 1 false v' (vars.map Str.av)→∀ env:List AV,
   clear cf184M1 env=cf184E1 v' (.sl false [.sl nl (vars.map Str.av) cl,.sl false [.str s.bs] true] true) (.int .i64 2) (.int .i64 1) →
   XX pg 0 (.loop cf184L1 cf184M1) ⟨env,hp⟩ (blockQ 2 (thenQ (fun st'=>XX pg 0 ((C.reg [⟨some 35,.mov,[.t 6],none,0,0⟩,⟨some 2,.mov,[.t 35],none,0,0⟩] false).seq C.ret) st' (endP [Sum.inl 2] (IsSl 1 false ((vars++[s]).map Str.av))) ⟨⟩) (endP [Sum.inl 2] (IsSl 1 false ((vars++[s]).map Str.av))))) ⟨⟩:=by
  intro v' hp hor env henv
  rw [XX_loop,henv]
  simp only [cf184L1,cf184E1,e8,e10,e7,e12,go_sem,seval]
  refine hfin v' hp hor _ _ ?_
  intro v2 rd pa ho2
  simp only [e6,e5,go_sem,seval]
  rw [XX_loop]
  simp only [cf184L1,cf184M1,e8,e11,Int.reduceAdd,e6,go_sem,seval]
  exact hcat _ _ ho2
 refine XO_own2 (kb:=0) (s:=5) (k1:=1) ho (by decide) (by simp) (El.strs vars) (by simp;omega) (by omega) ?_ ?_
 ·intro hx rd
  have hv:vars=[]:=by simpa using hx
  simp only [e5,go_sem,seval]
  exact hrest v _ (.inl ⟨by rw [hv];exact ho,hv⟩) _ rfl
 ·intro _ v' rd' pa' ho' _
  simp only [e5,go_sem,seval]
  exact hrest v' _ (.inr (by simpa using ho')) _ rfl
end
end Go.Tev
end
section
namespace Go.Tev
def nodeOK (p:Pull) (vars:List Str) (values:Int):Bool:=
 if p.op.bs=[99,111,110,115,116] then bareOK p true false false false false false&&decide ((p.kids.length:Int)=0)&&elemOKi p.num
 else if p.op.bs=[108,105,110,101,97,114] then bareOK p false false false true false false&&decide ((p.kids.length:Int)=0)&&decide ((p.at_.es.length:Int)=1)
 else if p.op.bs=[114,101,97,100] then readOK p values
 else if p.op.bs=[105,102] then bareOK p false false false true false false&&decide ((p.kids.length:Int)=2)&&decide ((p.at_.es.length:Int)=1)
 else if p.op.bs=[114,101,100,117,99,101] then bareOK p false false true true false true&&decide ((p.kids.length:Int)=2)&&decide ((p.at_.es.length:Int)=1)&&nameU p.name.bs && !hasS vars p.name.bs&&codeOK p.fn.es 2
 else if p.op.bs=[99,111,100,101] then bareOK p false false false false false true&&codeOK p.fn.es p.kids.length
 else match primT p.op.bs with
  | none=>false
  | some q=>bareOK p false false false false false false&&decide ((p.kids.length:Int)=(q.params.length:Int))
section
variable {pg:Pg}
set_option maxHeartbeats 1000000 in
theorem c182 (B:Base pg) (hf:pg.fs 182=some cf182) (h206:pg.fs 206=some cf206) (h148:pg.fs 148=some cf148) (h207:pg.fs 207=some cf207) (h98:pg.fs 98=some cf98) (h138:pg.fs 138=some cf138)
  (h70:∀ (nl cl:Bool) (fn:List Step),fn.length≤big→∀ n:Int,Ret pg 70 [.sl nl (fn.map Step.av) cl,.int .i64 n] (.bool (codeOK fn n))) (h140:∀ op,RetP pg 140 [.str op] (PrimR op))
  (p:Pull) (hk:p.kids.length≤big) (nl cl:Bool) (vars:List Str) (hb:vars.length≤big) (v:Int):Ret pg 182 [p.av,.sl nl (vars.map Str.av) cl,.int .i64 v] (.bool (nodeOK p vars v)):=by
 have k1:=c206_const h206 p
 have k2:=c206_lin h206 p
 have k3:=c206_red h206 p
 have k4:=c206_code h206 p
 have k5:=c206_op h206 p
 have k6:=c207 h207 h206 p hk v
 have k7:=c148i h148 p.num
 have k8:=B.name p.name
 have k9:Ret pg 98 [.sl nl (vars.map Str.av) cl,.str p.name.bs] (.bool (hasS vars p.name.bs)):=c98 h98 h138 nl cl vars hb p.name.bs
 have k10:=h70 p.fn.nl p.fn.cl p.fn.es p.fn.ok 2
 have k11:=h70 p.fn.nl p.fn.cl p.fn.es p.fn.ok p.kids.length
 rw [Pull.avc] at k1 k2 k3 k4 k5 k6
 refine Ret.ofX hf ?_
 clear h206 h148 h207 h98 h138 h70 B
 unfold cf182
 simp only [go_sem,seval]
 cases o1:decide (p.op.bs=[99,111,110,115,116])
 case true=>
  clear h140
  repeat' (first | simp only [*,go_sem,seval] | refine XG_split (fun _=>?_) (fun _=>?_) | refine XC_split (fun _=>?_) (fun _=>?_) | (refine XO_tree k1 (by simp only [go_sem,seval]) rfl ?_) | (refine XO_tree k7 (by simp only [go_sem,seval]) rfl ?_) | refine And.intro (by kernel_rfl) ?_)
  all_goals (clear k1 k2 k3 k4 k5 k6 k7 k8 k9 k10 k11)
  all_goals (simp_all [nodeOK])
 simp only [go_sem,seval]
 cases o2:decide (p.op.bs=[108,105,110,101,97,114])
 case true=>
  clear h140
  repeat' (first | simp only [*,go_sem,seval] | refine XG_split (fun _=>?_) (fun _=>?_) | refine XC_split (fun _=>?_) (fun _=>?_) | (refine XO_tree k2 (by simp only [go_sem,seval]) rfl ?_) | refine And.intro (by kernel_rfl) ?_)
  all_goals (clear k1 k2 k3 k4 k5 k6 k7 k8 k9 k10 k11)
  all_goals (simp_all [nodeOK])
 simp only [go_sem,seval]
 cases o3:decide (p.op.bs=[114,101,97,100])
 case true=>
  clear h140
  repeat' (first | simp only [*,go_sem,seval] | refine XG_split (fun _=>?_) (fun _=>?_) | refine XC_split (fun _=>?_) (fun _=>?_) | (refine XO_tree k6 (by simp only [go_sem,seval]) rfl ?_) | refine And.intro (by kernel_rfl) ?_)
  all_goals (clear k1 k2 k3 k4 k5 k6 k7 k8 k9 k10 k11)
  all_goals (simp_all [nodeOK])
 simp only [go_sem,seval]
 cases o4:decide (p.op.bs=[105,102])
 case true=>
  clear h140
  repeat' (first | simp only [*,go_sem,seval] | refine XG_split (fun _=>?_) (fun _=>?_) | refine XC_split (fun _=>?_) (fun _=>?_) | (refine XO_tree k2 (by simp only [go_sem,seval]) rfl ?_) | refine And.intro (by kernel_rfl) ?_)
  all_goals (clear k1 k2 k3 k4 k5 k6 k7 k8 k9 k10 k11)
  all_goals (simp_all [nodeOK])
 simp only [go_sem,seval]
 cases o5:decide (p.op.bs=[114,101,100,117,99,101])
 case true=>
  clear h140
  repeat' (first | simp only [*,go_sem,seval] | refine XG_split (fun _=>?_) (fun _=>?_) | refine XC_split (fun _=>?_) (fun _=>?_) | (refine XO_tree k3 (by simp only [go_sem,seval]) rfl ?_) | (refine XO_tree k8 (by simp only [go_sem,seval]) rfl ?_) | (refine XO_tree k9 (by simp only [go_sem,seval]) rfl ?_) | (refine XO_tree k10 (by simp only [go_sem,seval]) rfl ?_) | refine And.intro (by kernel_rfl) ?_)
  all_goals (clear k1 k2 k3 k4 k5 k6 k7 k8 k9 k10 k11)
  all_goals (simp_all [nodeOK])
 simp only [go_sem,seval]
 cases o6:decide (p.op.bs=[99,111,100,101])
 case true=>
  clear h140
  repeat' (first | simp only [*,go_sem,seval] | refine XG_split (fun _=>?_) (fun _=>?_) | refine XC_split (fun _=>?_) (fun _=>?_) | (refine XO_tree k4 (by simp only [go_sem,seval]) rfl ?_) | (refine XO_tree k11 (by simp only [go_sem,seval]) rfl ?_) | refine And.intro (by kernel_rfl) ?_)
  all_goals (clear k1 k2 k3 k4 k5 k6 k7 k8 k9 k10 k11)
  all_goals (simp_all [nodeOK])
 obtain ⟨r,hr,hP⟩:=h140 p.op.bs
 clear h140
 have hspec:nodeOK p vars v=match primT p.op.bs with
  | none=>false
  | some q=>bareOK p false false false false false false&&decide ((p.kids.length:Int)=(q.params.length:Int)):=by
  simp at o1 o2 o3 o4 o5 o6
  simp [nodeOK,o1,o2,o3,o4,o5,o6]
 generalize nodeOK p vars v=res at hspec ⊢
 obtain ⟨nl',cl',ps,rs,ok,rfl,hres⟩:∃ nl cl,∃ ps:List (List UInt8),∃ rs ok,r = .tup [.sl nl (ps.map .str) cl,.str rs,.bool ok]∧res=(ok&&bareOK p false false false false false false&&decide ((p.kids.length:Int)=(ps.length:Int))):=by
  unfold PrimR at hP
  cases hp:primT p.op.bs with
  | none=>
   rw [hp] at hP hspec
   exact ⟨_,_,[],_,_,hP,by simp [hspec]⟩
  | some q=>
   rw [hp] at hP hspec
   obtain ⟨nl,cl,hP⟩:=hP
   exact ⟨_,_,q.params,_,_,hP,by simp [hspec]⟩
 clear hP hspec
 have htr:treeL (ps.map AV.str)=true:=treeL_map (f:=AV.str) (fun _=>rfl) ps
 repeat' (first | simp only [*,go_sem,seval] | refine XG_split (fun _=>?_) (fun _=>?_) | refine XC_split (fun _=>?_) (fun _=>?_) | (refine XO_tree hr (by simp only [go_sem,seval]) rfl ?_) | (refine XO_tree k5 (by simp only [go_sem,seval]) rfl ?_) | refine And.intro (by kernel_rfl) ?_)
 all_goals (clear k1 k2 k3 k4 k5 k6 k7 k8 k9 k10 k11 hr)
 all_goals (simp_all)
end
end Go.Tev
end
