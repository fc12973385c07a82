import Derived.Test.YtapbonkiigealaaGreatDoorOAZ
import Derived.Test.YtapbonkiigealaaGreatDoorOAT
import Derived.Test.YtapbonkiigealaaGreatDoorOAP
import Derived.Test.YtapbonkiigealaaGreatDoorOAY
import Derived.Test.YtapbonkiigealaaGreatDoorOAS
set_option linter.all false
section
namespace Go.Tev
section
variable {pg:Pg}
end
end Go.Tev
end
section
namespace Go.Tev
section
variable {pg:Pg}
end
end Go.Tev
end
section
namespace Go.Tev
def uses (q:Kernel) (n:Nat):Prop:=n=q.value.toNat∨n∈(readsK q).map Int.toNat
end Go.Tev
end
section
namespace Go.Tev
end Go.Tev
end
section
namespace Go.Tev
def sRead (v:Int) (i:Int) (l:List Int) (s:Sp):Sp:=if l.any (fun w=>decide (w=v)) then (s.1,i) else s
def sVal (v:Int) (i:Int) (q:Kernel) (s:Sp):Sp:=if decide (q.value=v) then (if decide (s.1 = -2) then i else s.1,i) else s
def sKer (v:Int) (i:Int) (q:Kernel) (s:Sp):Sp:=sRead v i (refsR q) (sVal v i q s)
def s0 (k:Kernels) (v:Int):Sp:=if decide (v < k.inputs) then (-1,-1) else (-2,-2)
section
variable {pg:Pg}
end
end Go.Tev
end
section
namespace Go.Tev
structure CodeNV (pg:Pg):Prop where
 f15:pg.fs 15=some cf15
 f25:pg.fs 25=some cf25
 f26:pg.fs 26=some cf26
 f40:pg.fs 40=some cf40
 f41:pg.fs 41=some cf41
 f42:pg.fs 42=some cf42
 f51:pg.fs 51=some cf51
 f54:pg.fs 54=some cf54
 f56:pg.fs 56=some cf56
 f57:pg.fs 57=some cf57
 f67:pg.fs 67=some cf67
 f70:pg.fs 70=some cf70
 f77:pg.fs 77=some cf77
 f87:pg.fs 87=some cf87
 f89:pg.fs 89=some cf89
 f90:pg.fs 90=some cf90
 f91:pg.fs 91=some cf91
 f95:pg.fs 95=some cf95
 f96:pg.fs 96=some cf96
 f98:pg.fs 98=some cf98
 f105:pg.fs 105=some cf105
 f106:pg.fs 106=some cf106
 f107:pg.fs 107=some cf107
 f109:pg.fs 109=some cf109
 f111:pg.fs 111=some cf111
 f114:pg.fs 114=some cf114
 f115:pg.fs 115=some cf115
 f118:pg.fs 118=some cf118
 f121:pg.fs 121=some cf121
 f123:pg.fs 123=some cf123
 f124:pg.fs 124=some cf124
 f125:pg.fs 125=some cf125
 f126:pg.fs 126=some cf126
 f137:pg.fs 137=some cf137
 f138:pg.fs 138=some cf138
 f140:pg.fs 140=some cf140
 f143:pg.fs 143=some cf143
 f144:pg.fs 144=some cf144
 f145:pg.fs 145=some cf145
 f146:pg.fs 146=some cf146
 f147:pg.fs 147=some cf147
 f148:pg.fs 148=some cf148
 f161:pg.fs 161=some cf161
 f162:pg.fs 162=some cf162
 f164:pg.fs 164=some cf164
 f175:pg.fs 175=some cf175
 f177:pg.fs 177=some cf177
 f179:pg.fs 179=some cf179
 f180:pg.fs 180=some cf180
 f181:pg.fs 181=some cf181
 f182:pg.fs 182=some cf182
 f183:pg.fs 183=some cf183
 f184:pg.fs 184=some cf184
 f191:pg.fs 191=some cf191
 f192:pg.fs 192=some cf192
 f193:pg.fs 193=some cf193
 f194:pg.fs 194=some cf194
 f205:pg.fs 205=some cf205
 f206:pg.fs 206=some cf206
 f207:pg.fs 207=some cf207
 f208:pg.fs 208=some cf208
 f209:pg.fs 209=some cf209
 f557:pg.fs 557=some cf557
 f558:pg.fs 558=some cf558
 f570:pg.fs 570=some cf570
 f571:pg.fs 571=some cf571
 f572:pg.fs 572=some cf572
 f573:pg.fs 573=some cf573
 f574:pg.fs 574=some cf574
 f592:pg.fs 592=some cf592
 f593:pg.fs 593=some cf593
 f594:pg.fs 594=some cf594
 f595:pg.fs 595=some cf595
 f607:pg.fs 607=some cf607
section
variable {pg:Pg}
theorem all571 (C:CodeNV pg) (A:Ora pg) (nl cl:Bool) (ls:List Lin) (hb:ls.length≤big) (nl' cl':Bool) (vars:List Str) (hb':vars.length≤big):Ret pg 571 [.sl nl (ls.map Lin.av) cl,.sl nl' (vars.map Str.av) cl'] (.bool (overOK ls vars)):=
 c571 C.f571 C.f175 C.f205 (fun nl cl es hb l=>c592 C.f592 (c51 C.f51 C.f89 (c57 A C.f57 C.f91 C.f126)) C.f593 C.f607 C.f594 C.f98 C.f138 nl cl es hb l) nl cl ls hb nl' cl' vars hb'
theorem all109 (C:CodeNV pg) (A:Ora pg) (p:Pull) (hp:p.ok) (nl cl:Bool) (vars:List Str) (hb:vars.length+p.sz≤big) (v:Int):Ret pg 109 [p.av,.sl nl (vars.map Str.av) cl,.int .i64 v] (.bool (pullOK p vars v)):=by
 have h57:=c57 A C.f57 C.f91 C.f126
 have h51:∀ l:Lin,Ret pg 51 [l.av] (.bool (linOK l)):=c51 C.f51 C.f89 h57
 have h183:∀ (nl cl:Bool) (ls:List Lin),ls.length≤big→∀ (nl' cl':Bool) (vars:List Str),vars.length≤big→Ret pg 183 [.sl nl (ls.map Lin.av) cl,.sl nl' (vars.map Str.av) cl'] (.bool (overOK ls vars)):=
  fun nl cl ls hb nl' cl' vars hb'=>overF_ok (g:=208) C.f183 h51 C.f96 C.f95 C.f137 C.f208 C.f98 C.f138 nl cl ls hb nl' cl' vars hb'
 have h140:∀ op,RetP pg 140 [.str op] (PrimR op):=c140 C.f140 C.f177 C.f107
 have h111:=c111 C.f111 C.f148 h140
 have h70:∀ (nl cl:Bool) (fn:List Step),fn.length≤big→∀ n:Int,Ret pg 70 [.sl nl (fn.map Step.av) cl,.int .i64 n] (.bool (codeOK fn n)):=fun nl cl fn hb n=>c70 C.f70 h111 nl cl fn hb n
 have h182:∀ (p:Pull),p.kids.length≤big→∀ (nl cl:Bool) (vars:List Str),vars.length≤big→∀ v:Int,Ret pg 182 [p.av,.sl nl (vars.map Str.av) cl,.int .i64 v] (.bool (nodeOK p vars v)):=
  fun p hp nl cl vars hb v=>c182 h57 C.f182 C.f206 C.f148 C.f207 C.f98 C.f138 h70 h140 p hp nl cl vars hb v
 have h147:∀ p:Pull,p.ok→∀ (nl cl:Bool) (vars:List Str),vars.length+p.sz≤big→∀ v:Int,Ret pg 147 [p.av,.sl nl (vars.map Str.av) cl,.int .i64 v] (.bool (validU v p vars)):=
  fun p hp nl cl vars hb v=>c147 C.f147 h182 h183 C.f184 C.f209 v p hp nl cl vars hb
 exact c109 C.f109 C.f146 h147 p hp nl cl vars hb v
theorem all105 (C:CodeNV pg) (p q:Pull) (hp:p.ok):Ret pg 105 [p.av,q.av] (.bool (pullEq p q)):=by
 have h180:=c180 C.f180 C.f181
 have h179:∀ (nl cl nl' cl':Bool) (es es':List Step),es.length≤big→Ret pg 179 [.sl nl (es.map Step.av) cl,.sl nl' (es'.map Step.av) cl',.fn 180 []] (.bool (eqL stepEq es es')):=fun nl cl nl' cl' es es' hb=>c179 C.f179 h180 nl cl nl' cl' es es' hb
 have h144:∀ (nl cl nl' cl':Bool) (es es':List Step),es.length≤big→Ret pg 144 [.sl nl (es.map Step.av) cl,.sl nl' (es'.map Step.av) cl'] (.bool (eqL stepEq es es')):=fun nl cl nl' cl' es es' hb=>c144 C.f144 h179 nl cl nl' cl' es es' hb
 have h67a:∀ (nl cl nl' cl':Bool) (es es':List Lin),es.length≤big→Ret pg 67 [.sl nl (es.map Lin.av) cl,.sl nl' (es'.map Lin.av) cl',.fn 143 []] (.bool (eqL linEq es es')):=fun nl cl nl' cl' es es' hb=>c67 C.f67 143 (c143 C.f143 C.f106) nl cl nl' cl' es es' hb
 exact c105 C.f105 h67a h144 C.f145 p hp q
theorem all557 (C:CodeNV pg) (A:Ora pg) (n:Nest) (nl cl:Bool) (vars:List Str) (hnl:nl=true→vars=[]) (hn:NestOK n vars) (values:Int):Ret pg 557 [n.av,.sl nl (vars.map Str.av) cl,.int .i64 values] (.bool (nestOK n vars values)):=
 c557 C.f557 (fun nl cl l nl' cl' vars hnl' hb=>c570 C.f570 C.f107 (c57 A C.f57 C.f91 C.f126) C.f98 C.f138 (all571 C A) nl cl l nl' cl' vars hnl' hb) (all571 C A) (all109 C A) (all105 C) n nl cl vars hnl hn.sz' values
theorem all118 (C:CodeNV pg) (p q:Pull) (hp:p.ok):Ret pg 118 [p.av,q.av] (.bool (pullEq p q)):=c118 C.f118 C.f161 C.f15 (c121 C.f121 C.f162 C.f191) p hp q
theorem all123 (C:CodeNV pg) (p:Pull) (hp:p.ok) (nl cl:Bool) (vars:List Str) (hb:vars.length+p.sz≤big) (v:Int):Ret pg 123 [p.av,.sl nl (vars.map Str.av) cl,.int .i64 v] (.bool (pullOK p vars v)):=by
 have h77:∀ s:Str,Ret pg 77 [.str s.bs] (.bool (nameU s.bs)):=fun s=>c77 C.f77 C.f114 C.f115 s.bs s.ok
 have h54:∀ l:Lin,Ret pg 54 [l.av] (.bool (linOK l)):=c54 C.f54 h77 C.f90
 have h121:=c121 C.f121 C.f162 C.f191
 have h118:=c118 C.f118 C.f161 C.f15 h121
 have h125:=c125 C.f125
 have h87:∀ (nl cl:Bool) (fn:List Step),fn.length≤big→∀ n:Int,Ret pg 87 [.sl nl (fn.map Step.av) cl,.int .i64 n] (.bool (codeOK fn n)):=fun nl cl fn hb n=>c87 C.f87 C.f124 h125 nl cl fn hb n
 have h192:=c192 C.f192 h125
 have h193:∀ (nl cl:Bool) (ls:List Lin),ls.length≤big→∀ (nl' cl':Bool) (vars:List Str),vars.length≤big→Ret pg 193 [.sl nl (ls.map Lin.av) cl,.sl nl' (vars.map Str.av) cl'] (.bool (overOK ls vars)):=
  fun nl cl ls hb nl' cl' vars hb'=>c193 C.f193 h54 C.f194 nl cl ls hb nl' cl' vars hb'
 exact c123 C.f123 C.f40 (c164 C.f164 h192 h118 h193 C.f124 h77 C.f194 h87) p hp nl cl vars hb v
theorem all558 (C:CodeNV pg) (n:Nest) (nl cl:Bool) (vars:List Str) (hn:NestOK n vars) (values:Int):Ret pg 558 [n.av,.sl nl (vars.map Str.av) cl,.int .i64 values] (.bool (nestOK n vars values)):=by
 have h77:∀ s:Str,Ret pg 77 [.str s.bs] (.bool (nameU s.bs)):=fun s=>c77 C.f77 C.f114 C.f115 s.bs s.ok
 have h54:∀ l:Lin,Ret pg 54 [l.av] (.bool (linOK l)):=c54 C.f54 h77 C.f90
 exact c558 C.f558 h77 C.f572 (fun l nl cl vars hb=>c573 C.f573 h54 C.f595 C.f572 l nl cl vars hb) (all123 C) (c574 C.f574 (all118 C)) n nl cl vars hn.sz' values
theorem all25' (C:CodeNV pg) (p:Pull) (hp:p.ok):Ret pg 25 [p.av] (.bool (few25 p)):=c25 C.f25 C.f40 C.f41 C.f42 C.f56 C.f26 p hp
end
end Go.Tev
end
section
namespace Go.Tev
def IsBT (p:Prop) (r:AV):Prop:=∃ b:Bool,r = .bool b∧(b=true→p)
theorem isBT_f {p:Prop}:IsBT p (.bool false):=⟨false,rfl,fun h=>by cases h⟩
theorem isBT_t {p:Prop} (h:p):IsBT p (.bool true):=⟨true,rfl,fun _=>h⟩
section
variable {pg:Pg}
theorem c568r (hf:pg.fs 568=some cf568) (nl cl:Bool) (ls:List Lin) (hb:ls.length≤big):RetP pg 568 [.sl nl (ls.map Lin.av) cl] (IsBT (ls.length≤8)):=by
 refine RetP.ofX hf ?_
 unfold cf568
 simp only [go_sem,seval]
 refine XX_list ls (fun d r env hp=>env=cf568E1 (.sl nl (ls.map Lin.av) cl) (.int .i64 d.length)) ?_ ?_ ?_
 ·rfl
 ·rintro env hp rfl
  cases b0:decide ((ls.length:Int)≤8)
  ·simp only [cf568L1,cf568E1,ltSelf,b0,go_sem,seval]
   exact isBT_f
  ·simp only [cf568L1,cf568E1,ltSelf,b0,go_sem,seval]
   exact isBT_t (by have:=of_decide_eq_true b0;omega)
 ·rintro d x r env hp hes rfl
  obtain ⟨hget,e1,e2,ew⟩:=loopF hes hb
  have hlb:=x.ts.ok
  cases b1:decide (6 < (x.ts.es.length:Int))
  case true=>
   simp only [cf568L1,cf568E1,e1,e2,hget,b1,go_sem,seval]
   exact isBT_f
  cases b2:decide (x.c < -100)
  case true=>
   simp only [cf568L1,cf568E1,e1,e2,hget,b1,b2,go_sem,seval]
   exact isBT_f
  cases b3:decide (100 < x.c)
  case true=>
   simp only [cf568L1,cf568E1,e1,e2,hget,b1,b2,b3,go_sem,seval]
   exact isBT_f
  simp only [cf568L1,cf568E1,e1,e2,hget,b1,b2,b3,go_sem,seval]
  refine XX_list x.ts.es (fun d2 r2 env hp=>env=cf568E0 (.sl nl (ls.map Lin.av) cl) (.int .i64 d.length) (.int .i64 d2.length)) ?_ ?_ ?_
  ·rfl
  ·rintro env hp rfl
   simp only [cf568L0,cf568E0,ltSelf,hget,e1,e2,ew,go_sem,seval]
   rfl
  ·rintro d2 y r2 env hp he2 rfl
   obtain ⟨hget2,f1,f2,fw⟩:=loopF he2 hlb
   cases b4:decide (y.c < -100)
   case true=>
    simp only [cf568L0,cf568E0,e1,e2,hget,hget2,f1,f2,b4,go_sem,seval]
    exact isBT_f
   cases b5:decide (100 < y.c)
   case true=>
    simp only [cf568L0,cf568E0,e1,e2,hget,hget2,f1,f2,b4,b5,go_sem,seval]
    exact isBT_f
   cases b6:decide (35 < (y.v.bs.length:Int))
   case true=>
    simp only [cf568L0,cf568E0,e1,e2,hget,hget2,f1,f2,b4,b5,b6,go_sem,seval]
    exact isBT_f
   simp only [cf568L0,cf568E0,e1,e2,hget,hget2,f1,f2,b4,b5,b6,fw,go_sem,seval]
   rfl
set_option maxHeartbeats 4000000 in
theorem c559 (hf:pg.fs 559=some cf559) (h568:∀ (nl cl:Bool) (ls:List Lin),ls.length≤big→RetP pg 568 [.sl nl (ls.map Lin.av) cl] (IsBT (ls.length≤8))) (h569:∀ p:Pull,p.ok→RetP pg 569 [p.av] IsB)
  (k:Kernels) (K:KOK k):RetP pg 559 [k.av] (IsBT (Short k)):=by
 have vb:=k.values.ok
 have lb:=k.list.ok
 refine RetP.ofX hf ?_
 unfold cf559
 cases b1:decide (5 < (k.list.es.length:Int))
 case true=>simp only [b1,go_sem,seval];exact isBT_f
 cases b2:decide (8 < (k.values.es.length:Int))
 case true=>simp only [b1,b2,go_sem,seval];exact isBT_f
 cases b3:decide (6 < (k.vars.es.length:Int))
 case true=>simp only [b1,b2,b3,go_sem,seval];exact isBT_f
 cases b4:decide (8 < (k.results.es.length:Int))
 case true=>simp only [b1,b2,b3,b4,go_sem,seval];exact isBT_f
 cases b5:decide (6 < (k.wher.es.length:Int))
 case true=>simp only [b1,b2,b3,b4,b5,go_sem,seval];exact isBT_f
 simp only [b1,b2,b3,b4,b5,go_sem,seval]
 refine XX_list k.values.es (fun d r env hp=>env=cf559E0 (.pt 1 0 0) (.int .i64 d.length)∧hp.get 1=some (0,.blk (kcell k k.list.es k.values.es) 6 true true false)∧∀ t∈d,t.shape.dims.es.length < 10) ?_ ?_ ?_
 ·exact ⟨rfl,rfl,by simp⟩
 ·rintro env hp ⟨rfl,h1,hI⟩
  have h0:=h1
  simp only [kcell] at h1
  simp only [cf559L0,cf559E0,ltSelf,h1,go_sem,seval]
  refine XX_list k.list.es (fun d r env hp=>env=cf559E1 (.pt 1 0 0) (.int .i64 d.length)∧hp.get 1=some (0,.blk (kcell k k.list.es k.values.es) 6 true true false)∧∀ q∈d,q.space.es.length < 10) ?_ ?_ ?_
  ·exact ⟨rfl,by first | exact h0 | rfl,by simp⟩
  ·rintro env hp ⟨rfl,h1,hJ⟩
   simp only [kcell] at h1
   simp only [cf559L1,cf559E1,ltSelf,h1,go_sem,seval]
   exact isBT_t ⟨hJ,hI⟩
  ·rintro d x r env hp hes ⟨rfl,h1,hJ⟩
   have h0:=h1
   simp only [kcell] at h1
   obtain ⟨hget,e1,e2,ew⟩:=loopF hes lb
   obtain ⟨hbo,hio,_,_⟩:=K.ks x (by rw [hes];simp)
   obtain ⟨r1,a1,c1,rfl,hc1⟩:=h568 x.space.nl x.space.cl x.space.es x.space.ok
   obtain ⟨r2,a2,c2,rfl⟩:=h569 x.body hbo
   obtain ⟨r3,a3,c3,rfl⟩:=h569 x.index hio
   rw [Pull.avc] at a2 a3
   simp only [cf559L1,cf559E1,e1,e2,hget,h1,go_sem,seval]
   refine XO_tree (a1) (by simp only [go_sem,seval]) rfl ?_
   cases c1
   ·simp only [go_sem,seval]
    exact isBT_f
   simp only [h1,hget,e2,go_sem,seval]
   refine XO_tree (a2) (by simp only [go_sem,seval]) rfl ?_
   cases c2
   ·simp only [go_sem,seval]
    exact isBT_f
   simp only [h1,hget,e2,go_sem,seval]
   refine XO_tree (a3) (by simp only [go_sem,seval]) rfl ?_
   cases c3
   ·simp only [go_sem,seval]
    exact isBT_f
   cases b6:decide (8 < (x.fn.es.length:Int))
   ·simp only [h1,hget,e2,b6,ew,go_sem,seval]
    refine ⟨rfl,by first | exact h0 | rfl,fun q hq=>?_⟩
    rcases List.mem_append.1 hq with hq | hq
    ·exact hJ q hq
    ·simp at hq;subst hq;have:=hc1 rfl;omega
   ·simp only [h1,hget,e2,b6,go_sem,seval]
    exact isBT_f
 ·rintro d x r env hp hes ⟨rfl,h1,hI⟩
  have h0:=h1
  simp only [kcell] at h1
  obtain ⟨hget,e1,e2,ew⟩:=loopF hes vb
  obtain ⟨r1,a1,c1,rfl,hc1⟩:=h568 x.shape.dims.nl x.shape.dims.cl x.shape.dims.es x.shape.dims.ok
  simp only [cf559L0,cf559E0,e1,e2,hget,h1,go_sem,seval]
  refine XO_tree (a1) (by simp only [go_sem,seval]) rfl ?_
  cases c1
  ·simp only [go_sem,seval]
   exact isBT_f
  ·simp only [ew,go_sem,seval]
   refine ⟨rfl,by first | exact h0 | rfl,fun q hq=>?_⟩
   rcases List.mem_append.1 hq with hq | hq
   ·exact hI q hq
   ·simp at hq;subst hq;have:=hc1 rfl;omega
theorem c583 (hf:pg.fs 583=some cf583) (h162:∀ a b:Lin,Ret pg 162 [a.av,b.av] (.bool (linEq a b))) (nl cl nl' cl':Bool) (a b:List Lin) (hb:a.length≤big):Ret pg 583 [.sl nl (a.map Lin.av) cl,.sl nl' (b.map Lin.av) cl'] (.bool (eqL linEq a b)):=by
 refine Ret.ofX hf ?_
 unfold cf583
 cases b2:decide ((a.length:Int)=(b.length:Int))
 case false=>
  simp only [b2,go_sem,seval]
  rw [eqL_ne b2]
 case true=>
 have hl:a.length=b.length:=by have:=of_decide_eq_true b2;omega
 simp only [b2,go_sem,seval]
 refine XX_list a (fun d r env hp=>env=cf583E0 (.sl nl (a.map Lin.av) cl) (.sl nl' (b.map Lin.av) cl') (.int .i64 d.length)∧eqL linEq a b=eqL linEq r (b.drop d.length)) ?_ ?_ ?_
 ·exact ⟨rfl,rfl⟩
 ·rintro env hp ⟨rfl,hI⟩
  simp only [cf583L0,cf583E0,ltSelf,go_sem,seval]
  rw [hI,loopG_end hl]
 ·rintro d x r env hp hes ⟨rfl,hI⟩
  obtain ⟨hget,e1,e2,ew⟩:=loopF hes hb
  obtain ⟨y,gy,f1,f2,hq⟩:=loopG (q:=linEq) hes hl
  rw [hq] at hI
  simp only [cf583L0,cf583E0,e1,e2,hget,gy,f1,f2,go_sem,seval]
  refine XO_tree (h162 x y) (by simp only [go_sem,seval]) rfl ?_
  cases hxy:linEq x y
  ·simp only [go_sem,seval]
   exact ⟨by kernel_rfl,by rw [hI,hxy];rfl⟩
  ·simp only [ew,go_sem,seval]
   exact ⟨by kernel_rfl,rfl,by rw [hI,hxy,Bool.true_and]⟩
end
end Go.Tev
end
