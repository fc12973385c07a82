import Derived.Test.YtdpdokigjeaaiaaGreatDoorRMm
import Derived.Test.YtdpdokigjeaaiaaGreatDoorNIm
set_option linter.all false
section
namespace Go.Tev
section
variable {pg:Pg}
end
end Go.Tev
end
section
namespace Go.Tev
structure Code3 (pg:Pg):Prop where
 f10:pg.fs 10=some cf10
 f15:pg.fs 15=some cf15
 f22:pg.fs 22=some cf22
 f31:pg.fs 31=some cf31
 f37:pg.fs 37=some cf37
 f38:pg.fs 38=some cf38
 f49:pg.fs 49=some cf49
 f50:pg.fs 50=some cf50
 f54:pg.fs 54=some cf54
 f55:pg.fs 55=some cf55
 f77:pg.fs 77=some cf77
 f78:pg.fs 78=some cf78
 f79:pg.fs 79=some cf79
 f80:pg.fs 80=some cf80
 f81:pg.fs 81=some cf81
 f82:pg.fs 82=some cf82
 f83:pg.fs 83=some cf83
 f84:pg.fs 84=some cf84
 f85:pg.fs 85=some cf85
 f86:pg.fs 86=some cf86
 f87:pg.fs 87=some cf87
 f88:pg.fs 88=some cf88
 f90:pg.fs 90=some cf90
 f114:pg.fs 114=some cf114
 f115:pg.fs 115=some cf115
 f116:pg.fs 116=some cf116
 f117:pg.fs 117=some cf117
 f118:pg.fs 118=some cf118
 f119:pg.fs 119=some cf119
 f120:pg.fs 120=some cf120
 f121:pg.fs 121=some cf121
 f122:pg.fs 122=some cf122
 f123:pg.fs 123=some cf123
 f124:pg.fs 124=some cf124
 f125:pg.fs 125=some cf125
 f160:pg.fs 160=some cf160
 f161:pg.fs 161=some cf161
 f162:pg.fs 162=some cf162
 f163:pg.fs 163=some cf163
 f164:pg.fs 164=some cf164
 f191:pg.fs 191=some cf191
 f192:pg.fs 192=some cf192
 f193:pg.fs 193=some cf193
 f194:pg.fs 194=some cf194
section
variable {pg:Pg}
theorem all31 (C:Go.Tev.Code pg) (D:Code3 pg) (k:Kernels) (hq:∀ q∈k.list.es,q.body.ok∧q.index.ok∧k.vars.es.length+9+q.body.sz≤big∧k.vars.es.length+9+q.index.sz≤big) :
  Ret pg 31 [k.av] (.tup [.int .i64 (fuseV k).1,.int .i64 (fuseV k).2]):=by
 have h77:∀ s:Str,Ret pg 77 [.str s.bs] (.bool (nameU s.bs)):=fun s=>c77 D.f77 D.f114 D.f115 s.bs s.ok
 have h54:∀ l:Lin,Ret pg 54 [l.av] (.bool (linOK l)):=c54 D.f54 h77 D.f90
 have h80:∀ (nl cl:Bool) (ls:List Lin),ls.length≤big→∀ (nl' cl':Bool) (vars:List Str),vars.length≤big→Ret pg 80 [.sl nl (ls.map Lin.av) cl,.sl nl' (vars.map Str.av) cl'] (.bool (overOK ls vars)):=
  fun nl cl ls hb nl' cl' vars hb'=>c80 D.f80 h54 nl cl ls hb nl' cl' vars hb'
 have h79:=c79 D.f79 (c116 D.f116 D.f160) (c117 D.f117 h54 h77)
 have h49:=c49 D.f49 h77 D.f78 h79 h80
 have h121:=c121 D.f121 D.f162 D.f191
 have h118:=c118 D.f118 D.f161 D.f15 h121
 have h85:∀ (nl cl nl' cl':Bool) (a b:List Lin),a.length≤big→b.length≤big→Ret pg 85 [.sl nl (a.map Lin.av) cl,.sl nl' (b.map Lin.av) cl'] (.bool (eqL linEq a b)):=fun nl cl nl' cl' a b ha hb=>c85 D.f85 h121 nl cl nl' cl' a b ha hb
 have h81:∀ x y:Kernel,x.body.ok→x.index.ok→Ret pg 81 [x.av,y.av] (.bool (kernEq x y)):=fun x y hx hi=>c81 D.f81 D.f85 h121 h118 D.f119 x y hx hi
 have h125:=c125 D.f125
 have h120:∀ (op:List UInt8) (nl cl:Bool) (kids:List Bool),kids.length≤big→Ret pg 120 [.str op,.sl nl (kids.map AV.bool) cl] (.bool (holdsU op kids)):=fun op nl cl kids hb=>c120 D.f120 h125 op nl cl kids hb
 have h84:∀ (nl cl:Bool) (code:List Step),code.length≤16777216→∀ (nl' cl':Bool) (args:List Bool),args.length≤16777216→Ret pg 84 [.sl nl (code.map Step.av) cl,.sl nl' (args.map AV.bool) cl'] (.bool (truthsU code args)):=
  fun nl cl code hb nl' cl' args hb'=>c84 D.f84 h120 nl cl code hb nl' cl' args hb'
 have h83:∀ (nl cl:Bool) (vals:List Typ) (p:Pull),p.ok→Ret pg 83 [p.av,.sl nl (vals.map Typ.av) cl] (.bool (truthPU vals p)):=fun nl cl vals p hp=>c83 D.f83 h84 h120 nl cl vals p hp
 have h87:∀ (nl cl:Bool) (fn:List Step),fn.length≤big→∀ n:Int,Ret pg 87 [.sl nl (fn.map Step.av) cl,.int .i64 n] (.bool (codeOK fn n)):=fun nl cl fn hb n=>c87 D.f87 D.f124 h125 nl cl fn hb n
 have h88:=c88 D.f88 h121
 have h192:=c192 D.f192 h125
 have h193:∀ (nl cl:Bool) (ls:List Lin),ls.length≤big→∀ (nl' cl':Bool) (vars:List Str),vars.length≤big→Ret pg 193 [.sl nl (ls.map Lin.av) cl,.sl nl' (vars.map Str.av) cl'] (.bool (overOK ls vars)):=
  fun nl cl ls hb nl' cl' vars hb'=>c193 D.f193 h54 D.f194 nl cl ls hb nl' cl' vars hb'
 have h164:=c164 D.f164 h192 h118 h193 D.f124 h77 D.f194 h87
 have h123:∀ p:Pull,p.ok→∀ (nl cl:Bool) (vars:List Str),vars.length+p.sz≤big→∀ v:Int,Ret pg 123 [p.av,.sl nl (vars.map Str.av) cl,.int .i64 v] (.bool (pullOK p vars v)):=
  fun p hp nl cl vars hb v=>c123 D.f123 C.f40 h164 p hp nl cl vars hb v
 have h86:∀ (k:Kernels) (p:Pull),p.ok→∀ n:Nat,n≤9→k.vars.es.length+n+p.sz≤big→∀ (nl cl:Bool) (there:List Bool),there.length=k.values.es.length→Ret pg 86 [p.av,k.av,.int .i64 n,.sl nl (there.map AV.bool) cl] (.bool (refPulls k p n there)):=
  fun k p hpo n hn hsz nl cl th hth=>c86 D.f86 (c122 D.f122 D.f163) h123 (c37 D.f37 D.f55) k p hpo n hn hsz nl cl th hth
 exact c31 D.f31 h49 (fun k hin hvals nl cl th hth q second hbo hio hbs his=>c50 D.f50 D.f82 h81 h83 h84 h85 h86 h87 h88 k hin hvals nl cl th hth q second hbo hio hbs his) k hq
theorem refsR_len {q:Kernel} {N:Nat} (h:q.body.sz+q.index.sz+1≤N):(refsR q).length≤N:=by
 have h1:=readsR_len q.body
 have h2:=readsR_len q.index
 have h4:=putsI_len (readsR q.index) (readsR q.body)
 have h5:=putI_len q.source (putsI (readsR q.body) (readsR q.index))
 simp only [refsR]
 split
 ·split<;>omega
 ·omega
theorem all10 (C:Go.Tev.Code pg) (D:Code3 pg) (k:Kernels) (hk:KOK k):RetP pg 10 [k.av] (spansRR k):=
 c10 D.f10 k (all31 C D k hk.ks) (fun q hq=>c22 D.f22 (c37 D.f37 D.f55) D.f38 q (hk.ks q hq).1 (hk.ks q hq).2.1 (by have:=hk.sz q hq;omega)) (fun q hq=>refsR_len (by have:=hk.sz q hq;omega))
end
end Go.Tev
end
