import Derived.KernelRfl
import Derived.Shelf.Strconv.Itoa3
import Derived.Shelf.LaysM
import Derived.Shelf.LaysC
import Derived.Shelf.Strconv.AtoiAll
import Derived.Shelf.Sort.Plain
import Derived.Shelf.Slices.CompactI
import Derived.Shelf.Slices.In.SortNone
import Derived.Ground.Names2Prog
import Derived.Test.YtmcadllokkmeiaaGreatDoorProg
import Derived.Test.YtmcadllokkmeiaaGreatDoorBAN
import Derived.Test.YtmcadllokkmeiaaGreatDoorBAR
import Derived.Test.YtmcadllokkmeiaaGreatDoorBAU
import Derived.Lib.AppendIntMem
set_option linter.all false
section
namespace Go.Proofs
open Go.Shelf
def Tryz.laysM171_ren:Go.Shelf.Ren:=⟨λ|171=>142|243=>202|246=>248|283=>297|284=>298|285=>299|286=>300|129=>115|317=>333|318=>334|319=>335|320=>336|337=>348|338=>349|n=>n,λ|3=>3|9=>9|2=>2|4=>4|171=>324|0=>0|53=>170|37=>198|5=>5|173=>326|212=>353|51=>168|20=>20|213=>354|46=>133|232=>368|233=>369|n=>n,λ|17=>3|18=>6|19=>7|n=>n⟩
theorem aQ{α : Type}{x:Option α}{a b : α}(h:x=some a)(k:a=b:=by kernel_rfl):x=some b:=h.trans (congrArg some k)
theorem Tryz.laysM171:Go.Proofs.LaysM.n171 Tryz.prog Tryz.laysM171_ren:={
 mixed:=by kernel_rfl
 f129:=aQ Tryz.func115
 f171:=aQ Tryz.func142
 f243:=aQ Tryz.func202
 f246:=aQ Tryz.func248
 f283:=aQ Tryz.func297
 f284:=aQ Tryz.func298
 f285:=aQ Tryz.func299
 f286:=aQ Tryz.func300
 f317:=aQ Tryz.func333
 f318:=aQ Tryz.func334
 f319:=aQ Tryz.func335
 f320:=aQ Tryz.func336
 f337:=aQ Tryz.func348
 f338:=aQ Tryz.func349
 t0:=Tryz.underlying0
 a0:=Tryz.isAgg0
 z0:=Tryz.sizeOf0
 v0:=Tryz.zeroValue0
 t2:=Tryz.underlying2
 a2:=Tryz.isAgg2
 z2:=Tryz.sizeOf2
 v2:=Tryz.zeroValue2
 t3:=Tryz.underlying3
 a3:=Tryz.isAgg3
 z3:=Tryz.sizeOf3
 v3:=Tryz.zeroValue3
 t4:=Tryz.underlying4
 a4:=Tryz.isAgg4
 z4:=Tryz.sizeOf4
 v4:=Tryz.zeroValue4
 t5:=Tryz.underlying5
 a5:=Tryz.isAgg5
 z5:=Tryz.sizeOf5
 v5:=Tryz.zeroValue5
 t9:=Tryz.underlying9
 a9:=Tryz.isAgg9
 z9:=Tryz.sizeOf9
 v9:=Tryz.zeroValue9
 t20:=Tryz.underlying20
 a20:=Tryz.isAgg20
 z20:=Tryz.sizeOf20
 v20:=Tryz.zeroValue20
 t37:=Tryz.underlying198
 a37:=Tryz.isAgg198
 z37:=Tryz.sizeOf198
 v37:=Tryz.zeroValue198
 t46:=Tryz.underlying133
 a46:=Tryz.isAgg133
 z46:=Tryz.sizeOf133
 v46:=Tryz.zeroValue133
 t51:=Tryz.underlying168
 a51:=Tryz.isAgg168
 z51:=Tryz.sizeOf168
 v51:=Tryz.zeroValue168
 t53:=Tryz.underlying170
 a53:=Tryz.isAgg170
 z53:=Tryz.sizeOf170
 v53:=Tryz.zeroValue170
 t171:=Tryz.underlying324
 a171:=Tryz.isAgg324
 z171:=Tryz.sizeOf324
 v171:=Tryz.zeroValue324
 t173:=Tryz.underlying326
 a173:=Tryz.isAgg326
 z173:=Tryz.sizeOf326
 v173:=Tryz.zeroValue326
 t212:=Tryz.underlying353
 a212:=Tryz.isAgg353
 z212:=Tryz.sizeOf353
 v212:=Tryz.zeroValue353
 t213:=Tryz.underlying354
 a213:=Tryz.isAgg354
 z213:=Tryz.sizeOf354
 t232:=Tryz.underlying368
 a232:=Tryz.isAgg368
 z232:=Tryz.sizeOf368
 v232:=Tryz.zeroValue368
 t233:=Tryz.underlying369
 a233:=Tryz.isAgg369
 z233:=Tryz.sizeOf369
 v233:=Tryz.zeroValue369
 g17:=by kernel_rfl
 g18:=by kernel_rfl
 g19:=by kernel_rfl
 i0:=by kernel_rfl
 i2:=by kernel_rfl
 i3:=by kernel_rfl
 i4:=by kernel_rfl
 i5:=by kernel_rfl
 i9:=by kernel_rfl
 i20:=by kernel_rfl
 i37:=by kernel_rfl
 i46:=by kernel_rfl
 i51:=by kernel_rfl
 i53:=by kernel_rfl
 i171:=by kernel_rfl
 i173:=by kernel_rfl
 i212:=by kernel_rfl
 i232:=by kernel_rfl
 i233:=by kernel_rfl
 m17:=by kernel_rfl
 m18:=by kernel_rfl
 m19:=by kernel_rfl}
def Tryz.laysC172_ren:Go.Shelf.Ren:=⟨λ|172=>141|244=>200|245=>201|247=>243|279=>244|280=>245|281=>246|282=>247|287=>294|316=>295|171=>142|205=>296|321=>331|322=>332|243=>202|246=>248|283=>297|284=>298|285=>299|286=>300|129=>115|317=>333|318=>334|319=>335|320=>336|337=>348|338=>349|n=>n,λ|9=>9|3=>3|75=>195|76=>196|4=>4|5=>5|167=>278|37=>198|0=>0|85=>279|2=>2|168=>281|53=>170|175=>318|46=>133|210=>322|127=>243|145=>351|143=>349|21=>21|171=>324|173=>326|212=>353|51=>168|20=>20|213=>354|232=>368|233=>369|80=>204|n=>n,λ|15=>0|16=>1|17=>3|18=>6|19=>7|n=>n⟩
theorem Tryz.laysC172:Go.Proofs.LaysC.n172 Tryz.prog Tryz.laysC172_ren:={
 mixed:=by kernel_rfl
 f129:=aQ Tryz.func115
 f171:=aQ Tryz.func142
 f172:=aQ Tryz.func141
 f205:=aQ Tryz.func296
 f243:=aQ Tryz.func202
 f244:=aQ Tryz.func200
 f245:=aQ Tryz.func201
 f246:=aQ Tryz.func248
 f247:=aQ Tryz.func243
 f279:=aQ Tryz.func244
 f280:=aQ Tryz.func245
 f281:=aQ Tryz.func246
 f282:=aQ Tryz.func247
 f283:=aQ Tryz.func297
 f284:=aQ Tryz.func298
 f285:=aQ Tryz.func299
 f286:=aQ Tryz.func300
 f287:=aQ Tryz.func294
 f316:=aQ Tryz.func295
 f317:=aQ Tryz.func333
 f318:=aQ Tryz.func334
 f319:=aQ Tryz.func335
 f320:=aQ Tryz.func336
 f321:=aQ Tryz.func331
 f322:=aQ Tryz.func332
 f337:=aQ Tryz.func348
 f338:=aQ Tryz.func349
 t0:=Tryz.underlying0
 a0:=Tryz.isAgg0
 z0:=Tryz.sizeOf0
 v0:=Tryz.zeroValue0
 t2:=Tryz.underlying2
 a2:=Tryz.isAgg2
 z2:=Tryz.sizeOf2
 v2:=Tryz.zeroValue2
 t3:=Tryz.underlying3
 a3:=Tryz.isAgg3
 z3:=Tryz.sizeOf3
 v3:=Tryz.zeroValue3
 t4:=Tryz.underlying4
 a4:=Tryz.isAgg4
 z4:=Tryz.sizeOf4
 v4:=Tryz.zeroValue4
 t5:=Tryz.underlying5
 a5:=Tryz.isAgg5
 z5:=Tryz.sizeOf5
 v5:=Tryz.zeroValue5
 t9:=Tryz.underlying9
 a9:=Tryz.isAgg9
 z9:=Tryz.sizeOf9
 v9:=Tryz.zeroValue9
 t20:=Tryz.underlying20
 a20:=Tryz.isAgg20
 z20:=Tryz.sizeOf20
 v20:=Tryz.zeroValue20
 t21:=Tryz.underlying21
 a21:=Tryz.isAgg21
 z21:=Tryz.sizeOf21
 v21:=Tryz.zeroValue21
 t37:=Tryz.underlying198
 a37:=Tryz.isAgg198
 z37:=Tryz.sizeOf198
 v37:=Tryz.zeroValue198
 t46:=Tryz.underlying133
 a46:=Tryz.isAgg133
 z46:=Tryz.sizeOf133
 v46:=Tryz.zeroValue133
 t51:=Tryz.underlying168
 a51:=Tryz.isAgg168
 z51:=Tryz.sizeOf168
 v51:=Tryz.zeroValue168
 t53:=Tryz.underlying170
 a53:=Tryz.isAgg170
 z53:=Tryz.sizeOf170
 v53:=Tryz.zeroValue170
 t75:=Tryz.underlying195
 a75:=Tryz.isAgg195
 z75:=Tryz.sizeOf195
 v75:=Tryz.zeroValue195
 t76:=Tryz.underlying196
 a76:=Tryz.isAgg196
 z76:=Tryz.sizeOf196
 v76:=Tryz.zeroValue196
 t85:=Tryz.underlying279
 a85:=Tryz.isAgg279
 z85:=Tryz.sizeOf279
 v85:=Tryz.zeroValue279
 t127:=Tryz.underlying243
 a127:=Tryz.isAgg243
 z127:=Tryz.sizeOf243
 v127:=Tryz.zeroValue243
 t143:=Tryz.underlying349
 a143:=Tryz.isAgg349
 z143:=Tryz.sizeOf349
 v143:=Tryz.zeroValue349
 t145:=Tryz.underlying351
 a145:=Tryz.isAgg351
 z145:=Tryz.sizeOf351
 v145:=Tryz.zeroValue351
 t167:=Tryz.underlying278
 a167:=Tryz.isAgg278
 z167:=Tryz.sizeOf278
 v167:=Tryz.zeroValue278
 t168:=Tryz.underlying281
 a168:=Tryz.isAgg281
 z168:=Tryz.sizeOf281
 v168:=Tryz.zeroValue281
 t171:=Tryz.underlying324
 a171:=Tryz.isAgg324
 z171:=Tryz.sizeOf324
 v171:=Tryz.zeroValue324
 t173:=Tryz.underlying326
 a173:=Tryz.isAgg326
 z173:=Tryz.sizeOf326
 v173:=Tryz.zeroValue326
 t175:=Tryz.underlying318
 a175:=Tryz.isAgg318
 z175:=Tryz.sizeOf318
 v175:=Tryz.zeroValue318
 t210:=Tryz.underlying322
 a210:=Tryz.isAgg322
 z210:=Tryz.sizeOf322
 v210:=Tryz.zeroValue322
 t212:=Tryz.underlying353
 a212:=Tryz.isAgg353
 z212:=Tryz.sizeOf353
 v212:=Tryz.zeroValue353
 t213:=Tryz.underlying354
 a213:=Tryz.isAgg354
 z213:=Tryz.sizeOf354
 t232:=Tryz.underlying368
 a232:=Tryz.isAgg368
 z232:=Tryz.sizeOf368
 v232:=Tryz.zeroValue368
 t233:=Tryz.underlying369
 a233:=Tryz.isAgg369
 z233:=Tryz.sizeOf369
 v233:=Tryz.zeroValue369
 g15:=by kernel_rfl
 g16:=by kernel_rfl
 g17:=by kernel_rfl
 g18:=by kernel_rfl
 g19:=by kernel_rfl
 t80:=Tryz.underlying204
 a80:=Tryz.isAgg204
 z80:=Tryz.sizeOf204
 v80:=Tryz.zeroValue204
 i0:=by kernel_rfl
 i2:=by kernel_rfl
 i3:=by kernel_rfl
 i4:=by kernel_rfl
 i5:=by kernel_rfl
 i9:=by kernel_rfl
 i20:=by kernel_rfl
 i21:=by kernel_rfl
 i37:=by kernel_rfl
 i46:=by kernel_rfl
 i51:=by kernel_rfl
 i53:=by kernel_rfl
 i75:=by kernel_rfl
 i76:=by kernel_rfl
 i80:=by kernel_rfl
 i85:=by kernel_rfl
 i127:=by kernel_rfl
 i143:=by kernel_rfl
 i145:=by kernel_rfl
 i167:=by kernel_rfl
 i168:=by kernel_rfl
 i171:=by kernel_rfl
 i173:=by kernel_rfl
 i175:=by kernel_rfl
 i210:=by kernel_rfl
 i212:=by kernel_rfl
 i232:=by kernel_rfl
 i233:=by kernel_rfl
 m15:=by kernel_rfl
 m16:=by kernel_rfl
 m17:=by kernel_rfl
 m18:=by kernel_rfl
 m19:=by kernel_rfl
 c0:=by kernel_rfl
 c2:=by kernel_rfl
 c3:=by kernel_rfl
 c4:=by kernel_rfl
 c5:=by kernel_rfl
 c9:=by kernel_rfl
 c20:=by kernel_rfl
 c21:=by kernel_rfl
 c37:=by kernel_rfl
 c46:=by kernel_rfl
 c51:=by kernel_rfl
 c53:=by kernel_rfl
 c75:=by kernel_rfl
 c76:=by kernel_rfl
 c80:=by kernel_rfl
 c85:=by kernel_rfl
 c127:=by kernel_rfl
 c143:=by kernel_rfl
 c145:=by kernel_rfl
 c167:=by kernel_rfl
 c168:=by kernel_rfl
 c171:=by kernel_rfl
 c173:=by kernel_rfl
 c175:=by kernel_rfl
 c210:=by kernel_rfl
 c212:=by kernel_rfl
 c213:=by kernel_rfl
 c232:=by kernel_rfl
 c233:=by kernel_rfl}
def Tryz.lays189_ren:Go.Shelf.Ren:=⟨λ|189=>152|125=>71|257=>208|128=>114|129=>115|294=>251|295=>252|296=>253|297=>254|298=>255|299=>256|216=>257|300=>258|301=>259|328=>301|329=>169|330=>170|331=>302|332=>303|215=>304|343=>337|n=>n,λ|28=>26|3=>3|46=>133|0=>0|51=>168|53=>170|4=>4|183=>162|182=>161|131=>134|5=>5|9=>9|218=>220|222=>224|228=>257|229=>258|n=>n,λ|n=>n⟩
theorem Tryz.lays189:Go.Proofs.Lays.n189 Tryz.prog Tryz.lays189_ren:={
 mixed:=by kernel_rfl
 f125:=aQ Tryz.func71
 f128:=aQ Tryz.func114
 f129:=aQ Tryz.func115
 f189:=aQ Tryz.func152
 f215:=aQ Tryz.func304
 f216:=aQ Tryz.func257
 f257:=aQ Tryz.func208
 f294:=aQ Tryz.func251
 f295:=aQ Tryz.func252
 f296:=aQ Tryz.func253
 f297:=aQ Tryz.func254
 f298:=aQ Tryz.func255
 f299:=aQ Tryz.func256
 f300:=aQ Tryz.func258
 f301:=aQ Tryz.func259
 f328:=aQ Tryz.func301
 f329:=aQ Tryz.func169
 f330:=aQ Tryz.func170
 f331:=aQ Tryz.func302
 f332:=aQ Tryz.func303
 f343:=aQ Tryz.func337
 t0:=Tryz.underlying0
 a0:=Tryz.isAgg0
 z0:=Tryz.sizeOf0
 v0:=Tryz.zeroValue0
 t3:=Tryz.underlying3
 a3:=Tryz.isAgg3
 z3:=Tryz.sizeOf3
 v3:=Tryz.zeroValue3
 t4:=Tryz.underlying4
 a4:=Tryz.isAgg4
 z4:=Tryz.sizeOf4
 v4:=Tryz.zeroValue4
 t5:=Tryz.underlying5
 a5:=Tryz.isAgg5
 z5:=Tryz.sizeOf5
 v5:=Tryz.zeroValue5
 t9:=Tryz.underlying9
 a9:=Tryz.isAgg9
 z9:=Tryz.sizeOf9
 v9:=Tryz.zeroValue9
 t28:=Tryz.underlying26
 a28:=Tryz.isAgg26
 z28:=Tryz.sizeOf26
 v28:=Tryz.zeroValue26
 t46:=Tryz.underlying133
 a46:=Tryz.isAgg133
 z46:=Tryz.sizeOf133
 v46:=Tryz.zeroValue133
 t51:=Tryz.underlying168
 a51:=Tryz.isAgg168
 z51:=Tryz.sizeOf168
 v51:=Tryz.zeroValue168
 t53:=Tryz.underlying170
 a53:=Tryz.isAgg170
 z53:=Tryz.sizeOf170
 v53:=Tryz.zeroValue170
 t131:=Tryz.underlying134
 a131:=Tryz.isAgg134
 z131:=Tryz.sizeOf134
 v131:=Tryz.zeroValue134
 t182:=Tryz.underlying161
 a182:=Tryz.isAgg161
 z182:=Tryz.sizeOf161
 v182:=Tryz.zeroValue161
 t183:=Tryz.underlying162
 a183:=Tryz.isAgg162
 z183:=Tryz.sizeOf162
 v183:=Tryz.zeroValue162
 t218:=Tryz.underlying220
 a218:=Tryz.isAgg220
 z218:=Tryz.sizeOf220
 v218:=Tryz.zeroValue220
 t222:=Tryz.underlying224
 a222:=Tryz.isAgg224
 z222:=Tryz.sizeOf224
 v222:=Tryz.zeroValue224
 t228:=Tryz.underlying257
 a228:=Tryz.isAgg257
 z228:=Tryz.sizeOf257
 v228:=Tryz.zeroValue257
 t229:=Tryz.underlying258
 a229:=Tryz.isAgg258
 z229:=Tryz.sizeOf258
 v229:=Tryz.zeroValue258}
def Tryz.laysNm220_ren:Go.Shelf.Ren:=⟨λ|20=>153|n=>n,λ|22=>26|3=>3|4=>4|0=>0|n=>n,λ|n=>n⟩
theorem Tryz.laysNm220:Go.Proofs.Lays2.n20 Tryz.prog Tryz.laysNm220_ren:={
 mixed:=by kernel_rfl
 f20:=aQ Tryz.func153
 t0:=Tryz.underlying0
 a0:=Tryz.isAgg0
 z0:=Tryz.sizeOf0
 v0:=Tryz.zeroValue0
 t3:=Tryz.underlying3
 a3:=Tryz.isAgg3
 z3:=Tryz.sizeOf3
 v3:=Tryz.zeroValue3
 t4:=Tryz.underlying4
 a4:=Tryz.isAgg4
 z4:=Tryz.sizeOf4
 v4:=Tryz.zeroValue4
 t22:=Tryz.underlying26
 a22:=Tryz.isAgg26
 z22:=Tryz.sizeOf26
 v22:=Tryz.zeroValue26
 i3:=by kernel_rfl}
open Go.RowKit Go.Sort Go.Lib in
theorem Tryz.strconv_Itoa(n:Int)(h0 : -9223372036854775808<=n)(h1:n<=9223372036854775807)(w:World){T:TypeId}{fr:Nat×Nat}(ht:w.heap[3]?=some (.cells (Lib.pow10Tab.map λz=>Value.int .u64 z).toArray T fr)) :
  Calls Tryz.prog 142 #[.int .i64 n] w λe w'=>e = .returned (.string ⟨(Lib.itoa n).toArray⟩)/\∃k os,w'=grow (w.drewN k) os:=by
 refine Any.strconv_Itoa Tryz.laysM171 n h0 h1 w ?_;unfold Lib.TabIs World.var?;rw[show Tryz.prog.globalNamed _=some 3 by kernel_rfl,Option.bind_some,ht]
open Go.RowKit in
theorem Tryz.strconv_Atoi_ok(s:ByteArray)(hmax:s.size<=9223372036854775806)(v:Int)(h:Lib.atoiAll s.data.toList = .ok v)(w:World) :
  Calls Tryz.prog 141 #[.string s] w λe w'=>e = .returned (.tuple #[.int .i64 v,.nilIface])/\(w'=w\/∃t,w'=Lib.bytesWorld w 5 t):=Any.strconv_Atoi_ok Tryz.laysC172 s hmax v h w
open Go.RowKit in
theorem Tryz.strconv_Atoi_bad(s:ByteArray)(hlim:s.size<=281474976710656)(h1:∀v,Lib.atoiAll s.data.toList ≠ .ok v)(h2:Lib.atoiAll s.data.toList ≠ .range)(ev:Value)(w:World)(hv:w.cell? ⟨0,0,none⟩=some ev)(hev:ev = .nilIface\/∃te pe,ev = .iface te pe) :
  Calls Tryz.prog 141 #[.string s] w λe w'=>∃N,e = .returned (.tuple #[.int .i64 (0),.iface 281 (.pointer (some ⟨N,0,none⟩))])/\w.heap.size<=N/\w'.heap[N]?=some (.cells #[.string ⟨#[65,116,111,105]⟩,.string s,ev] 322 (0,0))/\Below w.heap.size w w':=by
 cases h:Lib.atoiAll s.data.toList
 case ok v=>exact absurd h (h1 v)
 case range=>exact absurd h h2
 exact Any.strconv_Atoi_syntax Tryz.laysC172 s hlim h ev w hv hev
open Go.RowKit in
theorem Tryz.strconv_Atoi_range(s:ByteArray)(hlim:s.size<=281474976710656)(h:Lib.atoiAll s.data.toList = .range)(ev:Value)(w:World)(hv:w.cell? ⟨1,0,none⟩=some ev)(hev:ev = .nilIface\/∃te pe,ev = .iface te pe) :
  Calls Tryz.prog 141 #[.string s] w λe w'=>∃N,e = .returned (.tuple #[.int .i64 (Lib.atoiSat s.data.toList),.iface 281 (.pointer (some ⟨N,0,none⟩))])/\w.heap.size<=N/\w'.heap[N]?=some (.cells #[.string ⟨#[65,116,111,105]⟩,.string s,ev] 322 (0,0))/\Below w.heap.size w w':=Any.strconv_Atoi_range Tryz.laysC172 s hlim h ev w hv hev
open Go.Sort Go.RowKit in
theorem Tryz.slices_Sort_int(blk off cap:Nat)(zs:List Int)(w:World)(hH:Holds (Value.int .i64) w blk off zs.toArray)(hblk:blk<w.heap.size)(hsz:zs.length<4611686018427387904) :
  Calls Tryz.prog 152 #[.slice (some ⟨blk,off,none⟩) zs.length cap] w λe w'=>
   e = .returned (.tuple #[])/\∃n os,w'=grow (putRow (Value.int .i64) (Sort.ahead w n) blk off (zs.mergeSort λx y=>decide (x<=y)).toArray) os:=Any.slices_Sort_int Tryz.lays189 blk off cap zs w hH hblk hsz
open Go.RowKit Go.Lib Go.Sort in
theorem Tryz.slices_Compact_int(blk off cap:Nat)(zs:List Int)(w:World)(hH:Holds (Value.int .i64) w blk off zs.toArray)(hsz:zs.length<=9223372036854775807)(hcap:zs.length<=cap) :
  Calls Tryz.prog 153 #[.slice (some ⟨blk,off,none⟩) zs.length cap] w λe w'=>e = .returned (.slice (some ⟨blk,off,none⟩) (Lib.compact zs).length cap)/\∃q,w'=putRow (Value.int .i64) (Sort.ahead w q) blk off (Lib.compact zs++List.replicate (zs.length-(Lib.compact zs).length) 0).toArray:=Any.slices_Compact_int Tryz.laysNm220 blk off cap zs w hH hsz hcap
open Go.RowKit Go.Lib Go.Sort in
theorem Tryz.slices_Compact_int_empty(a:Option Addr)(cap:Nat)(w:World) :
  Calls Tryz.prog 153 #[.slice a 0 cap] w λe w'=>e = .returned (.slice a 0 cap)/\w'=w:=Any.slices_Compact_int_empty Tryz.laysNm220 a cap w
open Go.RowKit Go.Sort in
theorem Tryz.slices_Sort_int_none(p:Option Addr)(cap:Nat)(w:World) :
  Calls Tryz.prog 152 #[.slice p 0 cap] w λe w'=>e = .returned (.tuple #[])/\w'=w:=Any.slices_Sort_int_none Tryz.lays189 p cap w
end Go.Proofs
end
section
set_option maxRecDepth 100000
namespace Go.Proofs
open Go.Tev
def exB(f:Nat):Option (List AV->Nat->Hp->Option (AV×Hp)):=
 bif f.beq 92 then some zG else bif f.beq 93 then some wK else bif f.beq 75 then some B3 else bif f.beq 76 then some B4 else bif f.beq 636 then some xO else none
def glS(g:Nat):Option AV:=
 bif g.beq 0 then some (.ifc .top) else bif g.beq 1 then some (.ifc .top) else bif g.beq 3 then some (.agg (Lib.pow10Tab.map λn => .int .u64 n)) else none
def pgS:Pg:=⟨λf=>tab.find f,glS,exB⟩
def nm:Nm:=aPI Tryz.prog num bE
theorem n75:nm.f 75=152:=by kernel_rfl
theorem n76:nm.f 76=153:=by kernel_rfl
theorem n92:nm.f 92=141:=by kernel_rfl
theorem n93:nm.f 93=142:=by kernel_rfl
theorem aQa:H5 Tryz.prog (nm.f 75):=by rw[n75];exact⟨Tryz.f152,Tryz.func152,by kernel_rfl,of_decide_eq_true (by kernel_rfl)⟩
theorem aPZ:H5 Tryz.prog (nm.f 76):=by rw[n76];exact⟨Tryz.f153,Tryz.func153,by kernel_rfl,of_decide_eq_true (by kernel_rfl)⟩
theorem aPY:H5 Tryz.prog (nm.f 92):=by rw[n92];exact⟨Tryz.f141,Tryz.func141,by kernel_rfl,of_decide_eq_true (by kernel_rfl)⟩
theorem aPX:H5 Tryz.prog (nm.f 93):=by rw[n93];exact⟨Tryz.f142,Tryz.func142,by kernel_rfl,of_decide_eq_true (by kernel_rfl)⟩
theorem aLG:j8 Tryz.prog nm glS bE ⟨λf' avs kb h=>if f'=93 then wK avs kb h else none,λ_ _ _ _=>none⟩:=by refine aJC aPX 3 rfl ?_;intro n h0 h1 w hw;obtain⟨T,fr,ht⟩:=hw;have ht':w.heap[3]?=some (.cells (Lib.pow10Tab.map λz=>Value.int .u64 z).toArray T fr):=ht;rw[n93];refine(Tryz.strconv_Itoa n (by omega) h1 w ht').mono ?_;rintro e w' ⟨rfl,k,os,rfl⟩;exact⟨rfl,Lib.below_grow _ w (Nat.le_refl _) k os⟩
theorem aBl(s:List UInt8):((⟨s.toArray⟩:ByteArray).data.toList)=s:=by simp
theorem aIE(s:List UInt8):(⟨s.toArray⟩:ByteArray).size=s.length:=by simp[ByteArray.size]
theorem aMv:j8 Tryz.prog nm glS bE ⟨λf' avs kb h=>if f'=92 then zG avs kb h else none,λ_ _ _ _=>none⟩:=by
 refine aKe aPY 0 1 rfl rfl ?_ ?_ ?_;intro s hs v hv w;rw[n92];refine(Tryz.strconv_Atoi_ok ⟨s.toArray⟩ (by rw[aIE];omega) v (by rw[aBl];exact hv) w).mono ?_;rintro e w' ⟨rfl,hw⟩;refine⟨rfl,?_⟩;rcases hw with rfl|⟨t,rfl⟩
 exact RowKit.Below.refl _ _;exact Lib.bytesWorld_below _ _ _;intro s hs hv1 hv2 w te pe hc;rw[n92];refine(Tryz.strconv_Atoi_bad ⟨s.toArray⟩ (by rw[aIE];omega) (by rw[aBl];exact hv1) (by rw[aBl];exact hv2) _ w hc (.inr ⟨te,pe,rfl⟩)).mono ?_;rintro e w' ⟨N,rfl,_,_,hb⟩;exact⟨_,_,rfl,hb⟩;intro s hs hv w te pe hc;rw[n92];refine(Tryz.strconv_Atoi_range ⟨s.toArray⟩ (by rw[aIE];omega) (by rw[aBl];exact hv) _ w hc (.inr ⟨te,pe,rfl⟩)).mono ?_;rintro e w' ⟨N,rfl,_,_,hb⟩;rw[aBl];exact⟨_,_,rfl,hb⟩
theorem aKW:j8 Tryz.prog nm glS bE ⟨λf' avs kb h=>if f'=75 then B3 avs kb h else none,λ_ _ _ _=>none⟩:=by refine aIH aQa ?_ ?_;intro blk off cap zs w hH hb hz;rw[n75];refine(Tryz.slices_Sort_int blk off cap zs w hH hb (by omega)).mono ?_;rintro e w' ⟨rfl,n,os,rfl⟩;exact⟨rfl,n,os,by rw[aBo]⟩;intro p cap w;rw[n75];exact Tryz.slices_Sort_int_none p cap w
theorem aLY:j8 Tryz.prog nm glS bE ⟨λf' avs kb h=>if f'=76 then B4 avs kb h else none,λ_ _ _ _=>none⟩:=by refine aJQ aPZ ?_ ?_;intro blk off cap zs w hH hz hc;rw[n76];refine(Tryz.slices_Compact_int blk off cap zs w hH (by omega) hc).mono ?_;rintro e w' ⟨rfl,q,rfl⟩;rw[U3];exact⟨rfl,q,rfl⟩;intro p cap w;rw[n76];exact Tryz.slices_Compact_int_empty p cap w
theorem aJz:nm.f 636=40:=by kernel_rfl
theorem aPJ:nm.f 683=41:=by kernel_rfl
theorem aLL:H5 Tryz.prog (nm.f 636):=by rw[aJz];exact⟨Tryz.f40,Tryz.func40,by kernel_rfl,of_decide_eq_true (by kernel_rfl)⟩
theorem aIG:j8 Tryz.prog nm glS bE ⟨λf' avs kb h=>if f'=636 then xO avs kb h else none,λ_ _ _ _=>none⟩:=by refine aEZ aLL ?_ ?_;intro blk off cap l w h1 h2 h3 h4;rw[aJz,aPJ];exact TB blk off cap l w h1 h2 h3 h4;intro p cap fv w;rw[aJz];exact AnyF.slices_SortFunc_none Tryz.sortPl p cap fv w
theorem exS:∀f g,exB f=some g->j8 Tryz.prog nm glS bE ⟨λf' avs kb h=>if f'=f then g avs kb h else none,λ_ _ _ _=>none⟩:=by
 intro f g h;unfold exB at h;cases h1:f.beq 92 with
 |true=>rw[h1]at h;cases h;obtain rfl:=Nat.eq_of_beq_eq_true h1;exact aMv
 |false=>
  cases h2:f.beq 93 with
  |true=>rw[h1,h2]at h;cases h;obtain rfl:=Nat.eq_of_beq_eq_true h2;exact aLG
  |false=>
   cases h3:f.beq 75 with
   |true=>rw[h1,h2,h3]at h;cases h;obtain rfl:=Nat.eq_of_beq_eq_true h3;exact aKW
   |false=>
    cases h4:f.beq 76 with
    |true=>rw[h1,h2,h3,h4]at h;cases h;obtain rfl:=Nat.eq_of_beq_eq_true h4;exact aLY
    |false=>
     cases h5:f.beq 636 with
     |true=>rw[h1,h2,h3,h4,h5]at h;cases h;obtain rfl:=Nat.eq_of_beq_eq_true h5;exact aIG
     |false=>rw[h1,h2,h3,h4,h5]at h;cases h
theorem fitS:aET Tryz.prog nm bE pgS:=fitP_of fits exS (λ_ _ _ _=>Iff.rfl)
end Go.Proofs
end
