import Derived.KernelRfl
import Derived.Shelf.Strconv.Itoa3
import Derived.Shelf.LaysM
import Derived.Shelf.LaysC
import Derived.Shelf.Strconv.AtoiAll
import Derived.Shelf.Sort.Plain
import Derived.Shelf.Slices.CompactI
import Derived.Shelf.Slices.In.SortNone
import Derived.Ground.Names2Prog
import Derived.Test.YtmcadllokkmeiaaGreatDoorProg
import Derived.Test.YtmcadllokkmeiaaGreatDoorSAN
import Derived.Test.YtmcadllokkmeiaaGreatDoorSAR
import Derived.Lib.AppendIntMem
set_option linter.all false
section
namespace Go.Proofs
open Go.Shelf
def Tryz.laysM171_ren:Go.Shelf.Ren:=⟨fun|171=>142|243=>202|246=>248|283=>297|284=>298|285=>299|286=>300|129=>115|317=>333|318=>334|319=>335|320=>336|337=>348|338=>349|n=>n,fun|3=>3|9=>9|2=>2|4=>4|171=>324|0=>0|53=>170|37=>198|5=>5|173=>326|212=>353|51=>168|20=>20|213=>354|46=>133|232=>368|233=>369|n=>n,fun|17=>3|18=>6|19=>7|n=>n⟩
theorem Tryz.laysM171:Go.Proofs.LaysM.n171 Tryz.prog Tryz.laysM171_ren:={
 mixed:=by kernel_rfl
 f129:=Tryz.func115.trans (congrArg some (by kernel_rfl))
 f171:=Tryz.func142.trans (congrArg some (by kernel_rfl))
 f243:=Tryz.func202.trans (congrArg some (by kernel_rfl))
 f246:=Tryz.func248.trans (congrArg some (by kernel_rfl))
 f283:=Tryz.func297.trans (congrArg some (by kernel_rfl))
 f284:=Tryz.func298.trans (congrArg some (by kernel_rfl))
 f285:=Tryz.func299.trans (congrArg some (by kernel_rfl))
 f286:=Tryz.func300.trans (congrArg some (by kernel_rfl))
 f317:=Tryz.func333.trans (congrArg some (by kernel_rfl))
 f318:=Tryz.func334.trans (congrArg some (by kernel_rfl))
 f319:=Tryz.func335.trans (congrArg some (by kernel_rfl))
 f320:=Tryz.func336.trans (congrArg some (by kernel_rfl))
 f337:=Tryz.func348.trans (congrArg some (by kernel_rfl))
 f338:=Tryz.func349.trans (congrArg some (by kernel_rfl))
 t0:=Tryz.underlying0
 a0:=Tryz.isAgg0
 z0:=Tryz.sizeOf0
 v0:=Tryz.zeroValue0
 t2:=Tryz.underlying2
 a2:=Tryz.isAgg2
 z2:=Tryz.sizeOf2
 v2:=Tryz.zeroValue2
 t3:=Tryz.underlying3
 a3:=Tryz.isAgg3
 z3:=Tryz.sizeOf3
 v3:=Tryz.zeroValue3
 t4:=Tryz.underlying4
 a4:=Tryz.isAgg4
 z4:=Tryz.sizeOf4
 v4:=Tryz.zeroValue4
 t5:=Tryz.underlying5
 a5:=Tryz.isAgg5
 z5:=Tryz.sizeOf5
 v5:=Tryz.zeroValue5
 t9:=Tryz.underlying9
 a9:=Tryz.isAgg9
 z9:=Tryz.sizeOf9
 v9:=Tryz.zeroValue9
 t20:=Tryz.underlying20
 a20:=Tryz.isAgg20
 z20:=Tryz.sizeOf20
 v20:=Tryz.zeroValue20
 t37:=Tryz.underlying198
 a37:=Tryz.isAgg198
 z37:=Tryz.sizeOf198
 v37:=Tryz.zeroValue198
 t46:=Tryz.underlying133
 a46:=Tryz.isAgg133
 z46:=Tryz.sizeOf133
 v46:=Tryz.zeroValue133
 t51:=Tryz.underlying168
 a51:=Tryz.isAgg168
 z51:=Tryz.sizeOf168
 v51:=Tryz.zeroValue168
 t53:=Tryz.underlying170
 a53:=Tryz.isAgg170
 z53:=Tryz.sizeOf170
 v53:=Tryz.zeroValue170
 t171:=Tryz.underlying324
 a171:=Tryz.isAgg324
 z171:=Tryz.sizeOf324
 v171:=Tryz.zeroValue324
 t173:=Tryz.underlying326
 a173:=Tryz.isAgg326
 z173:=Tryz.sizeOf326
 v173:=Tryz.zeroValue326
 t212:=Tryz.underlying353
 a212:=Tryz.isAgg353
 z212:=Tryz.sizeOf353
 v212:=Tryz.zeroValue353
 t213:=Tryz.underlying354
 a213:=Tryz.isAgg354
 z213:=Tryz.sizeOf354
 t232:=Tryz.underlying368
 a232:=Tryz.isAgg368
 z232:=Tryz.sizeOf368
 v232:=Tryz.zeroValue368
 t233:=Tryz.underlying369
 a233:=Tryz.isAgg369
 z233:=Tryz.sizeOf369
 v233:=Tryz.zeroValue369
 g17:=by kernel_rfl
 g18:=by kernel_rfl
 g19:=by kernel_rfl
 i0:=by kernel_rfl
 i2:=by kernel_rfl
 i3:=by kernel_rfl
 i4:=by kernel_rfl
 i5:=by kernel_rfl
 i9:=by kernel_rfl
 i20:=by kernel_rfl
 i37:=by kernel_rfl
 i46:=by kernel_rfl
 i51:=by kernel_rfl
 i53:=by kernel_rfl
 i171:=by kernel_rfl
 i173:=by kernel_rfl
 i212:=by kernel_rfl
 i232:=by kernel_rfl
 i233:=by kernel_rfl
 m17:=by kernel_rfl
 m18:=by kernel_rfl
 m19:=by kernel_rfl}
def Tryz.laysC172_ren:Go.Shelf.Ren:=⟨fun|172=>141|244=>200|245=>201|247=>243|279=>244|280=>245|281=>246|282=>247|287=>294|316=>295|171=>142|205=>296|321=>331|322=>332|243=>202|246=>248|283=>297|284=>298|285=>299|286=>300|129=>115|317=>333|318=>334|319=>335|320=>336|337=>348|338=>349|n=>n,fun|9=>9|3=>3|75=>195|76=>196|4=>4|5=>5|167=>278|37=>198|0=>0|85=>279|2=>2|168=>281|53=>170|175=>318|46=>133|210=>322|127=>243|145=>351|143=>349|21=>21|171=>324|173=>326|212=>353|51=>168|20=>20|213=>354|232=>368|233=>369|80=>204|n=>n,fun|15=>0|16=>1|17=>3|18=>6|19=>7|n=>n⟩
theorem Tryz.laysC172:Go.Proofs.LaysC.n172 Tryz.prog Tryz.laysC172_ren:={
 mixed:=by kernel_rfl
 f129:=Tryz.func115.trans (congrArg some (by kernel_rfl))
 f171:=Tryz.func142.trans (congrArg some (by kernel_rfl))
 f172:=Tryz.func141.trans (congrArg some (by kernel_rfl))
 f205:=Tryz.func296.trans (congrArg some (by kernel_rfl))
 f243:=Tryz.func202.trans (congrArg some (by kernel_rfl))
 f244:=Tryz.func200.trans (congrArg some (by kernel_rfl))
 f245:=Tryz.func201.trans (congrArg some (by kernel_rfl))
 f246:=Tryz.func248.trans (congrArg some (by kernel_rfl))
 f247:=Tryz.func243.trans (congrArg some (by kernel_rfl))
 f279:=Tryz.func244.trans (congrArg some (by kernel_rfl))
 f280:=Tryz.func245.trans (congrArg some (by kernel_rfl))
 f281:=Tryz.func246.trans (congrArg some (by kernel_rfl))
 f282:=Tryz.func247.trans (congrArg some (by kernel_rfl))
 f283:=Tryz.func297.trans (congrArg some (by kernel_rfl))
 f284:=Tryz.func298.trans (congrArg some (by kernel_rfl))
 f285:=Tryz.func299.trans (congrArg some (by kernel_rfl))
 f286:=Tryz.func300.trans (congrArg some (by kernel_rfl))
 f287:=Tryz.func294.trans (congrArg some (by kernel_rfl))
 f316:=Tryz.func295.trans (congrArg some (by kernel_rfl))
 f317:=Tryz.func333.trans (congrArg some (by kernel_rfl))
 f318:=Tryz.func334.trans (congrArg some (by kernel_rfl))
 f319:=Tryz.func335.trans (congrArg some (by kernel_rfl))
 f320:=Tryz.func336.trans (congrArg some (by kernel_rfl))
 f321:=Tryz.func331.trans (congrArg some (by kernel_rfl))
 f322:=Tryz.func332.trans (congrArg some (by kernel_rfl))
 f337:=Tryz.func348.trans (congrArg some (by kernel_rfl))
 f338:=Tryz.func349.trans (congrArg some (by kernel_rfl))
 t0:=Tryz.underlying0
 a0:=Tryz.isAgg0
 z0:=Tryz.sizeOf0
 v0:=Tryz.zeroValue0
 t2:=Tryz.underlying2
 a2:=Tryz.isAgg2
 z2:=Tryz.sizeOf2
 v2:=Tryz.zeroValue2
 t3:=Tryz.underlying3
 a3:=Tryz.isAgg3
 z3:=Tryz.sizeOf3
 v3:=Tryz.zeroValue3
 t4:=Tryz.underlying4
 a4:=Tryz.isAgg4
 z4:=Tryz.sizeOf4
 v4:=Tryz.zeroValue4
 t5:=Tryz.underlying5
 a5:=Tryz.isAgg5
 z5:=Tryz.sizeOf5
 v5:=Tryz.zeroValue5
 t9:=Tryz.underlying9
 a9:=Tryz.isAgg9
 z9:=Tryz.sizeOf9
 v9:=Tryz.zeroValue9
 t20:=Tryz.underlying20
 a20:=Tryz.isAgg20
 z20:=Tryz.sizeOf20
 v20:=Tryz.zeroValue20
 t21:=Tryz.underlying21
 a21:=Tryz.isAgg21
 z21:=Tryz.sizeOf21
 v21:=Tryz.zeroValue21
 t37:=Tryz.underlying198
 a37:=Tryz.isAgg198
 z37:=Tryz.sizeOf198
 v37:=Tryz.zeroValue198
 t46:=Tryz.underlying133
 a46:=Tryz.isAgg133
 z46:=Tryz.sizeOf133
 v46:=Tryz.zeroValue133
 t51:=Tryz.underlying168
 a51:=Tryz.isAgg168
 z51:=Tryz.sizeOf168
 v51:=Tryz.zeroValue168
 t53:=Tryz.underlying170
 a53:=Tryz.isAgg170
 z53:=Tryz.sizeOf170
 v53:=Tryz.zeroValue170
 t75:=Tryz.underlying195
 a75:=Tryz.isAgg195
 z75:=Tryz.sizeOf195
 v75:=Tryz.zeroValue195
 t76:=Tryz.underlying196
 a76:=Tryz.isAgg196
 z76:=Tryz.sizeOf196
 v76:=Tryz.zeroValue196
 t85:=Tryz.underlying279
 a85:=Tryz.isAgg279
 z85:=Tryz.sizeOf279
 v85:=Tryz.zeroValue279
 t127:=Tryz.underlying243
 a127:=Tryz.isAgg243
 z127:=Tryz.sizeOf243
 v127:=Tryz.zeroValue243
 t143:=Tryz.underlying349
 a143:=Tryz.isAgg349
 z143:=Tryz.sizeOf349
 v143:=Tryz.zeroValue349
 t145:=Tryz.underlying351
 a145:=Tryz.isAgg351
 z145:=Tryz.sizeOf351
 v145:=Tryz.zeroValue351
 t167:=Tryz.underlying278
 a167:=Tryz.isAgg278
 z167:=Tryz.sizeOf278
 v167:=Tryz.zeroValue278
 t168:=Tryz.underlying281
 a168:=Tryz.isAgg281
 z168:=Tryz.sizeOf281
 v168:=Tryz.zeroValue281
 t171:=Tryz.underlying324
 a171:=Tryz.isAgg324
 z171:=Tryz.sizeOf324
 v171:=Tryz.zeroValue324
 t173:=Tryz.underlying326
 a173:=Tryz.isAgg326
 z173:=Tryz.sizeOf326
 v173:=Tryz.zeroValue326
 t175:=Tryz.underlying318
 a175:=Tryz.isAgg318
 z175:=Tryz.sizeOf318
 v175:=Tryz.zeroValue318
 t210:=Tryz.underlying322
 a210:=Tryz.isAgg322
 z210:=Tryz.sizeOf322
 v210:=Tryz.zeroValue322
 t212:=Tryz.underlying353
 a212:=Tryz.isAgg353
 z212:=Tryz.sizeOf353
 v212:=Tryz.zeroValue353
 t213:=Tryz.underlying354
 a213:=Tryz.isAgg354
 z213:=Tryz.sizeOf354
 t232:=Tryz.underlying368
 a232:=Tryz.isAgg368
 z232:=Tryz.sizeOf368
 v232:=Tryz.zeroValue368
 t233:=Tryz.underlying369
 a233:=Tryz.isAgg369
 z233:=Tryz.sizeOf369
 v233:=Tryz.zeroValue369
 g15:=by kernel_rfl
 g16:=by kernel_rfl
 g17:=by kernel_rfl
 g18:=by kernel_rfl
 g19:=by kernel_rfl
 t80:=Tryz.underlying204
 a80:=Tryz.isAgg204
 z80:=Tryz.sizeOf204
 v80:=Tryz.zeroValue204
 i0:=by kernel_rfl
 i2:=by kernel_rfl
 i3:=by kernel_rfl
 i4:=by kernel_rfl
 i5:=by kernel_rfl
 i9:=by kernel_rfl
 i20:=by kernel_rfl
 i21:=by kernel_rfl
 i37:=by kernel_rfl
 i46:=by kernel_rfl
 i51:=by kernel_rfl
 i53:=by kernel_rfl
 i75:=by kernel_rfl
 i76:=by kernel_rfl
 i80:=by kernel_rfl
 i85:=by kernel_rfl
 i127:=by kernel_rfl
 i143:=by kernel_rfl
 i145:=by kernel_rfl
 i167:=by kernel_rfl
 i168:=by kernel_rfl
 i171:=by kernel_rfl
 i173:=by kernel_rfl
 i175:=by kernel_rfl
 i210:=by kernel_rfl
 i212:=by kernel_rfl
 i232:=by kernel_rfl
 i233:=by kernel_rfl
 m15:=by kernel_rfl
 m16:=by kernel_rfl
 m17:=by kernel_rfl
 m18:=by kernel_rfl
 m19:=by kernel_rfl
 c0:=by kernel_rfl
 c2:=by kernel_rfl
 c3:=by kernel_rfl
 c4:=by kernel_rfl
 c5:=by kernel_rfl
 c9:=by kernel_rfl
 c20:=by kernel_rfl
 c21:=by kernel_rfl
 c37:=by kernel_rfl
 c46:=by kernel_rfl
 c51:=by kernel_rfl
 c53:=by kernel_rfl
 c75:=by kernel_rfl
 c76:=by kernel_rfl
 c80:=by kernel_rfl
 c85:=by kernel_rfl
 c127:=by kernel_rfl
 c143:=by kernel_rfl
 c145:=by kernel_rfl
 c167:=by kernel_rfl
 c168:=by kernel_rfl
 c171:=by kernel_rfl
 c173:=by kernel_rfl
 c175:=by kernel_rfl
 c210:=by kernel_rfl
 c212:=by kernel_rfl
 c213:=by kernel_rfl
 c232:=by kernel_rfl
 c233:=by kernel_rfl}
def Tryz.lays189_ren:Go.Shelf.Ren:=⟨fun|189=>152|125=>71|257=>208|128=>114|129=>115|294=>251|295=>252|296=>253|297=>254|298=>255|299=>256|216=>257|300=>258|301=>259|328=>301|329=>169|330=>170|331=>302|332=>303|215=>304|343=>337|n=>n,fun|28=>26|3=>3|46=>133|0=>0|51=>168|53=>170|4=>4|183=>162|182=>161|131=>134|5=>5|9=>9|218=>220|222=>224|228=>257|229=>258|n=>n,fun|n=>n⟩
theorem Tryz.lays189:Go.Proofs.Lays.n189 Tryz.prog Tryz.lays189_ren:={
 mixed:=by kernel_rfl
 f125:=Tryz.func71.trans (congrArg some (by kernel_rfl))
 f128:=Tryz.func114.trans (congrArg some (by kernel_rfl))
 f129:=Tryz.func115.trans (congrArg some (by kernel_rfl))
 f189:=Tryz.func152.trans (congrArg some (by kernel_rfl))
 f215:=Tryz.func304.trans (congrArg some (by kernel_rfl))
 f216:=Tryz.func257.trans (congrArg some (by kernel_rfl))
 f257:=Tryz.func208.trans (congrArg some (by kernel_rfl))
 f294:=Tryz.func251.trans (congrArg some (by kernel_rfl))
 f295:=Tryz.func252.trans (congrArg some (by kernel_rfl))
 f296:=Tryz.func253.trans (congrArg some (by kernel_rfl))
 f297:=Tryz.func254.trans (congrArg some (by kernel_rfl))
 f298:=Tryz.func255.trans (congrArg some (by kernel_rfl))
 f299:=Tryz.func256.trans (congrArg some (by kernel_rfl))
 f300:=Tryz.func258.trans (congrArg some (by kernel_rfl))
 f301:=Tryz.func259.trans (congrArg some (by kernel_rfl))
 f328:=Tryz.func301.trans (congrArg some (by kernel_rfl))
 f329:=Tryz.func169.trans (congrArg some (by kernel_rfl))
 f330:=Tryz.func170.trans (congrArg some (by kernel_rfl))
 f331:=Tryz.func302.trans (congrArg some (by kernel_rfl))
 f332:=Tryz.func303.trans (congrArg some (by kernel_rfl))
 f343:=Tryz.func337.trans (congrArg some (by kernel_rfl))
 t0:=Tryz.underlying0
 a0:=Tryz.isAgg0
 z0:=Tryz.sizeOf0
 v0:=Tryz.zeroValue0
 t3:=Tryz.underlying3
 a3:=Tryz.isAgg3
 z3:=Tryz.sizeOf3
 v3:=Tryz.zeroValue3
 t4:=Tryz.underlying4
 a4:=Tryz.isAgg4
 z4:=Tryz.sizeOf4
 v4:=Tryz.zeroValue4
 t5:=Tryz.underlying5
 a5:=Tryz.isAgg5
 z5:=Tryz.sizeOf5
 v5:=Tryz.zeroValue5
 t9:=Tryz.underlying9
 a9:=Tryz.isAgg9
 z9:=Tryz.sizeOf9
 v9:=Tryz.zeroValue9
 t28:=Tryz.underlying26
 a28:=Tryz.isAgg26
 z28:=Tryz.sizeOf26
 v28:=Tryz.zeroValue26
 t46:=Tryz.underlying133
 a46:=Tryz.isAgg133
 z46:=Tryz.sizeOf133
 v46:=Tryz.zeroValue133
 t51:=Tryz.underlying168
 a51:=Tryz.isAgg168
 z51:=Tryz.sizeOf168
 v51:=Tryz.zeroValue168
 t53:=Tryz.underlying170
 a53:=Tryz.isAgg170
 z53:=Tryz.sizeOf170
 v53:=Tryz.zeroValue170
 t131:=Tryz.underlying134
 a131:=Tryz.isAgg134
 z131:=Tryz.sizeOf134
 v131:=Tryz.zeroValue134
 t182:=Tryz.underlying161
 a182:=Tryz.isAgg161
 z182:=Tryz.sizeOf161
 v182:=Tryz.zeroValue161
 t183:=Tryz.underlying162
 a183:=Tryz.isAgg162
 z183:=Tryz.sizeOf162
 v183:=Tryz.zeroValue162
 t218:=Tryz.underlying220
 a218:=Tryz.isAgg220
 z218:=Tryz.sizeOf220
 v218:=Tryz.zeroValue220
 t222:=Tryz.underlying224
 a222:=Tryz.isAgg224
 z222:=Tryz.sizeOf224
 v222:=Tryz.zeroValue224
 t228:=Tryz.underlying257
 a228:=Tryz.isAgg257
 z228:=Tryz.sizeOf257
 v228:=Tryz.zeroValue257
 t229:=Tryz.underlying258
 a229:=Tryz.isAgg258
 z229:=Tryz.sizeOf258
 v229:=Tryz.zeroValue258}
def Tryz.laysNm220_ren:Go.Shelf.Ren:=⟨fun|20=>153|n=>n,fun|22=>26|3=>3|4=>4|0=>0|n=>n,fun|n=>n⟩
theorem Tryz.laysNm220:Go.Proofs.Lays2.n20 Tryz.prog Tryz.laysNm220_ren:={
 mixed:=by kernel_rfl
 f20:=Tryz.func153.trans (congrArg some (by kernel_rfl))
 t0:=Tryz.underlying0
 a0:=Tryz.isAgg0
 z0:=Tryz.sizeOf0
 v0:=Tryz.zeroValue0
 t3:=Tryz.underlying3
 a3:=Tryz.isAgg3
 z3:=Tryz.sizeOf3
 v3:=Tryz.zeroValue3
 t4:=Tryz.underlying4
 a4:=Tryz.isAgg4
 z4:=Tryz.sizeOf4
 v4:=Tryz.zeroValue4
 t22:=Tryz.underlying26
 a22:=Tryz.isAgg26
 z22:=Tryz.sizeOf26
 v22:=Tryz.zeroValue26
 i3:=by kernel_rfl}
open Go.RowKit Go.Sort Go.Lib in
theorem Tryz.strconv_Itoa(n:Int)(h0 : -9223372036854775808<=n)(h1:n<=9223372036854775807)(w:World){T:TypeId}{fr:Nat×Nat}(ht:w.heap[3]?=some (.cells (Lib.pow10Tab.map fun z=>Value.int .u64 z).toArray T fr)) :
  Calls Tryz.prog 142 #[.int .i64 n] w fun e w'=>e = .returned (.string ⟨(Lib.itoa n).toArray⟩)/\∃k os,w'=grow (w.drewN k) os:=by
 refine Any.strconv_Itoa Tryz.laysM171 n h0 h1 w ?_
 unfold Lib.TabIs World.var?
 rw[show Tryz.prog.globalNamed _=some 3 by kernel_rfl,Option.bind_some,ht]
open Go.RowKit in
theorem Tryz.strconv_Atoi_ok(s:ByteArray)(hmax:s.size<=9223372036854775806)(v:Int)(h:Lib.atoiAll s.data.toList = .ok v)(w:World) :
  Calls Tryz.prog 141 #[.string s] w fun e w'=>e = .returned (.tuple #[.int .i64 v,.nilIface])/\(w'=w\/∃t,w'=Lib.bytesWorld w 5 t):=Any.strconv_Atoi_ok Tryz.laysC172 s hmax v h w
open Go.RowKit in
theorem Tryz.strconv_Atoi_bad(s:ByteArray)(hlim:s.size<=281474976710656)(h1:∀v,Lib.atoiAll s.data.toList ≠ .ok v)(h2:Lib.atoiAll s.data.toList ≠ .range)(ev:Value)(w:World)(hv:w.cell? ⟨0,0,none⟩=some ev)(hev:ev = .nilIface\/∃te pe,ev = .iface te pe) :
  Calls Tryz.prog 141 #[.string s] w fun e w'=>∃N,e = .returned (.tuple #[.int .i64 (0),.iface 281 (.pointer (some ⟨N,0,none⟩))])/\w.heap.size<=N/\w'.heap[N]?=some (.cells #[.string ⟨#[65,116,111,105]⟩,.string s,ev] 322 (0,0))/\Below w.heap.size w w':=by
 cases h:Lib.atoiAll s.data.toList
 case ok v=>exact absurd h (h1 v)
 case range=>exact absurd h h2
 exact Any.strconv_Atoi_syntax Tryz.laysC172 s hlim h ev w hv hev
open Go.RowKit in
theorem Tryz.strconv_Atoi_range(s:ByteArray)(hlim:s.size<=281474976710656)(h:Lib.atoiAll s.data.toList = .range)(ev:Value)(w:World)(hv:w.cell? ⟨1,0,none⟩=some ev)(hev:ev = .nilIface\/∃te pe,ev = .iface te pe) :
  Calls Tryz.prog 141 #[.string s] w fun e w'=>∃N,e = .returned (.tuple #[.int .i64 (Lib.atoiSat s.data.toList),.iface 281 (.pointer (some ⟨N,0,none⟩))])/\w.heap.size<=N/\w'.heap[N]?=some (.cells #[.string ⟨#[65,116,111,105]⟩,.string s,ev] 322 (0,0))/\Below w.heap.size w w':=Any.strconv_Atoi_range Tryz.laysC172 s hlim h ev w hv hev
open Go.Sort Go.RowKit in
theorem Tryz.slices_Sort_int(blk off cap:Nat)(zs:List Int)(w:World)(hH:Holds (Value.int .i64) w blk off zs.toArray)(hblk:blk<w.heap.size)(hsz:zs.length<4611686018427387904) :
  Calls Tryz.prog 152 #[.slice (some ⟨blk,off,none⟩) zs.length cap] w fun e w'=>
   e = .returned (.tuple #[])/\∃n os,w'=grow (putRow (Value.int .i64) (Sort.ahead w n) blk off (zs.mergeSort fun x y=>decide (x<=y)).toArray) os:=Any.slices_Sort_int Tryz.lays189 blk off cap zs w hH hblk hsz
open Go.RowKit Go.Lib Go.Sort in
theorem Tryz.slices_Compact_int(blk off cap:Nat)(zs:List Int)(w:World)(hH:Holds (Value.int .i64) w blk off zs.toArray)(hsz:zs.length<=9223372036854775807)(hcap:zs.length<=cap) :
  Calls Tryz.prog 153 #[.slice (some ⟨blk,off,none⟩) zs.length cap] w fun e w'=>e = .returned (.slice (some ⟨blk,off,none⟩) (Lib.compact zs).length cap)/\∃q,w'=putRow (Value.int .i64) (Sort.ahead w q) blk off (Lib.compact zs++List.replicate (zs.length-(Lib.compact zs).length) 0).toArray:=Any.slices_Compact_int Tryz.laysNm220 blk off cap zs w hH hsz hcap
open Go.RowKit Go.Lib Go.Sort in
theorem Tryz.slices_Compact_int_empty(a:Option Addr)(cap:Nat)(w:World) :
  Calls Tryz.prog 153 #[.slice a 0 cap] w fun e w'=>e = .returned (.slice a 0 cap)/\w'=w:=Any.slices_Compact_int_empty Tryz.laysNm220 a cap w
open Go.RowKit Go.Sort in
theorem Tryz.slices_Sort_int_none(p:Option Addr)(cap:Nat)(w:World) :
  Calls Tryz.prog 152 #[.slice p 0 cap] w fun e w'=>e = .returned (.tuple #[])/\w'=w:=Any.slices_Sort_int_none Tryz.lays189 p cap w
end Go.Proofs
end
section
set_option maxRecDepth 100000
namespace Go.Proofs
open Go.Tev
def exB(f:Nat):Option (List AV->Nat->Hp->Option (AV×Hp)):=
 bif f.beq 92 then some sF else bif f.beq 93 then some qI else bif f.beq 75 then some uL else bif f.beq 76 then some uM else none
def glS(g:Nat):Option AV:=
 bif g.beq 0 then some (.ifc .top) else bif g.beq 1 then some (.ifc .top) else bif g.beq 3 then some (.agg (Lib.pow10Tab.map fun n => .int .u64 n)) else none
def pgS:Pg:=⟨fun f=>tab.find f,glS,exB⟩
def nm:Nm:=aBj Tryz.prog num aN
theorem n75:nm.f 75=152:=by kernel_rfl
theorem n76:nm.f 76=153:=by kernel_rfl
theorem n92:nm.f 92=141:=by kernel_rfl
theorem n93:nm.f 93=142:=by kernel_rfl
theorem aBA:EN Tryz.prog (nm.f 75):=by rw[n75];exact⟨Tryz.f152,Tryz.func152,by kernel_rfl,of_decide_eq_true (by kernel_rfl)⟩
theorem aBz:EN Tryz.prog (nm.f 76):=by rw[n76];exact⟨Tryz.f153,Tryz.func153,by kernel_rfl,of_decide_eq_true (by kernel_rfl)⟩
theorem aBy:EN Tryz.prog (nm.f 92):=by rw[n92];exact⟨Tryz.f141,Tryz.func141,by kernel_rfl,of_decide_eq_true (by kernel_rfl)⟩
theorem aBx:EN Tryz.prog (nm.f 93):=by rw[n93];exact⟨Tryz.f142,Tryz.func142,by kernel_rfl,of_decide_eq_true (by kernel_rfl)⟩
theorem UW:iK Tryz.prog nm glS aN ⟨fun f' avs kb h=>if f'=93 then qI avs kb h else none,fun _ _ _ _=>none⟩:=by
 refine RH aBx 3 rfl ?_
 intro n h0 h1 w hw
 obtain⟨T,fr,ht⟩:=hw
 have ht':w.heap[3]?=some (.cells (Lib.pow10Tab.map fun z=>Value.int .u64 z).toArray T fr):=ht
 rw[n93]
 refine(Tryz.strconv_Itoa n (by omega) h1 w ht').mono ?_
 rintro e w' ⟨rfl,k,os,rfl⟩
 exact⟨rfl,Lib.below_grow _ w (Nat.le_refl _) k os⟩
theorem JU(s:List UInt8):((⟨s.toArray⟩:ByteArray).data.toList)=s:=by simp
theorem P0(s:List UInt8):(⟨s.toArray⟩:ByteArray).size=s.length:=by simp[ByteArray.size]
theorem VX:iK Tryz.prog nm glS aN ⟨fun f' avs kb h=>if f'=92 then sF avs kb h else none,fun _ _ _ _=>none⟩:=by
 refine R7 aBy 0 1 rfl rfl ?_ ?_ ?_
 ·intro s hs v hv w
  rw[n92]
  refine(Tryz.strconv_Atoi_ok ⟨s.toArray⟩ (by rw[P0];omega) v (by rw[JU];exact hv) w).mono ?_
  rintro e w' ⟨rfl,hw⟩
  refine⟨rfl,?_⟩
  rcases hw with rfl|⟨t,rfl⟩
  ·exact RowKit.Below.refl _ _
  ·exact Lib.bytesWorld_below _ _ _
 ·intro s hs hv1 hv2 w te pe hc
  rw[n92]
  refine(Tryz.strconv_Atoi_bad ⟨s.toArray⟩ (by rw[P0];omega) (by rw[JU];exact hv1) (by rw[JU];exact hv2) _ w hc (.inr ⟨te,pe,rfl⟩)).mono ?_
  rintro e w' ⟨N,rfl,_,_,hb⟩
  exact⟨_,_,rfl,hb⟩
 ·intro s hs hv w te pe hc
  rw[n92]
  refine(Tryz.strconv_Atoi_range ⟨s.toArray⟩ (by rw[P0];omega) (by rw[JU];exact hv) _ w hc (.inr ⟨te,pe,rfl⟩)).mono ?_
  rintro e w' ⟨N,rfl,_,_,hb⟩
  rw[JU]
  exact⟨_,_,rfl,hb⟩
theorem TL:iK Tryz.prog nm glS aN ⟨fun f' avs kb h=>if f'=75 then uL avs kb h else none,fun _ _ _ _=>none⟩:=by
 refine P2 aBA ?_ ?_
 ·intro blk off cap zs w hH hb hz
  rw[n75]
  refine(Tryz.slices_Sort_int blk off cap zs w hH hb (by omega)).mono ?_
  rintro e w' ⟨rfl,n,os,rfl⟩
  exact⟨rfl,n,os,by rw[JW]⟩
 ·intro p cap w
  rw[n75]
  exact Tryz.slices_Sort_int_none p cap w
theorem VG:iK Tryz.prog nm glS aN ⟨fun f' avs kb h=>if f'=76 then uM avs kb h else none,fun _ _ _ _=>none⟩:=by
 refine RX aBz ?_ ?_
 ·intro blk off cap zs w hH hz hc
  rw[n76]
  refine(Tryz.slices_Compact_int blk off cap zs w hH (by omega) hc).mono ?_
  rintro e w' ⟨rfl,q,rfl⟩
  rw[GB]
  exact⟨rfl,q,rfl⟩
 ·intro p cap w
  rw[n76]
  exact Tryz.slices_Compact_int_empty p cap w
theorem exS:∀f g,exB f=some g->iK Tryz.prog nm glS aN ⟨fun f' avs kb h=>if f'=f then g avs kb h else none,fun _ _ _ _=>none⟩:=by
 intro f g h
 unfold exB at h
 cases h1:f.beq 92 with
 |true=>rw[h1]at h;cases h;obtain rfl:=Nat.eq_of_beq_eq_true h1;exact VX
 |false=>
  cases h2:f.beq 93 with
  |true=>rw[h1,h2]at h;cases h;obtain rfl:=Nat.eq_of_beq_eq_true h2;exact UW
  |false=>
   cases h3:f.beq 75 with
   |true=>rw[h1,h2,h3]at h;cases h;obtain rfl:=Nat.eq_of_beq_eq_true h3;exact TL
   |false=>
    cases h4:f.beq 76 with
    |true=>rw[h1,h2,h3,h4]at h;cases h;obtain rfl:=Nat.eq_of_beq_eq_true h4;exact VG
    |false=>rw[h1,h2,h3,h4]at h;cases h
theorem fitS:NG Tryz.prog nm aN pgS:=fitP_of fits exS (fun _ _ _ _=>Iff.rfl)
end Go.Proofs
end
section
namespace Go.Tev
def qE(op:List UInt8):Bool:=decide (op=[108,116])||decide (op=[108,101])||decide (op=[103,116])||decide (op=[103,101])||decide (op=[101,113])||decide (op=[110,101])
def J2:List Bool->Bool
 |[_,b,c]=>b&&c
 |_=>false
def eT(op:List UInt8)(kids:List Bool):Bool:=
 if qE op then decide ((kids.length:Int)=2)
 else if decide (op=[115,101,108,101,99,116]) then J2 kids
 else match hU op with
  |none=>false
  |some p=>decide (p.result=[98,111,111,108])&&decide ((p.params.length:Int)=(kids.length:Int)) && !kids.any (fun b=>b==false)
theorem El.bools(l:List Bool):∀x∈l.map AV.bool,El 1 false x:=by
 intro x hx
 simp only[List.mem_map]at hx
 obtain⟨y,_,rfl⟩:=hx
 exact⟨rfl,rfl,rfl⟩
theorem lF(l:List Bool):Tev.treeL (l.map AV.bool)=true:=bG (f:=AV.bool) (fun _=>rfl) l
theorem wW(l:List (List UInt8)):Tev.treeL (l.map AV.str)=true:=bG (f:=AV.str) (fun _=>rfl) l
attribute [go_sem] lF wW
section
variable{pg:Pg}
theorem c178(hf:pg.fs 178=some cf178)(nl cl:Bool)(es:List Bool)(hb:es.length<=big)(v:Bool) :
  bL pg 178 [.sl nl (es.map AV.bool) cl,.bool v] (fun r=>∃i:Int,r = .int .i64 i/\decide (0<=i)=es.any (fun b=>v==b)):=
 BS (f:=178) (k:=.beq false) hf AV.bool (fun _=>rfl) nl cl es hb (.bool v) (fun b=>v==b) (by intro kb s h x Q t;simp only[go_sem,seval])
theorem c141(hf:pg.fs 141=some cf141)(h178:pg.fs 178=some cf178)(nl cl:Bool)(es:List Bool)(hb:es.length<=big)(v:Bool) :
  Ret pg 141 [.sl nl (es.map AV.bool) cl,.bool v] (.bool (es.any (fun b=>v==b))):=
 nI (n:=178) hf (by simp only[treeL,mW,zF,lF,Bool.and_true]) (c178 h178 nl cl es hb v)
set_option maxHeartbeats 1000000 in
theorem c102(hf:pg.fs 102=some cf102)(h140:∀op,bL pg 140 [.str op] (iJ op))(h141:pg.fs 141=some cf141)(h178:pg.fs 178=some cf178)(op:List UInt8)(nl cl:Bool)(kids:List Bool)(hb:kids.length<=big) :
  Ret pg 102 [.str op,.sl nl (kids.map AV.bool) cl] (.bool (eT op kids)):=by
 have k1:=c141 h141 h178 nl cl kids hb false
 refine Ret.ofX hf ?_
 unfold cf102
 cases hc:qE op
 case true=>
  have hs:eT op kids=decide ((kids.length:Int)=2):=by simp[eT,hc]
  rw[hs]
  clear h140 h141 h178 k1
  repeat' (first|simp only[*,go_sem,seval]|refine aK (fun _=>?_) (fun _=>?_)|refine aL (fun _=>?_) (fun _=>?_)|refine And.intro (by kernel_rfl) ?_)
  all_goals (exfalso;simp_all [qE])
 simp only[qE,Bool.or_eq_false_iff]at hc
 obtain⟨⟨⟨⟨⟨q1,q2⟩,q3⟩,q4⟩,q5⟩,q6⟩:=hc
 cases hsel:decide (op=[115,101,108,101,99,116])
 case true=>
  have hs:eT op kids=J2 kids:=by
   unfold eT
   rw[if_neg (by simp only[qE,q1,q2,q3,q4,q5,q6];decide),if_pos hsel]
  rw[hs]
  clear h140 h141 h178 k1
  match kids,hb with
  |[],_=>
   repeat' (first|simp only[*,go_sem,seval]|refine aK (fun _=>?_) (fun _=>?_)|refine aL (fun _=>?_) (fun _=>?_)|refine And.intro (by kernel_rfl) ?_)
   all_goals rfl
  |[a],_=>
   repeat' (first|simp only[*,go_sem,seval]|refine aK (fun _=>?_) (fun _=>?_)|refine aL (fun _=>?_) (fun _=>?_)|refine And.intro (by kernel_rfl) ?_)
   all_goals rfl
  |[a,b],_=>
   repeat' (first|simp only[*,go_sem,seval]|refine aK (fun _=>?_) (fun _=>?_)|refine aL (fun _=>?_) (fun _=>?_)|refine And.intro (by kernel_rfl) ?_)
   all_goals rfl
  |[a,b,c],_=>
   have e3:(((3:Nat):Int))=3:=rfl
   have t1:(1:Int).toNat=1:=rfl
   have t2:(2:Int).toNat=2:=rfl
   have z1:((0:Int)<=1)=True:=by simp
   have z2:((0:Int)<=2)=True:=by simp
   repeat' (first|simp only[*,go_sem,seval]|refine aK (fun _=>?_) (fun _=>?_)|refine aL (fun _=>?_) (fun _=>?_)|refine And.intro (by kernel_rfl) ?_)
   all_goals (simp_all [J2])
  |a::b::c::d::r,hb=>
   have h3:decide (((((r.length+1+1+1+1):Nat):Int))=3)=false:=by simp;omega
   repeat' (first|simp only[*,go_sem,seval]|refine aK (fun _=>?_) (fun _=>?_)|refine aL (fun _=>?_) (fun _=>?_)|refine And.intro (by kernel_rfl) ?_)
   all_goals rfl
 have hspec:eT op kids=match hU op with
  |none=>false
  |some p=>decide (p.result=[98,111,111,108])&&decide ((p.params.length:Int)=(kids.length:Int)) && !kids.any (fun b=>b==false):=by
  unfold eT
  rw[if_neg (by simp only[qE,q1,q2,q3,q4,q5,q6];decide),if_neg (by rw[hsel];decide)]
 obtain⟨r,hr,hP⟩:=h140 op
 clear h140 h141 h178
 generalize eT op kids=res at hspec ⊢
 obtain⟨nl',cl',ps,rs,ok,rfl,hres⟩:∃nl cl,∃ps:List (List UInt8),∃rs ok,r = .tup [.sl nl (ps.map .str) cl,.str rs,.bool ok]/\res=(ok&&decide (rs=[98,111,111,108])&&decide ((ps.length:Int)=(kids.length:Int)) && !kids.any (fun b=>b==false)):=by
  unfold iJ at hP
  cases hp:hU op with
  |none=>
   rw[hp]at hP hspec
   exact⟨_,_,[],_,_,hP,by simp[hspec]⟩
  |some q=>
   rw[hp]at hP hspec
   obtain⟨nl,cl,hP⟩:=hP
   exact⟨_,_,q.params,_,_,hP,by simp[hspec]⟩
 clear hP hspec
 have htr:treeL (ps.map AV.str)=true:=wW ps
 have htk:=lF kids
 repeat' (first|simp only[*,go_sem,seval]|refine aK (fun _=>?_) (fun _=>?_)|refine aL (fun _=>?_) (fun _=>?_)|(refine aB hr (by simp only[go_sem,seval]) rfl ?_)|(refine aB k1 (by simp only[go_sem,seval]) rfl ?_)|refine And.intro (by kernel_rfl) ?_)
 all_goals (clear hr k1 htr htk)
 all_goals (simp_all)
def oX(op:List UInt8):Bool:=decide (op=[99,111,110,115,116])||decide (op=[116,114,117,116,104])
def lI(l:List Bool)(a:Int):Bool:=decide (0<=a)&&(decide (a<(l.length:Int))&&(l[a.toNat]?).getD false)
def lH(l:List Bool)(s:aI):Bool:=if oX s.op.bs then decide (s.num=0)||decide (s.num=1) else eT s.op.bs (s.args.es.map (lI l))
def lB(l:List Bool):List aI->List Bool
 |[]=>l
 |s::r=>lB (l++[lH l s]) r
def cW(code:List aI)(args:List Bool):Bool:=(lB args code).getLast?.getD false
theorem c103(hf:pg.fs 103=some cf103)(nl cl:Bool)(es:List AV)(hel:∀x∈es,El 1 false x)(hb:es.length<=big)(hnl:nl=true->es=[]):bL pg 103 [.sl nl es cl] (lO 1 false es):=by
 refine bL.ofX hf ?_
 unfold cf103
 simp only[go_sem,seval]
 cases nl
 ·simp only[go_sem,seval]
  refine eU (kb:=0) (s:=1) (bytes:=1) (es:=[]) (xs:=es) (Own.nil _ _ _ _ _ _ rfl) (by simp) hel ?_ (by decide) ?_
  ·simp only[List.length_nil,big]at *;omega
  ·intro v' rd pa ho hk hpa
   simp only[go_sem,seval]
   exact ho.conv (by simpa using hel)
 ·simp only[go_sem,seval]
  exact .inl ⟨hnl rfl,true,true,rfl,rfl⟩
def u7(h:Hp)(ks:List Nat)(v:AV)(es:List Bool):Prop:=∃k∈ks,Own h k 1 false v (es.map AV.bool)
theorem u7.mono{h h':Hp}{ks:List Nat}{v:AV}{es:List Bool}(o:u7 h ks v es)(hh:∀k∈ks,h'.get k=h.get k):u7 h' ks v es:=by
 obtain⟨k,hk,o⟩:=o
 exact⟨k,hk,o.mono (hh k hk)⟩
theorem cN:∀(l:List Bool),bB 1 false (l.map AV.bool)=some (l.map AV.bool)
 |[]=>rfl
 |x::r=>by
  have ih:=cN r
  rw[List.map_cons,bB,ih];rfl
theorem u7.at{h:Hp}{ks:List Nat}{v:AV}{es:List Bool}(o:u7 h ks v es){n:Int}(h0:0<=n)(h1:n<es.length):∃k e,v = .rf k e 0 es.length es.length/\h.get k=some (e,.blk (es.map AV.bool) 1 false false false)/\k∈ks:=by
 obtain⟨k,hk,⟨he,nl,cl,rfl,hc⟩|⟨e,cs,rfl,hg,hu⟩⟩:=o
 ·have:es=[]:=by simpa using he
  subst this
  simp at h1;omega
 ·rw[cN]at hu
  cases hu
  exact⟨k,e,by simp,hg,hk⟩
theorem u7.len{h:Hp}{ks:List Nat}{v:AV}{es:List Bool}(o:u7 h ks v es)(kb s:Nat)(h':Hp)(Q:AV->Eff->Prop)(t:Tok Q):XO pg kb (.len 1) s h' [v] Q t=Q (.int .i64 es.length) (.pat [] []):=by
 obtain⟨k,hk,⟨he,nl,cl,rfl,hc⟩|⟨e,cs,rfl,hg,hu⟩⟩:=o
 ·have:es=[]:=by simpa using he
  subst this
  simp only[go_sem,seval]
 ·rw[List.length_map]
  simp only[go_sem,seval]
theorem u7.flen{h:Hp}{ks:List Nat}{v:AV}{es:List Bool}(o:u7 h ks v es)(h':Hp):DQ h' 1 [v]=some (.int .i64 es.length,.pat [] []):=by
 obtain⟨k,hk,⟨he,nl,cl,rfl,hc⟩|⟨e,cs,rfl,hg,hu⟩⟩:=o
 ·have:es=[]:=by simpa using he
  subst this
  rfl
 ·rw[List.length_map];rfl
theorem nZ{h:Hp}{d:Nat}{a b b':AV}{keys:List Nat}(ha:a.tree=true)(hb:Tev.snap (d+1) h b=some (b',keys)):cE (Tev.snap (d+1) h) [a,b]=some ([a,b'],keys):=by
 simp[bA,cD,lY ha,hb]
theorem c64(hf:pg.fs 64=some cf64)(h103:pg.fs 103=some cf103)(h102:∀(op:List UInt8) (nl cl:Bool) (kids:List Bool),kids.length<=big->Ret pg 102 [.str op,.sl nl (kids.map AV.bool) cl] (.bool (eT op kids)))
  (nl cl:Bool) (code:List aI) (hb:code.length<=16777216) (nl' cl':Bool) (args:List Bool) (hb':args.length<=16777216) (hnl:nl'=true->args=[]):Ret pg 64 [.sl nl (code.map aI.av) cl,.sl nl' (args.map AV.bool) cl'] (.bool (cW code args)):=by
 refine Ret.ofX hf ?_
 unfold cf64
 simp only[go_sem,seval]
 refine u4 (c103 h103 nl' cl' (args.map AV.bool) (El.bools args) (by simp[big];omega) (by intro h;simp[hnl h])) (by simp only[go_sem,seval]) (El.bools args) ?_
 intro v0 rd pa ho0 hk0 _
 simp only[go_sem,seval]
 refine aG code (fun d r env hp=>∃v l,env=cf64E1 v (.sl nl (code.map aI.av) cl) (.int .i64 code.length) (.int .i64 d.length)/\u7 hp [1,9,21] v l/\l.length=args.length+d.length/\lB args code=lB l r) ?_ ?_ ?_
 ·exact⟨v0,args,rfl,⟨1,by simp,ho0⟩,by simp,rfl⟩
 ·rintro env hp ⟨v,l,rfl,ho,hl,hI⟩
  have hlen:=ho.flen
  have hll:∀(l':List Bool)(b:Bool),(l'.length:Int)<((l'++[b]).length:Int):=by
   intro l' b;rw[List.length_append,List.length_singleton];omega
  simp only[lB]at hI
  have hsp:cW code args=l.getLast?.getD false:=by rw[cW,hI]
  rw[hsp]
  rcases List.eq_nil_or_concat l with rfl|⟨l',b,rfl⟩
  ·simp only[cf64L1,cf64E1,↓hlen,go_sem,seval]
   rfl
  ·rw[List.concat_eq_append]at *
   obtain⟨k,e,rfl,hg,_⟩:=ho.at (n:=(l'.length:Int)) (by omega) (hll l' b)
   have hw:wr .i64 (((l'++[b]).length:Int)-1)=(l'.length:Int):=by
    simp only[List.length_append,List.length_cons,List.length_nil]at *
    rw[aR (by omega) (by omega)];omega
   have hlt:decide ((0:Int)<((l'++[b]).length:Int))=true:=by have:=hll l' b;simp only[decide_eq_true_eq];omega
   have hlt2:((l'.length:Int)<((l'++[b]).length:Int))=True:=eq_true (hll l' b)
   have hgm:((l'++[b]).map AV.bool)[l'.length]?=some (.bool b):=by simp
   simp only[cf64L1,cf64E1,↓hlen,hlt,hw,hlt2,Nat.mul_one,Nat.zero_add,hg,go_sem,seval]
   simp
 ·rintro d x r env hp hes ⟨v,l,rfl,ho,hl,hI⟩
  subst hes
  have hks:∀k∈([1,9,21]:List Nat),k=1\/k=9\/k=21:=by simp
  have hd:d.length<=16777216:=by simp at hb;omega
  have hb2:(d++x::r).length<=big:=by simp only[big];omega
  simp only[lB]at hI
  cases hc:oX x.op.bs
  case true=>
   have hst:lH l x=(decide (x.num=0)||decide (x.num=1)):=by simp[lH,hc]
   have hfin:∀(hp':Hp)(c:Bool),(∀k,k≠5->hp'.get k=hp.get k)->c=lH l x->∀(Q:AV->Eff->Prop)(t:Tok Q),
     (∀v' rd pa,u7 (Eff.app hp' (.pat rd pa)) [1,9,21] v' (l++[lH l x])->Q v' (.pat rd pa))->XO pg 0 (.app 1 false 1) 9 hp' [v,.sl false [.bool c] true] Q t:=by
    intro hp' c hk hcc Q t hq
    obtain⟨k,hkm,ho'⟩:=ho
    refine pA (kb:=0) (s:=9) (k1:=k) (ho'.mono (hk k (by rcases hks k hkm with h|h|h<;>omega))) (El.bools l) (xs:=[.bool c]) (by intro y hy;simp at hy;subst hy;exact El.bool _) (by simp) (by simp;omega) (by omega) ?_
    intro v' rd pa ho2 _
    exact hq v' rd pa ⟨9,by simp,by simpa[hcc] using ho2⟩
   have hgp:∀o1 o2 k,k≠5->((hp.put 5 (hp.next 5) o1).put 5 (hp.next 5) o2).get k=hp.get k:=by
    intro o1 o2 k hk;rw[aD,if_neg (Ne.symm hk),aD,if_neg (Ne.symm hk)]
   have hor:decide (x.op.bs=[99,111,110,115,116])=true\/(decide (x.op.bs=[99,111,110,115,116])=false/\decide (x.op.bs=[116,114,117,116,104])=true):=by
    unfold oX at hc
    cases h1:decide (x.op.bs=[99,111,110,115,116])
    ·rw[h1]at hc;exact .inr ⟨rfl,by simpa using hc⟩
    ·exact .inl rfl
   rcases hor with c1|⟨c1,c2⟩
   ·cases c3:decide (x.num=0)
    ·simp only[cf64L1,cf64E1,c1,c3,go_sem,seval]
     refine hfin _ _ (hgp _ _) (by rw[hst,c3];rfl) _ _ ?_
     intro v' rd pa ho2
     simp only[aM hb2,go_sem,seval]
     exact⟨v',_,rfl,ho2,by simp;omega,hI⟩
    ·simp only[cf64L1,cf64E1,c1,c3,go_sem,seval]
     refine hfin _ _ (hgp _ _) (by rw[hst,c3];rfl) _ _ ?_
     intro v' rd pa ho2
     simp only[aM hb2,go_sem,seval]
     exact⟨v',_,rfl,ho2,by simp;omega,hI⟩
   ·cases c3:decide (x.num=0)
    ·simp only[cf64L1,cf64E1,c1,c2,c3,go_sem,seval]
     refine hfin _ _ (hgp _ _) (by rw[hst,c3];rfl) _ _ ?_
     intro v' rd pa ho2
     simp only[aM hb2,go_sem,seval]
     exact⟨v',_,rfl,ho2,by simp;omega,hI⟩
    ·simp only[cf64L1,cf64E1,c1,c2,c3,go_sem,seval]
     refine hfin _ _ (hgp _ _) (by rw[hst,c3];rfl) _ _ ?_
     intro v' rd pa ho2
     simp only[aM hb2,go_sem,seval]
     exact⟨v',_,rfl,ho2,by simp;omega,hI⟩
  have hst:lH l x=eT x.op.bs (x.args.es.map (lI l)):=by simp[lH,hc]
  simp only[oX,Bool.or_eq_false_iff]at hc
  obtain⟨c1,c2⟩:=hc
  have hxl:=x.args.ok
  simp only[cf64L1,cf64E1,c1,c2,go_sem,seval]
  have hlen:=ho.flen
  have hll:(l.length:Int)<=33554432:=by simp only[List.length_append,List.length_cons]at hb;omega
  have hgp:∀o1 o2 k,k≠5->((hp.put 5 (hp.next 5) o1).put 5 (hp.next 5) o2).get k=hp.get k:=by
   intro o1 o2 k hk;rw[aD,if_neg (Ne.symm hk),aD,if_neg (Ne.symm hk)]
  have hg5:∀o1 o2,((hp.put 5 (hp.next 5) o1).put 5 (hp.next 5) o2).get 5=some (hp.next 5,o2):=by
   intro o1 o2;rw[aD,if_pos rfl]
  generalize hH:(hp.put 5 (hp.next 5) (Ob.blk [AV.str [],AV.int IntKind.i64 0,AV.sl true [] true] 3 true true false)).put 5 (hp.next 5) (Ob.blk [AV.str x.op.bs,AV.int IntKind.i64 x.num,AV.sl x.args.nl (List.map aH x.args.es) x.args.cl] 3 true true false)=H
  have hH5:H.get 5=some (hp.next 5,Ob.blk [AV.str x.op.bs,AV.int IntKind.i64 x.num,AV.sl x.args.nl (List.map aH x.args.es) x.args.cl] 3 true true false):=by rw[<-hH];exact hg5 _ _
  have hHk:∀k,k≠5->H.get k=hp.get k:=by intro k hk;rw[<-hH];exact hgp _ _ k hk
  clear hgp hg5 hH
  refine aG x.args.es (fun d2 r2 env hp'=>∃v8,env=cf64E0 v (.pt 5 (hp.next 5) 0) v8 (.sl nl ((d++x::r).map aI.av) cl) (.int .i64 (d++x::r).length) (.int .i64 d.length) (.sl x.args.nl (x.args.es.map aH) x.args.cl) (.int .i64 x.args.es.length) (.int .i64 d2.length) /\
   Own hp' 13 1 false v8 ((d2.map (lI l)).map AV.bool)/\∀k,k≠13->hp'.get k=H.get k) ?_ ?_ ?_
  ·exact⟨_,rfl,Own.nil _ _ _ _ _ _ rfl,fun _ _=>rfl⟩
  ·rintro env hp' ⟨v8,rfl,ho8,hfr⟩
   have hg5:=(hfr 5 (by omega)).trans hH5
   simp only[cf64L0,cf64E0,hg5,go_sem,seval]
   obtain⟨nl8,cl8,keys,hsn,hnl8⟩:=ho8.snap (El.bools _) 62
   have h2:=h102 x.op.bs nl8 cl8 (x.args.es.map (lI l)) (by simpa using hxl)
   rw[<-hst]at h2
   refine bT h2 (nZ (by simp only[go_sem,seval]) hsn) (v:=.bool (lH l x)) (pa:=[]) rfl ?_
   simp only[go_sem,seval]
   obtain⟨k,hkm,ho'⟩:=ho
   have hk13:k≠13/\k≠5:=by rcases hks k hkm with h|h|h<;>omega
   refine pA (kb:=0) (s:=21) (k1:=k) (ho'.mono ?_) (El.bools l) (xs:=[.bool (lH l x)]) (by intro y hy;simp at hy;subst hy;exact El.bool _) (by simp) (by simp;omega) (by omega) ?_
   ·rw[hfr k hk13.1,hHk k hk13.2]
   ·intro v' rd pa ho2 _
    simp only[aM hb2,go_sem,seval]
    exact⟨v',_,rfl,⟨21,by simp,by simpa using ho2⟩,by simp;omega,hI⟩
  ·rintro d2 a r2 env hp' hes ⟨v8,rfl,ho8,hfr⟩
   have hb3:(d2++a::r2).length<=big:=by rw[<-hes];exact hxl
   have hfin:∀(c:Bool),c=lI l a->∀(Q:AV->Eff->Prop)(t:Tok Q),
     (∀v' rd pa,Own (Eff.app hp' (.pat rd pa)) 13 1 false v' (((d2++[a]).map (lI l)).map AV.bool)->(∀k,k≠13->(Eff.app hp' (.pat rd pa)).get k=H.get k)->Q v' (.pat rd pa))->XO pg 0 (.app 1 false 1) 13 hp' [v8,.sl false [.bool c] true] Q t:=by
    intro c hcc Q t hq
    refine eU (kb:=0) (s:=13) ho8 (El.bools _) (xs:=[.bool c]) (by intro y hy;simp at hy;subst hy;exact El.bool _) (by simp[big]at *;omega) (by omega) ?_
    intro v' rd pa ho2 hk _
    refine hq v' rd pa (by simpa[hcc] using ho2) (fun k hk13=>?_)
    rw[hk k (by omega),hfr k hk13]
   rw[hes]
   cases z1:decide (0<=a)
   ·simp only[cf64L0,cf64E0,z1,go_sem,seval]
    refine hfin _ (by simp[lI,z1]) _ _ ?_
    intro v' rd pa ho2 hk2
    simp only[aM hb3,go_sem,seval]
    exact⟨v',rfl,ho2,hk2⟩
   cases z2:decide (a<(l.length:Int))
   ·simp only[cf64L0,cf64E0,z1,z2,↓hlen,go_sem,seval]
    refine hfin _ (by simp[lI,z2]) _ _ ?_
    intro v' rd pa ho2 hk2
    simp only[aM hb3,go_sem,seval]
    exact⟨v',rfl,ho2,hk2⟩
   simp only[decide_eq_true_eq]at z1 z2
   obtain⟨k,e,hv,hg,hkm⟩:=ho.at z1 z2
   have hk13:k≠13/\k≠5:=by rcases hks k hkm with h|h|h<;>omega
   have hgk:hp'.get k=some (e,.blk (l.map AV.bool) 1 false false false):=by rw[hfr k hk13.1,hHk k hk13.2,hg]
   have hla:l[a.toNat]?=some (l[a.toNat]'(by omega)):=List.getElem?_eq_getElem (by omega)
   have z1':(0<=a)=True:=eq_true z1
   have z2':(a<(l.length:Int))=True:=eq_true z2
   have z3:decide (0<=a)=true:=decide_eq_true z1
   have z4:decide (a<(l.length:Int))=true:=decide_eq_true z2
   subst hv
   simp only[cf64L0,cf64E0,z3,z4,z1',z2',hgk,hla,Nat.mul_one,Nat.zero_add,go_sem,seval]
   refine hfin _ (by simp[lI,z1,z2,hla]) _ _ ?_
   intro v' rd pa ho2 hk2
   simp only[aM hb3,go_sem,seval]
   exact⟨v',rfl,ho2,hk2⟩
end
end Go.Tev
end
section
namespace Go.Tev
def sQ(vals:List Typ)(v:Int):Bool:=decide (0<=v)&&(decide (v<(vals.length:Int))&&((vals[v.toNat]?).map fun t=>decide (t.elem.bs=[98,111,111,108])).getD false)
def ifT:List Bool->Bool
 |[a,b]=>a&&b
 |_=>false
def P8(fn:List aI):List Bool->Bool
 |[a,b]=>a&&cW fn [true,b]
 |_=>false
def eF(vals:List Typ)(op:List UInt8)(num value:Int)(fn:List aI)(kids:List Bool):Bool:=
 if decide (op=[99,111,110,115,116]) then decide (num=0)||decide (num=1)
 else if decide (op=[108,105,110,101,97,114]) then false
 else if decide (op=[114,101,97,100]) then sQ vals value
 else if decide (op=[105,102]) then ifT kids
 else if decide (op=[114,101,100,117,99,101]) then P8 fn kids
 else if decide (op=[99,111,100,101]) then cW fn kids
 else eT op kids
mutual
def dQ(vals:List Typ):aC->Bool
 |.mk op num value _ _ _ _ fn _ kids _=>eF vals op.bs num value fn.es (wF vals kids)
def wF(vals:List Typ):List aC->List Bool
 |[]=>[]
 |p::r=>dQ vals p::wF vals r
end
theorem wS(vals:List Typ):∀l,wF vals l=l.map (dQ vals)
 |[]=>rfl
 |p::r=>by simp[wF,wS vals r]
theorem wT(vals:List Typ)(p:aC):dQ vals p=eF vals p.op.bs p.num p.value p.fn.es (p.kids.map (dQ vals)):=by
 cases p;rw[dQ,wS];rfl
def fE(k:aA)(nl cl:Bool)(there:List Bool)(m:Int):List AV:=
 [.sl k.vars.nl (k.vars.es.map Str.av) k.vars.cl,.sl k.wher.nl (k.wher.es.map Lin.av) k.wher.cl,.int .i64 k.inputs,.sl k.values.nl (k.values.es.map Typ.av) k.values.cl,.sl k.list.nl (k.list.es.map aE.av) k.list.cl,.sl k.results.nl (k.results.es.map aH) k.results.cl,
  .sl nl (there.map AV.bool) cl,.int .i64 m]
theorem Own.flen{h:Hp}{k esz:Nat}{ag:Bool}{v:AV}{es:List AV}(o:Own h k esz ag v es)(h':Hp):DQ h' 1 [v]=some (.int .i64 es.length,.pat [] []):=by
 rcases o with ⟨rfl,nl,cl,rfl,hc⟩|⟨e,cs,rfl,hg,hu⟩
 ·rfl
 ·rfl
section
variable{pg:Pg}
set_option maxHeartbeats 1000000 in
theorem c63(hf:pg.fs 63=some cf63)(h64:∀(nl cl:Bool) (code:List aI),code.length<=16777216->∀(nl' cl':Bool) (args:List Bool),args.length<=16777216->(nl'=true->args=[])->Ret pg 64 [.sl nl (code.map aI.av) cl,.sl nl' (args.map AV.bool) cl'] (.bool (cW code args)))
  (h102:∀(op:List UInt8)(nl cl:Bool)(kids:List Bool),kids.length<=big->Ret pg 102 [.str op,.sl nl (kids.map AV.bool) cl] (.bool (eT op kids)))
  (k:aA) (nl cl:Bool) (there:List Bool) (m:Int):∀p:aC,p.ok->Ret pg 63 [.fp (.agg (fE k nl cl there m)),p.av] (.bool (dQ k.values.es p)):=by
 refine aC.ind' fun p ih hp=>?_
 obtain⟨hk,hks⟩:=(aC.ok_iff p).1 hp
 refine Ret.ofX hf ?_
 have htr:AV.tree (.fp (.agg (fE k nl cl there m)))=true:=by simp only[fE];simp only[go_sem,seval]
 unfold cf63
 simp only[go_sem,seval]
 generalize hH:Hp.put [] 1 0 _=H
 have hH1:H.get 1=some (0,.blk [.str p.op.bs,.int .i64 p.num,.int .i64 p.value,.str p.name.bs,.sl p.at_.nl (p.at_.es.map Lin.av) p.at_.cl,.bool p.dyn,.int .i64 p.check,.sl p.fn.nl (p.fn.es.map aI.av) p.fn.cl,.sl p.knl (p.kids.map aC.av) p.kcl] 9 true true false):=by
  rw[<-hH,aD,if_pos rfl]
 clear hH
 rw[wT]
 refine aG p.kids (fun d r env hp=>∃v,env=cf63E0 (.fp (.agg (fE k nl cl there m))) (.pt 1 0 0) v (.sl p.knl (p.kids.map aC.av) p.kcl) (.int .i64 p.kids.length) (.int .i64 d.length)/\Own hp 13 1 false v ((d.map (dQ k.values.es)).map AV.bool)/\hp.get 1=H.get 1) ?_ ?_ ?_
 ·exact⟨_,rfl,Own.nil _ _ _ _ _ _ rfl,rfl⟩
 ·rintro env hp ⟨v,rfl,ho,h1⟩
  rw[hH1]at h1
  have hlen:=ho.flen
  have hkl:(p.kids.map (dQ k.values.es)).length<=big:=by simpa using hk
  generalize p.kids.map (dQ k.values.es)=ks at ho hlen hkl ⊢
  simp only[cf63L0,cf63E0,h1,go_sem,seval]
  cases o1:decide (p.op.bs=[99,111,110,115,116])
  case true=>
   repeat' (first|simp only[*,go_sem,seval]|refine aK (fun _=>?_) (fun _=>?_)|refine aL (fun _=>?_) (fun _=>?_)|refine And.intro (by kernel_rfl) ?_)
   all_goals (simp_all [eF])
  simp only[h1,go_sem,seval]
  cases o2:decide (p.op.bs=[108,105,110,101,97,114])
  case true=>
   simp only[go_sem,seval]
   simp[eF,o1,o2]
  simp only[h1,go_sem,seval]
  cases o3:decide (p.op.bs=[114,101,97,100])
  case true=>
   have hs:eF k.values.es p.op.bs p.num p.value p.fn.es ks=sQ k.values.es p.value:=by simp[eF,o1,o2,o3]
   rw[hs]
   cases z1:decide (0<=p.value)
   ·simp only[h1,z1,go_sem,seval]
    refine And.intro (by kernel_rfl) ?_
    simp[sQ,z1]
   cases z2:decide (p.value<(k.values.es.length:Int))
   ·simp only[h1,z1,z2,fE,go_sem,seval]
    refine And.intro (by kernel_rfl) ?_
    simp[sQ,z2]
   simp only[decide_eq_true_eq]at z1 z2
   have z1':(0<=p.value)=True:=eq_true z1
   have z3:decide (0<=p.value)=true:=decide_eq_true z1
   have z4:decide (p.value<(k.values.es.length:Int))=true:=decide_eq_true z2
   obtain⟨t,hla⟩:∃t,k.values.es[p.value.toNat]?=some t:=⟨_,List.getElem?_eq_getElem (by omega)⟩
   simp only[h1,z3,z4,z1',fE,hla,go_sem,seval]
   refine And.intro (by kernel_rfl) ?_
   simp only[sQ,z3,z4,hla,Option.map_some,Option.getD_some,Bool.true_and]
  simp only[h1,go_sem,seval]
  cases o4:decide (p.op.bs=[105,102])
  case true=>
   have hs:eF k.values.es p.op.bs p.num p.value p.fn.es ks=ifT ks:=by simp[eF,o1,o2,o3,o4]
   rw[hs]
   match ks,ho,hlen,hkl with
   |[],ho,hlen,hkl=>
    simp only[h1,↓hlen,go_sem,seval]
    rfl
   |[a],ho,hlen,hkl=>
    simp only[h1,↓hlen,go_sem,seval]
    rfl
   |a::b::c::r,ho,hlen,hkl=>
    have h3:decide (((((r.length+1+1+1):Nat):Int))=2)=false:=by simp;omega
    simp only[h1,↓hlen,h3,go_sem,seval]
    rfl
   |[a,b],ho,hlen,hkl=>
    obtain⟨e,rfl,hg⟩:∃e,v = .rf 13 e 0 2 2/\hp.get 13=some (e,.blk [.bool a,.bool b] 1 false false false):=by
     rcases ho with ⟨he,_⟩|⟨e,cs,rfl,hg,hu⟩
     ·simp at he
     ·rw[cN]at hu;cases hu
      exact⟨e,rfl,hg⟩
    have q1:(0:Int)<((2:Nat):Int):=by decide
    have q2:(1:Int)<((2:Nat):Int):=by decide
    cases a
    ·simp only[h1,hg,go_sem,seval]
     rfl
    ·simp only[h1,hg,go_sem,seval]
     rfl
  simp only[h1,go_sem,seval]
  cases o5:decide (p.op.bs=[114,101,100,117,99,101])
  case true=>
   have hs:eF k.values.es p.op.bs p.num p.value p.fn.es ks=P8 p.fn.es ks:=by simp[eF,o1,o2,o3,o4,o5]
   rw[hs]
   match ks,ho,hlen,hkl with
   |[],ho,hlen,hkl=>
    simp only[h1,↓hlen,go_sem,seval]
    refine And.intro (by kernel_rfl) ?_
    rfl
   |[a],ho,hlen,hkl=>
    simp only[h1,↓hlen,go_sem,seval]
    refine And.intro (by kernel_rfl) ?_
    rfl
   |a::b::c::r,ho,hlen,hkl=>
    have h3:decide (((((r.length+1+1+1):Nat):Int))=2)=false:=by simp;omega
    simp only[h1,↓hlen,h3,go_sem,seval]
    refine And.intro (by kernel_rfl) ?_
    rfl
   |[a,b],ho,hlen,hkl=>
    obtain⟨e,rfl,hg⟩:∃e,v = .rf 13 e 0 2 2/\hp.get 13=some (e,.blk [.bool a,.bool b] 1 false false false):=by
     rcases ho with ⟨he,_⟩|⟨e,cs,rfl,hg,hu⟩
     ·simp at he
     ·rw[cN]at hu;cases hu
      exact⟨e,rfl,hg⟩
    cases a
    ·simp only[h1,hg,go_sem,seval]
     refine And.intro (by kernel_rfl) ?_
     rfl
    ·simp only[h1,hg,go_sem,seval]
     refine aB (h64 p.fn.nl p.fn.cl p.fn.es p.fn.ok false true [true,b] (by simp) (by intro h;cases h)) (by simp only[go_sem,seval]) rfl ?_
     simp only[go_sem,seval]
     refine And.intro (by kernel_rfl) ?_
     rfl
  simp only[h1,go_sem,seval]
  cases o6:decide (p.op.bs=[99,111,100,101])
  case true=>
   have hs:eF k.values.es p.op.bs p.num p.value p.fn.es ks=cW p.fn.es ks:=by simp[eF,o1,o2,o3,o4,o5,o6]
   rw[hs]
   simp only[h1,go_sem,seval]
   obtain⟨nl8,cl8,keys,hsn,hnl8⟩:=ho.snap (El.bools _) 62
   have h2:=h64 p.fn.nl p.fn.cl p.fn.es p.fn.ok nl8 cl8 ks hkl (by intro h;simpa using hnl8 h)
   refine bT h2 (nZ (by simp only[go_sem,seval]) hsn) (v:=.bool (cW p.fn.es ks)) (pa:=[]) rfl ?_
   simp only[go_sem,seval]
  have hs:eF k.values.es p.op.bs p.num p.value p.fn.es ks=eT p.op.bs ks:=by simp[eF,o1,o2,o3,o4,o5,o6]
  rw[hs]
  simp only[h1,go_sem,seval]
  obtain⟨nl8,cl8,keys,hsn,hnl8⟩:=ho.snap (El.bools _) 62
  have h2:=h102 p.op.bs nl8 cl8 ks hkl
  refine bT h2 (nZ (by simp only[go_sem,seval]) hsn) (v:=.bool (eT p.op.bs ks)) (pa:=[]) rfl ?_
  simp only[go_sem,seval]
 ·rintro d x r env hp hes ⟨v,rfl,ho,h1⟩
  have hxm:x∈p.kids:=by rw[hes];simp
  have hx:=ih x hxm (hks x hxm)
  have hb2:(d++x::r).length<=big:=by rw[<-hes];exact hk
  rw[hes]
  simp only[cf63L0,cf63E0,go_sem,seval]
  rw[aC.avc]at hx
  refine aB hx (by simp only[treeL,htr,Bool.true_and,Bool.and_true];simp only[go_sem,seval]) rfl ?_
  simp only[go_sem,seval]
  refine eU (kb:=0) (s:=13) (ho.mono ?_) (El.bools _) (xs:=[.bool (dQ k.values.es x)]) (by intro y hy;simp at hy;subst hy;exact El.bool _) (by simp[big]at *;omega) (by omega) ?_
  ·simp only[go_sem,seval]
  ·intro v' rd pa ho2 hk2 _
   simp only[aM hb2,go_sem,seval]
   exact⟨v',rfl,by simpa using ho2,by rw[hk2 1 (by omega)];simp only[h1,go_sem,seval]⟩
end
end Go.Tev
end
section
namespace Go.Tev
def wM:aC:=.mk ⟨[],by decide⟩ 0 0 ⟨[],by decide⟩ ⟨true,[],true,by decide⟩ false 0 ⟨true,[],true,by decide⟩ true [] true
theorem IA{p:aC}{v:Int}(h:rT p v=true):0<=p.value/\p.value<v:=by
 simp only[rT,Bool.and_eq_true,decide_eq_true_eq]at h
 exact⟨h.1.1.1.2,h.1.1.2⟩
theorem mU(v:Int):∀p:aC,∀vars,fZ v p vars=true->∀a∈dA p,0<=a/\a<v:=by
 refine aC.ind' fun p ih vars h=>?_
 rw[nR]at h
 simp only[Bool.and_eq_true]at h
 obtain⟨⟨h1,_⟩,h2⟩:=h
 have hk:∀(l:List aC),(∀q∈l,q∈p.kids)->∀i red,fX v red p.name vars i l=true->∀a∈gA l,0<=a/\a<v:=by
  intro l
  induction l with
  |nil=>intro _ i red _ a ha;simp[gA]at ha
  |cons q r ih2=>
   intro hm i red hv a ha
   simp only[fX,Bool.and_eq_true]at hv
   simp only[gA,List.mem_append]at ha
   rcases ha with ha|ha
   ·exact ih q (hm q (by simp)) _ hv.1 a ha
   ·exact ih2 (fun q hq=>hm q (by simp[hq])) _ red hv.2 a ha
 intro a ha
 rw[zS,List.mem_append]at ha
 rcases ha with ha|ha
 ·split at ha
  ·rename_i ho
   simp only[List.mem_singleton]at ha
   subst ha
   simp only[decide_eq_true_eq]at ho
   have e1:¬(p.op.bs=[99,111,110,115,116]):=by rw[ho];decide
   have e2:¬(p.op.bs=[108,105,110,101,97,114]):=by rw[ho];decide
   have:eQ p vars v=rT p v:=by unfold eQ;rw[if_neg e1,if_neg e2,if_pos ho]
   rw[this]at h1
   exact IA h1
  ·simp at ha
 ·exact hk p.kids (fun q hq=>hq) 0 _ h2 a ha
def aU(there:List Bool)(v:Int):Bool:=(there[v.toNat]?).getD false
section
variable{pg:Pg}
theorem c66(hf:pg.fs 66=some cf66)(h105:∀p:aC,p.ok->∀q:aC,Ret pg 105 [p.av,q.av] (.bool (cY p q)))(p:aC)(hp:p.ok):Ret pg 66 [p.av] (.bool (cY p wM)):=by
 have k:=h105 p hp wM
 rw[aC.avc,aC.avc]at k
 refine Ret.ofX hf ?_
 clear h105
 unfold cf66
 simp only[go_sem,seval]
 refine aB k (by simp only[go_sem,seval]) rfl ?_
 simp only[go_sem,seval]
theorem c110(hf:pg.fs 110=some cf110)(k:aA)(nl cl:Bool)(there:List Bool)(m nt v:Int)(h0:0<=v)(h1:v<there.length) :
  Ret pg 110 [.int .i64 v,.fp (.fp (.agg (fE k nl cl there m))),.fp (.int .i64 nt)] (.bool (!aU there v||decide (v=nt))):=by
 obtain⟨b,hb⟩:∃b,there[v.toNat]?=some b:=⟨_,List.getElem?_eq_getElem (by omega)⟩
 have ht:aU there v=b:=by simp[aU,hb]
 rw[ht]
 have h0':(0<=v)=True:=eq_true h0
 refine Ret.ofX hf ?_
 unfold cf110
 cases b
 ·simp only[fE,h0',hb,go_sem,seval]
 ·simp only[fE,h0',hb,go_sem,seval]
theorem c71(hf:pg.fs 71=some cf71)(nl cl:Bool)(es:List Int)(hb:es.length<=big)(g:Nat)(cs:List AV)(hcs:treeL cs=true)(p:Int->Bool)(hp:∀x∈es,Ret pg g (aH x::cs) (.bool (p x))) :
  bL pg 71 [.sl nl (es.map aH) cl,.fn g cs] (fun r=>∃i:Int,r = .int .i64 i/\decide (0<=i)=es.any p):=
 s8 (f:=71) (esz:=1) (ag:=false) hf aH (fun _=>rfl) (fun _=>rfl) nl cl es hb g cs hcs p hp
theorem c45(hf:pg.fs 45=some cf45)(h71:pg.fs 71=some cf71)(nl cl:Bool)(es:List Int)(hb:es.length<=big)(g:Nat)(cs:List AV)(hcs:treeL cs=true)(p:Int->Bool)(hp:∀x∈es,Ret pg g (aH x::cs) (.bool (p x))) :
  Ret pg 45 [.sl nl (es.map aH) cl,.fn g cs] (.bool (es.any p)):=
 nI (n:=71) hf (by simp only[treeL,mW,qM,hcs,mN,Bool.and_true]) (c71 h71 nl cl es hb g cs hcs p hp)
def sX(i:Nat):Str:=⟨p9 i,by simp[p9,big]⟩
def eB(vars:List Str)(n:Nat):List Str:=vars++(List.range n).map sX
def d8(k:aA)(there:List Bool)(p:aC)(n:Nat)(nt:Int):Bool:=
 gB p (eB k.vars.es n) k.values.es.length && !(bK p).any (fun v => !aU there v||decide (v=nt))
theorem jX{n x:Nat}{d r:List Nat}(h:List.range n=d++x::r):x=d.length/\d.length<n:=by
 have h1:(List.range n)[d.length]?=some x:=by rw[h];simp
 have h2:=congrArg List.length h
 simp at h2
 rw[List.getElem?_range (by omega)]at h1
 cases h1
 exact⟨rfl,by omega⟩
theorem c69(B:JP pg)(S:HR pg)(hf:pg.fs 69=some cf69)(h107:pg.fs 107=some cf107)(h109:∀p:aC,p.ok->∀(nl cl:Bool) (vars:List Str),vars.length+p.sz<=big->∀v:Int,Ret pg 109 [p.av,.sl nl (vars.map Str.av) cl,.int .i64 v] (.bool (gB p vars v)))
  (h48:pg.fs 48=some cf48) (h74:pg.fs 74=some cf74) (h110:pg.fs 110=some cf110) (h45:pg.fs 45=some cf45) (h71:pg.fs 71=some cf71)
  (k:aA) (hnl:k.vars.nl=true->k.vars.es=[]) (nl cl:Bool) (there:List Bool) (hth:there.length=k.values.es.length) (m:Int) (p:aC) (hpo:p.ok) (n:Nat) (hn:n<=9) (hsz:k.vars.es.length+n+p.sz<=big) (nt:Int) :
  Ret pg 69 [.fp (.agg (fE k nl cl there m)),p.av,.int .i64 n,.int .i64 nt] (.bool (d8 k there p n nt)):=by
 refine Ret.ofX hf ?_
 unfold cf69
 have htr:treeL (fE k nl cl there m)=true:=by simp only[fE];simp only[go_sem,seval]
 simp only[fE,go_sem,seval]
 refine u4 (c107 h107 k.vars.nl k.vars.cl (k.vars.es.map Str.av) (El.strs _) (by simpa using k.vars.ok) (by intro h;simp[hnl h])) (by simp only[go_sem,seval]) (El.strs _) ?_
 intro v0 rd pa ho0 hk0 _
 simp only[hk0,go_sem,seval]
 have g1:=hk0 1 (by omega)
 have g5:=hk0 5 (by omega)
 have g9:=hk0 9 (by omega)
 simp only[go_sem,seval]at g1 g5 g9
 clear hk0
 generalize hH:Eff.app _ (Eff.pat rd pa)=H at ho0 g1 g5 g9 ⊢
 clear hH
 refine aG (List.range n) (fun d r env hp=>∃v kk,env=cf69E0 (.pt 1 0 0) (.pt 5 0 0) (.pt 9 0 0) v (.int .i64 n) (.int .i64 d.length)/\(kk=13\/kk=21)/\Own hp kk 1 false v ((k.vars.es++d.map sX).map Str.av) /\
  hp.get 1=H.get 1/\hp.get 5=H.get 5/\hp.get 9=H.get 9) ?_ ?_ ?_
 ·exact⟨v0,13,rfl,.inl rfl,by simpa using ho0,rfl,rfl,rfl⟩
 ·rintro env hp ⟨v,kk,rfl,hkk,ho,q1,q5,q9⟩
  have hr:(List.range n).length=n:=List.length_range
  rw[hr]
  rw[g1]at q1
  rw[g5]at q5
  rw[g9]at q9
  have ho':Own hp kk 1 false v ((eB k.vars.es n).map Str.av):=ho
  obtain⟨nl8,cl8,keys,hsn,hnl8⟩:=ho'.snap (El.strs _) 62
  have h2:=h109 p hpo nl8 cl8 (eB k.vars.es n) (by simp[eB];omega) k.values.es.length
  rw[aC.avc]at h2
  have h3:=c48 S h48 h74 p hpo (by omega)
  rw[aC.avc]at h3
  simp only[cf69L0,cf69E0,q1,q5,q9,go_sem,seval]
  refine bT h2 (oV (by simp only[go_sem,seval]) hsn (by simp only[go_sem,seval])) (v:=.bool (gB p (eB k.vars.es n) k.values.es.length)) (pa:=[]) rfl ?_
  cases hv:gB p (eB k.vars.es n) k.values.es.length
  ·simp only[go_sem,seval]
   refine And.intro (by kernel_rfl) ?_
   all_goals (first|(simp only[d8,hv];rfl)|skip)
  ·simp only[q5,go_sem,seval]
   refine j3 h3 (by simp only[go_sem,seval]) ?_
   intro nl9 cl9 hnl9
   simp only[go_sem,seval]
   have hrl:(bK p).length<=big:=by
    have e1:=oH (jA (dA p))
    have e2:=kR (dA p)
    have e3:=oO p
    simp only[bK]
    omega
   have hin:∀a∈bK p,0<=a/\a<(there.length:Int):=by
    intro a ha
    simp only[bK,kZ,l8]at ha
    rw[hth]
    have hv2:=hv
    simp only[gB,Bool.and_eq_true]at hv2
    exact mU _ p (eB k.vars.es n) hv2.2 a ha
   refine bT (c45 h45 h71 nl9 cl9 (bK p) hrl 110 [.fp (.fp (.agg (fE k nl cl there m))),.fp (.int .i64 nt)] (by simp only[treeL,A6,wV,CE,htr,Bool.and_true]) (fun v => !aU there v||decide (v=nt)) (fun v hv'=>c110 h110 k nl cl there m nt v (hin v hv').1 (hin v hv').2)) (keys:=[1,9]) ?_ (v:=.bool ((bK p).any (fun v => !aU there v||decide (v=nt)))) (pa:=[]) rfl ?_
   ·simp only[q1,q9,depth,cD,bA,eI,go_sem,Nat.reduceAdd,↓reduceIte]
    rfl
   ·cases hq:(bK p).any (fun v => !aU there v||decide (v=nt))
    ·simp only[go_sem,seval]
     refine And.intro (by kernel_rfl) ?_
     simp only[d8,hv,hq];rfl
    ·simp only[go_sem,seval]
     refine And.intro (by kernel_rfl) ?_
     simp only[d8,hv,hq];rfl
 ·rintro d x r env hp hes ⟨v,kk,rfl,hkk,ho,q1,q5,q9⟩
  obtain⟨hx,hlt⟩:=jX hes
  have hb2:(d++x::r).length<=big:=by rw[<-hes];simp[big];omega
  have e1:decide ((d.length:Int)<(n:Int))=true:=by simp;omega
  simp only[cf69L0,cf69E0,e1,go_sem,seval]
  refine aB (B.loop d.length (by omega)) (by simp only[go_sem,seval]) rfl ?_
  simp only[go_sem,seval]
  refine pA (kb:=0) (s:=21) (k1:=kk) (ho.mono ?_) (El.strs _) (xs:=[.str (p9 d.length)]) (by intro y hy;simp at hy;subst hy;exact El.str _) (by simp) ?_ (by omega) ?_
  ·simp only[go_sem,seval]
  ·simp only[List.length_map,List.length_append,List.length_cons,List.length_nil]
   simp only[big]at hsz
   omega
  ·intro v' rd' pa' ho2 hk2
   simp only[aM hb2,go_sem,seval]
   refine⟨v',21,rfl,.inr rfl,?_,?_,?_,?_⟩
   ·rw[hx];simpa[Str.av,sX] using ho2
   ·rw[hk2 1 (by omega) (by omega)];exact q1
   ·rw[hk2 5 (by omega) (by omega)];exact q5
   ·rw[hk2 9 (by omega) (by omega)];exact q9
end
end Go.Tev
end
section
namespace Go.Tev
def r7(k:aA)(q:aE):Bool:=decide (q.value<k.inputs)||decide ((k.values.es.length:Int)<=q.value)||decide (q.check<0)
def kN(vals:List Typ)(q:aE)(t:Typ):Bool:=
 decide (t.elem.bs=[98,111,111,108])&&(!dQ vals q.body||(decide (q.kind=2) && !cW q.fn.es [true,true]))
def BR(k:aA)(q:aE)(i:Nat):Bool:=
 !decide (q.kind=3) || !decide (q.source=q.value)||decide ((i:Int)=0) ||
  (match k.list.es[((i:Int)-1).toNat]? with | none=>true | some r => !decide (r.value=q.value) || !decide (r.kind=1))
def s7(k:aA)(there:List Bool)(q:aE)(t:Typ):Bool:=
 decide ((t.shape.dims.es.length:Int)=0)||decide (0<(q.fn.es.length:Int))||decide (q.source<0)||decide ((k.values.es.length:Int)<=q.source) || !aU there q.source ||
  (match k.values.es[q.source.toNat]? with|none=>true|some u => !gG u t)
def mL(q:aE):Bool := !decide (q.source=0) || !decide (q.check=0) || !cY q.index wM
def pD(q:aE)(t:Typ):List Lin:=if decide (q.kind=3) then t.shape.dims.es.dropLast else t.shape.dims.es
def rD(k:aA)(there:List Bool)(q:aE)(n:Nat)(nt:Int):Bool:=
 if decide (q.kind=1) then decide ((q.fn.es.length:Int)=0)&&d8 k there q.body n nt
 else if decide (q.kind=2) then decide (0<(n:Int))&&cM q.fn.es 2&&d8 k there q.body n nt
 else if decide (q.kind=3) then d8 k there q.body n nt&&d8 k there q.index n nt
 else false
def bI(k:aA)(there:List Bool)(q:aE)(i:Nat):Bool:=
 !r7 k q&&(match k.values.es[q.value.toNat]? with
  |none=>false
  |some t => !kN k.values.es q t && !(aU there q.value&&BR k q i) && !(if decide (q.kind=3) then s7 k there q t else mL q) &&
   eqL bJ q.space.es (pD q t)&&rD k there q (pD q t).length (if aU there q.value then q.value else -1))
theorem w9(esz:Nat)(nl cl:Bool)(es:List AV)(hb:es.length<=big)(hall:es.all (fun v=>v.cells.length==esz)=true) :
  ∃c,decide ((es.length:Int)=0)=false->∀h,gD h esz false true false [.sl nl es cl,.int .i64 (wr .i64 ((es.length:Int)-1))]=some (.sl nl es.dropLast c,.pat [] []):=by
 by_cases h0:es.length=0
 ·exact⟨false,fun h=>by simp[h0]at h⟩
 ·have hw:wr .i64 ((es.length:Int)-1)=((es.length-1:Nat):Int):=by
   simp only[big]at hb
   rw[aR (by omega) (by omega)];omega
  refine⟨(nl||cl)&&(((es.length-1:Nat):Int)==(es.length:Int)),fun _ h=>?_⟩
  rw[hw]
  simp only[gD,gM,gW,Bool.false_eq_true,if_false,if_true,Option.getD_none,Option.getD_some,hall,Option.isSome_none]
  rw[if_pos ⟨by omega,by omega,by omega,by omega,trivial⟩]
  simp only[val,Int.toNat_zero,List.drop_zero,Int.toNat_natCast,Nat.sub_zero,<-List.dropLast_eq_take]
end Go.Tev
end
section
namespace Go.Tev
def eS(k:aA):List Bool:=List.replicate k.inputs.toNat true++List.replicate (k.values.es.length-k.inputs.toNat) false
def J0(th:List Bool)(q:aE):List Bool:=th.set q.value.toNat true
def aY(th:List Bool)(d:List aE):List Bool:=d.foldl J0 th
def lQ(k:aA):List Bool->List aE->Nat->Option Nat
 |_,[],_=>none
 |th,q::r,i=>if bI k th q i then lQ k (J0 th q) r (i+1) else some i
def cL(k:aA)(th:List Bool)(v:Int):Bool:=decide (v<0)||decide ((k.values.es.length:Int)<=v) || !aU th v
def cX(k:aA)(th:List Bool):Bool:=
 decide ((k.results.es.length:Int)<1)||decide (8<(k.results.es.length:Int))||k.results.es.any (cL k th)
def cB(k:aA):Int×Int:=
 if bD k then
  (match lQ k (eS k) k.list.es 0 with
  |some i=>(i,22)
  |none=>if cX k (aY (eS k) k.list.es) then (k.list.es.length,22) else (k.list.es.length,0))
 else (-1,22)
def kG(V i:Nat):List Bool:=List.replicate i true++List.replicate (V-i) false
theorem qU{V i:Nat}(h:i<=V):(kG V i).length=V:=by simp[kG];omega
theorem AL{V i:Nat}(h:i<V):(kG V i).set i true=kG V (i+1):=by
 obtain⟨m,rfl⟩:∃m,V=i+(m+1):=⟨V-i-1,by omega⟩
 simp only[kG]
 rw[List.set_append_right _ _ (by simp)]
 have e1:i+(m+1)-i=m+1:=by omega
 have e2:i+(m+1)-(i+1)=m:=by omega
 rw[e1,e2,List.replicate_succ (n:=m),List.replicate_succ' (n:=i)]
 simp
theorem JZ(th:List Bool)(q:aE):(J0 th q).length=th.length:=by simp[J0]
theorem cG(th:List Bool)(d:List aE):(aY th d).length=th.length:=by
 induction d generalizing th with
 |nil=>rfl
 |cons x r ih=>simp only[aY,List.foldl_cons]at *;rw[ih,JZ]
theorem lX(th:List Bool)(d:List aE)(x:aE):aY th (d++[x])=J0 (aY th d) x:=by simp[aY]
theorem eD(l:List Bool)(i:Nat)(b:Bool):(l.map AV.bool).set i (.bool b)=(l.set i b).map AV.bool:=by rw[List.map_set]
theorem nM{l:List AV}{n:Nat}(x:AV)(h:n<l.length):List.take (0+n*1) l++[x]++List.drop (0+n*1+1) l=l.set n x:=by
 rw[List.set_eq_take_append_cons_drop,if_pos h]
 simp
theorem Iq{h:Hp}{d:Nat}{a b b':AV}{keys:List Nat}(hb:Tev.snap (d+1) h b=some (b',keys))(ha:a.tree=true):cE (Tev.snap (d+1) h) [b,a]=some ([b',a],keys):=by
 rw[bA,hb,bA,eI,if_pos ha,cD]
 simp
theorem iE{k:aA}{th:List Bool}{q:aE}{i:Nat}(h:bI k th q i=true):k.inputs<=q.value/\q.value<k.values.es.length/\0<=q.check:=by
 simp only[bI,r7,Bool.and_eq_true,Bool.not_eq_true',Bool.or_eq_false_iff,decide_eq_false_iff_not]at h
 omega
theorem wO{t:Typ}{vars:List Str}(h:eX t vars=true):t.shape.dims.es.length<=6:=by
 simp only[eX,pB,lC,Bool.and_eq_true,decide_eq_true_eq]at h
 have:=h.1.1.1.2.1.2
 omega
section
variable{pg:Pg}
theorem c46(hf:pg.fs 46=some cf46)(k:aA)(nl cl:Bool)(there:List Bool)(hth:there.length=k.values.es.length)(m v:Int) :
  Ret pg 46 [.int .i64 v,.fp (.agg k.cells),.fp (.fp (.agg (fE k nl cl there m)))] (.bool (cL k there v)):=by
 have h0:decide (v<0)=false->(0<=v)=True:=fun h=>eq_true (by simpa using h)
 obtain⟨b,hb⟩:∃b,decide (v<0)=false->decide ((k.values.es.length:Int)<=v)=false->there[v.toNat]?=some b:=by
  by_cases hh:v.toNat<there.length
  ·exact⟨_,fun _ _=>List.getElem?_eq_getElem hh⟩
  ·exact⟨true,fun x y=>by simp at x y;omega⟩
 have hb':decide (v<0)=false->decide ((k.values.es.length:Int)<=v)=false->aU there v=b:=fun x y=>by simp[aU,hb x y]
 refine Ret.ofX hf ?_
 unfold cf46
 repeat' (first|simp only[fE,aA.cells, *,go_sem,seval]|refine aK (fun _=>?_) (fun _=>?_)|refine aL (fun _=>?_) (fun _=>?_)|refine And.intro (by kernel_rfl) ?_)
 all_goals (simp_all [cL])
 all_goals (intro h;omega)
def D6(k:aA):List AV:=
 [.sl k.vars.nl (k.vars.es.map Str.av) k.vars.cl,.sl k.wher.nl (k.wher.es.map Lin.av) k.wher.cl,.int .i64 k.inputs,.sl k.values.nl (k.values.es.map Typ.av) k.values.cl,.sl k.list.nl (k.list.es.map aE.av) k.list.cl,.sl k.results.nl (k.results.es.map aH) k.results.cl,
  .rf 9 0 0 k.values.es.length k.values.es.length,.int .i64 0]
theorem EZ{h:Hp}{th:List Bool}{V:Nat}(hth:th.length=V)(g9:h.get 9=some (0,.blk (th.map AV.bool) 1 false true false))(d:Nat):Tev.snap (d+2) h (.rf 9 0 0 V V)=some (.sl false (th.map AV.bool) true,[9]):=by
 obtain⟨cs',h1,h2,h3,h4⟩:=cK (El.bools th)
 have h5:=h4 []
 rw[List.append_nil]at h5
 have h6:cE (Tev.snap (d+1) h) (th.map AV.bool)=some (th.map AV.bool,[]):=d6 d h (lF th)
 rw[eI]
 simp only[List.length_map]at h2 h5
 subst hth
 have h7:cs'=th.map AV.bool:=by
  rw[cN]at h1
  exact(Option.some.inj h1).symm
 subst h7
 simp[g9,h5,h6,AV.tree]
theorem CO{h:Hp}{k:aA}{th:List Bool}(hth:th.length=k.values.es.length)(g13:h.get 13=some (0,.blk (D6 k) 8 true true false))(g9:h.get 9=some (0,.blk (th.map AV.bool) 1 false true false))(d:Nat) :
  Tev.snap (d+3) h (.pt 13 0 0)=some (.fp (.agg (fE k false true th 0)),[13,9]):=by
 have h7:=EZ hth g9 d
 simp only[D6]at g13
 rw[eI]
 simp only[g13,cD,bA,↓h7,eI,go_sem,Nat.reduceAdd,↓reduceIte]
 rfl
theorem c28(hf:pg.fs 28=some cf28)(h43:∀k:aA,Ret pg 43 [k.av] (.bool (bD k)))
  (h44:∀(k:aA),(k.vars.nl=true->k.vars.es=[])->0<=k.inputs->(∀t∈k.values.es,t.shape.dims.es.length<=6)->∀(nl cl:Bool)(there:List Bool),there.length=k.values.es.length->∀(m:Int)(i:Nat)(q:aE),k.list.es[i]?=some q ->
   q.body.ok->q.index.ok->k.vars.es.length+9+q.body.sz<=big->k.vars.es.length+9+q.index.sz<=big ->
   Ret pg 44 [.fp (.agg (fE k nl cl there m)),.int .i64 i] (.bool (bI k there q i)))
  (h45:pg.fs 45=some cf45) (h46:pg.fs 46=some cf46) (h71:pg.fs 71=some cf71)
  (k:aA) (hnl:k.vars.nl=true->k.vars.es=[]) (hq:∀q∈k.list.es,q.body.ok/\q.index.ok/\k.vars.es.length+9+q.body.sz<=big/\k.vars.es.length+9+q.index.sz<=big) :
  Ret pg 28 [k.av] (.tup [.int .i64 (cB k).1,.int .i64 (cB k).2]):=by
 have a1:=h43 k
 refine Ret.ofX hf ?_
 unfold cf28
 simp only[aA.av,aA.cells,go_sem,seval]
 refine aB a1 (by simp only[aA.av,aA.cells,go_sem,seval]) rfl ?_
 cases ho:bD k
 ·simp only[go_sem,seval]
  simp only[cB,ho];rfl
 have hV:((k.values.es.length:Int)<=1073741824)=True:=eq_true (by have:=k.values.ok;simp only[big]at this;omega)
 have hfl:(List.replicate k.values.es.length [AV.bool false]).flatten=(List.replicate k.values.es.length false).map AV.bool:=by
  rw[List.map_replicate]
  induction k.values.es.length with
  |zero=>rfl
  |succ n ih=>rw[List.replicate_succ,List.flatten_cons,ih,List.replicate_succ];rfl
 simp only[hV,hfl,go_sem,seval]
 refine And.intro (by kernel_rfl) ?_
 have hso:=ho
 simp only[bD,Bool.and_eq_true,decide_eq_true_eq]at hso
 obtain⟨_,⟨⟨⟨⟨⟨⟨_,_⟩,hi0⟩,_⟩,hiV⟩,_⟩,_⟩,hty⟩:=hso
 have hvals:∀t∈k.values.es,t.shape.dims.es.length<=6:=fun t ht=>wO (by rw[List.all_eq_true]at hty;exact hty t ht)
 obtain⟨ins,hins⟩:∃n:Nat,k.inputs=n:=⟨k.inputs.toNat,by omega⟩
 have hinV:ins<=k.values.es.length:=by omega
 have hVb:=k.values.ok
 have hf0:kG k.values.es.length 0=List.replicate k.values.es.length false:=by simp[kG]
 refine aG (List.range ins) (fun d r env hp=>env=cf28E0 (.pt 1 0 0) (.pt 17 0 0) (.int .i64 k.inputs) (.int .i64 d.length) /\
  hp.get 1=some (0,.blk k.cells 6 true true false)/\hp.get 13=some (0,.blk (D6 k) 8 true true false)/\hp.get 17=some (0,.blk [.pt 13 0 0] 1 false true false)/\hp.get 9=some (0,.blk ((kG k.values.es.length d.length).map AV.bool) 1 false true false)) ?_ ?_ ?_
 ·refine⟨rfl,?_,?_,?_,?_⟩
  ·simp only[go_sem,seval]
   rfl
  ·simp only[go_sem,seval]
   rfl
  ·simp only[go_sem,seval]
  ·rw[show ([]:List Nat).length=0 from rfl,hf0]
   simp only[go_sem,seval]
 ·rintro env hp ⟨rfl,g1,g13,g17,g9⟩
  have hr:(List.range ins).length=ins:=List.length_range
  rw[hr]at g9 ⊢
  have e1:decide ((ins:Int)<k.inputs)=false:=by simp;omega
  have hth0:kG k.values.es.length ins=eS k:=by simp[kG,eS,hins]
  rw[hth0]at g9
  have hthl:(eS k).length=k.values.es.length:=by rw[<-hth0,qU hinV]
  simp only[aA.cells,Sl.av,D6]at g1 g13
  simp only[cf28L0,cf28E0,e1,g1,go_sem,seval]
  have hrun:lQ k (eS k) k.list.es 0=lQ k (aY (eS k) []) k.list.es ([]:List aE).length:=rfl
  clear hr hth0 hf0 hV hfl e1
  have hH:∃H:Hp,H=hp:=⟨_,rfl⟩
  refine aG k.list.es (fun d r env hp=>env=cf28E1 (.pt 1 0 0) (.pt 17 0 0) (.sl k.list.nl (k.list.es.map aE.av) k.list.cl) (.int .i64 k.list.es.length) (.int .i64 d.length) /\
   lQ k (eS k) k.list.es 0=lQ k (aY (eS k) d) r d.length /\
   hp.get 1=some (0,.blk k.cells 6 true true false)/\hp.get 13=some (0,.blk (D6 k) 8 true true false)/\hp.get 17=some (0,.blk [.pt 13 0 0] 1 false true false)/\hp.get 9=some (0,.blk ((aY (eS k) d).map AV.bool) 1 false true false)) ?_ ?_ ?_
  ·exact⟨rfl,hrun,g1,g13,g17,g9⟩
  ·rintro env hp ⟨rfl,hru,g1,g13,g17,g9⟩
   have hthe:(aY (eS k) k.list.es).length=k.values.es.length:=by rw[cG,hthl]
   have hall:=c45 h45 h71 k.results.nl k.results.cl k.results.es k.results.ok 46 [.fp (.agg k.cells),.fp (.fp (.agg (fE k false true (aY (eS k) k.list.es) 0)))] (by simp only[treeL,A6,wV,fE,aA.cells];simp only[go_sem,seval])
    (cL k (aY (eS k) k.list.es)) (fun v _=>c46 h46 k false true (aY (eS k) k.list.es) hthe 0 v)
   have hsn:Tev.snap 62 hp (.pt 13 0 0)=some (.fp (.agg (fE k false true (aY (eS k) k.list.es) 0)),[13,9]):=CO (k:=k) hthe g13 g9 59
   simp only[aA.cells,Sl.av,D6]at g1 g13
   simp only[cf28L1,cf28E1,g1,go_sem,seval]
   cases r1:decide ((k.results.es.length:Int)<1)
   case true=>
    simp only[g1,go_sem,seval]
    rw[cB,ho,hru,lQ]
    simp[cX,r1]
   cases r2:decide (8<(k.results.es.length:Int))
   case true=>
    simp only[g1,r2,go_sem,seval]
    rw[cB,ho,hru,lQ]
    simp[cX,r2]
   simp only[g1,r2,go_sem,seval]
   refine bT hall (keys:=[1,17,13,9]) ?_ (v:=.bool (k.results.es.any (cL k (aY (eS k) k.list.es)))) (pa:=[]) rfl ?_
   ·simp only[g1,g17,↓hsn,depth,cD,bA,eI,go_sem,Nat.reduceAdd,↓reduceIte]
    rfl
   cases r3:k.results.es.any (cL k (aY (eS k) k.list.es))
   case true=>
    simp only[g1,go_sem,seval]
    rw[cB,ho,hru,lQ]
    simp[cX,r3]
   case false=>
    simp only[g1,go_sem,seval]
    rw[cB,ho,hru,lQ]
    simp[cX,r1,r2,r3]
  ·rintro d q r env hp hes ⟨rfl,hru,g1,g13,g17,g9⟩
   have hmem:q∈k.list.es:=by rw[hes];simp
   obtain⟨p1,p2,p3,p4⟩:=hq q hmem
   have hget:k.list.es[d.length]?=some q:=by rw[hes];simp
   have hlb:=k.list.ok
   have hb2:(d++q::r).length<=big:=by rw[<-hes];exact hlb
   have hlt:d.length<k.list.es.length:=by rw[hes];simp
   have e1:decide ((d.length:Int)<(k.list.es.length:Int))=true:=by simp;omega
   have e2:((d.length:Int)<(k.list.es.length:Int))=True:=eq_true (by omega)
   have hkk:=h44 k hnl hi0 hvals false true (aY (eS k) d) (by rw[cG,hthl]) 0 d.length q hget p1 p2 p3 p4
   have g1':=g1
   have g13':=g13
   simp only[aA.cells,Sl.av,D6]at g1 g13
   have hsn:∀H:Hp,H.get 13=hp.get 13->H.get 9=hp.get 9->Tev.snap (61+3) H (.pt 13 0 0)=some (.fp (.agg (fE k false true (aY (eS k) d) 0)),[13,9]):=
    fun H x y=>CO (by rw[cG,hthl]) (x.trans g13') (y.trans g9) 61
   simp only[cf28L1,cf28E1,e1,e2,g1,g13,g17,g9,hget,go_sem,seval]
   refine bT hkk (Iq (hsn _ (by simp only[go_sem,seval]) (by simp only[go_sem,seval])) (by simp only[go_sem,seval])) (v:=.bool (bI k (aY (eS k) d) q d.length)) (pa:=[]) rfl ?_
   cases hkq:bI k (aY (eS k) d) q d.length
   ·simp only[go_sem,seval]
    rw[cB,ho,hru,lQ,hkq]
    rfl
   ·obtain⟨k1,k2,k3⟩:=iE hkq
    have k0:(0<=q.value)=True:=eq_true (by omega)
    have k2':(q.value<(k.values.es.length:Int))=True:=eq_true k2
    have k4:(0+q.value.toNat*1+1<=(aY (eS k) d).length)=True:=eq_true (by rw[cG,hthl];omega)
    have e4:=nM (l:=(aY (eS k) d).map AV.bool) (n:=q.value.toNat) (.bool true) (by rw[List.length_map,cG,hthl];omega)
    rw[eD]at e4
    simp only[g13,g17,g9,k0,k2',k4,e4,go_sem,seval]
    refine And.intro (by kernel_rfl) ?_
    simp only[aM hb2,go_sem,seval]
    rw[lX]
    refine⟨rfl,?_,g1',rfl,rfl⟩
    rw[hru,lQ,hkq]
    simp
 ·rintro d x r env hp hes ⟨rfl,g1,g13,g17,g9⟩
  obtain⟨hx,hlt⟩:=jX hes
  have hb2:(d++x::r).length<=big:=by rw[<-hes];simp;omega
  have e1:decide ((d.length:Int)<k.inputs)=true:=by simp;omega
  have e2:((d.length:Int)<(k.values.es.length:Int))=True:=eq_true (by omega)
  have g1':=g1
  have g13':=g13
  simp only[aA.cells,Sl.av,D6]at g1 g13
  have hfl2:=qU (V:=k.values.es.length) (i:=d.length) (by omega)
  have e3:(0+d.length*1+1<=(kG k.values.es.length d.length).length)=True:=eq_true (by omega)
  have e4:=nM (l:=(kG k.values.es.length d.length).map AV.bool) (n:=d.length) (.bool true) (by simp;omega)
  rw[eD,AL (by omega)]at e4
  simp only[cf28L0,cf28E0,e1,e2,g1,g13,g17,g9,e3,e4,aM hb2,go_sem,seval]
  rw[List.length_append]
  exact⟨rfl,rfl,rfl,rfl⟩
end
end Go.Tev
end
