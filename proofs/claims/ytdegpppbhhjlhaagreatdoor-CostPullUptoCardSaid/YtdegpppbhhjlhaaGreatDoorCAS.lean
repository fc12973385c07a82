import Derived.KernelRfl
import Derived.Shelf.Strconv.Itoa3
import Derived.Shelf.LaysM
import Derived.Shelf.LaysC
import Derived.Shelf.Strconv.AtoiAll
import Derived.Shelf.Sort.Plain
import Derived.Shelf.Slices.CompactI
import Derived.Shelf.Slices.In.SortNone
import Derived.Ground.Names2Prog
import Derived.Test.YtdegpppbhhjlhaaGreatDoorProg
import Derived.Test.YtdegpppbhhjlhaaGreatDoorCAN
import Derived.Test.YtdegpppbhhjlhaaGreatDoorCAR
import Derived.Lib.AppendIntMem
set_option linter.all false
section
namespace Go.Proofs
open Go.Shelf
def Tryz.laysM171_ren:Go.Shelf.Ren:=⟨λ|171=>182|243=>227|246=>262|283=>303|284=>304|285=>305|286=>306|129=>292|317=>332|318=>333|319=>334|320=>335|337=>347|338=>348|n=>n,λ|3=>3|9=>9|2=>2|4=>4|171=>361|0=>0|53=>288|37=>227|5=>5|173=>363|212=>387|51=>285|20=>20|213=>388|46=>251|232=>406|233=>407|n=>n,λ|17=>2|18=>6|19=>7|n=>n⟩
theorem aI{α : Type}{x:Option α}{a b : α}(h:x=some a)(k:a=b:=by kernel_rfl):x=some b:=h.trans (congrArg some k)
theorem Tryz.laysM171:Go.Proofs.LaysM.n171 Tryz.prog Tryz.laysM171_ren:={
 mixed:=by kernel_rfl
 f129:=aI Tryz.func292
 f171:=aI Tryz.func182
 f243:=aI Tryz.func227
 f246:=aI Tryz.func262
 f283:=aI Tryz.func303
 f284:=aI Tryz.func304
 f285:=aI Tryz.func305
 f286:=aI Tryz.func306
 f317:=aI Tryz.func332
 f318:=aI Tryz.func333
 f319:=aI Tryz.func334
 f320:=aI Tryz.func335
 f337:=aI Tryz.func347
 f338:=aI Tryz.func348
 t0:=Tryz.underlying0
 a0:=Tryz.isAgg0
 z0:=Tryz.sizeOf0
 v0:=Tryz.zeroValue0
 t2:=Tryz.underlying2
 a2:=Tryz.isAgg2
 z2:=Tryz.sizeOf2
 v2:=Tryz.zeroValue2
 t3:=Tryz.underlying3
 a3:=Tryz.isAgg3
 z3:=Tryz.sizeOf3
 v3:=Tryz.zeroValue3
 t4:=Tryz.underlying4
 a4:=Tryz.isAgg4
 z4:=Tryz.sizeOf4
 v4:=Tryz.zeroValue4
 t5:=Tryz.underlying5
 a5:=Tryz.isAgg5
 z5:=Tryz.sizeOf5
 v5:=Tryz.zeroValue5
 t9:=Tryz.underlying9
 a9:=Tryz.isAgg9
 z9:=Tryz.sizeOf9
 v9:=Tryz.zeroValue9
 t20:=Tryz.underlying20
 a20:=Tryz.isAgg20
 z20:=Tryz.sizeOf20
 v20:=Tryz.zeroValue20
 t37:=Tryz.underlying227
 a37:=Tryz.isAgg227
 z37:=Tryz.sizeOf227
 v37:=Tryz.zeroValue227
 t46:=Tryz.underlying251
 a46:=Tryz.isAgg251
 z46:=Tryz.sizeOf251
 v46:=Tryz.zeroValue251
 t51:=Tryz.underlying285
 a51:=Tryz.isAgg285
 z51:=Tryz.sizeOf285
 v51:=Tryz.zeroValue285
 t53:=Tryz.underlying288
 a53:=Tryz.isAgg288
 z53:=Tryz.sizeOf288
 v53:=Tryz.zeroValue288
 t171:=Tryz.underlying361
 a171:=Tryz.isAgg361
 z171:=Tryz.sizeOf361
 v171:=Tryz.zeroValue361
 t173:=Tryz.underlying363
 a173:=Tryz.isAgg363
 z173:=Tryz.sizeOf363
 v173:=Tryz.zeroValue363
 t212:=Tryz.underlying387
 a212:=Tryz.isAgg387
 z212:=Tryz.sizeOf387
 v212:=Tryz.zeroValue387
 t213:=Tryz.underlying388
 a213:=Tryz.isAgg388
 z213:=Tryz.sizeOf388
 t232:=Tryz.underlying406
 a232:=Tryz.isAgg406
 z232:=Tryz.sizeOf406
 v232:=Tryz.zeroValue406
 t233:=Tryz.underlying407
 a233:=Tryz.isAgg407
 z233:=Tryz.sizeOf407
 v233:=Tryz.zeroValue407
 g17:=by kernel_rfl
 g18:=by kernel_rfl
 g19:=by kernel_rfl
 i0:=by kernel_rfl
 i2:=by kernel_rfl
 i3:=by kernel_rfl
 i4:=by kernel_rfl
 i5:=by kernel_rfl
 i9:=by kernel_rfl
 i20:=by kernel_rfl
 i37:=by kernel_rfl
 i46:=by kernel_rfl
 i51:=by kernel_rfl
 i53:=by kernel_rfl
 i171:=by kernel_rfl
 i173:=by kernel_rfl
 i212:=by kernel_rfl
 i232:=by kernel_rfl
 i233:=by kernel_rfl
 m17:=by kernel_rfl
 m18:=by kernel_rfl
 m19:=by kernel_rfl}
def Tryz.laysC172_ren:Go.Shelf.Ren:=⟨λ|172=>195|244=>234|245=>235|247=>263|279=>264|280=>265|281=>266|282=>267|287=>307|316=>308|171=>182|205=>309|321=>336|322=>337|243=>227|246=>262|283=>303|284=>304|285=>305|286=>306|129=>292|317=>332|318=>333|319=>334|320=>335|337=>347|338=>348|n=>n,λ|9=>9|3=>3|75=>266|76=>267|4=>4|5=>5|167=>327|37=>227|0=>0|85=>328|2=>2|168=>330|53=>288|175=>365|46=>251|210=>369|127=>339|145=>392|143=>390|21=>21|171=>361|173=>363|212=>387|51=>285|20=>20|213=>388|232=>406|233=>407|80=>313|n=>n,λ|15=>0|16=>1|17=>2|18=>6|19=>7|n=>n⟩
theorem Tryz.laysC172:Go.Proofs.LaysC.n172 Tryz.prog Tryz.laysC172_ren:={
 mixed:=by kernel_rfl
 f129:=aI Tryz.func292
 f171:=aI Tryz.func182
 f172:=aI Tryz.func195
 f205:=aI Tryz.func309
 f243:=aI Tryz.func227
 f244:=aI Tryz.func234
 f245:=aI Tryz.func235
 f246:=aI Tryz.func262
 f247:=aI Tryz.func263
 f279:=aI Tryz.func264
 f280:=aI Tryz.func265
 f281:=aI Tryz.func266
 f282:=aI Tryz.func267
 f283:=aI Tryz.func303
 f284:=aI Tryz.func304
 f285:=aI Tryz.func305
 f286:=aI Tryz.func306
 f287:=aI Tryz.func307
 f316:=aI Tryz.func308
 f317:=aI Tryz.func332
 f318:=aI Tryz.func333
 f319:=aI Tryz.func334
 f320:=aI Tryz.func335
 f321:=aI Tryz.func336
 f322:=aI Tryz.func337
 f337:=aI Tryz.func347
 f338:=aI Tryz.func348
 t0:=Tryz.underlying0
 a0:=Tryz.isAgg0
 z0:=Tryz.sizeOf0
 v0:=Tryz.zeroValue0
 t2:=Tryz.underlying2
 a2:=Tryz.isAgg2
 z2:=Tryz.sizeOf2
 v2:=Tryz.zeroValue2
 t3:=Tryz.underlying3
 a3:=Tryz.isAgg3
 z3:=Tryz.sizeOf3
 v3:=Tryz.zeroValue3
 t4:=Tryz.underlying4
 a4:=Tryz.isAgg4
 z4:=Tryz.sizeOf4
 v4:=Tryz.zeroValue4
 t5:=Tryz.underlying5
 a5:=Tryz.isAgg5
 z5:=Tryz.sizeOf5
 v5:=Tryz.zeroValue5
 t9:=Tryz.underlying9
 a9:=Tryz.isAgg9
 z9:=Tryz.sizeOf9
 v9:=Tryz.zeroValue9
 t20:=Tryz.underlying20
 a20:=Tryz.isAgg20
 z20:=Tryz.sizeOf20
 v20:=Tryz.zeroValue20
 t21:=Tryz.underlying21
 a21:=Tryz.isAgg21
 z21:=Tryz.sizeOf21
 v21:=Tryz.zeroValue21
 t37:=Tryz.underlying227
 a37:=Tryz.isAgg227
 z37:=Tryz.sizeOf227
 v37:=Tryz.zeroValue227
 t46:=Tryz.underlying251
 a46:=Tryz.isAgg251
 z46:=Tryz.sizeOf251
 v46:=Tryz.zeroValue251
 t51:=Tryz.underlying285
 a51:=Tryz.isAgg285
 z51:=Tryz.sizeOf285
 v51:=Tryz.zeroValue285
 t53:=Tryz.underlying288
 a53:=Tryz.isAgg288
 z53:=Tryz.sizeOf288
 v53:=Tryz.zeroValue288
 t75:=Tryz.underlying266
 a75:=Tryz.isAgg266
 z75:=Tryz.sizeOf266
 v75:=Tryz.zeroValue266
 t76:=Tryz.underlying267
 a76:=Tryz.isAgg267
 z76:=Tryz.sizeOf267
 v76:=Tryz.zeroValue267
 t85:=Tryz.underlying328
 a85:=Tryz.isAgg328
 z85:=Tryz.sizeOf328
 v85:=Tryz.zeroValue328
 t127:=Tryz.underlying339
 a127:=Tryz.isAgg339
 z127:=Tryz.sizeOf339
 v127:=Tryz.zeroValue339
 t143:=Tryz.underlying390
 a143:=Tryz.isAgg390
 z143:=Tryz.sizeOf390
 v143:=Tryz.zeroValue390
 t145:=Tryz.underlying392
 a145:=Tryz.isAgg392
 z145:=Tryz.sizeOf392
 v145:=Tryz.zeroValue392
 t167:=Tryz.underlying327
 a167:=Tryz.isAgg327
 z167:=Tryz.sizeOf327
 v167:=Tryz.zeroValue327
 t168:=Tryz.underlying330
 a168:=Tryz.isAgg330
 z168:=Tryz.sizeOf330
 v168:=Tryz.zeroValue330
 t171:=Tryz.underlying361
 a171:=Tryz.isAgg361
 z171:=Tryz.sizeOf361
 v171:=Tryz.zeroValue361
 t173:=Tryz.underlying363
 a173:=Tryz.isAgg363
 z173:=Tryz.sizeOf363
 v173:=Tryz.zeroValue363
 t175:=Tryz.underlying365
 a175:=Tryz.isAgg365
 z175:=Tryz.sizeOf365
 v175:=Tryz.zeroValue365
 t210:=Tryz.underlying369
 a210:=Tryz.isAgg369
 z210:=Tryz.sizeOf369
 v210:=Tryz.zeroValue369
 t212:=Tryz.underlying387
 a212:=Tryz.isAgg387
 z212:=Tryz.sizeOf387
 v212:=Tryz.zeroValue387
 t213:=Tryz.underlying388
 a213:=Tryz.isAgg388
 z213:=Tryz.sizeOf388
 t232:=Tryz.underlying406
 a232:=Tryz.isAgg406
 z232:=Tryz.sizeOf406
 v232:=Tryz.zeroValue406
 t233:=Tryz.underlying407
 a233:=Tryz.isAgg407
 z233:=Tryz.sizeOf407
 v233:=Tryz.zeroValue407
 g15:=by kernel_rfl
 g16:=by kernel_rfl
 g17:=by kernel_rfl
 g18:=by kernel_rfl
 g19:=by kernel_rfl
 t80:=Tryz.underlying313
 a80:=Tryz.isAgg313
 z80:=Tryz.sizeOf313
 v80:=Tryz.zeroValue313
 i0:=by kernel_rfl
 i2:=by kernel_rfl
 i3:=by kernel_rfl
 i4:=by kernel_rfl
 i5:=by kernel_rfl
 i9:=by kernel_rfl
 i20:=by kernel_rfl
 i21:=by kernel_rfl
 i37:=by kernel_rfl
 i46:=by kernel_rfl
 i51:=by kernel_rfl
 i53:=by kernel_rfl
 i75:=by kernel_rfl
 i76:=by kernel_rfl
 i80:=by kernel_rfl
 i85:=by kernel_rfl
 i127:=by kernel_rfl
 i143:=by kernel_rfl
 i145:=by kernel_rfl
 i167:=by kernel_rfl
 i168:=by kernel_rfl
 i171:=by kernel_rfl
 i173:=by kernel_rfl
 i175:=by kernel_rfl
 i210:=by kernel_rfl
 i212:=by kernel_rfl
 i232:=by kernel_rfl
 i233:=by kernel_rfl
 m15:=by kernel_rfl
 m16:=by kernel_rfl
 m17:=by kernel_rfl
 m18:=by kernel_rfl
 m19:=by kernel_rfl
 c0:=by kernel_rfl
 c2:=by kernel_rfl
 c3:=by kernel_rfl
 c4:=by kernel_rfl
 c5:=by kernel_rfl
 c9:=by kernel_rfl
 c20:=by kernel_rfl
 c21:=by kernel_rfl
 c37:=by kernel_rfl
 c46:=by kernel_rfl
 c51:=by kernel_rfl
 c53:=by kernel_rfl
 c75:=by kernel_rfl
 c76:=by kernel_rfl
 c80:=by kernel_rfl
 c85:=by kernel_rfl
 c127:=by kernel_rfl
 c143:=by kernel_rfl
 c145:=by kernel_rfl
 c167:=by kernel_rfl
 c168:=by kernel_rfl
 c171:=by kernel_rfl
 c173:=by kernel_rfl
 c175:=by kernel_rfl
 c210:=by kernel_rfl
 c212:=by kernel_rfl
 c213:=by kernel_rfl
 c232:=by kernel_rfl
 c233:=by kernel_rfl}
def Tryz.lays189_ren:Go.Shelf.Ren:=⟨λ|189=>221|125=>256|257=>260|128=>291|129=>292|294=>294|295=>295|296=>296|297=>297|298=>298|299=>299|216=>300|300=>301|301=>302|328=>328|329=>324|330=>325|331=>329|332=>330|215=>331|343=>346|n=>n,λ|28=>39|3=>3|46=>251|0=>0|51=>285|53=>288|4=>4|183=>348|182=>347|131=>139|5=>5|9=>9|218=>379|222=>383|228=>401|229=>402|n=>n,λ|n=>n⟩
theorem Tryz.lays189:Go.Proofs.Lays.n189 Tryz.prog Tryz.lays189_ren:={
 mixed:=by kernel_rfl
 f125:=aI Tryz.func256
 f128:=aI Tryz.func291
 f129:=aI Tryz.func292
 f189:=aI Tryz.func221
 f215:=aI Tryz.func331
 f216:=aI Tryz.func300
 f257:=aI Tryz.func260
 f294:=aI Tryz.func294
 f295:=aI Tryz.func295
 f296:=aI Tryz.func296
 f297:=aI Tryz.func297
 f298:=aI Tryz.func298
 f299:=aI Tryz.func299
 f300:=aI Tryz.func301
 f301:=aI Tryz.func302
 f328:=aI Tryz.func328
 f329:=aI Tryz.func324
 f330:=aI Tryz.func325
 f331:=aI Tryz.func329
 f332:=aI Tryz.func330
 f343:=aI Tryz.func346
 t0:=Tryz.underlying0
 a0:=Tryz.isAgg0
 z0:=Tryz.sizeOf0
 v0:=Tryz.zeroValue0
 t3:=Tryz.underlying3
 a3:=Tryz.isAgg3
 z3:=Tryz.sizeOf3
 v3:=Tryz.zeroValue3
 t4:=Tryz.underlying4
 a4:=Tryz.isAgg4
 z4:=Tryz.sizeOf4
 v4:=Tryz.zeroValue4
 t5:=Tryz.underlying5
 a5:=Tryz.isAgg5
 z5:=Tryz.sizeOf5
 v5:=Tryz.zeroValue5
 t9:=Tryz.underlying9
 a9:=Tryz.isAgg9
 z9:=Tryz.sizeOf9
 v9:=Tryz.zeroValue9
 t28:=Tryz.underlying39
 a28:=Tryz.isAgg39
 z28:=Tryz.sizeOf39
 v28:=Tryz.zeroValue39
 t46:=Tryz.underlying251
 a46:=Tryz.isAgg251
 z46:=Tryz.sizeOf251
 v46:=Tryz.zeroValue251
 t51:=Tryz.underlying285
 a51:=Tryz.isAgg285
 z51:=Tryz.sizeOf285
 v51:=Tryz.zeroValue285
 t53:=Tryz.underlying288
 a53:=Tryz.isAgg288
 z53:=Tryz.sizeOf288
 v53:=Tryz.zeroValue288
 t131:=Tryz.underlying139
 a131:=Tryz.isAgg139
 z131:=Tryz.sizeOf139
 v131:=Tryz.zeroValue139
 t182:=Tryz.underlying347
 a182:=Tryz.isAgg347
 z182:=Tryz.sizeOf347
 v182:=Tryz.zeroValue347
 t183:=Tryz.underlying348
 a183:=Tryz.isAgg348
 z183:=Tryz.sizeOf348
 v183:=Tryz.zeroValue348
 t218:=Tryz.underlying379
 a218:=Tryz.isAgg379
 z218:=Tryz.sizeOf379
 v218:=Tryz.zeroValue379
 t222:=Tryz.underlying383
 a222:=Tryz.isAgg383
 z222:=Tryz.sizeOf383
 v222:=Tryz.zeroValue383
 t228:=Tryz.underlying401
 a228:=Tryz.isAgg401
 z228:=Tryz.sizeOf401
 v228:=Tryz.zeroValue401
 t229:=Tryz.underlying402
 a229:=Tryz.isAgg402
 z229:=Tryz.sizeOf402
 v229:=Tryz.zeroValue402}
def Tryz.laysNm220_ren:Go.Shelf.Ren:=⟨λ|20=>222|n=>n,λ|22=>39|3=>3|4=>4|0=>0|n=>n,λ|n=>n⟩
theorem Tryz.laysNm220:Go.Proofs.Lays2.n20 Tryz.prog Tryz.laysNm220_ren:={
 mixed:=by kernel_rfl
 f20:=aI Tryz.func222
 t0:=Tryz.underlying0
 a0:=Tryz.isAgg0
 z0:=Tryz.sizeOf0
 v0:=Tryz.zeroValue0
 t3:=Tryz.underlying3
 a3:=Tryz.isAgg3
 z3:=Tryz.sizeOf3
 v3:=Tryz.zeroValue3
 t4:=Tryz.underlying4
 a4:=Tryz.isAgg4
 z4:=Tryz.sizeOf4
 v4:=Tryz.zeroValue4
 t22:=Tryz.underlying39
 a22:=Tryz.isAgg39
 z22:=Tryz.sizeOf39
 v22:=Tryz.zeroValue39
 i3:=by kernel_rfl}
open Go.RowKit Go.Sort Go.Lib in
theorem Tryz.strconv_Itoa(n:Int)(h0 : -9223372036854775808<=n)(h1:n<=9223372036854775807)(w:World){T:TypeId}{fr:Nat×Nat}(ht:w.heap[2]?=some (.cells (Lib.pow10Tab.map λz=>Value.int .u64 z).toArray T fr)) :
  Calls Tryz.prog 182 #[.int .i64 n] w λe w'=>e = .returned (.string ⟨(Lib.itoa n).toArray⟩)/\∃k os,w'=grow (w.drewN k) os:=by
 refine Any.strconv_Itoa Tryz.laysM171 n h0 h1 w ?_;unfold Lib.TabIs World.var?;rw[show Tryz.prog.globalNamed _=some 2 by kernel_rfl,Option.bind_some,ht]
open Go.RowKit in
theorem Tryz.strconv_Atoi_ok(s:ByteArray)(hmax:s.size<=9223372036854775806)(v:Int)(h:Lib.atoiAll s.data.toList = .ok v)(w:World) :
  Calls Tryz.prog 195 #[.string s] w λe w'=>e = .returned (.tuple #[.int .i64 v,.nilIface])/\(w'=w\/∃t,w'=Lib.bytesWorld w 5 t):=Any.strconv_Atoi_ok Tryz.laysC172 s hmax v h w
open Go.RowKit in
theorem Tryz.strconv_Atoi_bad(s:ByteArray)(hlim:s.size<=281474976710656)(h1:∀v,Lib.atoiAll s.data.toList ≠ .ok v)(h2:Lib.atoiAll s.data.toList ≠ .range)(ev:Value)(w:World)(hv:w.cell? ⟨0,0,none⟩=some ev)(hev:ev = .nilIface\/∃te pe,ev = .iface te pe) :
  Calls Tryz.prog 195 #[.string s] w λe w'=>∃N,e = .returned (.tuple #[.int .i64 (0),.iface 330 (.pointer (some ⟨N,0,none⟩))])/\w.heap.size<=N/\w'.heap[N]?=some (.cells #[.string ⟨#[65,116,111,105]⟩,.string s,ev] 369 (0,0))/\Below w.heap.size w w':=by
 cases h:Lib.atoiAll s.data.toList
 case ok v=>exact absurd h (h1 v)
 case range=>exact absurd h h2
 exact Any.strconv_Atoi_syntax Tryz.laysC172 s hlim h ev w hv hev
open Go.RowKit in
theorem Tryz.strconv_Atoi_range(s:ByteArray)(hlim:s.size<=281474976710656)(h:Lib.atoiAll s.data.toList = .range)(ev:Value)(w:World)(hv:w.cell? ⟨1,0,none⟩=some ev)(hev:ev = .nilIface\/∃te pe,ev = .iface te pe) :
  Calls Tryz.prog 195 #[.string s] w λe w'=>∃N,e = .returned (.tuple #[.int .i64 (Lib.atoiSat s.data.toList),.iface 330 (.pointer (some ⟨N,0,none⟩))])/\w.heap.size<=N/\w'.heap[N]?=some (.cells #[.string ⟨#[65,116,111,105]⟩,.string s,ev] 369 (0,0))/\Below w.heap.size w w':=Any.strconv_Atoi_range Tryz.laysC172 s hlim h ev w hv hev
open Go.Sort Go.RowKit in
theorem Tryz.slices_Sort_int(blk off cap:Nat)(zs:List Int)(w:World)(hH:Holds (Value.int .i64) w blk off zs.toArray)(hblk:blk<w.heap.size)(hsz:zs.length<4611686018427387904) :
  Calls Tryz.prog 221 #[.slice (some ⟨blk,off,none⟩) zs.length cap] w λe w'=>
   e = .returned (.tuple #[])/\∃n os,w'=grow (putRow (Value.int .i64) (Sort.ahead w n) blk off (zs.mergeSort λx y=>decide (x<=y)).toArray) os:=Any.slices_Sort_int Tryz.lays189 blk off cap zs w hH hblk hsz
open Go.RowKit Go.Lib Go.Sort in
theorem Tryz.slices_Compact_int(blk off cap:Nat)(zs:List Int)(w:World)(hH:Holds (Value.int .i64) w blk off zs.toArray)(hsz:zs.length<=9223372036854775807)(hcap:zs.length<=cap) :
  Calls Tryz.prog 222 #[.slice (some ⟨blk,off,none⟩) zs.length cap] w λe w'=>e = .returned (.slice (some ⟨blk,off,none⟩) (Lib.compact zs).length cap)/\∃q,w'=putRow (Value.int .i64) (Sort.ahead w q) blk off (Lib.compact zs++List.replicate (zs.length-(Lib.compact zs).length) 0).toArray:=Any.slices_Compact_int Tryz.laysNm220 blk off cap zs w hH hsz hcap
open Go.RowKit Go.Lib Go.Sort in
theorem Tryz.slices_Compact_int_empty(a:Option Addr)(cap:Nat)(w:World) :
  Calls Tryz.prog 222 #[.slice a 0 cap] w λe w'=>e = .returned (.slice a 0 cap)/\w'=w:=Any.slices_Compact_int_empty Tryz.laysNm220 a cap w
open Go.RowKit Go.Sort in
theorem Tryz.slices_Sort_int_none(p:Option Addr)(cap:Nat)(w:World) :
  Calls Tryz.prog 221 #[.slice p 0 cap] w λe w'=>e = .returned (.tuple #[])/\w'=w:=Any.slices_Sort_int_none Tryz.lays189 p cap w
end Go.Proofs
end
section
set_option maxRecDepth 100000
namespace Go.Proofs
open Go.Tev
def exB(f:Nat):Option (List AV->Nat->Hp->Option (AV×Hp)):=
 bif f.beq 92 then some nX else bif f.beq 93 then some oY else bif f.beq 75 then some sZ else bif f.beq 76 then some s6 else bif f.beq 522 then some vU else none
def glS(g:Nat):Option AV:=
 bif g.beq 0 then some (.ifc .top) else bif g.beq 1 then some (.ifc .top) else bif g.beq 2 then some (.agg (Lib.pow10Tab.map λn => .int .u64 n)) else none
def pgS:Pg:=⟨λf=>tab.find f,glS,exB⟩
def nm:Nm:=aPF Tryz.prog num gnum
theorem n75:nm.f 75=221:=by kernel_rfl
theorem n76:nm.f 76=222:=by kernel_rfl
theorem n92:nm.f 92=195:=by kernel_rfl
theorem n93:nm.f 93=182:=by kernel_rfl
theorem aQk:B3 Tryz.prog (nm.f 75):=by rw[n75];exact⟨Tryz.f221,Tryz.func221,by kernel_rfl,of_decide_eq_true (by kernel_rfl)⟩
theorem aQj:B3 Tryz.prog (nm.f 76):=by rw[n76];exact⟨Tryz.f222,Tryz.func222,by kernel_rfl,of_decide_eq_true (by kernel_rfl)⟩
theorem aQi:B3 Tryz.prog (nm.f 92):=by rw[n92];exact⟨Tryz.f195,Tryz.func195,by kernel_rfl,of_decide_eq_true (by kernel_rfl)⟩
theorem aQh:B3 Tryz.prog (nm.f 93):=by rw[n93];exact⟨Tryz.f182,Tryz.func182,by kernel_rfl,of_decide_eq_true (by kernel_rfl)⟩
theorem aJI:gR Tryz.prog nm glS gnum ⟨λf' avs kb h=>if f'=93 then oY avs kb h else none,λ_ _ _ _=>none⟩:=by refine aGi aQh 2 rfl ?_;intro n h0 h1 w hw;obtain⟨T,fr,ht⟩:=hw;have ht':w.heap[2]?=some (.cells (Lib.pow10Tab.map λz=>Value.int .u64 z).toArray T fr):=ht;rw[n93];refine(Tryz.strconv_Itoa n (by omega) h1 w ht').mono ?_;rintro e w' ⟨rfl,k,os,rfl⟩;exact⟨rfl,Lib.below_grow _ w (Nat.le_refl _) k os⟩
theorem SQ(s:List UInt8):((⟨s.toArray⟩:ByteArray).data.toList)=s:=by simp
theorem aES(s:List UInt8):(⟨s.toArray⟩:ByteArray).size=s.length:=by simp[ByteArray.size]
theorem aKS:gR Tryz.prog nm glS gnum ⟨λf' avs kb h=>if f'=92 then nX avs kb h else none,λ_ _ _ _=>none⟩:=by
 refine aGV aQi 0 1 rfl rfl ?_ ?_ ?_;intro s hs v hv w;rw[n92];refine(Tryz.strconv_Atoi_ok ⟨s.toArray⟩ (by rw[aES];omega) v (by rw[SQ];exact hv) w).mono ?_;rintro e w' ⟨rfl,hw⟩;refine⟨rfl,?_⟩;rcases hw with rfl|⟨t,rfl⟩
 exact RowKit.Below.refl _ _;exact Lib.bytesWorld_below _ _ _;intro s hs hv1 hv2 w te pe hc;rw[n92];refine(Tryz.strconv_Atoi_bad ⟨s.toArray⟩ (by rw[aES];omega) (by rw[SQ];exact hv1) (by rw[SQ];exact hv2) _ w hc (.inr ⟨te,pe,rfl⟩)).mono ?_;rintro e w' ⟨N,rfl,_,_,hb⟩;exact⟨_,_,rfl,hb⟩;intro s hs hv w te pe hc;rw[n92];refine(Tryz.strconv_Atoi_range ⟨s.toArray⟩ (by rw[aES];omega) (by rw[SQ];exact hv) _ w hc (.inr ⟨te,pe,rfl⟩)).mono ?_;rintro e w' ⟨N,rfl,_,_,hb⟩;rw[SQ];exact⟨_,_,rfl,hb⟩
theorem aHV:gR Tryz.prog nm glS gnum ⟨λf' avs kb h=>if f'=75 then sZ avs kb h else none,λ_ _ _ _=>none⟩:=by refine aEU aQk ?_ ?_;intro blk off cap zs w hH hb hz;rw[n75];refine(Tryz.slices_Sort_int blk off cap zs w hH hb (by omega)).mono ?_;rintro e w' ⟨rfl,n,os,rfl⟩;exact⟨rfl,n,os,by rw[SS]⟩;intro p cap w;rw[n75];exact Tryz.slices_Sort_int_none p cap w
theorem aJX:gR Tryz.prog nm glS gnum ⟨λf' avs kb h=>if f'=76 then s6 avs kb h else none,λ_ _ _ _=>none⟩:=by refine aGv aQj ?_ ?_;intro blk off cap zs w hH hz hc;rw[n76];refine(Tryz.slices_Compact_int blk off cap zs w hH (by omega) hc).mono ?_;rintro e w' ⟨rfl,q,rfl⟩;rw[M1];exact⟨rfl,q,rfl⟩;intro p cap w;rw[n76];exact Tryz.slices_Compact_int_empty p cap w
theorem aFR:nm.f 522=209:=by kernel_rfl
theorem aJP:B3 Tryz.prog (nm.f 522):=by rw[aFR];exact⟨Tryz.f209,Tryz.func209,by kernel_rfl,of_decide_eq_true (by kernel_rfl)⟩
theorem aJG:gR Tryz.prog nm glS gnum ⟨λf' avs kb h=>if f'=522 then vU avs kb h else none,λ_ _ _ _=>none⟩:=by refine aGh 522 aJP ?_ ?_;intro a c sep w;rw[aFR];exact Any.strings_Join_none Tryz.lays156 Tryz.joinX a c sep w;intro bk o c xs sep w h1 h2 h3 h4 h5;rw[aFR];exact Any.strings_Join Tryz.lays156 Tryz.joinX bk o c xs sep w h1 h2 h3 h4 h5
theorem exS:∀f g,exB f=some g->gR Tryz.prog nm glS gnum ⟨λf' avs kb h=>if f'=f then g avs kb h else none,λ_ _ _ _=>none⟩:=by
 intro f g h;unfold exB at h;cases h1:f.beq 92 with
 |true=>rw[h1]at h;cases h;obtain rfl:=Nat.eq_of_beq_eq_true h1;exact aKS
 |false=>
  cases h2:f.beq 93 with
  |true=>rw[h1,h2]at h;cases h;obtain rfl:=Nat.eq_of_beq_eq_true h2;exact aJI
  |false=>
   cases h3:f.beq 75 with
   |true=>rw[h1,h2,h3]at h;cases h;obtain rfl:=Nat.eq_of_beq_eq_true h3;exact aHV
   |false=>
    cases h4:f.beq 76 with
    |true=>rw[h1,h2,h3,h4]at h;cases h;obtain rfl:=Nat.eq_of_beq_eq_true h4;exact aJX
    |false=>
     cases h5:f.beq 522 with
     |true=>rw[h1,h2,h3,h4,h5]at h;cases h;obtain rfl:=Nat.eq_of_beq_eq_true h5;exact aJG
     |false=>rw[h1,h2,h3,h4,h5]at h;cases h
theorem fitS:W2 Tryz.prog nm gnum pgS:=fitP_of fits exS (λ_ _ _ _=>Iff.rfl)
end Go.Proofs
end
namespace Go.Tev
section
def aJJ(op:List UInt8):Bool:=decide (op=[108,116])||decide (op=[108,101])||decide (op=[103,116])||decide (op=[103,101])||decide (op=[101,113])||decide (op=[110,101])
def aLc:List Bool->Bool
 |[_,b,c]=>b&&c
 |_=>false
def UM(op:List UInt8)(kids:List Bool):Bool:=
 if aJJ op then decide ((kids.length:Int)=2)
 else if decide (op=[115,101,108,101,99,116]) then aLc kids
 else match cX op with
  |none=>false
  |some p=>decide (p.result=[98,111,111,108])&&decide ((p.params.length:Int)=(kids.length:Int)) && !kids.any (λb=>b==false)
theorem HV(l:List Bool):Tev.treeL (l.map AV.bool)=true:=bQ (f:=AV.bool) (λ_=>rfl) l
theorem LT(l:List (List UInt8)):Tev.treeL (l.map AV.str)=true:=bQ (f:=AV.str) (λ_=>rfl) l
attribute [go_sem] HV LT
section
variable{pg:Pg}
def YD(op:List UInt8):Bool:=decide (op=[99,111,110,115,116])||decide (op=[116,114,117,116,104])
def aIh(l:List Bool)(a:Int):Bool:=decide (0<=a)&&(decide (a<(l.length:Int))&&(l[a.toNat]?).getD false)
def aHU(l:List Bool)(s:aE):Bool:=if YD s.op.bs then decide (s.num=0)||decide (s.num=1) else UM s.op.bs (s.args.es.map (aIh l))
def OG(l:List Bool):List aE->List Bool
 |[]=>l
 |s::r=>OG (l++[aHU l s]) r
def EJ(code:List aE)(args:List Bool):Bool:=(OG args code).getLast?.getD false
def HS(h:Hp)(ks:List Nat)(v:AV)(es:List Bool):Prop:=∃k∈ks,Own h k 1 false v (es.map AV.bool)
theorem HS.mono{h h':Hp}{ks:List Nat}{v:AV}{es:List Bool}(o:HS h ks v es)(hh:∀k∈ks,h'.get k=h.get k):HS h' ks v es:=by obtain⟨k,hk,o⟩:=o;exact⟨k,hk,o.mono (hh k hk)⟩
theorem rV:∀(l:List Bool),aV 1 false (l.map AV.bool)=some (l.map AV.bool)
 |[]=>rfl
 |x::r=>by have ih:=rV r;rw[List.map_cons,aV,ih];rfl
theorem HS.at{h:Hp}{ks:List Nat}{v:AV}{es:List Bool}(o:HS h ks v es){n:Int}(h0:0<=n)(h1:n<es.length):∃k e,v = .rf k e 0 es.length es.length/\h.get k=some (e,.blk (es.map AV.bool) 1 false false false)/\k∈ks:=by
 obtain⟨k,hk,⟨he,nl,cl,rfl,hc⟩|⟨e,cs,rfl,hg,hu⟩⟩:=o;have:es=[]:=by simpa using he
 subst this;simp at h1;omega;rw[rV]at hu;cases hu;exact⟨k,e,by simp,hg,hk⟩
theorem HS.len{h:Hp}{ks:List Nat}{v:AV}{es:List Bool}(o:HS h ks v es)(kb s:Nat)(h':Hp)(Q:AV->Eff->Prop)(t:Tok Q):XO pg kb (.len 1) s h' [v] Q t=Q (.int .i64 es.length) (.pat [] []):=by
 obtain⟨k,hk,⟨he,nl,cl,rfl,hc⟩|⟨e,cs,rfl,hg,hu⟩⟩:=o;have:es=[]:=by simpa using he
 subst this;simp only[go_sem,seval];rw[bU];simp only[go_sem,seval]
theorem HS.flen{h:Hp}{ks:List Nat}{v:AV}{es:List Bool}(o:HS h ks v es)(h':Hp):wX h' 1 [v]=some (.int .i64 es.length,.pat [] []):=by
 obtain⟨k,hk,⟨he,nl,cl,rfl,hc⟩|⟨e,cs,rfl,hg,hu⟩⟩:=o;have:es=[]:=by simpa using he
 subst this;rfl;rw[bU];rfl
end
end
section
def aHY(vals:List Typ)(v:Int):Bool:=decide (0<=v)&&(decide (v<(vals.length:Int))&&((vals[v.toNat]?).map λt=>decide (t.elem.bs=[98,111,111,108])).getD false)
def ifT:List Bool->Bool
 |[a,b]=>a&&b
 |_=>false
def aLf(fn:List aE):List Bool->Bool
 |[a,b]=>a&&EJ fn [true,b]
 |_=>false
def aEQ(vals:List Typ)(op:List UInt8)(num value:Int)(fn:List aE)(kids:List Bool):Bool:=
 if decide (op=[99,111,110,115,116]) then decide (num=0)||decide (num=1)
 else if decide (op=[108,105,110,101,97,114]) then false
 else if decide (op=[114,101,97,100]) then aHY vals value
 else if decide (op=[105,102]) then ifT kids
 else if decide (op=[114,101,100,117,99,101]) then aLf fn kids
 else if decide (op=[99,111,100,101]) then EJ fn kids
 else UM op kids
mutual
def OI(vals:List Typ):aA->Bool
 |.mk op num value _ _ _ _ fn _ kids _=>aEQ vals op.bs num value fn.es (OH vals kids)
def OH(vals:List Typ):List aA->List Bool
 |[]=>[]
 |p::r=>OI vals p::OH vals r
end
def aJZ(k:aG)(nl cl:Bool)(there:List Bool)(m:Int):List AV:=
 [.sl k.vars.nl (k.vars.es.map Str.av) k.vars.cl,.sl k.wher.nl (k.wher.es.map Lin.av) k.wher.cl,.int .i64 k.inputs,.sl k.values.nl (k.values.es.map Typ.av) k.values.cl,.sl k.list.nl (k.list.es.map aK.av) k.list.cl,.sl k.results.nl (k.results.es.map aH) k.results.cl,
  .sl nl (there.map AV.bool) cl,.int .i64 m]
theorem Own.flen{h:Hp}{k esz:Nat}{ag:Bool}{v:AV}{es:List AV}(o:Own h k esz ag v es)(h':Hp):wX h' 1 [v]=some (.int .i64 es.length,.pat [] []):=by
 rcases o with ⟨rfl,nl,cl,rfl,hc⟩|⟨e,cs,rfl,hg,hu⟩
 rfl;rfl
section
variable{pg:Pg}
end
end
section
def SJ:aA:=.mk ⟨[],by decide⟩ 0 0 ⟨[],by decide⟩ ⟨true,[],true,by decide⟩ false 0 ⟨true,[],true,by decide⟩ true [] true
theorem QQ{p:aA}{v:Int}(h:lN p v=true):0<=p.value/\p.value<v:=by simp only[lN,aD,bC]at h;exact⟨h.1.1.1.2,h.1.1.2⟩
theorem wH(v:Int):∀p:aA,∀vars,bO v p vars=true->∀a∈jC p,0<=a/\a<v:=by
 refine aA.ind' λp ih vars h=>?_;rw[fI]at h;simp only[aD]at h;obtain⟨⟨h1,_⟩,h2⟩:=h;have hk:∀(l:List aA),(∀q∈l,q∈p.kids)->∀i red,cN v red p.name vars i l=true->∀a∈kG l,0<=a/\a<v:=by
  intro l
  induction l with
  |nil=>intro _ i red _ a ha;simp[kG]at ha
  |cons q r ih2=>intro hm i red hv a ha;simp only[cN,aD]at hv;simp only[kG,kE]at ha;rcases ha with ha|ha;exact ih q (hm q (by simp)) _ hv.1 a ha;exact ih2 (λq hq=>hm q (by simp[hq])) _ red hv.2 a ha
 intro a ha;rw[vB,kE]at ha;rcases ha with ha|ha;split at ha;rename_i ho;simp only[List.mem_singleton]at ha;subst ha;simp only[bC]at ho;have e1:¬(p.op.bs=[99,111,110,115,116]):=by rw[ho];decide
 have e2:¬(p.op.bs=[108,105,110,101,97,114]):=by rw[ho];decide
 have:cF p vars v=lN p v:=by unfold cF;rw[if_neg e1,if_neg e2,if_pos ho]
 rw[this]at h1;exact QQ h1;simp at ha;exact hk p.kids (λq hq=>hq) 0 _ h2 a ha
def nR(there:List Bool)(v:Int):Bool:=(there[v.toNat]?).getD false
section
variable{pg:Pg}
def FG(i:Nat):Str:=⟨TW i,by simp[TW,big]⟩
def QE(vars:List Str)(n:Nat):List Str:=vars++(List.range n).map FG
def qW(k:aG)(there:List Bool)(p:aA)(n:Nat)(nt:Int):Bool:=
 dQ p (QE k.vars.es n) k.values.es.length && !(jQ p).any (λv => !nR there v||decide (v=nt))
theorem QT{n x:Nat}{d r:List Nat}(h:List.range n=d++x::r):x=d.length/\d.length<n:=by
 have h1:(List.range n)[d.length]?=some x:=by rw[h];simp
 have h2:=congrArg List.length h;simp at h2;rw[List.getElem?_range (by omega)]at h1;cases h1;exact⟨rfl,by omega⟩
end
end
section
def aJE(k:aG)(q:aK):Bool:=decide (q.value<k.inputs)||decide ((k.values.es.length:Int)<=q.value)||decide (q.check<0)
def aJF(vals:List Typ)(q:aK)(t:Typ):Bool:=
 decide (t.elem.bs=[98,111,111,108])&&(!OI vals q.body||(decide (q.kind=2) && !EJ q.fn.es [true,true]))
def aQg(k:aG)(q:aK)(i:Nat):Bool:=
 !decide (q.kind=3) || !decide (q.source=q.value)||decide ((i:Int)=0) ||
  (match k.list.es[((i:Int)-1).toNat]? with | none=>true | some r => !decide (r.value=q.value) || !decide (r.kind=1))
def aBC(k:aG)(there:List Bool)(q:aK)(t:Typ):Bool:=
 decide ((t.shape.dims.es.length:Int)=0)||decide (0<(q.fn.es.length:Int))||decide (q.source<0)||decide ((k.values.es.length:Int)<=q.source) || !nR there q.source ||
  (match k.values.es[q.source.toNat]? with|none=>true|some u => !aHT u t)
def aGg(q:aK):Bool := !decide (q.source=0) || !decide (q.check=0) || !jD q.index SJ
def aBD(q:aK)(t:Typ):List Lin:=if decide (q.kind=3) then t.shape.dims.es.dropLast else t.shape.dims.es
def aBE(k:aG)(there:List Bool)(q:aK)(n:Nat)(nt:Int):Bool:=
 if decide (q.kind=1) then decide ((q.fn.es.length:Int)=0)&&qW k there q.body n nt
 else if decide (q.kind=2) then decide (0<(n:Int))&&cC q.fn.es 2&&qW k there q.body n nt
 else if decide (q.kind=3) then qW k there q.body n nt&&qW k there q.index n nt
 else false
def mU(k:aG)(there:List Bool)(q:aK)(i:Nat):Bool:=
 !aJE k q&&(match k.values.es[q.value.toNat]? with
  |none=>false
  |some t => !aJF k.values.es q t && !(nR there q.value&&aQg k q i) && !(if decide (q.kind=3) then aBC k there q t else aGg q) &&
   eqL fZ q.space.es (aBD q t)&&aBE k there q (aBD q t).length (if nR there q.value then q.value else -1))
end
section
def YF(k:aG):List Bool:=List.replicate k.inputs.toNat true++List.replicate (k.values.es.length-k.inputs.toNat) false
def aHW(th:List Bool)(q:aK):List Bool:=th.set q.value.toNat true
def xW(th:List Bool)(d:List aK):List Bool:=d.foldl aHW th
def XL(k:aG):List Bool->List aK->Nat->Option Nat
 |_,[],_=>none
 |th,q::r,i=>if mU k th q i then XL k (aHW th q) r (i+1) else some i
def E4(k:aG)(th:List Bool)(v:Int):Bool:=decide (v<0)||decide ((k.values.es.length:Int)<=v) || !nR th v
def zE(k:aG)(th:List Bool):Bool:=
 decide ((k.results.es.length:Int)<1)||decide (8<(k.results.es.length:Int))||k.results.es.any (E4 k th)
def wT(k:aG):Int×Int:=
 if vF k then
  (match XL k (YF k) k.list.es 0 with
  |some i=>(i,22)
  |none=>if zE k (xW (YF k) k.list.es) then (k.list.es.length,22) else (k.list.es.length,0))
 else (-1,22)
theorem vI{h:Hp}{d:Nat}{a b b':AV}{keys:List Nat}(hb:Tev.snap (d+1) h b=some (b',keys))(ha:a.tree=true):mapS (Tev.snap (d+1) h) [b,a]=some ([b',a],keys):=by rw[eG,hb,eG,pF,if_pos ha,iK];simp
theorem JA{k:aG}{th:List Bool}{q:aK}{i:Nat}(h:mU k th q i=true):k.inputs<=q.value/\q.value<k.values.es.length/\0<=q.check:=by simp only[mU,aJE,aD,gJ,Bool.or_eq_false_iff,mE]at h;omega
section
variable{pg:Pg}
theorem c46(hf:pg.fs 46=some aAA)(k:aG)(nl cl:Bool)(there:List Bool)(hth:there.length=k.values.es.length)(m v:Int) :
  Ret pg 46 [.int .i64 v,.fp (.agg k.cells),.fp (.fp (.agg (aJZ k nl cl there m)))] (.bool (E4 k there v)):=by
 have h0:decide (v<0)=false->(0<=v)=True:=λh=>eq_true (by simpa using h);obtain⟨b,hb⟩:∃b,decide (v<0)=false->decide ((k.values.es.length:Int)<=v)=false->there[v.toNat]?=some b:=by by_cases hh:v.toNat<there.length;exact⟨_,λ_ _=>cK hh⟩;exact⟨true,λx y=>by simp at x y;omega⟩
 have hb':decide (v<0)=false->decide ((k.values.es.length:Int)<=v)=false->nR there v=b:=λx y=>by simp[nR,hb x y]
 refine Ret.ofX hf ?_;unfold aAA
 repeat' (first|simp only[aJZ,aG.cells, *,go_sem,seval]|refine cH (λ_=>?_) (λ_=>?_)|refine cJ (λ_=>?_) (λ_=>?_)|refine cB ?_)
 all_goals (simp_all [E4])
 all_goals (intro h;omega)
end
end
end Go.Tev
