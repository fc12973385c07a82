import Derived.KernelRfl
import Derived.Shelf.Strconv.Itoa3
import Derived.Shelf.LaysM
import Derived.Shelf.LaysC
import Derived.Shelf.Strconv.AtoiAll
import Derived.Shelf.Sort.Plain
import Derived.Shelf.Slices.CompactI
import Derived.Shelf.Slices.In.SortNone
import Derived.Ground.Names2Prog
import Derived.Test.YtilkdbbkkcnocaaGreatDoorProg
import Derived.Test.YtilkdbbkkcnocaaGreatDoorSAN
import Derived.Test.YtilkdbbkkcnocaaGreatDoorSAR
import Derived.Lib.AppendIntMem
set_option linter.all false
section
namespace Go.Proofs
open Go.Shelf
def Tryz.laysM171_ren:Go.Shelf.Ren:=⟨λ|171=>153|243=>206|246=>239|283=>281|284=>282|285=>283|286=>284|129=>269|317=>310|318=>311|319=>312|320=>313|337=>325|338=>326|n=>n,λ|3=>3|9=>9|2=>2|4=>4|171=>343|0=>0|53=>272|37=>201|5=>5|173=>345|212=>370|51=>269|20=>20|213=>371|46=>226|232=>389|233=>390|n=>n,λ|17=>2|18=>6|19=>7|n=>n⟩
theorem aH{α : Type}{x:Option α}{a b : α}(h:x=some a)(k:a=b:=by kernel_rfl):x=some b:=h.trans (congrArg some k)
theorem Tryz.laysM171:Go.Proofs.LaysM.n171 Tryz.prog Tryz.laysM171_ren:={
 mixed:=by kernel_rfl
 f129:=aH Tryz.func269
 f171:=aH Tryz.func153
 f243:=aH Tryz.func206
 f246:=aH Tryz.func239
 f283:=aH Tryz.func281
 f284:=aH Tryz.func282
 f285:=aH Tryz.func283
 f286:=aH Tryz.func284
 f317:=aH Tryz.func310
 f318:=aH Tryz.func311
 f319:=aH Tryz.func312
 f320:=aH Tryz.func313
 f337:=aH Tryz.func325
 f338:=aH Tryz.func326
 t0:=Tryz.underlying0
 a0:=Tryz.isAgg0
 z0:=Tryz.sizeOf0
 v0:=Tryz.zeroValue0
 t2:=Tryz.underlying2
 a2:=Tryz.isAgg2
 z2:=Tryz.sizeOf2
 v2:=Tryz.zeroValue2
 t3:=Tryz.underlying3
 a3:=Tryz.isAgg3
 z3:=Tryz.sizeOf3
 v3:=Tryz.zeroValue3
 t4:=Tryz.underlying4
 a4:=Tryz.isAgg4
 z4:=Tryz.sizeOf4
 v4:=Tryz.zeroValue4
 t5:=Tryz.underlying5
 a5:=Tryz.isAgg5
 z5:=Tryz.sizeOf5
 v5:=Tryz.zeroValue5
 t9:=Tryz.underlying9
 a9:=Tryz.isAgg9
 z9:=Tryz.sizeOf9
 v9:=Tryz.zeroValue9
 t20:=Tryz.underlying20
 a20:=Tryz.isAgg20
 z20:=Tryz.sizeOf20
 v20:=Tryz.zeroValue20
 t37:=Tryz.underlying201
 a37:=Tryz.isAgg201
 z37:=Tryz.sizeOf201
 v37:=Tryz.zeroValue201
 t46:=Tryz.underlying226
 a46:=Tryz.isAgg226
 z46:=Tryz.sizeOf226
 v46:=Tryz.zeroValue226
 t51:=Tryz.underlying269
 a51:=Tryz.isAgg269
 z51:=Tryz.sizeOf269
 v51:=Tryz.zeroValue269
 t53:=Tryz.underlying272
 a53:=Tryz.isAgg272
 z53:=Tryz.sizeOf272
 v53:=Tryz.zeroValue272
 t171:=Tryz.underlying343
 a171:=Tryz.isAgg343
 z171:=Tryz.sizeOf343
 v171:=Tryz.zeroValue343
 t173:=Tryz.underlying345
 a173:=Tryz.isAgg345
 z173:=Tryz.sizeOf345
 v173:=Tryz.zeroValue345
 t212:=Tryz.underlying370
 a212:=Tryz.isAgg370
 z212:=Tryz.sizeOf370
 v212:=Tryz.zeroValue370
 t213:=Tryz.underlying371
 a213:=Tryz.isAgg371
 z213:=Tryz.sizeOf371
 t232:=Tryz.underlying389
 a232:=Tryz.isAgg389
 z232:=Tryz.sizeOf389
 v232:=Tryz.zeroValue389
 t233:=Tryz.underlying390
 a233:=Tryz.isAgg390
 z233:=Tryz.sizeOf390
 v233:=Tryz.zeroValue390
 g17:=by kernel_rfl
 g18:=by kernel_rfl
 g19:=by kernel_rfl
 i0:=by kernel_rfl
 i2:=by kernel_rfl
 i3:=by kernel_rfl
 i4:=by kernel_rfl
 i5:=by kernel_rfl
 i9:=by kernel_rfl
 i20:=by kernel_rfl
 i37:=by kernel_rfl
 i46:=by kernel_rfl
 i51:=by kernel_rfl
 i53:=by kernel_rfl
 i171:=by kernel_rfl
 i173:=by kernel_rfl
 i212:=by kernel_rfl
 i232:=by kernel_rfl
 i233:=by kernel_rfl
 m17:=by kernel_rfl
 m18:=by kernel_rfl
 m19:=by kernel_rfl}
def Tryz.laysC172_ren:Go.Shelf.Ren:=⟨λ|172=>155|244=>208|245=>209|247=>240|279=>241|280=>242|281=>243|282=>244|287=>285|316=>286|171=>153|205=>287|321=>314|322=>315|243=>206|246=>239|283=>281|284=>282|285=>283|286=>284|129=>269|317=>310|318=>311|319=>312|320=>313|337=>325|338=>326|n=>n,λ|9=>9|3=>3|75=>233|76=>234|4=>4|5=>5|167=>307|37=>201|0=>0|85=>308|2=>2|168=>310|53=>272|175=>347|46=>226|210=>351|127=>319|145=>375|143=>373|21=>21|171=>343|173=>345|212=>370|51=>269|20=>20|213=>371|232=>389|233=>390|80=>294|n=>n,λ|15=>0|16=>1|17=>2|18=>6|19=>7|n=>n⟩
theorem Tryz.laysC172:Go.Proofs.LaysC.n172 Tryz.prog Tryz.laysC172_ren:={
 mixed:=by kernel_rfl
 f129:=aH Tryz.func269
 f171:=aH Tryz.func153
 f172:=aH Tryz.func155
 f205:=aH Tryz.func287
 f243:=aH Tryz.func206
 f244:=aH Tryz.func208
 f245:=aH Tryz.func209
 f246:=aH Tryz.func239
 f247:=aH Tryz.func240
 f279:=aH Tryz.func241
 f280:=aH Tryz.func242
 f281:=aH Tryz.func243
 f282:=aH Tryz.func244
 f283:=aH Tryz.func281
 f284:=aH Tryz.func282
 f285:=aH Tryz.func283
 f286:=aH Tryz.func284
 f287:=aH Tryz.func285
 f316:=aH Tryz.func286
 f317:=aH Tryz.func310
 f318:=aH Tryz.func311
 f319:=aH Tryz.func312
 f320:=aH Tryz.func313
 f321:=aH Tryz.func314
 f322:=aH Tryz.func315
 f337:=aH Tryz.func325
 f338:=aH Tryz.func326
 t0:=Tryz.underlying0
 a0:=Tryz.isAgg0
 z0:=Tryz.sizeOf0
 v0:=Tryz.zeroValue0
 t2:=Tryz.underlying2
 a2:=Tryz.isAgg2
 z2:=Tryz.sizeOf2
 v2:=Tryz.zeroValue2
 t3:=Tryz.underlying3
 a3:=Tryz.isAgg3
 z3:=Tryz.sizeOf3
 v3:=Tryz.zeroValue3
 t4:=Tryz.underlying4
 a4:=Tryz.isAgg4
 z4:=Tryz.sizeOf4
 v4:=Tryz.zeroValue4
 t5:=Tryz.underlying5
 a5:=Tryz.isAgg5
 z5:=Tryz.sizeOf5
 v5:=Tryz.zeroValue5
 t9:=Tryz.underlying9
 a9:=Tryz.isAgg9
 z9:=Tryz.sizeOf9
 v9:=Tryz.zeroValue9
 t20:=Tryz.underlying20
 a20:=Tryz.isAgg20
 z20:=Tryz.sizeOf20
 v20:=Tryz.zeroValue20
 t21:=Tryz.underlying21
 a21:=Tryz.isAgg21
 z21:=Tryz.sizeOf21
 v21:=Tryz.zeroValue21
 t37:=Tryz.underlying201
 a37:=Tryz.isAgg201
 z37:=Tryz.sizeOf201
 v37:=Tryz.zeroValue201
 t46:=Tryz.underlying226
 a46:=Tryz.isAgg226
 z46:=Tryz.sizeOf226
 v46:=Tryz.zeroValue226
 t51:=Tryz.underlying269
 a51:=Tryz.isAgg269
 z51:=Tryz.sizeOf269
 v51:=Tryz.zeroValue269
 t53:=Tryz.underlying272
 a53:=Tryz.isAgg272
 z53:=Tryz.sizeOf272
 v53:=Tryz.zeroValue272
 t75:=Tryz.underlying233
 a75:=Tryz.isAgg233
 z75:=Tryz.sizeOf233
 v75:=Tryz.zeroValue233
 t76:=Tryz.underlying234
 a76:=Tryz.isAgg234
 z76:=Tryz.sizeOf234
 v76:=Tryz.zeroValue234
 t85:=Tryz.underlying308
 a85:=Tryz.isAgg308
 z85:=Tryz.sizeOf308
 v85:=Tryz.zeroValue308
 t127:=Tryz.underlying319
 a127:=Tryz.isAgg319
 z127:=Tryz.sizeOf319
 v127:=Tryz.zeroValue319
 t143:=Tryz.underlying373
 a143:=Tryz.isAgg373
 z143:=Tryz.sizeOf373
 v143:=Tryz.zeroValue373
 t145:=Tryz.underlying375
 a145:=Tryz.isAgg375
 z145:=Tryz.sizeOf375
 v145:=Tryz.zeroValue375
 t167:=Tryz.underlying307
 a167:=Tryz.isAgg307
 z167:=Tryz.sizeOf307
 v167:=Tryz.zeroValue307
 t168:=Tryz.underlying310
 a168:=Tryz.isAgg310
 z168:=Tryz.sizeOf310
 v168:=Tryz.zeroValue310
 t171:=Tryz.underlying343
 a171:=Tryz.isAgg343
 z171:=Tryz.sizeOf343
 v171:=Tryz.zeroValue343
 t173:=Tryz.underlying345
 a173:=Tryz.isAgg345
 z173:=Tryz.sizeOf345
 v173:=Tryz.zeroValue345
 t175:=Tryz.underlying347
 a175:=Tryz.isAgg347
 z175:=Tryz.sizeOf347
 v175:=Tryz.zeroValue347
 t210:=Tryz.underlying351
 a210:=Tryz.isAgg351
 z210:=Tryz.sizeOf351
 v210:=Tryz.zeroValue351
 t212:=Tryz.underlying370
 a212:=Tryz.isAgg370
 z212:=Tryz.sizeOf370
 v212:=Tryz.zeroValue370
 t213:=Tryz.underlying371
 a213:=Tryz.isAgg371
 z213:=Tryz.sizeOf371
 t232:=Tryz.underlying389
 a232:=Tryz.isAgg389
 z232:=Tryz.sizeOf389
 v232:=Tryz.zeroValue389
 t233:=Tryz.underlying390
 a233:=Tryz.isAgg390
 z233:=Tryz.sizeOf390
 v233:=Tryz.zeroValue390
 g15:=by kernel_rfl
 g16:=by kernel_rfl
 g17:=by kernel_rfl
 g18:=by kernel_rfl
 g19:=by kernel_rfl
 t80:=Tryz.underlying294
 a80:=Tryz.isAgg294
 z80:=Tryz.sizeOf294
 v80:=Tryz.zeroValue294
 i0:=by kernel_rfl
 i2:=by kernel_rfl
 i3:=by kernel_rfl
 i4:=by kernel_rfl
 i5:=by kernel_rfl
 i9:=by kernel_rfl
 i20:=by kernel_rfl
 i21:=by kernel_rfl
 i37:=by kernel_rfl
 i46:=by kernel_rfl
 i51:=by kernel_rfl
 i53:=by kernel_rfl
 i75:=by kernel_rfl
 i76:=by kernel_rfl
 i80:=by kernel_rfl
 i85:=by kernel_rfl
 i127:=by kernel_rfl
 i143:=by kernel_rfl
 i145:=by kernel_rfl
 i167:=by kernel_rfl
 i168:=by kernel_rfl
 i171:=by kernel_rfl
 i173:=by kernel_rfl
 i175:=by kernel_rfl
 i210:=by kernel_rfl
 i212:=by kernel_rfl
 i232:=by kernel_rfl
 i233:=by kernel_rfl
 m15:=by kernel_rfl
 m16:=by kernel_rfl
 m17:=by kernel_rfl
 m18:=by kernel_rfl
 m19:=by kernel_rfl
 c0:=by kernel_rfl
 c2:=by kernel_rfl
 c3:=by kernel_rfl
 c4:=by kernel_rfl
 c5:=by kernel_rfl
 c9:=by kernel_rfl
 c20:=by kernel_rfl
 c21:=by kernel_rfl
 c37:=by kernel_rfl
 c46:=by kernel_rfl
 c51:=by kernel_rfl
 c53:=by kernel_rfl
 c75:=by kernel_rfl
 c76:=by kernel_rfl
 c80:=by kernel_rfl
 c85:=by kernel_rfl
 c127:=by kernel_rfl
 c143:=by kernel_rfl
 c145:=by kernel_rfl
 c167:=by kernel_rfl
 c168:=by kernel_rfl
 c171:=by kernel_rfl
 c173:=by kernel_rfl
 c175:=by kernel_rfl
 c210:=by kernel_rfl
 c212:=by kernel_rfl
 c213:=by kernel_rfl
 c232:=by kernel_rfl
 c233:=by kernel_rfl}
def Tryz.lays189_ren:Go.Shelf.Ren:=⟨λ|189=>200|125=>230|257=>237|128=>268|129=>269|294=>272|295=>273|296=>274|297=>275|298=>276|299=>277|216=>278|300=>279|301=>280|328=>306|329=>302|330=>303|331=>307|332=>308|215=>309|343=>324|n=>n,λ|28=>52|3=>3|46=>226|0=>0|51=>269|53=>272|4=>4|183=>329|182=>328|131=>134|5=>5|9=>9|218=>361|222=>365|228=>384|229=>385|n=>n,λ|n=>n⟩
theorem Tryz.lays189:Go.Proofs.Lays.n189 Tryz.prog Tryz.lays189_ren:={
 mixed:=by kernel_rfl
 f125:=aH Tryz.func230
 f128:=aH Tryz.func268
 f129:=aH Tryz.func269
 f189:=aH Tryz.func200
 f215:=aH Tryz.func309
 f216:=aH Tryz.func278
 f257:=aH Tryz.func237
 f294:=aH Tryz.func272
 f295:=aH Tryz.func273
 f296:=aH Tryz.func274
 f297:=aH Tryz.func275
 f298:=aH Tryz.func276
 f299:=aH Tryz.func277
 f300:=aH Tryz.func279
 f301:=aH Tryz.func280
 f328:=aH Tryz.func306
 f329:=aH Tryz.func302
 f330:=aH Tryz.func303
 f331:=aH Tryz.func307
 f332:=aH Tryz.func308
 f343:=aH Tryz.func324
 t0:=Tryz.underlying0
 a0:=Tryz.isAgg0
 z0:=Tryz.sizeOf0
 v0:=Tryz.zeroValue0
 t3:=Tryz.underlying3
 a3:=Tryz.isAgg3
 z3:=Tryz.sizeOf3
 v3:=Tryz.zeroValue3
 t4:=Tryz.underlying4
 a4:=Tryz.isAgg4
 z4:=Tryz.sizeOf4
 v4:=Tryz.zeroValue4
 t5:=Tryz.underlying5
 a5:=Tryz.isAgg5
 z5:=Tryz.sizeOf5
 v5:=Tryz.zeroValue5
 t9:=Tryz.underlying9
 a9:=Tryz.isAgg9
 z9:=Tryz.sizeOf9
 v9:=Tryz.zeroValue9
 t28:=Tryz.underlying52
 a28:=Tryz.isAgg52
 z28:=Tryz.sizeOf52
 v28:=Tryz.zeroValue52
 t46:=Tryz.underlying226
 a46:=Tryz.isAgg226
 z46:=Tryz.sizeOf226
 v46:=Tryz.zeroValue226
 t51:=Tryz.underlying269
 a51:=Tryz.isAgg269
 z51:=Tryz.sizeOf269
 v51:=Tryz.zeroValue269
 t53:=Tryz.underlying272
 a53:=Tryz.isAgg272
 z53:=Tryz.sizeOf272
 v53:=Tryz.zeroValue272
 t131:=Tryz.underlying134
 a131:=Tryz.isAgg134
 z131:=Tryz.sizeOf134
 v131:=Tryz.zeroValue134
 t182:=Tryz.underlying328
 a182:=Tryz.isAgg328
 z182:=Tryz.sizeOf328
 v182:=Tryz.zeroValue328
 t183:=Tryz.underlying329
 a183:=Tryz.isAgg329
 z183:=Tryz.sizeOf329
 v183:=Tryz.zeroValue329
 t218:=Tryz.underlying361
 a218:=Tryz.isAgg361
 z218:=Tryz.sizeOf361
 v218:=Tryz.zeroValue361
 t222:=Tryz.underlying365
 a222:=Tryz.isAgg365
 z222:=Tryz.sizeOf365
 v222:=Tryz.zeroValue365
 t228:=Tryz.underlying384
 a228:=Tryz.isAgg384
 z228:=Tryz.sizeOf384
 v228:=Tryz.zeroValue384
 t229:=Tryz.underlying385
 a229:=Tryz.isAgg385
 z229:=Tryz.sizeOf385
 v229:=Tryz.zeroValue385}
def Tryz.laysNm220_ren:Go.Shelf.Ren:=⟨λ|20=>201|n=>n,λ|22=>52|3=>3|4=>4|0=>0|n=>n,λ|n=>n⟩
theorem Tryz.laysNm220:Go.Proofs.Lays2.n20 Tryz.prog Tryz.laysNm220_ren:={
 mixed:=by kernel_rfl
 f20:=aH Tryz.func201
 t0:=Tryz.underlying0
 a0:=Tryz.isAgg0
 z0:=Tryz.sizeOf0
 v0:=Tryz.zeroValue0
 t3:=Tryz.underlying3
 a3:=Tryz.isAgg3
 z3:=Tryz.sizeOf3
 v3:=Tryz.zeroValue3
 t4:=Tryz.underlying4
 a4:=Tryz.isAgg4
 z4:=Tryz.sizeOf4
 v4:=Tryz.zeroValue4
 t22:=Tryz.underlying52
 a22:=Tryz.isAgg52
 z22:=Tryz.sizeOf52
 v22:=Tryz.zeroValue52
 i3:=by kernel_rfl}
open Go.RowKit Go.Sort Go.Lib in
theorem Tryz.strconv_Itoa(n:Int)(h0 : -9223372036854775808<=n)(h1:n<=9223372036854775807)(w:World){T:TypeId}{fr:Nat×Nat}(ht:w.heap[2]?=some (.cells (Lib.pow10Tab.map λz=>Value.int .u64 z).toArray T fr)) :
  Calls Tryz.prog 153 #[.int .i64 n] w λe w'=>e = .returned (.string ⟨(Lib.itoa n).toArray⟩)/\∃k os,w'=grow (w.drewN k) os:=by
 refine Any.strconv_Itoa Tryz.laysM171 n h0 h1 w ?_;unfold Lib.TabIs World.var?;rw[show Tryz.prog.globalNamed _=some 2 by kernel_rfl,Option.bind_some,ht]
open Go.RowKit in
theorem Tryz.strconv_Atoi_ok(s:ByteArray)(hmax:s.size<=9223372036854775806)(v:Int)(h:Lib.atoiAll s.data.toList = .ok v)(w:World) :
  Calls Tryz.prog 155 #[.string s] w λe w'=>e = .returned (.tuple #[.int .i64 v,.nilIface])/\(w'=w\/∃t,w'=Lib.bytesWorld w 5 t):=Any.strconv_Atoi_ok Tryz.laysC172 s hmax v h w
open Go.RowKit in
theorem Tryz.strconv_Atoi_bad(s:ByteArray)(hlim:s.size<=281474976710656)(h1:∀v,Lib.atoiAll s.data.toList ≠ .ok v)(h2:Lib.atoiAll s.data.toList ≠ .range)(ev:Value)(w:World)(hv:w.cell? ⟨0,0,none⟩=some ev)(hev:ev = .nilIface\/∃te pe,ev = .iface te pe) :
  Calls Tryz.prog 155 #[.string s] w λe w'=>∃N,e = .returned (.tuple #[.int .i64 (0),.iface 310 (.pointer (some ⟨N,0,none⟩))])/\w.heap.size<=N/\w'.heap[N]?=some (.cells #[.string ⟨#[65,116,111,105]⟩,.string s,ev] 351 (0,0))/\Below w.heap.size w w':=by
 cases h:Lib.atoiAll s.data.toList
 case ok v=>exact absurd h (h1 v)
 case range=>exact absurd h h2
 exact Any.strconv_Atoi_syntax Tryz.laysC172 s hlim h ev w hv hev
open Go.RowKit in
theorem Tryz.strconv_Atoi_range(s:ByteArray)(hlim:s.size<=281474976710656)(h:Lib.atoiAll s.data.toList = .range)(ev:Value)(w:World)(hv:w.cell? ⟨1,0,none⟩=some ev)(hev:ev = .nilIface\/∃te pe,ev = .iface te pe) :
  Calls Tryz.prog 155 #[.string s] w λe w'=>∃N,e = .returned (.tuple #[.int .i64 (Lib.atoiSat s.data.toList),.iface 310 (.pointer (some ⟨N,0,none⟩))])/\w.heap.size<=N/\w'.heap[N]?=some (.cells #[.string ⟨#[65,116,111,105]⟩,.string s,ev] 351 (0,0))/\Below w.heap.size w w':=Any.strconv_Atoi_range Tryz.laysC172 s hlim h ev w hv hev
open Go.Sort Go.RowKit in
theorem Tryz.slices_Sort_int(blk off cap:Nat)(zs:List Int)(w:World)(hH:Holds (Value.int .i64) w blk off zs.toArray)(hblk:blk<w.heap.size)(hsz:zs.length<4611686018427387904) :
  Calls Tryz.prog 200 #[.slice (some ⟨blk,off,none⟩) zs.length cap] w λe w'=>
   e = .returned (.tuple #[])/\∃n os,w'=grow (putRow (Value.int .i64) (Sort.ahead w n) blk off (zs.mergeSort λx y=>decide (x<=y)).toArray) os:=Any.slices_Sort_int Tryz.lays189 blk off cap zs w hH hblk hsz
open Go.RowKit Go.Lib Go.Sort in
theorem Tryz.slices_Compact_int(blk off cap:Nat)(zs:List Int)(w:World)(hH:Holds (Value.int .i64) w blk off zs.toArray)(hsz:zs.length<=9223372036854775807)(hcap:zs.length<=cap) :
  Calls Tryz.prog 201 #[.slice (some ⟨blk,off,none⟩) zs.length cap] w λe w'=>e = .returned (.slice (some ⟨blk,off,none⟩) (Lib.compact zs).length cap)/\∃q,w'=putRow (Value.int .i64) (Sort.ahead w q) blk off (Lib.compact zs++List.replicate (zs.length-(Lib.compact zs).length) 0).toArray:=Any.slices_Compact_int Tryz.laysNm220 blk off cap zs w hH hsz hcap
open Go.RowKit Go.Lib Go.Sort in
theorem Tryz.slices_Compact_int_empty(a:Option Addr)(cap:Nat)(w:World) :
  Calls Tryz.prog 201 #[.slice a 0 cap] w λe w'=>e = .returned (.slice a 0 cap)/\w'=w:=Any.slices_Compact_int_empty Tryz.laysNm220 a cap w
open Go.RowKit Go.Sort in
theorem Tryz.slices_Sort_int_none(p:Option Addr)(cap:Nat)(w:World) :
  Calls Tryz.prog 200 #[.slice p 0 cap] w λe w'=>e = .returned (.tuple #[])/\w'=w:=Any.slices_Sort_int_none Tryz.lays189 p cap w
end Go.Proofs
end
section
set_option maxRecDepth 100000
namespace Go.Proofs
open Go.Tev
def exB(f:Nat):Option (List AV->Nat->Hp->Option (AV×Hp)):=
 bif f.beq 92 then some nP else bif f.beq 93 then some oQ else bif f.beq 75 then some sZ else bif f.beq 76 then some s6 else bif f.beq 522 then some vL else none
def glS(g:Nat):Option AV:=
 bif g.beq 0 then some (.ifc .top) else bif g.beq 1 then some (.ifc .top) else bif g.beq 2 then some (.agg (Lib.pow10Tab.map λn => .int .u64 n)) else none
def pgS:Pg:=⟨λf=>tab.find f,glS,exB⟩
def nm:Nm:=aQj Tryz.prog num gnum
theorem n75:nm.f 75=200:=by kernel_rfl
theorem n76:nm.f 76=201:=by kernel_rfl
theorem n92:nm.f 92=155:=by kernel_rfl
theorem n93:nm.f 93=153:=by kernel_rfl
theorem aQN:BZ Tryz.prog (nm.f 75):=by rw[n75];exact⟨Tryz.f200,Tryz.func200,by kernel_rfl,of_decide_eq_true (by kernel_rfl)⟩
theorem aQM:BZ Tryz.prog (nm.f 76):=by rw[n76];exact⟨Tryz.f201,Tryz.func201,by kernel_rfl,of_decide_eq_true (by kernel_rfl)⟩
theorem aQL:BZ Tryz.prog (nm.f 92):=by rw[n92];exact⟨Tryz.f155,Tryz.func155,by kernel_rfl,of_decide_eq_true (by kernel_rfl)⟩
theorem aQK:BZ Tryz.prog (nm.f 93):=by rw[n93];exact⟨Tryz.f153,Tryz.func153,by kernel_rfl,of_decide_eq_true (by kernel_rfl)⟩
theorem aKs:gP Tryz.prog nm glS gnum ⟨λf' avs kb h=>if f'=93 then oQ avs kb h else none,λ_ _ _ _=>none⟩:=by refine aGG aQK 2 rfl ?_;intro n h0 h1 w hw;obtain⟨T,fr,ht⟩:=hw;have ht':w.heap[2]?=some (.cells (Lib.pow10Tab.map λz=>Value.int .u64 z).toArray T fr):=ht;rw[n93];refine(Tryz.strconv_Itoa n (by omega) h1 w ht').mono ?_;rintro e w' ⟨rfl,k,os,rfl⟩;exact⟨rfl,Lib.below_grow _ w (Nat.le_refl _) k os⟩
theorem S6(s:List UInt8):((⟨s.toArray⟩:ByteArray).data.toList)=s:=by simp
theorem aFl(s:List UInt8):(⟨s.toArray⟩:ByteArray).size=s.length:=by simp[ByteArray.size]
theorem aLI:gP Tryz.prog nm glS gnum ⟨λf' avs kb h=>if f'=92 then nP avs kb h else none,λ_ _ _ _=>none⟩:=by
 refine aHr aQL 0 1 rfl rfl ?_ ?_ ?_;intro s hs v hv w;rw[n92];refine(Tryz.strconv_Atoi_ok ⟨s.toArray⟩ (by rw[aFl];omega) v (by rw[S6];exact hv) w).mono ?_;rintro e w' ⟨rfl,hw⟩;refine⟨rfl,?_⟩;rcases hw with rfl|⟨t,rfl⟩
 exact RowKit.Below.refl _ _;exact Lib.bytesWorld_below _ _ _;intro s hs hv1 hv2 w te pe hc;rw[n92];refine(Tryz.strconv_Atoi_bad ⟨s.toArray⟩ (by rw[aFl];omega) (by rw[S6];exact hv1) (by rw[S6];exact hv2) _ w hc (.inr ⟨te,pe,rfl⟩)).mono ?_;rintro e w' ⟨N,rfl,_,_,hb⟩;exact⟨_,_,rfl,hb⟩;intro s hs hv w te pe hc;rw[n92];refine(Tryz.strconv_Atoi_range ⟨s.toArray⟩ (by rw[aFl];omega) (by rw[S6];exact hv) _ w hc (.inr ⟨te,pe,rfl⟩)).mono ?_;rintro e w' ⟨N,rfl,_,_,hb⟩;rw[S6];exact⟨_,_,rfl,hb⟩
theorem aIv:gP Tryz.prog nm glS gnum ⟨λf' avs kb h=>if f'=75 then sZ avs kb h else none,λ_ _ _ _=>none⟩:=by refine aFn aQN ?_ ?_;intro blk off cap zs w hH hb hz;rw[n75];refine(Tryz.slices_Sort_int blk off cap zs w hH hb (by omega)).mono ?_;rintro e w' ⟨rfl,n,os,rfl⟩;exact⟨rfl,n,os,by rw[TB]⟩;intro p cap w;rw[n75];exact Tryz.slices_Sort_int_none p cap w
theorem aKL:gP Tryz.prog nm glS gnum ⟨λf' avs kb h=>if f'=76 then s6 avs kb h else none,λ_ _ _ _=>none⟩:=by refine aGT aQM ?_ ?_;intro blk off cap zs w hH hz hc;rw[n76];refine(Tryz.slices_Compact_int blk off cap zs w hH (by omega) hc).mono ?_;rintro e w' ⟨rfl,q,rfl⟩;rw[M2];exact⟨rfl,q,rfl⟩;intro p cap w;rw[n76];exact Tryz.slices_Compact_int_empty p cap w
theorem aGo:nm.f 522=169:=by kernel_rfl
theorem aKA:BZ Tryz.prog (nm.f 522):=by rw[aGo];exact⟨Tryz.f169,Tryz.func169,by kernel_rfl,of_decide_eq_true (by kernel_rfl)⟩
theorem aKq:gP Tryz.prog nm glS gnum ⟨λf' avs kb h=>if f'=522 then vL avs kb h else none,λ_ _ _ _=>none⟩:=by refine aGF 522 aKA ?_ ?_;intro a c sep w;rw[aGo];exact Any.strings_Join_none Tryz.lays156 Tryz.joinX a c sep w;intro bk o c xs sep w h1 h2 h3 h4 h5;rw[aGo];exact Any.strings_Join Tryz.lays156 Tryz.joinX bk o c xs sep w h1 h2 h3 h4 h5
theorem exS:∀f g,exB f=some g->gP Tryz.prog nm glS gnum ⟨λf' avs kb h=>if f'=f then g avs kb h else none,λ_ _ _ _=>none⟩:=by
 intro f g h;unfold exB at h;cases h1:f.beq 92 with
 |true=>rw[h1]at h;cases h;obtain rfl:=Nat.eq_of_beq_eq_true h1;exact aLI
 |false=>
  cases h2:f.beq 93 with
  |true=>rw[h1,h2]at h;cases h;obtain rfl:=Nat.eq_of_beq_eq_true h2;exact aKs
  |false=>
   cases h3:f.beq 75 with
   |true=>rw[h1,h2,h3]at h;cases h;obtain rfl:=Nat.eq_of_beq_eq_true h3;exact aIv
   |false=>
    cases h4:f.beq 76 with
    |true=>rw[h1,h2,h3,h4]at h;cases h;obtain rfl:=Nat.eq_of_beq_eq_true h4;exact aKL
    |false=>
     cases h5:f.beq 522 with
     |true=>rw[h1,h2,h3,h4,h5]at h;cases h;obtain rfl:=Nat.eq_of_beq_eq_true h5;exact aKq
     |false=>rw[h1,h2,h3,h4,h5]at h;cases h
theorem fitS:X1 Tryz.prog nm gnum pgS:=fitP_of fits exS (λ_ _ _ _=>Iff.rfl)
end Go.Proofs
end
namespace Go.Tev
section
def aKt(op:List UInt8):Bool:=decide (op=[108,116])||decide (op=[108,101])||decide (op=[103,116])||decide (op=[103,101])||decide (op=[101,113])||decide (op=[110,101])
def aLY:List Bool->Bool
 |[_,b,c]=>b&&c
 |_=>false
def U6(op:List UInt8)(kids:List Bool):Bool:=
 if aKt op then decide ((kids.length:Int)=2)
 else if decide (op=[115,101,108,101,99,116]) then aLY kids
 else match fE op with
  |none=>false
  |some p=>decide (p.result=[98,111,111,108])&&decide ((p.params.length:Int)=(kids.length:Int)) && !kids.any (λb=>b==false)
theorem HS(l:List Bool):Tev.treeL (l.map AV.bool)=true:=bQ (f:=AV.bool) (λ_=>rfl) l
theorem LT(l:List (List UInt8)):Tev.treeL (l.map AV.str)=true:=bQ (f:=AV.str) (λ_=>rfl) l
attribute [go_sem] HS LT
section
variable{pg:Pg}
def Y7(op:List UInt8):Bool:=decide (op=[99,111,110,115,116])||decide (op=[116,114,117,116,104])
def aIO(l:List Bool)(a:Int):Bool:=decide (0<=a)&&(decide (a<(l.length:Int))&&(l[a.toNat]?).getD false)
def aIu(l:List Bool)(s:aE):Bool:=if Y7 s.op.bs then decide (s.num=0)||decide (s.num=1) else U6 s.op.bs (s.args.es.map (aIO l))
def OI(l:List Bool):List aE->List Bool
 |[]=>l
 |s::r=>OI (l++[aIu l s]) r
def EM(code:List aE)(args:List Bool):Bool:=(OI args code).getLast?.getD false
def HN(h:Hp)(ks:List Nat)(v:AV)(es:List Bool):Prop:=∃k∈ks,Own h k 1 false v (es.map AV.bool)
theorem HN.mono{h h':Hp}{ks:List Nat}{v:AV}{es:List Bool}(o:HN h ks v es)(hh:∀k∈ks,h'.get k=h.get k):HN h' ks v es:=by obtain⟨k,hk,o⟩:=o;exact⟨k,hk,o.mono (hh k hk)⟩
theorem rQ:∀(l:List Bool),aP 1 false (l.map AV.bool)=some (l.map AV.bool)
 |[]=>rfl
 |x::r=>by have ih:=rQ r;rw[List.map_cons,aP,ih];rfl
theorem HN.at{h:Hp}{ks:List Nat}{v:AV}{es:List Bool}(o:HN h ks v es){n:Int}(h0:0<=n)(h1:n<es.length):∃k e,v = .rf k e 0 es.length es.length/\h.get k=some (e,.blk (es.map AV.bool) 1 false false false)/\k∈ks:=by
 obtain⟨k,hk,⟨he,nl,cl,rfl,hc⟩|⟨e,cs,rfl,hg,hu⟩⟩:=o;have:es=[]:=by simpa using he
 subst this;simp at h1;omega;rw[rQ]at hu;cases hu;exact⟨k,e,by simp,hg,hk⟩
theorem HN.len{h:Hp}{ks:List Nat}{v:AV}{es:List Bool}(o:HN h ks v es)(kb s:Nat)(h':Hp)(Q:AV->Eff->Prop)(t:Tok Q):XO pg kb (.len 1) s h' [v] Q t=Q (.int .i64 es.length) (.pat [] []):=by
 obtain⟨k,hk,⟨he,nl,cl,rfl,hc⟩|⟨e,cs,rfl,hg,hu⟩⟩:=o;have:es=[]:=by simpa using he
 subst this;simp only[go_sem,seval];rw[cP];simp only[go_sem,seval]
theorem HN.flen{h:Hp}{ks:List Nat}{v:AV}{es:List Bool}(o:HN h ks v es)(h':Hp):oC h' 1 [v]=some (.int .i64 es.length,.pat [] []):=by
 obtain⟨k,hk,⟨he,nl,cl,rfl,hc⟩|⟨e,cs,rfl,hg,hu⟩⟩:=o;have:es=[]:=by simpa using he
 subst this;rfl;rw[cP];rfl
theorem nY{h:Hp}{d:Nat}{a b b':AV}{keys:List Nat}(ha:a.tree=true)(hb:Tev.snap (d+1) h b=some (b',keys)):mapS (Tev.snap (d+1) h) [a,b]=some ([a,b'],keys):=by simp[bG,eN,qP ha,hb]
end
end
section
def aIA(vals:List Typ)(v:Int):Bool:=decide (0<=v)&&(decide (v<(vals.length:Int))&&((vals[v.toNat]?).map λt=>decide (t.elem.bs=[98,111,111,108])).getD false)
def ifT:List Bool->Bool
 |[a,b]=>a&&b
 |_=>false
def aMd(fn:List aE):List Bool->Bool
 |[a,b]=>a&&EM fn [true,b]
 |_=>false
def aFj(vals:List Typ)(op:List UInt8)(num value:Int)(fn:List aE)(kids:List Bool):Bool:=
 if decide (op=[99,111,110,115,116]) then decide (num=0)||decide (num=1)
 else if decide (op=[108,105,110,101,97,114]) then false
 else if decide (op=[114,101,97,100]) then aIA vals value
 else if decide (op=[105,102]) then ifT kids
 else if decide (op=[114,101,100,117,99,101]) then aMd fn kids
 else if decide (op=[99,111,100,101]) then EM fn kids
 else U6 op kids
mutual
def OK(vals:List Typ):aA->Bool
 |.mk op num value _ _ _ _ fn _ kids _=>aFj vals op.bs num value fn.es (OJ vals kids)
def OJ(vals:List Typ):List aA->List Bool
 |[]=>[]
 |p::r=>OK vals p::OJ vals r
end
def aKN(k:aF)(nl cl:Bool)(there:List Bool)(m:Int):List AV:=
 [.sl k.vars.nl (k.vars.es.map Str.av) k.vars.cl,.sl k.wher.nl (k.wher.es.map Lin.av) k.wher.cl,.int .i64 k.inputs,.sl k.values.nl (k.values.es.map Typ.av) k.values.cl,.sl k.list.nl (k.list.es.map aK.av) k.list.cl,.sl k.results.nl (k.results.es.map aV) k.results.cl,
  .sl nl (there.map AV.bool) cl,.int .i64 m]
theorem Own.flen{h:Hp}{k esz:Nat}{ag:Bool}{v:AV}{es:List AV}(o:Own h k esz ag v es)(h':Hp):oC h' 1 [v]=some (.int .i64 es.length,.pat [] []):=by
 rcases o with ⟨rfl,nl,cl,rfl,hc⟩|⟨e,cs,rfl,hg,hu⟩
 rfl;rfl
section
variable{pg:Pg}
end
end
section
def lK:aA:=.mk ⟨[],by decide⟩ 0 0 ⟨[],by decide⟩ ⟨true,[],true,by decide⟩ false 0 ⟨true,[],true,by decide⟩ true [] true
theorem Q0{p:aA}{v:Int}(h:nK p v=true):0<=p.value/\p.value<v:=by simp only[nK,aD,cK]at h;exact⟨h.1.1.1.2,h.1.1.2⟩
theorem HQ(v:Int):∀p:aA,∀vars,cD v p vars=true->∀a∈l9 p,0<=a/\a<v:=by
 refine aA.ind' λp ih vars h=>?_;rw[iI]at h;simp only[aD]at h;obtain⟨⟨h1,_⟩,h2⟩:=h;have hk:∀(l:List aA),(∀q∈l,q∈p.kids)->∀i red,dS v red p.name vars i l=true->∀a∈lI l,0<=a/\a<v:=by
  intro l
  induction l with
  |nil=>intro _ i red _ a ha;simp[lI]at ha
  |cons q r ih2=>intro hm i red hv a ha;simp only[dS,aD]at hv;simp only[lI,jW]at ha;rcases ha with ha|ha;exact ih q (hm q (by simp)) _ hv.1 a ha;exact ih2 (λq hq=>hm q (by simp[hq])) _ red hv.2 a ha
 intro a ha;rw[QZ,jW]at ha;rcases ha with ha|ha;split at ha;rename_i ho;simp only[List.mem_singleton]at ha;subst ha;simp only[cK]at ho;have e1:¬(p.op.bs=[99,111,110,115,116]):=by rw[ho];decide
 have e2:¬(p.op.bs=[108,105,110,101,97,114]):=by rw[ho];decide
 have:dK p vars v=nK p v:=by unfold dK;rw[if_neg e1,if_neg e2,if_pos ho]
 rw[this]at h1;exact Q0 h1;simp at ha;exact hk p.kids (λq hq=>hq) 0 _ h2 a ha
def nI(there:List Bool)(v:Int):Bool:=(there[v.toNat]?).getD false
section
variable{pg:Pg}
def FL(i:Nat):Str:=⟨UK i,by simp[UK,big]⟩
def QL(vars:List Str)(n:Nat):List Str:=vars++(List.range n).map FL
def qR(k:aF)(there:List Bool)(p:aA)(n:Nat)(nt:Int):Bool:=
 cU p (QL k.vars.es n) k.values.es.length && !(sK p).any (λv => !nI there v||decide (v=nt))
theorem Q5{n x:Nat}{d r:List Nat}(h:List.range n=d++x::r):x=d.length/\d.length<n:=by
 have h1:(List.range n)[d.length]?=some x:=by rw[h];simp
 have h2:=congrArg List.length h;simp at h2;rw[List.getElem?_range (by omega)]at h1;cases h1;exact⟨rfl,by omega⟩
end
end
section
def aKo(k:aF)(q:aK):Bool:=decide (q.value<k.inputs)||decide ((k.values.es.length:Int)<=q.value)||decide (q.check<0)
def aKp(vals:List Typ)(q:aK)(t:Typ):Bool:=
 decide (t.elem.bs=[98,111,111,108])&&(!OK vals q.body||(decide (q.kind=2) && !EM q.fn.es [true,true]))
def aQJ(k:aF)(q:aK)(i:Nat):Bool:=
 !decide (q.kind=3) || !decide (q.source=q.value)||decide ((i:Int)=0) ||
  (match k.list.es[((i:Int)-1).toNat]? with | none=>true | some r => !decide (r.value=q.value) || !decide (r.kind=1))
def aCl(k:aF)(there:List Bool)(q:aK)(t:Typ):Bool:=
 decide ((t.shape.dims.es.length:Int)=0)||decide (0<(q.fn.es.length:Int))||decide (q.source<0)||decide ((k.values.es.length:Int)<=q.source) || !nI there q.source ||
  (match k.values.es[q.source.toNat]? with|none=>true|some u => !aIt u t)
def aGE(q:aK):Bool := !decide (q.source=0) || !decide (q.check=0) || !dJ q.index lK
def aCm(q:aK)(t:Typ):List Lin:=if decide (q.kind=3) then t.shape.dims.es.dropLast else t.shape.dims.es
def aCn(k:aF)(there:List Bool)(q:aK)(n:Nat)(nt:Int):Bool:=
 if decide (q.kind=1) then decide ((q.fn.es.length:Int)=0)&&qR k there q.body n nt
 else if decide (q.kind=2) then decide (0<(n:Int))&&cR q.fn.es 2&&qR k there q.body n nt
 else if decide (q.kind=3) then qR k there q.body n nt&&qR k there q.index n nt
 else false
def mJ(k:aF)(there:List Bool)(q:aK)(i:Nat):Bool:=
 !aKo k q&&(match k.values.es[q.value.toNat]? with
  |none=>false
  |some t => !aKp k.values.es q t && !(nI there q.value&&aQJ k q i) && !(if decide (q.kind=3) then aCl k there q t else aGE q) &&
   eqL eU q.space.es (aCm q t)&&aCn k there q (aCm q t).length (if nI there q.value then q.value else -1))
end
section
def Y9(k:aF):List Bool:=List.replicate k.inputs.toNat true++List.replicate (k.values.es.length-k.inputs.toNat) false
def aIx(th:List Bool)(q:aK):List Bool:=th.set q.value.toNat true
def xN(th:List Bool)(d:List aK):List Bool:=d.foldl aIx th
def YK(k:aF):List Bool->List aK->Nat->Option Nat
 |_,[],_=>none
 |th,q::r,i=>if mJ k th q i then YK k (aIx th q) r (i+1) else some i
def E7(k:aF)(th:List Bool)(v:Int):Bool:=decide (v<0)||decide ((k.values.es.length:Int)<=v) || !nI th v
def zA(k:aF)(th:List Bool):Bool:=
 decide ((k.results.es.length:Int)<1)||decide (8<(k.results.es.length:Int))||k.results.es.any (E7 k th)
def wP(k:aF):Int×Int:=
 if vC k then
  (match YK k (Y9 k) k.list.es 0 with
  |some i=>(i,22)
  |none=>if zA k (xN (Y9 k) k.list.es) then (k.list.es.length,22) else (k.list.es.length,0))
 else (-1,22)
theorem nX{h:Hp}{d:Nat}{a b b':AV}{keys:List Nat}(hb:Tev.snap (d+1) h b=some (b',keys))(ha:a.tree=true):mapS (Tev.snap (d+1) h) [b,a]=some ([b',a],keys):=by rw[bG,hb,bG,fR,if_pos ha,eN];simp
theorem JA{k:aF}{th:List Bool}{q:aK}{i:Nat}(h:mJ k th q i=true):k.inputs<=q.value/\q.value<k.values.es.length/\0<=q.check:=by simp only[mJ,aKo,aD,fY,Bool.or_eq_false_iff,nH]at h;omega
section
variable{pg:Pg}
theorem c46(hf:pg.fs 46=some aBa)(k:aF)(nl cl:Bool)(there:List Bool)(hth:there.length=k.values.es.length)(m v:Int) :
  Ret pg 46 [.int .i64 v,.fp (.agg k.cells),.fp (.fp (.agg (aKN k nl cl there m)))] (.bool (E7 k there v)):=by
 have h0:decide (v<0)=false->(0<=v)=True:=λh=>eq_true (by simpa using h);obtain⟨b,hb⟩:∃b,decide (v<0)=false->decide ((k.values.es.length:Int)<=v)=false->there[v.toNat]?=some b:=by by_cases hh:v.toNat<there.length;exact⟨_,λ_ _=>cZ hh⟩;exact⟨true,λx y=>by simp at x y;omega⟩
 have hb':decide (v<0)=false->decide ((k.values.es.length:Int)<=v)=false->nI there v=b:=λx y=>by simp[nI,hb x y]
 refine Ret.ofX hf ?_;unfold aBa
 repeat' (first|simp only[aKN,aF.cells, *,go_sem,seval]|refine bW (λ_=>?_) (λ_=>?_)|refine bZ (λ_=>?_) (λ_=>?_)|refine cN ?_)
 all_goals (simp_all [E7])
 all_goals (intro h;omega)
end
end
end Go.Tev
