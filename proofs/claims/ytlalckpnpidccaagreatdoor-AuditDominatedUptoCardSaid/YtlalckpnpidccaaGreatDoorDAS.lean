import Derived.KernelRfl
import Derived.Shelf.Strconv.Itoa3
import Derived.Shelf.LaysM
import Derived.Shelf.LaysC
import Derived.Shelf.Strconv.AtoiAll
import Derived.Shelf.Sort.Plain
import Derived.Shelf.Slices.CompactI
import Derived.Shelf.Slices.In.SortNone
import Derived.Ground.Names2Prog
import Derived.Test.YtlalckpnpidccaaGreatDoorProg
import Derived.Test.YtlalckpnpidccaaGreatDoorDAN
import Derived.Test.YtlalckpnpidccaaGreatDoorDAR
import Derived.Lib.AppendIntMem
set_option linter.all false
section
namespace Go.Proofs
open Go.Shelf
def Tryz.laysM171_ren:Go.Shelf.Ren:=⟨λ|171=>98|243=>148|246=>203|283=>246|284=>247|285=>248|286=>249|129=>260|317=>297|318=>298|319=>299|320=>300|337=>333|338=>334|n=>n,λ|3=>3|9=>9|2=>2|4=>4|171=>277|0=>0|53=>241|37=>152|5=>5|173=>280|212=>319|51=>238|20=>20|213=>320|46=>195|232=>354|233=>355|n=>n,λ|17=>3|18=>4|19=>5|n=>n⟩
theorem aC{α : Type}{x:Option α}{a b : α}(h:x=some a)(k:a=b:=by kernel_rfl):x=some b:=h.trans (congrArg some k)
theorem Tryz.laysM171:Go.Proofs.LaysM.n171 Tryz.prog Tryz.laysM171_ren:={
 mixed:=by kernel_rfl
 f129:=aC Tryz.func260
 f171:=aC Tryz.func98
 f243:=aC Tryz.func148
 f246:=aC Tryz.func203
 f283:=aC Tryz.func246
 f284:=aC Tryz.func247
 f285:=aC Tryz.func248
 f286:=aC Tryz.func249
 f317:=aC Tryz.func297
 f318:=aC Tryz.func298
 f319:=aC Tryz.func299
 f320:=aC Tryz.func300
 f337:=aC Tryz.func333
 f338:=aC Tryz.func334
 t0:=Tryz.underlying0
 a0:=Tryz.isAgg0
 z0:=Tryz.sizeOf0
 v0:=Tryz.zeroValue0
 t2:=Tryz.underlying2
 a2:=Tryz.isAgg2
 z2:=Tryz.sizeOf2
 v2:=Tryz.zeroValue2
 t3:=Tryz.underlying3
 a3:=Tryz.isAgg3
 z3:=Tryz.sizeOf3
 v3:=Tryz.zeroValue3
 t4:=Tryz.underlying4
 a4:=Tryz.isAgg4
 z4:=Tryz.sizeOf4
 v4:=Tryz.zeroValue4
 t5:=Tryz.underlying5
 a5:=Tryz.isAgg5
 z5:=Tryz.sizeOf5
 v5:=Tryz.zeroValue5
 t9:=Tryz.underlying9
 a9:=Tryz.isAgg9
 z9:=Tryz.sizeOf9
 v9:=Tryz.zeroValue9
 t20:=Tryz.underlying20
 a20:=Tryz.isAgg20
 z20:=Tryz.sizeOf20
 v20:=Tryz.zeroValue20
 t37:=Tryz.underlying152
 a37:=Tryz.isAgg152
 z37:=Tryz.sizeOf152
 v37:=Tryz.zeroValue152
 t46:=Tryz.underlying195
 a46:=Tryz.isAgg195
 z46:=Tryz.sizeOf195
 v46:=Tryz.zeroValue195
 t51:=Tryz.underlying238
 a51:=Tryz.isAgg238
 z51:=Tryz.sizeOf238
 v51:=Tryz.zeroValue238
 t53:=Tryz.underlying241
 a53:=Tryz.isAgg241
 z53:=Tryz.sizeOf241
 v53:=Tryz.zeroValue241
 t171:=Tryz.underlying277
 a171:=Tryz.isAgg277
 z171:=Tryz.sizeOf277
 v171:=Tryz.zeroValue277
 t173:=Tryz.underlying280
 a173:=Tryz.isAgg280
 z173:=Tryz.sizeOf280
 v173:=Tryz.zeroValue280
 t212:=Tryz.underlying319
 a212:=Tryz.isAgg319
 z212:=Tryz.sizeOf319
 v212:=Tryz.zeroValue319
 t213:=Tryz.underlying320
 a213:=Tryz.isAgg320
 z213:=Tryz.sizeOf320
 t232:=Tryz.underlying354
 a232:=Tryz.isAgg354
 z232:=Tryz.sizeOf354
 v232:=Tryz.zeroValue354
 t233:=Tryz.underlying355
 a233:=Tryz.isAgg355
 z233:=Tryz.sizeOf355
 v233:=Tryz.zeroValue355
 g17:=by kernel_rfl
 g18:=by kernel_rfl
 g19:=by kernel_rfl
 i0:=by kernel_rfl
 i2:=by kernel_rfl
 i3:=by kernel_rfl
 i4:=by kernel_rfl
 i5:=by kernel_rfl
 i9:=by kernel_rfl
 i20:=by kernel_rfl
 i37:=by kernel_rfl
 i46:=by kernel_rfl
 i51:=by kernel_rfl
 i53:=by kernel_rfl
 i171:=by kernel_rfl
 i173:=by kernel_rfl
 i212:=by kernel_rfl
 i232:=by kernel_rfl
 i233:=by kernel_rfl
 m17:=by kernel_rfl
 m18:=by kernel_rfl
 m19:=by kernel_rfl}
def Tryz.laysC172_ren:Go.Shelf.Ren:=⟨λ|172=>97|244=>146|245=>147|247=>198|279=>199|280=>200|281=>201|282=>202|287=>243|316=>244|171=>98|205=>245|321=>295|322=>296|243=>148|246=>203|283=>246|284=>247|285=>248|286=>249|129=>260|317=>297|318=>298|319=>299|320=>300|337=>333|338=>334|n=>n,λ|9=>9|3=>3|75=>149|76=>150|4=>4|5=>5|167=>228|37=>152|0=>0|85=>229|2=>2|168=>231|53=>241|175=>271|46=>195|210=>275|127=>194|145=>317|143=>315|21=>21|171=>277|173=>280|212=>319|51=>238|20=>20|213=>320|232=>354|233=>355|80=>158|n=>n,λ|15=>0|16=>1|17=>3|18=>4|19=>5|n=>n⟩
theorem Tryz.laysC172:Go.Proofs.LaysC.n172 Tryz.prog Tryz.laysC172_ren:={
 mixed:=by kernel_rfl
 f129:=aC Tryz.func260
 f171:=aC Tryz.func98
 f172:=aC Tryz.func97
 f205:=aC Tryz.func245
 f243:=aC Tryz.func148
 f244:=aC Tryz.func146
 f245:=aC Tryz.func147
 f246:=aC Tryz.func203
 f247:=aC Tryz.func198
 f279:=aC Tryz.func199
 f280:=aC Tryz.func200
 f281:=aC Tryz.func201
 f282:=aC Tryz.func202
 f283:=aC Tryz.func246
 f284:=aC Tryz.func247
 f285:=aC Tryz.func248
 f286:=aC Tryz.func249
 f287:=aC Tryz.func243
 f316:=aC Tryz.func244
 f317:=aC Tryz.func297
 f318:=aC Tryz.func298
 f319:=aC Tryz.func299
 f320:=aC Tryz.func300
 f321:=aC Tryz.func295
 f322:=aC Tryz.func296
 f337:=aC Tryz.func333
 f338:=aC Tryz.func334
 t0:=Tryz.underlying0
 a0:=Tryz.isAgg0
 z0:=Tryz.sizeOf0
 v0:=Tryz.zeroValue0
 t2:=Tryz.underlying2
 a2:=Tryz.isAgg2
 z2:=Tryz.sizeOf2
 v2:=Tryz.zeroValue2
 t3:=Tryz.underlying3
 a3:=Tryz.isAgg3
 z3:=Tryz.sizeOf3
 v3:=Tryz.zeroValue3
 t4:=Tryz.underlying4
 a4:=Tryz.isAgg4
 z4:=Tryz.sizeOf4
 v4:=Tryz.zeroValue4
 t5:=Tryz.underlying5
 a5:=Tryz.isAgg5
 z5:=Tryz.sizeOf5
 v5:=Tryz.zeroValue5
 t9:=Tryz.underlying9
 a9:=Tryz.isAgg9
 z9:=Tryz.sizeOf9
 v9:=Tryz.zeroValue9
 t20:=Tryz.underlying20
 a20:=Tryz.isAgg20
 z20:=Tryz.sizeOf20
 v20:=Tryz.zeroValue20
 t21:=Tryz.underlying21
 a21:=Tryz.isAgg21
 z21:=Tryz.sizeOf21
 v21:=Tryz.zeroValue21
 t37:=Tryz.underlying152
 a37:=Tryz.isAgg152
 z37:=Tryz.sizeOf152
 v37:=Tryz.zeroValue152
 t46:=Tryz.underlying195
 a46:=Tryz.isAgg195
 z46:=Tryz.sizeOf195
 v46:=Tryz.zeroValue195
 t51:=Tryz.underlying238
 a51:=Tryz.isAgg238
 z51:=Tryz.sizeOf238
 v51:=Tryz.zeroValue238
 t53:=Tryz.underlying241
 a53:=Tryz.isAgg241
 z53:=Tryz.sizeOf241
 v53:=Tryz.zeroValue241
 t75:=Tryz.underlying149
 a75:=Tryz.isAgg149
 z75:=Tryz.sizeOf149
 v75:=Tryz.zeroValue149
 t76:=Tryz.underlying150
 a76:=Tryz.isAgg150
 z76:=Tryz.sizeOf150
 v76:=Tryz.zeroValue150
 t85:=Tryz.underlying229
 a85:=Tryz.isAgg229
 z85:=Tryz.sizeOf229
 v85:=Tryz.zeroValue229
 t127:=Tryz.underlying194
 a127:=Tryz.isAgg194
 z127:=Tryz.sizeOf194
 v127:=Tryz.zeroValue194
 t143:=Tryz.underlying315
 a143:=Tryz.isAgg315
 z143:=Tryz.sizeOf315
 v143:=Tryz.zeroValue315
 t145:=Tryz.underlying317
 a145:=Tryz.isAgg317
 z145:=Tryz.sizeOf317
 v145:=Tryz.zeroValue317
 t167:=Tryz.underlying228
 a167:=Tryz.isAgg228
 z167:=Tryz.sizeOf228
 v167:=Tryz.zeroValue228
 t168:=Tryz.underlying231
 a168:=Tryz.isAgg231
 z168:=Tryz.sizeOf231
 v168:=Tryz.zeroValue231
 t171:=Tryz.underlying277
 a171:=Tryz.isAgg277
 z171:=Tryz.sizeOf277
 v171:=Tryz.zeroValue277
 t173:=Tryz.underlying280
 a173:=Tryz.isAgg280
 z173:=Tryz.sizeOf280
 v173:=Tryz.zeroValue280
 t175:=Tryz.underlying271
 a175:=Tryz.isAgg271
 z175:=Tryz.sizeOf271
 v175:=Tryz.zeroValue271
 t210:=Tryz.underlying275
 a210:=Tryz.isAgg275
 z210:=Tryz.sizeOf275
 v210:=Tryz.zeroValue275
 t212:=Tryz.underlying319
 a212:=Tryz.isAgg319
 z212:=Tryz.sizeOf319
 v212:=Tryz.zeroValue319
 t213:=Tryz.underlying320
 a213:=Tryz.isAgg320
 z213:=Tryz.sizeOf320
 t232:=Tryz.underlying354
 a232:=Tryz.isAgg354
 z232:=Tryz.sizeOf354
 v232:=Tryz.zeroValue354
 t233:=Tryz.underlying355
 a233:=Tryz.isAgg355
 z233:=Tryz.sizeOf355
 v233:=Tryz.zeroValue355
 g15:=by kernel_rfl
 g16:=by kernel_rfl
 g17:=by kernel_rfl
 g18:=by kernel_rfl
 g19:=by kernel_rfl
 t80:=Tryz.underlying158
 a80:=Tryz.isAgg158
 z80:=Tryz.sizeOf158
 v80:=Tryz.zeroValue158
 i0:=by kernel_rfl
 i2:=by kernel_rfl
 i3:=by kernel_rfl
 i4:=by kernel_rfl
 i5:=by kernel_rfl
 i9:=by kernel_rfl
 i20:=by kernel_rfl
 i21:=by kernel_rfl
 i37:=by kernel_rfl
 i46:=by kernel_rfl
 i51:=by kernel_rfl
 i53:=by kernel_rfl
 i75:=by kernel_rfl
 i76:=by kernel_rfl
 i80:=by kernel_rfl
 i85:=by kernel_rfl
 i127:=by kernel_rfl
 i143:=by kernel_rfl
 i145:=by kernel_rfl
 i167:=by kernel_rfl
 i168:=by kernel_rfl
 i171:=by kernel_rfl
 i173:=by kernel_rfl
 i175:=by kernel_rfl
 i210:=by kernel_rfl
 i212:=by kernel_rfl
 i232:=by kernel_rfl
 i233:=by kernel_rfl
 m15:=by kernel_rfl
 m16:=by kernel_rfl
 m17:=by kernel_rfl
 m18:=by kernel_rfl
 m19:=by kernel_rfl
 c0:=by kernel_rfl
 c2:=by kernel_rfl
 c3:=by kernel_rfl
 c4:=by kernel_rfl
 c5:=by kernel_rfl
 c9:=by kernel_rfl
 c20:=by kernel_rfl
 c21:=by kernel_rfl
 c37:=by kernel_rfl
 c46:=by kernel_rfl
 c51:=by kernel_rfl
 c53:=by kernel_rfl
 c75:=by kernel_rfl
 c76:=by kernel_rfl
 c80:=by kernel_rfl
 c85:=by kernel_rfl
 c127:=by kernel_rfl
 c143:=by kernel_rfl
 c145:=by kernel_rfl
 c167:=by kernel_rfl
 c168:=by kernel_rfl
 c171:=by kernel_rfl
 c173:=by kernel_rfl
 c175:=by kernel_rfl
 c210:=by kernel_rfl
 c212:=by kernel_rfl
 c213:=by kernel_rfl
 c232:=by kernel_rfl
 c233:=by kernel_rfl}
def Tryz.lays189_ren:Go.Shelf.Ren:=⟨λ|189=>156|125=>210|257=>209|128=>259|129=>260|294=>250|295=>251|296=>252|297=>253|298=>254|299=>255|216=>256|300=>257|301=>258|328=>301|329=>302|330=>303|331=>304|332=>305|215=>306|343=>335|n=>n,λ|28=>40|3=>3|46=>195|0=>0|51=>238|53=>241|4=>4|183=>284|182=>283|131=>139|5=>5|9=>9|218=>321|222=>325|228=>346|229=>347|n=>n,λ|n=>n⟩
theorem Tryz.lays189:Go.Proofs.Lays.n189 Tryz.prog Tryz.lays189_ren:={
 mixed:=by kernel_rfl
 f125:=aC Tryz.func210
 f128:=aC Tryz.func259
 f129:=aC Tryz.func260
 f189:=aC Tryz.func156
 f215:=aC Tryz.func306
 f216:=aC Tryz.func256
 f257:=aC Tryz.func209
 f294:=aC Tryz.func250
 f295:=aC Tryz.func251
 f296:=aC Tryz.func252
 f297:=aC Tryz.func253
 f298:=aC Tryz.func254
 f299:=aC Tryz.func255
 f300:=aC Tryz.func257
 f301:=aC Tryz.func258
 f328:=aC Tryz.func301
 f329:=aC Tryz.func302
 f330:=aC Tryz.func303
 f331:=aC Tryz.func304
 f332:=aC Tryz.func305
 f343:=aC Tryz.func335
 t0:=Tryz.underlying0
 a0:=Tryz.isAgg0
 z0:=Tryz.sizeOf0
 v0:=Tryz.zeroValue0
 t3:=Tryz.underlying3
 a3:=Tryz.isAgg3
 z3:=Tryz.sizeOf3
 v3:=Tryz.zeroValue3
 t4:=Tryz.underlying4
 a4:=Tryz.isAgg4
 z4:=Tryz.sizeOf4
 v4:=Tryz.zeroValue4
 t5:=Tryz.underlying5
 a5:=Tryz.isAgg5
 z5:=Tryz.sizeOf5
 v5:=Tryz.zeroValue5
 t9:=Tryz.underlying9
 a9:=Tryz.isAgg9
 z9:=Tryz.sizeOf9
 v9:=Tryz.zeroValue9
 t28:=Tryz.underlying40
 a28:=Tryz.isAgg40
 z28:=Tryz.sizeOf40
 v28:=Tryz.zeroValue40
 t46:=Tryz.underlying195
 a46:=Tryz.isAgg195
 z46:=Tryz.sizeOf195
 v46:=Tryz.zeroValue195
 t51:=Tryz.underlying238
 a51:=Tryz.isAgg238
 z51:=Tryz.sizeOf238
 v51:=Tryz.zeroValue238
 t53:=Tryz.underlying241
 a53:=Tryz.isAgg241
 z53:=Tryz.sizeOf241
 v53:=Tryz.zeroValue241
 t131:=Tryz.underlying139
 a131:=Tryz.isAgg139
 z131:=Tryz.sizeOf139
 v131:=Tryz.zeroValue139
 t182:=Tryz.underlying283
 a182:=Tryz.isAgg283
 z182:=Tryz.sizeOf283
 v182:=Tryz.zeroValue283
 t183:=Tryz.underlying284
 a183:=Tryz.isAgg284
 z183:=Tryz.sizeOf284
 v183:=Tryz.zeroValue284
 t218:=Tryz.underlying321
 a218:=Tryz.isAgg321
 z218:=Tryz.sizeOf321
 v218:=Tryz.zeroValue321
 t222:=Tryz.underlying325
 a222:=Tryz.isAgg325
 z222:=Tryz.sizeOf325
 v222:=Tryz.zeroValue325
 t228:=Tryz.underlying346
 a228:=Tryz.isAgg346
 z228:=Tryz.sizeOf346
 v228:=Tryz.zeroValue346
 t229:=Tryz.underlying347
 a229:=Tryz.isAgg347
 z229:=Tryz.sizeOf347
 v229:=Tryz.zeroValue347}
def Tryz.laysNm220_ren:Go.Shelf.Ren:=⟨λ|20=>157|n=>n,λ|22=>40|3=>3|4=>4|0=>0|n=>n,λ|n=>n⟩
theorem Tryz.laysNm220:Go.Proofs.Lays2.n20 Tryz.prog Tryz.laysNm220_ren:={
 mixed:=by kernel_rfl
 f20:=aC Tryz.func157
 t0:=Tryz.underlying0
 a0:=Tryz.isAgg0
 z0:=Tryz.sizeOf0
 v0:=Tryz.zeroValue0
 t3:=Tryz.underlying3
 a3:=Tryz.isAgg3
 z3:=Tryz.sizeOf3
 v3:=Tryz.zeroValue3
 t4:=Tryz.underlying4
 a4:=Tryz.isAgg4
 z4:=Tryz.sizeOf4
 v4:=Tryz.zeroValue4
 t22:=Tryz.underlying40
 a22:=Tryz.isAgg40
 z22:=Tryz.sizeOf40
 v22:=Tryz.zeroValue40
 i3:=by kernel_rfl}
open Go.RowKit Go.Sort Go.Lib in
theorem Tryz.strconv_Itoa(n:Int)(h0 : -9223372036854775808<=n)(h1:n<=9223372036854775807)(w:World){T:TypeId}{fr:Nat×Nat}(ht:w.heap[3]?=some (.cells (Lib.pow10Tab.map λz=>Value.int .u64 z).toArray T fr)) :
  Calls Tryz.prog 98 #[.int .i64 n] w λe w'=>e = .returned (.string ⟨(Lib.itoa n).toArray⟩)/\∃k os,w'=grow (w.drewN k) os:=by
 refine Any.strconv_Itoa Tryz.laysM171 n h0 h1 w ?_;unfold Lib.TabIs World.var?;rw[show Tryz.prog.globalNamed _=some 3 by kernel_rfl,Option.bind_some,ht]
open Go.RowKit in
theorem Tryz.strconv_Atoi_ok(s:ByteArray)(hmax:s.size<=9223372036854775806)(v:Int)(h:Lib.atoiAll s.data.toList = .ok v)(w:World) :
  Calls Tryz.prog 97 #[.string s] w λe w'=>e = .returned (.tuple #[.int .i64 v,.nilIface])/\(w'=w\/∃t,w'=Lib.bytesWorld w 5 t):=Any.strconv_Atoi_ok Tryz.laysC172 s hmax v h w
open Go.RowKit in
theorem Tryz.strconv_Atoi_bad(s:ByteArray)(hlim:s.size<=281474976710656)(h1:∀v,Lib.atoiAll s.data.toList ≠ .ok v)(h2:Lib.atoiAll s.data.toList ≠ .range)(ev:Value)(w:World)(hv:w.cell? ⟨0,0,none⟩=some ev)(hev:ev = .nilIface\/∃te pe,ev = .iface te pe) :
  Calls Tryz.prog 97 #[.string s] w λe w'=>∃N,e = .returned (.tuple #[.int .i64 (0),.iface 231 (.pointer (some ⟨N,0,none⟩))])/\w.heap.size<=N/\w'.heap[N]?=some (.cells #[.string ⟨#[65,116,111,105]⟩,.string s,ev] 275 (0,0))/\Below w.heap.size w w':=by
 cases h:Lib.atoiAll s.data.toList
 case ok v=>exact absurd h (h1 v)
 case range=>exact absurd h h2
 exact Any.strconv_Atoi_syntax Tryz.laysC172 s hlim h ev w hv hev
open Go.RowKit in
theorem Tryz.strconv_Atoi_range(s:ByteArray)(hlim:s.size<=281474976710656)(h:Lib.atoiAll s.data.toList = .range)(ev:Value)(w:World)(hv:w.cell? ⟨1,0,none⟩=some ev)(hev:ev = .nilIface\/∃te pe,ev = .iface te pe) :
  Calls Tryz.prog 97 #[.string s] w λe w'=>∃N,e = .returned (.tuple #[.int .i64 (Lib.atoiSat s.data.toList),.iface 231 (.pointer (some ⟨N,0,none⟩))])/\w.heap.size<=N/\w'.heap[N]?=some (.cells #[.string ⟨#[65,116,111,105]⟩,.string s,ev] 275 (0,0))/\Below w.heap.size w w':=Any.strconv_Atoi_range Tryz.laysC172 s hlim h ev w hv hev
open Go.Sort Go.RowKit in
theorem Tryz.slices_Sort_int(blk off cap:Nat)(zs:List Int)(w:World)(hH:Holds (Value.int .i64) w blk off zs.toArray)(hblk:blk<w.heap.size)(hsz:zs.length<4611686018427387904) :
  Calls Tryz.prog 156 #[.slice (some ⟨blk,off,none⟩) zs.length cap] w λe w'=>
   e = .returned (.tuple #[])/\∃n os,w'=grow (putRow (Value.int .i64) (Sort.ahead w n) blk off (zs.mergeSort λx y=>decide (x<=y)).toArray) os:=Any.slices_Sort_int Tryz.lays189 blk off cap zs w hH hblk hsz
open Go.RowKit Go.Lib Go.Sort in
theorem Tryz.slices_Compact_int(blk off cap:Nat)(zs:List Int)(w:World)(hH:Holds (Value.int .i64) w blk off zs.toArray)(hsz:zs.length<=9223372036854775807)(hcap:zs.length<=cap) :
  Calls Tryz.prog 157 #[.slice (some ⟨blk,off,none⟩) zs.length cap] w λe w'=>e = .returned (.slice (some ⟨blk,off,none⟩) (Lib.compact zs).length cap)/\∃q,w'=putRow (Value.int .i64) (Sort.ahead w q) blk off (Lib.compact zs++List.replicate (zs.length-(Lib.compact zs).length) 0).toArray:=Any.slices_Compact_int Tryz.laysNm220 blk off cap zs w hH hsz hcap
open Go.RowKit Go.Lib Go.Sort in
theorem Tryz.slices_Compact_int_empty(a:Option Addr)(cap:Nat)(w:World) :
  Calls Tryz.prog 157 #[.slice a 0 cap] w λe w'=>e = .returned (.slice a 0 cap)/\w'=w:=Any.slices_Compact_int_empty Tryz.laysNm220 a cap w
open Go.RowKit Go.Sort in
theorem Tryz.slices_Sort_int_none(p:Option Addr)(cap:Nat)(w:World) :
  Calls Tryz.prog 156 #[.slice p 0 cap] w λe w'=>e = .returned (.tuple #[])/\w'=w:=Any.slices_Sort_int_none Tryz.lays189 p cap w
end Go.Proofs
end
section
set_option maxRecDepth 100000
namespace Go.Proofs
open Go.Tev
def exB(f:Nat):Option (List AV->Nat->Hp->Option (AV×Hp)):=
 bif f.beq 92 then some kL else bif f.beq 93 then some mB else bif f.beq 75 then some rE else bif f.beq 76 then some rF else bif f.beq 522 then some jC else none
def glS(g:Nat):Option AV:=
 bif g.beq 0 then some (.ifc .top) else bif g.beq 1 then some (.ifc .top) else bif g.beq 3 then some (.agg (Lib.pow10Tab.map λn => .int .u64 n)) else none
def pgS:Pg:=⟨λf=>tab.find f,glS,exB⟩
def nm:Nm:=aEu Tryz.prog num gnum
theorem n75:nm.f 75=156:=by kernel_rfl
theorem n76:nm.f 76=157:=by kernel_rfl
theorem n92:nm.f 92=97:=by kernel_rfl
theorem n93:nm.f 93=98:=by kernel_rfl
theorem aEM:sI Tryz.prog (nm.f 75):=by rw[n75];exact⟨Tryz.f156,Tryz.func156,by kernel_rfl,of_decide_eq_true (by kernel_rfl)⟩
theorem aEL:sI Tryz.prog (nm.f 76):=by rw[n76];exact⟨Tryz.f157,Tryz.func157,by kernel_rfl,of_decide_eq_true (by kernel_rfl)⟩
theorem aEK:sI Tryz.prog (nm.f 92):=by rw[n92];exact⟨Tryz.f97,Tryz.func97,by kernel_rfl,of_decide_eq_true (by kernel_rfl)⟩
theorem aEJ:sI Tryz.prog (nm.f 93):=by rw[n93];exact⟨Tryz.f98,Tryz.func98,by kernel_rfl,of_decide_eq_true (by kernel_rfl)⟩
theorem Y9:dY Tryz.prog nm glS gnum ⟨λf' avs kb h=>if f'=93 then mB avs kb h else none,λ_ _ _ _=>none⟩:=by refine UW aEJ 3 rfl ?_;intro n h0 h1 w hw;obtain⟨T,fr,ht⟩:=hw;have ht':w.heap[3]?=some (.cells (Lib.pow10Tab.map λz=>Value.int .u64 z).toArray T fr):=ht;rw[n93];refine(Tryz.strconv_Itoa n (by omega) h1 w ht').mono ?_;rintro e w' ⟨rfl,k,os,rfl⟩;exact⟨rfl,Lib.below_grow _ w (Nat.le_refl _) k os⟩
theorem FN(s:List UInt8):((⟨s.toArray⟩:ByteArray).data.toList)=s:=by simp
theorem SY(s:List UInt8):(⟨s.toArray⟩:ByteArray).size=s.length:=by simp[ByteArray.size]
theorem aAS:dY Tryz.prog nm glS gnum ⟨λf' avs kb h=>if f'=92 then kL avs kb h else none,λ_ _ _ _=>none⟩:=by
 refine V6 aEK 0 1 rfl rfl ?_ ?_ ?_;intro s hs v hv w;rw[n92];refine(Tryz.strconv_Atoi_ok ⟨s.toArray⟩ (by rw[SY];omega) v (by rw[FN];exact hv) w).mono ?_;rintro e w' ⟨rfl,hw⟩;refine⟨rfl,?_⟩;rcases hw with rfl|⟨t,rfl⟩
 exact RowKit.Below.refl _ _;exact Lib.bytesWorld_below _ _ _;intro s hs hv1 hv2 w te pe hc;rw[n92];refine(Tryz.strconv_Atoi_bad ⟨s.toArray⟩ (by rw[SY];omega) (by rw[FN];exact hv1) (by rw[FN];exact hv2) _ w hc (.inr ⟨te,pe,rfl⟩)).mono ?_;rintro e w' ⟨N,rfl,_,_,hb⟩;exact⟨_,_,rfl,hb⟩;intro s hs hv w te pe hc;rw[n92];refine(Tryz.strconv_Atoi_range ⟨s.toArray⟩ (by rw[SY];omega) (by rw[FN];exact hv) _ w hc (.inr ⟨te,pe,rfl⟩)).mono ?_;rintro e w' ⟨N,rfl,_,_,hb⟩;rw[FN];exact⟨_,_,rfl,hb⟩
theorem X1:dY Tryz.prog nm glS gnum ⟨λf' avs kb h=>if f'=75 then rE avs kb h else none,λ_ _ _ _=>none⟩:=by refine S2 aEM ?_ ?_;intro blk off cap zs w hH hb hz;rw[n75];refine(Tryz.slices_Sort_int blk off cap zs w hH hb (by omega)).mono ?_;rintro e w' ⟨rfl,n,os,rfl⟩;exact⟨rfl,n,os,by rw[FP]⟩;intro p cap w;rw[n75];exact Tryz.slices_Sort_int_none p cap w
theorem Z1:dY Tryz.prog nm glS gnum ⟨λf' avs kb h=>if f'=76 then rF avs kb h else none,λ_ _ _ _=>none⟩:=by refine VC aEL ?_ ?_;intro blk off cap zs w hH hz hc;rw[n76];refine(Tryz.slices_Compact_int blk off cap zs w hH (by omega) hc).mono ?_;rintro e w' ⟨rfl,q,rfl⟩;rw[BW];exact⟨rfl,q,rfl⟩;intro p cap w;rw[n76];exact Tryz.slices_Compact_int_empty p cap w
theorem UN:nm.f 522=62:=by kernel_rfl
theorem ZH:sI Tryz.prog (nm.f 522):=by rw[UN];exact⟨Tryz.f62,Tryz.func62,by kernel_rfl,of_decide_eq_true (by kernel_rfl)⟩
theorem Y8:dY Tryz.prog nm glS gnum ⟨λf' avs kb h=>if f'=522 then jC avs kb h else none,λ_ _ _ _=>none⟩:=by refine UU 522 ZH ?_ ?_;intro a c sep w;rw[UN];exact Any.strings_Join_none Tryz.lays156 Tryz.joinX a c sep w;intro bk o c xs sep w h1 h2 h3 h4 h5;rw[UN];exact Any.strings_Join Tryz.lays156 Tryz.joinX bk o c xs sep w h1 h2 h3 h4 h5
theorem exS:∀f g,exB f=some g->dY Tryz.prog nm glS gnum ⟨λf' avs kb h=>if f'=f then g avs kb h else none,λ_ _ _ _=>none⟩:=by
 intro f g h;unfold exB at h;cases h1:f.beq 92 with
 |true=>rw[h1]at h;cases h;obtain rfl:=Nat.eq_of_beq_eq_true h1;exact aAS
 |false=>
  cases h2:f.beq 93 with
  |true=>rw[h1,h2]at h;cases h;obtain rfl:=Nat.eq_of_beq_eq_true h2;exact Y9
  |false=>
   cases h3:f.beq 75 with
   |true=>rw[h1,h2,h3]at h;cases h;obtain rfl:=Nat.eq_of_beq_eq_true h3;exact X1
   |false=>
    cases h4:f.beq 76 with
    |true=>rw[h1,h2,h3,h4]at h;cases h;obtain rfl:=Nat.eq_of_beq_eq_true h4;exact Z1
    |false=>
     cases h5:f.beq 522 with
     |true=>rw[h1,h2,h3,h4,h5]at h;cases h;obtain rfl:=Nat.eq_of_beq_eq_true h5;exact Y8
     |false=>rw[h1,h2,h3,h4,h5]at h;cases h
theorem fitS:JS Tryz.prog nm gnum pgS:=fitP_of fits exS (λ_ _ _ _=>Iff.rfl)
end Go.Proofs
end
namespace Go.Tev
section
def ZA(op:List UInt8):Bool:=decide (op=[108,116])||decide (op=[108,101])||decide (op=[103,116])||decide (op=[103,101])||decide (op=[101,113])||decide (op=[110,101])
def aBb:List Bool->Bool
 |[_,b,c]=>b&&c
 |_=>false
def HB(op:List UInt8)(kids:List Bool):Bool:=
 if ZA op then decide ((kids.length:Int)=2)
 else if decide (op=[115,101,108,101,99,116]) then aBb kids
 else match F2 op with
  |none=>false
  |some p=>decide (p.result=[98,111,111,108])&&decide ((p.params.length:Int)=(kids.length:Int)) && !kids.any (λb=>b==false)
theorem yB(l:List Bool):Tev.treeL (l.map AV.bool)=true:=aQ (f:=AV.bool) (λ_=>rfl) l
theorem AO(l:List (List UInt8)):Tev.treeL (l.map AV.str)=true:=aQ (f:=AV.str) (λ_=>rfl) l
attribute [go_sem] yB AO
section
variable{pg:Pg}
def KN(op:List UInt8):Bool:=decide (op=[99,111,110,115,116])||decide (op=[116,114,117,116,104])
def X8(l:List Bool)(a:Int):Bool:=decide (0<=a)&&(decide (a<(l.length:Int))&&(l[a.toNat]?).getD false)
def X0(l:List Bool)(s:bF):Bool:=if KN s.op.bs then decide (s.num=0)||decide (s.num=1) else HB s.op.bs (s.args.es.map (X8 l))
def CG(l:List Bool):List bF->List Bool
 |[]=>l
 |s::r=>CG (l++[X0 l s]) r
def u6(code:List bF)(args:List Bool):Bool:=(CG args code).getLast?.getD false
def x6(h:Hp)(ks:List Nat)(v:AV)(es:List Bool):Prop:=∃k∈ks,Own h k 1 false v (es.map AV.bool)
theorem x6.mono{h h':Hp}{ks:List Nat}{v:AV}{es:List Bool}(o:x6 h ks v es)(hh:∀k∈ks,h'.get k=h.get k):x6 h' ks v es:=by obtain⟨k,hk,o⟩:=o;exact⟨k,hk,o.mono (hh k hk)⟩
theorem lF:∀(l:List Bool),bG 1 false (l.map AV.bool)=some (l.map AV.bool)
 |[]=>rfl
 |x::r=>by have ih:=lF r;rw[List.map_cons,bG,ih];rfl
theorem x6.at{h:Hp}{ks:List Nat}{v:AV}{es:List Bool}(o:x6 h ks v es){n:Int}(h0:0<=n)(h1:n<es.length):∃k e,v = .rf k e 0 es.length es.length/\h.get k=some (e,.blk (es.map AV.bool) 1 false false false)/\k∈ks:=by
 obtain⟨k,hk,⟨he,nl,cl,rfl,hc⟩|⟨e,cs,rfl,hg,hu⟩⟩:=o;have:es=[]:=by simpa using he
 subst this;simp at h1;omega;rw[lF]at hu;cases hu;exact⟨k,e,by simp,hg,hk⟩
theorem x6.len{h:Hp}{ks:List Nat}{v:AV}{es:List Bool}(o:x6 h ks v es)(kb s:Nat)(h':Hp)(Q:AV->Eff->Prop)(t:Tok Q):XO pg kb (.len 1) s h' [v] Q t=Q (.int .i64 es.length) (.pat [] []):=by
 obtain⟨k,hk,⟨he,nl,cl,rfl,hc⟩|⟨e,cs,rfl,hg,hu⟩⟩:=o;have:es=[]:=by simpa using he
 subst this;simp only[go_sem,seval];rw[aE];simp only[go_sem,seval]
theorem x6.flen{h:Hp}{ks:List Nat}{v:AV}{es:List Bool}(o:x6 h ks v es)(h':Hp):oX h' 1 [v]=some (.int .i64 es.length,.pat [] []):=by
 obtain⟨k,hk,⟨he,nl,cl,rfl,hc⟩|⟨e,cs,rfl,hg,hu⟩⟩:=o;have:es=[]:=by simpa using he
 subst this;rfl;rw[aE];rfl
theorem GN{h:Hp}{d:Nat}{a b b':AV}{keys:List Nat}(ha:a.tree=true)(hb:Tev.snap (d+1) h b=some (b',keys)):b7 (Tev.snap (d+1) h) [a,b]=some ([a,b'],keys):=by simp[jG,kH,J2 ha,hb]
end
end
section
def X4(vals:List Typ)(v:Int):Bool:=decide (0<=v)&&(decide (v<(vals.length:Int))&&((vals[v.toNat]?).map λt=>decide (t.elem.bs=[98,111,111,108])).getD false)
def ifT:List Bool->Bool
 |[a,b]=>a&&b
 |_=>false
def aBe(fn:List bF):List Bool->Bool
 |[a,b]=>a&&u6 fn [true,b]
 |_=>false
def SX(vals:List Typ)(op:List UInt8)(num value:Int)(fn:List bF)(kids:List Bool):Bool:=
 if decide (op=[99,111,110,115,116]) then decide (num=0)||decide (num=1)
 else if decide (op=[108,105,110,101,97,114]) then false
 else if decide (op=[114,101,97,100]) then X4 vals value
 else if decide (op=[105,102]) then ifT kids
 else if decide (op=[114,101,100,117,99,101]) then aBe fn kids
 else if decide (op=[99,111,100,101]) then u6 fn kids
 else HB op kids
mutual
def CI(vals:List Typ):aF->Bool
 |.mk op num value _ _ _ _ fn _ kids _=>SX vals op.bs num value fn.es (CH vals kids)
def CH(vals:List Typ):List aF->List Bool
 |[]=>[]
 |p::r=>CI vals p::CH vals r
end
def Z2(k:aB)(nl cl:Bool)(there:List Bool)(m:Int):List AV:=
 [.sl k.vars.nl (k.vars.es.map Str.av) k.vars.cl,.sl k.wher.nl (k.wher.es.map Lin.av) k.wher.cl,.int .i64 k.inputs,.sl k.values.nl (k.values.es.map Typ.av) k.values.cl,.sl k.list.nl (k.list.es.map aI.av) k.list.cl,.sl k.results.nl (k.results.es.map aZ) k.results.cl,
  .sl nl (there.map AV.bool) cl,.int .i64 m]
theorem Own.flen{h:Hp}{k esz:Nat}{ag:Bool}{v:AV}{es:List AV}(o:Own h k esz ag v es)(h':Hp):oX h' 1 [v]=some (.int .i64 es.length,.pat [] []):=by
 rcases o with ⟨rfl,nl,cl,rfl,hc⟩|⟨e,cs,rfl,hg,hu⟩
 rfl;rfl
section
variable{pg:Pg}
end
end
section
def XU:aF:=.mk ⟨[],by decide⟩ 0 0 ⟨[],by decide⟩ ⟨true,[],true,by decide⟩ false 0 ⟨true,[],true,by decide⟩ true [] true
theorem D4{p:aF}{v:Int}(h:vP p v=true):0<=p.value/\p.value<v:=by simp only[vP,aA,bH]at h;exact⟨h.1.1.1.2,h.1.1.2⟩
theorem x9(v:Int):∀p:aF,∀vars,pW v p vars=true->∀a∈g8 p,0<=a/\a<v:=by
 refine aF.ind' λp ih vars h=>?_;rw[DS]at h;simp only[aA]at h;obtain⟨⟨h1,_⟩,h2⟩:=h;have hk:∀(l:List aF),(∀q∈l,q∈p.kids)->∀i red,mJ v red p.name vars i l=true->∀a∈gP l,0<=a/\a<v:=by
  intro l
  induction l with
  |nil=>intro _ i red _ a ha;simp[gP]at ha
  |cons q r ih2=>intro hm i red hv a ha;simp only[mJ,aA]at hv;simp only[gP,fK]at ha;rcases ha with ha|ha;exact ih q (hm q (by simp)) _ hv.1 a ha;exact ih2 (λq hq=>hm q (by simp[hq])) _ red hv.2 a ha
 intro a ha;rw[D3,fK]at ha;rcases ha with ha|ha;split at ha;rename_i ho;simp only[List.mem_singleton]at ha;subst ha;simp only[bH]at ho;have e1:¬(p.op.bs=[99,111,110,115,116]):=by rw[ho];decide
 have e2:¬(p.op.bs=[108,105,110,101,97,114]):=by rw[ho];decide
 have:vT p vars v=vP p v:=by unfold vT;rw[if_neg e1,if_neg e2,if_pos ho]
 rw[this]at h1;exact D4 h1;simp at ha;exact hk p.kids (λq hq=>hq) 0 _ h2 a ha
def iY(there:List Bool)(v:Int):Bool:=(there[v.toNat]?).getD false
section
variable{pg:Pg}
def KJ(i:Nat):Str:=⟨GP i,by simp[GP,big]⟩
def DR(vars:List Str)(n:Nat):List Str:=vars++(List.range n).map KJ
def kT(k:aB)(there:List Bool)(p:aF)(n:Nat)(nt:Int):Bool:=
 FZ p (DR k.vars.es n) k.values.es.length && !(lW p).any (λv => !iY there v||decide (v=nt))
theorem fY{n x:Nat}{d r:List Nat}(h:List.range n=d++x::r):x=d.length/\d.length<n:=by
 have h1:(List.range n)[d.length]?=some x:=by rw[h];simp
 have h2:=congrArg List.length h;simp at h2;rw[List.getElem?_range (by omega)]at h1;cases h1;exact⟨rfl,by omega⟩
end
end
section
def Y6(k:aB)(q:aI):Bool:=decide (q.value<k.inputs)||decide ((k.values.es.length:Int)<=q.value)||decide (q.check<0)
def Y7(vals:List Typ)(q:aI)(t:Typ):Bool:=
 decide (t.elem.bs=[98,111,111,108])&&(!CI vals q.body||(decide (q.kind=2) && !u6 q.fn.es [true,true]))
def aEI(k:aB)(q:aI)(i:Nat):Bool:=
 !decide (q.kind=3) || !decide (q.source=q.value)||decide ((i:Int)=0) ||
  (match k.list.es[((i:Int)-1).toNat]? with | none=>true | some r => !decide (r.value=q.value) || !decide (r.kind=1))
def ON(k:aB)(there:List Bool)(q:aI)(t:Typ):Bool:=
 decide ((t.shape.dims.es.length:Int)=0)||decide (0<(q.fn.es.length:Int))||decide (q.source<0)||decide ((k.values.es.length:Int)<=q.source) || !iY there q.source ||
  (match k.values.es[q.source.toNat]? with|none=>true|some u => !XZ u t)
def UT(q:aI):Bool := !decide (q.source=0) || !decide (q.check=0) || !F0 q.index XU
def OO(q:aI)(t:Typ):List Lin:=if decide (q.kind=3) then t.shape.dims.es.dropLast else t.shape.dims.es
def OP(k:aB)(there:List Bool)(q:aI)(n:Nat)(nt:Int):Bool:=
 if decide (q.kind=1) then decide ((q.fn.es.length:Int)=0)&&kT k there q.body n nt
 else if decide (q.kind=2) then decide (0<(n:Int))&&BX q.fn.es 2&&kT k there q.body n nt
 else if decide (q.kind=3) then kT k there q.body n nt&&kT k there q.index n nt
 else false
def iC(k:aB)(there:List Bool)(q:aI)(i:Nat):Bool:=
 !Y6 k q&&(match k.values.es[q.value.toNat]? with
  |none=>false
  |some t => !Y7 k.values.es q t && !(iY there q.value&&aEI k q i) && !(if decide (q.kind=3) then ON k there q t else UT q) &&
   eqL tJ q.space.es (OO q t)&&OP k there q (OO q t).length (if iY there q.value then q.value else -1))
end
section
def KP(k:aB):List Bool:=List.replicate k.inputs.toNat true++List.replicate (k.values.es.length-k.inputs.toNat) false
def X2(th:List Bool)(q:aI):List Bool:=th.set q.value.toNat true
def pF(th:List Bool)(d:List aI):List Bool:=d.foldl X2 th
def J7(k:aB):List Bool->List aI->Nat->Option Nat
 |_,[],_=>none
 |th,q::r,i=>if iC k th q i then J7 k (X2 th q) r (i+1) else some i
def vO(k:aB)(th:List Bool)(v:Int):Bool:=decide (v<0)||decide ((k.values.es.length:Int)<=v) || !iY th v
def qJ(k:aB)(th:List Bool):Bool:=
 decide ((k.results.es.length:Int)<1)||decide (8<(k.results.es.length:Int))||k.results.es.any (vO k th)
def oV(k:aB):Int×Int:=
 if nQ k then
  (match J7 k (KP k) k.list.es 0 with
  |some i=>(i,22)
  |none=>if qJ k (pF (KP k) k.list.es) then (k.list.es.length,22) else (k.list.es.length,0))
 else (-1,22)
theorem zB{k:aB}{th:List Bool}{q:aI}{i:Nat}(h:iC k th q i=true):k.inputs<=q.value/\q.value<k.values.es.length/\0<=q.check:=by simp only[iC,Y6,aA,c7,Bool.or_eq_false_iff,gO]at h;omega
section
variable{pg:Pg}
theorem c46(hf:pg.fs 46=some MU)(k:aB)(nl cl:Bool)(there:List Bool)(hth:there.length=k.values.es.length)(m v:Int) :
  Ret pg 46 [.int .i64 v,.fp (.agg k.cells),.fp (.fp (.agg (Z2 k nl cl there m)))] (.bool (vO k there v)):=by
 have h0:decide (v<0)=false->(0<=v)=True:=λh=>eq_true (by simpa using h);obtain⟨b,hb⟩:∃b,decide (v<0)=false->decide ((k.values.es.length:Int)<=v)=false->there[v.toNat]?=some b:=by by_cases hh:v.toNat<there.length;exact⟨_,λ_ _=>aY hh⟩;exact⟨true,λx y=>by simp at x y;omega⟩
 have hb':decide (v<0)=false->decide ((k.values.es.length:Int)<=v)=false->iY there v=b:=λx y=>by simp[iY,hb x y]
 refine Ret.ofX hf ?_;unfold MU
 repeat' (first|simp only[Z2,aB.cells, *,go_sem,seval]|refine AK (λ_=>?_) (λ_=>?_)|refine AL (λ_=>?_) (λ_=>?_)|refine dJ ?_)
 all_goals (simp_all [vO])
 all_goals (intro h;omega)
end
end
end Go.Tev
