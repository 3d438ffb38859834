import Derived.Test.YtbgjmioccbacdaaGreatDoorA10
import Derived.Shelf.Strings.Builder1
import Derived.Shelf.Strings.Builder2
import Derived.Shelf.Strings.OnBuilder
import Derived.Shelf.Small.Strs
import Derived.Shelf.Small.Wraps
import Derived.Shelf.Strconv.Itoa0
import Derived.Shelf.Strconv.Itoa1
import Derived.Shelf.LaysM
import Derived.Shelf.Strconv.Itoa2
import Derived.Shelf.Strconv.Itoa3
import Derived.Shelf.Strings.Search1
import Derived.Shelf.Strings.Search2
import Derived.Shelf.Strings.Search3
import Derived.Shelf.Strings.Cut
import Derived.Shelf.Strings.Count
import Derived.Shelf.Strings.Shaped
import Derived.Shelf.Sort.Plain
import Derived.Shelf.Strings.Prefix
import Derived.Shelf.Strings.Split
import Derived.Shelf.Unicode.DecodeSlow
import Derived.Test.YtbgjmioccbacdaaGreatDoorProg
import Derived.Sort.Grow
import Derived.Lib.Split
import Derived.Lib.ItoaNum
import Derived.Lib.Strings
import Derived.Sort.OwnSorted
import Derived.ArgAppend
import Derived.Outline
import Derived.BigQuiet
import Derived.Deep.RegionWith
import Derived.Lib.Walk
import Derived.Laws.RangeString
import Derived.Laws.RangeAny
import Derived.LoopTactic
import Derived.BigGuardPart
set_option linter.all false
namespace Go.Proofs
theorem AvL {α:Type} {o:Option α} {a b:α} (h:o=some a) (e:a=b:=by kernel_rfl):o=some b:=h.trans (congrArg some e)
open Go.Shelf
def Tryz.lays156_ren:Go.Shelf.Ren:=⟨fun | 156=>182 | 165=>230 | 166=>231 | 169=>232 | 240=>260 | 241=>261 | 276=>278 | 277=>279 | n=>n,fun | 31=>28 | 9=>9 | 3=>3 | 4=>4 | 0=>0 | 20=>20 | 72=>258 | 76=>262 | 70=>256 | 37=>114 | 75=>261 | 127=>294 | 164=>304 | 5=>5 | 80=>149 | n=>n,fun | n=>n⟩
def Tryz.lays156:Go.Proofs.Lays.n156 Tryz.prog Tryz.lays156_ren:= {
 mixed:=by kernel_rfl
 f156:=AvL Tryz.func182
 f165:=AvL Tryz.func230
 f166:=AvL Tryz.func231
 f169:=AvL Tryz.func232
 f240:=AvL Tryz.func260
 f241:=AvL Tryz.func261
 f276:=AvL Tryz.func278
 f277:=AvL Tryz.func279
 t0:=Tryz.underlying0
 a0:=Tryz.isAgg0
 z0:=Tryz.sizeOf0
 v0:=Tryz.zeroValue0
 t3:=Tryz.underlying3
 a3:=Tryz.isAgg3
 z3:=Tryz.sizeOf3
 v3:=Tryz.zeroValue3
 t4:=Tryz.underlying4
 a4:=Tryz.isAgg4
 z4:=Tryz.sizeOf4
 v4:=Tryz.zeroValue4
 t9:=Tryz.underlying9
 a9:=Tryz.isAgg9
 z9:=Tryz.sizeOf9
 v9:=Tryz.zeroValue9
 t20:=Tryz.underlying20
 a20:=Tryz.isAgg20
 z20:=Tryz.sizeOf20
 v20:=Tryz.zeroValue20
 t31:=Tryz.underlying28
 a31:=Tryz.isAgg28
 z31:=Tryz.sizeOf28
 v31:=Tryz.zeroValue28
 t37:=Tryz.underlying114
 a37:=Tryz.isAgg114
 z37:=Tryz.sizeOf114
 v37:=Tryz.zeroValue114
 t70:=Tryz.underlying256
 a70:=Tryz.isAgg256
 z70:=Tryz.sizeOf256
 v70:=Tryz.zeroValue256
 t72:=Tryz.underlying258
 a72:=Tryz.isAgg258
 z72:=Tryz.sizeOf258
 v72:=Tryz.zeroValue258
 t75:=Tryz.underlying261
 a75:=Tryz.isAgg261
 z75:=Tryz.sizeOf261
 v75:=Tryz.zeroValue261
 t76:=Tryz.underlying262
 a76:=Tryz.isAgg262
 z76:=Tryz.sizeOf262
 v76:=Tryz.zeroValue262
 t127:=Tryz.underlying294
 a127:=Tryz.isAgg294
 z127:=Tryz.sizeOf294
 v127:=Tryz.zeroValue294
 t164:=Tryz.underlying304
 a164:=Tryz.isAgg304
 z164:=Tryz.sizeOf304
 v164:=Tryz.zeroValue304}
def Tryz.Builder_Extra_156:Builder.Extra Tryz.prog Tryz.lays156_ren:= {
 sizeBuilder:=by kernel_rfl
 liesBuilder:=by kernel_rfl
 t5:=Tryz.underlying5
 a5:=Tryz.isAgg5
 z5:=Tryz.sizeOf5
 v5:=Tryz.zeroValue5
 infoByte:=by kernel_rfl
 cellsByte:=by kernel_rfl
 sizeByte:=by kernel_rfl
 neB5:=by decide}
open Go.RowKit in
def Tryz.strings_Join_none (a:Option Addr) (c:Nat) (sep:ByteArray) (w:World) :
 Calls Tryz.prog 182 #[.slice a 0 c,.string sep] w fun e w'=>e= .returned (.string ⟨#[]⟩)/\w'=w:=Any.strings_Join_none Tryz.lays156 Tryz.Builder_Extra_156 a c sep w
open Go.RowKit in
def Tryz.strings_Join (bk o c:Nat) (xs:List ByteArray) (sep:ByteArray) (w:World) (hcells: ∀(j:Nat) x,xs[j]? =some x->w.cell? ⟨bk,o+j,none⟩=some (.string x)) (hbk:bk<w.heap.size) (hN:xs.length<=140737488355328) (hcap:xs.length<=c) (hlen:(Lib.join (xs.map (·.data.toList)) sep.data.toList).length<=140737488355328) :
 Calls Tryz.prog 182 #[.slice (some ⟨bk,o,none⟩) xs.length c,.string sep] w fun e w'=>e= .returned (.string ⟨(Lib.join (xs.map (·.data.toList)) sep.data.toList).toArray⟩)/\Below w.heap.size w w':=Any.strings_Join Tryz.lays156 Tryz.Builder_Extra_156 bk o c xs sep w hcells hbk hN hcap hlen
def Tryz.AiT:Go.Shelf.Ren:=⟨fun | 137=>246 | 217=>269 | 266=>297 | n=>n,fun | 9=>9 | 5=>5 | 3=>3 | n=>n,fun | n=>n⟩
def Tryz.lays137:Go.Proofs.Lays.n137 Tryz.prog Tryz.AiT:= {
 mixed:=by kernel_rfl
 f137:=AvL Tryz.func246
 f217:=AvL Tryz.func269
 f266:=AvL Tryz.func297
 t3:=Tryz.underlying3
 a3:=Tryz.isAgg3
 z3:=Tryz.sizeOf3
 v3:=Tryz.zeroValue3
 t5:=Tryz.underlying5
 a5:=Tryz.isAgg5
 z5:=Tryz.sizeOf5
 v5:=Tryz.zeroValue5
 t9:=Tryz.underlying9
 a9:=Tryz.isAgg9
 z9:=Tryz.sizeOf9
 v9:=Tryz.zeroValue9}
open Go.RowKit in
def Tryz.strings_IndexByte (s:ByteArray) (c:Int) (w:World) :
 Calls Tryz.prog 246 #[.string s,.int .u8 c] w fun e w'=>e= .returned (.int .i64 (Lib.indexByte s.data.toList c.toNat.toUInt8))/\w'=w:=Any.strings_IndexByte Tryz.lays137 s c w
def Tryz.AiS:Go.Shelf.Ren:=⟨fun | 103=>302 | 210=>324 | 206=>296 | n=>n,fun | 9=>9 | 4=>4 | 24=>324 | 3=>3 | n=>n,fun | n=>n⟩
def Tryz.ArR:Go.Proofs.Lays.n103 Tryz.prog Tryz.AiS:= {
 mixed:=by kernel_rfl
 f103:=AvL Tryz.func302
 f206:=AvL Tryz.func296
 f210:=AvL Tryz.func324
 t3:=Tryz.underlying3
 a3:=Tryz.isAgg3
 z3:=Tryz.sizeOf3
 v3:=Tryz.zeroValue3
 t4:=Tryz.underlying4
 a4:=Tryz.isAgg4
 z4:=Tryz.sizeOf4
 v4:=Tryz.zeroValue4
 t9:=Tryz.underlying9
 a9:=Tryz.isAgg9
 z9:=Tryz.sizeOf9
 v9:=Tryz.zeroValue9
 t24:=Tryz.underlying324
 a24:=Tryz.isAgg324
 z24:=Tryz.sizeOf324
 v24:=Tryz.zeroValue324}
open Go.RowKit in
def Tryz.strings_CutPrefix (s p:ByteArray) (w:World) :
 Calls Tryz.prog 302 #[.string s,.string p] w fun e w'=>e= .returned (.tuple #[.string ⟨(Lib.trimPrefix s.data.toList p.data.toList).toArray⟩,.bool (Lib.hasPrefix s.data.toList p.data.toList)])/\w'=w:=Any.strings_CutPrefix Tryz.ArR s p w
def Tryz.Ah3:Go.Shelf.Ren:=⟨fun | 171=>200 | 243=>241 | 246=>267 | 283=>292 | 284=>293 | 285=>294 | 286=>295 | 129=>291 | 317=>315 | 318=>316 | 319=>317 | 320=>318 | 337=>330 | 338=>331 | n=>n,fun | 3=>3 | 9=>9 | 2=>2 | 4=>4 | 171=>317 | 0=>0 | 53=>283 | 37=>114 | 5=>5 | 173=>319 | 212=>336 | 51=>112 | 20=>20 | 213=>337 | 46=>116 | 232=>343 | 233=>344 | n=>n,fun | 17=>1 | 18=>2 | 19=>3 | n=>n⟩
def Tryz.laysM171:Go.Proofs.LaysM.n171 Tryz.prog Tryz.Ah3:= {
 mixed:=by kernel_rfl
 f129:=AvL Tryz.func291
 f171:=AvL Tryz.func200
 f243:=AvL Tryz.func241
 f246:=AvL Tryz.func267
 f283:=AvL Tryz.func292
 f284:=AvL Tryz.func293
 f285:=AvL Tryz.func294
 f286:=AvL Tryz.func295
 f317:=AvL Tryz.func315
 f318:=AvL Tryz.func316
 f319:=AvL Tryz.func317
 f320:=AvL Tryz.func318
 f337:=AvL Tryz.func330
 f338:=AvL Tryz.func331
 t0:=Tryz.underlying0
 a0:=Tryz.isAgg0
 z0:=Tryz.sizeOf0
 v0:=Tryz.zeroValue0
 t2:=Tryz.underlying2
 a2:=Tryz.isAgg2
 z2:=Tryz.sizeOf2
 v2:=Tryz.zeroValue2
 t3:=Tryz.underlying3
 a3:=Tryz.isAgg3
 z3:=Tryz.sizeOf3
 v3:=Tryz.zeroValue3
 t4:=Tryz.underlying4
 a4:=Tryz.isAgg4
 z4:=Tryz.sizeOf4
 v4:=Tryz.zeroValue4
 t5:=Tryz.underlying5
 a5:=Tryz.isAgg5
 z5:=Tryz.sizeOf5
 v5:=Tryz.zeroValue5
 t9:=Tryz.underlying9
 a9:=Tryz.isAgg9
 z9:=Tryz.sizeOf9
 v9:=Tryz.zeroValue9
 t20:=Tryz.underlying20
 a20:=Tryz.isAgg20
 z20:=Tryz.sizeOf20
 v20:=Tryz.zeroValue20
 t37:=Tryz.underlying114
 a37:=Tryz.isAgg114
 z37:=Tryz.sizeOf114
 v37:=Tryz.zeroValue114
 t46:=Tryz.underlying116
 a46:=Tryz.isAgg116
 z46:=Tryz.sizeOf116
 v46:=Tryz.zeroValue116
 t51:=Tryz.underlying112
 a51:=Tryz.isAgg112
 z51:=Tryz.sizeOf112
 v51:=Tryz.zeroValue112
 t53:=Tryz.underlying283
 a53:=Tryz.isAgg283
 z53:=Tryz.sizeOf283
 v53:=Tryz.zeroValue283
 t171:=Tryz.underlying317
 a171:=Tryz.isAgg317
 z171:=Tryz.sizeOf317
 v171:=Tryz.zeroValue317
 t173:=Tryz.underlying319
 a173:=Tryz.isAgg319
 z173:=Tryz.sizeOf319
 v173:=Tryz.zeroValue319
 t212:=Tryz.underlying336
 a212:=Tryz.isAgg336
 z212:=Tryz.sizeOf336
 v212:=Tryz.zeroValue336
 t213:=Tryz.underlying337
 a213:=Tryz.isAgg337
 z213:=Tryz.sizeOf337
 t232:=Tryz.underlying343
 a232:=Tryz.isAgg343
 z232:=Tryz.sizeOf343
 v232:=Tryz.zeroValue343
 t233:=Tryz.underlying344
 a233:=Tryz.isAgg344
 z233:=Tryz.sizeOf344
 v233:=Tryz.zeroValue344
 g17:=by kernel_rfl
 g18:=by kernel_rfl
 g19:=by kernel_rfl
 i0:=by kernel_rfl
 i2:=by kernel_rfl
 i3:=by kernel_rfl
 i4:=by kernel_rfl
 i5:=by kernel_rfl
 i9:=by kernel_rfl
 i20:=by kernel_rfl
 i37:=by kernel_rfl
 i46:=by kernel_rfl
 i51:=by kernel_rfl
 i53:=by kernel_rfl
 i171:=by kernel_rfl
 i173:=by kernel_rfl
 i212:=by kernel_rfl
 i232:=by kernel_rfl
 i233:=by kernel_rfl
 m17:=by kernel_rfl
 m18:=by kernel_rfl
 m19:=by kernel_rfl}
open Go.RowKit Go.Sort Go.Lib in
def Tryz.strconv_Itoa (n:Int) (h0: -9223372036854775808<=n) (h1:n<=9223372036854775807) (w:World) (htab:Lib.TabIs Tryz.prog w "internal/strconv.uint64pow10" .u64 Lib.pow10Tab) :
 Calls Tryz.prog 200 #[.int .i64 n] w fun e w'=>e= .returned (.string ⟨(Lib.itoa n).toArray⟩)/\ ∃ k os,w'=grow (w.drewN k) os:=Any.strconv_Itoa Tryz.laysM171 n h0 h1 w htab
def Tryz.AiU:Go.Shelf.Ren:=⟨fun | 144=>303 | 143=>308 | 219=>328 | 217=>269 | 225=>333 | 224=>334 | 267=>335 | 266=>297 | 314=>336 | n=>n,fun | 9=>9 | 4=>4 | 3=>3 | 5=>5 | 46=>116 | 146=>349 | 51=>112 | n=>n,fun | 1=>0 | n=>n⟩
def Tryz.lays144:Go.Proofs.Lays.n144 Tryz.prog Tryz.AiU:= {
 mixed:=by kernel_rfl
 f143:=AvL Tryz.func308
 f144:=AvL Tryz.func303
 f217:=AvL Tryz.func269
 f219:=AvL Tryz.func328
 f224:=AvL Tryz.func334
 f225:=AvL Tryz.func333
 f266:=AvL Tryz.func297
 f267:=AvL Tryz.func335
 f314:=AvL Tryz.func336
 t3:=Tryz.underlying3
 a3:=Tryz.isAgg3
 z3:=Tryz.sizeOf3
 v3:=Tryz.zeroValue3
 t4:=Tryz.underlying4
 a4:=Tryz.isAgg4
 z4:=Tryz.sizeOf4
 v4:=Tryz.zeroValue4
 t5:=Tryz.underlying5
 a5:=Tryz.isAgg5
 z5:=Tryz.sizeOf5
 v5:=Tryz.zeroValue5
 t9:=Tryz.underlying9
 a9:=Tryz.isAgg9
 z9:=Tryz.sizeOf9
 v9:=Tryz.zeroValue9
 t46:=Tryz.underlying116
 a46:=Tryz.isAgg116
 z46:=Tryz.sizeOf116
 v46:=Tryz.zeroValue116
 t51:=Tryz.underlying112
 a51:=Tryz.isAgg112
 z51:=Tryz.sizeOf112
 v51:=Tryz.zeroValue112
 t146:=Tryz.underlying349
 a146:=Tryz.isAgg349
 z146:=Tryz.sizeOf349
 v146:=Tryz.zeroValue349
 g1:=by kernel_rfl}
open Go.RowKit Go.Lib in
def Tryz.strings_Contains (s sub:ByteArray) (m:Int) (w:World) (hs:s.size<4294967281) (hm:w.cell? ⟨0,0,none⟩=some (.int .i64 m)) :
 Calls Tryz.prog 303 #[.string s,.string sub] w fun e w'=>e= .returned (.bool (Lib.contains s.data.toList sub.data.toList))/\w'=w:=Any.strings_Contains Tryz.lays144 s sub m w hs hm
def Tryz.AiV:Go.Shelf.Ren:=⟨fun | 145=>300 | 220=>321 | 219=>328 | 217=>269 | 225=>333 | 224=>334 | 267=>335 | 266=>297 | 314=>336 | n=>n,fun | 9=>9 | 4=>4 | 59=>322 | 3=>3 | 5=>5 | 46=>116 | 146=>349 | 51=>112 | n=>n,fun | 1=>0 | n=>n⟩
def Tryz.lays145:Go.Proofs.Lays.n145 Tryz.prog Tryz.AiV:= {
 mixed:=by kernel_rfl
 f145:=AvL Tryz.func300
 f217:=AvL Tryz.func269
 f219:=AvL Tryz.func328
 f220:=AvL Tryz.func321
 f224:=AvL Tryz.func334
 f225:=AvL Tryz.func333
 f266:=AvL Tryz.func297
 f267:=AvL Tryz.func335
 f314:=AvL Tryz.func336
 t3:=Tryz.underlying3
 a3:=Tryz.isAgg3
 z3:=Tryz.sizeOf3
 v3:=Tryz.zeroValue3
 t4:=Tryz.underlying4
 a4:=Tryz.isAgg4
 z4:=Tryz.sizeOf4
 v4:=Tryz.zeroValue4
 t5:=Tryz.underlying5
 a5:=Tryz.isAgg5
 z5:=Tryz.sizeOf5
 v5:=Tryz.zeroValue5
 t9:=Tryz.underlying9
 a9:=Tryz.isAgg9
 z9:=Tryz.sizeOf9
 v9:=Tryz.zeroValue9
 t46:=Tryz.underlying116
 a46:=Tryz.isAgg116
 z46:=Tryz.sizeOf116
 v46:=Tryz.zeroValue116
 t51:=Tryz.underlying112
 a51:=Tryz.isAgg112
 z51:=Tryz.sizeOf112
 v51:=Tryz.zeroValue112
 t59:=Tryz.underlying322
 a59:=Tryz.isAgg322
 z59:=Tryz.sizeOf322
 v59:=Tryz.zeroValue322
 t146:=Tryz.underlying349
 a146:=Tryz.isAgg349
 z146:=Tryz.sizeOf349
 v146:=Tryz.zeroValue349
 g1:=by kernel_rfl}
open Go.RowKit Go.Lib in
def Tryz.strings_Cut (s sep:ByteArray) (m:Int) (w:World) (hs:s.size<4294967281) (hm:w.cell? ⟨0,0,none⟩=some (.int .i64 m)) :
 Calls Tryz.prog 300 #[.string s,.string sep] w fun e w'=>e= .returned (.tuple #[.string ⟨(Lib.cut s.data.toList sep.data.toList).1.toArray⟩,.string ⟨(Lib.cut s.data.toList sep.data.toList).2.1.toArray⟩,.bool (Lib.cut s.data.toList sep.data.toList).2.2])/\ ∃ n,w'=w.drewN n:=Any.strings_Cut Tryz.lays145 s sep m w hs hm
def Tryz.lays192_ren:Go.Shelf.Ren:=⟨fun | 192=>188 | 190=>236 | 125=>266 | 258=>265 | 128=>290 | 129=>291 | 302=>281 | 303=>282 | 304=>283 | 305=>284 | 306=>285 | 307=>286 | 308=>287 | 309=>288 | 310=>289 | 333=>309 | 329=>310 | 330=>311 | 334=>312 | 335=>313 | 336=>314 | 344=>329 | n=>n,fun | 31=>28 | 0=>0 | 9=>9 | 3=>3 | 46=>116 | 51=>112 | 53=>283 | 4=>4 | 183=>310 | 182=>309 | 131=>155 | 5=>5 | 218=>330 | 222=>245 | 228=>340 | 229=>341 | n=>n,fun | n=>n⟩
def Tryz.lays192:Go.Proofs.Lays.n192 Tryz.prog Tryz.lays192_ren:= {
 mixed:=by kernel_rfl
 f125:=AvL Tryz.func266
 f128:=AvL Tryz.func290
 f129:=AvL Tryz.func291
 f190:=AvL Tryz.func236
 f192:=AvL Tryz.func188
 f258:=AvL Tryz.func265
 f302:=AvL Tryz.func281
 f303:=AvL Tryz.func282
 f304:=AvL Tryz.func283
 f305:=AvL Tryz.func284
 f306:=AvL Tryz.func285
 f307:=AvL Tryz.func286
 f308:=AvL Tryz.func287
 f309:=AvL Tryz.func288
 f310:=AvL Tryz.func289
 f329:=AvL Tryz.func310
 f330:=AvL Tryz.func311
 f333:=AvL Tryz.func309
 f334:=AvL Tryz.func312
 f335:=AvL Tryz.func313
 f336:=AvL Tryz.func314
 f344:=AvL Tryz.func329
 t0:=Tryz.underlying0
 a0:=Tryz.isAgg0
 z0:=Tryz.sizeOf0
 v0:=Tryz.zeroValue0
 t3:=Tryz.underlying3
 a3:=Tryz.isAgg3
 z3:=Tryz.sizeOf3
 v3:=Tryz.zeroValue3
 t4:=Tryz.underlying4
 a4:=Tryz.isAgg4
 z4:=Tryz.sizeOf4
 v4:=Tryz.zeroValue4
 t5:=Tryz.underlying5
 a5:=Tryz.isAgg5
 z5:=Tryz.sizeOf5
 v5:=Tryz.zeroValue5
 t9:=Tryz.underlying9
 a9:=Tryz.isAgg9
 z9:=Tryz.sizeOf9
 v9:=Tryz.zeroValue9
 t31:=Tryz.underlying28
 a31:=Tryz.isAgg28
 z31:=Tryz.sizeOf28
 v31:=Tryz.zeroValue28
 t46:=Tryz.underlying116
 a46:=Tryz.isAgg116
 z46:=Tryz.sizeOf116
 v46:=Tryz.zeroValue116
 t51:=Tryz.underlying112
 a51:=Tryz.isAgg112
 z51:=Tryz.sizeOf112
 v51:=Tryz.zeroValue112
 t53:=Tryz.underlying283
 a53:=Tryz.isAgg283
 z53:=Tryz.sizeOf283
 v53:=Tryz.zeroValue283
 t131:=Tryz.underlying155
 a131:=Tryz.isAgg155
 z131:=Tryz.sizeOf155
 v131:=Tryz.zeroValue155
 t182:=Tryz.underlying309
 a182:=Tryz.isAgg309
 z182:=Tryz.sizeOf309
 v182:=Tryz.zeroValue309
 t183:=Tryz.underlying310
 a183:=Tryz.isAgg310
 z183:=Tryz.sizeOf310
 v183:=Tryz.zeroValue310
 t218:=Tryz.underlying330
 a218:=Tryz.isAgg330
 z218:=Tryz.sizeOf330
 v218:=Tryz.zeroValue330
 t222:=Tryz.underlying245
 a222:=Tryz.isAgg245
 z222:=Tryz.sizeOf245
 v222:=Tryz.zeroValue245
 t228:=Tryz.underlying340
 a228:=Tryz.isAgg340
 z228:=Tryz.sizeOf340
 v228:=Tryz.zeroValue340
 t229:=Tryz.underlying341
 a229:=Tryz.isAgg341
 z229:=Tryz.sizeOf341
 v229:=Tryz.zeroValue341}
open Go.Sort Go.RowKit in
def Tryz.sort_Strings (blk off cap:Nat) (ss:List (List UInt8)) (w:World) (hH:Holds encStr w blk off ss.toArray) (hblk:blk<w.heap.size) (hsz:ss.length<4611686018427387904) :
 Calls Tryz.prog 188 #[.slice (some ⟨blk,off,none⟩) ss.length cap] w fun e w' =>
  e= .returned (.tuple #[])/\ ∃ n os,w'=grow (putRow encStr (Sort.ahead w n) blk off (ss.mergeSort fun x y=>decide (x<=y)).toArray) os:=Any.sort_Strings Tryz.lays192 blk off cap ss w hH hblk hsz
def Tryz.lays99_ren:Go.Shelf.Ren:=⟨fun | 99=>268 | 206=>296 | n=>n,fun | 9=>9 | 4=>4 | 3=>3 | n=>n,fun | n=>n⟩
def Tryz.lays99:Go.Proofs.Lays.n99 Tryz.prog Tryz.lays99_ren:= {
 mixed:=by kernel_rfl
 f99:=AvL Tryz.func268
 f206:=AvL Tryz.func296
 t3:=Tryz.underlying3
 a3:=Tryz.isAgg3
 z3:=Tryz.sizeOf3
 v3:=Tryz.zeroValue3
 t4:=Tryz.underlying4
 a4:=Tryz.isAgg4
 z4:=Tryz.sizeOf4
 v4:=Tryz.zeroValue4
 t9:=Tryz.underlying9
 a9:=Tryz.isAgg9
 z9:=Tryz.sizeOf9
 v9:=Tryz.zeroValue9}
open Go.RowKit Go.Lib in
def Tryz.strings_HasPrefix (s p:ByteArray) (w:World) :
 Calls Tryz.prog 268 #[.string s,.string p] w fun e w'=>e= .returned (.bool (Lib.hasPrefix s.data.toList p.data.toList))/\w'=w:=Any.strings_HasPrefix Tryz.lays99 s p w
def Tryz.lays101_ren:Go.Shelf.Ren:=⟨fun | 101=>299 | 208=>320 | 206=>296 | n=>n,fun | 9=>9 | 4=>4 | 3=>3 | n=>n,fun | n=>n⟩
def Tryz.lays101:Go.Proofs.Lays.n101 Tryz.prog Tryz.lays101_ren:= {
 mixed:=by kernel_rfl
 f101:=AvL Tryz.func299
 f206:=AvL Tryz.func296
 f208:=AvL Tryz.func320
 t3:=Tryz.underlying3
 a3:=Tryz.isAgg3
 z3:=Tryz.sizeOf3
 v3:=Tryz.zeroValue3
 t4:=Tryz.underlying4
 a4:=Tryz.isAgg4
 z4:=Tryz.sizeOf4
 v4:=Tryz.zeroValue4
 t9:=Tryz.underlying9
 a9:=Tryz.isAgg9
 z9:=Tryz.sizeOf9
 v9:=Tryz.zeroValue9}
open Go.RowKit Go.Lib in
def Tryz.strings_TrimPrefix (s p:ByteArray) (w:World) :
 Calls Tryz.prog 299 #[.string s,.string p] w fun e w'=>e= .returned (.string ⟨(Lib.trimPrefix s.data.toList p.data.toList).toArray⟩)/\w'=w:=Any.strings_TrimPrefix Tryz.lays101 s p w
def Tryz.lays146_ren:Go.Shelf.Ren:=⟨fun | 146=>262 | 221=>280 | 268=>306 | 138=>307 | 143=>308 | 195=>325 | 197=>326 | 218=>327 | 219=>328 | 260=>332 | 217=>269 | 225=>333 | 224=>334 | 267=>335 | 266=>297 | 314=>336 | n=>n,fun | 9=>9 | 31=>28 | 3=>3 | 4=>4 | 0=>0 | 105=>338 | 21=>21 | 5=>5 | 46=>116 | 119=>345 | 139=>348 | 138=>347 | 146=>349 | 51=>112 | n=>n,fun | 1=>0 | 3=>4 | 4=>5 | n=>n⟩
def Tryz.lays146:Go.Proofs.Lays.n146 Tryz.prog Tryz.lays146_ren:= {
 mixed:=by kernel_rfl
 f138:=AvL Tryz.func307
 f143:=AvL Tryz.func308
 f146:=AvL Tryz.func262
 f195:=AvL Tryz.func325
 f197:=AvL Tryz.func326
 f217:=AvL Tryz.func269
 f218:=AvL Tryz.func327
 f219:=AvL Tryz.func328
 f221:=AvL Tryz.func280
 f224:=AvL Tryz.func334
 f225:=AvL Tryz.func333
 f260:=AvL Tryz.func332
 f266:=AvL Tryz.func297
 f267:=AvL Tryz.func335
 f268:=AvL Tryz.func306
 f314:=AvL Tryz.func336
 t0:=Tryz.underlying0
 a0:=Tryz.isAgg0
 z0:=Tryz.sizeOf0
 v0:=Tryz.zeroValue0
 t3:=Tryz.underlying3
 a3:=Tryz.isAgg3
 z3:=Tryz.sizeOf3
 v3:=Tryz.zeroValue3
 t4:=Tryz.underlying4
 a4:=Tryz.isAgg4
 z4:=Tryz.sizeOf4
 v4:=Tryz.zeroValue4
 t5:=Tryz.underlying5
 a5:=Tryz.isAgg5
 z5:=Tryz.sizeOf5
 v5:=Tryz.zeroValue5
 t9:=Tryz.underlying9
 a9:=Tryz.isAgg9
 z9:=Tryz.sizeOf9
 v9:=Tryz.zeroValue9
 t21:=Tryz.underlying21
 a21:=Tryz.isAgg21
 z21:=Tryz.sizeOf21
 v21:=Tryz.zeroValue21
 t31:=Tryz.underlying28
 a31:=Tryz.isAgg28
 z31:=Tryz.sizeOf28
 v31:=Tryz.zeroValue28
 t46:=Tryz.underlying116
 a46:=Tryz.isAgg116
 z46:=Tryz.sizeOf116
 v46:=Tryz.zeroValue116
 t51:=Tryz.underlying112
 a51:=Tryz.isAgg112
 z51:=Tryz.sizeOf112
 v51:=Tryz.zeroValue112
 t105:=Tryz.underlying338
 a105:=Tryz.isAgg338
 z105:=Tryz.sizeOf338
 v105:=Tryz.zeroValue338
 t119:=Tryz.underlying345
 a119:=Tryz.isAgg345
 z119:=Tryz.sizeOf345
 t138:=Tryz.underlying347
 a138:=Tryz.isAgg347
 z138:=Tryz.sizeOf347
 v138:=Tryz.zeroValue347
 t139:=Tryz.underlying348
 a139:=Tryz.isAgg348
 z139:=Tryz.sizeOf348
 v139:=Tryz.zeroValue348
 t146:=Tryz.underlying349
 a146:=Tryz.isAgg349
 z146:=Tryz.sizeOf349
 v146:=Tryz.zeroValue349
 g1:=by kernel_rfl
 g3:=by kernel_rfl
 g4:=by kernel_rfl}
open Go.RowKit Go.Lib in
def Tryz.strings_Split (s sep:ByteArray) (m:Int) (w:World) (hs:s.size<4294967281) (hm:w.cell? ⟨0,0,none⟩=some (.int .i64 m)) (h1:1<=sep.size) :
 Calls Tryz.prog 262 #[.string s,.string sep] w fun e w' =>
  e= .returned (.slice (some ⟨w.heap.size,0,none⟩) (Lib.countB s sep+1) (Lib.countB s sep+1))/\w'=w.alloc (.cells ((Lib.splitB sep 0 (Lib.countB s sep) s).map Value.string).toArray 9):=Any.strings_Split Tryz.lays146 (by kernel_rfl) s sep m w hs hm h1
end Go.Proofs
namespace Go.Proofs.YtbgjmioccbacdaaGreatDoor.Vm
open Go.Proofs
noncomputable def Yv (N:Nat):Sig:=Sv 9 N
def Zt (N:Nat):Spec Tryz.prog 182 (Yv N) :=
 Adq (enters (fn:=Tryz.f182) (by kernel_rfl) (by kernel_rfl) (by decide)) ⟨Tryz.strings_Join_none,Tryz.strings_Join⟩
open Go.RowKit
def CK.flat:CK->Bool | .bool=>true | .int _=>true | .str=>true | _=>false
def Sh.flat:Sh->Bool | .cell false k=>k.flat | _=>false
def A.flat:A->Bool | .bool _=>true | .int _ _=>true | .str _=>true | _=>false
def rvA:A->Value | .bool b=>.bool b | .int k n=>.int k n | .str s=>.string ⟨s.toArray⟩ | _=>undef
def ArF {O:Own} {w:World} {id:Nat} {v:Value} {x:A} (hf:x.flat=true) (h:IR O w id v x):v=rvA x:=by
 cases x with
 | bool b=>have h':Jw O w v (.bool b):=h;cases h';rfl
 | int k n=>have h':Jw O w v (.int k n):=h;cases h';rfl
 | str s=>exact UC (show Jw O w v (.str s)from h)
 | _=>cases hf
def Asq {O:Own} {w:World} {id:Nat} {x:A} (hf:x.flat=true):IR O w id (rvA x) x:=by
 cases x with
 | bool b=>exact Jw.bool b
 | int k n=>exact Jw.int k n
 | str s=>exact Jw.str (O:=O) (w:=w) ⟨s.toArray⟩
 | _=>cases hf
def Sh.Apt {s:Sh} (h:s.flat=true) (v:s.T):(s.enc v).flat=true:=by
 cases s with
 | cell u k=>cases u<;>cases k<;>first | (cases h;done) | rfl
 | _=>cases h
def uU: ∀(ss:List Sh) (v:ShT ss),ss.all Sh.flat=true->(encs ss v).all A.flat=true:=by
 intro ss
 induction ss with
 | nil=>intro v _;rfl
 | cons s r ih =>intro v h;rw[List.all_cons,Dq]at h;show((s.enc _).flat&&(encs r _).all A.flat)=true;rw[Sh.Apt h.1,ih _ h.2];rfl
def Apu: ∀(ss:List Sh) (v:ShT ss),(encs ss v).length=ss.length:=by
 intro ss
 induction ss with
 | nil=>intro v;rfl
 | cons s r ih=>intro v;show(encs r _).length+1=_;rw[ih];rfl
def AbO: ∀(ss:List Sh) (i:Nat),ss.all Sh.flat=true->La ss i=[]:=by
 intro ss
 induction ss with
 | nil=>intro i _;rfl
 | cons s r ih =>
  intro i h;rw[List.all_cons,Dq]at h;unfold La;have:KD s=false:=by cases s<;>first | rfl | (cases h.1;done)
  rw[this];exact ih _ h.2
def Aol (Js J7:List Sh) (h:Js.all Sh.flat=true):Lr Js J7=J7:=by unfold Lr;rw[List.filterMap_eq_nil_iff.2 (fun s hs=> ?_),Ee];have:=D7.1 h s hs;cases s<;>first | rfl | (cases this;done)
def Afa {l:List A} (h:l.all A.flat=true) {j:Nat} (hj:j<l.length):(l.getD j .undef).flat=true:=by rw[Dj,D9 hj];exact D7.1 h _ (EZ hj)
def Aae (l:List A) (j:Nat) (hj:j<l.length):((l.map rvA).toArray).getD j undef=rvA (l.getD j .undef):=by simp [Dn,Dj,hj]
def AmS {O:Own} {w w':World} {vs:Array Value} {sg:Sig} {rs:List A} (hp:sg.Js.all Sh.flat=true) (hl:rs.length=sg.J7.length) (hf:rs.all A.flat=true) (hb:Below w.heap.size w w'):Came O w vs sg rs (AeE (rs.map rvA).toArray) O w':=by
 have hix:La sg.Js 0=[]:=AbO _ _ hp;refine⟨Below.moves hb,fun b k _ h=>h,fun b k _ h=>h,by rw[hix,hl];rfl,⟨(rs.map rvA).toArray,by simp [hl],rfl,fun k hk=> ?_⟩,fun j i hj=> ?_⟩
 .have hk':k<rs.length:=by simpa using hk
  rw[Aae rs k hk'];exact Asq (Afa hf hk')
 .rw[hix]at hj;cases hj
def AeH {O:Own} {w:World} {vs:Array Value} {xs:List A} (hf:xs.all A.flat=true) (hv:vs.size=xs.length) (hx: ∀ j,j<xs.length->IR O w (256*j) (vs.getD j undef) (xs.getD j .undef)):vs=(xs.map rvA).toArray:=by
 apply Fe
 .simp [hv]
 .intro i h1 h2;have hi:i<xs.length:=by omega
  have:=ArF (Afa hf hi) (hx i hi);rw[<- Aae xs i hi]at this;simp only[Dn,D6 h1,D6 h2,Option.getD_some]at this;exact this
def Ai7 (w:World) (k:Nat) (os:Array Go.Obj):Below w.heap.size w (Go.Sort.grow (w.drewN k) os) :=
 ⟨rfl,rfl,rfl,by show _<=(w.heap++os).size;simp,fun i hi=>by show(w.heap++os)[i]? =_;rw[E8 hi]⟩
def UG {P:Program} {f:FuncId} {Js J7:List Sh} {g:ShT Js->Option (ShT (Lr Js J7))} (hp:Js.all Sh.flat=true) (hr:J7.all Sh.flat=true) (hent: ∀ args w,(callFunc f args).run P w= .ok (.enter f args) w)
 (H: ∀(O:Own) (w:World) (a:ShT Js) (o:ShT (Lr Js J7)),Inv O w->g a=some o->Calls P f ((encs Js a).map rvA).toArray w fun e w'=>e= .returned (AeE ((encs (Lr Js J7) o).map rvA).toArray)/\Below w.heap.size w w'):Spec P f (Sig.of Js J7 g):=by
 refine⟨hent,fun O w vs xs rs hI hv hl _ hx hrs=> ?_⟩;obtain⟨a,o,h1,h2,h3⟩:=Sig.Yp hrs;subst h1;have hvs:=AeH (uU Js a hp) hv hx;rw[hvs];refine(H O w a o hI h2).mono fun e w' hq=> ?_;obtain⟨he,hb⟩:=hq;subst h3;have ho:Lr Js J7=J7:=Aol Js J7 hp;refine⟨_,O,he,AmS (sg:=Sig.of Js J7 g) hp ?_ ?_ hb⟩
 .rw[Apu,ho];rfl
 .exact uU _ _ (by rw[ho];exact hr)
def strings_Split (_:Nat) (s sep:Bs):Option (List Bs):=bif decide (s.length<4294967281)&&decide (1<=sep.length)then some (Lib.split s sep)else none
def strings_IndexByte (_:Nat) (s:Bs) (c:Int):Option Int:=some (Lib.indexByte s c.toNat.toUInt8)
def strings_Cut (_:Nat) (s sep:Bs):Option (Bs×Bs×Bool):=bif decide (s.length<4294967281)then some (Lib.cut s sep)else none
def strings_CutPrefix (_:Nat) (s p:Bs):Option (Bs×Bool):=some (Lib.trimPrefix s p,Lib.hasPrefix s p)
def strings_TrimPrefix (_:Nat) (s p:Bs):Option Bs:=some (Lib.trimPrefix s p)
def strings_HasPrefix (_:Nat) (s p:Bs):Option Bool:=some (Lib.hasPrefix s p)
def strings_Contains (_:Nat) (s p:Bs):Option Bool:=bif decide (s.length<4294967281)then some (Lib.contains s p)else none
def strconv_Itoa (_:Nat) (n:Int):Option Bs:=bif decide (-9223372036854775808<=n)&&decide (n<=9223372036854775807)then some (Lib.itoa n)else none
def YS (l:List Bs):Bs:=(l.mergeSort fun x y=>decide (x<=y)).flatten
def UX (_:Nat) (l:List Bs):Option Bs:=bif decide (0<l.length)&&(decide (l.length<=1099511627776)&&decide (l.flatten.length<=140737488355328))then some (YS l)else none
def WW (s:ByteArray):Nat->Nat->Bool
 | 0,_=>true
 | n+1,i=>if i<s.size then
  let d:=Utf8.decode s i
  if d.1<32\/d.1=127 then false
  else if d.1=65533/\Lib.hasPrefix (s.data.toList.drop i) [239,191,189]=false then false
  else WW s n (i+d.2)
  else true
def Auq (s:Bs):Bool:=WW ⟨s.toArray⟩ s.length 0
def Aio (_:Nat) (s:Bs):Option Bool:=bif decide (s.length<4294967281)then some (Auq s)else none
open Go.Proofs Go.RowKit
noncomputable def UU (N:Nat):Sig:=.of [.cell false .str,.cell false .str] [.cell false .bool] (fun a=>strings_Contains N a.1 a.2)
def WU (N:Nat):Spec Tryz.prog 303 (UU N) :=
 UG rfl rfl (enters (fn:=Tryz.f303) (by kernel_rfl) (by kernel_rfl) (by decide)) fun O w (a:Bs×Bs) (o:Bool) hI h=>by
  obtain⟨s,c⟩:=a;have h:(bif decide (List.length s<4294967281)then some (Lib.contains s c)else none)=some o:=h;cases hc:decide (List.length s<4294967281)with
  | false=>rw[hc]at h;cases h
  | true =>
  rw[hc]at h;injection h with h;subst h;have hs:=D5 hc;obtain⟨_,v,hm,m,rfl⟩:=hI.1 0 0 _ rfl;refine(Tryz.strings_Contains ⟨List.toArray s⟩ ⟨List.toArray c⟩ m w hs hm).mono fun e w' hq=> ?_;obtain⟨h1,h2⟩:=hq;subst h2;exact⟨h1,Below.refl _ _⟩
noncomputable def XP (N:Nat):Sig:=.of [.cell false .str,.cell false .str] [.cell false .str,.cell false .bool] (fun a=>strings_CutPrefix N a.1 a.2)
def iT (N:Nat):Spec Tryz.prog 302 (XP N) :=
 UG rfl rfl (enters (fn:=Tryz.f302) (by kernel_rfl) (by kernel_rfl) (by decide)) fun O w (a:Bs×Bs) (o:Bs×Bool) hI h=>by obtain⟨s,c⟩:=a;have h:some ((Lib.trimPrefix s c,Lib.hasPrefix s c))=some o:=h;injection h with h;subst h;refine(Tryz.strings_CutPrefix ⟨List.toArray s⟩ ⟨List.toArray c⟩ w).mono fun e w' hq=> ?_;obtain⟨h1,h2⟩:=hq;subst h2;exact⟨h1,Below.refl _ _⟩
noncomputable def qP (N:Nat):Sig:=.of [.cell false .str,.cell false .str] [.cell false .str,.cell false .str,.cell false .bool] (fun a=>strings_Cut N a.1 a.2)
def Ab0 (N:Nat):Spec Tryz.prog 300 (qP N) :=
 UG rfl rfl (enters (fn:=Tryz.f300) (by kernel_rfl) (by kernel_rfl) (by decide)) fun O w (a:Bs×Bs) (o:Bs×Bs×Bool) hI h=>by
  obtain⟨s,c⟩:=a;have h:(bif decide (List.length s<4294967281)then some (Lib.cut s c)else none)=some o:=h;cases hc:decide (List.length s<4294967281)with
  | false=>rw[hc]at h;cases h
  | true =>
  rw[hc]at h;injection h with h;subst h;have hs:=D5 hc;obtain⟨_,v,hm,m,rfl⟩:=hI.1 0 0 _ rfl;refine(Tryz.strings_Cut ⟨List.toArray s⟩ ⟨List.toArray c⟩ m w hs hm).mono fun e w' hq=> ?_;obtain⟨h1,n,h2⟩:=hq;subst h2;exact⟨h1,⟨rfl,rfl,rfl,DW _,fun _ _=>rfl⟩⟩
noncomputable def Ut (N:Nat):Sig:=.of [.cell false .str,.cell false (.int .u8)] [.cell false (.int .i64)] (fun a=>strings_IndexByte N a.1 a.2)
def VO (N:Nat):Spec Tryz.prog 246 (Ut N) :=
 UG rfl rfl (enters (fn:=Tryz.f246) (by kernel_rfl) (by kernel_rfl) (by decide)) fun O w (a:Bs×Int) (o:Int) hI h=>by obtain⟨s,c⟩:=a;have h:some (Lib.indexByte s c.toNat.toUInt8)=some o:=h;injection h with h;subst h;refine(Tryz.strings_IndexByte ⟨List.toArray s⟩ c w).mono fun e w' hq=> ?_;obtain⟨h1,h2⟩:=hq;subst h2;exact⟨h1,Below.refl _ _⟩
def ApX {O:Own} {w:World} (hI:Inv O w):Lib.TabIs Tryz.prog w "internal/strconv.uint64pow10" .u64 Lib.pow10Tab:=by
 obtain⟨c,e,fr,h1,h2⟩:=hI.2 1 20 rfl;have hg:Tryz.prog.globalNamed "internal/strconv.uint64pow10" =some 1:=by kernel_rfl
 unfold Lib.TabIs World.var?;rw[hg];show(match w.heap[1]? with | some (.cells cs _ _)=>some cs | _=>none)=_;rw[h1];refine congrArg some (Fe (by rw[h2];simp [Lib.pow10Tab_length]) fun i hi hi'=> ?_);have hi20:i<20:=by omega
 obtain⟨_,v,hv,hp⟩:=hI.1 1 i _ (Dw hi20)
 have hv':c[i]? =some v:=by
  have:w.cell? (at' 1 i)=c[i]? :=by simp [World.cell?,h1]
  rw[<- this];exact hv
 rw[D6 hi]at hv';injection hv' with hv';rw[hv',hp];simp [Lib.pow10Tab]
noncomputable def lQ (N:Nat):Sig:=.of [.cell false (.int .i64)] [.cell false .str] (fun a=>strconv_Itoa N a)
def zU (N:Nat):Spec Tryz.prog 200 (lQ N) :=
 UG rfl rfl (enters (fn:=Tryz.f200) (by kernel_rfl) (by kernel_rfl) (by decide)) fun O w (a:Int) (o:Bs) hI h=>by
  have h:(bif decide (-9223372036854775808<=a)&&decide (a<=9223372036854775807)then some (Lib.itoa a)else none)=some o:=h;cases hc:(decide (-9223372036854775808<=a)&&decide (a<=9223372036854775807))with
  | false=>rw[hc]at h;cases h
  | true =>
  rw[hc]at h;injection h with h;subst h;rw[Dq,DJ,DJ]at hc;refine(Tryz.strconv_Itoa a hc.1 hc.2 w (ApX hI)).mono fun e w' hq=> ?_;obtain⟨h1,k,os,h2⟩:=hq;subst h2;exact⟨h1,Ai7 _ _ _⟩
end Go.Proofs.YtbgjmioccbacdaaGreatDoor.Vm
namespace Go.Proofs.YtbgjmioccbacdaaGreatDoor
open Go.RowKit Go.Sort Vm
def Afe (l:List (List UInt8)):Lib.join l []=l.flatten:=by
 cases l with
 | nil=>rfl
 | cons a r =>rw[Lib.join_cons];unfold Lib.joinTail;simp
def ArQ {w:World} {g cap n:Nat} {ts:List Bs} {cur:Array Value} {e:TypeId} (hn:ts.length=n) (hb:w.heap[g]? =some (.cells cur e (0,0))) (ht:cur.toList.take n=ts.map encStr) (hc:n<=cap) (h1:n<=140737488355328) (hl:ts.flatten.length<=140737488355328) :
 Calls Tryz.prog 182 #[.slice (some ⟨g,0,none⟩) n cap,.string ⟨#[]⟩] w fun e w'=>e= .returned (.string ⟨ts.flatten.toArray⟩)/\Below w.heap.size w w':=by
 have hm:(ts.map (fun s=>(⟨s.toArray⟩:ByteArray))).map (·.data.toList)=ts:=by
  rw[EO]
  conv=>rhs;rw[<- Gq ts]
  refine Ej fun s _=> ?_;simp
 have hj:=Tryz.strings_Join g 0 cap (ts.map (fun s=>(⟨s.toArray⟩:ByteArray))) ⟨#[]⟩ w (fun j x hx=>by
  have hx':(ts.map encStr)[j]? =some (.string x):=by
   rw[Ed]at hx ⊢;cases hq:ts[j]? with
   | none=>rw[hq]at hx;cases hx
   | some y=>rw[hq]at hx;injection hx with hx;rw[<- hx];rfl
  rw[<- ht]at hx'
  have hjn:j<n:=by
   rcases Ec j n with h | h
   .exact h
   .rw[List.getElem?_take_eq_none h]at hx';cases hx'
  rw[Gv hjn,DY]at hx';simp only[World.cell?,hb,DR];exact hx') (DT.1 hb).1 (by rw[Dx,hn];exact h1) (by rw[Dx,hn];exact hc) (by rw[hm];show(Lib.join ts []).length<=_;rw[Afe];exact hl)
 rw[Dx,hn,hm]at hj;refine hj.mono fun e w' hq=>⟨hq.1.trans ?_,hq.2⟩
 show Ending.returned (Value.string ⟨(Lib.join ts []).toArray⟩)=_;rw[Afe]
def Ahe {a b:List Bs} (h:a.Perm b):a.flatten.length=b.flatten.length:=by rw[Ip,Ip];exact(h.map _).sum_nat
set_option maxHeartbeats 1000000 in
set_option maxRecDepth 1000000 in
def AlQ (w:World) (b o c:Nat) (ss:List Bs) (R:Bs) (hR:YS ss=R) (h0:0<ss.length) (hlen:ss.length<=1099511627776) (hflat:ss.flatten.length<=140737488355328)
 (hcells: ∀(j:Nat) (u:Value),(ss.map encStr)[j]? =some u->w.cell? ⟨b,o+j,none⟩=some u) :
 Calls Tryz.prog 105 #[.slice (some ⟨b,o,none⟩) ss.length c] w fun e w'=>e= .returned (.string ⟨R.toArray⟩)/\Below w.heap.size w w':=by
 have hi:Tryz.prog.info? 9=some _:=rfl
 go_enter Tryz.func105,Tryz.ntmps105
 go_wp2_with (at_builtin;go_loud (refine wpList_append_grows w rfl _ _ _ rfl 9 _ _ 1 16 rfl hi rfl rfl rfl rfl (by decide) none 0 0 [] rfl (fun _=>⟨rfl,rfl⟩) rfl (fun _ h=>by cases h) ⟨b,o,none⟩ ss.length c (ss.map encStr) rfl (by simp) (fun j u h=>by rw[Addr.add_lit];exact hcells j u h) (fun u hu=>by obtain⟨x,_,rfl⟩:=DF.1 hu;rfl) (by omega) (by show _<=maxLen;simp only[maxLen];omega) (by omega) ?_))
 intro v' w1 hown hgr;rcases hown.2 with ⟨_,h⟩ | ⟨g,cap,cur,rfl,hbase,hbk,h1,h2,h3,h4⟩
 .exfalso;omega
 have h4':cur.toList.take ss.length=ss.map encStr:=by simpa using h4
 have hH:Holds encStr w1 g 0 ss.toArray:=holds_of_block hbk h4';have hB1:Below w.heap.size w w1:=Below.grown (Below.refl _ _) hgr (DW _) (fun k hk=>by cases hk);have hsort:=Tryz.sort_Strings g 0 cap ss w1 hH (DT.1 hbk).1 (by omega);have hperm:(ss.mergeSort fun x y=>decide (x<=y)).Perm ss:=Iq _ _;have hord:YS ss=(ss.mergeSort fun x y=>decide (x<=y)).flatten:=rfl;have hfl:=Ahe hperm;have hts:=hperm.length_eq;generalize (ss.mergeSort fun x y=>decide (x<=y))=ts at hsort hord hfl hts;have hRt:ts.flatten=R:=hord.symm.trans hR;have hB2: ∀ n os,Below w.heap.size w (grow (putRow encStr (Sort.ahead w1 n) g 0 ts.toArray) os):=fun n os=>Below.grown hB1 (grownBy_sorted ts.toArray) hB1.size (fun k hk=>by injection hk with hk;omega);have hJ: ∀ n os,Calls Tryz.prog 182 #[.slice (some ⟨g,0,none⟩) ss.length cap,.string ⟨#[]⟩] (grow (putRow encStr (Sort.ahead w1 n) g 0 ts.toArray) os) fun e w'=>e= .returned (.string ⟨R.toArray⟩)/\Below w.heap.size w w':=fun n os=>by rw[<- hRt];refine(ArQ (n:=ss.length) hts (heap_sorted ts.toArray hbk) (by rw[<- hts];exact take_putCells cur ts (by omega)) h1 (by omega) (by omega)).mono fun e w' hq=>⟨hq.1,(hB2 n os).trans (hq.2.mono (hB2 n os).size)⟩
 clear hown hgr hcells h4 h4' hH hB1 hB2 hord hfl hperm hR hRt
 go_wp2_with (first | (go_at_call 188;refine hsort.mono ?_;rintro e w2 ⟨rfl,n,os,rfl⟩;have hJ2:=hJ n os;generalize (grow (putRow encStr (Sort.ahead w1 n) g 0 ts.toArray) os)=w3 at hJ2 ⊢) | (go_at_call 182;refine hJ2.mono ?_;rintro e w4 ⟨rfl,hb4⟩))
 go_ret
 exact⟨rfl,hb4⟩
end Go.Proofs.YtbgjmioccbacdaaGreatDoor
namespace Go.Proofs.YtbgjmioccbacdaaGreatDoor.Vm
open Go.Proofs Go.RowKit
noncomputable def iV (N:Nat):Sig:=.of [.cell false (.sl 9 (.str .nil))] [.cell false .str] (fun a=>UX N a)
def AfZ {N:Nat} {O:Own} {w:World} {vs:Array Value} (l:List Bs) (out:Bs) (hv:vs.size=1) (hx0:Jw O w (vs.getD 0 undef) (.sl ⟨.str .nil,l⟩)) (h2':UX N l=some out) :
 Calls Tryz.prog 105 vs w fun e' w'=> ∃ v O',e'= .returned v/\Came O w vs (iV N) [.str out] v O' w':=by
 unfold UX at h2'
 have hv1:vs= #[vs.getD 0 undef]:=by
  apply Fe
  .exact hv
  .intro i h1 h2;have:i=0:=by simp at h2;omega
   subst this;simp [Dn,h1]
 cases hc:(decide (0<l.length)&&(decide (l.length<=1099511627776)&&decide (l.flatten.length<=140737488355328)))with
 | false=>rw[hc]at h2';cases h2'
 | true =>
  rw[hc]at h2';injection h2' with h2';simp only[Dq,DJ]at hc;obtain⟨c0,c1,c2⟩:=hc;rw[hv1];generalize vs.getD 0 undef=v0 at hx0;have hes0:(⟨.str .nil,l⟩:Sl).es=l.map (fun s:Bs=>[A.str s]):=rfl;have hsz:(⟨.str .nil,l⟩:Sl).sz=1:=rfl;generalize hL:(⟨.str .nil,l⟩:Sl)=L at hx0 hes0 hsz;have hlen:L.es.length=l.length:=by rw[hes0,Dx]
  cases hx0 with
  | nil t =>
   have:l=[]:=by injection hL with h1 h2;subst h1;exact I5 h2
   rw[this]at c0;exact absurd c0 (by decide)
  | sl0 ad t =>
   have:l=[]:=by injection hL with h1 h2;subst h1;exact I5 h2
   rw[this]at c0;exact absurd c0 (by decide)
  | @sl b off cap l' vs' hcap hm hr =>
   have hw:=AlQ w b off cap l out h2' c0 c1 c2 (fun j u hj=>by
    have hjl:j<l.length:=by
     rcases Ec j (l.length)with h | h
     .exact h
     .rw[DZ (by simpa using h)]at hj;cases hj
    have hm1:=(hm j 0 (by rw[hlen];exact hjl) (by rw[hsz];omega)).2;have hr1:=hr j 0 (by rw[hlen];exact hjl) (by rw[hsz];omega);have e1:off+(j*L.sz+0)=off+j:=by rw[hsz];omega
    rw[e1]at hm1;rw[Ed,D9 hjl]at hj;injection hj with hj;have e2:(L.es.getD j []).getD 0 .undef= .str (l[j]):=by rw[hes0];simp [Dj,hjl]
    rw[e2]at hr1;rw[<- hj,hm1,UC hr1])
   rw[<- hlen]at hw;refine hw.mono fun e' w' hq=> ?_;refine⟨_,O,hq.1,?_⟩;refine⟨Below.moves hq.2,fun b k _ h=>h,fun b k _ h=>h,rfl,⟨#[.string ⟨List.toArray out⟩],rfl,rfl,fun k hk=> ?_⟩,fun j i hj=> ?_⟩
   .have hk0:k=0:=by simp at hk;omega
    subst hk0;exact Jw.str (O:=O) (w:=w') ⟨List.toArray out⟩
   .exact absurd hj (by show(La [.cell false (.sl 9 (.str .nil))] 0)[j]? ≠some i;simp [La,KD])
def AeD (N:Nat):Spec Tryz.prog 105 (iV N):=by refine⟨enters (fn:=Tryz.f105) (by kernel_rfl) (by kernel_rfl) (by decide),fun O w vs xs rs hI hv hl _ hx hrs=> ?_⟩;obtain⟨l,out,h1,h2,h3⟩:=Sig.Yp (Js:=[.cell false (.sl 9 (.str .nil))]) (J7:=[.cell false .str]) (f:=fun a=>UX N a) hrs;subst h1;have h3':rs=[.str out]:=h3;subst h3';exact AfZ l out hv (hx 0 (by show 0<1;omega)) h2
end Go.Proofs.YtbgjmioccbacdaaGreatDoor.Vm
namespace Go.Proofs.YtbgjmioccbacdaaGreatDoor.Vm
open Go.Proofs Go.RowKit
def Aqs {O:Own} {w:World} {bs:List ByteArray} {t:TypeId} {l:List Bs} (hl:bs.map (·.data.toList)=l) :
 Jw (fun b k=>if b<w.heap.size then O b k else none) (w.alloc (.cells (bs.map Value.string).toArray t)) (.slice (some ⟨w.heap.size,0,none⟩) bs.length bs.length) (.sl ⟨.str .nil,l⟩):=by
 have hll:l.length=bs.length:=by rw[<- hl,Dx]
 have hget: ∀ i (h:i<bs.length),l.getD i []=bs[i].data.toList:=by intro i h;rw[<- hl];simp [Dj,h]
 have hes0:(⟨.str .nil,l⟩:Sl).es=l.map (fun s:Bs=>[A.str s]):=rfl;have hsz:(⟨.str .nil,l⟩:Sl).sz=1:=rfl;generalize (⟨.str .nil,l⟩:Sl)=L at *
 have hlen:L.es.length=bs.length:=by rw[hes0,Dx,hll]
 have hb:(w.alloc (.cells (bs.map Value.string).toArray t)).heap[w.heap.size]? =some (.cells (bs.map Value.string).toArray t (0,0)):=nT _ _;have hcell: ∀ i,(w.alloc (.cells (bs.map Value.string).toArray t)).cell? (at' w.heap.size i)=(bs.map Value.string).toArray[i]? :=by intro i;simp only[World.cell?,hb];rfl
 have h:=Jw.sl (O:=fun b k=>if b<w.heap.size then O b k else none) (w:=w.alloc (.cells (bs.map Value.string).toArray t)) (b:=w.heap.size) (off:=0) (cap:=bs.length) (l:=L) (fun i _=>.string (bs.getD i ByteArray.empty)) (by rw[hlen];exact DW _)
  (fun i j hi hj=>by
    rw[hlen]at hi;rw[hsz]at hj;have hj0:j=0:=by omega
    subst hj0;refine⟨Dt (Ii _),?_⟩;have e:0+(i*L.sz+0)=i:=by rw[hsz];omega
    rw[e,hcell];simp [Dj,hi])
  (fun i j hi hj=>by
    rw[hlen]at hi;rw[hsz]at hj;have hj0:j=0:=by omega
    subst hj0;have e1:(L.es.getD i []).getD 0 .undef= .str (l.getD i []):=by rw[hes0];simp [Dj,show i<l.length by omega]
    rw[e1,hget i hi];simp only[Dj,D9 hi,Option.getD_some];exact Jw.str (bs[i]))
 rw[hlen]at h;exact h
def AmT {O:Own} {w:World} {vs:Array Value} {sg:Sig} {bs:List ByteArray} {t e:TypeId} {l:List Bs} (hp:sg.Js.all Sh.flat=true) (hr:sg.J7=[.cell false (.sl e (.str .nil))]) (hl:bs.map (·.data.toList)=l) :
 Came O w vs sg [.sl ⟨.str .nil,l⟩] (.slice (some ⟨w.heap.size,0,none⟩) bs.length bs.length) (fun b k=>if b<w.heap.size then O b k else none) (w.alloc (.cells (bs.map Value.string).toArray t)):=by
 have hix:La sg.Js 0=[]:=AbO _ _ hp;refine⟨Moves.push _,fun b k hb h=>by rwa [Dw hb]at h,fun b k hb h=>by rwa [Dw hb],by rw[hix,hr];rfl,⟨#[.slice (some ⟨w.heap.size,0,none⟩) bs.length bs.length],by rw[hr];rfl,rfl,fun k hk=> ?_⟩,fun j i hj=> ?_⟩
 .have hk0:k=0:=by simp at hk;omega
  subst hk0;exact Aqs hl
 .rw[hix]at hj;cases hj
noncomputable def UA (N:Nat):Sig:=.of [.cell false .str,.cell false .str] [.cell false (.sl 9 (.str .nil))] (fun a=>strings_Split N a.1 a.2)
def YX (N:Nat):Spec Tryz.prog 262 (UA N):=by
 refine⟨enters (fn:=Tryz.f262) (by kernel_rfl) (by kernel_rfl) (by decide),fun O w vs xs rs hI hv hl _ hx hrs=> ?_⟩;obtain⟨a,o,h1,h2,h3⟩:=Sig.Yp (Js:=[.cell false .str,.cell false .str]) (J7:=[.cell false (.sl 9 (.str .nil))]) (f:=fun a=>strings_Split N a.1 a.2) hrs;subst h1;obtain⟨s,c⟩:=a;have hvs:=AeH (uU [.cell false .str,.cell false .str] (s,c) rfl) hv hx;rw[hvs];have h2':(bif decide (List.length s<4294967281)&&decide (1<=List.length c)then some (Lib.split s c)else none)=some o:=h2;cases hc:(decide (List.length s<4294967281)&&decide (1<=List.length c))with
 | false=>rw[hc]at h2';cases h2'
 | true =>rw[hc]at h2';injection h2' with h2';subst h2';rw[Dq,DJ,DJ]at hc;obtain⟨_,v,hm,m,rfl⟩:=hI.1 0 0 _ rfl;have hlen:=Lib.splitB_all ⟨List.toArray c⟩ hc.2 0 _ ⟨List.toArray s⟩ rfl;refine(Tryz.strings_Split ⟨List.toArray s⟩ ⟨List.toArray c⟩ m w hc.1 hm hc.2).mono fun e w' hq=> ?_;obtain⟨he,hw⟩:=hq;subst hw;rw[<- hlen]at he;refine⟨_,fun b k=>if b<w.heap.size then O b k else none,he,?_⟩;have h3':rs=[.sl ⟨.str .nil,Lib.split s c⟩]:=h3;rw[h3'];exact AmT (O:=O) (w:=w) (e:=9) (sg:=UA N) rfl rfl (by rw[Lib.splitB_data];rfl)
noncomputable def XK (N:Nat):Sig:=.of [.cell false .str,.cell false .str] [.cell false .str] (fun a=>strings_TrimPrefix N a.1 a.2)
def dL (N:Nat):Spec Tryz.prog 299 (XK N) :=
 UG rfl rfl (enters (fn:=Tryz.f299) (by kernel_rfl) (by kernel_rfl) (by decide)) fun O w (a:Bs×Bs) (o:Bs) hI h=>by obtain⟨s,c⟩:=a;have h:some (Lib.trimPrefix s c)=some o:=h;injection h with h;subst h;refine(Tryz.strings_TrimPrefix ⟨List.toArray s⟩ ⟨List.toArray c⟩ w).mono fun e w' hq=> ?_;obtain⟨h1,h2⟩:=hq;subst h2;exact⟨h1,Below.refl _ _⟩
end Go.Proofs.YtbgjmioccbacdaaGreatDoor.Vm
namespace Go.Proofs.YtbgjmioccbacdaaGreatDoor
open Go.RowKit Vm
def Zx (w:World) (s:ByteArray) (pos:Nat):Below w.heap.size w (w.iter s pos):=Below.alloc (Below.refl _ _) (DW _) _
def AkH (s:ByteArray) (i:Nat):1<=(Utf8.decode s i).2:=by
 unfold Utf8.decode;dsimp only;repeat' split
 all_goals (first | exact DW _ | (show 1<=_;omega))
def As3 (s:ByteArray) (b pos:Nat) (h: ¬ pos<s.size):WW s b pos=true:=by
 cases b with
 | zero=>rfl
 | succ b=>unfold WW;rw[Dt h]
def Aq1 (s:ByteArray) (b pos:Nat) (h:pos<s.size):WW s (b+1) pos=if(Utf8.decode s pos).1<32\/(Utf8.decode s pos).1=127 then false else if(Utf8.decode s pos).1=65533/\Lib.hasPrefix (s.data.toList.drop pos) [239,191,189]=false then false else WW s b (pos+(Utf8.decode s pos).2):=by show(if pos<s.size then _ else _)=_;rw[Dw h]
set_option maxHeartbeats 1000000 in
set_option maxRecDepth 1000000 in
def Aq2 (s:ByteArray) (w:World) (R:Bool) (hR:WW s s.size 0=R) (hs:s.size<4294967281) :
 Calls Tryz.prog 242 #[.string s] w fun e w'=>e= .returned (.bool R)/\Below w.heap.size w w':=by
 go_enter Tryz.func242,Tryz.ntmps242
 go_wp2
 go_loopw [] (fun w'=> ∃(pos b:Nat),w'=w.iter s pos/\WW s b pos=R/\s.size<=pos+b) (fun w'=>s.size - w'.iterPos w.heap.size)
 case atStart=>exact⟨0,s.size,rfl,hR,by omega⟩
 case round =>
  obtain⟨pos,b,rfl,hc,hb⟩:=hrel;by_cases hp:pos<s.size
  .have hnx: ∀ ty,(Instr.next (.pointer (some ⟨w.heap.size,0,none⟩)) true ty).run Tryz.prog (w.iter s pos)=_:=fun ty=>run_next_any w s pos ty hp;have hwd:=AkH s pos;cases b with
   | zero=>omega
   | succ b =>
    rw[Aq1 s b pos hp]at hc;have hpx:=fun w=>Tryz.strings_HasPrefix (s.extract pos s.size) ⟨#[239,191,189]⟩ w;generalize h4:Lib.hasPrefix (s.extract pos s.size).data.toList ((⟨#[239,191,189]⟩:ByteArray)).data.toList=B at hpx;generalize Utf8.decode s pos=D at hnx hwd hc;obtain⟨c,k⟩:=D;dsimp only at hnx hwd hc;obtain⟨C,hC⟩: ∃ C:Int,(c:Int)=C:=⟨_,rfl⟩
    rw[hC]at hnx;by_cases h1:c<32
    .have t1:C<32:=by omega
     rw[Dw (Or.inl h1)]at hc;subst hc;clear h1 hC hR
     go_wp2
     go_ret
     exact⟨rfl,Zx _ _ _⟩
    .have t1:32<=C:=by omega
     by_cases h2:c=127
     .have t2:(C==127)=true:=by simp;omega
      rw[Dw (Or.inr h2)]at hc;subst hc;clear h1 h2 hC hR
      go_wp2
      all_goals try (exfalso;omega)
      go_ret
      exact⟨rfl,Zx _ _ _⟩
     .have t2:(C==127)=false:=by simp;omega
      rw[AvH]at hc;by_cases h3:c=65533
      .have t3:(C==65533)=true:=by simp;omega
       cases B with
       | false =>
        rw[Dw ⟨h3,by rw[<- Lib.extract_to_end];exact h4⟩]at hc;subst hc;clear h1 h2 h3 h4 hC hR
        go_wp2_with (go_at_call 268;refine(hpx _).mono ?_;rintro e w' ⟨rfl,rfl⟩)
        all_goals try (exfalso;omega)
        go_ret
        exact⟨rfl,Zx _ _ _⟩
       | true =>
        rw[Dt (fun h=>by have h5:=h.2;rw[<- Lib.extract_to_end]at h5;exact absurd (h4.symm.trans h5) (by decide))]at hc;clear h1 h2 h3 hC
        go_wp2_with (go_at_call 268;refine(hpx _).mono ?_;rintro e w' ⟨rfl,rfl⟩)
        all_goals try (exfalso;omega)
        go_roundw
        case rel=>exact⟨pos+k,b,rfl,hc,by omega⟩
        case measure =>simp;omega
      .have t3:(C==65533)=false:=by simp;omega
       rw[Dt (fun h=>h3 h.1)]at hc;clear h1 h2 h3 hC
       go_wp2
       all_goals try (exfalso;omega)
       go_roundw
       case rel=>exact⟨pos+k,b,rfl,hc,by omega⟩
       case measure =>simp;omega
  .have hnx: ∀ ty,(Instr.next (.pointer (some ⟨w.heap.size,0,none⟩)) true ty).run Tryz.prog (w.iter s pos)=_:=fun ty=>run_next_end w s pos ty hp
   go_wp2
   go_ret
   rw[As3 s b pos hp]at hc;rw[<- hc];exact⟨rfl,Zx _ _ _⟩
end Go.Proofs.YtbgjmioccbacdaaGreatDoor
namespace Go.Proofs.YtbgjmioccbacdaaGreatDoor.Vm
open Go.Proofs Go.RowKit
noncomputable def Ads (N:Nat):Sig:=.of [.cell false .str] [.cell false .bool] (fun a=>Aio N a)
def AfY (N:Nat):Spec Tryz.prog 242 (Ads N) :=
 UG rfl rfl (enters (fn:=Tryz.f242) (by kernel_rfl) (by kernel_rfl) (by decide)) fun O w (a:Bs) (o:Bool) hI h=>by
  have h:(bif decide (List.length a<4294967281)then some (Auq a)else none)=some o:=h;cases hc:decide (List.length a<4294967281)with
  | false=>rw[hc]at h;cases h
  | true =>
  rw[hc]at h;injection h with h;exact(Aq2 ⟨List.toArray a⟩ w o h (D5 hc)).mono fun e w' hq=>hq
end Go.Proofs.YtbgjmioccbacdaaGreatDoor.Vm
