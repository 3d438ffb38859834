import Derived.Test.YtfgdgdnlglejbaaGreatDoorA8
import Derived.Shelf.Strings.Builder1
import Derived.Shelf.Strings.Builder2
import Derived.Shelf.Strings.OnBuilder
import Derived.Shelf.Small.Strs
import Derived.Shelf.Small.Wraps
import Derived.Shelf.Strconv.Itoa0
import Derived.Shelf.Strconv.Itoa1
import Derived.Shelf.LaysM
import Derived.Shelf.Strconv.Itoa2
import Derived.Shelf.Strconv.Itoa3
import Derived.Shelf.Strings.Search1
import Derived.Shelf.Strings.Search2
import Derived.Shelf.Strings.Search3
import Derived.Shelf.Strings.Cut
import Derived.Shelf.Strings.Count
import Derived.Shelf.Strings.Shaped
import Derived.Shelf.Sort.Plain
import Derived.Shelf.Strings.Prefix
import Derived.Shelf.Strings.Split
import Derived.Shelf.Unicode.DecodeSlow
import Derived.Test.YtfgdgdnlglejbaaGreatDoorProg
import Derived.Sort.Grow
import Derived.Lib.Split
import Derived.Lib.ItoaNum
import Derived.Lib.Strings
import Derived.Sort.OwnSorted
import Derived.ArgAppend
import Derived.Outline
import Derived.BigQuiet
import Derived.Deep.RegionWith
import Derived.Lib.Walk
import Derived.Laws.RangeString
import Derived.Laws.RangeAny
import Derived.LoopTactic
import Derived.BigGuardPart
set_option linter.all false
namespace Go.Proofs
open Go.Shelf
def Tryz.lays156_ren:Go.Shelf.Ren:=⟨fun | 156=>209 | 165=>285 | 166=>286 | 169=>287 | 240=>374 | 241=>375 | 276=>418 | 277=>419 | n=>n,fun | 31=>39 | 9=>9 | 3=>3 | 4=>4 | 0=>0 | 20=>20 | 72=>314 | 76=>318 | 70=>312 | 37=>87 | 75=>317 | 127=>350 | 164=>377 | 5=>5 | 80=>111 | n=>n,fun | n=>n⟩
def Tryz.lays156:Go.Proofs.Lays.n156 Tryz.prog Tryz.lays156_ren:= {
 mixed:=by kernel_rfl
 f156:=Tryz.func209.trans (congrArg some (by kernel_rfl))
 f165:=Tryz.func285.trans (congrArg some (by kernel_rfl))
 f166:=Tryz.func286.trans (congrArg some (by kernel_rfl))
 f169:=Tryz.func287.trans (congrArg some (by kernel_rfl))
 f240:=Tryz.func374.trans (congrArg some (by kernel_rfl))
 f241:=Tryz.func375.trans (congrArg some (by kernel_rfl))
 f276:=Tryz.func418.trans (congrArg some (by kernel_rfl))
 f277:=Tryz.func419.trans (congrArg some (by kernel_rfl))
 t0:=Tryz.underlying0
 a0:=Tryz.isAgg0
 z0:=Tryz.sizeOf0
 v0:=Tryz.zeroValue0
 t3:=Tryz.underlying3
 a3:=Tryz.isAgg3
 z3:=Tryz.sizeOf3
 v3:=Tryz.zeroValue3
 t4:=Tryz.underlying4
 a4:=Tryz.isAgg4
 z4:=Tryz.sizeOf4
 v4:=Tryz.zeroValue4
 t9:=Tryz.underlying9
 a9:=Tryz.isAgg9
 z9:=Tryz.sizeOf9
 v9:=Tryz.zeroValue9
 t20:=Tryz.underlying20
 a20:=Tryz.isAgg20
 z20:=Tryz.sizeOf20
 v20:=Tryz.zeroValue20
 t31:=Tryz.underlying39
 a31:=Tryz.isAgg39
 z31:=Tryz.sizeOf39
 v31:=Tryz.zeroValue39
 t37:=Tryz.underlying87
 a37:=Tryz.isAgg87
 z37:=Tryz.sizeOf87
 v37:=Tryz.zeroValue87
 t70:=Tryz.underlying312
 a70:=Tryz.isAgg312
 z70:=Tryz.sizeOf312
 v70:=Tryz.zeroValue312
 t72:=Tryz.underlying314
 a72:=Tryz.isAgg314
 z72:=Tryz.sizeOf314
 v72:=Tryz.zeroValue314
 t75:=Tryz.underlying317
 a75:=Tryz.isAgg317
 z75:=Tryz.sizeOf317
 v75:=Tryz.zeroValue317
 t76:=Tryz.underlying318
 a76:=Tryz.isAgg318
 z76:=Tryz.sizeOf318
 v76:=Tryz.zeroValue318
 t127:=Tryz.underlying350
 a127:=Tryz.isAgg350
 z127:=Tryz.sizeOf350
 v127:=Tryz.zeroValue350
 t164:=Tryz.underlying377
 a164:=Tryz.isAgg377
 z164:=Tryz.sizeOf377
 v164:=Tryz.zeroValue377}
def Tryz.Builder_Extra_156:Builder.Extra Tryz.prog Tryz.lays156_ren:= {
 sizeBuilder:=by kernel_rfl
 liesBuilder:=by kernel_rfl
 t5:=Tryz.underlying5
 a5:=Tryz.isAgg5
 z5:=Tryz.sizeOf5
 v5:=Tryz.zeroValue5
 infoByte:=by kernel_rfl
 cellsByte:=by kernel_rfl
 sizeByte:=by kernel_rfl
 neB5:=by decide}
open Go.RowKit in
def Tryz.strings_Join_none (a:Option Addr) (c:Nat) (sep:ByteArray) (w:World) :
 Calls Tryz.prog 209 #[.slice a 0 c,.string sep] w fun e w'=>e= .returned (.string ⟨#[]⟩)/\w'=w:=Any.strings_Join_none Tryz.lays156 Tryz.Builder_Extra_156 a c sep w
open Go.RowKit in
def Tryz.strings_Join (bk o c:Nat) (xs:List ByteArray) (sep:ByteArray) (w:World) (hcells: ∀(j:Nat) x,xs[j]? =some x->w.cell? ⟨bk,o+j,none⟩=some (.string x)) (hbk:bk<w.heap.size) (hN:xs.length<=140737488355328) (hcap:xs.length<=c) (hlen:(Lib.join (xs.map (·.data.toList)) sep.data.toList).length<=140737488355328) :
 Calls Tryz.prog 209 #[.slice (some ⟨bk,o,none⟩) xs.length c,.string sep] w fun e w'=>e= .returned (.string ⟨(Lib.join (xs.map (·.data.toList)) sep.data.toList).toArray⟩)/\Below w.heap.size w w':=Any.strings_Join Tryz.lays156 Tryz.Builder_Extra_156 bk o c xs sep w hcells hbk hN hcap hlen
def Tryz.Ase:Go.Shelf.Ren:=⟨fun | 137=>364 | 217=>405 | 266=>444 | n=>n,fun | 9=>9 | 5=>5 | 3=>3 | n=>n,fun | n=>n⟩
def Tryz.lays137:Go.Proofs.Lays.n137 Tryz.prog Tryz.Ase:= {
 mixed:=by kernel_rfl
 f137:=Tryz.func364.trans (congrArg some (by kernel_rfl))
 f217:=Tryz.func405.trans (congrArg some (by kernel_rfl))
 f266:=Tryz.func444.trans (congrArg some (by kernel_rfl))
 t3:=Tryz.underlying3
 a3:=Tryz.isAgg3
 z3:=Tryz.sizeOf3
 v3:=Tryz.zeroValue3
 t5:=Tryz.underlying5
 a5:=Tryz.isAgg5
 z5:=Tryz.sizeOf5
 v5:=Tryz.zeroValue5
 t9:=Tryz.underlying9
 a9:=Tryz.isAgg9
 z9:=Tryz.sizeOf9
 v9:=Tryz.zeroValue9}
open Go.RowKit in
def Tryz.strings_IndexByte (s:ByteArray) (c:Int) (w:World) :
 Calls Tryz.prog 364 #[.string s,.int .u8 c] w fun e w'=>e= .returned (.int .i64 (Lib.indexByte s.data.toList c.toNat.toUInt8))/\w'=w:=Any.strings_IndexByte Tryz.lays137 s c w
def Tryz.Asd:Go.Shelf.Ren:=⟨fun | 103=>410 | 210=>450 | 206=>443 | n=>n,fun | 9=>9 | 4=>4 | 24=>371 | 3=>3 | n=>n,fun | n=>n⟩
def Tryz.A05:Go.Proofs.Lays.n103 Tryz.prog Tryz.Asd:= {
 mixed:=by kernel_rfl
 f103:=Tryz.func410.trans (congrArg some (by kernel_rfl))
 f206:=Tryz.func443.trans (congrArg some (by kernel_rfl))
 f210:=Tryz.func450.trans (congrArg some (by kernel_rfl))
 t3:=Tryz.underlying3
 a3:=Tryz.isAgg3
 z3:=Tryz.sizeOf3
 v3:=Tryz.zeroValue3
 t4:=Tryz.underlying4
 a4:=Tryz.isAgg4
 z4:=Tryz.sizeOf4
 v4:=Tryz.zeroValue4
 t9:=Tryz.underlying9
 a9:=Tryz.isAgg9
 z9:=Tryz.sizeOf9
 v9:=Tryz.zeroValue9
 t24:=Tryz.underlying371
 a24:=Tryz.isAgg371
 z24:=Tryz.sizeOf371
 v24:=Tryz.zeroValue371}
open Go.RowKit in
def Tryz.strings_CutPrefix (s p:ByteArray) (w:World) :
 Calls Tryz.prog 410 #[.string s,.string p] w fun e w'=>e= .returned (.tuple #[.string ⟨(Lib.trimPrefix s.data.toList p.data.toList).toArray⟩,.bool (Lib.hasPrefix s.data.toList p.data.toList)])/\w'=w:=Any.strings_CutPrefix Tryz.A05 s p w
def Tryz.Aq7:Go.Shelf.Ren:=⟨fun | 171=>277 | 243=>359 | 246=>403 | 283=>439 | 284=>440 | 285=>441 | 286=>442 | 129=>430 | 317=>465 | 318=>466 | 319=>467 | 320=>468 | 337=>474 | 338=>475 | n=>n,fun | 3=>3 | 9=>9 | 2=>2 | 4=>4 | 171=>399 | 0=>0 | 53=>270 | 37=>87 | 5=>5 | 173=>401 | 212=>413 | 51=>203 | 20=>20 | 213=>414 | 46=>147 | 232=>424 | 233=>425 | n=>n,fun | 17=>2 | 18=>5 | 19=>6 | n=>n⟩
def Tryz.laysM171:Go.Proofs.LaysM.n171 Tryz.prog Tryz.Aq7:= {
 mixed:=by kernel_rfl
 f129:=Tryz.func430.trans (congrArg some (by kernel_rfl))
 f171:=Tryz.func277.trans (congrArg some (by kernel_rfl))
 f243:=Tryz.func359.trans (congrArg some (by kernel_rfl))
 f246:=Tryz.func403.trans (congrArg some (by kernel_rfl))
 f283:=Tryz.func439.trans (congrArg some (by kernel_rfl))
 f284:=Tryz.func440.trans (congrArg some (by kernel_rfl))
 f285:=Tryz.func441.trans (congrArg some (by kernel_rfl))
 f286:=Tryz.func442.trans (congrArg some (by kernel_rfl))
 f317:=Tryz.func465.trans (congrArg some (by kernel_rfl))
 f318:=Tryz.func466.trans (congrArg some (by kernel_rfl))
 f319:=Tryz.func467.trans (congrArg some (by kernel_rfl))
 f320:=Tryz.func468.trans (congrArg some (by kernel_rfl))
 f337:=Tryz.func474.trans (congrArg some (by kernel_rfl))
 f338:=Tryz.func475.trans (congrArg some (by kernel_rfl))
 t0:=Tryz.underlying0
 a0:=Tryz.isAgg0
 z0:=Tryz.sizeOf0
 v0:=Tryz.zeroValue0
 t2:=Tryz.underlying2
 a2:=Tryz.isAgg2
 z2:=Tryz.sizeOf2
 v2:=Tryz.zeroValue2
 t3:=Tryz.underlying3
 a3:=Tryz.isAgg3
 z3:=Tryz.sizeOf3
 v3:=Tryz.zeroValue3
 t4:=Tryz.underlying4
 a4:=Tryz.isAgg4
 z4:=Tryz.sizeOf4
 v4:=Tryz.zeroValue4
 t5:=Tryz.underlying5
 a5:=Tryz.isAgg5
 z5:=Tryz.sizeOf5
 v5:=Tryz.zeroValue5
 t9:=Tryz.underlying9
 a9:=Tryz.isAgg9
 z9:=Tryz.sizeOf9
 v9:=Tryz.zeroValue9
 t20:=Tryz.underlying20
 a20:=Tryz.isAgg20
 z20:=Tryz.sizeOf20
 v20:=Tryz.zeroValue20
 t37:=Tryz.underlying87
 a37:=Tryz.isAgg87
 z37:=Tryz.sizeOf87
 v37:=Tryz.zeroValue87
 t46:=Tryz.underlying147
 a46:=Tryz.isAgg147
 z46:=Tryz.sizeOf147
 v46:=Tryz.zeroValue147
 t51:=Tryz.underlying203
 a51:=Tryz.isAgg203
 z51:=Tryz.sizeOf203
 v51:=Tryz.zeroValue203
 t53:=Tryz.underlying270
 a53:=Tryz.isAgg270
 z53:=Tryz.sizeOf270
 v53:=Tryz.zeroValue270
 t171:=Tryz.underlying399
 a171:=Tryz.isAgg399
 z171:=Tryz.sizeOf399
 v171:=Tryz.zeroValue399
 t173:=Tryz.underlying401
 a173:=Tryz.isAgg401
 z173:=Tryz.sizeOf401
 v173:=Tryz.zeroValue401
 t212:=Tryz.underlying413
 a212:=Tryz.isAgg413
 z212:=Tryz.sizeOf413
 v212:=Tryz.zeroValue413
 t213:=Tryz.underlying414
 a213:=Tryz.isAgg414
 z213:=Tryz.sizeOf414
 t232:=Tryz.underlying424
 a232:=Tryz.isAgg424
 z232:=Tryz.sizeOf424
 v232:=Tryz.zeroValue424
 t233:=Tryz.underlying425
 a233:=Tryz.isAgg425
 z233:=Tryz.sizeOf425
 v233:=Tryz.zeroValue425
 g17:=by kernel_rfl
 g18:=by kernel_rfl
 g19:=by kernel_rfl
 i0:=by kernel_rfl
 i2:=by kernel_rfl
 i3:=by kernel_rfl
 i4:=by kernel_rfl
 i5:=by kernel_rfl
 i9:=by kernel_rfl
 i20:=by kernel_rfl
 i37:=by kernel_rfl
 i46:=by kernel_rfl
 i51:=by kernel_rfl
 i53:=by kernel_rfl
 i171:=by kernel_rfl
 i173:=by kernel_rfl
 i212:=by kernel_rfl
 i232:=by kernel_rfl
 i233:=by kernel_rfl
 m17:=by kernel_rfl
 m18:=by kernel_rfl
 m19:=by kernel_rfl}
open Go.RowKit Go.Sort Go.Lib in
def Tryz.strconv_Itoa (n:Int) (h0: -9223372036854775808<=n) (h1:n<=9223372036854775807) (w:World) (htab:Lib.TabIs Tryz.prog w "internal/strconv.uint64pow10" .u64 Lib.pow10Tab) :
 Calls Tryz.prog 277 #[.int .i64 n] w fun e w'=>e= .returned (.string ⟨(Lib.itoa n).toArray⟩)/\ ∃ k os,w'=grow (w.drewN k) os:=Any.strconv_Itoa Tryz.laysM171 n h0 h1 w htab
def Tryz.Asf:Go.Shelf.Ren:=⟨fun | 144=>411 | 143=>417 | 219=>455 | 217=>405 | 225=>470 | 224=>471 | 267=>472 | 266=>444 | 314=>476 | n=>n,fun | 9=>9 | 4=>4 | 3=>3 | 5=>5 | 46=>147 | 146=>422 | 51=>203 | n=>n,fun | 1=>1 | n=>n⟩
def Tryz.lays144:Go.Proofs.Lays.n144 Tryz.prog Tryz.Asf:= {
 mixed:=by kernel_rfl
 f143:=Tryz.func417.trans (congrArg some (by kernel_rfl))
 f144:=Tryz.func411.trans (congrArg some (by kernel_rfl))
 f217:=Tryz.func405.trans (congrArg some (by kernel_rfl))
 f219:=Tryz.func455.trans (congrArg some (by kernel_rfl))
 f224:=Tryz.func471.trans (congrArg some (by kernel_rfl))
 f225:=Tryz.func470.trans (congrArg some (by kernel_rfl))
 f266:=Tryz.func444.trans (congrArg some (by kernel_rfl))
 f267:=Tryz.func472.trans (congrArg some (by kernel_rfl))
 f314:=Tryz.func476.trans (congrArg some (by kernel_rfl))
 t3:=Tryz.underlying3
 a3:=Tryz.isAgg3
 z3:=Tryz.sizeOf3
 v3:=Tryz.zeroValue3
 t4:=Tryz.underlying4
 a4:=Tryz.isAgg4
 z4:=Tryz.sizeOf4
 v4:=Tryz.zeroValue4
 t5:=Tryz.underlying5
 a5:=Tryz.isAgg5
 z5:=Tryz.sizeOf5
 v5:=Tryz.zeroValue5
 t9:=Tryz.underlying9
 a9:=Tryz.isAgg9
 z9:=Tryz.sizeOf9
 v9:=Tryz.zeroValue9
 t46:=Tryz.underlying147
 a46:=Tryz.isAgg147
 z46:=Tryz.sizeOf147
 v46:=Tryz.zeroValue147
 t51:=Tryz.underlying203
 a51:=Tryz.isAgg203
 z51:=Tryz.sizeOf203
 v51:=Tryz.zeroValue203
 t146:=Tryz.underlying422
 a146:=Tryz.isAgg422
 z146:=Tryz.sizeOf422
 v146:=Tryz.zeroValue422
 g1:=by kernel_rfl}
open Go.RowKit Go.Lib in
def Tryz.strings_Contains (s sub:ByteArray) (m:Int) (w:World) (hs:s.size<4294967281) (hm:w.cell? ⟨1,0,none⟩=some (.int .i64 m)) :
 Calls Tryz.prog 411 #[.string s,.string sub] w fun e w'=>e= .returned (.bool (Lib.contains s.data.toList sub.data.toList))/\w'=w:=Any.strings_Contains Tryz.lays144 s sub m w hs hm
def Tryz.Asg:Go.Shelf.Ren:=⟨fun | 145=>408 | 220=>447 | 219=>455 | 217=>405 | 225=>470 | 224=>471 | 267=>472 | 266=>444 | 314=>476 | n=>n,fun | 9=>9 | 4=>4 | 59=>369 | 3=>3 | 5=>5 | 46=>147 | 146=>422 | 51=>203 | n=>n,fun | 1=>1 | n=>n⟩
def Tryz.lays145:Go.Proofs.Lays.n145 Tryz.prog Tryz.Asg:= {
 mixed:=by kernel_rfl
 f145:=Tryz.func408.trans (congrArg some (by kernel_rfl))
 f217:=Tryz.func405.trans (congrArg some (by kernel_rfl))
 f219:=Tryz.func455.trans (congrArg some (by kernel_rfl))
 f220:=Tryz.func447.trans (congrArg some (by kernel_rfl))
 f224:=Tryz.func471.trans (congrArg some (by kernel_rfl))
 f225:=Tryz.func470.trans (congrArg some (by kernel_rfl))
 f266:=Tryz.func444.trans (congrArg some (by kernel_rfl))
 f267:=Tryz.func472.trans (congrArg some (by kernel_rfl))
 f314:=Tryz.func476.trans (congrArg some (by kernel_rfl))
 t3:=Tryz.underlying3
 a3:=Tryz.isAgg3
 z3:=Tryz.sizeOf3
 v3:=Tryz.zeroValue3
 t4:=Tryz.underlying4
 a4:=Tryz.isAgg4
 z4:=Tryz.sizeOf4
 v4:=Tryz.zeroValue4
 t5:=Tryz.underlying5
 a5:=Tryz.isAgg5
 z5:=Tryz.sizeOf5
 v5:=Tryz.zeroValue5
 t9:=Tryz.underlying9
 a9:=Tryz.isAgg9
 z9:=Tryz.sizeOf9
 v9:=Tryz.zeroValue9
 t46:=Tryz.underlying147
 a46:=Tryz.isAgg147
 z46:=Tryz.sizeOf147
 v46:=Tryz.zeroValue147
 t51:=Tryz.underlying203
 a51:=Tryz.isAgg203
 z51:=Tryz.sizeOf203
 v51:=Tryz.zeroValue203
 t59:=Tryz.underlying369
 a59:=Tryz.isAgg369
 z59:=Tryz.sizeOf369
 v59:=Tryz.zeroValue369
 t146:=Tryz.underlying422
 a146:=Tryz.isAgg422
 z146:=Tryz.sizeOf422
 v146:=Tryz.zeroValue422
 g1:=by kernel_rfl}
open Go.RowKit Go.Lib in
def Tryz.strings_Cut (s sep:ByteArray) (m:Int) (w:World) (hs:s.size<4294967281) (hm:w.cell? ⟨1,0,none⟩=some (.int .i64 m)) :
 Calls Tryz.prog 408 #[.string s,.string sep] w fun e w'=>e= .returned (.tuple #[.string ⟨(Lib.cut s.data.toList sep.data.toList).1.toArray⟩,.string ⟨(Lib.cut s.data.toList sep.data.toList).2.1.toArray⟩,.bool (Lib.cut s.data.toList sep.data.toList).2.2])/\ ∃ n,w'=w.drewN n:=Any.strings_Cut Tryz.lays145 s sep m w hs hm
def Tryz.lays192_ren:Go.Shelf.Ren:=⟨fun | 192=>210 | 190=>288 | 125=>377 | 258=>376 | 128=>429 | 129=>430 | 302=>420 | 303=>421 | 304=>422 | 305=>423 | 306=>424 | 307=>425 | 308=>426 | 309=>427 | 310=>428 | 333=>456 | 329=>457 | 330=>458 | 334=>459 | 335=>460 | 336=>461 | 344=>473 | n=>n,fun | 31=>39 | 0=>0 | 9=>9 | 3=>3 | 46=>147 | 51=>203 | 53=>270 | 4=>4 | 183=>382 | 182=>381 | 131=>222 | 5=>5 | 218=>405 | 222=>360 | 228=>415 | 229=>416 | n=>n,fun | n=>n⟩
def Tryz.lays192:Go.Proofs.Lays.n192 Tryz.prog Tryz.lays192_ren:= {
 mixed:=by kernel_rfl
 f125:=Tryz.func377.trans (congrArg some (by kernel_rfl))
 f128:=Tryz.func429.trans (congrArg some (by kernel_rfl))
 f129:=Tryz.func430.trans (congrArg some (by kernel_rfl))
 f190:=Tryz.func288.trans (congrArg some (by kernel_rfl))
 f192:=Tryz.func210.trans (congrArg some (by kernel_rfl))
 f258:=Tryz.func376.trans (congrArg some (by kernel_rfl))
 f302:=Tryz.func420.trans (congrArg some (by kernel_rfl))
 f303:=Tryz.func421.trans (congrArg some (by kernel_rfl))
 f304:=Tryz.func422.trans (congrArg some (by kernel_rfl))
 f305:=Tryz.func423.trans (congrArg some (by kernel_rfl))
 f306:=Tryz.func424.trans (congrArg some (by kernel_rfl))
 f307:=Tryz.func425.trans (congrArg some (by kernel_rfl))
 f308:=Tryz.func426.trans (congrArg some (by kernel_rfl))
 f309:=Tryz.func427.trans (congrArg some (by kernel_rfl))
 f310:=Tryz.func428.trans (congrArg some (by kernel_rfl))
 f329:=Tryz.func457.trans (congrArg some (by kernel_rfl))
 f330:=Tryz.func458.trans (congrArg some (by kernel_rfl))
 f333:=Tryz.func456.trans (congrArg some (by kernel_rfl))
 f334:=Tryz.func459.trans (congrArg some (by kernel_rfl))
 f335:=Tryz.func460.trans (congrArg some (by kernel_rfl))
 f336:=Tryz.func461.trans (congrArg some (by kernel_rfl))
 f344:=Tryz.func473.trans (congrArg some (by kernel_rfl))
 t0:=Tryz.underlying0
 a0:=Tryz.isAgg0
 z0:=Tryz.sizeOf0
 v0:=Tryz.zeroValue0
 t3:=Tryz.underlying3
 a3:=Tryz.isAgg3
 z3:=Tryz.sizeOf3
 v3:=Tryz.zeroValue3
 t4:=Tryz.underlying4
 a4:=Tryz.isAgg4
 z4:=Tryz.sizeOf4
 v4:=Tryz.zeroValue4
 t5:=Tryz.underlying5
 a5:=Tryz.isAgg5
 z5:=Tryz.sizeOf5
 v5:=Tryz.zeroValue5
 t9:=Tryz.underlying9
 a9:=Tryz.isAgg9
 z9:=Tryz.sizeOf9
 v9:=Tryz.zeroValue9
 t31:=Tryz.underlying39
 a31:=Tryz.isAgg39
 z31:=Tryz.sizeOf39
 v31:=Tryz.zeroValue39
 t46:=Tryz.underlying147
 a46:=Tryz.isAgg147
 z46:=Tryz.sizeOf147
 v46:=Tryz.zeroValue147
 t51:=Tryz.underlying203
 a51:=Tryz.isAgg203
 z51:=Tryz.sizeOf203
 v51:=Tryz.zeroValue203
 t53:=Tryz.underlying270
 a53:=Tryz.isAgg270
 z53:=Tryz.sizeOf270
 v53:=Tryz.zeroValue270
 t131:=Tryz.underlying222
 a131:=Tryz.isAgg222
 z131:=Tryz.sizeOf222
 v131:=Tryz.zeroValue222
 t182:=Tryz.underlying381
 a182:=Tryz.isAgg381
 z182:=Tryz.sizeOf381
 v182:=Tryz.zeroValue381
 t183:=Tryz.underlying382
 a183:=Tryz.isAgg382
 z183:=Tryz.sizeOf382
 v183:=Tryz.zeroValue382
 t218:=Tryz.underlying405
 a218:=Tryz.isAgg405
 z218:=Tryz.sizeOf405
 v218:=Tryz.zeroValue405
 t222:=Tryz.underlying360
 a222:=Tryz.isAgg360
 z222:=Tryz.sizeOf360
 v222:=Tryz.zeroValue360
 t228:=Tryz.underlying415
 a228:=Tryz.isAgg415
 z228:=Tryz.sizeOf415
 v228:=Tryz.zeroValue415
 t229:=Tryz.underlying416
 a229:=Tryz.isAgg416
 z229:=Tryz.sizeOf416
 v229:=Tryz.zeroValue416}
open Go.Sort Go.RowKit in
def Tryz.sort_Strings (blk off cap:Nat) (ss:List (List UInt8)) (w:World) (hH:Holds encStr w blk off ss.toArray) (hblk:blk<w.heap.size) (hsz:ss.length<4611686018427387904) :
 Calls Tryz.prog 210 #[.slice (some ⟨blk,off,none⟩) ss.length cap] w fun e w' =>
  e= .returned (.tuple #[])/\ ∃ n os,w'=grow (putRow encStr (Sort.ahead w n) blk off (ss.mergeSort fun x y=>decide (x<=y)).toArray) os:=Any.sort_Strings Tryz.lays192 blk off cap ss w hH hblk hsz
def Tryz.lays99_ren:Go.Shelf.Ren:=⟨fun | 99=>404 | 206=>443 | n=>n,fun | 9=>9 | 4=>4 | 3=>3 | n=>n,fun | n=>n⟩
def Tryz.lays99:Go.Proofs.Lays.n99 Tryz.prog Tryz.lays99_ren:= {
 mixed:=by kernel_rfl
 f99:=Tryz.func404.trans (congrArg some (by kernel_rfl))
 f206:=Tryz.func443.trans (congrArg some (by kernel_rfl))
 t3:=Tryz.underlying3
 a3:=Tryz.isAgg3
 z3:=Tryz.sizeOf3
 v3:=Tryz.zeroValue3
 t4:=Tryz.underlying4
 a4:=Tryz.isAgg4
 z4:=Tryz.sizeOf4
 v4:=Tryz.zeroValue4
 t9:=Tryz.underlying9
 a9:=Tryz.isAgg9
 z9:=Tryz.sizeOf9
 v9:=Tryz.zeroValue9}
open Go.RowKit Go.Lib in
def Tryz.strings_HasPrefix (s p:ByteArray) (w:World) :
 Calls Tryz.prog 404 #[.string s,.string p] w fun e w'=>e= .returned (.bool (Lib.hasPrefix s.data.toList p.data.toList))/\w'=w:=Any.strings_HasPrefix Tryz.lays99 s p w
def Tryz.lays101_ren:Go.Shelf.Ren:=⟨fun | 101=>407 | 208=>446 | 206=>443 | n=>n,fun | 9=>9 | 4=>4 | 3=>3 | n=>n,fun | n=>n⟩
def Tryz.lays101:Go.Proofs.Lays.n101 Tryz.prog Tryz.lays101_ren:= {
 mixed:=by kernel_rfl
 f101:=Tryz.func407.trans (congrArg some (by kernel_rfl))
 f206:=Tryz.func443.trans (congrArg some (by kernel_rfl))
 f208:=Tryz.func446.trans (congrArg some (by kernel_rfl))
 t3:=Tryz.underlying3
 a3:=Tryz.isAgg3
 z3:=Tryz.sizeOf3
 v3:=Tryz.zeroValue3
 t4:=Tryz.underlying4
 a4:=Tryz.isAgg4
 z4:=Tryz.sizeOf4
 v4:=Tryz.zeroValue4
 t9:=Tryz.underlying9
 a9:=Tryz.isAgg9
 z9:=Tryz.sizeOf9
 v9:=Tryz.zeroValue9}
open Go.RowKit Go.Lib in
def Tryz.strings_TrimPrefix (s p:ByteArray) (w:World) :
 Calls Tryz.prog 407 #[.string s,.string p] w fun e w'=>e= .returned (.string ⟨(Lib.trimPrefix s.data.toList p.data.toList).toArray⟩)/\w'=w:=Any.strings_TrimPrefix Tryz.lays101 s p w
def Tryz.lays146_ren:Go.Shelf.Ren:=⟨fun | 146=>282 | 221=>373 | 268=>415 | 138=>416 | 143=>417 | 195=>452 | 197=>453 | 218=>454 | 219=>455 | 260=>469 | 217=>405 | 225=>470 | 224=>471 | 267=>472 | 266=>444 | 314=>476 | n=>n,fun | 9=>9 | 31=>39 | 3=>3 | 4=>4 | 0=>0 | 105=>403 | 21=>21 | 5=>5 | 46=>147 | 119=>418 | 139=>421 | 138=>420 | 146=>422 | 51=>203 | n=>n,fun | 1=>1 | 3=>3 | 4=>4 | n=>n⟩
def Tryz.lays146:Go.Proofs.Lays.n146 Tryz.prog Tryz.lays146_ren:= {
 mixed:=by kernel_rfl
 f138:=Tryz.func416.trans (congrArg some (by kernel_rfl))
 f143:=Tryz.func417.trans (congrArg some (by kernel_rfl))
 f146:=Tryz.func282.trans (congrArg some (by kernel_rfl))
 f195:=Tryz.func452.trans (congrArg some (by kernel_rfl))
 f197:=Tryz.func453.trans (congrArg some (by kernel_rfl))
 f217:=Tryz.func405.trans (congrArg some (by kernel_rfl))
 f218:=Tryz.func454.trans (congrArg some (by kernel_rfl))
 f219:=Tryz.func455.trans (congrArg some (by kernel_rfl))
 f221:=Tryz.func373.trans (congrArg some (by kernel_rfl))
 f224:=Tryz.func471.trans (congrArg some (by kernel_rfl))
 f225:=Tryz.func470.trans (congrArg some (by kernel_rfl))
 f260:=Tryz.func469.trans (congrArg some (by kernel_rfl))
 f266:=Tryz.func444.trans (congrArg some (by kernel_rfl))
 f267:=Tryz.func472.trans (congrArg some (by kernel_rfl))
 f268:=Tryz.func415.trans (congrArg some (by kernel_rfl))
 f314:=Tryz.func476.trans (congrArg some (by kernel_rfl))
 t0:=Tryz.underlying0
 a0:=Tryz.isAgg0
 z0:=Tryz.sizeOf0
 v0:=Tryz.zeroValue0
 t3:=Tryz.underlying3
 a3:=Tryz.isAgg3
 z3:=Tryz.sizeOf3
 v3:=Tryz.zeroValue3
 t4:=Tryz.underlying4
 a4:=Tryz.isAgg4
 z4:=Tryz.sizeOf4
 v4:=Tryz.zeroValue4
 t5:=Tryz.underlying5
 a5:=Tryz.isAgg5
 z5:=Tryz.sizeOf5
 v5:=Tryz.zeroValue5
 t9:=Tryz.underlying9
 a9:=Tryz.isAgg9
 z9:=Tryz.sizeOf9
 v9:=Tryz.zeroValue9
 t21:=Tryz.underlying21
 a21:=Tryz.isAgg21
 z21:=Tryz.sizeOf21
 v21:=Tryz.zeroValue21
 t31:=Tryz.underlying39
 a31:=Tryz.isAgg39
 z31:=Tryz.sizeOf39
 v31:=Tryz.zeroValue39
 t46:=Tryz.underlying147
 a46:=Tryz.isAgg147
 z46:=Tryz.sizeOf147
 v46:=Tryz.zeroValue147
 t51:=Tryz.underlying203
 a51:=Tryz.isAgg203
 z51:=Tryz.sizeOf203
 v51:=Tryz.zeroValue203
 t105:=Tryz.underlying403
 a105:=Tryz.isAgg403
 z105:=Tryz.sizeOf403
 v105:=Tryz.zeroValue403
 t119:=Tryz.underlying418
 a119:=Tryz.isAgg418
 z119:=Tryz.sizeOf418
 t138:=Tryz.underlying420
 a138:=Tryz.isAgg420
 z138:=Tryz.sizeOf420
 v138:=Tryz.zeroValue420
 t139:=Tryz.underlying421
 a139:=Tryz.isAgg421
 z139:=Tryz.sizeOf421
 v139:=Tryz.zeroValue421
 t146:=Tryz.underlying422
 a146:=Tryz.isAgg422
 z146:=Tryz.sizeOf422
 v146:=Tryz.zeroValue422
 g1:=by kernel_rfl
 g3:=by kernel_rfl
 g4:=by kernel_rfl}
open Go.RowKit Go.Lib in
def Tryz.strings_Split (s sep:ByteArray) (m:Int) (w:World) (hs:s.size<4294967281) (hm:w.cell? ⟨1,0,none⟩=some (.int .i64 m)) (h1:1<=sep.size) :
 Calls Tryz.prog 282 #[.string s,.string sep] w fun e w' =>
  e= .returned (.slice (some ⟨w.heap.size,0,none⟩) (Lib.countB s sep+1) (Lib.countB s sep+1))/\w'=w.alloc (.cells ((Lib.splitB sep 0 (Lib.countB s sep) s).map Value.string).toArray 9):=Any.strings_Split Tryz.lays146 (by kernel_rfl) s sep m w hs hm h1
end Go.Proofs
namespace Go.Proofs.YtfgdgdnlglejbaaGreatDoor.Vm
open Go.Proofs
noncomputable def fB (N:Nat):Sig:=TA 9 N
def nK (N:Nat):Spec Tryz.prog 209 (fB N) :=
 AlM (enters (fn:=Tryz.f209) (by kernel_rfl) (by kernel_rfl) (by decide)) ⟨Tryz.strings_Join_none,Tryz.strings_Join⟩
open Go.RowKit
def CK.flat:CK->Bool | .bool=>true | .int _=>true | .str=>true | _=>false
def Sh.flat:Sh->Bool | .cell false k=>k.flat | _=>false
def A.flat:A->Bool | .bool _=>true | .int _ _=>true | .str _=>true | _=>false
def rvA:A->Value | .bool b=>.bool b | .int k n=>.int k n | .str s=>.string ⟨s.toArray⟩ | _=>undef
def A0t {O:Own} {w:World} {id:Nat} {v:Value} {x:A} (hf:x.flat=true) (h:IR O w id v x):v=rvA x:=by
 cases x with
 | bool b=>have h':JA O w v (.bool b):=h;cases h';rfl
 | int k n=>have h':JA O w v (.int k n):=h;cases h';rfl
 | str s=>exact Uz (show JA O w v (.str s)from h)
 | _=>cases hf
def A0N {O:Own} {w:World} {id:Nat} {x:A} (hf:x.flat=true):IR O w id (rvA x) x:=by
 cases x with
 | bool b=>exact JA.bool b
 | int k n=>exact JA.int k n
 | str s=>exact JA.str (O:=O) (w:=w) ⟨s.toArray⟩
 | _=>cases hf
def Sh.Ayi {s:Sh} (h:s.flat=true) (v:s.T):(s.enc v).flat=true:=by
 cases s with
 | cell u k=>cases u<;>cases k<;>first | (cases h;done) | rfl
 | _=>cases h
def Afm: ∀(ss:List Sh) (v:ShT ss),ss.all Sh.flat=true->(encs ss v).all A.flat=true:=by
 intro ss
 induction ss with
 | nil=>intro v _;rfl
 | cons s r ih =>intro v h;rw[List.all_cons,Dw]at h;show((s.enc _).flat&&(encs r _).all A.flat)=true;rw[Sh.Ayi h.1,ih _ h.2];rfl
def Ayj: ∀(ss:List Sh) (v:ShT ss),(encs ss v).length=ss.length:=by
 intro ss
 induction ss with
 | nil=>intro v;rfl
 | cons s r ih=>intro v;show(encs r _).length+1=_;rw[ih];rfl
def Akc: ∀(ss:List Sh) (i:Nat),ss.all Sh.flat=true->L6 ss i=[]:=by
 intro ss
 induction ss with
 | nil=>intro i _;rfl
 | cons s r ih =>
  intro i h;rw[List.all_cons,Dw]at h;unfold L6;have:KH s=false:=by cases s<;>first | rfl | (cases h.1;done)
  rw[this];exact ih _ h.2
def Axf (J6 JJ:List Sh) (h:J6.all Sh.flat=true):MV J6 JJ=JJ:=by unfold MV;rw[List.filterMap_eq_nil_iff.2 (fun s hs=> ?_),DL];have:=D7.1 h s hs;cases s<;>first | rfl | (cases this;done)
def AnM {l:List A} (h:l.all A.flat=true) {j:Nat} (hj:j<l.length):(l.getD j .undef).flat=true:=by rw[Dn,D9 hj];exact D7.1 h _ (EU hj)
def Aib (l:List A) (j:Nat) (hj:j<l.length):((l.map rvA).toArray).getD j undef=rvA (l.getD j .undef):=by simp [Dq,Dn,hj]
def AvV {O:Own} {w w':World} {vs:Array Value} {sg:Sig} {rs:List A} (hp:sg.J6.all Sh.flat=true) (hl:rs.length=sg.JJ.length) (hf:rs.all A.flat=true) (hb:Below w.heap.size w w'):Came O w vs sg rs (Ar8 (rs.map rvA).toArray) O w':=by
 have hix:L6 sg.J6 0=[]:=Akc _ _ hp;refine⟨Below.moves hb,fun b k _ h=>h,fun b k _ h=>h,by rw[hix,hl];rfl,⟨(rs.map rvA).toArray,by simp [hl],rfl,fun k hk=> ?_⟩,fun j i hj=> ?_⟩
 .have hk':k<rs.length:=by simpa using hk
  rw[Aib rs k hk'];exact A0N (AnM hf hk')
 .rw[hix]at hj;cases hj
def An7 {O:Own} {w:World} {vs:Array Value} {xs:List A} (hf:xs.all A.flat=true) (hv:vs.size=xs.length) (hx: ∀ j,j<xs.length->IR O w (256*j) (vs.getD j undef) (xs.getD j .undef)):vs=(xs.map rvA).toArray:=by
 apply Fp
 .simp [hv]
 .intro i h1 h2;have hi:i<xs.length:=by omega
  have:=A0t (AnM hf hi) (hx i hi);rw[<- Aib xs i hi]at this;simp only[Dq,DC h1,DC h2,Option.getD_some]at this;exact this
def ArJ (w:World) (k:Nat) (os:Array Go.Obj):Below w.heap.size w (Go.Sort.grow (w.drewN k) os) :=
 ⟨rfl,rfl,rfl,by show _<=(w.heap++os).size;simp,fun i hi=>by show(w.heap++os)[i]? =_;rw[ER hi]⟩
def WE {P:Program} {f:FuncId} {J6 JJ:List Sh} {g:ShT J6->Option (ShT (MV J6 JJ))} (hp:J6.all Sh.flat=true) (hr:JJ.all Sh.flat=true) (hent: ∀ args w,(callFunc f args).run P w= .ok (.enter f args) w)
 (H: ∀(O:Own) (w:World) (a:ShT J6) (o:ShT (MV J6 JJ)),Inv O w->g a=some o->Calls P f ((encs J6 a).map rvA).toArray w fun e w'=>e= .returned (Ar8 ((encs (MV J6 JJ) o).map rvA).toArray)/\Below w.heap.size w w'):Spec P f (Sig.of J6 JJ g):=by
 refine⟨hent,fun O w vs xs rs hI hv hl _ hx hrs=> ?_⟩;obtain⟨a,o,h1,h2,h3⟩:=Sig.Abf hrs;subst h1;have hvs:=An7 (Afm J6 a hp) hv hx;rw[hvs];refine(H O w a o hI h2).mono fun e w' hq=> ?_;obtain⟨he,hb⟩:=hq;subst h3;have ho:MV J6 JJ=JJ:=Axf J6 JJ hp;refine⟨_,O,he,AvV (sg:=Sig.of J6 JJ g) hp ?_ ?_ hb⟩
 .rw[Ayj,ho];rfl
 .exact Afm _ _ (by rw[ho];exact hr)
def strings_Split (_:Nat) (s sep:Bs):Option (List Bs):=bif decide (s.length<4294967281)&&decide (1<=sep.length)then some (Lib.split s sep)else none
def strings_IndexByte (_:Nat) (s:Bs) (c:Int):Option Int:=some (Lib.indexByte s c.toNat.toUInt8)
def strings_Cut (_:Nat) (s sep:Bs):Option (Bs×Bs×Bool):=bif decide (s.length<4294967281)then some (Lib.cut s sep)else none
def strings_CutPrefix (_:Nat) (s p:Bs):Option (Bs×Bool):=some (Lib.trimPrefix s p,Lib.hasPrefix s p)
def strings_TrimPrefix (_:Nat) (s p:Bs):Option Bs:=some (Lib.trimPrefix s p)
def strings_HasPrefix (_:Nat) (s p:Bs):Option Bool:=some (Lib.hasPrefix s p)
def strings_Contains (_:Nat) (s p:Bs):Option Bool:=bif decide (s.length<4294967281)then some (Lib.contains s p)else none
def strconv_Itoa (_:Nat) (n:Int):Option Bs:=bif decide (-9223372036854775808<=n)&&decide (n<=9223372036854775807)then some (Lib.itoa n)else none
def Yf (l:List Bs):Bs:=(l.mergeSort fun x y=>decide (x<=y)).flatten
def Xh (_:Nat) (l:List Bs):Option Bs:=bif decide (0<l.length)&&(decide (l.length<=1099511627776)&&decide (l.flatten.length<=140737488355328))then some (Yf l)else none
def Zu (s:ByteArray):Nat->Nat->Bool
 | 0,_=>true
 | n+1,i=>if i<s.size then
  let d:=Utf8.decode s i
  if d.1<32\/d.1=127 then false
  else if d.1=65533/\Lib.hasPrefix (s.data.toList.drop i) [239,191,189]=false then false
  else Zu s n (i+d.2)
  else true
def A2y (s:Bs):Bool:=Zu ⟨s.toArray⟩ s.length 0
def Ar1 (_:Nat) (s:Bs):Option Bool:=bif decide (s.length<4294967281)then some (A2y s)else none
open Go.Proofs Go.RowKit
noncomputable def Xc (N:Nat):Sig:=.of [.cell false .str,.cell false .str] [.cell false .bool] (fun a=>strings_Contains N a.1 a.2)
def Zt (N:Nat):Spec Tryz.prog 411 (Xc N) :=
 WE rfl rfl (enters (fn:=Tryz.f411) (by kernel_rfl) (by kernel_rfl) (by decide)) fun O w (a:Bs×Bs) (o:Bool) hI h=>by
  obtain⟨s,c⟩:=a;have h:(bif decide (List.length s<4294967281)then some (Lib.contains s c)else none)=some o:=h;cases hc:decide (List.length s<4294967281)with
  | false=>rw[hc]at h;cases h
  | true =>
  rw[hc]at h;injection h with h;subst h;have hs:=D6 hc;obtain⟨_,v,hm,m,rfl⟩:=hI.1 1 0 _ rfl;refine(Tryz.strings_Contains ⟨List.toArray s⟩ ⟨List.toArray c⟩ m w hs hm).mono fun e w' hq=> ?_;obtain⟨h1,h2⟩:=hq;subst h2;exact⟨h1,Below.refl _ _⟩
noncomputable def bY (N:Nat):Sig:=.of [.cell false .str,.cell false .str] [.cell false .str,.cell false .bool] (fun a=>strings_CutPrefix N a.1 a.2)
def Aac (N:Nat):Spec Tryz.prog 410 (bY N) :=
 WE rfl rfl (enters (fn:=Tryz.f410) (by kernel_rfl) (by kernel_rfl) (by decide)) fun O w (a:Bs×Bs) (o:Bs×Bool) hI h=>by obtain⟨s,c⟩:=a;have h:some ((Lib.trimPrefix s c,Lib.hasPrefix s c))=some o:=h;injection h with h;subst h;refine(Tryz.strings_CutPrefix ⟨List.toArray s⟩ ⟨List.toArray c⟩ w).mono fun e w' hq=> ?_;obtain⟨h1,h2⟩:=hq;subst h2;exact⟨h1,Below.refl _ _⟩
noncomputable def AdC (N:Nat):Sig:=.of [.cell false .str,.cell false .str] [.cell false .str,.cell false .str,.cell false .bool] (fun a=>strings_Cut N a.1 a.2)
def AjG (N:Nat):Spec Tryz.prog 408 (AdC N) :=
 WE rfl rfl (enters (fn:=Tryz.f408) (by kernel_rfl) (by kernel_rfl) (by decide)) fun O w (a:Bs×Bs) (o:Bs×Bs×Bool) hI h=>by
  obtain⟨s,c⟩:=a;have h:(bif decide (List.length s<4294967281)then some (Lib.cut s c)else none)=some o:=h;cases hc:decide (List.length s<4294967281)with
  | false=>rw[hc]at h;cases h
  | true =>
  rw[hc]at h;injection h with h;subst h;have hs:=D6 hc;obtain⟨_,v,hm,m,rfl⟩:=hI.1 1 0 _ rfl;refine(Tryz.strings_Cut ⟨List.toArray s⟩ ⟨List.toArray c⟩ m w hs hm).mono fun e w' hq=> ?_;obtain⟨h1,n,h2⟩:=hq;subst h2;exact⟨h1,⟨rfl,rfl,rfl,DW _,fun _ _=>rfl⟩⟩
noncomputable def VK (N:Nat):Sig:=.of [.cell false .str,.cell false (.int .u8)] [.cell false (.int .i64)] (fun a=>strings_IndexByte N a.1 a.2)
def Yp (N:Nat):Spec Tryz.prog 364 (VK N) :=
 WE rfl rfl (enters (fn:=Tryz.f364) (by kernel_rfl) (by kernel_rfl) (by decide)) fun O w (a:Bs×Int) (o:Int) hI h=>by obtain⟨s,c⟩:=a;have h:some (Lib.indexByte s c.toNat.toUInt8)=some o:=h;injection h with h;subst h;refine(Tryz.strings_IndexByte ⟨List.toArray s⟩ c w).mono fun e w' hq=> ?_;obtain⟨h1,h2⟩:=hq;subst h2;exact⟨h1,Below.refl _ _⟩
def AyH {O:Own} {w:World} (hI:Inv O w):Lib.TabIs Tryz.prog w "internal/strconv.uint64pow10" .u64 Lib.pow10Tab:=by
 obtain⟨c,e,fr,h1,h2⟩:=hI.2 2 20 rfl;have hg:Tryz.prog.globalNamed "internal/strconv.uint64pow10" =some 2:=by kernel_rfl
 unfold Lib.TabIs World.var?;rw[hg];show(match w.heap[2]? with | some (.cells cs _ _)=>some cs | _=>none)=_;rw[h1];refine congrArg some (Fp (by rw[h2];simp [Lib.pow10Tab_length]) fun i hi hi'=> ?_);have hi20:i<20:=by omega
 obtain⟨_,v,hv,hp⟩:=hI.1 2 i _ (Dt hi20)
 have hv':c[i]? =some v:=by
  have:w.cell? (at' 2 i)=c[i]? :=by simp [World.cell?,h1]
  rw[<- this];exact hv
 rw[DC hi]at hv';injection hv' with hv';rw[hv',hp];simp [Lib.pow10Tab]
noncomputable def Ab2 (N:Nat):Sig:=.of [.cell false (.int .i64)] [.cell false .str] (fun a=>strconv_Itoa N a)
def AhL (N:Nat):Spec Tryz.prog 277 (Ab2 N) :=
 WE rfl rfl (enters (fn:=Tryz.f277) (by kernel_rfl) (by kernel_rfl) (by decide)) fun O w (a:Int) (o:Bs) hI h=>by
  have h:(bif decide (-9223372036854775808<=a)&&decide (a<=9223372036854775807)then some (Lib.itoa a)else none)=some o:=h;cases hc:(decide (-9223372036854775808<=a)&&decide (a<=9223372036854775807))with
  | false=>rw[hc]at h;cases h
  | true =>
  rw[hc]at h;injection h with h;subst h;rw[Dw,DK,DK]at hc;refine(Tryz.strconv_Itoa a hc.1 hc.2 w (AyH hI)).mono fun e w' hq=> ?_;obtain⟨h1,k,os,h2⟩:=hq;subst h2;exact⟨h1,ArJ _ _ _⟩
end Go.Proofs.YtfgdgdnlglejbaaGreatDoor.Vm
namespace Go.Proofs.YtfgdgdnlglejbaaGreatDoor
open Go.RowKit Go.Sort Vm
def AnR (l:List (List UInt8)):Lib.join l []=l.flatten:=by
 cases l with
 | nil=>rfl
 | cons a r =>rw[Lib.join_cons];unfold Lib.joinTail;simp
def A04 {w:World} {g cap n:Nat} {ts:List Bs} {cur:Array Value} {e:TypeId} (hn:ts.length=n) (hb:w.heap[g]? =some (.cells cur e (0,0))) (ht:cur.toList.take n=ts.map encStr) (hc:n<=cap) (h1:n<=140737488355328) (hl:ts.flatten.length<=140737488355328) :
 Calls Tryz.prog 209 #[.slice (some ⟨g,0,none⟩) n cap,.string ⟨#[]⟩] w fun e w'=>e= .returned (.string ⟨ts.flatten.toArray⟩)/\Below w.heap.size w w':=by
 have hm:(ts.map (fun s=>(⟨s.toArray⟩:ByteArray))).map (·.data.toList)=ts:=by
  rw[EC]
  conv=>rhs;rw[<- FY ts]
  refine Ea fun s _=> ?_;simp
 have hj:=Tryz.strings_Join g 0 cap (ts.map (fun s=>(⟨s.toArray⟩:ByteArray))) ⟨#[]⟩ w (fun j x hx=>by
  have hx':(ts.map encStr)[j]? =some (.string x):=by
   rw[Eu]at hx ⊢;cases hq:ts[j]? with
   | none=>rw[hq]at hx;cases hx
   | some y=>rw[hq]at hx;injection hx with hx;rw[<- hx];rfl
  rw[<- ht]at hx'
  have hjn:j<n:=by
   rcases Ef j n with h | h
   .exact h
   .rw[List.getElem?_take_eq_none h]at hx';cases hx'
  rw[Gy hjn,Eb]at hx';simp only[World.cell?,hb,DT];exact hx') (DX.1 hb).1 (by rw[Dz,hn];exact h1) (by rw[Dz,hn];exact hc) (by rw[hm];show(Lib.join ts []).length<=_;rw[AnR];exact hl)
 rw[Dz,hn,hm]at hj;refine hj.mono fun e w' hq=>⟨hq.1.trans ?_,hq.2⟩
 show Ending.returned (Value.string ⟨(Lib.join ts []).toArray⟩)=_;rw[AnR]
def Aqq {a b:List Bs} (h:a.Perm b):a.flatten.length=b.flatten.length:=by rw[GY,GY];exact(h.map _).sum_nat
set_option maxHeartbeats 1000000 in
set_option maxRecDepth 1000000 in
def Avb (w:World) (b o c:Nat) (ss:List Bs) (R:Bs) (hR:Yf ss=R) (h0:0<ss.length) (hlen:ss.length<=1099511627776) (hflat:ss.flatten.length<=140737488355328)
 (hcells: ∀(j:Nat) (u:Value),(ss.map encStr)[j]? =some u->w.cell? ⟨b,o+j,none⟩=some u) :
 Calls Tryz.prog 125 #[.slice (some ⟨b,o,none⟩) ss.length c] w fun e w'=>e= .returned (.string ⟨R.toArray⟩)/\Below w.heap.size w w':=by
 have hi:Tryz.prog.info? 9=some _:=rfl
 go_enter Tryz.func125,Tryz.ntmps125
 go_wp2_with (at_builtin;go_loud (refine wpList_append_grows w rfl _ _ _ rfl 9 _ _ 1 16 rfl hi rfl rfl rfl rfl (by decide) none 0 0 [] rfl (fun _=>⟨rfl,rfl⟩) rfl (fun _ h=>by cases h) ⟨b,o,none⟩ ss.length c (ss.map encStr) rfl (by simp) (fun j u h=>by rw[Addr.add_lit];exact hcells j u h) (fun u hu=>by obtain⟨x,_,rfl⟩:=DJ.1 hu;rfl) (by omega) (by show _<=maxLen;simp only[maxLen];omega) (by omega) ?_))
 intro v' w1 hown hgr;rcases hown.2 with ⟨_,h⟩ | ⟨g,cap,cur,rfl,hbase,hbk,h1,h2,h3,h4⟩
 .exfalso;omega
 have h4':cur.toList.take ss.length=ss.map encStr:=by simpa using h4
 have hH:Holds encStr w1 g 0 ss.toArray:=holds_of_block hbk h4';have hB1:Below w.heap.size w w1:=Below.grown (Below.refl _ _) hgr (DW _) (fun k hk=>by cases hk);have hsort:=Tryz.sort_Strings g 0 cap ss w1 hH (DX.1 hbk).1 (by omega);have hperm:(ss.mergeSort fun x y=>decide (x<=y)).Perm ss:=Ir _ _;have hord:Yf ss=(ss.mergeSort fun x y=>decide (x<=y)).flatten:=rfl;have hfl:=Aqq hperm;have hts:=hperm.length_eq;generalize (ss.mergeSort fun x y=>decide (x<=y))=ts at hsort hord hfl hts;have hRt:ts.flatten=R:=hord.symm.trans hR;have hB2: ∀ n os,Below w.heap.size w (grow (putRow encStr (Sort.ahead w1 n) g 0 ts.toArray) os):=fun n os=>Below.grown hB1 (grownBy_sorted ts.toArray) hB1.size (fun k hk=>by injection hk with hk;omega);have hJ: ∀ n os,Calls Tryz.prog 209 #[.slice (some ⟨g,0,none⟩) ss.length cap,.string ⟨#[]⟩] (grow (putRow encStr (Sort.ahead w1 n) g 0 ts.toArray) os) fun e w'=>e= .returned (.string ⟨R.toArray⟩)/\Below w.heap.size w w':=fun n os=>by rw[<- hRt];refine(A04 (n:=ss.length) hts (heap_sorted ts.toArray hbk) (by rw[<- hts];exact take_putCells cur ts (by omega)) h1 (by omega) (by omega)).mono fun e w' hq=>⟨hq.1,(hB2 n os).trans (hq.2.mono (hB2 n os).size)⟩
 clear hown hgr hcells h4 h4' hH hB1 hB2 hord hfl hperm hR hRt
 go_wp2_with (first | (go_at_call 210;refine hsort.mono ?_;rintro e w2 ⟨rfl,n,os,rfl⟩;have hJ2:=hJ n os;generalize (grow (putRow encStr (Sort.ahead w1 n) g 0 ts.toArray) os)=w3 at hJ2 ⊢) | (go_at_call 209;refine hJ2.mono ?_;rintro e w4 ⟨rfl,hb4⟩))
 go_ret
 exact⟨rfl,hb4⟩
end Go.Proofs.YtfgdgdnlglejbaaGreatDoor
namespace Go.Proofs.YtfgdgdnlglejbaaGreatDoor.Vm
open Go.Proofs Go.RowKit
noncomputable def Aad (N:Nat):Sig:=.of [.cell false (.sl 9 (.str .nil))] [.cell false .str] (fun a=>Xh N a)
def Apm {N:Nat} {O:Own} {w:World} {vs:Array Value} (l:List Bs) (out:Bs) (hv:vs.size=1) (hx0:JA O w (vs.getD 0 undef) (.sl ⟨.str .nil,l⟩)) (h2':Xh N l=some out) :
 Calls Tryz.prog 125 vs w fun e' w'=> ∃ v O',e'= .returned v/\Came O w vs (Aad N) [.str out] v O' w':=by
 unfold Xh at h2'
 have hv1:vs= #[vs.getD 0 undef]:=by
  apply Fp
  .exact hv
  .intro i h1 h2;have:i=0:=by simp at h2;omega
   subst this;simp [Dq,h1]
 cases hc:(decide (0<l.length)&&(decide (l.length<=1099511627776)&&decide (l.flatten.length<=140737488355328)))with
 | false=>rw[hc]at h2';cases h2'
 | true =>
  rw[hc]at h2';injection h2' with h2';simp only[Dw,DK]at hc;obtain⟨c0,c1,c2⟩:=hc;rw[hv1];generalize vs.getD 0 undef=v0 at hx0;have hes0:(⟨.str .nil,l⟩:Sl).es=l.map (fun s:Bs=>[A.str s]):=rfl;have hsz:(⟨.str .nil,l⟩:Sl).sz=1:=rfl;generalize hL:(⟨.str .nil,l⟩:Sl)=L at hx0 hes0 hsz;have hlen:L.es.length=l.length:=by rw[hes0,Dz]
  cases hx0 with
  | nil t =>
   have:l=[]:=by injection hL with h1 h2;subst h1;exact II h2
   rw[this]at c0;exact absurd c0 (by decide)
  | sl0 ad t =>
   have:l=[]:=by injection hL with h1 h2;subst h1;exact II h2
   rw[this]at c0;exact absurd c0 (by decide)
  | @sl b off cap l' vs' hcap hm hr =>
   have hw:=Avb w b off cap l out h2' c0 c1 c2 (fun j u hj=>by
    have hjl:j<l.length:=by
     rcases Ef j (l.length)with h | h
     .exact h
     .rw[Ec (by simpa using h)]at hj;cases hj
    have hm1:=(hm j 0 (by rw[hlen];exact hjl) (by rw[hsz];omega)).2;have hr1:=hr j 0 (by rw[hlen];exact hjl) (by rw[hsz];omega);have e1:off+(j*L.sz+0)=off+j:=by rw[hsz];omega
    rw[e1]at hm1;rw[Eu,D9 hjl]at hj;injection hj with hj;have e2:(L.es.getD j []).getD 0 .undef= .str (l[j]):=by rw[hes0];simp [Dn,hjl]
    rw[e2]at hr1;rw[<- hj,hm1,Uz hr1])
   rw[<- hlen]at hw;refine hw.mono fun e' w' hq=> ?_;refine⟨_,O,hq.1,?_⟩;refine⟨Below.moves hq.2,fun b k _ h=>h,fun b k _ h=>h,rfl,⟨#[.string ⟨List.toArray out⟩],rfl,rfl,fun k hk=> ?_⟩,fun j i hj=> ?_⟩
   .have hk0:k=0:=by simp at hk;omega
    subst hk0;exact JA.str (O:=O) (w:=w') ⟨List.toArray out⟩
   .exact absurd hj (by show(L6 [.cell false (.sl 9 (.str .nil))] 0)[j]? ≠some i;simp [L6,KH])
def An2 (N:Nat):Spec Tryz.prog 125 (Aad N):=by refine⟨enters (fn:=Tryz.f125) (by kernel_rfl) (by kernel_rfl) (by decide),fun O w vs xs rs hI hv hl _ hx hrs=> ?_⟩;obtain⟨l,out,h1,h2,h3⟩:=Sig.Abf (J6:=[.cell false (.sl 9 (.str .nil))]) (JJ:=[.cell false .str]) (f:=fun a=>Xh N a) hrs;subst h1;have h3':rs=[.str out]:=h3;subst h3';exact Apm l out hv (hx 0 (by show 0<1;omega)) h2
end Go.Proofs.YtfgdgdnlglejbaaGreatDoor.Vm
namespace Go.Proofs.YtfgdgdnlglejbaaGreatDoor.Vm
open Go.Proofs Go.RowKit
def Aze {O:Own} {w:World} {bs:List ByteArray} {t:TypeId} {l:List Bs} (hl:bs.map (·.data.toList)=l) :
 JA (fun b k=>if b<w.heap.size then O b k else none) (w.alloc (.cells (bs.map Value.string).toArray t)) (.slice (some ⟨w.heap.size,0,none⟩) bs.length bs.length) (.sl ⟨.str .nil,l⟩):=by
 have hll:l.length=bs.length:=by rw[<- hl,Dz]
 have hget: ∀ i (h:i<bs.length),l.getD i []=bs[i].data.toList:=by intro i h;rw[<- hl];simp [Dn,h]
 have hes0:(⟨.str .nil,l⟩:Sl).es=l.map (fun s:Bs=>[A.str s]):=rfl;have hsz:(⟨.str .nil,l⟩:Sl).sz=1:=rfl;generalize (⟨.str .nil,l⟩:Sl)=L at *
 have hlen:L.es.length=bs.length:=by rw[hes0,Dz,hll]
 have hb:(w.alloc (.cells (bs.map Value.string).toArray t)).heap[w.heap.size]? =some (.cells (bs.map Value.string).toArray t (0,0)):=Ack _ _;have hcell: ∀ i,(w.alloc (.cells (bs.map Value.string).toArray t)).cell? (at' w.heap.size i)=(bs.map Value.string).toArray[i]? :=by intro i;simp only[World.cell?,hb];rfl
 have h:=JA.sl (O:=fun b k=>if b<w.heap.size then O b k else none) (w:=w.alloc (.cells (bs.map Value.string).toArray t)) (b:=w.heap.size) (off:=0) (cap:=bs.length) (l:=L) (fun i _=>.string (bs.getD i ByteArray.empty)) (by rw[hlen];exact DW _)
  (fun i j hi hj=>by
    rw[hlen]at hi;rw[hsz]at hj;have hj0:j=0:=by omega
    subst hj0;refine⟨Du (Nat.lt_irrefl _),?_⟩;have e:0+(i*L.sz+0)=i:=by rw[hsz];omega
    rw[e,hcell];simp [Dn,hi])
  (fun i j hi hj=>by
    rw[hlen]at hi;rw[hsz]at hj;have hj0:j=0:=by omega
    subst hj0;have e1:(L.es.getD i []).getD 0 .undef= .str (l.getD i []):=by rw[hes0];simp [Dn,show i<l.length by omega]
    rw[e1,hget i hi];simp only[Dn,D9 hi,Option.getD_some];exact JA.str (bs[i]))
 rw[hlen]at h;exact h
def AvW {O:Own} {w:World} {vs:Array Value} {sg:Sig} {bs:List ByteArray} {t e:TypeId} {l:List Bs} (hp:sg.J6.all Sh.flat=true) (hr:sg.JJ=[.cell false (.sl e (.str .nil))]) (hl:bs.map (·.data.toList)=l) :
 Came O w vs sg [.sl ⟨.str .nil,l⟩] (.slice (some ⟨w.heap.size,0,none⟩) bs.length bs.length) (fun b k=>if b<w.heap.size then O b k else none) (w.alloc (.cells (bs.map Value.string).toArray t)):=by
 have hix:L6 sg.J6 0=[]:=Akc _ _ hp;refine⟨Moves.push _,fun b k hb h=>by rwa [Dt hb]at h,fun b k hb h=>by rwa [Dt hb],by rw[hix,hr];rfl,⟨#[.slice (some ⟨w.heap.size,0,none⟩) bs.length bs.length],by rw[hr];rfl,rfl,fun k hk=> ?_⟩,fun j i hj=> ?_⟩
 .have hk0:k=0:=by simp at hk;omega
  subst hk0;exact Aze hl
 .rw[hix]at hj;cases hj
noncomputable def Wh (N:Nat):Sig:=.of [.cell false .str,.cell false .str] [.cell false (.sl 9 (.str .nil))] (fun a=>strings_Split N a.1 a.2)
def jQ (N:Nat):Spec Tryz.prog 282 (Wh N):=by
 refine⟨enters (fn:=Tryz.f282) (by kernel_rfl) (by kernel_rfl) (by decide),fun O w vs xs rs hI hv hl _ hx hrs=> ?_⟩;obtain⟨a,o,h1,h2,h3⟩:=Sig.Abf (J6:=[.cell false .str,.cell false .str]) (JJ:=[.cell false (.sl 9 (.str .nil))]) (f:=fun a=>strings_Split N a.1 a.2) hrs;subst h1;obtain⟨s,c⟩:=a;have hvs:=An7 (Afm [.cell false .str,.cell false .str] (s,c) rfl) hv hx;rw[hvs];have h2':(bif decide (List.length s<4294967281)&&decide (1<=List.length c)then some (Lib.split s c)else none)=some o:=h2;cases hc:(decide (List.length s<4294967281)&&decide (1<=List.length c))with
 | false=>rw[hc]at h2';cases h2'
 | true =>rw[hc]at h2';injection h2' with h2';subst h2';rw[Dw,DK,DK]at hc;obtain⟨_,v,hm,m,rfl⟩:=hI.1 1 0 _ rfl;have hlen:=Lib.splitB_all ⟨List.toArray c⟩ hc.2 0 _ ⟨List.toArray s⟩ rfl;refine(Tryz.strings_Split ⟨List.toArray s⟩ ⟨List.toArray c⟩ m w hc.1 hm hc.2).mono fun e w' hq=> ?_;obtain⟨he,hw⟩:=hq;subst hw;rw[<- hlen]at he;refine⟨_,fun b k=>if b<w.heap.size then O b k else none,he,?_⟩;have h3':rs=[.sl ⟨.str .nil,Lib.split s c⟩]:=h3;rw[h3'];exact AvW (O:=O) (w:=w) (e:=9) (sg:=Wh N) rfl rfl (by rw[Lib.splitB_data];rfl)
noncomputable def bF (N:Nat):Sig:=.of [.cell false .str,.cell false .str] [.cell false .str] (fun a=>strings_TrimPrefix N a.1 a.2)
def vS (N:Nat):Spec Tryz.prog 407 (bF N) :=
 WE rfl rfl (enters (fn:=Tryz.f407) (by kernel_rfl) (by kernel_rfl) (by decide)) fun O w (a:Bs×Bs) (o:Bs) hI h=>by obtain⟨s,c⟩:=a;have h:some (Lib.trimPrefix s c)=some o:=h;injection h with h;subst h;refine(Tryz.strings_TrimPrefix ⟨List.toArray s⟩ ⟨List.toArray c⟩ w).mono fun e w' hq=> ?_;obtain⟨h1,h2⟩:=hq;subst h2;exact⟨h1,Below.refl _ _⟩
end Go.Proofs.YtfgdgdnlglejbaaGreatDoor.Vm
namespace Go.Proofs.YtfgdgdnlglejbaaGreatDoor
open Go.RowKit Vm
def nS (w:World) (s:ByteArray) (pos:Nat):Below w.heap.size w (w.iter s pos):=Below.alloc (Below.refl _ _) (DW _) _
def Aug (s:ByteArray) (i:Nat):1<=(Utf8.decode s i).2:=by
 unfold Utf8.decode;dsimp only;repeat' split
 all_goals (first | exact DW _ | (show 1<=_;omega))
def A0X (s:ByteArray) (b pos:Nat) (h: ¬ pos<s.size):Zu s b pos=true:=by
 cases b with
 | zero=>rfl
 | succ b=>unfold Zu;rw[Du h]
def Azq (s:ByteArray) (b pos:Nat) (h:pos<s.size):Zu s (b+1) pos=if(Utf8.decode s pos).1<32\/(Utf8.decode s pos).1=127 then false else if(Utf8.decode s pos).1=65533/\Lib.hasPrefix (s.data.toList.drop pos) [239,191,189]=false then false else Zu s b (pos+(Utf8.decode s pos).2):=by show(if pos<s.size then _ else _)=_;rw[Dt h]
set_option maxHeartbeats 1000000 in
set_option maxRecDepth 1000000 in
def Azr (s:ByteArray) (w:World) (R:Bool) (hR:Zu s s.size 0=R) (hs:s.size<4294967281) :
 Calls Tryz.prog 360 #[.string s] w fun e w'=>e= .returned (.bool R)/\Below w.heap.size w w':=by
 go_enter Tryz.func360,Tryz.ntmps360
 go_wp2
 go_loopw [] (fun w'=> ∃(pos b:Nat),w'=w.iter s pos/\Zu s b pos=R/\s.size<=pos+b) (fun w'=>s.size - w'.iterPos w.heap.size)
 case atStart=>exact⟨0,s.size,rfl,hR,by omega⟩
 case round =>
  obtain⟨pos,b,rfl,hc,hb⟩:=hrel;by_cases hp:pos<s.size
  .have hnx: ∀ ty,(Instr.next (.pointer (some ⟨w.heap.size,0,none⟩)) true ty).run Tryz.prog (w.iter s pos)=_:=fun ty=>run_next_any w s pos ty hp;have hwd:=Aug s pos;cases b with
   | zero=>omega
   | succ b =>
    rw[Azq s b pos hp]at hc;have hpx:=fun w=>Tryz.strings_HasPrefix (s.extract pos s.size) ⟨#[239,191,189]⟩ w;generalize h4:Lib.hasPrefix (s.extract pos s.size).data.toList ((⟨#[239,191,189]⟩:ByteArray)).data.toList=B at hpx;generalize Utf8.decode s pos=D at hnx hwd hc;obtain⟨c,k⟩:=D;dsimp only at hnx hwd hc;obtain⟨C,hC⟩: ∃ C:Int,(c:Int)=C:=⟨_,rfl⟩
    rw[hC]at hnx;by_cases h1:c<32
    .have t1:C<32:=by omega
     rw[Dt (Or.inl h1)]at hc;subst hc;clear h1 hC hR
     go_wp2
     go_ret
     exact⟨rfl,nS _ _ _⟩
    .have t1:32<=C:=by omega
     by_cases h2:c=127
     .have t2:(C==127)=true:=by simp;omega
      rw[Dt (Or.inr h2)]at hc;subst hc;clear h1 h2 hC hR
      go_wp2
      all_goals try (exfalso;omega)
      go_ret
      exact⟨rfl,nS _ _ _⟩
     .have t2:(C==127)=false:=by simp;omega
      rw[Du (by omega)]at hc;by_cases h3:c=65533
      .have t3:(C==65533)=true:=by simp;omega
       cases B with
       | false =>
        rw[Dt ⟨h3,by rw[<- Lib.extract_to_end];exact h4⟩]at hc;subst hc;clear h1 h2 h3 h4 hC hR
        go_wp2_with (go_at_call 404;refine(hpx _).mono ?_;rintro e w' ⟨rfl,rfl⟩)
        all_goals try (exfalso;omega)
        go_ret
        exact⟨rfl,nS _ _ _⟩
       | true =>
        rw[Du (fun h=>by have h5:=h.2;rw[<- Lib.extract_to_end]at h5;exact absurd (h4.symm.trans h5) (by decide))]at hc;clear h1 h2 h3 hC
        go_wp2_with (go_at_call 404;refine(hpx _).mono ?_;rintro e w' ⟨rfl,rfl⟩)
        all_goals try (exfalso;omega)
        go_roundw
        case rel=>exact⟨pos+k,b,rfl,hc,by omega⟩
        case measure =>simp;omega
      .have t3:(C==65533)=false:=by simp;omega
       rw[Du (fun h=>h3 h.1)]at hc;clear h1 h2 h3 hC
       go_wp2
       all_goals try (exfalso;omega)
       go_roundw
       case rel=>exact⟨pos+k,b,rfl,hc,by omega⟩
       case measure =>simp;omega
  .have hnx: ∀ ty,(Instr.next (.pointer (some ⟨w.heap.size,0,none⟩)) true ty).run Tryz.prog (w.iter s pos)=_:=fun ty=>run_next_end w s pos ty hp
   go_wp2
   go_ret
   rw[A0X s b pos hp]at hc;rw[<- hc];exact⟨rfl,nS _ _ _⟩
end Go.Proofs.YtfgdgdnlglejbaaGreatDoor
namespace Go.Proofs.YtfgdgdnlglejbaaGreatDoor.Vm
open Go.Proofs Go.RowKit
noncomputable def AlS (N:Nat):Sig:=.of [.cell false .str] [.cell false .bool] (fun a=>Ar1 N a)
def Apl (N:Nat):Spec Tryz.prog 360 (AlS N) :=
 WE rfl rfl (enters (fn:=Tryz.f360) (by kernel_rfl) (by kernel_rfl) (by decide)) fun O w (a:Bs) (o:Bool) hI h=>by
  have h:(bif decide (List.length a<4294967281)then some (A2y a)else none)=some o:=h;cases hc:decide (List.length a<4294967281)with
  | false=>rw[hc]at h;cases h
  | true =>
  rw[hc]at h;injection h with h;exact(Azr ⟨List.toArray a⟩ w o h (D6 hc)).mono fun e w' hq=>hq
end Go.Proofs.YtfgdgdnlglejbaaGreatDoor.Vm
