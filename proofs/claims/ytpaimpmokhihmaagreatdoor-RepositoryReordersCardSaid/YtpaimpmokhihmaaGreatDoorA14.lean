import Derived.Test.YtpaimpmokhihmaaGreatDoorA13
import Derived.Lib.Join
import Derived.Below
import Derived.Shelf.Strings.Builder1
import Derived.Shelf.Strings.Builder2
import Derived.Shelf.Strings.OnBuilder
import Derived.Shelf.Small.Strs
import Derived.Shelf.Small.Wraps
import Derived.Shelf.Strconv.Itoa0
import Derived.Shelf.Strconv.Itoa1
import Derived.Shelf.LaysM
import Derived.Shelf.Strconv.Itoa2
import Derived.Shelf.Strconv.Itoa3
import Derived.Shelf.Strings.Search1
import Derived.Shelf.Strings.Search2
import Derived.Shelf.Strings.Search3
import Derived.Shelf.Strings.Cut
import Derived.Shelf.Strings.Count
import Derived.Shelf.Strings.Shaped
import Derived.Shelf.Sort.Plain
import Derived.Shelf.Strings.Prefix
import Derived.Shelf.Strings.Split
import Derived.Shelf.Unicode.DecodeSlow
import Derived.Test.YtpaimpmokhihmaaGreatDoorProg
set_option linter.all false
namespace Go.Proofs.YtpaimpmokhihmaaGreatDoor.Vm
open Go.RowKit
def Below.moves {O:Own} {T:Nat->Prop} {w w':World} (h:Below w.heap.size w w'):Moves O T w w':=⟨h.os,h.tape,h.output,h.size,fun b hb=>.inl (h.block b hb)⟩
noncomputable def Ou (e N:Nat):Sig:=.of [.cell false (.sl e (.str .nil)),.cell false .str] [.cell false .str] (fun a=>strings_Join N a.1 a.2)
def Yx {O:Own} {w:World} {v:Value} {s:List UInt8} (h:Jt O w v (.str s)):v= .string ⟨s.toArray⟩:=by
 cases h with
 | str s=>simp_all[Own,Jt]
def UR {O:Own} {w w':World} {vs:Array Value} {e N:Nat} {s:List UInt8} (hb:Below w.heap.size w w'):Came O w vs (Ou e N) [.str s] (.string ⟨s.toArray⟩) O w':=by
 refine⟨Below.moves hb,fun b k _ h=>h,fun b k _ h=>h,rfl,⟨#[.string ⟨s.toArray⟩],rfl,rfl,fun k hk=> ?_⟩,fun j i hj=> ?_⟩
 .have hk0:k=0:=by simp at hk;omega
  subst hk0;show Jt O w' (.string ⟨s.toArray⟩) (.str s);exact Jt.str (O:=O) (w:=w') ⟨s.toArray⟩
 .exact absurd hj (by show(KF [.cell false (.sl e (.str .nil)),.cell false .str] 0)[j]? ≠some i;simp [KF,JR])
def Aah (P:Program) (f:FuncId):Prop :=
 (∀(a:Option Addr) (c:Nat) (sep:ByteArray) (w:World),Calls P f #[.slice a 0 c,.string sep] w fun e w'=>e= .returned (.string ⟨#[]⟩)/\w'=w) /\
 (∀(bk o c:Nat) (xs:List ByteArray) (sep:ByteArray) (w:World),(∀(j:Nat) x,xs[j]? =some x->w.cell? ⟨bk,o+j,none⟩=some (.string x))->bk<w.heap.size->xs.length<=140737488355328->xs.length<=c->(Lib.join (xs.map (·.data.toList)) sep.data.toList).length<=140737488355328 ->
   Calls P f #[.slice (some ⟨bk,o,none⟩) xs.length c,.string sep] w fun e w'=>e= .returned (.string ⟨(Lib.join (xs.map (·.data.toList)) sep.data.toList).toArray⟩)/\Below w.heap.size w w')
def mM {P:Program} {f:FuncId} {e N:Nat} (H:Aah P f) {O:Own} {w:World} {vs:Array Value} (l:List Bs) (sep o:Bs) (hl2:vs.size=2) (hx0:Jt O w (vs.getD 0 undef) (.sl ⟨.str .nil,l⟩)) (hx1:Jt O w (vs.getD 1 undef) (.str sep)) (h2':strings_Join N l sep=some o) :
 Calls P f vs w fun e' w'=> ∃ v O',e'= .returned v/\Came O w vs (Ou e N) [.str o] v O' w':=by
 obtain⟨hn,hj⟩:=H
 have hvs:vs= #[vs.getD 0 undef,vs.getD 1 undef]:=by
  apply EC
  .simpa using hl2
  .intro i h1 h2;have:i=0\/i=1:=by simp at h2;omega
   rcases this with rfl | rfl
   .simp [Dj,h1]
   .simp [Dj,h1]
 rw[Yx hx1]at hvs;unfold strings_Join at h2';cases hc:(decide (l.length<=140737488355328)&&decide ((sep.intercalate l).length<=140737488355328))with
 | false=>rw[hc]at h2';cases h2'
 | true =>
  rw[hc]at h2';injection h2' with h2';rw[Dn,Eh,Eh]at hc;subst h2';have hes0:(⟨.str .nil,l⟩:Sl).es=l.map (fun s:Bs=>[A.str s]):=rfl;generalize hv0:vs.getD 0 undef=v0 at *
  have hnil:l=[]-> ∀ a c,v0= .slice a 0 c->Calls P f vs w fun e' w'=> ∃ v O',e'= .returned v/\Came O w vs (Ou e N) [.str (sep.intercalate l)] v O' w':=by
   intro hl0 a c hv0';have:=hn a c ⟨sep.toArray⟩ w;rw[<- hv0',<- hvs]at this;refine this.mono fun e' w' hq=> ?_;obtain⟨h4,h5⟩:=hq;subst h5;refine⟨_,O,h4,?_⟩;have:sep.intercalate l=[]:=by rw[hl0];rfl
   rw[this];exact UR (Below.refl _ _)
  have hsz:(⟨.str .nil,l⟩:Sl).sz=1:=rfl;generalize hL:(⟨.str .nil,l⟩:Sl)=L at hx0 hes0 hsz;have hlen:L.es.length=l.length:=by rw[hes0,D5]
  have hes: ∀ j:Nat,L.es[j]? =(l[j]?).map (fun s=>[A.str s]):=fun j=>by rw[hes0,DW]
  cases hx0 with
  | nil t =>
   have:l=[]:=by injection hL with h1 h2;subst h1;exact Gv h2
   exact hnil this _ _ rfl
  | sl0 ad t =>
   have:l=[]:=by injection hL with h1 h2;subst h1;exact Gv h2
   exact hnil this _ _ rfl
  | @sl b off cap l' vs' hcap hm hr =>
   cases hl0:l with
   | nil=>rw[<- hl0];exact hnil hl0 _ cap (by rw[hlen,hl0];rfl)
   | cons s0 r =>
    have hb:b<w.heap.size:=by have:=(hm 0 0 (by rw[hlen,hl0];simp) (by omega)).2;exact cell_lt this
    rw[<- hl0]
    have hmap:(l.map (fun s=>(⟨s.toArray⟩:ByteArray))).map (·.data.toList)=l:=by
     rw[EN]
     conv=>rhs;rw[<- F7 l]
     refine Ew fun s _=> ?_;simp
    have hJ:=hj b off cap (l.map (fun s=>(⟨s.toArray⟩:ByteArray))) ⟨sep.toArray⟩ w (fun j x hjx=>by
     rw[DW]at hjx;cases hlj:l[j]? with
     | none=>rw[hlj]at hjx;cases hjx
     | some s =>
      rw[hlj]at hjx;injection hjx with hjx
      have hjl:j<L.es.length:=by
       rw[hlen];rcases DT j l.length with h | h
       .exact h
       .rw[DN h]at hlj;cases hlj
      have hm1:=(hm j 0 hjl (by omega)).2;have hr1:=hr j 0 hjl (by omega);rw[Di (l:=L.es),hes,hlj]at hr1;have:=Yx (show Jt O w (vs' j 0) (.str s)from hr1);rw[this]at hm1;rw[<- hjx];have e1:off+(j*L.sz+0)=off+j:=by rw[hsz];omega
      rw[e1]at hm1;exact hm1) hb (by rw[D5];exact hc.1) (by rw[D5,<- hlen];exact hcap) (by rw[hmap];show(List.intercalate _ l).length<=_;simpa using hc.2)
    rw[D5,hmap,<- hlen,<- hvs]at hJ;refine hJ.mono fun e' w' hq=> ?_;have e2:Lib.join l (⟨sep.toArray⟩:ByteArray).data.toList=sep.intercalate l:=by show List.intercalate _ l=_;simp
    rw[e2]at hq;exact⟨_,O,hq.1,UR hq.2⟩
def rF {P:Program} {f:FuncId} {e N:Nat} (hent: ∀ args w,(callFunc f args).run P w= .ok (.enter f args) w) (H:Aah P f):Spec P f (Ou e N):=by refine⟨hent,fun O w vs xs rs _ hv hl _ hx hrs=> ?_⟩;obtain⟨a,o,h1,h2,h3⟩:=Sig.Vw hrs;subst h1;have h3':rs=[.str o]:=h3;rw[h3'];exact mM H a.1 a.2 o hv (hx 0 (by show 0<2;omega)) (hx 1 (by show 1<2;omega)) h2
end Go.Proofs.YtpaimpmokhihmaaGreatDoor.Vm
namespace Go.Proofs
theorem Ajr {α:Type} {o:Option α} {a b:α} (h:o=some a) (e:a=b:=by kernel_rfl):o=some b:=h.trans (congrArg some e)
open Go.Shelf
def Tryz.lays156_ren:Go.Shelf.Ren:=⟨fun | 156=>191 | 165=>275 | 166=>276 | 169=>277 | 240=>325 | 241=>326 | 276=>352 | 277=>353 | n=>n,fun | 31=>37 | 9=>9 | 3=>3 | 4=>4 | 0=>0 | 20=>20 | 72=>289 | 76=>293 | 70=>287 | 37=>117 | 75=>292 | 127=>315 | 164=>334 | 5=>5 | 80=>128 | n=>n,fun | n=>n⟩
def Tryz.lays156:Go.Proofs.Lays.n156 Tryz.prog Tryz.lays156_ren:= {
 mixed:=by kernel_rfl
 f156:=Ajr Tryz.func191
 f165:=Ajr Tryz.func275
 f166:=Ajr Tryz.func276
 f169:=Ajr Tryz.func277
 f240:=Ajr Tryz.func325
 f241:=Ajr Tryz.func326
 f276:=Ajr Tryz.func352
 f277:=Ajr Tryz.func353
 t0:=Tryz.underlying0
 a0:=Tryz.isAgg0
 z0:=Tryz.sizeOf0
 v0:=Tryz.zeroValue0
 t3:=Tryz.underlying3
 a3:=Tryz.isAgg3
 z3:=Tryz.sizeOf3
 v3:=Tryz.zeroValue3
 t4:=Tryz.underlying4
 a4:=Tryz.isAgg4
 z4:=Tryz.sizeOf4
 v4:=Tryz.zeroValue4
 t9:=Tryz.underlying9
 a9:=Tryz.isAgg9
 z9:=Tryz.sizeOf9
 v9:=Tryz.zeroValue9
 t20:=Tryz.underlying20
 a20:=Tryz.isAgg20
 z20:=Tryz.sizeOf20
 v20:=Tryz.zeroValue20
 t31:=Tryz.underlying37
 a31:=Tryz.isAgg37
 z31:=Tryz.sizeOf37
 v31:=Tryz.zeroValue37
 t37:=Tryz.underlying117
 a37:=Tryz.isAgg117
 z37:=Tryz.sizeOf117
 v37:=Tryz.zeroValue117
 t70:=Tryz.underlying287
 a70:=Tryz.isAgg287
 z70:=Tryz.sizeOf287
 v70:=Tryz.zeroValue287
 t72:=Tryz.underlying289
 a72:=Tryz.isAgg289
 z72:=Tryz.sizeOf289
 v72:=Tryz.zeroValue289
 t75:=Tryz.underlying292
 a75:=Tryz.isAgg292
 z75:=Tryz.sizeOf292
 v75:=Tryz.zeroValue292
 t76:=Tryz.underlying293
 a76:=Tryz.isAgg293
 z76:=Tryz.sizeOf293
 v76:=Tryz.zeroValue293
 t127:=Tryz.underlying315
 a127:=Tryz.isAgg315
 z127:=Tryz.sizeOf315
 v127:=Tryz.zeroValue315
 t164:=Tryz.underlying334
 a164:=Tryz.isAgg334
 z164:=Tryz.sizeOf334
 v164:=Tryz.zeroValue334}
def Tryz.Builder_Extra_156:Builder.Extra Tryz.prog Tryz.lays156_ren:= {
 sizeBuilder:=by kernel_rfl
 liesBuilder:=by kernel_rfl
 t5:=Tryz.underlying5
 a5:=Tryz.isAgg5
 z5:=Tryz.sizeOf5
 v5:=Tryz.zeroValue5
 infoByte:=by kernel_rfl
 cellsByte:=by kernel_rfl
 sizeByte:=by kernel_rfl
 neB5:=by decide}
open Go.RowKit in
def Tryz.strings_Join_none (a:Option Addr) (c:Nat) (sep:ByteArray) (w:World) :
 Calls Tryz.prog 191 #[.slice a 0 c,.string sep] w fun e w'=>e= .returned (.string ⟨#[]⟩)/\w'=w:=Any.strings_Join_none Tryz.lays156 Tryz.Builder_Extra_156 a c sep w
open Go.RowKit in
def Tryz.strings_Join (bk o c:Nat) (xs:List ByteArray) (sep:ByteArray) (w:World) (hcells: ∀(j:Nat) x,xs[j]? =some x->w.cell? ⟨bk,o+j,none⟩=some (.string x)) (hbk:bk<w.heap.size) (hN:xs.length<=140737488355328) (hcap:xs.length<=c) (hlen:(Lib.join (xs.map (·.data.toList)) sep.data.toList).length<=140737488355328) :
 Calls Tryz.prog 191 #[.slice (some ⟨bk,o,none⟩) xs.length c,.string sep] w fun e w'=>e= .returned (.string ⟨(Lib.join (xs.map (·.data.toList)) sep.data.toList).toArray⟩)/\Below w.heap.size w w':=Any.strings_Join Tryz.lays156 Tryz.Builder_Extra_156 bk o c xs sep w hcells hbk hN hcap hlen
def Tryz.Ac1:Go.Shelf.Ren:=⟨fun | 137=>212 | 217=>298 | 266=>338 | n=>n,fun | 9=>9 | 5=>5 | 3=>3 | n=>n,fun | n=>n⟩
def Tryz.lays137:Go.Proofs.Lays.n137 Tryz.prog Tryz.Ac1:= {
 mixed:=by kernel_rfl
 f137:=Ajr Tryz.func212
 f217:=Ajr Tryz.func298
 f266:=Ajr Tryz.func338
 t3:=Tryz.underlying3
 a3:=Tryz.isAgg3
 z3:=Tryz.sizeOf3
 v3:=Tryz.zeroValue3
 t5:=Tryz.underlying5
 a5:=Tryz.isAgg5
 z5:=Tryz.sizeOf5
 v5:=Tryz.zeroValue5
 t9:=Tryz.underlying9
 a9:=Tryz.isAgg9
 z9:=Tryz.sizeOf9
 v9:=Tryz.zeroValue9}
open Go.RowKit in
def Tryz.strings_IndexByte (s:ByteArray) (c:Int) (w:World) :
 Calls Tryz.prog 212 #[.string s,.int .u8 c] w fun e w'=>e= .returned (.int .i64 (Lib.indexByte s.data.toList c.toNat.toUInt8))/\w'=w:=Any.strings_IndexByte Tryz.lays137 s c w
def Tryz.Ac0:Go.Shelf.Ren:=⟨fun | 103=>329 | 210=>356 | 206=>354 | n=>n,fun | 9=>9 | 4=>4 | 24=>317 | 3=>3 | n=>n,fun | n=>n⟩
def Tryz.Aho:Go.Proofs.Lays.n103 Tryz.prog Tryz.Ac0:= {
 mixed:=by kernel_rfl
 f103:=Ajr Tryz.func329
 f206:=Ajr Tryz.func354
 f210:=Ajr Tryz.func356
 t3:=Tryz.underlying3
 a3:=Tryz.isAgg3
 z3:=Tryz.sizeOf3
 v3:=Tryz.zeroValue3
 t4:=Tryz.underlying4
 a4:=Tryz.isAgg4
 z4:=Tryz.sizeOf4
 v4:=Tryz.zeroValue4
 t9:=Tryz.underlying9
 a9:=Tryz.isAgg9
 z9:=Tryz.sizeOf9
 v9:=Tryz.zeroValue9
 t24:=Tryz.underlying317
 a24:=Tryz.isAgg317
 z24:=Tryz.sizeOf317
 v24:=Tryz.zeroValue317}
open Go.RowKit in
def Tryz.strings_CutPrefix (s p:ByteArray) (w:World) :
 Calls Tryz.prog 329 #[.string s,.string p] w fun e w'=>e= .returned (.tuple #[.string ⟨(Lib.trimPrefix s.data.toList p.data.toList).toArray⟩,.bool (Lib.hasPrefix s.data.toList p.data.toList)])/\w'=w:=Any.strings_CutPrefix Tryz.Aho s p w
def Tryz.Aba:Go.Shelf.Ren:=⟨fun | 171=>190 | 243=>274 | 246=>324 | 283=>348 | 284=>349 | 285=>350 | 286=>351 | 129=>367 | 317=>373 | 318=>374 | 319=>375 | 320=>376 | 337=>385 | 338=>386 | n=>n,fun | 3=>3 | 9=>9 | 2=>2 | 4=>4 | 171=>329 | 0=>0 | 53=>237 | 37=>117 | 5=>5 | 173=>332 | 212=>351 | 51=>345 | 20=>20 | 213=>352 | 46=>234 | 232=>365 | 233=>366 | n=>n,fun | 17=>2 | 18=>5 | 19=>6 | n=>n⟩
def Tryz.laysM171:Go.Proofs.LaysM.n171 Tryz.prog Tryz.Aba:= {
 mixed:=by kernel_rfl
 f129:=Ajr Tryz.func367
 f171:=Ajr Tryz.func190
 f243:=Ajr Tryz.func274
 f246:=Ajr Tryz.func324
 f283:=Ajr Tryz.func348
 f284:=Ajr Tryz.func349
 f285:=Ajr Tryz.func350
 f286:=Ajr Tryz.func351
 f317:=Ajr Tryz.func373
 f318:=Ajr Tryz.func374
 f319:=Ajr Tryz.func375
 f320:=Ajr Tryz.func376
 f337:=Ajr Tryz.func385
 f338:=Ajr Tryz.func386
 t0:=Tryz.underlying0
 a0:=Tryz.isAgg0
 z0:=Tryz.sizeOf0
 v0:=Tryz.zeroValue0
 t2:=Tryz.underlying2
 a2:=Tryz.isAgg2
 z2:=Tryz.sizeOf2
 v2:=Tryz.zeroValue2
 t3:=Tryz.underlying3
 a3:=Tryz.isAgg3
 z3:=Tryz.sizeOf3
 v3:=Tryz.zeroValue3
 t4:=Tryz.underlying4
 a4:=Tryz.isAgg4
 z4:=Tryz.sizeOf4
 v4:=Tryz.zeroValue4
 t5:=Tryz.underlying5
 a5:=Tryz.isAgg5
 z5:=Tryz.sizeOf5
 v5:=Tryz.zeroValue5
 t9:=Tryz.underlying9
 a9:=Tryz.isAgg9
 z9:=Tryz.sizeOf9
 v9:=Tryz.zeroValue9
 t20:=Tryz.underlying20
 a20:=Tryz.isAgg20
 z20:=Tryz.sizeOf20
 v20:=Tryz.zeroValue20
 t37:=Tryz.underlying117
 a37:=Tryz.isAgg117
 z37:=Tryz.sizeOf117
 v37:=Tryz.zeroValue117
 t46:=Tryz.underlying234
 a46:=Tryz.isAgg234
 z46:=Tryz.sizeOf234
 v46:=Tryz.zeroValue234
 t51:=Tryz.underlying345
 a51:=Tryz.isAgg345
 z51:=Tryz.sizeOf345
 v51:=Tryz.zeroValue345
 t53:=Tryz.underlying237
 a53:=Tryz.isAgg237
 z53:=Tryz.sizeOf237
 v53:=Tryz.zeroValue237
 t171:=Tryz.underlying329
 a171:=Tryz.isAgg329
 z171:=Tryz.sizeOf329
 v171:=Tryz.zeroValue329
 t173:=Tryz.underlying332
 a173:=Tryz.isAgg332
 z173:=Tryz.sizeOf332
 v173:=Tryz.zeroValue332
 t212:=Tryz.underlying351
 a212:=Tryz.isAgg351
 z212:=Tryz.sizeOf351
 v212:=Tryz.zeroValue351
 t213:=Tryz.underlying352
 a213:=Tryz.isAgg352
 z213:=Tryz.sizeOf352
 t232:=Tryz.underlying365
 a232:=Tryz.isAgg365
 z232:=Tryz.sizeOf365
 v232:=Tryz.zeroValue365
 t233:=Tryz.underlying366
 a233:=Tryz.isAgg366
 z233:=Tryz.sizeOf366
 v233:=Tryz.zeroValue366
 g17:=by kernel_rfl
 g18:=by kernel_rfl
 g19:=by kernel_rfl
 i0:=by kernel_rfl
 i2:=by kernel_rfl
 i3:=by kernel_rfl
 i4:=by kernel_rfl
 i5:=by kernel_rfl
 i9:=by kernel_rfl
 i20:=by kernel_rfl
 i37:=by kernel_rfl
 i46:=by kernel_rfl
 i51:=by kernel_rfl
 i53:=by kernel_rfl
 i171:=by kernel_rfl
 i173:=by kernel_rfl
 i212:=by kernel_rfl
 i232:=by kernel_rfl
 i233:=by kernel_rfl
 m17:=by kernel_rfl
 m18:=by kernel_rfl
 m19:=by kernel_rfl}
open Go.RowKit Go.Sort Go.Lib in
def Tryz.strconv_Itoa (n:Int) (h0: -9223372036854775808<=n) (h1:n<=9223372036854775807) (w:World) (htab:Lib.TabIs Tryz.prog w "internal/strconv.uint64pow10" .u64 Lib.pow10Tab) :
 Calls Tryz.prog 190 #[.int .i64 n] w fun e w'=>e= .returned (.string ⟨(Lib.itoa n).toArray⟩)/\ ∃ k os,w'=grow (w.drewN k) os:=Any.strconv_Itoa Tryz.laysM171 n h0 h1 w htab
def Tryz.Ac2:Go.Shelf.Ren:=⟨fun | 144=>209 | 143=>297 | 219=>296 | 217=>298 | 225=>335 | 224=>336 | 267=>337 | 266=>338 | 314=>368 | n=>n,fun | 9=>9 | 4=>4 | 3=>3 | 5=>5 | 46=>234 | 146=>346 | 51=>345 | n=>n,fun | 1=>1 | n=>n⟩
def Tryz.lays144:Go.Proofs.Lays.n144 Tryz.prog Tryz.Ac2:= {
 mixed:=by kernel_rfl
 f143:=Ajr Tryz.func297
 f144:=Ajr Tryz.func209
 f217:=Ajr Tryz.func298
 f219:=Ajr Tryz.func296
 f224:=Ajr Tryz.func336
 f225:=Ajr Tryz.func335
 f266:=Ajr Tryz.func338
 f267:=Ajr Tryz.func337
 f314:=Ajr Tryz.func368
 t3:=Tryz.underlying3
 a3:=Tryz.isAgg3
 z3:=Tryz.sizeOf3
 v3:=Tryz.zeroValue3
 t4:=Tryz.underlying4
 a4:=Tryz.isAgg4
 z4:=Tryz.sizeOf4
 v4:=Tryz.zeroValue4
 t5:=Tryz.underlying5
 a5:=Tryz.isAgg5
 z5:=Tryz.sizeOf5
 v5:=Tryz.zeroValue5
 t9:=Tryz.underlying9
 a9:=Tryz.isAgg9
 z9:=Tryz.sizeOf9
 v9:=Tryz.zeroValue9
 t46:=Tryz.underlying234
 a46:=Tryz.isAgg234
 z46:=Tryz.sizeOf234
 v46:=Tryz.zeroValue234
 t51:=Tryz.underlying345
 a51:=Tryz.isAgg345
 z51:=Tryz.sizeOf345
 v51:=Tryz.zeroValue345
 t146:=Tryz.underlying346
 a146:=Tryz.isAgg346
 z146:=Tryz.sizeOf346
 v146:=Tryz.zeroValue346
 g1:=by kernel_rfl}
open Go.RowKit Go.Lib in
def Tryz.strings_Contains (s sub:ByteArray) (m:Int) (w:World) (hs:s.size<4294967281) (hm:w.cell? ⟨1,0,none⟩=some (.int .i64 m)) :
 Calls Tryz.prog 209 #[.string s,.string sub] w fun e w'=>e= .returned (.bool (Lib.contains s.data.toList sub.data.toList))/\w'=w:=Any.strings_Contains Tryz.lays144 s sub m w hs hm
def Tryz.Ac3:Go.Shelf.Ren:=⟨fun | 145=>149 | 220=>208 | 219=>296 | 217=>298 | 225=>335 | 224=>336 | 267=>337 | 266=>338 | 314=>368 | n=>n,fun | 9=>9 | 4=>4 | 59=>215 | 3=>3 | 5=>5 | 46=>234 | 146=>346 | 51=>345 | n=>n,fun | 1=>1 | n=>n⟩
def Tryz.lays145:Go.Proofs.Lays.n145 Tryz.prog Tryz.Ac3:= {
 mixed:=by kernel_rfl
 f145:=Ajr Tryz.func149
 f217:=Ajr Tryz.func298
 f219:=Ajr Tryz.func296
 f220:=Ajr Tryz.func208
 f224:=Ajr Tryz.func336
 f225:=Ajr Tryz.func335
 f266:=Ajr Tryz.func338
 f267:=Ajr Tryz.func337
 f314:=Ajr Tryz.func368
 t3:=Tryz.underlying3
 a3:=Tryz.isAgg3
 z3:=Tryz.sizeOf3
 v3:=Tryz.zeroValue3
 t4:=Tryz.underlying4
 a4:=Tryz.isAgg4
 z4:=Tryz.sizeOf4
 v4:=Tryz.zeroValue4
 t5:=Tryz.underlying5
 a5:=Tryz.isAgg5
 z5:=Tryz.sizeOf5
 v5:=Tryz.zeroValue5
 t9:=Tryz.underlying9
 a9:=Tryz.isAgg9
 z9:=Tryz.sizeOf9
 v9:=Tryz.zeroValue9
 t46:=Tryz.underlying234
 a46:=Tryz.isAgg234
 z46:=Tryz.sizeOf234
 v46:=Tryz.zeroValue234
 t51:=Tryz.underlying345
 a51:=Tryz.isAgg345
 z51:=Tryz.sizeOf345
 v51:=Tryz.zeroValue345
 t59:=Tryz.underlying215
 a59:=Tryz.isAgg215
 z59:=Tryz.sizeOf215
 v59:=Tryz.zeroValue215
 t146:=Tryz.underlying346
 a146:=Tryz.isAgg346
 z146:=Tryz.sizeOf346
 v146:=Tryz.zeroValue346
 g1:=by kernel_rfl}
open Go.RowKit Go.Lib in
def Tryz.strings_Cut (s sep:ByteArray) (m:Int) (w:World) (hs:s.size<4294967281) (hm:w.cell? ⟨1,0,none⟩=some (.int .i64 m)) :
 Calls Tryz.prog 149 #[.string s,.string sep] w fun e w'=>e= .returned (.tuple #[.string ⟨(Lib.cut s.data.toList sep.data.toList).1.toArray⟩,.string ⟨(Lib.cut s.data.toList sep.data.toList).2.1.toArray⟩,.bool (Lib.cut s.data.toList sep.data.toList).2.2])/\ ∃ n,w'=w.drewN n:=Any.strings_Cut Tryz.lays145 s sep m w hs hm
def Tryz.lays192_ren:Go.Shelf.Ren:=⟨fun | 192=>198 | 190=>290 | 125=>333 | 258=>332 | 128=>366 | 129=>367 | 302=>357 | 303=>358 | 304=>359 | 305=>360 | 306=>361 | 307=>362 | 308=>363 | 309=>364 | 310=>365 | 333=>377 | 329=>378 | 330=>379 | 334=>380 | 335=>381 | 336=>382 | 344=>387 | n=>n,fun | 31=>37 | 0=>0 | 9=>9 | 3=>3 | 46=>234 | 51=>345 | 53=>237 | 4=>4 | 183=>339 | 182=>338 | 131=>56 | 5=>5 | 218=>353 | 222=>304 | 228=>358 | 229=>359 | n=>n,fun | n=>n⟩
def Tryz.lays192:Go.Proofs.Lays.n192 Tryz.prog Tryz.lays192_ren:= {
 mixed:=by kernel_rfl
 f125:=Ajr Tryz.func333
 f128:=Ajr Tryz.func366
 f129:=Ajr Tryz.func367
 f190:=Ajr Tryz.func290
 f192:=Ajr Tryz.func198
 f258:=Ajr Tryz.func332
 f302:=Ajr Tryz.func357
 f303:=Ajr Tryz.func358
 f304:=Ajr Tryz.func359
 f305:=Ajr Tryz.func360
 f306:=Ajr Tryz.func361
 f307:=Ajr Tryz.func362
 f308:=Ajr Tryz.func363
 f309:=Ajr Tryz.func364
 f310:=Ajr Tryz.func365
 f329:=Ajr Tryz.func378
 f330:=Ajr Tryz.func379
 f333:=Ajr Tryz.func377
 f334:=Ajr Tryz.func380
 f335:=Ajr Tryz.func381
 f336:=Ajr Tryz.func382
 f344:=Ajr Tryz.func387
 t0:=Tryz.underlying0
 a0:=Tryz.isAgg0
 z0:=Tryz.sizeOf0
 v0:=Tryz.zeroValue0
 t3:=Tryz.underlying3
 a3:=Tryz.isAgg3
 z3:=Tryz.sizeOf3
 v3:=Tryz.zeroValue3
 t4:=Tryz.underlying4
 a4:=Tryz.isAgg4
 z4:=Tryz.sizeOf4
 v4:=Tryz.zeroValue4
 t5:=Tryz.underlying5
 a5:=Tryz.isAgg5
 z5:=Tryz.sizeOf5
 v5:=Tryz.zeroValue5
 t9:=Tryz.underlying9
 a9:=Tryz.isAgg9
 z9:=Tryz.sizeOf9
 v9:=Tryz.zeroValue9
 t31:=Tryz.underlying37
 a31:=Tryz.isAgg37
 z31:=Tryz.sizeOf37
 v31:=Tryz.zeroValue37
 t46:=Tryz.underlying234
 a46:=Tryz.isAgg234
 z46:=Tryz.sizeOf234
 v46:=Tryz.zeroValue234
 t51:=Tryz.underlying345
 a51:=Tryz.isAgg345
 z51:=Tryz.sizeOf345
 v51:=Tryz.zeroValue345
 t53:=Tryz.underlying237
 a53:=Tryz.isAgg237
 z53:=Tryz.sizeOf237
 v53:=Tryz.zeroValue237
 t131:=Tryz.underlying56
 a131:=Tryz.isAgg56
 z131:=Tryz.sizeOf56
 v131:=Tryz.zeroValue56
 t182:=Tryz.underlying338
 a182:=Tryz.isAgg338
 z182:=Tryz.sizeOf338
 v182:=Tryz.zeroValue338
 t183:=Tryz.underlying339
 a183:=Tryz.isAgg339
 z183:=Tryz.sizeOf339
 v183:=Tryz.zeroValue339
 t218:=Tryz.underlying353
 a218:=Tryz.isAgg353
 z218:=Tryz.sizeOf353
 v218:=Tryz.zeroValue353
 t222:=Tryz.underlying304
 a222:=Tryz.isAgg304
 z222:=Tryz.sizeOf304
 v222:=Tryz.zeroValue304
 t228:=Tryz.underlying358
 a228:=Tryz.isAgg358
 z228:=Tryz.sizeOf358
 v228:=Tryz.zeroValue358
 t229:=Tryz.underlying359
 a229:=Tryz.isAgg359
 z229:=Tryz.sizeOf359
 v229:=Tryz.zeroValue359}
open Go.Sort Go.RowKit in
def Tryz.sort_Strings (blk off cap:Nat) (ss:List (List UInt8)) (w:World) (hH:Holds encStr w blk off ss.toArray) (hblk:blk<w.heap.size) (hsz:ss.length<4611686018427387904) :
 Calls Tryz.prog 198 #[.slice (some ⟨blk,off,none⟩) ss.length cap] w fun e w' =>
  e= .returned (.tuple #[])/\ ∃ n os,w'=grow (putRow encStr (Sort.ahead w n) blk off (ss.mergeSort fun x y=>decide (x<=y)).toArray) os:=Any.sort_Strings Tryz.lays192 blk off cap ss w hH hblk hsz
def Tryz.lays99_ren:Go.Shelf.Ren:=⟨fun | 99=>327 | 206=>354 | n=>n,fun | 9=>9 | 4=>4 | 3=>3 | n=>n,fun | n=>n⟩
def Tryz.lays99:Go.Proofs.Lays.n99 Tryz.prog Tryz.lays99_ren:= {
 mixed:=by kernel_rfl
 f99:=Ajr Tryz.func327
 f206:=Ajr Tryz.func354
 t3:=Tryz.underlying3
 a3:=Tryz.isAgg3
 z3:=Tryz.sizeOf3
 v3:=Tryz.zeroValue3
 t4:=Tryz.underlying4
 a4:=Tryz.isAgg4
 z4:=Tryz.sizeOf4
 v4:=Tryz.zeroValue4
 t9:=Tryz.underlying9
 a9:=Tryz.isAgg9
 z9:=Tryz.sizeOf9
 v9:=Tryz.zeroValue9}
open Go.RowKit Go.Lib in
def Tryz.strings_HasPrefix (s p:ByteArray) (w:World) :
 Calls Tryz.prog 327 #[.string s,.string p] w fun e w'=>e= .returned (.bool (Lib.hasPrefix s.data.toList p.data.toList))/\w'=w:=Any.strings_HasPrefix Tryz.lays99 s p w
def Tryz.lays101_ren:Go.Shelf.Ren:=⟨fun | 101=>328 | 208=>355 | 206=>354 | n=>n,fun | 9=>9 | 4=>4 | 3=>3 | n=>n,fun | n=>n⟩
def Tryz.lays101:Go.Proofs.Lays.n101 Tryz.prog Tryz.lays101_ren:= {
 mixed:=by kernel_rfl
 f101:=Ajr Tryz.func328
 f206:=Ajr Tryz.func354
 f208:=Ajr Tryz.func355
 t3:=Tryz.underlying3
 a3:=Tryz.isAgg3
 z3:=Tryz.sizeOf3
 v3:=Tryz.zeroValue3
 t4:=Tryz.underlying4
 a4:=Tryz.isAgg4
 z4:=Tryz.sizeOf4
 v4:=Tryz.zeroValue4
 t9:=Tryz.underlying9
 a9:=Tryz.isAgg9
 z9:=Tryz.sizeOf9
 v9:=Tryz.zeroValue9}
open Go.RowKit Go.Lib in
def Tryz.strings_TrimPrefix (s p:ByteArray) (w:World) :
 Calls Tryz.prog 328 #[.string s,.string p] w fun e w'=>e= .returned (.string ⟨(Lib.trimPrefix s.data.toList p.data.toList).toArray⟩)/\w'=w:=Any.strings_TrimPrefix Tryz.lays101 s p w
def Tryz.lays146_ren:Go.Shelf.Ren:=⟨fun | 146=>213 | 221=>299 | 268=>339 | 138=>340 | 143=>297 | 195=>369 | 197=>370 | 218=>371 | 219=>296 | 260=>383 | 217=>298 | 225=>335 | 224=>336 | 267=>337 | 266=>338 | 314=>368 | n=>n,fun | 9=>9 | 31=>37 | 3=>3 | 4=>4 | 0=>0 | 105=>348 | 21=>21 | 5=>5 | 46=>234 | 119=>361 | 139=>364 | 138=>363 | 146=>346 | 51=>345 | n=>n,fun | 1=>1 | 3=>3 | 4=>4 | n=>n⟩
def Tryz.lays146:Go.Proofs.Lays.n146 Tryz.prog Tryz.lays146_ren:= {
 mixed:=by kernel_rfl
 f138:=Ajr Tryz.func340
 f143:=Ajr Tryz.func297
 f146:=Ajr Tryz.func213
 f195:=Ajr Tryz.func369
 f197:=Ajr Tryz.func370
 f217:=Ajr Tryz.func298
 f218:=Ajr Tryz.func371
 f219:=Ajr Tryz.func296
 f221:=Ajr Tryz.func299
 f224:=Ajr Tryz.func336
 f225:=Ajr Tryz.func335
 f260:=Ajr Tryz.func383
 f266:=Ajr Tryz.func338
 f267:=Ajr Tryz.func337
 f268:=Ajr Tryz.func339
 f314:=Ajr Tryz.func368
 t0:=Tryz.underlying0
 a0:=Tryz.isAgg0
 z0:=Tryz.sizeOf0
 v0:=Tryz.zeroValue0
 t3:=Tryz.underlying3
 a3:=Tryz.isAgg3
 z3:=Tryz.sizeOf3
 v3:=Tryz.zeroValue3
 t4:=Tryz.underlying4
 a4:=Tryz.isAgg4
 z4:=Tryz.sizeOf4
 v4:=Tryz.zeroValue4
 t5:=Tryz.underlying5
 a5:=Tryz.isAgg5
 z5:=Tryz.sizeOf5
 v5:=Tryz.zeroValue5
 t9:=Tryz.underlying9
 a9:=Tryz.isAgg9
 z9:=Tryz.sizeOf9
 v9:=Tryz.zeroValue9
 t21:=Tryz.underlying21
 a21:=Tryz.isAgg21
 z21:=Tryz.sizeOf21
 v21:=Tryz.zeroValue21
 t31:=Tryz.underlying37
 a31:=Tryz.isAgg37
 z31:=Tryz.sizeOf37
 v31:=Tryz.zeroValue37
 t46:=Tryz.underlying234
 a46:=Tryz.isAgg234
 z46:=Tryz.sizeOf234
 v46:=Tryz.zeroValue234
 t51:=Tryz.underlying345
 a51:=Tryz.isAgg345
 z51:=Tryz.sizeOf345
 v51:=Tryz.zeroValue345
 t105:=Tryz.underlying348
 a105:=Tryz.isAgg348
 z105:=Tryz.sizeOf348
 v105:=Tryz.zeroValue348
 t119:=Tryz.underlying361
 a119:=Tryz.isAgg361
 z119:=Tryz.sizeOf361
 t138:=Tryz.underlying363
 a138:=Tryz.isAgg363
 z138:=Tryz.sizeOf363
 v138:=Tryz.zeroValue363
 t139:=Tryz.underlying364
 a139:=Tryz.isAgg364
 z139:=Tryz.sizeOf364
 v139:=Tryz.zeroValue364
 t146:=Tryz.underlying346
 a146:=Tryz.isAgg346
 z146:=Tryz.sizeOf346
 v146:=Tryz.zeroValue346
 g1:=by kernel_rfl
 g3:=by kernel_rfl
 g4:=by kernel_rfl}
open Go.RowKit Go.Lib in
def Tryz.strings_Split (s sep:ByteArray) (m:Int) (w:World) (hs:s.size<4294967281) (hm:w.cell? ⟨1,0,none⟩=some (.int .i64 m)) (h1:1<=sep.size) :
 Calls Tryz.prog 213 #[.string s,.string sep] w fun e w' =>
  e= .returned (.slice (some ⟨w.heap.size,0,none⟩) (Lib.countB s sep+1) (Lib.countB s sep+1))/\w'=w.alloc (.cells ((Lib.splitB sep 0 (Lib.countB s sep) s).map Value.string).toArray 9):=Any.strings_Split Tryz.lays146 (by kernel_rfl) s sep m w hs hm h1
end Go.Proofs
namespace Go.Proofs.YtpaimpmokhihmaaGreatDoor.Vm
open Go.Proofs
noncomputable def Tn (N:Nat):Sig:=Ou 9 N
def UT (N:Nat):Spec Tryz.prog 191 (Tn N) :=
 rF (enters (fn:=Tryz.f191) (by kernel_rfl) (by kernel_rfl) (by decide)) ⟨Tryz.strings_Join_none,Tryz.strings_Join⟩
end Go.Proofs.YtpaimpmokhihmaaGreatDoor.Vm
