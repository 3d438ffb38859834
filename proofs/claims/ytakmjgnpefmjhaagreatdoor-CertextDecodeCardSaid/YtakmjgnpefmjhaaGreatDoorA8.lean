import Derived.Test.YtakmjgnpefmjhaaGreatDoorA7
import Derived.Lib.Join
import Derived.Below
import Derived.Shelf.Strings.Builder1
import Derived.Shelf.Strings.Builder2
import Derived.Shelf.Strings.OnBuilder
import Derived.Shelf.Small.Bits
import Derived.Shelf.Small.Strs
import Derived.Shelf.Small.Wraps
import Derived.Shelf.Utf8.RuneCount
import Derived.Shelf.Strconv.Itoa0
import Derived.Shelf.Strconv.Itoa1
import Derived.Shelf.LaysM
import Derived.Shelf.Strconv.Itoa2
import Derived.Shelf.Strconv.Itoa3
import Derived.Shelf.Strings.Search1
import Derived.Shelf.Strings.Search2
import Derived.Shelf.Strings.Search3
import Derived.Shelf.Strings.Cut
import Derived.Shelf.Strings.Count
import Derived.Shelf.Strings.Shaped
import Derived.Shelf.Sort.Plain
import Derived.Shelf.Strings.Prefix
import Derived.Shelf.Strings.Split
import Derived.Shelf.Strings.SplitShaped
import Derived.Shelf.Unicode.Decode
import Derived.Shelf.Strings.RuneCount
import Derived.Shelf.Strings.Explode
import Derived.Shelf.Unicode.DecodeSlow
import Derived.Shelf.Unicode.DecodeAny
import Derived.Test.YtakmjgnpefmjhaaGreatDoorProg
import Derived.Sort.Grow
import Derived.Lib.Split
import Derived.Lib.ItoaNum
import Derived.Lib.Strings
import Derived.Sort.OwnSorted
import Derived.ArgAppend
import Derived.Outline
import Derived.BigQuiet
import Derived.Deep.RegionWith
import Derived.Lib.Walk
import Derived.Laws.RangeString
import Derived.Laws.RangeAny
import Derived.LoopTactic
import Derived.BigGuardPart
set_option linter.all false
namespace Go.Proofs.YtakmjgnpefmjhaaGreatDoor.Vm
def Ld {α ρ :Type} (A:(α ->Option ρ)->Option ρ) (f: α ->Option ρ):Option ρ :=A f
def Jy {ρ :Type} (b:Bool) (k:Bool->Option ρ):Option ρ :=k b
def Al2 {ρ :Type} (b:Bool) (k:Bool->Option ρ):Jy b k=k b:=rfl
def A0h {α β :Type}:Option (α ⊕ β)->Bool
 | some (.inr _)=>false
 | _=>true
def A0c {α β :Type}:Option (α ⊕ β)->Option α
 | some (.inl x)=>some x
 | _=>none
def A0d {α β :Type}:Option (α ⊕ β)->Option β
 | some (.inr x)=>some x
 | _=>none
def SH {α β ρ :Type} [Inhabited α] [Inhabited β] (o:Option (α ⊕ β)) (k: α ->Option ρ) (l: β ->Option ρ):Option ρ :=bif A0h o then Jq (A0c o) k else Jq (A0d o) l
def jW {α β ρ :Type} [Inhabited α] [Inhabited β] (x: α) (k: α ->Option ρ) (l: β ->Option ρ):SH (some (.inl x)) k l=k x:=rfl
def Tz {α β ρ :Type} [Inhabited α] [Inhabited β] (x: β) (k: α ->Option ρ) (l: β ->Option ρ):SH (some (.inr x)) k l=l x:=rfl
def strings_Join (_:Nat) (l:List Bs) (sep:Bs):Option Bs:=bif decide (l.length<=140737488355328)&&decide ((sep.intercalate l).length<=140737488355328)then some (sep.intercalate l)else none
def U2 {a0 a1 r:Type} (f:a0->a1->r) (x:a0×a1):r:=f x.1 x.2
def U3 {a0 a1 a2 r:Type} (f:a0->a1->a2->r) (x:a0×a1×a2):r:=f x.1 x.2.1 x.2.2
def U4 {a0 a1 a2 a3 r:Type} (f:a0->a1->a2->a3->r) (x:a0×a1×a2×a3):r:=f x.1 x.2.1 x.2.2.1 x.2.2.2
def U5 {a0 a1 a2 a3 a4 r:Type} (f:a0->a1->a2->a3->a4->r) (x:a0×a1×a2×a3×a4):r:=f x.1 x.2.1 x.2.2.1 x.2.2.2.1 x.2.2.2.2
def U6 {a0 a1 a2 a3 a4 a5 r:Type} (f:a0->a1->a2->a3->a4->a5->r) (x:a0×a1×a2×a3×a4×a5):r:=f x.1 x.2.1 x.2.2.1 x.2.2.2.1 x.2.2.2.2.1 x.2.2.2.2.2
def U7 {a0 a1 a2 a3 a4 a5 a6 r:Type} (f:a0->a1->a2->a3->a4->a5->a6->r) (x:a0×a1×a2×a3×a4×a5×a6):r:=f x.1 x.2.1 x.2.2.1 x.2.2.2.1 x.2.2.2.2.1 x.2.2.2.2.2.1 x.2.2.2.2.2.2
def U8 {a0 a1 a2 a3 a4 a5 a6 a7 r:Type} (f:a0->a1->a2->a3->a4->a5->a6->a7->r) (x:a0×a1×a2×a3×a4×a5×a6×a7):r:=f x.1 x.2.1 x.2.2.1 x.2.2.2.1 x.2.2.2.2.1 x.2.2.2.2.2.1 x.2.2.2.2.2.2.1 x.2.2.2.2.2.2.2
def U9 {a0 a1 a2 a3 a4 a5 a6 a7 a8 r:Type} (f:a0->a1->a2->a3->a4->a5->a6->a7->a8->r) (x:a0×a1×a2×a3×a4×a5×a6×a7×a8):r:=f x.1 x.2.1 x.2.2.1 x.2.2.2.1 x.2.2.2.2.1 x.2.2.2.2.2.1 x.2.2.2.2.2.2.1 x.2.2.2.2.2.2.2.1 x.2.2.2.2.2.2.2.2
def U10 {a0 a1 a2 a3 a4 a5 a6 a7 a8 a9 r:Type} (f:a0->a1->a2->a3->a4->a5->a6->a7->a8->a9->r) (x:a0×a1×a2×a3×a4×a5×a6×a7×a8×a9):r:=f x.1 x.2.1 x.2.2.1 x.2.2.2.1 x.2.2.2.2.1 x.2.2.2.2.2.1 x.2.2.2.2.2.2.1 x.2.2.2.2.2.2.2.1 x.2.2.2.2.2.2.2.2.1 x.2.2.2.2.2.2.2.2.2
def U19 {a0 a1 a2 a3 a4 a5 a6 a7 a8 a9 a10 a11 a12 a13 a14 a15 a16 a17 a18 r:Type} (f:a0->a1->a2->a3->a4->a5->a6->a7->a8->a9->a10->a11->a12->a13->a14->a15->a16->a17->a18->r) (x:a0×a1×a2×a3×a4×a5×a6×a7×a8×a9×a10×a11×a12×a13×a14×a15×a16×a17×a18):r:=f x.1 x.2.1 x.2.2.1 x.2.2.2.1 x.2.2.2.2.1 x.2.2.2.2.2.1 x.2.2.2.2.2.2.1 x.2.2.2.2.2.2.2.1 x.2.2.2.2.2.2.2.2.1 x.2.2.2.2.2.2.2.2.2.1 x.2.2.2.2.2.2.2.2.2.2.1 x.2.2.2.2.2.2.2.2.2.2.2.1 x.2.2.2.2.2.2.2.2.2.2.2.2.1 x.2.2.2.2.2.2.2.2.2.2.2.2.2.1 x.2.2.2.2.2.2.2.2.2.2.2.2.2.2.1 x.2.2.2.2.2.2.2.2.2.2.2.2.2.2.2.1 x.2.2.2.2.2.2.2.2.2.2.2.2.2.2.2.2.1 x.2.2.2.2.2.2.2.2.2.2.2.2.2.2.2.2.2.1 x.2.2.2.2.2.2.2.2.2.2.2.2.2.2.2.2.2.2
def U20 {a0 a1 a2 a3 a4 a5 a6 a7 a8 a9 a10 a11 a12 a13 a14 a15 a16 a17 a18 a19 r:Type} (f:a0->a1->a2->a3->a4->a5->a6->a7->a8->a9->a10->a11->a12->a13->a14->a15->a16->a17->a18->a19->r) (x:a0×a1×a2×a3×a4×a5×a6×a7×a8×a9×a10×a11×a12×a13×a14×a15×a16×a17×a18×a19):r:=f x.1 x.2.1 x.2.2.1 x.2.2.2.1 x.2.2.2.2.1 x.2.2.2.2.2.1 x.2.2.2.2.2.2.1 x.2.2.2.2.2.2.2.1 x.2.2.2.2.2.2.2.2.1 x.2.2.2.2.2.2.2.2.2.1 x.2.2.2.2.2.2.2.2.2.2.1 x.2.2.2.2.2.2.2.2.2.2.2.1 x.2.2.2.2.2.2.2.2.2.2.2.2.1 x.2.2.2.2.2.2.2.2.2.2.2.2.2.1 x.2.2.2.2.2.2.2.2.2.2.2.2.2.2.1 x.2.2.2.2.2.2.2.2.2.2.2.2.2.2.2.1 x.2.2.2.2.2.2.2.2.2.2.2.2.2.2.2.2.1 x.2.2.2.2.2.2.2.2.2.2.2.2.2.2.2.2.2.1 x.2.2.2.2.2.2.2.2.2.2.2.2.2.2.2.2.2.2.1 x.2.2.2.2.2.2.2.2.2.2.2.2.2.2.2.2.2.2.2
def U21 {a0 a1 a2 a3 a4 a5 a6 a7 a8 a9 a10 a11 a12 a13 a14 a15 a16 a17 a18 a19 a20 r:Type} (f:a0->a1->a2->a3->a4->a5->a6->a7->a8->a9->a10->a11->a12->a13->a14->a15->a16->a17->a18->a19->a20->r) (x:a0×a1×a2×a3×a4×a5×a6×a7×a8×a9×a10×a11×a12×a13×a14×a15×a16×a17×a18×a19×a20):r:=f x.1 x.2.1 x.2.2.1 x.2.2.2.1 x.2.2.2.2.1 x.2.2.2.2.2.1 x.2.2.2.2.2.2.1 x.2.2.2.2.2.2.2.1 x.2.2.2.2.2.2.2.2.1 x.2.2.2.2.2.2.2.2.2.1 x.2.2.2.2.2.2.2.2.2.2.1 x.2.2.2.2.2.2.2.2.2.2.2.1 x.2.2.2.2.2.2.2.2.2.2.2.2.1 x.2.2.2.2.2.2.2.2.2.2.2.2.2.1 x.2.2.2.2.2.2.2.2.2.2.2.2.2.2.1 x.2.2.2.2.2.2.2.2.2.2.2.2.2.2.2.1 x.2.2.2.2.2.2.2.2.2.2.2.2.2.2.2.2.1 x.2.2.2.2.2.2.2.2.2.2.2.2.2.2.2.2.2.1 x.2.2.2.2.2.2.2.2.2.2.2.2.2.2.2.2.2.2.1 x.2.2.2.2.2.2.2.2.2.2.2.2.2.2.2.2.2.2.2.1 x.2.2.2.2.2.2.2.2.2.2.2.2.2.2.2.2.2.2.2.2
def U22 {a0 a1 a2 a3 a4 a5 a6 a7 a8 a9 a10 a11 a12 a13 a14 a15 a16 a17 a18 a19 a20 a21 r:Type} (f:a0->a1->a2->a3->a4->a5->a6->a7->a8->a9->a10->a11->a12->a13->a14->a15->a16->a17->a18->a19->a20->a21->r) (x:a0×a1×a2×a3×a4×a5×a6×a7×a8×a9×a10×a11×a12×a13×a14×a15×a16×a17×a18×a19×a20×a21):r:=f x.1 x.2.1 x.2.2.1 x.2.2.2.1 x.2.2.2.2.1 x.2.2.2.2.2.1 x.2.2.2.2.2.2.1 x.2.2.2.2.2.2.2.1 x.2.2.2.2.2.2.2.2.1 x.2.2.2.2.2.2.2.2.2.1 x.2.2.2.2.2.2.2.2.2.2.1 x.2.2.2.2.2.2.2.2.2.2.2.1 x.2.2.2.2.2.2.2.2.2.2.2.2.1 x.2.2.2.2.2.2.2.2.2.2.2.2.2.1 x.2.2.2.2.2.2.2.2.2.2.2.2.2.2.1 x.2.2.2.2.2.2.2.2.2.2.2.2.2.2.2.1 x.2.2.2.2.2.2.2.2.2.2.2.2.2.2.2.2.1 x.2.2.2.2.2.2.2.2.2.2.2.2.2.2.2.2.2.1 x.2.2.2.2.2.2.2.2.2.2.2.2.2.2.2.2.2.2.1 x.2.2.2.2.2.2.2.2.2.2.2.2.2.2.2.2.2.2.2.1 x.2.2.2.2.2.2.2.2.2.2.2.2.2.2.2.2.2.2.2.2.1 x.2.2.2.2.2.2.2.2.2.2.2.2.2.2.2.2.2.2.2.2.2
def U23 {a0 a1 a2 a3 a4 a5 a6 a7 a8 a9 a10 a11 a12 a13 a14 a15 a16 a17 a18 a19 a20 a21 a22 r:Type} (f:a0->a1->a2->a3->a4->a5->a6->a7->a8->a9->a10->a11->a12->a13->a14->a15->a16->a17->a18->a19->a20->a21->a22->r) (x:a0×a1×a2×a3×a4×a5×a6×a7×a8×a9×a10×a11×a12×a13×a14×a15×a16×a17×a18×a19×a20×a21×a22):r:=f x.1 x.2.1 x.2.2.1 x.2.2.2.1 x.2.2.2.2.1 x.2.2.2.2.2.1 x.2.2.2.2.2.2.1 x.2.2.2.2.2.2.2.1 x.2.2.2.2.2.2.2.2.1 x.2.2.2.2.2.2.2.2.2.1 x.2.2.2.2.2.2.2.2.2.2.1 x.2.2.2.2.2.2.2.2.2.2.2.1 x.2.2.2.2.2.2.2.2.2.2.2.2.1 x.2.2.2.2.2.2.2.2.2.2.2.2.2.1 x.2.2.2.2.2.2.2.2.2.2.2.2.2.2.1 x.2.2.2.2.2.2.2.2.2.2.2.2.2.2.2.1 x.2.2.2.2.2.2.2.2.2.2.2.2.2.2.2.2.1 x.2.2.2.2.2.2.2.2.2.2.2.2.2.2.2.2.2.1 x.2.2.2.2.2.2.2.2.2.2.2.2.2.2.2.2.2.2.1 x.2.2.2.2.2.2.2.2.2.2.2.2.2.2.2.2.2.2.2.1 x.2.2.2.2.2.2.2.2.2.2.2.2.2.2.2.2.2.2.2.2.1 x.2.2.2.2.2.2.2.2.2.2.2.2.2.2.2.2.2.2.2.2.2.1 x.2.2.2.2.2.2.2.2.2.2.2.2.2.2.2.2.2.2.2.2.2.2
abbrev CY {a b c d e:Type} (x:a×b×c×d×e):e:=x.2.2.2.2
abbrev CZ {a b c d e f g h i:Type} (x:a×b×c×d×e×f×g×h×i):i:=x.2.2.2.2.2.2.2.2
abbrev Dc {a b c d e f g h i j k l m:Type} (x:a×b×c×d×e×f×g×h×i×j×k×l×m):m:=x.2.2.2.2.2.2.2.2.2.2.2.2
abbrev Dh {a b c d e f g h i j k l m n o p q:Type} (x:a×b×c×d×e×f×g×h×i×j×k×l×m×n×o×p×q):q:=x.2.2.2.2.2.2.2.2.2.2.2.2.2.2.2.2
abbrev Di {a b c d e f g h i j k l m n o p q r s t u:Type} (x:a×b×c×d×e×f×g×h×i×j×k×l×m×n×o×p×q×r×s×t×u):u:=x.2.2.2.2.2.2.2.2.2.2.2.2.2.2.2.2.2.2.2.2
abbrev Dj {a b c d e f g h i j k l m n o p q r s t u v w x y:Type} (x:a×b×c×d×e×f×g×h×i×j×k×l×m×n×o×p×q×r×s×t×u×v×w×x×y):y:=x.2.2.2.2.2.2.2.2.2.2.2.2.2.2.2.2.2.2.2.2.2.2.2.2
abbrev Dk {a b c d e f g h i j k l m n o p q r s t u v w x y z A B C:Type} (x:a×b×c×d×e×f×g×h×i×j×k×l×m×n×o×p×q×r×s×t×u×v×w×x×y×z×A×B×C):C:=x.2.2.2.2.2.2.2.2.2.2.2.2.2.2.2.2.2.2.2.2.2.2.2.2.2.2.2.2
abbrev Aa {ρ:Type} (b:Bool) (k:Option ρ):Option ρ:=chk (b||!b) k
abbrev Ac {ρ:Type} (b:Bool) (k:Option ρ):Option ρ:=Aa b (Aa b k)
abbrev Ad {ρ:Type} (b:Bool) (k:Option ρ):Option ρ:=Aa b (Ac b k)
abbrev Ae {ρ:Type} (b:Bool) (k:Option ρ):Option ρ:=Aa b (Ad b k)
abbrev Af {ρ:Type} (b:Bool) (k:Option ρ):Option ρ:=Aa b (Ae b k)
abbrev Ag {ρ:Type} (b:Bool) (k:Option ρ):Option ρ:=Aa b (Af b k)
abbrev Ah {ρ:Type} (b:Bool) (k:Option ρ):Option ρ:=chk (bif b then b else true) (chk (bif b then true else true) k)
abbrev Ai {ρ:Type} (b:Bool) (k:Option ρ):Option ρ:=chk (bif b then true else !b) (chk (bif b then true else true) k)
abbrev Aj {ρ:Type} (i:Int) (n:Nat) (k:Option ρ):Option ρ:=chk (decide (0<=i)) (chk (decide (i<(n:Int))) k)
abbrev Ak {ρ:Type} (p:Prop) [Decidable p] (k:Option ρ):Option ρ:=chk (decide p) k
abbrev Am {ρ:Type} (n:Nat) (k:Option ρ):Option ρ:=chk (decide (n<=140737488355328)) k
def A19:List Bs:=[[50,46,53,46,50,57,46,49,57],[50,46,53,46,50,57,46,49,53],[50,46,53,46,50,57,46,51,55],[50,46,53,46,50,57,46,51,50],[50,46,53,46,50,57,46,51,51],[50,46,53,46,50,57,46,51,54],[50,46,53,46,50,57,46,53,52],[50,46,53,46,50,57,46,49,55],[50,46,53,46,50,57,46,51,48],[50,46,53,46,50,57,46,49,52],[50,46,53,46,50,57,46,51,53],[50,46,53,46,50,57,46,51,49],[50,46,53,46,50,57,46,52,54]]
open Go.RowKit
def Below.moves {O:Own} {T:Nat->Prop} {w w':World} (h:Below w.heap.size w w'):Moves O T w w':=⟨h.os,h.tape,h.output,h.size,fun b hb=>.inl (h.block b hb)⟩
noncomputable def TP (e N:Nat):Sig:=.of [.cell false (.sl e (.str .nil)),.cell false .str] [.cell false .str] (fun a=>strings_Join N a.1 a.2)
def AbA {O:Own} {w:World} {v:Value} {s:List UInt8} (h:JE O w v (.str s)):v= .string ⟨s.toArray⟩:=by
 cases h with
 | str s=>exact congrArg Value.string (by rw[Array.toArray_toList])
def o8 {O:Own} {w w':World} {vs:Array Value} {e N:Nat} {s:List UInt8} (hb:Below w.heap.size w w'):Came O w vs (TP e N) [.str s] (.string ⟨s.toArray⟩) O w':=by
 refine⟨Below.moves hb,fun b k _ h=>h,fun b k _ h=>h,rfl,⟨#[.string ⟨s.toArray⟩],rfl,rfl,fun k hk=> ?_⟩,fun j i hj=> ?_⟩
 .have hk0:k=0:=by simp at hk;omega
  subst hk0;show JE O w' (.string ⟨s.toArray⟩) (.str s);exact JE.str (O:=O) (w:=w') ⟨s.toArray⟩
 .exact absurd hj (by show(LG [.cell false (.sl e (.str .nil)),.cell false .str] 0)[j]? ≠some i;simp [LG,KO])
def Ao2 (P:Program) (f:FuncId):Prop :=
 (∀(a:Option Addr) (c:Nat) (sep:ByteArray) (w:World),Calls P f #[.slice a 0 c,.string sep] w fun e w'=>e= .returned (.string ⟨#[]⟩)/\w'=w) /\
 (∀(bk o c:Nat) (xs:List ByteArray) (sep:ByteArray) (w:World),(∀(j:Nat) x,xs[j]? =some x->w.cell? ⟨bk,o+j,none⟩=some (.string x))->bk<w.heap.size->xs.length<=140737488355328->xs.length<=c->(Lib.join (xs.map (·.data.toList)) sep.data.toList).length<=140737488355328 ->
   Calls P f #[.slice (some ⟨bk,o,none⟩) xs.length c,.string sep] w fun e w'=>e= .returned (.string ⟨(Lib.join (xs.map (·.data.toList)) sep.data.toList).toArray⟩)/\Below w.heap.size w w')
def AiO {P:Program} {f:FuncId} {e N:Nat} (H:Ao2 P f) {O:Own} {w:World} {vs:Array Value} (l:List Bs) (sep o:Bs) (hl2:vs.size=2) (hx0:JE O w (vs.getD 0 undef) (.sl ⟨.str .nil,l⟩)) (hx1:JE O w (vs.getD 1 undef) (.str sep)) (h2':strings_Join N l sep=some o) :
 Calls P f vs w fun e' w'=> ∃ v O',e'= .returned v/\Came O w vs (TP e N) [.str o] v O' w':=by
 obtain⟨hn,hj⟩:=H
 have hvs:vs= #[vs.getD 0 undef,vs.getD 1 undef]:=by
  apply Gu
  .simpa using hl2
  .intro i h1 h2;have:i=0\/i=1:=by simp at h2;omega
   rcases this with rfl | rfl
   .simp [Dy,h1]
   .simp [Dy,h1]
 rw[AbA hx1]at hvs;unfold strings_Join at h2';cases hc:(decide (l.length<=140737488355328)&&decide ((sep.intercalate l).length<=140737488355328))with
 | false=>rw[hc]at h2';cases h2'
 | true =>
  rw[hc]at h2';injection h2' with h2';rw[Dv,D6,D6]at hc;subst h2';have hes0:(⟨.str .nil,l⟩:Sl).es=l.map (fun s:Bs=>[A.str s]):=rfl;generalize hv0:vs.getD 0 undef=v0 at *
  have hnil:l=[]-> ∀ a c,v0= .slice a 0 c->Calls P f vs w fun e' w'=> ∃ v O',e'= .returned v/\Came O w vs (TP e N) [.str (sep.intercalate l)] v O' w':=by
   intro hl0 a c hv0';have:=hn a c ⟨sep.toArray⟩ w;rw[<- hv0',<- hvs]at this;refine this.mono fun e' w' hq=> ?_;obtain⟨h4,h5⟩:=hq;subst h5;refine⟨_,O,h4,?_⟩;have:sep.intercalate l=[]:=by rw[hl0];rfl
   rw[this];exact o8 (Below.refl _ _)
  have hsz:(⟨.str .nil,l⟩:Sl).sz=1:=rfl;generalize hL:(⟨.str .nil,l⟩:Sl)=L at hx0 hes0 hsz;have hlen:L.es.length=l.length:=by rw[hes0,D7]
  have hes: ∀ j:Nat,L.es[j]? =(l[j]?).map (fun s=>[A.str s]):=fun j=>by rw[hes0,E8]
  cases hx0 with
  | nil t =>
   have:l=[]:=by injection hL with h1 h2;subst h1;exact IX h2
   exact hnil this _ _ rfl
  | sl0 ad t =>
   have:l=[]:=by injection hL with h1 h2;subst h1;exact IX h2
   exact hnil this _ _ rfl
  | @sl b off cap l' vs' hcap hm hr =>
   cases hl0:l with
   | nil=>rw[<- hl0];exact hnil hl0 _ cap (by rw[hlen,hl0];rfl)
   | cons s0 r =>
    have hb:b<w.heap.size:=by have:=(hm 0 0 (by rw[hlen,hl0];simp) (by omega)).2;exact cell_lt this
    rw[<- hl0]
    have hmap:(l.map (fun s=>(⟨s.toArray⟩:ByteArray))).map (·.data.toList)=l:=by
     rw[Fp]
     conv=>rhs;rw[<- FW l]
     refine EK fun s _=> ?_;simp
    have hJ:=hj b off cap (l.map (fun s=>(⟨s.toArray⟩:ByteArray))) ⟨sep.toArray⟩ w (fun j x hjx=>by
     rw[E8]at hjx;cases hlj:l[j]? with
     | none=>rw[hlj]at hjx;cases hjx
     | some s =>
      rw[hlj]at hjx;injection hjx with hjx
      have hjl:j<L.es.length:=by
       rw[hlen];rcases En j l.length with h | h
       .exact h
       .rw[Eh h]at hlj;cases hlj
      have hm1:=(hm j 0 hjl (by omega)).2;have hr1:=hr j 0 hjl (by omega);rw[Dp (l:=L.es),hes,hlj]at hr1;have:=AbA (show JE O w (vs' j 0) (.str s)from hr1);rw[this]at hm1;rw[<- hjx];have e1:off+(j*L.sz+0)=off+j:=by rw[hsz];omega
      rw[e1]at hm1;exact hm1) hb (by rw[D7];exact hc.1) (by rw[D7,<- hlen];exact hcap) (by rw[hmap];show(List.intercalate _ l).length<=_;simpa using hc.2)
    rw[D7,hmap,<- hlen,<- hvs]at hJ;refine hJ.mono fun e' w' hq=> ?_;have e2:Lib.join l (⟨sep.toArray⟩:ByteArray).data.toList=sep.intercalate l:=by show List.intercalate _ l=_;simp
    rw[e2]at hq;exact⟨_,O,hq.1,o8 hq.2⟩
def Ak5 {P:Program} {f:FuncId} {e N:Nat} (hent: ∀ args w,(callFunc f args).run P w= .ok (.enter f args) w) (H:Ao2 P f):Spec P f (TP e N):=by refine⟨hent,fun O w vs xs rs _ hv hl _ hx hrs=> ?_⟩;obtain⟨a,o,h1,h2,h3⟩:=Sig.AaR hrs;subst h1;have h3':rs=[.str o]:=h3;rw[h3'];exact AiO H a.1 a.2 o hv (hx 0 (by show 0<2;omega)) (hx 1 (by show 1<2;omega)) h2
end Go.Proofs.YtakmjgnpefmjhaaGreatDoor.Vm
namespace Go.Proofs
open Go.Shelf
def Tryz.lays156_ren:Go.Shelf.Ren:=⟨fun | 156=>246 | 165=>268 | 166=>269 | 169=>270 | 240=>291 | 241=>292 | 276=>304 | 277=>305 | n=>n,fun | 31=>31 | 9=>9 | 3=>3 | 4=>4 | 0=>0 | 20=>20 | 72=>241 | 76=>245 | 70=>239 | 37=>74 | 75=>244 | 127=>255 | 164=>257 | 5=>5 | 80=>247 | n=>n,fun | n=>n⟩
def Tryz.lays156:Go.Proofs.Lays.n156 Tryz.prog Tryz.lays156_ren:= {
 mixed:=by kernel_rfl
 f156:=Tryz.func246.trans (congrArg some (by kernel_rfl))
 f165:=Tryz.func268.trans (congrArg some (by kernel_rfl))
 f166:=Tryz.func269.trans (congrArg some (by kernel_rfl))
 f169:=Tryz.func270.trans (congrArg some (by kernel_rfl))
 f240:=Tryz.func291.trans (congrArg some (by kernel_rfl))
 f241:=Tryz.func292.trans (congrArg some (by kernel_rfl))
 f276:=Tryz.func304.trans (congrArg some (by kernel_rfl))
 f277:=Tryz.func305.trans (congrArg some (by kernel_rfl))
 t0:=Tryz.underlying0
 a0:=Tryz.isAgg0
 z0:=Tryz.sizeOf0
 v0:=Tryz.zeroValue0
 t3:=Tryz.underlying3
 a3:=Tryz.isAgg3
 z3:=Tryz.sizeOf3
 v3:=Tryz.zeroValue3
 t4:=Tryz.underlying4
 a4:=Tryz.isAgg4
 z4:=Tryz.sizeOf4
 v4:=Tryz.zeroValue4
 t9:=Tryz.underlying9
 a9:=Tryz.isAgg9
 z9:=Tryz.sizeOf9
 v9:=Tryz.zeroValue9
 t20:=Tryz.underlying20
 a20:=Tryz.isAgg20
 z20:=Tryz.sizeOf20
 v20:=Tryz.zeroValue20
 t31:=Tryz.underlying31
 a31:=Tryz.isAgg31
 z31:=Tryz.sizeOf31
 v31:=Tryz.zeroValue31
 t37:=Tryz.underlying74
 a37:=Tryz.isAgg74
 z37:=Tryz.sizeOf74
 v37:=Tryz.zeroValue74
 t70:=Tryz.underlying239
 a70:=Tryz.isAgg239
 z70:=Tryz.sizeOf239
 v70:=Tryz.zeroValue239
 t72:=Tryz.underlying241
 a72:=Tryz.isAgg241
 z72:=Tryz.sizeOf241
 v72:=Tryz.zeroValue241
 t75:=Tryz.underlying244
 a75:=Tryz.isAgg244
 z75:=Tryz.sizeOf244
 v75:=Tryz.zeroValue244
 t76:=Tryz.underlying245
 a76:=Tryz.isAgg245
 z76:=Tryz.sizeOf245
 v76:=Tryz.zeroValue245
 t127:=Tryz.underlying255
 a127:=Tryz.isAgg255
 z127:=Tryz.sizeOf255
 v127:=Tryz.zeroValue255
 t164:=Tryz.underlying257
 a164:=Tryz.isAgg257
 z164:=Tryz.sizeOf257
 v164:=Tryz.zeroValue257}
def Tryz.Builder_Extra_156:Builder.Extra Tryz.prog Tryz.lays156_ren:= {
 sizeBuilder:=by kernel_rfl
 liesBuilder:=by kernel_rfl
 t5:=Tryz.underlying5
 a5:=Tryz.isAgg5
 z5:=Tryz.sizeOf5
 v5:=Tryz.zeroValue5
 infoByte:=by kernel_rfl
 cellsByte:=by kernel_rfl
 sizeByte:=by kernel_rfl
 neB5:=by decide}
open Go.RowKit in
def Tryz.strings_Join_none (a:Option Addr) (c:Nat) (sep:ByteArray) (w:World) :
 Calls Tryz.prog 246 #[.slice a 0 c,.string sep] w fun e w'=>e= .returned (.string ⟨#[]⟩)/\w'=w:=Any.strings_Join_none Tryz.lays156 Tryz.Builder_Extra_156 a c sep w
open Go.RowKit in
def Tryz.strings_Join (bk o c:Nat) (xs:List ByteArray) (sep:ByteArray) (w:World) (hcells: ∀(j:Nat) x,xs[j]? =some x->w.cell? ⟨bk,o+j,none⟩=some (.string x)) (hbk:bk<w.heap.size) (hN:xs.length<=140737488355328) (hcap:xs.length<=c) (hlen:(Lib.join (xs.map (·.data.toList)) sep.data.toList).length<=140737488355328) :
 Calls Tryz.prog 246 #[.slice (some ⟨bk,o,none⟩) xs.length c,.string sep] w fun e w'=>e= .returned (.string ⟨(Lib.join (xs.map (·.data.toList)) sep.data.toList).toArray⟩)/\Below w.heap.size w w':=Any.strings_Join Tryz.lays156 Tryz.Builder_Extra_156 bk o c xs sep w hcells hbk hN hcap hlen
def Tryz.Ard:Go.Shelf.Ren:=⟨fun | 137=>283 | 217=>298 | 266=>311 | n=>n,fun | 9=>9 | 5=>5 | 3=>3 | n=>n,fun | n=>n⟩
def Tryz.lays137:Go.Proofs.Lays.n137 Tryz.prog Tryz.Ard:= {
 mixed:=by kernel_rfl
 f137:=Tryz.func283.trans (congrArg some (by kernel_rfl))
 f217:=Tryz.func298.trans (congrArg some (by kernel_rfl))
 f266:=Tryz.func311.trans (congrArg some (by kernel_rfl))
 t3:=Tryz.underlying3
 a3:=Tryz.isAgg3
 z3:=Tryz.sizeOf3
 v3:=Tryz.zeroValue3
 t5:=Tryz.underlying5
 a5:=Tryz.isAgg5
 z5:=Tryz.sizeOf5
 v5:=Tryz.zeroValue5
 t9:=Tryz.underlying9
 a9:=Tryz.isAgg9
 z9:=Tryz.sizeOf9
 v9:=Tryz.zeroValue9}
open Go.RowKit in
def Tryz.strings_IndexByte (s:ByteArray) (c:Int) (w:World) :
 Calls Tryz.prog 283 #[.string s,.int .u8 c] w fun e w'=>e= .returned (.int .i64 (Lib.indexByte s.data.toList c.toNat.toUInt8))/\w'=w:=Any.strings_IndexByte Tryz.lays137 s c w
def Tryz.Arc:Go.Shelf.Ren:=⟨fun | 103=>264 | 210=>290 | 206=>303 | n=>n,fun | 9=>9 | 4=>4 | 24=>234 | 3=>3 | n=>n,fun | n=>n⟩
def Tryz.Azd:Go.Proofs.Lays.n103 Tryz.prog Tryz.Arc:= {
 mixed:=by kernel_rfl
 f103:=Tryz.func264.trans (congrArg some (by kernel_rfl))
 f206:=Tryz.func303.trans (congrArg some (by kernel_rfl))
 f210:=Tryz.func290.trans (congrArg some (by kernel_rfl))
 t3:=Tryz.underlying3
 a3:=Tryz.isAgg3
 z3:=Tryz.sizeOf3
 v3:=Tryz.zeroValue3
 t4:=Tryz.underlying4
 a4:=Tryz.isAgg4
 z4:=Tryz.sizeOf4
 v4:=Tryz.zeroValue4
 t9:=Tryz.underlying9
 a9:=Tryz.isAgg9
 z9:=Tryz.sizeOf9
 v9:=Tryz.zeroValue9
 t24:=Tryz.underlying234
 a24:=Tryz.isAgg234
 z24:=Tryz.sizeOf234
 v24:=Tryz.zeroValue234}
open Go.RowKit in
def Tryz.strings_CutPrefix (s p:ByteArray) (w:World) :
 Calls Tryz.prog 264 #[.string s,.string p] w fun e w'=>e= .returned (.tuple #[.string ⟨(Lib.trimPrefix s.data.toList p.data.toList).toArray⟩,.bool (Lib.hasPrefix s.data.toList p.data.toList)])/\w'=w:=Any.strings_CutPrefix Tryz.Azd s p w
def Tryz.ApC:Go.Shelf.Ren:=⟨fun | 171=>250 | 243=>271 | 246=>293 | 283=>306 | 284=>307 | 285=>308 | 286=>309 | 129=>314 | 317=>313 | 318=>315 | 319=>316 | 320=>317 | 337=>320 | 338=>321 | n=>n,fun | 3=>3 | 9=>9 | 2=>2 | 4=>4 | 171=>260 | 0=>0 | 53=>162 | 37=>74 | 5=>5 | 173=>263 | 212=>273 | 51=>269 | 20=>20 | 213=>274 | 46=>163 | 232=>286 | 233=>287 | n=>n,fun | 17=>3 | 18=>4 | 19=>5 | n=>n⟩
def Tryz.laysM171:Go.Proofs.LaysM.n171 Tryz.prog Tryz.ApC:= {
 mixed:=by kernel_rfl
 f129:=Tryz.func314.trans (congrArg some (by kernel_rfl))
 f171:=Tryz.func250.trans (congrArg some (by kernel_rfl))
 f243:=Tryz.func271.trans (congrArg some (by kernel_rfl))
 f246:=Tryz.func293.trans (congrArg some (by kernel_rfl))
 f283:=Tryz.func306.trans (congrArg some (by kernel_rfl))
 f284:=Tryz.func307.trans (congrArg some (by kernel_rfl))
 f285:=Tryz.func308.trans (congrArg some (by kernel_rfl))
 f286:=Tryz.func309.trans (congrArg some (by kernel_rfl))
 f317:=Tryz.func313.trans (congrArg some (by kernel_rfl))
 f318:=Tryz.func315.trans (congrArg some (by kernel_rfl))
 f319:=Tryz.func316.trans (congrArg some (by kernel_rfl))
 f320:=Tryz.func317.trans (congrArg some (by kernel_rfl))
 f337:=Tryz.func320.trans (congrArg some (by kernel_rfl))
 f338:=Tryz.func321.trans (congrArg some (by kernel_rfl))
 t0:=Tryz.underlying0
 a0:=Tryz.isAgg0
 z0:=Tryz.sizeOf0
 v0:=Tryz.zeroValue0
 t2:=Tryz.underlying2
 a2:=Tryz.isAgg2
 z2:=Tryz.sizeOf2
 v2:=Tryz.zeroValue2
 t3:=Tryz.underlying3
 a3:=Tryz.isAgg3
 z3:=Tryz.sizeOf3
 v3:=Tryz.zeroValue3
 t4:=Tryz.underlying4
 a4:=Tryz.isAgg4
 z4:=Tryz.sizeOf4
 v4:=Tryz.zeroValue4
 t5:=Tryz.underlying5
 a5:=Tryz.isAgg5
 z5:=Tryz.sizeOf5
 v5:=Tryz.zeroValue5
 t9:=Tryz.underlying9
 a9:=Tryz.isAgg9
 z9:=Tryz.sizeOf9
 v9:=Tryz.zeroValue9
 t20:=Tryz.underlying20
 a20:=Tryz.isAgg20
 z20:=Tryz.sizeOf20
 v20:=Tryz.zeroValue20
 t37:=Tryz.underlying74
 a37:=Tryz.isAgg74
 z37:=Tryz.sizeOf74
 v37:=Tryz.zeroValue74
 t46:=Tryz.underlying163
 a46:=Tryz.isAgg163
 z46:=Tryz.sizeOf163
 v46:=Tryz.zeroValue163
 t51:=Tryz.underlying269
 a51:=Tryz.isAgg269
 z51:=Tryz.sizeOf269
 v51:=Tryz.zeroValue269
 t53:=Tryz.underlying162
 a53:=Tryz.isAgg162
 z53:=Tryz.sizeOf162
 v53:=Tryz.zeroValue162
 t171:=Tryz.underlying260
 a171:=Tryz.isAgg260
 z171:=Tryz.sizeOf260
 v171:=Tryz.zeroValue260
 t173:=Tryz.underlying263
 a173:=Tryz.isAgg263
 z173:=Tryz.sizeOf263
 v173:=Tryz.zeroValue263
 t212:=Tryz.underlying273
 a212:=Tryz.isAgg273
 z212:=Tryz.sizeOf273
 v212:=Tryz.zeroValue273
 t213:=Tryz.underlying274
 a213:=Tryz.isAgg274
 z213:=Tryz.sizeOf274
 t232:=Tryz.underlying286
 a232:=Tryz.isAgg286
 z232:=Tryz.sizeOf286
 v232:=Tryz.zeroValue286
 t233:=Tryz.underlying287
 a233:=Tryz.isAgg287
 z233:=Tryz.sizeOf287
 v233:=Tryz.zeroValue287
 g17:=by kernel_rfl
 g18:=by kernel_rfl
 g19:=by kernel_rfl
 i0:=by kernel_rfl
 i2:=by kernel_rfl
 i3:=by kernel_rfl
 i4:=by kernel_rfl
 i5:=by kernel_rfl
 i9:=by kernel_rfl
 i20:=by kernel_rfl
 i37:=by kernel_rfl
 i46:=by kernel_rfl
 i51:=by kernel_rfl
 i53:=by kernel_rfl
 i171:=by kernel_rfl
 i173:=by kernel_rfl
 i212:=by kernel_rfl
 i232:=by kernel_rfl
 i233:=by kernel_rfl
 m17:=by kernel_rfl
 m18:=by kernel_rfl
 m19:=by kernel_rfl}
open Go.RowKit Go.Sort Go.Lib in
def Tryz.strconv_Itoa (n:Int) (h0: -9223372036854775808<=n) (h1:n<=9223372036854775807) (w:World) (htab:Lib.TabIs Tryz.prog w "internal/strconv.uint64pow10" .u64 Lib.pow10Tab) :
 Calls Tryz.prog 250 #[.int .i64 n] w fun e w'=>e= .returned (.string ⟨(Lib.itoa n).toArray⟩)/\ ∃ k os,w'=grow (w.drewN k) os:=Any.strconv_Itoa Tryz.laysM171 n h0 h1 w htab
def Tryz.Arf:Go.Shelf.Ren:=⟨fun | 144=>265 | 143=>258 | 219=>278 | 217=>298 | 225=>299 | 224=>300 | 267=>301 | 266=>311 | 314=>312 | n=>n,fun | 9=>9 | 4=>4 | 3=>3 | 5=>5 | 46=>163 | 146=>270 | 51=>269 | n=>n,fun | 1=>0 | n=>n⟩
def Tryz.lays144:Go.Proofs.Lays.n144 Tryz.prog Tryz.Arf:= {
 mixed:=by kernel_rfl
 f143:=Tryz.func258.trans (congrArg some (by kernel_rfl))
 f144:=Tryz.func265.trans (congrArg some (by kernel_rfl))
 f217:=Tryz.func298.trans (congrArg some (by kernel_rfl))
 f219:=Tryz.func278.trans (congrArg some (by kernel_rfl))
 f224:=Tryz.func300.trans (congrArg some (by kernel_rfl))
 f225:=Tryz.func299.trans (congrArg some (by kernel_rfl))
 f266:=Tryz.func311.trans (congrArg some (by kernel_rfl))
 f267:=Tryz.func301.trans (congrArg some (by kernel_rfl))
 f314:=Tryz.func312.trans (congrArg some (by kernel_rfl))
 t3:=Tryz.underlying3
 a3:=Tryz.isAgg3
 z3:=Tryz.sizeOf3
 v3:=Tryz.zeroValue3
 t4:=Tryz.underlying4
 a4:=Tryz.isAgg4
 z4:=Tryz.sizeOf4
 v4:=Tryz.zeroValue4
 t5:=Tryz.underlying5
 a5:=Tryz.isAgg5
 z5:=Tryz.sizeOf5
 v5:=Tryz.zeroValue5
 t9:=Tryz.underlying9
 a9:=Tryz.isAgg9
 z9:=Tryz.sizeOf9
 v9:=Tryz.zeroValue9
 t46:=Tryz.underlying163
 a46:=Tryz.isAgg163
 z46:=Tryz.sizeOf163
 v46:=Tryz.zeroValue163
 t51:=Tryz.underlying269
 a51:=Tryz.isAgg269
 z51:=Tryz.sizeOf269
 v51:=Tryz.zeroValue269
 t146:=Tryz.underlying270
 a146:=Tryz.isAgg270
 z146:=Tryz.sizeOf270
 v146:=Tryz.zeroValue270
 g1:=by kernel_rfl}
open Go.RowKit Go.Lib in
def Tryz.strings_Contains (s sub:ByteArray) (m:Int) (w:World) (hs:s.size<4294967281) (hm:w.cell? ⟨0,0,none⟩=some (.int .i64 m)) :
 Calls Tryz.prog 265 #[.string s,.string sub] w fun e w'=>e= .returned (.bool (Lib.contains s.data.toList sub.data.toList))/\w'=w:=Any.strings_Contains Tryz.lays144 s sub m w hs hm
def Tryz.Arh:Go.Shelf.Ren:=⟨fun | 145=>262 | 220=>287 | 219=>278 | 217=>298 | 225=>299 | 224=>300 | 267=>301 | 266=>311 | 314=>312 | n=>n,fun | 9=>9 | 4=>4 | 59=>217 | 3=>3 | 5=>5 | 46=>163 | 146=>270 | 51=>269 | n=>n,fun | 1=>0 | n=>n⟩
def Tryz.lays145:Go.Proofs.Lays.n145 Tryz.prog Tryz.Arh:= {
 mixed:=by kernel_rfl
 f145:=Tryz.func262.trans (congrArg some (by kernel_rfl))
 f217:=Tryz.func298.trans (congrArg some (by kernel_rfl))
 f219:=Tryz.func278.trans (congrArg some (by kernel_rfl))
 f220:=Tryz.func287.trans (congrArg some (by kernel_rfl))
 f224:=Tryz.func300.trans (congrArg some (by kernel_rfl))
 f225:=Tryz.func299.trans (congrArg some (by kernel_rfl))
 f266:=Tryz.func311.trans (congrArg some (by kernel_rfl))
 f267:=Tryz.func301.trans (congrArg some (by kernel_rfl))
 f314:=Tryz.func312.trans (congrArg some (by kernel_rfl))
 t3:=Tryz.underlying3
 a3:=Tryz.isAgg3
 z3:=Tryz.sizeOf3
 v3:=Tryz.zeroValue3
 t4:=Tryz.underlying4
 a4:=Tryz.isAgg4
 z4:=Tryz.sizeOf4
 v4:=Tryz.zeroValue4
 t5:=Tryz.underlying5
 a5:=Tryz.isAgg5
 z5:=Tryz.sizeOf5
 v5:=Tryz.zeroValue5
 t9:=Tryz.underlying9
 a9:=Tryz.isAgg9
 z9:=Tryz.sizeOf9
 v9:=Tryz.zeroValue9
 t46:=Tryz.underlying163
 a46:=Tryz.isAgg163
 z46:=Tryz.sizeOf163
 v46:=Tryz.zeroValue163
 t51:=Tryz.underlying269
 a51:=Tryz.isAgg269
 z51:=Tryz.sizeOf269
 v51:=Tryz.zeroValue269
 t59:=Tryz.underlying217
 a59:=Tryz.isAgg217
 z59:=Tryz.sizeOf217
 v59:=Tryz.zeroValue217
 t146:=Tryz.underlying270
 a146:=Tryz.isAgg270
 z146:=Tryz.sizeOf270
 v146:=Tryz.zeroValue270
 g1:=by kernel_rfl}
open Go.RowKit Go.Lib in
def Tryz.strings_Cut (s sep:ByteArray) (m:Int) (w:World) (hs:s.size<4294967281) (hm:w.cell? ⟨0,0,none⟩=some (.int .i64 m)) :
 Calls Tryz.prog 262 #[.string s,.string sep] w fun e w'=>e= .returned (.tuple #[.string ⟨(Lib.cut s.data.toList sep.data.toList).1.toArray⟩,.string ⟨(Lib.cut s.data.toList sep.data.toList).2.1.toArray⟩,.bool (Lib.cut s.data.toList sep.data.toList).2.2])/\ ∃ n,w'=w.drewN n:=Any.strings_Cut Tryz.lays145 s sep m w hs hm
def Tryz.lays192_ren:Go.Shelf.Ren:=⟨fun | 192=>294 | 190=>310 | 125=>319 | 258=>318 | 128=>331 | 129=>314 | 302=>322 | 303=>323 | 304=>324 | 305=>325 | 306=>326 | 307=>327 | 308=>328 | 309=>329 | 310=>330 | 333=>332 | 329=>333 | 330=>334 | 334=>335 | 335=>336 | 336=>337 | 344=>338 | n=>n,fun | 31=>31 | 0=>0 | 9=>9 | 3=>3 | 46=>163 | 51=>269 | 53=>162 | 4=>4 | 183=>280 | 182=>279 | 131=>284 | 5=>5 | 218=>288 | 222=>194 | 228=>293 | 229=>294 | n=>n,fun | n=>n⟩
def Tryz.lays192:Go.Proofs.Lays.n192 Tryz.prog Tryz.lays192_ren:= {
 mixed:=by kernel_rfl
 f125:=Tryz.func319.trans (congrArg some (by kernel_rfl))
 f128:=Tryz.func331.trans (congrArg some (by kernel_rfl))
 f129:=Tryz.func314.trans (congrArg some (by kernel_rfl))
 f190:=Tryz.func310.trans (congrArg some (by kernel_rfl))
 f192:=Tryz.func294.trans (congrArg some (by kernel_rfl))
 f258:=Tryz.func318.trans (congrArg some (by kernel_rfl))
 f302:=Tryz.func322.trans (congrArg some (by kernel_rfl))
 f303:=Tryz.func323.trans (congrArg some (by kernel_rfl))
 f304:=Tryz.func324.trans (congrArg some (by kernel_rfl))
 f305:=Tryz.func325.trans (congrArg some (by kernel_rfl))
 f306:=Tryz.func326.trans (congrArg some (by kernel_rfl))
 f307:=Tryz.func327.trans (congrArg some (by kernel_rfl))
 f308:=Tryz.func328.trans (congrArg some (by kernel_rfl))
 f309:=Tryz.func329.trans (congrArg some (by kernel_rfl))
 f310:=Tryz.func330.trans (congrArg some (by kernel_rfl))
 f329:=Tryz.func333.trans (congrArg some (by kernel_rfl))
 f330:=Tryz.func334.trans (congrArg some (by kernel_rfl))
 f333:=Tryz.func332.trans (congrArg some (by kernel_rfl))
 f334:=Tryz.func335.trans (congrArg some (by kernel_rfl))
 f335:=Tryz.func336.trans (congrArg some (by kernel_rfl))
 f336:=Tryz.func337.trans (congrArg some (by kernel_rfl))
 f344:=Tryz.func338.trans (congrArg some (by kernel_rfl))
 t0:=Tryz.underlying0
 a0:=Tryz.isAgg0
 z0:=Tryz.sizeOf0
 v0:=Tryz.zeroValue0
 t3:=Tryz.underlying3
 a3:=Tryz.isAgg3
 z3:=Tryz.sizeOf3
 v3:=Tryz.zeroValue3
 t4:=Tryz.underlying4
 a4:=Tryz.isAgg4
 z4:=Tryz.sizeOf4
 v4:=Tryz.zeroValue4
 t5:=Tryz.underlying5
 a5:=Tryz.isAgg5
 z5:=Tryz.sizeOf5
 v5:=Tryz.zeroValue5
 t9:=Tryz.underlying9
 a9:=Tryz.isAgg9
 z9:=Tryz.sizeOf9
 v9:=Tryz.zeroValue9
 t31:=Tryz.underlying31
 a31:=Tryz.isAgg31
 z31:=Tryz.sizeOf31
 v31:=Tryz.zeroValue31
 t46:=Tryz.underlying163
 a46:=Tryz.isAgg163
 z46:=Tryz.sizeOf163
 v46:=Tryz.zeroValue163
 t51:=Tryz.underlying269
 a51:=Tryz.isAgg269
 z51:=Tryz.sizeOf269
 v51:=Tryz.zeroValue269
 t53:=Tryz.underlying162
 a53:=Tryz.isAgg162
 z53:=Tryz.sizeOf162
 v53:=Tryz.zeroValue162
 t131:=Tryz.underlying284
 a131:=Tryz.isAgg284
 z131:=Tryz.sizeOf284
 v131:=Tryz.zeroValue284
 t182:=Tryz.underlying279
 a182:=Tryz.isAgg279
 z182:=Tryz.sizeOf279
 v182:=Tryz.zeroValue279
 t183:=Tryz.underlying280
 a183:=Tryz.isAgg280
 z183:=Tryz.sizeOf280
 v183:=Tryz.zeroValue280
 t218:=Tryz.underlying288
 a218:=Tryz.isAgg288
 z218:=Tryz.sizeOf288
 v218:=Tryz.zeroValue288
 t222:=Tryz.underlying194
 a222:=Tryz.isAgg194
 z222:=Tryz.sizeOf194
 v222:=Tryz.zeroValue194
 t228:=Tryz.underlying293
 a228:=Tryz.isAgg293
 z228:=Tryz.sizeOf293
 v228:=Tryz.zeroValue293
 t229:=Tryz.underlying294
 a229:=Tryz.isAgg294
 z229:=Tryz.sizeOf294
 v229:=Tryz.zeroValue294}
open Go.Sort Go.RowKit in
def Tryz.sort_Strings (blk off cap:Nat) (ss:List (List UInt8)) (w:World) (hH:Holds encStr w blk off ss.toArray) (hblk:blk<w.heap.size) (hsz:ss.length<4611686018427387904) :
 Calls Tryz.prog 294 #[.slice (some ⟨blk,off,none⟩) ss.length cap] w fun e w' =>
  e= .returned (.tuple #[])/\ ∃ n os,w'=grow (putRow encStr (Sort.ahead w n) blk off (ss.mergeSort fun x y=>decide (x<=y)).toArray) os:=Any.sort_Strings Tryz.lays192 blk off cap ss w hH hblk hsz
def Tryz.lays99_ren:Go.Shelf.Ren:=⟨fun | 99=>302 | 206=>303 | n=>n,fun | 9=>9 | 4=>4 | 3=>3 | n=>n,fun | n=>n⟩
def Tryz.lays99:Go.Proofs.Lays.n99 Tryz.prog Tryz.lays99_ren:= {
 mixed:=by kernel_rfl
 f99:=Tryz.func302.trans (congrArg some (by kernel_rfl))
 f206:=Tryz.func303.trans (congrArg some (by kernel_rfl))
 t3:=Tryz.underlying3
 a3:=Tryz.isAgg3
 z3:=Tryz.sizeOf3
 v3:=Tryz.zeroValue3
 t4:=Tryz.underlying4
 a4:=Tryz.isAgg4
 z4:=Tryz.sizeOf4
 v4:=Tryz.zeroValue4
 t9:=Tryz.underlying9
 a9:=Tryz.isAgg9
 z9:=Tryz.sizeOf9
 v9:=Tryz.zeroValue9}
open Go.RowKit Go.Lib in
def Tryz.strings_HasPrefix (s p:ByteArray) (w:World) :
 Calls Tryz.prog 302 #[.string s,.string p] w fun e w'=>e= .returned (.bool (Lib.hasPrefix s.data.toList p.data.toList))/\w'=w:=Any.strings_HasPrefix Tryz.lays99 s p w
def Tryz.lays101_ren:Go.Shelf.Ren:=⟨fun | 101=>261 | 208=>286 | 206=>303 | n=>n,fun | 9=>9 | 4=>4 | 3=>3 | n=>n,fun | n=>n⟩
def Tryz.lays101:Go.Proofs.Lays.n101 Tryz.prog Tryz.lays101_ren:= {
 mixed:=by kernel_rfl
 f101:=Tryz.func261.trans (congrArg some (by kernel_rfl))
 f206:=Tryz.func303.trans (congrArg some (by kernel_rfl))
 f208:=Tryz.func286.trans (congrArg some (by kernel_rfl))
 t3:=Tryz.underlying3
 a3:=Tryz.isAgg3
 z3:=Tryz.sizeOf3
 v3:=Tryz.zeroValue3
 t4:=Tryz.underlying4
 a4:=Tryz.isAgg4
 z4:=Tryz.sizeOf4
 v4:=Tryz.zeroValue4
 t9:=Tryz.underlying9
 a9:=Tryz.isAgg9
 z9:=Tryz.sizeOf9
 v9:=Tryz.zeroValue9}
open Go.RowKit Go.Lib in
def Tryz.strings_TrimPrefix (s p:ByteArray) (w:World) :
 Calls Tryz.prog 261 #[.string s,.string p] w fun e w'=>e= .returned (.string ⟨(Lib.trimPrefix s.data.toList p.data.toList).toArray⟩)/\w'=w:=Any.strings_TrimPrefix Tryz.lays101 s p w
def Tryz.lays146_ren:Go.Shelf.Ren:=⟨fun | 146=>204 | 221=>235 | 268=>256 | 138=>257 | 143=>258 | 195=>275 | 197=>276 | 218=>277 | 219=>278 | 260=>297 | 217=>298 | 225=>299 | 224=>300 | 267=>301 | 266=>311 | 314=>312 | n=>n,fun | 9=>9 | 31=>31 | 3=>3 | 4=>4 | 0=>0 | 105=>251 | 21=>21 | 5=>5 | 46=>163 | 119=>265 | 139=>268 | 138=>267 | 146=>270 | 51=>269 | n=>n,fun | 1=>0 | 3=>1 | 4=>2 | n=>n⟩
def Tryz.lays146:Go.Proofs.Lays.n146 Tryz.prog Tryz.lays146_ren:= {
 mixed:=by kernel_rfl
 f138:=Tryz.func257.trans (congrArg some (by kernel_rfl))
 f143:=Tryz.func258.trans (congrArg some (by kernel_rfl))
 f146:=Tryz.func204.trans (congrArg some (by kernel_rfl))
 f195:=Tryz.func275.trans (congrArg some (by kernel_rfl))
 f197:=Tryz.func276.trans (congrArg some (by kernel_rfl))
 f217:=Tryz.func298.trans (congrArg some (by kernel_rfl))
 f218:=Tryz.func277.trans (congrArg some (by kernel_rfl))
 f219:=Tryz.func278.trans (congrArg some (by kernel_rfl))
 f221:=Tryz.func235.trans (congrArg some (by kernel_rfl))
 f224:=Tryz.func300.trans (congrArg some (by kernel_rfl))
 f225:=Tryz.func299.trans (congrArg some (by kernel_rfl))
 f260:=Tryz.func297.trans (congrArg some (by kernel_rfl))
 f266:=Tryz.func311.trans (congrArg some (by kernel_rfl))
 f267:=Tryz.func301.trans (congrArg some (by kernel_rfl))
 f268:=Tryz.func256.trans (congrArg some (by kernel_rfl))
 f314:=Tryz.func312.trans (congrArg some (by kernel_rfl))
 t0:=Tryz.underlying0
 a0:=Tryz.isAgg0
 z0:=Tryz.sizeOf0
 v0:=Tryz.zeroValue0
 t3:=Tryz.underlying3
 a3:=Tryz.isAgg3
 z3:=Tryz.sizeOf3
 v3:=Tryz.zeroValue3
 t4:=Tryz.underlying4
 a4:=Tryz.isAgg4
 z4:=Tryz.sizeOf4
 v4:=Tryz.zeroValue4
 t5:=Tryz.underlying5
 a5:=Tryz.isAgg5
 z5:=Tryz.sizeOf5
 v5:=Tryz.zeroValue5
 t9:=Tryz.underlying9
 a9:=Tryz.isAgg9
 z9:=Tryz.sizeOf9
 v9:=Tryz.zeroValue9
 t21:=Tryz.underlying21
 a21:=Tryz.isAgg21
 z21:=Tryz.sizeOf21
 v21:=Tryz.zeroValue21
 t31:=Tryz.underlying31
 a31:=Tryz.isAgg31
 z31:=Tryz.sizeOf31
 v31:=Tryz.zeroValue31
 t46:=Tryz.underlying163
 a46:=Tryz.isAgg163
 z46:=Tryz.sizeOf163
 v46:=Tryz.zeroValue163
 t51:=Tryz.underlying269
 a51:=Tryz.isAgg269
 z51:=Tryz.sizeOf269
 v51:=Tryz.zeroValue269
 t105:=Tryz.underlying251
 a105:=Tryz.isAgg251
 z105:=Tryz.sizeOf251
 v105:=Tryz.zeroValue251
 t119:=Tryz.underlying265
 a119:=Tryz.isAgg265
 z119:=Tryz.sizeOf265
 t138:=Tryz.underlying267
 a138:=Tryz.isAgg267
 z138:=Tryz.sizeOf267
 v138:=Tryz.zeroValue267
 t139:=Tryz.underlying268
 a139:=Tryz.isAgg268
 z139:=Tryz.sizeOf268
 v139:=Tryz.zeroValue268
 t146:=Tryz.underlying270
 a146:=Tryz.isAgg270
 z146:=Tryz.sizeOf270
 v146:=Tryz.zeroValue270
 g1:=by kernel_rfl
 g3:=by kernel_rfl
 g4:=by kernel_rfl}
open Go.RowKit Go.Lib in
def Tryz.strings_Split (s sep:ByteArray) (m:Int) (w:World) (hs:s.size<4294967281) (hm:w.cell? ⟨0,0,none⟩=some (.int .i64 m)) (h1:1<=sep.size) :
 Calls Tryz.prog 204 #[.string s,.string sep] w fun e w' =>
  e= .returned (.slice (some ⟨w.heap.size,0,none⟩) (Lib.countB s sep+1) (Lib.countB s sep+1))/\w'=w.alloc (.cells ((Lib.splitB sep 0 (Lib.countB s sep) s).map Value.string).toArray 9):=Any.strings_Split Tryz.lays146 (by kernel_rfl) s sep m w hs hm h1
end Go.Proofs
namespace Go.Proofs.YtakmjgnpefmjhaaGreatDoor.Vm
open Go.Proofs
noncomputable def iR (N:Nat):Sig:=TP 9 N
def o9 (N:Nat):Spec Tryz.prog 246 (iR N) :=
 Ak5 (enters (fn:=Tryz.f246) (by kernel_rfl) (by kernel_rfl) (by decide)) ⟨Tryz.strings_Join_none,Tryz.strings_Join⟩
open Go.RowKit
def CK.flat:CK->Bool | .bool=>true | .int _=>true | .str=>true | _=>false
def Sh.flat:Sh->Bool | .cell false k=>k.flat | _=>false
def A.flat:A->Bool | .bool _=>true | .int _ _=>true | .str _=>true | _=>false
def rvA:A->Value | .bool b=>.bool b | .int k n=>.int k n | .str s=>.string ⟨s.toArray⟩ | _=>undef
def AyW {O:Own} {w:World} {id:Nat} {v:Value} {x:A} (hf:x.flat=true) (h:IR O w id v x):v=rvA x:=by
 cases x with
 | bool b=>have h':JE O w v (.bool b):=h;cases h';rfl
 | int k n=>have h':JE O w v (.int k n):=h;cases h';rfl
 | str s=>exact AbA (show JE O w v (.str s)from h)
 | _=>cases hf
def Az0 {O:Own} {w:World} {id:Nat} {x:A} (hf:x.flat=true):IR O w id (rvA x) x:=by
 cases x with
 | bool b=>exact JE.bool b
 | int k n=>exact JE.int k n
 | str s=>exact JE.str (O:=O) (w:=w) ⟨s.toArray⟩
 | _=>cases hf
def Sh.Axc {s:Sh} (h:s.flat=true) (v:s.T):(s.enc v).flat=true:=by
 cases s with
 | cell u k=>cases u<;>cases k<;>first | (cases h;done) | rfl
 | _=>cases h
def AeP: ∀(ss:List Sh) (v:ShT ss),ss.all Sh.flat=true->(encs ss v).all A.flat=true:=by
 intro ss
 induction ss with
 | nil=>intro v _;rfl
 | cons s r ih =>intro v h;rw[List.all_cons,Dv]at h;show((s.enc _).flat&&(encs r _).all A.flat)=true;rw[Sh.Axc h.1,ih _ h.2];rfl
def Axd: ∀(ss:List Sh) (v:ShT ss),(encs ss v).length=ss.length:=by
 intro ss
 induction ss with
 | nil=>intro v;rfl
 | cons s r ih=>intro v;show(encs r _).length+1=_;rw[ih];rfl
def Ajb: ∀(ss:List Sh) (i:Nat),ss.all Sh.flat=true->LG ss i=[]:=by
 intro ss
 induction ss with
 | nil=>intro i _;rfl
 | cons s r ih =>
  intro i h;rw[List.all_cons,Dv]at h;unfold LG;have:KO s=false:=by cases s<;>first | rfl | (cases h.1;done)
  rw[this];exact ih _ h.2
def AvT (Jz JI:List Sh) (h:Jz.all Sh.flat=true):Ns Jz JI=JI:=by unfold Ns;rw[List.filterMap_eq_nil_iff.2 (fun s hs=> ?_),DW];have:=DJ.1 h s hs;cases s<;>first | rfl | (cases this;done)
def Amr {l:List A} (h:l.all A.flat=true) {j:Nat} (hj:j<l.length):(l.getD j .undef).flat=true:=by rw[Dp,D9 hj];exact DJ.1 h _ (EL hj)
def Ahx (l:List A) (j:Nat) (hj:j<l.length):((l.map rvA).toArray).getD j undef=rvA (l.getD j .undef):=by simp [Dy,Dp,hj]
def AuT {O:Own} {w w':World} {vs:Array Value} {sg:Sig} {rs:List A} (hp:sg.Jz.all Sh.flat=true) (hl:rs.length=sg.JI.length) (hf:rs.all A.flat=true) (hb:Below w.heap.size w w'):Came O w vs sg rs (AqE (rs.map rvA).toArray) O w':=by
 have hix:LG sg.Jz 0=[]:=Ajb _ _ hp;refine⟨Below.moves hb,fun b k _ h=>h,fun b k _ h=>h,by rw[hix,hl];rfl,⟨(rs.map rvA).toArray,by simp [hl],rfl,fun k hk=> ?_⟩,fun j i hj=> ?_⟩
 .have hk':k<rs.length:=by simpa using hk
  rw[Ahx rs k hk'];exact Az0 (Amr hf hk')
 .rw[hix]at hj;cases hj
def Ame {O:Own} {w:World} {vs:Array Value} {xs:List A} (hf:xs.all A.flat=true) (hv:vs.size=xs.length) (hx: ∀ j,j<xs.length->IR O w (256*j) (vs.getD j undef) (xs.getD j .undef)):vs=(xs.map rvA).toArray:=by
 apply Gu
 .simp [hv]
 .intro i h1 h2;have hi:i<xs.length:=by omega
  have:=AyW (Amr hf hi) (hx i hi);rw[<- Ahx xs i hi]at this;simp only[Dy,Em h1,Em h2,Option.getD_some]at this;exact this
def AqP (w:World) (k:Nat) (os:Array Go.Obj):Below w.heap.size w (Go.Sort.grow (w.drewN k) os) :=
 ⟨rfl,rfl,rfl,by show _<=(w.heap++os).size;simp,fun i hi=>by show(w.heap++os)[i]? =_;rw[Fe hi]⟩
def Zr {P:Program} {f:FuncId} {Jz JI:List Sh} {g:ShT Jz->Option (ShT (Ns Jz JI))} (hp:Jz.all Sh.flat=true) (hr:JI.all Sh.flat=true) (hent: ∀ args w,(callFunc f args).run P w= .ok (.enter f args) w)
 (H: ∀(O:Own) (w:World) (a:ShT Jz) (o:ShT (Ns Jz JI)),Inv O w->g a=some o->Calls P f ((encs Jz a).map rvA).toArray w fun e w'=>e= .returned (AqE ((encs (Ns Jz JI) o).map rvA).toArray)/\Below w.heap.size w w'):Spec P f (Sig.of Jz JI g):=by
 refine⟨hent,fun O w vs xs rs hI hv hl _ hx hrs=> ?_⟩;obtain⟨a,o,h1,h2,h3⟩:=Sig.AaR hrs;subst h1;have hvs:=Ame (AeP Jz a hp) hv hx;rw[hvs];refine(H O w a o hI h2).mono fun e w' hq=> ?_;obtain⟨he,hb⟩:=hq;subst h3;have ho:Ns Jz JI=JI:=AvT Jz JI hp;refine⟨_,O,he,AuT (sg:=Sig.of Jz JI g) hp ?_ ?_ hb⟩
 .rw[Axd,ho];rfl
 .exact AeP _ _ (by rw[ho];exact hr)
def strings_Split (_:Nat) (s sep:Bs):Option (List Bs):=bif decide (s.length<4294967281)&&decide (1<=sep.length)then some (Lib.split s sep)else none
def strings_IndexByte (_:Nat) (s:Bs) (c:Int):Option Int:=some (Lib.indexByte s c.toNat.toUInt8)
def strings_Cut (_:Nat) (s sep:Bs):Option (Bs×Bs×Bool):=bif decide (s.length<4294967281)then some (Lib.cut s sep)else none
def strings_CutPrefix (_:Nat) (s p:Bs):Option (Bs×Bool):=some (Lib.trimPrefix s p,Lib.hasPrefix s p)
def strings_TrimPrefix (_:Nat) (s p:Bs):Option Bs:=some (Lib.trimPrefix s p)
def strings_HasPrefix (_:Nat) (s p:Bs):Option Bool:=some (Lib.hasPrefix s p)
def strings_Contains (_:Nat) (s p:Bs):Option Bool:=bif decide (s.length<4294967281)then some (Lib.contains s p)else none
def strconv_Itoa (_:Nat) (n:Int):Option Bs:=bif decide (-9223372036854775808<=n)&&decide (n<=9223372036854775807)then some (Lib.itoa n)else none
def UK (l:List Bs):Bs:=(l.mergeSort fun x y=>decide (x<=y)).flatten
def lH (_:Nat) (l:List Bs):Option Bs:=bif decide (0<l.length)&&(decide (l.length<=1099511627776)&&decide (l.flatten.length<=140737488355328))then some (UK l)else none
def Vb (s:ByteArray):Nat->Nat->Bool
 | 0,_=>true
 | n+1,i=>if i<s.size then
  let d:=Utf8.decode s i
  if d.1<32\/d.1=127 then false
  else if d.1=65533/\Lib.hasPrefix (s.data.toList.drop i) [239,191,189]=false then false
  else Vb s n (i+d.2)
  else true
def Au5 (s:Bs):Bool:=Vb ⟨s.toArray⟩ s.length 0
def AcX (_:Nat) (s:Bs):Option Bool:=bif decide (s.length<4294967281)then some (Au5 s)else none
open Go.Proofs Go.RowKit
noncomputable def XA (N:Nat):Sig:=.of [.cell false .str,.cell false .str] [.cell false .bool] (fun a=>strings_Contains N a.1 a.2)
def aG (N:Nat):Spec Tryz.prog 265 (XA N) :=
 Zr rfl rfl (enters (fn:=Tryz.f265) (by kernel_rfl) (by kernel_rfl) (by decide)) fun O w (a:Bs×Bs) (o:Bool) hI h=>by
  obtain⟨s,c⟩:=a;have h:(bif decide (List.length s<4294967281)then some (Lib.contains s c)else none)=some o:=h;cases hc:decide (List.length s<4294967281)with
  | false=>rw[hc]at h;cases h
  | true =>
  rw[hc]at h;injection h with h;subst h;have hs:=DN hc;obtain⟨_,v,hm,m,rfl⟩:=hI.1 0 0 _ rfl;refine(Tryz.strings_Contains ⟨List.toArray s⟩ ⟨List.toArray c⟩ m w hs hm).mono fun e w' hq=> ?_;obtain⟨h1,h2⟩:=hq;subst h2;exact⟨h1,Below.refl _ _⟩
noncomputable def fJ (N:Nat):Sig:=.of [.cell false .str,.cell false .str] [.cell false .str,.cell false .bool] (fun a=>strings_CutPrefix N a.1 a.2)
def zW (N:Nat):Spec Tryz.prog 264 (fJ N) :=
 Zr rfl rfl (enters (fn:=Tryz.f264) (by kernel_rfl) (by kernel_rfl) (by decide)) fun O w (a:Bs×Bs) (o:Bs×Bool) hI h=>by obtain⟨s,c⟩:=a;have h:some ((Lib.trimPrefix s c,Lib.hasPrefix s c))=some o:=h;injection h with h;subst h;refine(Tryz.strings_CutPrefix ⟨List.toArray s⟩ ⟨List.toArray c⟩ w).mono fun e w' hq=> ?_;obtain⟨h1,h2⟩:=hq;subst h2;exact⟨h1,Below.refl _ _⟩
noncomputable def Adw (N:Nat):Sig:=.of [.cell false .str,.cell false .str] [.cell false .str,.cell false .str,.cell false .bool] (fun a=>strings_Cut N a.1 a.2)
def AiN (N:Nat):Spec Tryz.prog 262 (Adw N) :=
 Zr rfl rfl (enters (fn:=Tryz.f262) (by kernel_rfl) (by kernel_rfl) (by decide)) fun O w (a:Bs×Bs) (o:Bs×Bs×Bool) hI h=>by
  obtain⟨s,c⟩:=a;have h:(bif decide (List.length s<4294967281)then some (Lib.cut s c)else none)=some o:=h;cases hc:decide (List.length s<4294967281)with
  | false=>rw[hc]at h;cases h
  | true =>
  rw[hc]at h;injection h with h;subst h;have hs:=DN hc;obtain⟨_,v,hm,m,rfl⟩:=hI.1 0 0 _ rfl;refine(Tryz.strings_Cut ⟨List.toArray s⟩ ⟨List.toArray c⟩ m w hs hm).mono fun e w' hq=> ?_;obtain⟨h1,n,h2⟩:=hq;subst h2;exact⟨h1,⟨rfl,rfl,rfl,DK _,fun _ _=>rfl⟩⟩
noncomputable def WG (N:Nat):Sig:=.of [.cell false .str,.cell false (.int .u8)] [.cell false (.int .i64)] (fun a=>strings_IndexByte N a.1 a.2)
def YM (N:Nat):Spec Tryz.prog 283 (WG N) :=
 Zr rfl rfl (enters (fn:=Tryz.f283) (by kernel_rfl) (by kernel_rfl) (by decide)) fun O w (a:Bs×Int) (o:Int) hI h=>by obtain⟨s,c⟩:=a;have h:some (Lib.indexByte s c.toNat.toUInt8)=some o:=h;injection h with h;subst h;refine(Tryz.strings_IndexByte ⟨List.toArray s⟩ c w).mono fun e w' hq=> ?_;obtain⟨h1,h2⟩:=hq;subst h2;exact⟨h1,Below.refl _ _⟩
def AxD {O:Own} {w:World} (hI:Inv O w):Lib.TabIs Tryz.prog w "internal/strconv.uint64pow10" .u64 Lib.pow10Tab:=by
 obtain⟨c,e,fr,h1,h2⟩:=hI.2 3 20 rfl;have hg:Tryz.prog.globalNamed "internal/strconv.uint64pow10" =some 3:=by kernel_rfl
 unfold Lib.TabIs World.var?;rw[hg];show(match w.heap[3]? with | some (.cells cs _ _)=>some cs | _=>none)=_;rw[h1];refine congrArg some (Gu (by rw[h2];simp [Lib.pow10Tab_length]) fun i hi hi'=> ?_);have hi20:i<20:=by omega
 obtain⟨_,v,hv,hp⟩:=hI.1 3 i _ (Dq hi20)
 have hv':c[i]? =some v:=by
  have:w.cell? (at' 3 i)=c[i]? :=by simp [World.cell?,h1]
  rw[<- this];exact hv
 rw[Em hi]at hv';injection hv' with hv';rw[hv',hp];simp [Lib.pow10Tab]
noncomputable def Abv (N:Nat):Sig:=.of [.cell false (.int .i64)] [.cell false .str] (fun a=>strconv_Itoa N a)
def Ahm (N:Nat):Spec Tryz.prog 250 (Abv N) :=
 Zr rfl rfl (enters (fn:=Tryz.f250) (by kernel_rfl) (by kernel_rfl) (by decide)) fun O w (a:Int) (o:Bs) hI h=>by
  have h:(bif decide (-9223372036854775808<=a)&&decide (a<=9223372036854775807)then some (Lib.itoa a)else none)=some o:=h;cases hc:(decide (-9223372036854775808<=a)&&decide (a<=9223372036854775807))with
  | false=>rw[hc]at h;cases h
  | true =>
  rw[hc]at h;injection h with h;subst h;rw[Dv,D6,D6]at hc;refine(Tryz.strconv_Itoa a hc.1 hc.2 w (AxD hI)).mono fun e w' hq=> ?_;obtain⟨h1,k,os,h2⟩:=hq;subst h2;exact⟨h1,AqP _ _ _⟩
end Go.Proofs.YtakmjgnpefmjhaaGreatDoor.Vm
namespace Go.Proofs.YtakmjgnpefmjhaaGreatDoor
open Go.RowKit Go.Sort Vm
def Amy (l:List (List UInt8)):Lib.join l []=l.flatten:=by
 cases l with
 | nil=>rfl
 | cons a r =>rw[Lib.join_cons];unfold Lib.joinTail;simp
def Azb {w:World} {g cap n:Nat} {ts:List Bs} {cur:Array Value} {e:TypeId} (hn:ts.length=n) (hb:w.heap[g]? =some (.cells cur e (0,0))) (ht:cur.toList.take n=ts.map encStr) (hc:n<=cap) (h1:n<=140737488355328) (hl:ts.flatten.length<=140737488355328) :
 Calls Tryz.prog 246 #[.slice (some ⟨g,0,none⟩) n cap,.string ⟨#[]⟩] w fun e w'=>e= .returned (.string ⟨ts.flatten.toArray⟩)/\Below w.heap.size w w':=by
 have hm:(ts.map (fun s=>(⟨s.toArray⟩:ByteArray))).map (·.data.toList)=ts:=by
  rw[Fp]
  conv=>rhs;rw[<- FW ts]
  refine EK fun s _=> ?_;simp
 have hj:=Tryz.strings_Join g 0 cap (ts.map (fun s=>(⟨s.toArray⟩:ByteArray))) ⟨#[]⟩ w (fun j x hx=>by
  have hx':(ts.map encStr)[j]? =some (.string x):=by
   rw[E8]at hx ⊢;cases hq:ts[j]? with
   | none=>rw[hq]at hx;cases hx
   | some y=>rw[hq]at hx;injection hx with hx;rw[<- hx];rfl
  rw[<- ht]at hx'
  have hjn:j<n:=by
   rcases En j n with h | h
   .exact h
   .rw[List.getElem?_take_eq_none h]at hx';cases hx'
  rw[GH hjn,EZ]at hx';simp only[World.cell?,hb,Ea];exact hx') (Eo.1 hb).1 (by rw[D7,hn];exact h1) (by rw[D7,hn];exact hc) (by rw[hm];show(Lib.join ts []).length<=_;rw[Amy];exact hl)
 rw[D7,hn,hm]at hj;refine hj.mono fun e w' hq=>⟨hq.1.trans ?_,hq.2⟩
 show Ending.returned (Value.string ⟨(Lib.join ts []).toArray⟩)=_;rw[Amy]
def Apn {a b:List Bs} (h:a.Perm b):a.flatten.length=b.flatten.length:=by rw[Gq,Gq];exact(h.map _).sum_nat
set_option maxHeartbeats 1000000 in
set_option maxRecDepth 1000000 in
def AtY (w:World) (b o c:Nat) (ss:List Bs) (R:Bs) (hR:UK ss=R) (h0:0<ss.length) (hlen:ss.length<=1099511627776) (hflat:ss.flatten.length<=140737488355328)
 (hcells: ∀(j:Nat) (u:Value),(ss.map encStr)[j]? =some u->w.cell? ⟨b,o+j,none⟩=some u) :
 Calls Tryz.prog 273 #[.slice (some ⟨b,o,none⟩) ss.length c] w fun e w'=>e= .returned (.string ⟨R.toArray⟩)/\Below w.heap.size w w':=by
 have hi:Tryz.prog.info? 9=some _:=rfl
 go_enter Tryz.func273,Tryz.ntmps273
 go_wp2_with (at_builtin;go_loud (refine wpList_append_grows w rfl _ _ _ rfl 9 _ _ 1 16 rfl hi rfl rfl rfl rfl (by decide) none 0 0 [] rfl (fun _=>⟨rfl,rfl⟩) rfl (fun _ h=>by cases h) ⟨b,o,none⟩ ss.length c (ss.map encStr) rfl (by simp) (fun j u h=>by rw[Addr.add_lit];exact hcells j u h) (fun u hu=>by obtain⟨x,_,rfl⟩:=DD.1 hu;rfl) (by omega) (by show _<=maxLen;simp only[maxLen];omega) (by omega) ?_))
 intro v' w1 hown hgr;rcases hown.2 with ⟨_,h⟩ | ⟨g,cap,cur,rfl,hbase,hbk,h1,h2,h3,h4⟩
 .exfalso;omega
 have h4':cur.toList.take ss.length=ss.map encStr:=by simpa using h4
 have hH:Holds encStr w1 g 0 ss.toArray:=holds_of_block hbk h4';have hB1:Below w.heap.size w w1:=Below.grown (Below.refl _ _) hgr (DK _) (fun k hk=>by cases hk);have hsort:=Tryz.sort_Strings g 0 cap ss w1 hH (Eo.1 hbk).1 (by omega);have hperm:(ss.mergeSort fun x y=>decide (x<=y)).Perm ss:=Hf _ _;have hord:UK ss=(ss.mergeSort fun x y=>decide (x<=y)).flatten:=rfl;have hfl:=Apn hperm;have hts:=hperm.length_eq;generalize (ss.mergeSort fun x y=>decide (x<=y))=ts at hsort hord hfl hts;have hRt:ts.flatten=R:=hord.symm.trans hR;have hB2: ∀ n os,Below w.heap.size w (grow (putRow encStr (Sort.ahead w1 n) g 0 ts.toArray) os):=fun n os=>Below.grown hB1 (grownBy_sorted ts.toArray) hB1.size (fun k hk=>by injection hk with hk;omega);have hJ: ∀ n os,Calls Tryz.prog 246 #[.slice (some ⟨g,0,none⟩) ss.length cap,.string ⟨#[]⟩] (grow (putRow encStr (Sort.ahead w1 n) g 0 ts.toArray) os) fun e w'=>e= .returned (.string ⟨R.toArray⟩)/\Below w.heap.size w w':=fun n os=>by rw[<- hRt];refine(Azb (n:=ss.length) hts (heap_sorted ts.toArray hbk) (by rw[<- hts];exact take_putCells cur ts (by omega)) h1 (by omega) (by omega)).mono fun e w' hq=>⟨hq.1,(hB2 n os).trans (hq.2.mono (hB2 n os).size)⟩
 clear hown hgr hcells h4 h4' hH hB1 hB2 hord hfl hperm hR hRt
 go_wp2_with (first | (go_at_call 294;refine hsort.mono ?_;rintro e w2 ⟨rfl,n,os,rfl⟩;have hJ2:=hJ n os;generalize (grow (putRow encStr (Sort.ahead w1 n) g 0 ts.toArray) os)=w3 at hJ2 ⊢) | (go_at_call 246;refine hJ2.mono ?_;rintro e w4 ⟨rfl,hb4⟩))
 go_ret
 exact⟨rfl,hb4⟩
end Go.Proofs.YtakmjgnpefmjhaaGreatDoor
namespace Go.Proofs.YtakmjgnpefmjhaaGreatDoor.Vm
open Go.Proofs Go.RowKit
noncomputable def zY (N:Nat):Sig:=.of [.cell false (.sl 9 (.str .nil))] [.cell false .str] (fun a=>lH N a)
def AnZ {N:Nat} {O:Own} {w:World} {vs:Array Value} (l:List Bs) (out:Bs) (hv:vs.size=1) (hx0:JE O w (vs.getD 0 undef) (.sl ⟨.str .nil,l⟩)) (h2':lH N l=some out) :
 Calls Tryz.prog 273 vs w fun e' w'=> ∃ v O',e'= .returned v/\Came O w vs (zY N) [.str out] v O' w':=by
 unfold lH at h2'
 have hv1:vs= #[vs.getD 0 undef]:=by
  apply Gu
  .exact hv
  .intro i h1 h2;have:i=0:=by simp at h2;omega
   subst this;simp [Dy,h1]
 cases hc:(decide (0<l.length)&&(decide (l.length<=1099511627776)&&decide (l.flatten.length<=140737488355328)))with
 | false=>rw[hc]at h2';cases h2'
 | true =>
  rw[hc]at h2';injection h2' with h2';simp only[Dv,D6]at hc;obtain⟨c0,c1,c2⟩:=hc;rw[hv1];generalize vs.getD 0 undef=v0 at hx0;have hes0:(⟨.str .nil,l⟩:Sl).es=l.map (fun s:Bs=>[A.str s]):=rfl;have hsz:(⟨.str .nil,l⟩:Sl).sz=1:=rfl;generalize hL:(⟨.str .nil,l⟩:Sl)=L at hx0 hes0 hsz;have hlen:L.es.length=l.length:=by rw[hes0,D7]
  cases hx0 with
  | nil t =>
   have:l=[]:=by injection hL with h1 h2;subst h1;exact IX h2
   rw[this]at c0;exact absurd c0 (by decide)
  | sl0 ad t =>
   have:l=[]:=by injection hL with h1 h2;subst h1;exact IX h2
   rw[this]at c0;exact absurd c0 (by decide)
  | @sl b off cap l' vs' hcap hm hr =>
   have hw:=AtY w b off cap l out h2' c0 c1 c2 (fun j u hj=>by
    have hjl:j<l.length:=by
     rcases En j (l.length)with h | h
     .exact h
     .rw[Eh (by simpa using h)]at hj;cases hj
    have hm1:=(hm j 0 (by rw[hlen];exact hjl) (by rw[hsz];omega)).2;have hr1:=hr j 0 (by rw[hlen];exact hjl) (by rw[hsz];omega);have e1:off+(j*L.sz+0)=off+j:=by rw[hsz];omega
    rw[e1]at hm1;rw[E8,D9 hjl]at hj;injection hj with hj;have e2:(L.es.getD j []).getD 0 .undef= .str (l[j]):=by rw[hes0];simp [Dp,hjl]
    rw[e2]at hr1;rw[<- hj,hm1,AbA hr1])
   rw[<- hlen]at hw;refine hw.mono fun e' w' hq=> ?_;refine⟨_,O,hq.1,?_⟩;refine⟨Below.moves hq.2,fun b k _ h=>h,fun b k _ h=>h,rfl,⟨#[.string ⟨List.toArray out⟩],rfl,rfl,fun k hk=> ?_⟩,fun j i hj=> ?_⟩
   .have hk0:k=0:=by simp at hk;omega
    subst hk0;exact JE.str (O:=O) (w:=w') ⟨List.toArray out⟩
   .exact absurd hj (by show(LG [.cell false (.sl 9 (.str .nil))] 0)[j]? ≠some i;simp [LG,KO])
def AlZ (N:Nat):Spec Tryz.prog 273 (zY N):=by refine⟨enters (fn:=Tryz.f273) (by kernel_rfl) (by kernel_rfl) (by decide),fun O w vs xs rs hI hv hl _ hx hrs=> ?_⟩;obtain⟨l,out,h1,h2,h3⟩:=Sig.AaR (Jz:=[.cell false (.sl 9 (.str .nil))]) (JI:=[.cell false .str]) (f:=fun a=>lH N a) hrs;subst h1;have h3':rs=[.str out]:=h3;subst h3';exact AnZ l out hv (hx 0 (by show 0<1;omega)) h2
end Go.Proofs.YtakmjgnpefmjhaaGreatDoor.Vm
namespace Go.Proofs.YtakmjgnpefmjhaaGreatDoor.Vm
open Go.Proofs Go.RowKit
def AxW {O:Own} {w:World} {bs:List ByteArray} {t:TypeId} {l:List Bs} (hl:bs.map (·.data.toList)=l) :
 JE (fun b k=>if b<w.heap.size then O b k else none) (w.alloc (.cells (bs.map Value.string).toArray t)) (.slice (some ⟨w.heap.size,0,none⟩) bs.length bs.length) (.sl ⟨.str .nil,l⟩):=by
 have hll:l.length=bs.length:=by rw[<- hl,D7]
 have hget: ∀ i (h:i<bs.length),l.getD i []=bs[i].data.toList:=by intro i h;rw[<- hl];simp [Dp,h]
 have hes0:(⟨.str .nil,l⟩:Sl).es=l.map (fun s:Bs=>[A.str s]):=rfl;have hsz:(⟨.str .nil,l⟩:Sl).sz=1:=rfl;generalize (⟨.str .nil,l⟩:Sl)=L at *
 have hlen:L.es.length=bs.length:=by rw[hes0,D7,hll]
 have hb:(w.alloc (.cells (bs.map Value.string).toArray t)).heap[w.heap.size]? =some (.cells (bs.map Value.string).toArray t (0,0)):=Aib _ _;have hcell: ∀ i,(w.alloc (.cells (bs.map Value.string).toArray t)).cell? (at' w.heap.size i)=(bs.map Value.string).toArray[i]? :=by intro i;simp only[World.cell?,hb];rfl
 have h:=JE.sl (O:=fun b k=>if b<w.heap.size then O b k else none) (w:=w.alloc (.cells (bs.map Value.string).toArray t)) (b:=w.heap.size) (off:=0) (cap:=bs.length) (l:=L) (fun i _=>.string (bs.getD i ByteArray.empty)) (by rw[hlen];exact DK _)
  (fun i j hi hj=>by
    rw[hlen]at hi;rw[hsz]at hj;have hj0:j=0:=by omega
    subst hj0;refine⟨Dt (Nat.lt_irrefl _),?_⟩;have e:0+(i*L.sz+0)=i:=by rw[hsz];omega
    rw[e,hcell];simp [Dp,hi])
  (fun i j hi hj=>by
    rw[hlen]at hi;rw[hsz]at hj;have hj0:j=0:=by omega
    subst hj0;have e1:(L.es.getD i []).getD 0 .undef= .str (l.getD i []):=by rw[hes0];simp [Dp,show i<l.length by omega]
    rw[e1,hget i hi];simp only[Dp,D9 hi,Option.getD_some];exact JE.str (bs[i]))
 rw[hlen]at h;exact h
def AuU {O:Own} {w:World} {vs:Array Value} {sg:Sig} {bs:List ByteArray} {t e:TypeId} {l:List Bs} (hp:sg.Jz.all Sh.flat=true) (hr:sg.JI=[.cell false (.sl e (.str .nil))]) (hl:bs.map (·.data.toList)=l) :
 Came O w vs sg [.sl ⟨.str .nil,l⟩] (.slice (some ⟨w.heap.size,0,none⟩) bs.length bs.length) (fun b k=>if b<w.heap.size then O b k else none) (w.alloc (.cells (bs.map Value.string).toArray t)):=by
 have hix:LG sg.Jz 0=[]:=Ajb _ _ hp;refine⟨Moves.push _,fun b k hb h=>by rwa [Dq hb]at h,fun b k hb h=>by rwa [Dq hb],by rw[hix,hr];rfl,⟨#[.slice (some ⟨w.heap.size,0,none⟩) bs.length bs.length],by rw[hr];rfl,rfl,fun k hk=> ?_⟩,fun j i hj=> ?_⟩
 .have hk0:k=0:=by simp at hk;omega
  subst hk0;exact AxW hl
 .rw[hix]at hj;cases hj
noncomputable def WW (N:Nat):Sig:=.of [.cell false .str,.cell false .str] [.cell false (.sl 9 (.str .nil))] (fun a=>strings_Split N a.1 a.2)
def lD (N:Nat):Spec Tryz.prog 204 (WW N):=by
 refine⟨enters (fn:=Tryz.f204) (by kernel_rfl) (by kernel_rfl) (by decide),fun O w vs xs rs hI hv hl _ hx hrs=> ?_⟩;obtain⟨a,o,h1,h2,h3⟩:=Sig.AaR (Jz:=[.cell false .str,.cell false .str]) (JI:=[.cell false (.sl 9 (.str .nil))]) (f:=fun a=>strings_Split N a.1 a.2) hrs;subst h1;obtain⟨s,c⟩:=a;have hvs:=Ame (AeP [.cell false .str,.cell false .str] (s,c) rfl) hv hx;rw[hvs];have h2':(bif decide (List.length s<4294967281)&&decide (1<=List.length c)then some (Lib.split s c)else none)=some o:=h2;cases hc:(decide (List.length s<4294967281)&&decide (1<=List.length c))with
 | false=>rw[hc]at h2';cases h2'
 | true =>rw[hc]at h2';injection h2' with h2';subst h2';rw[Dv,D6,D6]at hc;obtain⟨_,v,hm,m,rfl⟩:=hI.1 0 0 _ rfl;have hlen:=Lib.splitB_all ⟨List.toArray c⟩ hc.2 0 _ ⟨List.toArray s⟩ rfl;refine(Tryz.strings_Split ⟨List.toArray s⟩ ⟨List.toArray c⟩ m w hc.1 hm hc.2).mono fun e w' hq=> ?_;obtain⟨he,hw⟩:=hq;subst hw;rw[<- hlen]at he;refine⟨_,fun b k=>if b<w.heap.size then O b k else none,he,?_⟩;have h3':rs=[.sl ⟨.str .nil,Lib.split s c⟩]:=h3;rw[h3'];exact AuU (O:=O) (w:=w) (e:=9) (sg:=WW N) rfl rfl (by rw[Lib.splitB_data];rfl)
noncomputable def eF (N:Nat):Sig:=.of [.cell false .str,.cell false .str] [.cell false .str] (fun a=>strings_TrimPrefix N a.1 a.2)
def wH (N:Nat):Spec Tryz.prog 261 (eF N) :=
 Zr rfl rfl (enters (fn:=Tryz.f261) (by kernel_rfl) (by kernel_rfl) (by decide)) fun O w (a:Bs×Bs) (o:Bs) hI h=>by obtain⟨s,c⟩:=a;have h:some (Lib.trimPrefix s c)=some o:=h;injection h with h;subst h;refine(Tryz.strings_TrimPrefix ⟨List.toArray s⟩ ⟨List.toArray c⟩ w).mono fun e w' hq=> ?_;obtain⟨h1,h2⟩:=hq;subst h2;exact⟨h1,Below.refl _ _⟩
end Go.Proofs.YtakmjgnpefmjhaaGreatDoor.Vm
namespace Go.Proofs.YtakmjgnpefmjhaaGreatDoor
open Go.RowKit Vm
def oJ (w:World) (s:ByteArray) (pos:Nat):Below w.heap.size w (w.iter s pos):=Below.alloc (Below.refl _ _) (DK _) _
def AsP (s:ByteArray) (i:Nat):1<=(Utf8.decode s i).2:=by
 unfold Utf8.decode;dsimp only;repeat' split
 all_goals (first | exact DK _ | (show 1<=_;omega))
def AzE (s:ByteArray) (b pos:Nat) (h: ¬ pos<s.size):Vb s b pos=true:=by
 cases b with
 | zero=>rfl
 | succ b=>unfold Vb;rw[Dt h]
def Ayi (s:ByteArray) (b pos:Nat) (h:pos<s.size):Vb s (b+1) pos=if(Utf8.decode s pos).1<32\/(Utf8.decode s pos).1=127 then false else if(Utf8.decode s pos).1=65533/\Lib.hasPrefix (s.data.toList.drop pos) [239,191,189]=false then false else Vb s b (pos+(Utf8.decode s pos).2):=by show(if pos<s.size then _ else _)=_;rw[Dq h]
set_option maxHeartbeats 1000000 in
set_option maxRecDepth 1000000 in
def Ayj (s:ByteArray) (w:World) (R:Bool) (hR:Vb s s.size 0=R) (hs:s.size<4294967281) :
 Calls Tryz.prog 279 #[.string s] w fun e w'=>e= .returned (.bool R)/\Below w.heap.size w w':=by
 go_enter Tryz.func279,Tryz.ntmps279
 go_wp2
 go_loopw [] (fun w'=> ∃(pos b:Nat),w'=w.iter s pos/\Vb s b pos=R/\s.size<=pos+b) (fun w'=>s.size - w'.iterPos w.heap.size)
 case atStart=>exact⟨0,s.size,rfl,hR,by omega⟩
 case round =>
  obtain⟨pos,b,rfl,hc,hb⟩:=hrel;by_cases hp:pos<s.size
  .have hnx: ∀ ty,(Instr.next (.pointer (some ⟨w.heap.size,0,none⟩)) true ty).run Tryz.prog (w.iter s pos)=_:=fun ty=>run_next_any w s pos ty hp;have hwd:=AsP s pos;cases b with
   | zero=>omega
   | succ b =>
    rw[Ayi s b pos hp]at hc;have hpx:=fun w=>Tryz.strings_HasPrefix (s.extract pos s.size) ⟨#[239,191,189]⟩ w;generalize h4:Lib.hasPrefix (s.extract pos s.size).data.toList ((⟨#[239,191,189]⟩:ByteArray)).data.toList=B at hpx;generalize Utf8.decode s pos=D at hnx hwd hc;obtain⟨c,k⟩:=D;dsimp only at hnx hwd hc;obtain⟨C,hC⟩: ∃ C:Int,(c:Int)=C:=⟨_,rfl⟩
    rw[hC]at hnx;by_cases h1:c<32
    .have t1:C<32:=by omega
     rw[Dq (Or.inl h1)]at hc;subst hc;clear h1 hC hR
     go_wp2
     go_ret
     exact⟨rfl,oJ _ _ _⟩
    .have t1:32<=C:=by omega
     by_cases h2:c=127
     .have t2:(C==127)=true:=by simp;omega
      rw[Dq (Or.inr h2)]at hc;subst hc;clear h1 h2 hC hR
      go_wp2
      all_goals try (exfalso;omega)
      go_ret
      exact⟨rfl,oJ _ _ _⟩
     .have t2:(C==127)=false:=by simp;omega
      rw[Dt (by omega)]at hc;by_cases h3:c=65533
      .have t3:(C==65533)=true:=by simp;omega
       cases B with
       | false =>
        rw[Dq ⟨h3,by rw[<- Lib.extract_to_end];exact h4⟩]at hc;subst hc;clear h1 h2 h3 h4 hC hR
        go_wp2_with (go_at_call 302;refine(hpx _).mono ?_;rintro e w' ⟨rfl,rfl⟩)
        all_goals try (exfalso;omega)
        go_ret
        exact⟨rfl,oJ _ _ _⟩
       | true =>
        rw[Dt (fun h=>by have h5:=h.2;rw[<- Lib.extract_to_end]at h5;exact absurd (h4.symm.trans h5) (by decide))]at hc;clear h1 h2 h3 hC
        go_wp2_with (go_at_call 302;refine(hpx _).mono ?_;rintro e w' ⟨rfl,rfl⟩)
        all_goals try (exfalso;omega)
        go_roundw
        case rel=>exact⟨pos+k,b,rfl,hc,by omega⟩
        case measure =>simp;omega
      .have t3:(C==65533)=false:=by simp;omega
       rw[Dt (fun h=>h3 h.1)]at hc;clear h1 h2 h3 hC
       go_wp2
       all_goals try (exfalso;omega)
       go_roundw
       case rel=>exact⟨pos+k,b,rfl,hc,by omega⟩
       case measure =>simp;omega
  .have hnx: ∀ ty,(Instr.next (.pointer (some ⟨w.heap.size,0,none⟩)) true ty).run Tryz.prog (w.iter s pos)=_:=fun ty=>run_next_end w s pos ty hp
   go_wp2
   go_ret
   rw[AzE s b pos hp]at hc;rw[<- hc];exact⟨rfl,oJ _ _ _⟩
end Go.Proofs.YtakmjgnpefmjhaaGreatDoor
namespace Go.Proofs.YtakmjgnpefmjhaaGreatDoor.Vm
open Go.Proofs Go.RowKit
noncomputable def Ak9 (N:Nat):Sig:=.of [.cell false .str] [.cell false .bool] (fun a=>AcX N a)
def AnY (N:Nat):Spec Tryz.prog 279 (Ak9 N) :=
 Zr rfl rfl (enters (fn:=Tryz.f279) (by kernel_rfl) (by kernel_rfl) (by decide)) fun O w (a:Bs) (o:Bool) hI h=>by
  have h:(bif decide (List.length a<4294967281)then some (Au5 a)else none)=some o:=h;cases hc:decide (List.length a<4294967281)with
  | false=>rw[hc]at h;cases h
  | true =>
  rw[hc]at h;injection h with h;exact(Ayj ⟨List.toArray a⟩ w o h (DN hc)).mono fun e w' hq=>hq
end Go.Proofs.YtakmjgnpefmjhaaGreatDoor.Vm
