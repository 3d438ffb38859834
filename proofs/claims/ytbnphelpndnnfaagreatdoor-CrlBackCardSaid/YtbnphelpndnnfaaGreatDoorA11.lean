import Derived.Test.YtbnphelpndnnfaaGreatDoorA10
import Derived.Lib.Join
import Derived.Below
import Derived.Shelf.Strings.Builder1
import Derived.Shelf.Strings.Builder2
import Derived.Shelf.Strings.OnBuilder
import Derived.Shelf.Small.Strs
import Derived.Shelf.Small.Wraps
import Derived.Shelf.Strconv.Itoa0
import Derived.Shelf.Strconv.Itoa1
import Derived.Shelf.LaysM
import Derived.Shelf.Strconv.Itoa2
import Derived.Shelf.Strconv.Itoa3
import Derived.Shelf.Strings.Search1
import Derived.Shelf.Strings.Search2
import Derived.Shelf.Strings.Search3
import Derived.Shelf.Strings.Cut
import Derived.Shelf.Strings.Count
import Derived.Shelf.Strings.Shaped
import Derived.Shelf.Sort.Plain
import Derived.Shelf.Strings.Prefix
import Derived.Shelf.Strings.Split
import Derived.Shelf.Unicode.DecodeSlow
import Derived.Test.YtbnphelpndnnfaaGreatDoorProg
import Derived.Sort.Grow
import Derived.Lib.Split
import Derived.Lib.ItoaNum
import Derived.Lib.Strings
import Derived.Sort.OwnSorted
import Derived.ArgAppend
import Derived.Outline
import Derived.BigQuiet
import Derived.Deep.RegionWith
import Derived.Lib.Walk
import Derived.Laws.RangeString
import Derived.Laws.RangeAny
import Derived.LoopTactic
import Derived.BigGuardPart
set_option linter.all false
namespace Go.Proofs.YtbnphelpndnnfaaGreatDoor.Vm
def letJ {α ρ :Type} (A:(α ->Option ρ)->Option ρ) (f: α ->Option ρ):Option ρ :=A f
def letB {ρ :Type} (b:Bool) (k:Bool->Option ρ):Option ρ :=k b
theorem letB_eq {ρ :Type} (b:Bool) (k:Bool->Option ρ):letB b k=k b:=rfl
def isLO {α β :Type}:Option (α ⊕ β)->Bool
  | some (.inr _)=>false
  | _=>true
def getL {α β :Type}:Option (α ⊕ β)->Option α
  | some (.inl x)=>some x
  | _=>none
def getR {α β :Type}:Option (α ⊕ β)->Option β
  | some (.inr x)=>some x
  | _=>none
def callE {α β ρ :Type} [Inhabited α] [Inhabited β] (o:Option (α ⊕ β)) (k: α ->Option ρ) (l: β ->Option ρ):Option ρ :=bif isLO o then callO (getL o) k else callO (getR o) l
theorem callE_inl {α β ρ :Type} [Inhabited α] [Inhabited β] (x: α) (k: α ->Option ρ) (l: β ->Option ρ):callE (some (.inl x)) k l=k x:=rfl
def strings_Join (_:Nat) (l:List Bs) (sep:Bs):Option Bs:=bif decide (l.length<=140737488355328)&&decide ((sep.intercalate l).length<=140737488355328)then some (sep.intercalate l)else none
def U2 {a0 a1 r:Type} (f:a0->a1->r) (x:a0×a1):r:=f x.1 x.2
def U3 {a0 a1 a2 r:Type} (f:a0->a1->a2->r) (x:a0×a1×a2):r:=f x.1 x.2.1 x.2.2
def U4 {a0 a1 a2 a3 r:Type} (f:a0->a1->a2->a3->r) (x:a0×a1×a2×a3):r:=f x.1 x.2.1 x.2.2.1 x.2.2.2
def U5 {a0 a1 a2 a3 a4 r:Type} (f:a0->a1->a2->a3->a4->r) (x:a0×a1×a2×a3×a4):r:=f x.1 x.2.1 x.2.2.1 x.2.2.2.1 x.2.2.2.2
def U6 {a0 a1 a2 a3 a4 a5 r:Type} (f:a0->a1->a2->a3->a4->a5->r) (x:a0×a1×a2×a3×a4×a5):r:=f x.1 x.2.1 x.2.2.1 x.2.2.2.1 x.2.2.2.2.1 x.2.2.2.2.2
def U7 {a0 a1 a2 a3 a4 a5 a6 r:Type} (f:a0->a1->a2->a3->a4->a5->a6->r) (x:a0×a1×a2×a3×a4×a5×a6):r:=f x.1 x.2.1 x.2.2.1 x.2.2.2.1 x.2.2.2.2.1 x.2.2.2.2.2.1 x.2.2.2.2.2.2
def U8 {a0 a1 a2 a3 a4 a5 a6 a7 r:Type} (f:a0->a1->a2->a3->a4->a5->a6->a7->r) (x:a0×a1×a2×a3×a4×a5×a6×a7):r:=f x.1 x.2.1 x.2.2.1 x.2.2.2.1 x.2.2.2.2.1 x.2.2.2.2.2.1 x.2.2.2.2.2.2.1 x.2.2.2.2.2.2.2
def U9 {a0 a1 a2 a3 a4 a5 a6 a7 a8 r:Type} (f:a0->a1->a2->a3->a4->a5->a6->a7->a8->r) (x:a0×a1×a2×a3×a4×a5×a6×a7×a8):r:=f x.1 x.2.1 x.2.2.1 x.2.2.2.1 x.2.2.2.2.1 x.2.2.2.2.2.1 x.2.2.2.2.2.2.1 x.2.2.2.2.2.2.2.1 x.2.2.2.2.2.2.2.2
def U10 {a0 a1 a2 a3 a4 a5 a6 a7 a8 a9 r:Type} (f:a0->a1->a2->a3->a4->a5->a6->a7->a8->a9->r) (x:a0×a1×a2×a3×a4×a5×a6×a7×a8×a9):r:=f x.1 x.2.1 x.2.2.1 x.2.2.2.1 x.2.2.2.2.1 x.2.2.2.2.2.1 x.2.2.2.2.2.2.1 x.2.2.2.2.2.2.2.1 x.2.2.2.2.2.2.2.2.1 x.2.2.2.2.2.2.2.2.2
def U11 {a0 a1 a2 a3 a4 a5 a6 a7 a8 a9 a10 r:Type} (f:a0->a1->a2->a3->a4->a5->a6->a7->a8->a9->a10->r) (x:a0×a1×a2×a3×a4×a5×a6×a7×a8×a9×a10):r:=f x.1 x.2.1 x.2.2.1 x.2.2.2.1 x.2.2.2.2.1 x.2.2.2.2.2.1 x.2.2.2.2.2.2.1 x.2.2.2.2.2.2.2.1 x.2.2.2.2.2.2.2.2.1 x.2.2.2.2.2.2.2.2.2.1 x.2.2.2.2.2.2.2.2.2.2
def U12 {a0 a1 a2 a3 a4 a5 a6 a7 a8 a9 a10 a11 r:Type} (f:a0->a1->a2->a3->a4->a5->a6->a7->a8->a9->a10->a11->r) (x:a0×a1×a2×a3×a4×a5×a6×a7×a8×a9×a10×a11):r:=f x.1 x.2.1 x.2.2.1 x.2.2.2.1 x.2.2.2.2.1 x.2.2.2.2.2.1 x.2.2.2.2.2.2.1 x.2.2.2.2.2.2.2.1 x.2.2.2.2.2.2.2.2.1 x.2.2.2.2.2.2.2.2.2.1 x.2.2.2.2.2.2.2.2.2.2.1 x.2.2.2.2.2.2.2.2.2.2.2
def U13 {a0 a1 a2 a3 a4 a5 a6 a7 a8 a9 a10 a11 a12 r:Type} (f:a0->a1->a2->a3->a4->a5->a6->a7->a8->a9->a10->a11->a12->r) (x:a0×a1×a2×a3×a4×a5×a6×a7×a8×a9×a10×a11×a12):r:=f x.1 x.2.1 x.2.2.1 x.2.2.2.1 x.2.2.2.2.1 x.2.2.2.2.2.1 x.2.2.2.2.2.2.1 x.2.2.2.2.2.2.2.1 x.2.2.2.2.2.2.2.2.1 x.2.2.2.2.2.2.2.2.2.1 x.2.2.2.2.2.2.2.2.2.2.1 x.2.2.2.2.2.2.2.2.2.2.2.1 x.2.2.2.2.2.2.2.2.2.2.2.2
def U14 {a0 a1 a2 a3 a4 a5 a6 a7 a8 a9 a10 a11 a12 a13 r:Type} (f:a0->a1->a2->a3->a4->a5->a6->a7->a8->a9->a10->a11->a12->a13->r) (x:a0×a1×a2×a3×a4×a5×a6×a7×a8×a9×a10×a11×a12×a13):r:=f x.1 x.2.1 x.2.2.1 x.2.2.2.1 x.2.2.2.2.1 x.2.2.2.2.2.1 x.2.2.2.2.2.2.1 x.2.2.2.2.2.2.2.1 x.2.2.2.2.2.2.2.2.1 x.2.2.2.2.2.2.2.2.2.1 x.2.2.2.2.2.2.2.2.2.2.1 x.2.2.2.2.2.2.2.2.2.2.2.1 x.2.2.2.2.2.2.2.2.2.2.2.2.1 x.2.2.2.2.2.2.2.2.2.2.2.2.2
def U15 {a0 a1 a2 a3 a4 a5 a6 a7 a8 a9 a10 a11 a12 a13 a14 r:Type} (f:a0->a1->a2->a3->a4->a5->a6->a7->a8->a9->a10->a11->a12->a13->a14->r) (x:a0×a1×a2×a3×a4×a5×a6×a7×a8×a9×a10×a11×a12×a13×a14):r:=f x.1 x.2.1 x.2.2.1 x.2.2.2.1 x.2.2.2.2.1 x.2.2.2.2.2.1 x.2.2.2.2.2.2.1 x.2.2.2.2.2.2.2.1 x.2.2.2.2.2.2.2.2.1 x.2.2.2.2.2.2.2.2.2.1 x.2.2.2.2.2.2.2.2.2.2.1 x.2.2.2.2.2.2.2.2.2.2.2.1 x.2.2.2.2.2.2.2.2.2.2.2.2.1 x.2.2.2.2.2.2.2.2.2.2.2.2.2.1 x.2.2.2.2.2.2.2.2.2.2.2.2.2.2
def U16 {a0 a1 a2 a3 a4 a5 a6 a7 a8 a9 a10 a11 a12 a13 a14 a15 r:Type} (f:a0->a1->a2->a3->a4->a5->a6->a7->a8->a9->a10->a11->a12->a13->a14->a15->r) (x:a0×a1×a2×a3×a4×a5×a6×a7×a8×a9×a10×a11×a12×a13×a14×a15):r:=f x.1 x.2.1 x.2.2.1 x.2.2.2.1 x.2.2.2.2.1 x.2.2.2.2.2.1 x.2.2.2.2.2.2.1 x.2.2.2.2.2.2.2.1 x.2.2.2.2.2.2.2.2.1 x.2.2.2.2.2.2.2.2.2.1 x.2.2.2.2.2.2.2.2.2.2.1 x.2.2.2.2.2.2.2.2.2.2.2.1 x.2.2.2.2.2.2.2.2.2.2.2.2.1 x.2.2.2.2.2.2.2.2.2.2.2.2.2.1 x.2.2.2.2.2.2.2.2.2.2.2.2.2.2.1 x.2.2.2.2.2.2.2.2.2.2.2.2.2.2.2
def U17 {a0 a1 a2 a3 a4 a5 a6 a7 a8 a9 a10 a11 a12 a13 a14 a15 a16 r:Type} (f:a0->a1->a2->a3->a4->a5->a6->a7->a8->a9->a10->a11->a12->a13->a14->a15->a16->r) (x:a0×a1×a2×a3×a4×a5×a6×a7×a8×a9×a10×a11×a12×a13×a14×a15×a16):r:=f x.1 x.2.1 x.2.2.1 x.2.2.2.1 x.2.2.2.2.1 x.2.2.2.2.2.1 x.2.2.2.2.2.2.1 x.2.2.2.2.2.2.2.1 x.2.2.2.2.2.2.2.2.1 x.2.2.2.2.2.2.2.2.2.1 x.2.2.2.2.2.2.2.2.2.2.1 x.2.2.2.2.2.2.2.2.2.2.2.1 x.2.2.2.2.2.2.2.2.2.2.2.2.1 x.2.2.2.2.2.2.2.2.2.2.2.2.2.1 x.2.2.2.2.2.2.2.2.2.2.2.2.2.2.1 x.2.2.2.2.2.2.2.2.2.2.2.2.2.2.2.1 x.2.2.2.2.2.2.2.2.2.2.2.2.2.2.2.2
def U18 {a0 a1 a2 a3 a4 a5 a6 a7 a8 a9 a10 a11 a12 a13 a14 a15 a16 a17 r:Type} (f:a0->a1->a2->a3->a4->a5->a6->a7->a8->a9->a10->a11->a12->a13->a14->a15->a16->a17->r) (x:a0×a1×a2×a3×a4×a5×a6×a7×a8×a9×a10×a11×a12×a13×a14×a15×a16×a17):r:=f x.1 x.2.1 x.2.2.1 x.2.2.2.1 x.2.2.2.2.1 x.2.2.2.2.2.1 x.2.2.2.2.2.2.1 x.2.2.2.2.2.2.2.1 x.2.2.2.2.2.2.2.2.1 x.2.2.2.2.2.2.2.2.2.1 x.2.2.2.2.2.2.2.2.2.2.1 x.2.2.2.2.2.2.2.2.2.2.2.1 x.2.2.2.2.2.2.2.2.2.2.2.2.1 x.2.2.2.2.2.2.2.2.2.2.2.2.2.1 x.2.2.2.2.2.2.2.2.2.2.2.2.2.2.1 x.2.2.2.2.2.2.2.2.2.2.2.2.2.2.2.1 x.2.2.2.2.2.2.2.2.2.2.2.2.2.2.2.2.1 x.2.2.2.2.2.2.2.2.2.2.2.2.2.2.2.2.2
def U19 {a0 a1 a2 a3 a4 a5 a6 a7 a8 a9 a10 a11 a12 a13 a14 a15 a16 a17 a18 r:Type} (f:a0->a1->a2->a3->a4->a5->a6->a7->a8->a9->a10->a11->a12->a13->a14->a15->a16->a17->a18->r) (x:a0×a1×a2×a3×a4×a5×a6×a7×a8×a9×a10×a11×a12×a13×a14×a15×a16×a17×a18):r:=f x.1 x.2.1 x.2.2.1 x.2.2.2.1 x.2.2.2.2.1 x.2.2.2.2.2.1 x.2.2.2.2.2.2.1 x.2.2.2.2.2.2.2.1 x.2.2.2.2.2.2.2.2.1 x.2.2.2.2.2.2.2.2.2.1 x.2.2.2.2.2.2.2.2.2.2.1 x.2.2.2.2.2.2.2.2.2.2.2.1 x.2.2.2.2.2.2.2.2.2.2.2.2.1 x.2.2.2.2.2.2.2.2.2.2.2.2.2.1 x.2.2.2.2.2.2.2.2.2.2.2.2.2.2.1 x.2.2.2.2.2.2.2.2.2.2.2.2.2.2.2.1 x.2.2.2.2.2.2.2.2.2.2.2.2.2.2.2.2.1 x.2.2.2.2.2.2.2.2.2.2.2.2.2.2.2.2.2.1 x.2.2.2.2.2.2.2.2.2.2.2.2.2.2.2.2.2.2
def U21 {a0 a1 a2 a3 a4 a5 a6 a7 a8 a9 a10 a11 a12 a13 a14 a15 a16 a17 a18 a19 a20 r:Type} (f:a0->a1->a2->a3->a4->a5->a6->a7->a8->a9->a10->a11->a12->a13->a14->a15->a16->a17->a18->a19->a20->r) (x:a0×a1×a2×a3×a4×a5×a6×a7×a8×a9×a10×a11×a12×a13×a14×a15×a16×a17×a18×a19×a20):r:=f x.1 x.2.1 x.2.2.1 x.2.2.2.1 x.2.2.2.2.1 x.2.2.2.2.2.1 x.2.2.2.2.2.2.1 x.2.2.2.2.2.2.2.1 x.2.2.2.2.2.2.2.2.1 x.2.2.2.2.2.2.2.2.2.1 x.2.2.2.2.2.2.2.2.2.2.1 x.2.2.2.2.2.2.2.2.2.2.2.1 x.2.2.2.2.2.2.2.2.2.2.2.2.1 x.2.2.2.2.2.2.2.2.2.2.2.2.2.1 x.2.2.2.2.2.2.2.2.2.2.2.2.2.2.1 x.2.2.2.2.2.2.2.2.2.2.2.2.2.2.2.1 x.2.2.2.2.2.2.2.2.2.2.2.2.2.2.2.2.1 x.2.2.2.2.2.2.2.2.2.2.2.2.2.2.2.2.2.1 x.2.2.2.2.2.2.2.2.2.2.2.2.2.2.2.2.2.2.1 x.2.2.2.2.2.2.2.2.2.2.2.2.2.2.2.2.2.2.2.1 x.2.2.2.2.2.2.2.2.2.2.2.2.2.2.2.2.2.2.2.2
def U35 {a0 a1 a2 a3 a4 a5 a6 a7 a8 a9 a10 a11 a12 a13 a14 a15 a16 a17 a18 a19 a20 a21 a22 a23 a24 a25 a26 a27 a28 a29 a30 a31 a32 a33 a34 r:Type} (f:a0->a1->a2->a3->a4->a5->a6->a7->a8->a9->a10->a11->a12->a13->a14->a15->a16->a17->a18->a19->a20->a21->a22->a23->a24->a25->a26->a27->a28->a29->a30->a31->a32->a33->a34->r) (x:a0×a1×a2×a3×a4×a5×a6×a7×a8×a9×a10×a11×a12×a13×a14×a15×a16×a17×a18×a19×a20×a21×a22×a23×a24×a25×a26×a27×a28×a29×a30×a31×a32×a33×a34):r:=f x.1 x.2.1 x.2.2.1 x.2.2.2.1 x.2.2.2.2.1 x.2.2.2.2.2.1 x.2.2.2.2.2.2.1 x.2.2.2.2.2.2.2.1 x.2.2.2.2.2.2.2.2.1 x.2.2.2.2.2.2.2.2.2.1 x.2.2.2.2.2.2.2.2.2.2.1 x.2.2.2.2.2.2.2.2.2.2.2.1 x.2.2.2.2.2.2.2.2.2.2.2.2.1 x.2.2.2.2.2.2.2.2.2.2.2.2.2.1 x.2.2.2.2.2.2.2.2.2.2.2.2.2.2.1 x.2.2.2.2.2.2.2.2.2.2.2.2.2.2.2.1 x.2.2.2.2.2.2.2.2.2.2.2.2.2.2.2.2.1 x.2.2.2.2.2.2.2.2.2.2.2.2.2.2.2.2.2.1 x.2.2.2.2.2.2.2.2.2.2.2.2.2.2.2.2.2.2.1 x.2.2.2.2.2.2.2.2.2.2.2.2.2.2.2.2.2.2.2.1 x.2.2.2.2.2.2.2.2.2.2.2.2.2.2.2.2.2.2.2.2.1 x.2.2.2.2.2.2.2.2.2.2.2.2.2.2.2.2.2.2.2.2.2.1 x.2.2.2.2.2.2.2.2.2.2.2.2.2.2.2.2.2.2.2.2.2.2.1 x.2.2.2.2.2.2.2.2.2.2.2.2.2.2.2.2.2.2.2.2.2.2.2.1 x.2.2.2.2.2.2.2.2.2.2.2.2.2.2.2.2.2.2.2.2.2.2.2.2.1 x.2.2.2.2.2.2.2.2.2.2.2.2.2.2.2.2.2.2.2.2.2.2.2.2.2.1 x.2.2.2.2.2.2.2.2.2.2.2.2.2.2.2.2.2.2.2.2.2.2.2.2.2.2.1 x.2.2.2.2.2.2.2.2.2.2.2.2.2.2.2.2.2.2.2.2.2.2.2.2.2.2.2.1 x.2.2.2.2.2.2.2.2.2.2.2.2.2.2.2.2.2.2.2.2.2.2.2.2.2.2.2.2.1 x.2.2.2.2.2.2.2.2.2.2.2.2.2.2.2.2.2.2.2.2.2.2.2.2.2.2.2.2.2.1 x.2.2.2.2.2.2.2.2.2.2.2.2.2.2.2.2.2.2.2.2.2.2.2.2.2.2.2.2.2.2.1 x.2.2.2.2.2.2.2.2.2.2.2.2.2.2.2.2.2.2.2.2.2.2.2.2.2.2.2.2.2.2.2.1 x.2.2.2.2.2.2.2.2.2.2.2.2.2.2.2.2.2.2.2.2.2.2.2.2.2.2.2.2.2.2.2.2.1 x.2.2.2.2.2.2.2.2.2.2.2.2.2.2.2.2.2.2.2.2.2.2.2.2.2.2.2.2.2.2.2.2.2.1 x.2.2.2.2.2.2.2.2.2.2.2.2.2.2.2.2.2.2.2.2.2.2.2.2.2.2.2.2.2.2.2.2.2.2
abbrev Aa {ρ:Type} (b:Bool) (k:Option ρ):Option ρ:=chk (b||!b) k
abbrev Ac {ρ:Type} (b:Bool) (k:Option ρ):Option ρ:=Aa b (Aa b k)
abbrev Ad {ρ:Type} (b:Bool) (k:Option ρ):Option ρ:=Aa b (Ac b k)
abbrev Ae {ρ:Type} (b:Bool) (k:Option ρ):Option ρ:=Aa b (Ad b k)
abbrev Af {ρ:Type} (b:Bool) (k:Option ρ):Option ρ:=Aa b (Ae b k)
abbrev Ag {ρ:Type} (b:Bool) (k:Option ρ):Option ρ:=Aa b (Af b k)
abbrev Ah {ρ:Type} (b:Bool) (k:Option ρ):Option ρ:=chk (bif b then b else true) (chk (bif b then true else true) k)
abbrev Ai {ρ:Type} (b:Bool) (k:Option ρ):Option ρ:=chk (bif b then true else !b) (chk (bif b then true else true) k)
abbrev Aj {ρ:Type} (i:Int) (n:Nat) (k:Option ρ):Option ρ:=chk (decide (0<=i)) (chk (decide (i<(n:Int))) k)
abbrev Ak {ρ:Type} (p:Prop) [Decidable p] (k:Option ρ):Option ρ:=chk (decide p) k
abbrev Am {ρ:Type} (n:Nat) (k:Option ρ):Option ρ:=chk (decide (n<=140737488355328)) k
open Go.RowKit
theorem Below.moves {O:Own} {T:Nat->Prop} {w w':World} (h:Below w.heap.size w w'):Moves O T w w':=⟨h.os,h.tape,h.output,h.size,fun b hb=>.inl (h.block b hb)⟩
noncomputable def HY (e N:Nat):Sig:=.of [.cell false (.sl e (.str .nil)),.cell false .str] [.cell false .str] (fun a=>strings_Join N a.1 a.2)
theorem Jz {O:Own} {w:World} {v:Value} {s:List UInt8} (h:VRel O w v (.str s)):v= .string ⟨s.toArray⟩:=by
  cases h with
  | str s=>exact congrArg Value.string (by rw[Array.toArray_toList])
theorem PV {O:Own} {w w':World} {vs:Array Value} {e N:Nat} {s:List UInt8} (hb:Below w.heap.size w w'):Came O w vs (HY e N) [.str s] (.string ⟨s.toArray⟩) O w':=by
  refine⟨Below.moves hb,fun b k _ h=>h,fun b k _ h=>h,rfl,⟨#[.string ⟨s.toArray⟩],rfl,rfl,fun k hk=> ?_⟩,fun j i hj=> ?_⟩
  ·have hk0:k=0:=by simp at hk;omega
   subst hk0
   show VRel O w' (.string ⟨s.toArray⟩) (.str s)
   exact VRel.str (O:=O) (w:=w') ⟨s.toArray⟩
  ·exact absurd hj (by show(boxIx [.cell false (.sl e (.str .nil)),.cell false .str] 0)[j]? ≠some i;simp [boxIx,isBoxSh])
def mJ (P:Program) (f:FuncId):Prop :=
    (∀(a:Option Addr) (c:Nat) (sep:ByteArray) (w:World),Calls P f #[.slice a 0 c,.string sep] w fun e w'=>e= .returned (.string ⟨#[]⟩)/\w'=w) /\
    (∀(bk o c:Nat) (xs:List ByteArray) (sep:ByteArray) (w:World),(∀(j:Nat) x,xs[j]? =some x->w.cell? ⟨bk,o+j,none⟩=some (.string x))->bk<w.heap.size->xs.length<=140737488355328->xs.length<=c->(Lib.join (xs.map (·.data.toList)) sep.data.toList).length<=140737488355328 ->
      Calls P f #[.slice (some ⟨bk,o,none⟩) xs.length c,.string sep] w fun e w'=>e= .returned (.string ⟨(Lib.join (xs.map (·.data.toList)) sep.data.toList).toArray⟩)/\Below w.heap.size w w')
theorem ZG {P:Program} {f:FuncId} {e N:Nat} (H:mJ P f) {O:Own} {w:World} {vs:Array Value} (l:List Bs) (sep o:Bs) (hl2:vs.size=2) (hx0:VRel O w (vs.getD 0 undef) (.sl ⟨.str .nil,l⟩)) (hx1:VRel O w (vs.getD 1 undef) (.str sep)) (h2':strings_Join N l sep=some o) :
    Calls P f vs w fun e' w'=> ∃ v O',e'= .returned v/\Came O w vs (HY e N) [.str o] v O' w':=by
  obtain⟨hn,hj⟩:=H
  have hvs:vs= #[vs.getD 0 undef,vs.getD 1 undef]:=by
    apply Array.ext
    ·simpa using hl2
    ·intro i h1 h2
     have:i=0\/i=1:=by simp at h2;omega
     rcases this with rfl | rfl
     ·simp [Array.getD_eq_getD_getElem?,h1]
     ·simp [Array.getD_eq_getD_getElem?,h1]
  rw[Jz hx1]at hvs
  unfold strings_Join at h2'
  cases hc:(decide (l.length<=140737488355328)&&decide ((sep.intercalate l).length<=140737488355328))with
  | false=>rw[hc]at h2';cases h2'
  | true =>
    rw[hc]at h2'
    injection h2' with h2'
    rw[Bool.and_eq_true,decide_eq_true_eq,decide_eq_true_eq]at hc
    subst h2'
    have hes0:(⟨.str .nil,l⟩:Sl).es=l.map (fun s:Bs=>[A.str s]):=rfl
    generalize hv0:vs.getD 0 undef=v0 at *
    have hnil:l=[]-> ∀ a c,v0= .slice a 0 c->Calls P f vs w fun e' w'=> ∃ v O',e'= .returned v/\Came O w vs (HY e N) [.str (sep.intercalate l)] v O' w':=by
      intro hl0 a c hv0'
      have:=hn a c ⟨sep.toArray⟩ w
      rw[<- hv0',<- hvs]at this
      refine this.mono fun e' w' hq=> ?_
      obtain⟨h4,h5⟩:=hq
      subst h5
      refine⟨_,O,h4,?_⟩
      have:sep.intercalate l=[]:=by rw[hl0];rfl
      rw[this]
      exact PV (Below.refl _ _)
    have hsz:(⟨.str .nil,l⟩:Sl).sz=1:=rfl
    generalize hL:(⟨.str .nil,l⟩:Sl)=L at hx0 hes0 hsz
    have hlen:L.es.length=l.length:=by rw[hes0,List.length_map]
    have hes: ∀ j:Nat,L.es[j]? =(l[j]?).map (fun s=>[A.str s]):=fun j=>by rw[hes0,List.getElem?_map]
    cases hx0 with
    | nil t =>
      have:l=[]:=by injection hL with h1 h2;subst h1;exact eq_of_heq h2
      exact hnil this _ _ rfl
    | sl0 ad t =>
      have:l=[]:=by injection hL with h1 h2;subst h1;exact eq_of_heq h2
      exact hnil this _ _ rfl
    | @sl b off cap l' vs' hcap hm hr =>
      cases hl0:l with
      | nil=>rw[<- hl0];exact hnil hl0 _ cap (by rw[hlen,hl0];rfl)
      | cons s0 r =>
        have hb:b<w.heap.size:=by
          have:=(hm 0 0 (by rw[hlen,hl0];simp) (by omega)).2
          exact cell_lt this
        rw[<- hl0]
        have hmap:(l.map (fun s=>(⟨s.toArray⟩:ByteArray))).map (·.data.toList)=l:=by
          rw[List.map_map]
          conv=>rhs;rw[<- List.map_id l]
          refine List.map_congr_left fun s _=> ?_
          simp
        have hJ:=hj b off cap (l.map (fun s=>(⟨s.toArray⟩:ByteArray))) ⟨sep.toArray⟩ w (fun j x hjx=>by
          rw[List.getElem?_map]at hjx
          cases hlj:l[j]? with
          | none=>rw[hlj]at hjx;cases hjx
          | some s =>
            rw[hlj]at hjx
            injection hjx with hjx
            have hjl:j<L.es.length:=by
              rw[hlen]
              rcases Nat.lt_or_ge j l.length with h | h
              ·exact h
              ·rw[List.getElem?_eq_none h]at hlj;cases hlj
            have hm1:=(hm j 0 hjl (by omega)).2
            have hr1:=hr j 0 hjl (by omega)
            rw[List.getD_eq_getElem?_getD (l:=L.es),hes,hlj]at hr1
            have:=Jz (show VRel O w (vs' j 0) (.str s)from hr1)
            rw[this]at hm1;rw[<- hjx]
            have e1:off+(j*L.sz+0)=off+j:=by rw[hsz];omega
            rw[e1]at hm1
            exact hm1) hb (by rw[List.length_map];exact hc.1) (by rw[List.length_map,<- hlen];exact hcap) (by rw[hmap];show(List.intercalate _ l).length<=_;simpa using hc.2)
        rw[List.length_map,hmap,<- hlen,<- hvs]at hJ
        refine hJ.mono fun e' w' hq=> ?_
        have e2:Lib.join l (⟨sep.toArray⟩:ByteArray).data.toList=sep.intercalate l:=by show List.intercalate _ l=_;simp
        rw[e2]at hq
        exact⟨_,O,hq.1,PV hq.2⟩
theorem dJ {P:Program} {f:FuncId} {e N:Nat} (hent: ∀ args w,(callFunc f args).run P w= .ok (.enter f args) w) (H:mJ P f):Spec P f (HY e N):=by
  refine⟨hent,fun O w vs xs rs _ hv hl _ hx hrs=> ?_⟩
  obtain⟨a,o,h1,h2,h3⟩:=Sig.of_some hrs
  subst h1
  have h3':rs=[.str o]:=h3
  rw[h3']
  exact ZG H a.1 a.2 o hv (hx 0 (by show 0<2;omega)) (hx 1 (by show 1<2;omega)) h2
end Go.Proofs.YtbnphelpndnnfaaGreatDoor.Vm
namespace Go.Proofs
open Go.Shelf
def Tryz.lays156_ren:Go.Shelf.Ren:=⟨fun | 156=>283 | 165=>388 | 166=>389 | 169=>390 | 240=>447 | 241=>448 | 276=>480 | 277=>481 | n=>n,fun | 31=>52 | 9=>9 | 3=>3 | 4=>4 | 0=>0 | 20=>20 | 72=>378 | 76=>382 | 70=>376 | 37=>193 | 75=>381 | 127=>410 | 164=>434 | 5=>5 | 80=>161 | n=>n,fun | n=>n⟩
theorem Tryz.lays156:Go.Proofs.Lays.n156 Tryz.prog Tryz.lays156_ren:= {
  mixed:=by kernel_rfl
  f156:=Tryz.func283.trans (congrArg some (by kernel_rfl))
  f165:=Tryz.func388.trans (congrArg some (by kernel_rfl))
  f166:=Tryz.func389.trans (congrArg some (by kernel_rfl))
  f169:=Tryz.func390.trans (congrArg some (by kernel_rfl))
  f240:=Tryz.func447.trans (congrArg some (by kernel_rfl))
  f241:=Tryz.func448.trans (congrArg some (by kernel_rfl))
  f276:=Tryz.func480.trans (congrArg some (by kernel_rfl))
  f277:=Tryz.func481.trans (congrArg some (by kernel_rfl))
  t0:=Tryz.underlying0
  a0:=Tryz.isAgg0
  z0:=Tryz.sizeOf0
  v0:=Tryz.zeroValue0
  t3:=Tryz.underlying3
  a3:=Tryz.isAgg3
  z3:=Tryz.sizeOf3
  v3:=Tryz.zeroValue3
  t4:=Tryz.underlying4
  a4:=Tryz.isAgg4
  z4:=Tryz.sizeOf4
  v4:=Tryz.zeroValue4
  t9:=Tryz.underlying9
  a9:=Tryz.isAgg9
  z9:=Tryz.sizeOf9
  v9:=Tryz.zeroValue9
  t20:=Tryz.underlying20
  a20:=Tryz.isAgg20
  z20:=Tryz.sizeOf20
  v20:=Tryz.zeroValue20
  t31:=Tryz.underlying52
  a31:=Tryz.isAgg52
  z31:=Tryz.sizeOf52
  v31:=Tryz.zeroValue52
  t37:=Tryz.underlying193
  a37:=Tryz.isAgg193
  z37:=Tryz.sizeOf193
  v37:=Tryz.zeroValue193
  t70:=Tryz.underlying376
  a70:=Tryz.isAgg376
  z70:=Tryz.sizeOf376
  v70:=Tryz.zeroValue376
  t72:=Tryz.underlying378
  a72:=Tryz.isAgg378
  z72:=Tryz.sizeOf378
  v72:=Tryz.zeroValue378
  t75:=Tryz.underlying381
  a75:=Tryz.isAgg381
  z75:=Tryz.sizeOf381
  v75:=Tryz.zeroValue381
  t76:=Tryz.underlying382
  a76:=Tryz.isAgg382
  z76:=Tryz.sizeOf382
  v76:=Tryz.zeroValue382
  t127:=Tryz.underlying410
  a127:=Tryz.isAgg410
  z127:=Tryz.sizeOf410
  v127:=Tryz.zeroValue410
  t164:=Tryz.underlying434
  a164:=Tryz.isAgg434
  z164:=Tryz.sizeOf434
  v164:=Tryz.zeroValue434}
theorem Tryz.Builder_Extra_156:Builder.Extra Tryz.prog Tryz.lays156_ren:= {
  sizeBuilder:=by kernel_rfl
  liesBuilder:=by kernel_rfl
  t5:=Tryz.underlying5
  a5:=Tryz.isAgg5
  z5:=Tryz.sizeOf5
  v5:=Tryz.zeroValue5
  infoByte:=by kernel_rfl
  cellsByte:=by kernel_rfl
  sizeByte:=by kernel_rfl
  neB5:=by decide}
open Go.RowKit in
theorem Tryz.strings_Join_none (a:Option Addr) (c:Nat) (sep:ByteArray) (w:World) :
    Calls Tryz.prog 283 #[.slice a 0 c,.string sep] w fun e w'=>e= .returned (.string ⟨#[]⟩)/\w'=w:=Any.strings_Join_none Tryz.lays156 Tryz.Builder_Extra_156 a c sep w
open Go.RowKit in
theorem Tryz.strings_Join (bk o c:Nat) (xs:List ByteArray) (sep:ByteArray) (w:World) (hcells: ∀(j:Nat) x,xs[j]? =some x->w.cell? ⟨bk,o+j,none⟩=some (.string x)) (hbk:bk<w.heap.size) (hN:xs.length<=140737488355328) (hcap:xs.length<=c) (hlen:(Lib.join (xs.map (·.data.toList)) sep.data.toList).length<=140737488355328) :
    Calls Tryz.prog 283 #[.slice (some ⟨bk,o,none⟩) xs.length c,.string sep] w fun e w'=>e= .returned (.string ⟨(Lib.join (xs.map (·.data.toList)) sep.data.toList).toArray⟩)/\Below w.heap.size w w':=Any.strings_Join Tryz.lays156 Tryz.Builder_Extra_156 bk o c xs sep w hcells hbk hN hcap hlen
def Tryz.lays137_ren:Go.Shelf.Ren:=⟨fun | 137=>418 | 217=>466 | 266=>502 | n=>n,fun | 9=>9 | 5=>5 | 3=>3 | n=>n,fun | n=>n⟩
theorem Tryz.lays137:Go.Proofs.Lays.n137 Tryz.prog Tryz.lays137_ren:= {
  mixed:=by kernel_rfl
  f137:=Tryz.func418.trans (congrArg some (by kernel_rfl))
  f217:=Tryz.func466.trans (congrArg some (by kernel_rfl))
  f266:=Tryz.func502.trans (congrArg some (by kernel_rfl))
  t3:=Tryz.underlying3
  a3:=Tryz.isAgg3
  z3:=Tryz.sizeOf3
  v3:=Tryz.zeroValue3
  t5:=Tryz.underlying5
  a5:=Tryz.isAgg5
  z5:=Tryz.sizeOf5
  v5:=Tryz.zeroValue5
  t9:=Tryz.underlying9
  a9:=Tryz.isAgg9
  z9:=Tryz.sizeOf9
  v9:=Tryz.zeroValue9}
open Go.RowKit in
theorem Tryz.strings_IndexByte (s:ByteArray) (c:Int) (w:World) :
    Calls Tryz.prog 418 #[.string s,.int .u8 c] w fun e w'=>e= .returned (.int .i64 (Lib.indexByte s.data.toList c.toNat.toUInt8))/\w'=w:=Any.strings_IndexByte Tryz.lays137 s c w
def Tryz.lays103_ren:Go.Shelf.Ren:=⟨fun | 103=>468 | 210=>504 | 206=>501 | n=>n,fun | 9=>9 | 4=>4 | 24=>424 | 3=>3 | n=>n,fun | n=>n⟩
theorem Tryz.lays103:Go.Proofs.Lays.n103 Tryz.prog Tryz.lays103_ren:= {
  mixed:=by kernel_rfl
  f103:=Tryz.func468.trans (congrArg some (by kernel_rfl))
  f206:=Tryz.func501.trans (congrArg some (by kernel_rfl))
  f210:=Tryz.func504.trans (congrArg some (by kernel_rfl))
  t3:=Tryz.underlying3
  a3:=Tryz.isAgg3
  z3:=Tryz.sizeOf3
  v3:=Tryz.zeroValue3
  t4:=Tryz.underlying4
  a4:=Tryz.isAgg4
  z4:=Tryz.sizeOf4
  v4:=Tryz.zeroValue4
  t9:=Tryz.underlying9
  a9:=Tryz.isAgg9
  z9:=Tryz.sizeOf9
  v9:=Tryz.zeroValue9
  t24:=Tryz.underlying424
  a24:=Tryz.isAgg424
  z24:=Tryz.sizeOf424
  v24:=Tryz.zeroValue424}
open Go.RowKit in
theorem Tryz.strings_CutPrefix (s p:ByteArray) (w:World) :
    Calls Tryz.prog 468 #[.string s,.string p] w fun e w'=>e= .returned (.tuple #[.string ⟨(Lib.trimPrefix s.data.toList p.data.toList).toArray⟩,.bool (Lib.hasPrefix s.data.toList p.data.toList)])/\w'=w:=Any.strings_CutPrefix Tryz.lays103 s p w
def Tryz.laysM171_ren:Go.Shelf.Ren:=⟨fun | 171=>323 | 243=>413 | 246=>464 | 283=>497 | 284=>498 | 285=>499 | 286=>500 | 129=>492 | 317=>519 | 318=>520 | 319=>521 | 320=>522 | 337=>526 | 338=>527 | n=>n,fun | 3=>3 | 9=>9 | 2=>2 | 4=>4 | 171=>448 | 0=>0 | 53=>323 | 37=>193 | 5=>5 | 173=>450 | 212=>460 | 51=>191 | 20=>20 | 213=>461 | 46=>195 | 232=>471 | 233=>472 | n=>n,fun | 17=>2 | 18=>5 | 19=>6 | n=>n⟩
theorem Tryz.laysM171:Go.Proofs.LaysM.n171 Tryz.prog Tryz.laysM171_ren:= {
  mixed:=by kernel_rfl
  f129:=Tryz.func492.trans (congrArg some (by kernel_rfl))
  f171:=Tryz.func323.trans (congrArg some (by kernel_rfl))
  f243:=Tryz.func413.trans (congrArg some (by kernel_rfl))
  f246:=Tryz.func464.trans (congrArg some (by kernel_rfl))
  f283:=Tryz.func497.trans (congrArg some (by kernel_rfl))
  f284:=Tryz.func498.trans (congrArg some (by kernel_rfl))
  f285:=Tryz.func499.trans (congrArg some (by kernel_rfl))
  f286:=Tryz.func500.trans (congrArg some (by kernel_rfl))
  f317:=Tryz.func519.trans (congrArg some (by kernel_rfl))
  f318:=Tryz.func520.trans (congrArg some (by kernel_rfl))
  f319:=Tryz.func521.trans (congrArg some (by kernel_rfl))
  f320:=Tryz.func522.trans (congrArg some (by kernel_rfl))
  f337:=Tryz.func526.trans (congrArg some (by kernel_rfl))
  f338:=Tryz.func527.trans (congrArg some (by kernel_rfl))
  t0:=Tryz.underlying0
  a0:=Tryz.isAgg0
  z0:=Tryz.sizeOf0
  v0:=Tryz.zeroValue0
  t2:=Tryz.underlying2
  a2:=Tryz.isAgg2
  z2:=Tryz.sizeOf2
  v2:=Tryz.zeroValue2
  t3:=Tryz.underlying3
  a3:=Tryz.isAgg3
  z3:=Tryz.sizeOf3
  v3:=Tryz.zeroValue3
  t4:=Tryz.underlying4
  a4:=Tryz.isAgg4
  z4:=Tryz.sizeOf4
  v4:=Tryz.zeroValue4
  t5:=Tryz.underlying5
  a5:=Tryz.isAgg5
  z5:=Tryz.sizeOf5
  v5:=Tryz.zeroValue5
  t9:=Tryz.underlying9
  a9:=Tryz.isAgg9
  z9:=Tryz.sizeOf9
  v9:=Tryz.zeroValue9
  t20:=Tryz.underlying20
  a20:=Tryz.isAgg20
  z20:=Tryz.sizeOf20
  v20:=Tryz.zeroValue20
  t37:=Tryz.underlying193
  a37:=Tryz.isAgg193
  z37:=Tryz.sizeOf193
  v37:=Tryz.zeroValue193
  t46:=Tryz.underlying195
  a46:=Tryz.isAgg195
  z46:=Tryz.sizeOf195
  v46:=Tryz.zeroValue195
  t51:=Tryz.underlying191
  a51:=Tryz.isAgg191
  z51:=Tryz.sizeOf191
  v51:=Tryz.zeroValue191
  t53:=Tryz.underlying323
  a53:=Tryz.isAgg323
  z53:=Tryz.sizeOf323
  v53:=Tryz.zeroValue323
  t171:=Tryz.underlying448
  a171:=Tryz.isAgg448
  z171:=Tryz.sizeOf448
  v171:=Tryz.zeroValue448
  t173:=Tryz.underlying450
  a173:=Tryz.isAgg450
  z173:=Tryz.sizeOf450
  v173:=Tryz.zeroValue450
  t212:=Tryz.underlying460
  a212:=Tryz.isAgg460
  z212:=Tryz.sizeOf460
  v212:=Tryz.zeroValue460
  t213:=Tryz.underlying461
  a213:=Tryz.isAgg461
  z213:=Tryz.sizeOf461
  t232:=Tryz.underlying471
  a232:=Tryz.isAgg471
  z232:=Tryz.sizeOf471
  v232:=Tryz.zeroValue471
  t233:=Tryz.underlying472
  a233:=Tryz.isAgg472
  z233:=Tryz.sizeOf472
  v233:=Tryz.zeroValue472
  g17:=by kernel_rfl
  g18:=by kernel_rfl
  g19:=by kernel_rfl
  i0:=by kernel_rfl
  i2:=by kernel_rfl
  i3:=by kernel_rfl
  i4:=by kernel_rfl
  i5:=by kernel_rfl
  i9:=by kernel_rfl
  i20:=by kernel_rfl
  i37:=by kernel_rfl
  i46:=by kernel_rfl
  i51:=by kernel_rfl
  i53:=by kernel_rfl
  i171:=by kernel_rfl
  i173:=by kernel_rfl
  i212:=by kernel_rfl
  i232:=by kernel_rfl
  i233:=by kernel_rfl
  m17:=by kernel_rfl
  m18:=by kernel_rfl
  m19:=by kernel_rfl}
open Go.RowKit Go.Sort Go.Lib in
theorem Tryz.strconv_Itoa (n:Int) (h0: -9223372036854775808<=n) (h1:n<=9223372036854775807) (w:World) (htab:Lib.TabIs Tryz.prog w "internal/strconv.uint64pow10" .u64 Lib.pow10Tab) :
    Calls Tryz.prog 323 #[.int .i64 n] w fun e w'=>e= .returned (.string ⟨(Lib.itoa n).toArray⟩)/\ ∃ k os,w'=grow (w.drewN k) os:=Any.strconv_Itoa Tryz.laysM171 n h0 h1 w htab
def Tryz.lays144_ren:Go.Shelf.Ren:=⟨fun | 144=>455 | 143=>479 | 219=>494 | 217=>466 | 225=>516 | 224=>517 | 267=>518 | 266=>502 | 314=>525 | n=>n,fun | 9=>9 | 4=>4 | 3=>3 | 5=>5 | 46=>195 | 146=>465 | 51=>191 | n=>n,fun | 1=>1 | n=>n⟩
theorem Tryz.lays144:Go.Proofs.Lays.n144 Tryz.prog Tryz.lays144_ren:= {
  mixed:=by kernel_rfl
  f143:=Tryz.func479.trans (congrArg some (by kernel_rfl))
  f144:=Tryz.func455.trans (congrArg some (by kernel_rfl))
  f217:=Tryz.func466.trans (congrArg some (by kernel_rfl))
  f219:=Tryz.func494.trans (congrArg some (by kernel_rfl))
  f224:=Tryz.func517.trans (congrArg some (by kernel_rfl))
  f225:=Tryz.func516.trans (congrArg some (by kernel_rfl))
  f266:=Tryz.func502.trans (congrArg some (by kernel_rfl))
  f267:=Tryz.func518.trans (congrArg some (by kernel_rfl))
  f314:=Tryz.func525.trans (congrArg some (by kernel_rfl))
  t3:=Tryz.underlying3
  a3:=Tryz.isAgg3
  z3:=Tryz.sizeOf3
  v3:=Tryz.zeroValue3
  t4:=Tryz.underlying4
  a4:=Tryz.isAgg4
  z4:=Tryz.sizeOf4
  v4:=Tryz.zeroValue4
  t5:=Tryz.underlying5
  a5:=Tryz.isAgg5
  z5:=Tryz.sizeOf5
  v5:=Tryz.zeroValue5
  t9:=Tryz.underlying9
  a9:=Tryz.isAgg9
  z9:=Tryz.sizeOf9
  v9:=Tryz.zeroValue9
  t46:=Tryz.underlying195
  a46:=Tryz.isAgg195
  z46:=Tryz.sizeOf195
  v46:=Tryz.zeroValue195
  t51:=Tryz.underlying191
  a51:=Tryz.isAgg191
  z51:=Tryz.sizeOf191
  v51:=Tryz.zeroValue191
  t146:=Tryz.underlying465
  a146:=Tryz.isAgg465
  z146:=Tryz.sizeOf465
  v146:=Tryz.zeroValue465
  g1:=by kernel_rfl}
open Go.RowKit Go.Lib in
theorem Tryz.strings_Contains (s sub:ByteArray) (m:Int) (w:World) (hs:s.size<4294967281) (hm:w.cell? ⟨1,0,none⟩=some (.int .i64 m)) :
    Calls Tryz.prog 455 #[.string s,.string sub] w fun e w'=>e= .returned (.bool (Lib.contains s.data.toList sub.data.toList))/\w'=w:=Any.strings_Contains Tryz.lays144 s sub m w hs hm
def Tryz.lays145_ren:Go.Shelf.Ren:=⟨fun | 145=>398 | 220=>454 | 219=>494 | 217=>466 | 225=>516 | 224=>517 | 267=>518 | 266=>502 | 314=>525 | n=>n,fun | 9=>9 | 4=>4 | 59=>387 | 3=>3 | 5=>5 | 46=>195 | 146=>465 | 51=>191 | n=>n,fun | 1=>1 | n=>n⟩
theorem Tryz.lays145:Go.Proofs.Lays.n145 Tryz.prog Tryz.lays145_ren:= {
  mixed:=by kernel_rfl
  f145:=Tryz.func398.trans (congrArg some (by kernel_rfl))
  f217:=Tryz.func466.trans (congrArg some (by kernel_rfl))
  f219:=Tryz.func494.trans (congrArg some (by kernel_rfl))
  f220:=Tryz.func454.trans (congrArg some (by kernel_rfl))
  f224:=Tryz.func517.trans (congrArg some (by kernel_rfl))
  f225:=Tryz.func516.trans (congrArg some (by kernel_rfl))
  f266:=Tryz.func502.trans (congrArg some (by kernel_rfl))
  f267:=Tryz.func518.trans (congrArg some (by kernel_rfl))
  f314:=Tryz.func525.trans (congrArg some (by kernel_rfl))
  t3:=Tryz.underlying3
  a3:=Tryz.isAgg3
  z3:=Tryz.sizeOf3
  v3:=Tryz.zeroValue3
  t4:=Tryz.underlying4
  a4:=Tryz.isAgg4
  z4:=Tryz.sizeOf4
  v4:=Tryz.zeroValue4
  t5:=Tryz.underlying5
  a5:=Tryz.isAgg5
  z5:=Tryz.sizeOf5
  v5:=Tryz.zeroValue5
  t9:=Tryz.underlying9
  a9:=Tryz.isAgg9
  z9:=Tryz.sizeOf9
  v9:=Tryz.zeroValue9
  t46:=Tryz.underlying195
  a46:=Tryz.isAgg195
  z46:=Tryz.sizeOf195
  v46:=Tryz.zeroValue195
  t51:=Tryz.underlying191
  a51:=Tryz.isAgg191
  z51:=Tryz.sizeOf191
  v51:=Tryz.zeroValue191
  t59:=Tryz.underlying387
  a59:=Tryz.isAgg387
  z59:=Tryz.sizeOf387
  v59:=Tryz.zeroValue387
  t146:=Tryz.underlying465
  a146:=Tryz.isAgg465
  z146:=Tryz.sizeOf465
  v146:=Tryz.zeroValue465
  g1:=by kernel_rfl}
open Go.RowKit Go.Lib in
theorem Tryz.strings_Cut (s sep:ByteArray) (m:Int) (w:World) (hs:s.size<4294967281) (hm:w.cell? ⟨1,0,none⟩=some (.int .i64 m)) :
    Calls Tryz.prog 398 #[.string s,.string sep] w fun e w'=>e= .returned (.tuple #[.string ⟨(Lib.cut s.data.toList sep.data.toList).1.toArray⟩,.string ⟨(Lib.cut s.data.toList sep.data.toList).2.1.toArray⟩,.bool (Lib.cut s.data.toList sep.data.toList).2.2])/\ ∃ n,w'=w.drewN n:=Any.strings_Cut Tryz.lays145 s sep m w hs hm
def Tryz.lays192_ren:Go.Shelf.Ren:=⟨fun | 192=>288 | 190=>392 | 125=>450 | 258=>449 | 128=>491 | 129=>492 | 302=>482 | 303=>483 | 304=>484 | 305=>485 | 306=>486 | 307=>487 | 308=>488 | 309=>489 | 310=>490 | 333=>509 | 329=>510 | 330=>511 | 334=>512 | 335=>513 | 336=>514 | 344=>524 | n=>n,fun | 31=>52 | 0=>0 | 9=>9 | 3=>3 | 46=>195 | 51=>191 | 53=>323 | 4=>4 | 183=>439 | 182=>438 | 131=>178 | 5=>5 | 218=>454 | 222=>403 | 228=>462 | 229=>463 | n=>n,fun | n=>n⟩
theorem Tryz.lays192:Go.Proofs.Lays.n192 Tryz.prog Tryz.lays192_ren:= {
  mixed:=by kernel_rfl
  f125:=Tryz.func450.trans (congrArg some (by kernel_rfl))
  f128:=Tryz.func491.trans (congrArg some (by kernel_rfl))
  f129:=Tryz.func492.trans (congrArg some (by kernel_rfl))
  f190:=Tryz.func392.trans (congrArg some (by kernel_rfl))
  f192:=Tryz.func288.trans (congrArg some (by kernel_rfl))
  f258:=Tryz.func449.trans (congrArg some (by kernel_rfl))
  f302:=Tryz.func482.trans (congrArg some (by kernel_rfl))
  f303:=Tryz.func483.trans (congrArg some (by kernel_rfl))
  f304:=Tryz.func484.trans (congrArg some (by kernel_rfl))
  f305:=Tryz.func485.trans (congrArg some (by kernel_rfl))
  f306:=Tryz.func486.trans (congrArg some (by kernel_rfl))
  f307:=Tryz.func487.trans (congrArg some (by kernel_rfl))
  f308:=Tryz.func488.trans (congrArg some (by kernel_rfl))
  f309:=Tryz.func489.trans (congrArg some (by kernel_rfl))
  f310:=Tryz.func490.trans (congrArg some (by kernel_rfl))
  f329:=Tryz.func510.trans (congrArg some (by kernel_rfl))
  f330:=Tryz.func511.trans (congrArg some (by kernel_rfl))
  f333:=Tryz.func509.trans (congrArg some (by kernel_rfl))
  f334:=Tryz.func512.trans (congrArg some (by kernel_rfl))
  f335:=Tryz.func513.trans (congrArg some (by kernel_rfl))
  f336:=Tryz.func514.trans (congrArg some (by kernel_rfl))
  f344:=Tryz.func524.trans (congrArg some (by kernel_rfl))
  t0:=Tryz.underlying0
  a0:=Tryz.isAgg0
  z0:=Tryz.sizeOf0
  v0:=Tryz.zeroValue0
  t3:=Tryz.underlying3
  a3:=Tryz.isAgg3
  z3:=Tryz.sizeOf3
  v3:=Tryz.zeroValue3
  t4:=Tryz.underlying4
  a4:=Tryz.isAgg4
  z4:=Tryz.sizeOf4
  v4:=Tryz.zeroValue4
  t5:=Tryz.underlying5
  a5:=Tryz.isAgg5
  z5:=Tryz.sizeOf5
  v5:=Tryz.zeroValue5
  t9:=Tryz.underlying9
  a9:=Tryz.isAgg9
  z9:=Tryz.sizeOf9
  v9:=Tryz.zeroValue9
  t31:=Tryz.underlying52
  a31:=Tryz.isAgg52
  z31:=Tryz.sizeOf52
  v31:=Tryz.zeroValue52
  t46:=Tryz.underlying195
  a46:=Tryz.isAgg195
  z46:=Tryz.sizeOf195
  v46:=Tryz.zeroValue195
  t51:=Tryz.underlying191
  a51:=Tryz.isAgg191
  z51:=Tryz.sizeOf191
  v51:=Tryz.zeroValue191
  t53:=Tryz.underlying323
  a53:=Tryz.isAgg323
  z53:=Tryz.sizeOf323
  v53:=Tryz.zeroValue323
  t131:=Tryz.underlying178
  a131:=Tryz.isAgg178
  z131:=Tryz.sizeOf178
  v131:=Tryz.zeroValue178
  t182:=Tryz.underlying438
  a182:=Tryz.isAgg438
  z182:=Tryz.sizeOf438
  v182:=Tryz.zeroValue438
  t183:=Tryz.underlying439
  a183:=Tryz.isAgg439
  z183:=Tryz.sizeOf439
  v183:=Tryz.zeroValue439
  t218:=Tryz.underlying454
  a218:=Tryz.isAgg454
  z218:=Tryz.sizeOf454
  v218:=Tryz.zeroValue454
  t222:=Tryz.underlying403
  a222:=Tryz.isAgg403
  z222:=Tryz.sizeOf403
  v222:=Tryz.zeroValue403
  t228:=Tryz.underlying462
  a228:=Tryz.isAgg462
  z228:=Tryz.sizeOf462
  v228:=Tryz.zeroValue462
  t229:=Tryz.underlying463
  a229:=Tryz.isAgg463
  z229:=Tryz.sizeOf463
  v229:=Tryz.zeroValue463}
open Go.Sort Go.RowKit in
theorem Tryz.sort_Strings (blk off cap:Nat) (ss:List (List UInt8)) (w:World) (hH:Holds encStr w blk off ss.toArray) (hblk:blk<w.heap.size) (hsz:ss.length<4611686018427387904) :
    Calls Tryz.prog 288 #[.slice (some ⟨blk,off,none⟩) ss.length cap] w fun e w' =>
      e= .returned (.tuple #[])/\ ∃ n os,w'=grow (putRow encStr (Sort.ahead w n) blk off (ss.mergeSort fun x y=>decide (x<=y)).toArray) os:=Any.sort_Strings Tryz.lays192 blk off cap ss w hH hblk hsz
def Tryz.lays99_ren:Go.Shelf.Ren:=⟨fun | 99=>465 | 206=>501 | n=>n,fun | 9=>9 | 4=>4 | 3=>3 | n=>n,fun | n=>n⟩
theorem Tryz.lays99:Go.Proofs.Lays.n99 Tryz.prog Tryz.lays99_ren:= {
  mixed:=by kernel_rfl
  f99:=Tryz.func465.trans (congrArg some (by kernel_rfl))
  f206:=Tryz.func501.trans (congrArg some (by kernel_rfl))
  t3:=Tryz.underlying3
  a3:=Tryz.isAgg3
  z3:=Tryz.sizeOf3
  v3:=Tryz.zeroValue3
  t4:=Tryz.underlying4
  a4:=Tryz.isAgg4
  z4:=Tryz.sizeOf4
  v4:=Tryz.zeroValue4
  t9:=Tryz.underlying9
  a9:=Tryz.isAgg9
  z9:=Tryz.sizeOf9
  v9:=Tryz.zeroValue9}
open Go.RowKit Go.Lib in
theorem Tryz.strings_HasPrefix (s p:ByteArray) (w:World) :
    Calls Tryz.prog 465 #[.string s,.string p] w fun e w'=>e= .returned (.bool (Lib.hasPrefix s.data.toList p.data.toList))/\w'=w:=Any.strings_HasPrefix Tryz.lays99 s p w
def Tryz.lays101_ren:Go.Shelf.Ren:=⟨fun | 101=>467 | 208=>503 | 206=>501 | n=>n,fun | 9=>9 | 4=>4 | 3=>3 | n=>n,fun | n=>n⟩
theorem Tryz.lays101:Go.Proofs.Lays.n101 Tryz.prog Tryz.lays101_ren:= {
  mixed:=by kernel_rfl
  f101:=Tryz.func467.trans (congrArg some (by kernel_rfl))
  f206:=Tryz.func501.trans (congrArg some (by kernel_rfl))
  f208:=Tryz.func503.trans (congrArg some (by kernel_rfl))
  t3:=Tryz.underlying3
  a3:=Tryz.isAgg3
  z3:=Tryz.sizeOf3
  v3:=Tryz.zeroValue3
  t4:=Tryz.underlying4
  a4:=Tryz.isAgg4
  z4:=Tryz.sizeOf4
  v4:=Tryz.zeroValue4
  t9:=Tryz.underlying9
  a9:=Tryz.isAgg9
  z9:=Tryz.sizeOf9
  v9:=Tryz.zeroValue9}
open Go.RowKit Go.Lib in
theorem Tryz.strings_TrimPrefix (s p:ByteArray) (w:World) :
    Calls Tryz.prog 467 #[.string s,.string p] w fun e w'=>e= .returned (.string ⟨(Lib.trimPrefix s.data.toList p.data.toList).toArray⟩)/\w'=w:=Any.strings_TrimPrefix Tryz.lays101 s p w
def Tryz.lays146_ren:Go.Shelf.Ren:=⟨fun | 146=>385 | 221=>446 | 268=>477 | 138=>478 | 143=>479 | 195=>506 | 197=>507 | 218=>508 | 219=>494 | 260=>523 | 217=>466 | 225=>516 | 224=>517 | 267=>518 | 266=>502 | 314=>525 | n=>n,fun | 9=>9 | 31=>52 | 3=>3 | 4=>4 | 0=>0 | 105=>452 | 21=>21 | 5=>5 | 46=>195 | 119=>467 | 139=>470 | 138=>469 | 146=>465 | 51=>191 | n=>n,fun | 1=>1 | 3=>3 | 4=>4 | n=>n⟩
theorem Tryz.lays146:Go.Proofs.Lays.n146 Tryz.prog Tryz.lays146_ren:= {
  mixed:=by kernel_rfl
  f138:=Tryz.func478.trans (congrArg some (by kernel_rfl))
  f143:=Tryz.func479.trans (congrArg some (by kernel_rfl))
  f146:=Tryz.func385.trans (congrArg some (by kernel_rfl))
  f195:=Tryz.func506.trans (congrArg some (by kernel_rfl))
  f197:=Tryz.func507.trans (congrArg some (by kernel_rfl))
  f217:=Tryz.func466.trans (congrArg some (by kernel_rfl))
  f218:=Tryz.func508.trans (congrArg some (by kernel_rfl))
  f219:=Tryz.func494.trans (congrArg some (by kernel_rfl))
  f221:=Tryz.func446.trans (congrArg some (by kernel_rfl))
  f224:=Tryz.func517.trans (congrArg some (by kernel_rfl))
  f225:=Tryz.func516.trans (congrArg some (by kernel_rfl))
  f260:=Tryz.func523.trans (congrArg some (by kernel_rfl))
  f266:=Tryz.func502.trans (congrArg some (by kernel_rfl))
  f267:=Tryz.func518.trans (congrArg some (by kernel_rfl))
  f268:=Tryz.func477.trans (congrArg some (by kernel_rfl))
  f314:=Tryz.func525.trans (congrArg some (by kernel_rfl))
  t0:=Tryz.underlying0
  a0:=Tryz.isAgg0
  z0:=Tryz.sizeOf0
  v0:=Tryz.zeroValue0
  t3:=Tryz.underlying3
  a3:=Tryz.isAgg3
  z3:=Tryz.sizeOf3
  v3:=Tryz.zeroValue3
  t4:=Tryz.underlying4
  a4:=Tryz.isAgg4
  z4:=Tryz.sizeOf4
  v4:=Tryz.zeroValue4
  t5:=Tryz.underlying5
  a5:=Tryz.isAgg5
  z5:=Tryz.sizeOf5
  v5:=Tryz.zeroValue5
  t9:=Tryz.underlying9
  a9:=Tryz.isAgg9
  z9:=Tryz.sizeOf9
  v9:=Tryz.zeroValue9
  t21:=Tryz.underlying21
  a21:=Tryz.isAgg21
  z21:=Tryz.sizeOf21
  v21:=Tryz.zeroValue21
  t31:=Tryz.underlying52
  a31:=Tryz.isAgg52
  z31:=Tryz.sizeOf52
  v31:=Tryz.zeroValue52
  t46:=Tryz.underlying195
  a46:=Tryz.isAgg195
  z46:=Tryz.sizeOf195
  v46:=Tryz.zeroValue195
  t51:=Tryz.underlying191
  a51:=Tryz.isAgg191
  z51:=Tryz.sizeOf191
  v51:=Tryz.zeroValue191
  t105:=Tryz.underlying452
  a105:=Tryz.isAgg452
  z105:=Tryz.sizeOf452
  v105:=Tryz.zeroValue452
  t119:=Tryz.underlying467
  a119:=Tryz.isAgg467
  z119:=Tryz.sizeOf467
  t138:=Tryz.underlying469
  a138:=Tryz.isAgg469
  z138:=Tryz.sizeOf469
  v138:=Tryz.zeroValue469
  t139:=Tryz.underlying470
  a139:=Tryz.isAgg470
  z139:=Tryz.sizeOf470
  v139:=Tryz.zeroValue470
  t146:=Tryz.underlying465
  a146:=Tryz.isAgg465
  z146:=Tryz.sizeOf465
  v146:=Tryz.zeroValue465
  g1:=by kernel_rfl
  g3:=by kernel_rfl
  g4:=by kernel_rfl}
open Go.RowKit Go.Lib in
theorem Tryz.strings_Split (s sep:ByteArray) (m:Int) (w:World) (hs:s.size<4294967281) (hm:w.cell? ⟨1,0,none⟩=some (.int .i64 m)) (h1:1<=sep.size) :
    Calls Tryz.prog 385 #[.string s,.string sep] w fun e w' =>
      e= .returned (.slice (some ⟨w.heap.size,0,none⟩) (Lib.countB s sep+1) (Lib.countB s sep+1))/\w'=w.alloc (.cells ((Lib.splitB sep 0 (Lib.countB s sep) s).map Value.string).toArray 9):=Any.strings_Split Tryz.lays146 (by kernel_rfl) s sep m w hs hm h1
end Go.Proofs
namespace Go.Proofs.YtbnphelpndnnfaaGreatDoor.Vm
open Go.Proofs
noncomputable def Ol (N:Nat):Sig:=HY 9 N
theorem PW (N:Nat):Spec Tryz.prog 283 (Ol N) :=
  dJ (enters (fn:=Tryz.f283) (by kernel_rfl) (by kernel_rfl) (by decide)) ⟨Tryz.strings_Join_none,Tryz.strings_Join⟩
open Go.RowKit
def CK.flat:CK->Bool | .bool=>true | .int _=>true | .str=>true | _=>false
def Sh.flat:Sh->Bool | .cell false k=>k.flat | _=>false
def A.flat:A->Bool | .bool _=>true | .int _ _=>true | .str _=>true | _=>false
def rvA:A->Value | .bool b=>.bool b | .int k n=>.int k n | .str s=>.string ⟨s.toArray⟩ | _=>undef
theorem Ab6 {O:Own} {w:World} {id:Nat} {v:Value} {x:A} (hf:x.flat=true) (h:IR O w id v x):v=rvA x:=by
  cases x with
  | bool b=>have h':VRel O w v (.bool b):=h;cases h';rfl
  | int k n=>have h':VRel O w v (.int k n):=h;cases h';rfl
  | str s=>exact Jz (show VRel O w v (.str s)from h)
  | _=>cases hf
theorem AbV {O:Own} {w:World} {id:Nat} {x:A} (hf:x.flat=true):IR O w id (rvA x) x:=by
  cases x with
  | bool b=>exact VRel.bool b
  | int k n=>exact VRel.int k n
  | str s=>exact VRel.str (O:=O) (w:=w) ⟨s.toArray⟩
  | _=>cases hf
theorem Sh.Aar {s:Sh} (h:s.flat=true) (v:s.T):(s.enc v).flat=true:=by
  cases s with
  | cell u k=>cases u<;>cases k<;>first | (cases h;done) | rfl
  | _=>cases h
theorem Xd: ∀(ss:List Sh) (v:ShT ss),ss.all Sh.flat=true->(encs ss v).all A.flat=true:=by
  intro ss
  induction ss with
  | nil=>intro v _;rfl
  | cons s r ih =>
    intro v h
    rw[List.all_cons,Bool.and_eq_true]at h
    show((s.enc _).flat&&(encs r _).all A.flat)=true
    rw[Sh.Aar h.1,ih _ h.2];rfl
theorem Aas: ∀(ss:List Sh) (v:ShT ss),(encs ss v).length=ss.length:=by
  intro ss
  induction ss with
  | nil=>intro v;rfl
  | cons s r ih=>intro v;show(encs r _).length+1=_;rw[ih];rfl
theorem ZM: ∀(ss:List Sh) (i:Nat),ss.all Sh.flat=true->boxIx ss i=[]:=by
  intro ss
  induction ss with
  | nil=>intro i _;rfl
  | cons s r ih =>
    intro i h
    rw[List.all_cons,Bool.and_eq_true]at h
    unfold boxIx
    have:isBoxSh s=false:=by cases s<;>first | rfl | (cases h.1;done)
    rw[this]
    exact ih _ h.2
theorem yZ (pars ress:List Sh) (h:pars.all Sh.flat=true):outS pars ress=ress:=by
  unfold outS
  rw[List.filterMap_eq_nil_iff.2 (fun s hs=> ?_),List.append_nil]
  have:=List.all_eq_true.1 h s hs
  cases s<;>first | rfl | (cases this;done)
theorem jL {l:List A} (h:l.all A.flat=true) {j:Nat} (hj:j<l.length):(l.getD j .undef).flat=true:=by
  rw[List.getD_eq_getElem?_getD,List.getElem?_eq_getElem hj]
  exact List.all_eq_true.1 h _ (List.getElem_mem hj)
theorem Yz (l:List A) (j:Nat) (hj:j<l.length):((l.map rvA).toArray).getD j undef=rvA (l.getD j .undef):=by
  simp [Array.getD_eq_getD_getElem?,List.getD_eq_getElem?_getD,hj]
theorem xP {O:Own} {w w':World} {vs:Array Value} {sg:Sig} {rs:List A} (hp:sg.pars.all Sh.flat=true) (hl:rs.length=sg.ress.length) (hf:rs.all A.flat=true) (hb:Below w.heap.size w w'):Came O w vs sg rs (tupV (rs.map rvA).toArray) O w':=by
  have hix:boxIx sg.pars 0=[]:=ZM _ _ hp
  refine⟨Below.moves hb,fun b k _ h=>h,fun b k _ h=>h,by rw[hix,hl];rfl,⟨(rs.map rvA).toArray,by simp [hl],rfl,fun k hk=> ?_⟩,fun j i hj=> ?_⟩
  ·have hk':k<rs.length:=by simpa using hk
   rw[Yz rs k hk']
   exact AbV (jL hf hk')
  ·rw[hix]at hj;cases hj
theorem jD {O:Own} {w:World} {vs:Array Value} {xs:List A} (hf:xs.all A.flat=true) (hv:vs.size=xs.length) (hx: ∀ j,j<xs.length->IR O w (256*j) (vs.getD j undef) (xs.getD j .undef)):vs=(xs.map rvA).toArray:=by
  apply Array.ext
  ·simp [hv]
  ·intro i h1 h2
   have hi:i<xs.length:=by omega
   have:=Ab6 (jL hf hi) (hx i hi)
   rw[<- Yz xs i hi]at this
   simp only[Array.getD_eq_getD_getElem?,Array.getElem?_eq_getElem h1,Array.getElem?_eq_getElem h2,Option.getD_some]at this
   exact this
theorem qG (w:World) (k:Nat) (os:Array Go.Obj):Below w.heap.size w (Go.Sort.grow (w.drewN k) os) :=
  ⟨rfl,rfl,rfl,by show _<=(w.heap++os).size;simp,fun i hi=>by show(w.heap++os)[i]? =_;rw[Array.getElem?_append_left hi]⟩
theorem J9 {P:Program} {f:FuncId} {pars ress:List Sh} {g:ShT pars->Option (ShT (outS pars ress))} (hp:pars.all Sh.flat=true) (hr:ress.all Sh.flat=true) (hent: ∀ args w,(callFunc f args).run P w= .ok (.enter f args) w)
    (H: ∀(O:Own) (w:World) (a:ShT pars) (o:ShT (outS pars ress)),Inv O w->g a=some o->Calls P f ((encs pars a).map rvA).toArray w fun e w'=>e= .returned (tupV ((encs (outS pars ress) o).map rvA).toArray)/\Below w.heap.size w w'):Spec P f (Sig.of pars ress g):=by
  refine⟨hent,fun O w vs xs rs hI hv hl _ hx hrs=> ?_⟩
  obtain⟨a,o,h1,h2,h3⟩:=Sig.of_some hrs
  subst h1
  have hvs:=jD (Xd pars a hp) hv hx
  rw[hvs]
  refine(H O w a o hI h2).mono fun e w' hq=> ?_
  obtain⟨he,hb⟩:=hq
  subst h3
  have ho:outS pars ress=ress:=yZ pars ress hp
  refine⟨_,O,he,xP (sg:=Sig.of pars ress g) hp ?_ ?_ hb⟩
  ·rw[Aas,ho];rfl
  ·exact Xd _ _ (by rw[ho];exact hr)
def strings_Split (_:Nat) (s sep:Bs):Option (List Bs):=bif decide (s.length<4294967281)&&decide (1<=sep.length)then some (Lib.split s sep)else none
def strings_IndexByte (_:Nat) (s:Bs) (c:Int):Option Int:=some (Lib.indexByte s c.toNat.toUInt8)
def strings_Cut (_:Nat) (s sep:Bs):Option (Bs×Bs×Bool):=bif decide (s.length<4294967281)then some (Lib.cut s sep)else none
def strings_CutPrefix (_:Nat) (s p:Bs):Option (Bs×Bool):=some (Lib.trimPrefix s p,Lib.hasPrefix s p)
def strings_TrimPrefix (_:Nat) (s p:Bs):Option Bs:=some (Lib.trimPrefix s p)
def strings_HasPrefix (_:Nat) (s p:Bs):Option Bool:=some (Lib.hasPrefix s p)
def strings_Contains (_:Nat) (s p:Bs):Option Bool:=bif decide (s.length<4294967281)then some (Lib.contains s p)else none
def strconv_Itoa (_:Nat) (n:Int):Option Bs:=bif decide (-9223372036854775808<=n)&&decide (n<=9223372036854775807)then some (Lib.itoa n)else none
def KO (l:List Bs):Bs:=(l.mergeSort fun x y=>decide (x<=y)).flatten
def JL (_:Nat) (l:List Bs):Option Bs:=bif decide (0<l.length)&&(decide (l.length<=1099511627776)&&decide (l.flatten.length<=140737488355328))then some (KO l)else none
def LU (s:ByteArray):Nat->Nat->Bool
  | 0,_=>true
  | n+1,i=>if i<s.size then
     let d:=Utf8.decode s i
     if d.1<32\/d.1=127 then false
     else if d.1=65533/\Lib.hasPrefix (s.data.toList.drop i) [239,191,189]=false then false
     else LU s n (i+d.2)
    else true
def AcZ (s:Bs):Bool:=LU ⟨s.toArray⟩ s.length 0
def pO (_:Nat) (s:Bs):Option Bool:=bif decide (s.length<4294967281)then some (AcZ s)else none
open Go.Proofs Go.RowKit
noncomputable def JJ (N:Nat):Sig:=.of [.cell false .str,.cell false .str] [.cell false .bool] (fun a=>strings_Contains N a.1 a.2)
theorem LP (N:Nat):Spec Tryz.prog 455 (JJ N) :=
  J9 rfl rfl (enters (fn:=Tryz.f455) (by kernel_rfl) (by kernel_rfl) (by decide)) fun O w (a:Bs×Bs) (o:Bool) hI h=>by
   obtain⟨s,c⟩:=a
   have h:(bif decide (List.length s<4294967281)then some (Lib.contains s c)else none)=some o:=h
   cases hc:decide (List.length s<4294967281)with
   | false=>rw[hc]at h;cases h
   | true =>
   rw[hc]at h
   injection h with h
   subst h
   have hs:=of_decide_eq_true hc
   obtain⟨_,v,hm,m,rfl⟩:=hI.1 1 0 _ rfl
   refine(Tryz.strings_Contains ⟨List.toArray s⟩ ⟨List.toArray c⟩ m w hs hm).mono fun e w' hq=> ?_
   obtain⟨h1,h2⟩:=hq
   subst h2
   exact⟨h1,Below.refl _ _⟩
noncomputable def NG (N:Nat):Sig:=.of [.cell false .str,.cell false .str] [.cell false .str,.cell false .bool] (fun a=>strings_CutPrefix N a.1 a.2)
theorem TN (N:Nat):Spec Tryz.prog 468 (NG N) :=
  J9 rfl rfl (enters (fn:=Tryz.f468) (by kernel_rfl) (by kernel_rfl) (by decide)) fun O w (a:Bs×Bs) (o:Bs×Bool) hI h=>by
   obtain⟨s,c⟩:=a
   have h:some ((Lib.trimPrefix s c,Lib.hasPrefix s c))=some o:=h
   injection h with h
   subst h
   refine(Tryz.strings_CutPrefix ⟨List.toArray s⟩ ⟨List.toArray c⟩ w).mono fun e w' hq=> ?_
   obtain⟨h1,h2⟩:=hq
   subst h2
   exact⟨h1,Below.refl _ _⟩
noncomputable def VX (N:Nat):Sig:=.of [.cell false .str,.cell false .str] [.cell false .str,.cell false .str,.cell false .bool] (fun a=>strings_Cut N a.1 a.2)
theorem ZF (N:Nat):Spec Tryz.prog 398 (VX N) :=
  J9 rfl rfl (enters (fn:=Tryz.f398) (by kernel_rfl) (by kernel_rfl) (by decide)) fun O w (a:Bs×Bs) (o:Bs×Bs×Bool) hI h=>by
   obtain⟨s,c⟩:=a
   have h:(bif decide (List.length s<4294967281)then some (Lib.cut s c)else none)=some o:=h
   cases hc:decide (List.length s<4294967281)with
   | false=>rw[hc]at h;cases h
   | true =>
   rw[hc]at h
   injection h with h
   subst h
   have hs:=of_decide_eq_true hc
   obtain⟨_,v,hm,m,rfl⟩:=hI.1 1 0 _ rfl
   refine(Tryz.strings_Cut ⟨List.toArray s⟩ ⟨List.toArray c⟩ m w hs hm).mono fun e w' hq=> ?_
   obtain⟨h1,n,h2⟩:=hq
   subst h2
   exact⟨h1,⟨rfl,rfl,rfl,Nat.le_refl _,fun _ _=>rfl⟩⟩
noncomputable def Jo (N:Nat):Sig:=.of [.cell false .str,.cell false (.int .u8)] [.cell false (.int .i64)] (fun a=>strings_IndexByte N a.1 a.2)
theorem KT (N:Nat):Spec Tryz.prog 418 (Jo N) :=
  J9 rfl rfl (enters (fn:=Tryz.f418) (by kernel_rfl) (by kernel_rfl) (by decide)) fun O w (a:Bs×Int) (o:Int) hI h=>by
   obtain⟨s,c⟩:=a
   have h:some (Lib.indexByte s c.toNat.toUInt8)=some o:=h
   injection h with h
   subst h
   refine(Tryz.strings_IndexByte ⟨List.toArray s⟩ c w).mono fun e w' hq=> ?_
   obtain⟨h1,h2⟩:=hq
   subst h2
   exact⟨h1,Below.refl _ _⟩
theorem AaA {O:Own} {w:World} (hI:Inv O w):Lib.TabIs Tryz.prog w "internal/strconv.uint64pow10" .u64 Lib.pow10Tab:=by
  obtain⟨c,e,fr,h1,h2⟩:=hI.2 2 20 rfl
  have hg:Tryz.prog.globalNamed "internal/strconv.uint64pow10" =some 2:=by kernel_rfl
  unfold Lib.TabIs World.var?
  rw[hg]
  show(match w.heap[2]? with | some (.cells cs _ _)=>some cs | _=>none)=_
  rw[h1]
  refine congrArg some (Array.ext (by rw[h2];simp [Lib.pow10Tab_length]) fun i hi hi'=> ?_)
  have hi20:i<20:=by omega
  obtain⟨_,v,hv,hp⟩:=hI.1 2 i _ (if_pos hi20)
  have hv':c[i]? =some v:=by
    have:w.cell? (at' 2 i)=c[i]? :=by simp [World.cell?,h1]
    rw[<- this];exact hv
  rw[Array.getElem?_eq_getElem hi]at hv'
  injection hv' with hv'
  rw[hv',hp]
  simp [Lib.pow10Tab]
noncomputable def UM (N:Nat):Sig:=.of [.cell false (.int .i64)] [.cell false .str] (fun a=>strconv_Itoa N a)
theorem Yr (N:Nat):Spec Tryz.prog 323 (UM N) :=
  J9 rfl rfl (enters (fn:=Tryz.f323) (by kernel_rfl) (by kernel_rfl) (by decide)) fun O w (a:Int) (o:Bs) hI h=>by
   have h:(bif decide (-9223372036854775808<=a)&&decide (a<=9223372036854775807)then some (Lib.itoa a)else none)=some o:=h
   cases hc:(decide (-9223372036854775808<=a)&&decide (a<=9223372036854775807))with
   | false=>rw[hc]at h;cases h
   | true =>
   rw[hc]at h
   injection h with h
   subst h
   rw[Bool.and_eq_true,decide_eq_true_eq,decide_eq_true_eq]at hc
   refine(Tryz.strconv_Itoa a hc.1 hc.2 w (AaA hI)).mono fun e w' hq=> ?_
   obtain⟨h1,k,os,h2⟩:=hq
   subst h2
   exact⟨h1,qG _ _ _⟩
end Go.Proofs.YtbnphelpndnnfaaGreatDoor.Vm
namespace Go.Proofs.YtbnphelpndnnfaaGreatDoor
open Go.RowKit Go.Sort Vm
theorem jQ (l:List (List UInt8)):Lib.join l []=l.flatten:=by
  cases l with
  | nil=>rfl
  | cons a r =>
    rw[Lib.join_cons]
    unfold Lib.joinTail
    simp
theorem AbJ {w:World} {g cap n:Nat} {ts:List Bs} {cur:Array Value} {e:TypeId} (hn:ts.length=n) (hb:w.heap[g]? =some (.cells cur e (0,0))) (ht:cur.toList.take n=ts.map encStr) (hc:n<=cap) (h1:n<=140737488355328) (hl:ts.flatten.length<=140737488355328) :
    Calls Tryz.prog 283 #[.slice (some ⟨g,0,none⟩) n cap,.string ⟨#[]⟩] w fun e w'=>e= .returned (.string ⟨ts.flatten.toArray⟩)/\Below w.heap.size w w':=by
  have hm:(ts.map (fun s=>(⟨s.toArray⟩:ByteArray))).map (·.data.toList)=ts:=by
    rw[List.map_map]
    conv=>rhs;rw[<- List.map_id ts]
    refine List.map_congr_left fun s _=> ?_
    simp
  have hj:=Tryz.strings_Join g 0 cap (ts.map (fun s=>(⟨s.toArray⟩:ByteArray))) ⟨#[]⟩ w (fun j x hx=>by
    have hx':(ts.map encStr)[j]? =some (.string x):=by
      rw[List.getElem?_map]at hx ⊢
      cases hq:ts[j]? with
      | none=>rw[hq]at hx;cases hx
      | some y=>rw[hq]at hx;injection hx with hx;rw[<- hx];rfl
    rw[<- ht]at hx'
    have hjn:j<n:=by
      rcases Nat.lt_or_ge j n with h | h
      ·exact h
      ·rw[List.getElem?_take_eq_none h]at hx';cases hx'
    rw[List.getElem?_take_of_lt hjn,Array.getElem?_toList]at hx'
    simp only[World.cell?,hb,Nat.zero_add]
    exact hx') (Array.getElem?_eq_some_iff.1 hb).1 (by rw[List.length_map,hn];exact h1) (by rw[List.length_map,hn];exact hc) (by rw[hm];show(Lib.join ts []).length<=_;rw[jQ];exact hl)
  rw[List.length_map,hn,hm]at hj
  refine hj.mono fun e w' hq=>⟨hq.1.trans ?_,hq.2⟩
  show Ending.returned (Value.string ⟨(Lib.join ts []).toArray⟩)=_
  rw[jQ]
theorem nY {a b:List Bs} (h:a.Perm b):a.flatten.length=b.flatten.length:=by
  rw[List.length_flatten,List.length_flatten]
  exact(h.map _).sum_nat
set_option maxHeartbeats 1000000 in
set_option maxRecDepth 1000000 in
theorem wB (w:World) (b o c:Nat) (ss:List Bs) (R:Bs) (hR:KO ss=R) (h0:0<ss.length) (hlen:ss.length<=1099511627776) (hflat:ss.flatten.length<=140737488355328)
    (hcells: ∀(j:Nat) (u:Value),(ss.map encStr)[j]? =some u->w.cell? ⟨b,o+j,none⟩=some u) :
    Calls Tryz.prog 205 #[.slice (some ⟨b,o,none⟩) ss.length c] w fun e w'=>e= .returned (.string ⟨R.toArray⟩)/\Below w.heap.size w w':=by
  have hi:Tryz.prog.info? 9=some _:=rfl
  go_enter Tryz.func205,Tryz.ntmps205
  go_wp2_with (at_builtin;go_loud (refine wpList_append_grows w rfl _ _ _ rfl 9 _ _ 1 16 rfl hi rfl rfl rfl rfl (by decide) none 0 0 [] rfl (fun _=>⟨rfl,rfl⟩) rfl (fun _ h=>by cases h) ⟨b,o,none⟩ ss.length c (ss.map encStr) rfl (by simp) (fun j u h=>by rw[Addr.add_lit];exact hcells j u h) (fun u hu=>by obtain⟨x,_,rfl⟩:=List.mem_map.1 hu;rfl) (by omega) (by show _<=maxLen;simp only[maxLen];omega) (by omega) ?_))
  intro v' w1 hown hgr
  rcases hown.2 with ⟨_,h⟩ | ⟨g,cap,cur,rfl,hbase,hbk,h1,h2,h3,h4⟩
  ·exfalso;omega
  have h4':cur.toList.take ss.length=ss.map encStr:=by simpa using h4
  have hH:Holds encStr w1 g 0 ss.toArray:=holds_of_block hbk h4'
  have hB1:Below w.heap.size w w1:=Below.grown (Below.refl _ _) hgr (Nat.le_refl _) (fun k hk=>by cases hk)
  have hsort:=Tryz.sort_Strings g 0 cap ss w1 hH (Array.getElem?_eq_some_iff.1 hbk).1 (by omega)
  have hperm:(ss.mergeSort fun x y=>decide (x<=y)).Perm ss:=List.mergeSort_perm _ _
  have hord:KO ss=(ss.mergeSort fun x y=>decide (x<=y)).flatten:=rfl
  have hfl:=nY hperm
  have hts:=hperm.length_eq
  generalize (ss.mergeSort fun x y=>decide (x<=y))=ts at hsort hord hfl hts
  have hRt:ts.flatten=R:=hord.symm.trans hR
  have hB2: ∀ n os,Below w.heap.size w (grow (putRow encStr (Sort.ahead w1 n) g 0 ts.toArray) os):=fun n os=>Below.grown hB1 (grownBy_sorted ts.toArray) hB1.size (fun k hk=>by injection hk with hk;omega)
  have hJ: ∀ n os,Calls Tryz.prog 283 #[.slice (some ⟨g,0,none⟩) ss.length cap,.string ⟨#[]⟩] (grow (putRow encStr (Sort.ahead w1 n) g 0 ts.toArray) os) fun e w'=>e= .returned (.string ⟨R.toArray⟩)/\Below w.heap.size w w':=fun n os=>by
    rw[<- hRt]
    refine(AbJ (n:=ss.length) hts (heap_sorted ts.toArray hbk) (by rw[<- hts];exact take_putCells cur ts (by omega)) h1 (by omega) (by omega)).mono fun e w' hq=>⟨hq.1,(hB2 n os).trans (hq.2.mono (hB2 n os).size)⟩
  clear hown hgr hcells h4 h4' hH hB1 hB2 hord hfl hperm hR hRt
  go_wp2_with (first | (go_at_call 288;refine hsort.mono ?_;rintro e w2 ⟨rfl,n,os,rfl⟩;have hJ2:=hJ n os;generalize (grow (putRow encStr (Sort.ahead w1 n) g 0 ts.toArray) os)=w3 at hJ2 ⊢) | (go_at_call 283;refine hJ2.mono ?_;rintro e w4 ⟨rfl,hb4⟩))
  go_ret
  exact⟨rfl,hb4⟩
end Go.Proofs.YtbnphelpndnnfaaGreatDoor
namespace Go.Proofs.YtbnphelpndnnfaaGreatDoor.Vm
open Go.Proofs Go.RowKit
noncomputable def TP (N:Nat):Sig:=.of [.cell false (.sl 9 (.str .nil))] [.cell false .str] (fun a=>JL N a)
theorem lU {N:Nat} {O:Own} {w:World} {vs:Array Value} (l:List Bs) (out:Bs) (hv:vs.size=1) (hx0:VRel O w (vs.getD 0 undef) (.sl ⟨.str .nil,l⟩)) (h2':JL N l=some out) :
    Calls Tryz.prog 205 vs w fun e' w'=> ∃ v O',e'= .returned v/\Came O w vs (TP N) [.str out] v O' w':=by
  unfold JL at h2'
  have hv1:vs= #[vs.getD 0 undef]:=by
    apply Array.ext
    ·exact hv
    ·intro i h1 h2
     have:i=0:=by simp at h2;omega
     subst this
     simp [Array.getD_eq_getD_getElem?,h1]
  cases hc:(decide (0<l.length)&&(decide (l.length<=1099511627776)&&decide (l.flatten.length<=140737488355328)))with
  | false=>rw[hc]at h2';cases h2'
  | true =>
    rw[hc]at h2'
    injection h2' with h2'
    simp only[Bool.and_eq_true,decide_eq_true_eq]at hc
    obtain⟨c0,c1,c2⟩:=hc
    rw[hv1]
    generalize vs.getD 0 undef=v0 at hx0
    have hes0:(⟨.str .nil,l⟩:Sl).es=l.map (fun s:Bs=>[A.str s]):=rfl
    have hsz:(⟨.str .nil,l⟩:Sl).sz=1:=rfl
    generalize hL:(⟨.str .nil,l⟩:Sl)=L at hx0 hes0 hsz
    have hlen:L.es.length=l.length:=by rw[hes0,List.length_map]
    cases hx0 with
    | nil t =>
      have:l=[]:=by injection hL with h1 h2;subst h1;exact eq_of_heq h2
      rw[this]at c0;exact absurd c0 (by decide)
    | sl0 ad t =>
      have:l=[]:=by injection hL with h1 h2;subst h1;exact eq_of_heq h2
      rw[this]at c0;exact absurd c0 (by decide)
    | @sl b off cap l' vs' hcap hm hr =>
      have hw:=wB w b off cap l out h2' c0 c1 c2 (fun j u hj=>by
        have hjl:j<l.length:=by
          rcases Nat.lt_or_ge j (l.length)with h | h
          ·exact h
          ·rw[List.getElem?_eq_none (by simpa using h)]at hj;cases hj
        have hm1:=(hm j 0 (by rw[hlen];exact hjl) (by rw[hsz];omega)).2
        have hr1:=hr j 0 (by rw[hlen];exact hjl) (by rw[hsz];omega)
        have e1:off+(j*L.sz+0)=off+j:=by rw[hsz];omega
        rw[e1]at hm1
        rw[List.getElem?_map,List.getElem?_eq_getElem hjl]at hj
        injection hj with hj
        have e2:(L.es.getD j []).getD 0 .undef= .str (l[j]):=by
          rw[hes0]
          simp [List.getD_eq_getElem?_getD,hjl]
        rw[e2]at hr1
        rw[<- hj,hm1,Jz hr1])
      rw[<- hlen]at hw
      refine hw.mono fun e' w' hq=> ?_
      refine⟨_,O,hq.1,?_⟩
      refine⟨Below.moves hq.2,fun b k _ h=>h,fun b k _ h=>h,rfl,⟨#[.string ⟨List.toArray out⟩],rfl,rfl,fun k hk=> ?_⟩,fun j i hj=> ?_⟩
      ·have hk0:k=0:=by simp at hk;omega
       subst hk0
       exact VRel.str (O:=O) (w:=w') ⟨List.toArray out⟩
      ·exact absurd hj (by show(boxIx [.cell false (.sl 9 (.str .nil))] 0)[j]? ≠some i;simp [boxIx,isBoxSh])
theorem jB (N:Nat):Spec Tryz.prog 205 (TP N):=by
  refine⟨enters (fn:=Tryz.f205) (by kernel_rfl) (by kernel_rfl) (by decide),fun O w vs xs rs hI hv hl _ hx hrs=> ?_⟩
  obtain⟨l,out,h1,h2,h3⟩:=Sig.of_some (pars:=[.cell false (.sl 9 (.str .nil))]) (ress:=[.cell false .str]) (f:=fun a=>JL N a) hrs
  subst h1
  have h3':rs=[.str out]:=h3
  subst h3'
  exact lU l out hv (hx 0 (by show 0<1;omega)) h2
end Go.Proofs.YtbnphelpndnnfaaGreatDoor.Vm
namespace Go.Proofs.YtbnphelpndnnfaaGreatDoor.Vm
open Go.Proofs Go.RowKit
theorem AaR {O:Own} {w:World} {bs:List ByteArray} {t:TypeId} {l:List Bs} (hl:bs.map (·.data.toList)=l) :
    VRel (fun b k=>if b<w.heap.size then O b k else none) (w.alloc (.cells (bs.map Value.string).toArray t)) (.slice (some ⟨w.heap.size,0,none⟩) bs.length bs.length) (.sl ⟨.str .nil,l⟩):=by
  have hll:l.length=bs.length:=by rw[<- hl,List.length_map]
  have hget: ∀ i (h:i<bs.length),l.getD i []=bs[i].data.toList:=by
    intro i h
    rw[<- hl]
    simp [List.getD_eq_getElem?_getD,h]
  have hes0:(⟨.str .nil,l⟩:Sl).es=l.map (fun s:Bs=>[A.str s]):=rfl
  have hsz:(⟨.str .nil,l⟩:Sl).sz=1:=rfl
  generalize (⟨.str .nil,l⟩:Sl)=L at *
  have hlen:L.es.length=bs.length:=by rw[hes0,List.length_map,hll]
  have hb:(w.alloc (.cells (bs.map Value.string).toArray t)).heap[w.heap.size]? =some (.cells (bs.map Value.string).toArray t (0,0)):=heap_new _ _
  have hcell: ∀ i,(w.alloc (.cells (bs.map Value.string).toArray t)).cell? (at' w.heap.size i)=(bs.map Value.string).toArray[i]? :=by
    intro i
    simp only[World.cell?,hb]
    rfl
  have h:=VRel.sl (O:=fun b k=>if b<w.heap.size then O b k else none) (w:=w.alloc (.cells (bs.map Value.string).toArray t)) (b:=w.heap.size) (off:=0) (cap:=bs.length) (l:=L) (fun i _=>.string (bs.getD i ByteArray.empty)) (by rw[hlen];exact Nat.le_refl _)
    (fun i j hi hj=>by
      rw[hlen]at hi
      rw[hsz]at hj
      have hj0:j=0:=by omega
      subst hj0
      refine⟨if_neg (Nat.lt_irrefl _),?_⟩
      have e:0+(i*L.sz+0)=i:=by rw[hsz];omega
      rw[e,hcell]
      simp [List.getD_eq_getElem?_getD,hi])
    (fun i j hi hj=>by
      rw[hlen]at hi
      rw[hsz]at hj
      have hj0:j=0:=by omega
      subst hj0
      have e1:(L.es.getD i []).getD 0 .undef= .str (l.getD i []):=by
        rw[hes0]
        simp [List.getD_eq_getElem?_getD,show i<l.length by omega]
      rw[e1,hget i hi]
      simp only[List.getD_eq_getElem?_getD,List.getElem?_eq_getElem hi,Option.getD_some]
      exact VRel.str (bs[i]))
  rw[hlen]at h
  exact h
theorem xQ {O:Own} {w:World} {vs:Array Value} {sg:Sig} {bs:List ByteArray} {t e:TypeId} {l:List Bs} (hp:sg.pars.all Sh.flat=true) (hr:sg.ress=[.cell false (.sl e (.str .nil))]) (hl:bs.map (·.data.toList)=l) :
    Came O w vs sg [.sl ⟨.str .nil,l⟩] (.slice (some ⟨w.heap.size,0,none⟩) bs.length bs.length) (fun b k=>if b<w.heap.size then O b k else none) (w.alloc (.cells (bs.map Value.string).toArray t)):=by
  have hix:boxIx sg.pars 0=[]:=ZM _ _ hp
  refine⟨Moves.push _,fun b k hb h=>by rwa [if_pos hb]at h,fun b k hb h=>by rwa [if_pos hb],by rw[hix,hr];rfl,⟨#[.slice (some ⟨w.heap.size,0,none⟩) bs.length bs.length],by rw[hr];rfl,rfl,fun k hk=> ?_⟩,fun j i hj=> ?_⟩
  ·have hk0:k=0:=by simp at hk;omega
   subst hk0
   exact AaR hl
  ·rw[hix]at hj;cases hj
noncomputable def Jv (N:Nat):Sig:=.of [.cell false .str,.cell false .str] [.cell false (.sl 9 (.str .nil))] (fun a=>strings_Split N a.1 a.2)
theorem OY (N:Nat):Spec Tryz.prog 385 (Jv N):=by
  refine⟨enters (fn:=Tryz.f385) (by kernel_rfl) (by kernel_rfl) (by decide),fun O w vs xs rs hI hv hl _ hx hrs=> ?_⟩
  obtain⟨a,o,h1,h2,h3⟩:=Sig.of_some (pars:=[.cell false .str,.cell false .str]) (ress:=[.cell false (.sl 9 (.str .nil))]) (f:=fun a=>strings_Split N a.1 a.2) hrs
  subst h1
  obtain⟨s,c⟩:=a
  have hvs:=jD (Xd [.cell false .str,.cell false .str] (s,c) rfl) hv hx
  rw[hvs]
  have h2':(bif decide (List.length s<4294967281)&&decide (1<=List.length c)then some (Lib.split s c)else none)=some o:=h2
  cases hc:(decide (List.length s<4294967281)&&decide (1<=List.length c))with
  | false=>rw[hc]at h2';cases h2'
  | true =>
    rw[hc]at h2'
    injection h2' with h2'
    subst h2'
    rw[Bool.and_eq_true,decide_eq_true_eq,decide_eq_true_eq]at hc
    obtain⟨_,v,hm,m,rfl⟩:=hI.1 1 0 _ rfl
    have hlen:=Lib.splitB_all ⟨List.toArray c⟩ hc.2 0 _ ⟨List.toArray s⟩ rfl
    refine(Tryz.strings_Split ⟨List.toArray s⟩ ⟨List.toArray c⟩ m w hc.1 hm hc.2).mono fun e w' hq=> ?_
    obtain⟨he,hw⟩:=hq
    subst hw
    rw[<- hlen]at he
    refine⟨_,fun b k=>if b<w.heap.size then O b k else none,he,?_⟩
    have h3':rs=[.sl ⟨.str .nil,Lib.split s c⟩]:=h3
    rw[h3']
    exact xQ (O:=O) (w:=w) (e:=9) (sg:=Jv N) rfl rfl (by rw[Lib.splitB_data];rfl)
noncomputable def N8 (N:Nat):Sig:=.of [.cell false .str,.cell false .str] [.cell false .str] (fun a=>strings_TrimPrefix N a.1 a.2)
theorem Rx (N:Nat):Spec Tryz.prog 467 (N8 N) :=
  J9 rfl rfl (enters (fn:=Tryz.f467) (by kernel_rfl) (by kernel_rfl) (by decide)) fun O w (a:Bs×Bs) (o:Bs) hI h=>by
   obtain⟨s,c⟩:=a
   have h:some (Lib.trimPrefix s c)=some o:=h
   injection h with h
   subst h
   refine(Tryz.strings_TrimPrefix ⟨List.toArray s⟩ ⟨List.toArray c⟩ w).mono fun e w' hq=> ?_
   obtain⟨h1,h2⟩:=hq
   subst h2
   exact⟨h1,Below.refl _ _⟩
end Go.Proofs.YtbnphelpndnnfaaGreatDoor.Vm
namespace Go.Proofs.YtbnphelpndnnfaaGreatDoor
open Go.RowKit Vm
theorem PX (w:World) (s:ByteArray) (pos:Nat):Below w.heap.size w (w.iter s pos):=Below.alloc (Below.refl _ _) (Nat.le_refl _) _
theorem uX (s:ByteArray) (i:Nat):1<=(Utf8.decode s i).2:=by
  unfold Utf8.decode
  dsimp only
  repeat' split
  all_goals (first | exact Nat.le_refl _ | (show 1<=_;omega))
theorem AbY (s:ByteArray) (b pos:Nat) (h: ¬ pos<s.size):LU s b pos=true:=by
  cases b with
  | zero=>rfl
  | succ b=>unfold LU;rw[if_neg h]
theorem AaZ (s:ByteArray) (b pos:Nat) (h:pos<s.size):LU s (b+1) pos=if(Utf8.decode s pos).1<32\/(Utf8.decode s pos).1=127 then false else if(Utf8.decode s pos).1=65533/\Lib.hasPrefix (s.data.toList.drop pos) [239,191,189]=false then false else LU s b (pos+(Utf8.decode s pos).2):=by
  show(if pos<s.size then _ else _)=_
  rw[if_pos h]
set_option maxHeartbeats 1000000 in
set_option maxRecDepth 1000000 in
theorem Aba (s:ByteArray) (w:World) (R:Bool) (hR:LU s s.size 0=R) (hs:s.size<4294967281) :
    Calls Tryz.prog 414 #[.string s] w fun e w'=>e= .returned (.bool R)/\Below w.heap.size w w':=by
  go_enter Tryz.func414,Tryz.ntmps414
  go_wp2
  go_loopw [] (fun w'=> ∃(pos b:Nat),w'=w.iter s pos/\LU s b pos=R/\s.size<=pos+b) (fun w'=>s.size - w'.iterPos w.heap.size)
  case atStart=>exact⟨0,s.size,rfl,hR,by omega⟩
  case round =>
    obtain⟨pos,b,rfl,hc,hb⟩:=hrel
    by_cases hp:pos<s.size
    ·have hnx: ∀ ty,(Instr.next (.pointer (some ⟨w.heap.size,0,none⟩)) true ty).run Tryz.prog (w.iter s pos)=_:=fun ty=>run_next_any w s pos ty hp
     have hwd:=uX s pos
     cases b with
     | zero=>omega
     | succ b =>
       rw[AaZ s b pos hp]at hc
       have hpx:=fun w=>Tryz.strings_HasPrefix (s.extract pos s.size) ⟨#[239,191,189]⟩ w
       generalize h4:Lib.hasPrefix (s.extract pos s.size).data.toList ((⟨#[239,191,189]⟩:ByteArray)).data.toList=B at hpx
       generalize Utf8.decode s pos=D at hnx hwd hc
       obtain⟨c,k⟩:=D
       dsimp only at hnx hwd hc
       obtain⟨C,hC⟩: ∃ C:Int,(c:Int)=C:=⟨_,rfl⟩
       rw[hC]at hnx
       by_cases h1:c<32
       ·have t1:C<32:=by omega
        rw[if_pos (Or.inl h1)]at hc
        subst hc
        clear h1 hC hR
        go_wp2
        go_ret
        exact⟨rfl,PX _ _ _⟩
       ·have t1:32<=C:=by omega
        by_cases h2:c=127
        ·have t2:(C==127)=true:=by simp;omega
         rw[if_pos (Or.inr h2)]at hc
         subst hc
         clear h1 h2 hC hR
         go_wp2
         all_goals try (exfalso;omega)
         go_ret
         exact⟨rfl,PX _ _ _⟩
        ·have t2:(C==127)=false:=by simp;omega
         rw[if_neg (by omega)]at hc
         by_cases h3:c=65533
         ·have t3:(C==65533)=true:=by simp;omega
          cases B with
          | false =>
            rw[if_pos ⟨h3,by rw[<- Lib.extract_to_end];exact h4⟩]at hc
            subst hc
            clear h1 h2 h3 h4 hC hR
            go_wp2_with (go_at_call 465;refine(hpx _).mono ?_;rintro e w' ⟨rfl,rfl⟩)
            all_goals try (exfalso;omega)
            go_ret
            exact⟨rfl,PX _ _ _⟩
          | true =>
            rw[if_neg (fun h=>by have h5:=h.2;rw[<- Lib.extract_to_end]at h5;exact absurd (h4.symm.trans h5) (by decide))]at hc
            clear h1 h2 h3 hC
            go_wp2_with (go_at_call 465;refine(hpx _).mono ?_;rintro e w' ⟨rfl,rfl⟩)
            all_goals try (exfalso;omega)
            go_roundw
            case rel=>exact⟨pos+k,b,rfl,hc,by omega⟩
            case measure =>
              simp
              omega
         ·have t3:(C==65533)=false:=by simp;omega
          rw[if_neg (fun h=>h3 h.1)]at hc
          clear h1 h2 h3 hC
          go_wp2
          all_goals try (exfalso;omega)
          go_roundw
          case rel=>exact⟨pos+k,b,rfl,hc,by omega⟩
          case measure =>
            simp
            omega
    ·have hnx: ∀ ty,(Instr.next (.pointer (some ⟨w.heap.size,0,none⟩)) true ty).run Tryz.prog (w.iter s pos)=_:=fun ty=>run_next_end w s pos ty hp
     go_wp2
     go_ret
     rw[AbY s b pos hp]at hc
     rw[<- hc]
     exact⟨rfl,PX _ _ _⟩
end Go.Proofs.YtbnphelpndnnfaaGreatDoor
namespace Go.Proofs.YtbnphelpndnnfaaGreatDoor.Vm
open Go.Proofs Go.RowKit
noncomputable def dO (N:Nat):Sig:=.of [.cell false .str] [.cell false .bool] (fun a=>pO N a)
theorem lT (N:Nat):Spec Tryz.prog 414 (dO N) :=
  J9 rfl rfl (enters (fn:=Tryz.f414) (by kernel_rfl) (by kernel_rfl) (by decide)) fun O w (a:Bs) (o:Bool) hI h=>by
   have h:(bif decide (List.length a<4294967281)then some (AcZ a)else none)=some o:=h
   cases hc:decide (List.length a<4294967281)with
   | false=>rw[hc]at h;cases h
   | true =>
   rw[hc]at h
   injection h with h
   exact(Aba ⟨List.toArray a⟩ w o h (of_decide_eq_true hc)).mono fun e w' hq=>hq
end Go.Proofs.YtbnphelpndnnfaaGreatDoor.Vm
