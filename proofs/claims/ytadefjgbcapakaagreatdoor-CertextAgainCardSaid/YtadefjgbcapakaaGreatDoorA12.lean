import Derived.Test.YtadefjgbcapakaaGreatDoorA11
import Derived.Lib.Join
import Derived.Below
import Derived.Shelf.Strings.Builder1
import Derived.Shelf.Strings.Builder2
import Derived.Shelf.Strings.OnBuilder
import Derived.Shelf.Small.Bits
import Derived.Shelf.Small.Strs
import Derived.Shelf.Small.Wraps
import Derived.Shelf.Strings.BuilderF
import Derived.Shelf.Strings.BuilderK
import Derived.Shelf.Utf8.RuneCount
import Derived.Shelf.Strings.Builder2Cap
import Derived.Shelf.Strconv.Itoa0
import Derived.Shelf.Strconv.Itoa1
import Derived.Shelf.LaysM
import Derived.Shelf.Strconv.Itoa2
import Derived.Shelf.Strconv.Itoa3
import Derived.Shelf.Strings.Search1
import Derived.Shelf.Strings.Search2
import Derived.Shelf.Strings.Search3
import Derived.Shelf.Strings.Cut
import Derived.Shelf.Strings.Count
import Derived.Shelf.Strings.Shaped
import Derived.Shelf.Sort.Plain
import Derived.Shelf.Strings.Prefix
import Derived.Shelf.Strings.Split
import Derived.Shelf.Strings.SplitShaped
import Derived.Shelf.Unicode.Decode
import Derived.Shelf.Strings.RuneCount
import Derived.Shelf.Strings.Explode
import Derived.Shelf.Unicode.DecodeSlow
import Derived.Shelf.Unicode.DecodeAny
import Derived.Shelf.Slices.In.SortNone
import Derived.Shelf.Slices.In.SortNone2
import Derived.Test.YtadefjgbcapakaaGreatDoorProg
import Derived.Sort.Grow
import Derived.Lib.Split
import Derived.Lib.ItoaNum
import Derived.Lib.Strings
import Derived.Sort.OwnSorted
import Derived.ArgAppend
import Derived.Outline
import Derived.BigQuiet
import Derived.Deep.RegionWith
set_option linter.all false
namespace Go.Proofs.YtadefjgbcapakaaGreatDoor.Vm
def GL {α ρ :Type} (A:(α ->Option ρ)->Option ρ) (f: α ->Option ρ):Option ρ :=A f
def Au {ρ :Type} (b:Bool) (k:Bool->Option ρ):Option ρ :=k b
theorem zQ {ρ :Type} (b:Bool) (k:Bool->Option ρ):Au b k=k b:=rfl
def Aok {α β :Type}:Option (α ⊕ β)->Bool
  | some (.inr _)=>false
  | _=>true
def Aoc {α β :Type}:Option (α ⊕ β)->Option α
  | some (.inl x)=>some x
  | _=>none
def Aod {α β :Type}:Option (α ⊕ β)->Option β
  | some (.inr x)=>some x
  | _=>none
def Hw {α β ρ :Type} [Inhabited α] [Inhabited β] (o:Option (α ⊕ β)) (k: α ->Option ρ) (l: β ->Option ρ):Option ρ :=bif Aok o then Ac (Aoc o) k else Ac (Aod o) l
theorem Q3 {α β ρ :Type} [Inhabited α] [Inhabited β] (x: α) (k: α ->Option ρ) (l: β ->Option ρ):Hw (some (.inl x)) k l=k x:=rfl
theorem Ij {α β ρ :Type} [Inhabited α] [Inhabited β] (x: β) (k: α ->Option ρ) (l: β ->Option ρ):Hw (some (.inr x)) k l=l x:=rfl
def strings_Join (_:Nat) (l:List Bs) (sep:Bs):Option Bs:=bif decide (l.length<=140737488355328)&&decide ((sep.intercalate l).length<=140737488355328)then some (sep.intercalate l)else none
def U2 {a0 a1 r:Type} (f:a0->a1->r) (x:a0×a1):r:=f x.1 x.2
def U3 {a0 a1 a2 r:Type} (f:a0->a1->a2->r) (x:a0×a1×a2):r:=f x.1 x.2.1 x.2.2
def U4 {a0 a1 a2 a3 r:Type} (f:a0->a1->a2->a3->r) (x:a0×a1×a2×a3):r:=f x.1 x.2.1 x.2.2.1 x.2.2.2
def U5 {a0 a1 a2 a3 a4 r:Type} (f:a0->a1->a2->a3->a4->r) (x:a0×a1×a2×a3×a4):r:=f x.1 x.2.1 x.2.2.1 x.2.2.2.1 x.2.2.2.2
def U6 {a0 a1 a2 a3 a4 a5 r:Type} (f:a0->a1->a2->a3->a4->a5->r) (x:a0×a1×a2×a3×a4×a5):r:=f x.1 x.2.1 x.2.2.1 x.2.2.2.1 x.2.2.2.2.1 x.2.2.2.2.2
def U7 {a0 a1 a2 a3 a4 a5 a6 r:Type} (f:a0->a1->a2->a3->a4->a5->a6->r) (x:a0×a1×a2×a3×a4×a5×a6):r:=f x.1 x.2.1 x.2.2.1 x.2.2.2.1 x.2.2.2.2.1 x.2.2.2.2.2.1 x.2.2.2.2.2.2
def U8 {a0 a1 a2 a3 a4 a5 a6 a7 r:Type} (f:a0->a1->a2->a3->a4->a5->a6->a7->r) (x:a0×a1×a2×a3×a4×a5×a6×a7):r:=f x.1 x.2.1 x.2.2.1 x.2.2.2.1 x.2.2.2.2.1 x.2.2.2.2.2.1 x.2.2.2.2.2.2.1 x.2.2.2.2.2.2.2
def U9 {a0 a1 a2 a3 a4 a5 a6 a7 a8 r:Type} (f:a0->a1->a2->a3->a4->a5->a6->a7->a8->r) (x:a0×a1×a2×a3×a4×a5×a6×a7×a8):r:=f x.1 x.2.1 x.2.2.1 x.2.2.2.1 x.2.2.2.2.1 x.2.2.2.2.2.1 x.2.2.2.2.2.2.1 x.2.2.2.2.2.2.2.1 x.2.2.2.2.2.2.2.2
def U10 {a0 a1 a2 a3 a4 a5 a6 a7 a8 a9 r:Type} (f:a0->a1->a2->a3->a4->a5->a6->a7->a8->a9->r) (x:a0×a1×a2×a3×a4×a5×a6×a7×a8×a9):r:=f x.1 x.2.1 x.2.2.1 x.2.2.2.1 x.2.2.2.2.1 x.2.2.2.2.2.1 x.2.2.2.2.2.2.1 x.2.2.2.2.2.2.2.1 x.2.2.2.2.2.2.2.2.1 x.2.2.2.2.2.2.2.2.2
def U19 {a0 a1 a2 a3 a4 a5 a6 a7 a8 a9 a10 a11 a12 a13 a14 a15 a16 a17 a18 r:Type} (f:a0->a1->a2->a3->a4->a5->a6->a7->a8->a9->a10->a11->a12->a13->a14->a15->a16->a17->a18->r) (x:a0×a1×a2×a3×a4×a5×a6×a7×a8×a9×a10×a11×a12×a13×a14×a15×a16×a17×a18):r:=f x.1 x.2.1 x.2.2.1 x.2.2.2.1 x.2.2.2.2.1 x.2.2.2.2.2.1 x.2.2.2.2.2.2.1 x.2.2.2.2.2.2.2.1 x.2.2.2.2.2.2.2.2.1 x.2.2.2.2.2.2.2.2.2.1 x.2.2.2.2.2.2.2.2.2.2.1 x.2.2.2.2.2.2.2.2.2.2.2.1 x.2.2.2.2.2.2.2.2.2.2.2.2.1 x.2.2.2.2.2.2.2.2.2.2.2.2.2.1 x.2.2.2.2.2.2.2.2.2.2.2.2.2.2.1 x.2.2.2.2.2.2.2.2.2.2.2.2.2.2.2.1 x.2.2.2.2.2.2.2.2.2.2.2.2.2.2.2.2.1 x.2.2.2.2.2.2.2.2.2.2.2.2.2.2.2.2.2.1 x.2.2.2.2.2.2.2.2.2.2.2.2.2.2.2.2.2.2
def U20 {a0 a1 a2 a3 a4 a5 a6 a7 a8 a9 a10 a11 a12 a13 a14 a15 a16 a17 a18 a19 r:Type} (f:a0->a1->a2->a3->a4->a5->a6->a7->a8->a9->a10->a11->a12->a13->a14->a15->a16->a17->a18->a19->r) (x:a0×a1×a2×a3×a4×a5×a6×a7×a8×a9×a10×a11×a12×a13×a14×a15×a16×a17×a18×a19):r:=f x.1 x.2.1 x.2.2.1 x.2.2.2.1 x.2.2.2.2.1 x.2.2.2.2.2.1 x.2.2.2.2.2.2.1 x.2.2.2.2.2.2.2.1 x.2.2.2.2.2.2.2.2.1 x.2.2.2.2.2.2.2.2.2.1 x.2.2.2.2.2.2.2.2.2.2.1 x.2.2.2.2.2.2.2.2.2.2.2.1 x.2.2.2.2.2.2.2.2.2.2.2.2.1 x.2.2.2.2.2.2.2.2.2.2.2.2.2.1 x.2.2.2.2.2.2.2.2.2.2.2.2.2.2.1 x.2.2.2.2.2.2.2.2.2.2.2.2.2.2.2.1 x.2.2.2.2.2.2.2.2.2.2.2.2.2.2.2.2.1 x.2.2.2.2.2.2.2.2.2.2.2.2.2.2.2.2.2.1 x.2.2.2.2.2.2.2.2.2.2.2.2.2.2.2.2.2.2.1 x.2.2.2.2.2.2.2.2.2.2.2.2.2.2.2.2.2.2.2
def U21 {a0 a1 a2 a3 a4 a5 a6 a7 a8 a9 a10 a11 a12 a13 a14 a15 a16 a17 a18 a19 a20 r:Type} (f:a0->a1->a2->a3->a4->a5->a6->a7->a8->a9->a10->a11->a12->a13->a14->a15->a16->a17->a18->a19->a20->r) (x:a0×a1×a2×a3×a4×a5×a6×a7×a8×a9×a10×a11×a12×a13×a14×a15×a16×a17×a18×a19×a20):r:=f x.1 x.2.1 x.2.2.1 x.2.2.2.1 x.2.2.2.2.1 x.2.2.2.2.2.1 x.2.2.2.2.2.2.1 x.2.2.2.2.2.2.2.1 x.2.2.2.2.2.2.2.2.1 x.2.2.2.2.2.2.2.2.2.1 x.2.2.2.2.2.2.2.2.2.2.1 x.2.2.2.2.2.2.2.2.2.2.2.1 x.2.2.2.2.2.2.2.2.2.2.2.2.1 x.2.2.2.2.2.2.2.2.2.2.2.2.2.1 x.2.2.2.2.2.2.2.2.2.2.2.2.2.2.1 x.2.2.2.2.2.2.2.2.2.2.2.2.2.2.2.1 x.2.2.2.2.2.2.2.2.2.2.2.2.2.2.2.2.1 x.2.2.2.2.2.2.2.2.2.2.2.2.2.2.2.2.2.1 x.2.2.2.2.2.2.2.2.2.2.2.2.2.2.2.2.2.2.1 x.2.2.2.2.2.2.2.2.2.2.2.2.2.2.2.2.2.2.2.1 x.2.2.2.2.2.2.2.2.2.2.2.2.2.2.2.2.2.2.2.2
def U22 {a0 a1 a2 a3 a4 a5 a6 a7 a8 a9 a10 a11 a12 a13 a14 a15 a16 a17 a18 a19 a20 a21 r:Type} (f:a0->a1->a2->a3->a4->a5->a6->a7->a8->a9->a10->a11->a12->a13->a14->a15->a16->a17->a18->a19->a20->a21->r) (x:a0×a1×a2×a3×a4×a5×a6×a7×a8×a9×a10×a11×a12×a13×a14×a15×a16×a17×a18×a19×a20×a21):r:=f x.1 x.2.1 x.2.2.1 x.2.2.2.1 x.2.2.2.2.1 x.2.2.2.2.2.1 x.2.2.2.2.2.2.1 x.2.2.2.2.2.2.2.1 x.2.2.2.2.2.2.2.2.1 x.2.2.2.2.2.2.2.2.2.1 x.2.2.2.2.2.2.2.2.2.2.1 x.2.2.2.2.2.2.2.2.2.2.2.1 x.2.2.2.2.2.2.2.2.2.2.2.2.1 x.2.2.2.2.2.2.2.2.2.2.2.2.2.1 x.2.2.2.2.2.2.2.2.2.2.2.2.2.2.1 x.2.2.2.2.2.2.2.2.2.2.2.2.2.2.2.1 x.2.2.2.2.2.2.2.2.2.2.2.2.2.2.2.2.1 x.2.2.2.2.2.2.2.2.2.2.2.2.2.2.2.2.2.1 x.2.2.2.2.2.2.2.2.2.2.2.2.2.2.2.2.2.2.1 x.2.2.2.2.2.2.2.2.2.2.2.2.2.2.2.2.2.2.2.1 x.2.2.2.2.2.2.2.2.2.2.2.2.2.2.2.2.2.2.2.2.1 x.2.2.2.2.2.2.2.2.2.2.2.2.2.2.2.2.2.2.2.2.2
def U23 {a0 a1 a2 a3 a4 a5 a6 a7 a8 a9 a10 a11 a12 a13 a14 a15 a16 a17 a18 a19 a20 a21 a22 r:Type} (f:a0->a1->a2->a3->a4->a5->a6->a7->a8->a9->a10->a11->a12->a13->a14->a15->a16->a17->a18->a19->a20->a21->a22->r) (x:a0×a1×a2×a3×a4×a5×a6×a7×a8×a9×a10×a11×a12×a13×a14×a15×a16×a17×a18×a19×a20×a21×a22):r:=f x.1 x.2.1 x.2.2.1 x.2.2.2.1 x.2.2.2.2.1 x.2.2.2.2.2.1 x.2.2.2.2.2.2.1 x.2.2.2.2.2.2.2.1 x.2.2.2.2.2.2.2.2.1 x.2.2.2.2.2.2.2.2.2.1 x.2.2.2.2.2.2.2.2.2.2.1 x.2.2.2.2.2.2.2.2.2.2.2.1 x.2.2.2.2.2.2.2.2.2.2.2.2.1 x.2.2.2.2.2.2.2.2.2.2.2.2.2.1 x.2.2.2.2.2.2.2.2.2.2.2.2.2.2.1 x.2.2.2.2.2.2.2.2.2.2.2.2.2.2.2.1 x.2.2.2.2.2.2.2.2.2.2.2.2.2.2.2.2.1 x.2.2.2.2.2.2.2.2.2.2.2.2.2.2.2.2.2.1 x.2.2.2.2.2.2.2.2.2.2.2.2.2.2.2.2.2.2.1 x.2.2.2.2.2.2.2.2.2.2.2.2.2.2.2.2.2.2.2.1 x.2.2.2.2.2.2.2.2.2.2.2.2.2.2.2.2.2.2.2.2.1 x.2.2.2.2.2.2.2.2.2.2.2.2.2.2.2.2.2.2.2.2.2.1 x.2.2.2.2.2.2.2.2.2.2.2.2.2.2.2.2.2.2.2.2.2.2
open Go.RowKit
theorem Below.moves {O:Own} {T:Nat->Prop} {w w':World} (h:Below w.heap.size w w'):Moves O T w w':=⟨h.os,h.tape,h.output,h.size,fun b hb=>.inl (h.block b hb)⟩
noncomputable def Iy (e N:Nat):Sig:=.of [.cell false (.sl e (.str .nil)),.cell false .str] [.cell false .str] (fun a=>strings_Join N a.1 a.2)
theorem Yl {O:Own} {w:World} {v:Value} {s:List UInt8} (h:Ai O w v (.str s)):v= .string ⟨s.toArray⟩:=by
  cases h with
  | str s=>exact congrArg Value.string (by rw[Array.toArray_toList])
theorem RH {O:Own} {w w':World} {vs:Array Value} {e N:Nat} {s:List UInt8} (hb:Below w.heap.size w w'):Came O w vs (Iy e N) [.str s] (.string ⟨s.toArray⟩) O w':=by
  refine⟨Below.moves hb,fun b k _ h=>h,fun b k _ h=>h,rfl,⟨#[.string ⟨s.toArray⟩],rfl,rfl,fun k hk=> ?_⟩,fun j i hj=> ?_⟩
  ·have hk0:k=0:=by simp at hk;omega
   subst hk0
   show Ai O w' (.string ⟨s.toArray⟩) (.str s)
   exact Ai.str (O:=O) (w:=w') ⟨s.toArray⟩
  ·exact absurd hj (by show(CS [.cell false (.sl e (.str .nil)),.cell false .str] 0)[j]? ≠some i;simp [CS,BH])
def Ac1 (P:Program) (f:FuncId):Prop :=
    (∀(a:Option Addr) (c:Nat) (sep:ByteArray) (w:World),Calls P f #[.slice a 0 c,.string sep] w fun e w'=>e= .returned (.string ⟨#[]⟩)/\w'=w) /\
    (∀(bk o c:Nat) (xs:List ByteArray) (sep:ByteArray) (w:World),(∀(j:Nat) x,xs[j]? =some x->w.cell? ⟨bk,o+j,none⟩=some (.string x))->bk<w.heap.size->xs.length<=140737488355328->xs.length<=c->(Lib.join (xs.map (·.data.toList)) sep.data.toList).length<=140737488355328 ->
      Calls P f #[.slice (some ⟨bk,o,none⟩) xs.length c,.string sep] w fun e w'=>e= .returned (.string ⟨(Lib.join (xs.map (·.data.toList)) sep.data.toList).toArray⟩)/\Below w.heap.size w w')
theorem qM {P:Program} {f:FuncId} {e N:Nat} (H:Ac1 P f) {O:Own} {w:World} {vs:Array Value} (l:List Bs) (sep o:Bs) (hl2:vs.size=2) (hx0:Ai O w (vs.getD 0 undef) (.sl ⟨.str .nil,l⟩)) (hx1:Ai O w (vs.getD 1 undef) (.str sep)) (h2':strings_Join N l sep=some o) :
    Calls P f vs w fun e' w'=> ∃ v O',e'= .returned v/\Came O w vs (Iy e N) [.str o] v O' w':=by
  obtain⟨hn,hj⟩:=H
  have hvs:vs= #[vs.getD 0 undef,vs.getD 1 undef]:=by
    apply Array.ext
    ·simpa using hl2
    ·intro i h1 h2
     have:i=0\/i=1:=by simp at h2;omega
     rcases this with rfl | rfl
     ·simp [Array.getD_eq_getD_getElem?,h1]
     ·simp [Array.getD_eq_getD_getElem?,h1]
  rw[Yl hx1]at hvs
  unfold strings_Join at h2'
  cases hc:(decide (l.length<=140737488355328)&&decide ((sep.intercalate l).length<=140737488355328))with
  | false=>rw[hc]at h2';cases h2'
  | true =>
    rw[hc]at h2'
    injection h2' with h2'
    rw[Bool.and_eq_true,decide_eq_true_eq,decide_eq_true_eq]at hc
    subst h2'
    have hes0:(⟨.str .nil,l⟩:Sl).es=l.map (fun s:Bs=>[A.str s]):=rfl
    generalize hv0:vs.getD 0 undef=v0 at *
    have hnil:l=[]-> ∀ a c,v0= .slice a 0 c->Calls P f vs w fun e' w'=> ∃ v O',e'= .returned v/\Came O w vs (Iy e N) [.str (sep.intercalate l)] v O' w':=by
      intro hl0 a c hv0'
      have:=hn a c ⟨sep.toArray⟩ w
      rw[<- hv0',<- hvs]at this
      refine this.mono fun e' w' hq=> ?_
      obtain⟨h4,h5⟩:=hq
      subst h5
      refine⟨_,O,h4,?_⟩
      have:sep.intercalate l=[]:=by rw[hl0];rfl
      rw[this]
      exact RH (Below.refl _ _)
    have hsz:(⟨.str .nil,l⟩:Sl).sz=1:=rfl
    generalize hL:(⟨.str .nil,l⟩:Sl)=L at hx0 hes0 hsz
    have hlen:L.es.length=l.length:=by rw[hes0,List.length_map]
    have hes: ∀ j:Nat,L.es[j]? =(l[j]?).map (fun s=>[A.str s]):=fun j=>by rw[hes0,List.getElem?_map]
    cases hx0 with
    | nil t =>
      have:l=[]:=by injection hL with h1 h2;subst h1;exact eq_of_heq h2
      exact hnil this _ _ rfl
    | sl0 ad t =>
      have:l=[]:=by injection hL with h1 h2;subst h1;exact eq_of_heq h2
      exact hnil this _ _ rfl
    | @sl b off cap l' vs' hcap hm hr =>
      cases hl0:l with
      | nil=>rw[<- hl0];exact hnil hl0 _ cap (by rw[hlen,hl0];rfl)
      | cons s0 r =>
        have hb:b<w.heap.size:=by
          have:=(hm 0 0 (by rw[hlen,hl0];simp) (by omega)).2
          exact cell_lt this
        rw[<- hl0]
        have hmap:(l.map (fun s=>(⟨s.toArray⟩:ByteArray))).map (·.data.toList)=l:=by
          rw[List.map_map]
          conv=>rhs;rw[<- List.map_id l]
          refine List.map_congr_left fun s _=> ?_
          simp
        have hJ:=hj b off cap (l.map (fun s=>(⟨s.toArray⟩:ByteArray))) ⟨sep.toArray⟩ w (fun j x hjx=>by
          rw[List.getElem?_map]at hjx
          cases hlj:l[j]? with
          | none=>rw[hlj]at hjx;cases hjx
          | some s =>
            rw[hlj]at hjx
            injection hjx with hjx
            have hjl:j<L.es.length:=by
              rw[hlen]
              rcases Nat.lt_or_ge j l.length with h | h
              ·exact h
              ·rw[List.getElem?_eq_none h]at hlj;cases hlj
            have hm1:=(hm j 0 hjl (by omega)).2
            have hr1:=hr j 0 hjl (by omega)
            rw[List.getD_eq_getElem?_getD (l:=L.es),hes,hlj]at hr1
            have:=Yl (show Ai O w (vs' j 0) (.str s)from hr1)
            rw[this]at hm1;rw[<- hjx]
            have e1:off+(j*L.sz+0)=off+j:=by rw[hsz];omega
            rw[e1]at hm1
            exact hm1) hb (by rw[List.length_map];exact hc.1) (by rw[List.length_map,<- hlen];exact hcap) (by rw[hmap];show(List.intercalate _ l).length<=_;simpa using hc.2)
        rw[List.length_map,hmap,<- hlen,<- hvs]at hJ
        refine hJ.mono fun e' w' hq=> ?_
        have e2:Lib.join l (⟨sep.toArray⟩:ByteArray).data.toList=sep.intercalate l:=by show List.intercalate _ l=_;simp
        rw[e2]at hq
        exact⟨_,O,hq.1,RH hq.2⟩
theorem wQ {P:Program} {f:FuncId} {e N:Nat} (hent: ∀ args w,(callFunc f args).run P w= .ok (.enter f args) w) (H:Ac1 P f):Spec P f (Iy e N):=by
  refine⟨hent,fun O w vs xs rs _ hv hl _ hx hrs=> ?_⟩
  obtain⟨a,o,h1,h2,h3⟩:=Sig.XQ hrs
  subst h1
  have h3':rs=[.str o]:=h3
  rw[h3']
  exact qM H a.1 a.2 o hv (hx 0 (by show 0<2;omega)) (hx 1 (by show 1<2;omega)) h2
end Go.Proofs.YtadefjgbcapakaaGreatDoor.Vm
namespace Go.Proofs
open Go.Shelf
def Tryz.lays156_ren:Go.Shelf.Ren:=⟨fun | 156=>215 | 165=>255 | 166=>256 | 169=>257 | 240=>280 | 241=>281 | 276=>302 | 277=>303 | n=>n,fun | 31=>22 | 9=>9 | 3=>3 | 4=>4 | 0=>0 | 20=>20 | 72=>236 | 76=>240 | 70=>234 | 37=>66 | 75=>239 | 127=>255 | 164=>265 | 5=>5 | 80=>242 | n=>n,fun | n=>n⟩
theorem Tryz.lays156:Go.Proofs.Lays.n156 Tryz.prog Tryz.lays156_ren:= {
  mixed:=by kernel_rfl
  f156:=Tryz.func215.trans (congrArg some (by kernel_rfl))
  f165:=Tryz.func255.trans (congrArg some (by kernel_rfl))
  f166:=Tryz.func256.trans (congrArg some (by kernel_rfl))
  f169:=Tryz.func257.trans (congrArg some (by kernel_rfl))
  f240:=Tryz.func280.trans (congrArg some (by kernel_rfl))
  f241:=Tryz.func281.trans (congrArg some (by kernel_rfl))
  f276:=Tryz.func302.trans (congrArg some (by kernel_rfl))
  f277:=Tryz.func303.trans (congrArg some (by kernel_rfl))
  t0:=Tryz.underlying0
  a0:=Tryz.isAgg0
  z0:=Tryz.sizeOf0
  v0:=Tryz.zeroValue0
  t3:=Tryz.underlying3
  a3:=Tryz.isAgg3
  z3:=Tryz.sizeOf3
  v3:=Tryz.zeroValue3
  t4:=Tryz.underlying4
  a4:=Tryz.isAgg4
  z4:=Tryz.sizeOf4
  v4:=Tryz.zeroValue4
  t9:=Tryz.underlying9
  a9:=Tryz.isAgg9
  z9:=Tryz.sizeOf9
  v9:=Tryz.zeroValue9
  t20:=Tryz.underlying20
  a20:=Tryz.isAgg20
  z20:=Tryz.sizeOf20
  v20:=Tryz.zeroValue20
  t31:=Tryz.underlying22
  a31:=Tryz.isAgg22
  z31:=Tryz.sizeOf22
  v31:=Tryz.zeroValue22
  t37:=Tryz.underlying66
  a37:=Tryz.isAgg66
  z37:=Tryz.sizeOf66
  v37:=Tryz.zeroValue66
  t70:=Tryz.underlying234
  a70:=Tryz.isAgg234
  z70:=Tryz.sizeOf234
  v70:=Tryz.zeroValue234
  t72:=Tryz.underlying236
  a72:=Tryz.isAgg236
  z72:=Tryz.sizeOf236
  v72:=Tryz.zeroValue236
  t75:=Tryz.underlying239
  a75:=Tryz.isAgg239
  z75:=Tryz.sizeOf239
  v75:=Tryz.zeroValue239
  t76:=Tryz.underlying240
  a76:=Tryz.isAgg240
  z76:=Tryz.sizeOf240
  v76:=Tryz.zeroValue240
  t127:=Tryz.underlying255
  a127:=Tryz.isAgg255
  z127:=Tryz.sizeOf255
  v127:=Tryz.zeroValue255
  t164:=Tryz.underlying265
  a164:=Tryz.isAgg265
  z164:=Tryz.sizeOf265
  v164:=Tryz.zeroValue265}
theorem Tryz.Builder_Extra_156:Builder.Extra Tryz.prog Tryz.lays156_ren:= {
  sizeBuilder:=by kernel_rfl
  liesBuilder:=by kernel_rfl
  t5:=Tryz.underlying5
  a5:=Tryz.isAgg5
  z5:=Tryz.sizeOf5
  v5:=Tryz.zeroValue5
  infoByte:=by kernel_rfl
  cellsByte:=by kernel_rfl
  sizeByte:=by kernel_rfl
  neB5:=by decide}
open Go.RowKit in
theorem Tryz.strings_Join_none (a:Option Addr) (c:Nat) (sep:ByteArray) (w:World) :
    Calls Tryz.prog 215 #[.slice a 0 c,.string sep] w fun e w'=>e= .returned (.string ⟨#[]⟩)/\w'=w:=Any.strings_Join_none Tryz.lays156 Tryz.Builder_Extra_156 a c sep w
open Go.RowKit in
theorem Tryz.strings_Join (bk o c:Nat) (xs:List ByteArray) (sep:ByteArray) (w:World) (hcells: ∀(j:Nat) x,xs[j]? =some x->w.cell? ⟨bk,o+j,none⟩=some (.string x)) (hbk:bk<w.heap.size) (hN:xs.length<=140737488355328) (hcap:xs.length<=c) (hlen:(Lib.join (xs.map (·.data.toList)) sep.data.toList).length<=140737488355328) :
    Calls Tryz.prog 215 #[.slice (some ⟨bk,o,none⟩) xs.length c,.string sep] w fun e w'=>e= .returned (.string ⟨(Lib.join (xs.map (·.data.toList)) sep.data.toList).toArray⟩)/\Below w.heap.size w w':=Any.strings_Join Tryz.lays156 Tryz.Builder_Extra_156 bk o c xs sep w hcells hbk hN hcap hlen
def Tryz.lays137_ren:Go.Shelf.Ren:=⟨fun | 137=>287 | 217=>307 | 266=>327 | n=>n,fun | 9=>9 | 5=>5 | 3=>3 | n=>n,fun | n=>n⟩
theorem Tryz.lays137:Go.Proofs.Lays.n137 Tryz.prog Tryz.lays137_ren:= {
  mixed:=by kernel_rfl
  f137:=Tryz.func287.trans (congrArg some (by kernel_rfl))
  f217:=Tryz.func307.trans (congrArg some (by kernel_rfl))
  f266:=Tryz.func327.trans (congrArg some (by kernel_rfl))
  t3:=Tryz.underlying3
  a3:=Tryz.isAgg3
  z3:=Tryz.sizeOf3
  v3:=Tryz.zeroValue3
  t5:=Tryz.underlying5
  a5:=Tryz.isAgg5
  z5:=Tryz.sizeOf5
  v5:=Tryz.zeroValue5
  t9:=Tryz.underlying9
  a9:=Tryz.isAgg9
  z9:=Tryz.sizeOf9
  v9:=Tryz.zeroValue9}
open Go.RowKit in
theorem Tryz.strings_IndexByte (s:ByteArray) (c:Int) (w:World) :
    Calls Tryz.prog 287 #[.string s,.int .u8 c] w fun e w'=>e= .returned (.int .i64 (Lib.indexByte s.data.toList c.toNat.toUInt8))/\w'=w:=Any.strings_IndexByte Tryz.lays137 s c w
def Tryz.lays103_ren:Go.Shelf.Ren:=⟨fun | 103=>275 | 210=>301 | 206=>315 | n=>n,fun | 9=>9 | 4=>4 | 24=>250 | 3=>3 | n=>n,fun | n=>n⟩
theorem Tryz.lays103:Go.Proofs.Lays.n103 Tryz.prog Tryz.lays103_ren:= {
  mixed:=by kernel_rfl
  f103:=Tryz.func275.trans (congrArg some (by kernel_rfl))
  f206:=Tryz.func315.trans (congrArg some (by kernel_rfl))
  f210:=Tryz.func301.trans (congrArg some (by kernel_rfl))
  t3:=Tryz.underlying3
  a3:=Tryz.isAgg3
  z3:=Tryz.sizeOf3
  v3:=Tryz.zeroValue3
  t4:=Tryz.underlying4
  a4:=Tryz.isAgg4
  z4:=Tryz.sizeOf4
  v4:=Tryz.zeroValue4
  t9:=Tryz.underlying9
  a9:=Tryz.isAgg9
  z9:=Tryz.sizeOf9
  v9:=Tryz.zeroValue9
  t24:=Tryz.underlying250
  a24:=Tryz.isAgg250
  z24:=Tryz.sizeOf250
  v24:=Tryz.zeroValue250}
open Go.RowKit in
theorem Tryz.strings_CutPrefix (s p:ByteArray) (w:World) :
    Calls Tryz.prog 275 #[.string s,.string p] w fun e w'=>e= .returned (.tuple #[.string ⟨(Lib.trimPrefix s.data.toList p.data.toList).toArray⟩,.bool (Lib.hasPrefix s.data.toList p.data.toList)])/\w'=w:=Any.strings_CutPrefix Tryz.lays103 s p w
def Tryz.laysM171_ren:Go.Shelf.Ren:=⟨fun | 171=>269 | 243=>292 | 246=>310 | 283=>328 | 284=>329 | 285=>330 | 286=>331 | 129=>326 | 317=>342 | 318=>343 | 319=>344 | 320=>345 | 337=>348 | 338=>349 | n=>n,fun | 3=>3 | 9=>9 | 2=>2 | 4=>4 | 171=>283 | 0=>0 | 53=>208 | 37=>66 | 5=>5 | 173=>285 | 212=>293 | 51=>281 | 20=>20 | 213=>294 | 46=>67 | 232=>304 | 233=>305 | n=>n,fun | 17=>1 | 18=>4 | 19=>5 | n=>n⟩
theorem Tryz.laysM171:Go.Proofs.LaysM.n171 Tryz.prog Tryz.laysM171_ren:= {
  mixed:=by kernel_rfl
  f129:=Tryz.func326.trans (congrArg some (by kernel_rfl))
  f171:=Tryz.func269.trans (congrArg some (by kernel_rfl))
  f243:=Tryz.func292.trans (congrArg some (by kernel_rfl))
  f246:=Tryz.func310.trans (congrArg some (by kernel_rfl))
  f283:=Tryz.func328.trans (congrArg some (by kernel_rfl))
  f284:=Tryz.func329.trans (congrArg some (by kernel_rfl))
  f285:=Tryz.func330.trans (congrArg some (by kernel_rfl))
  f286:=Tryz.func331.trans (congrArg some (by kernel_rfl))
  f317:=Tryz.func342.trans (congrArg some (by kernel_rfl))
  f318:=Tryz.func343.trans (congrArg some (by kernel_rfl))
  f319:=Tryz.func344.trans (congrArg some (by kernel_rfl))
  f320:=Tryz.func345.trans (congrArg some (by kernel_rfl))
  f337:=Tryz.func348.trans (congrArg some (by kernel_rfl))
  f338:=Tryz.func349.trans (congrArg some (by kernel_rfl))
  t0:=Tryz.underlying0
  a0:=Tryz.isAgg0
  z0:=Tryz.sizeOf0
  v0:=Tryz.zeroValue0
  t2:=Tryz.underlying2
  a2:=Tryz.isAgg2
  z2:=Tryz.sizeOf2
  v2:=Tryz.zeroValue2
  t3:=Tryz.underlying3
  a3:=Tryz.isAgg3
  z3:=Tryz.sizeOf3
  v3:=Tryz.zeroValue3
  t4:=Tryz.underlying4
  a4:=Tryz.isAgg4
  z4:=Tryz.sizeOf4
  v4:=Tryz.zeroValue4
  t5:=Tryz.underlying5
  a5:=Tryz.isAgg5
  z5:=Tryz.sizeOf5
  v5:=Tryz.zeroValue5
  t9:=Tryz.underlying9
  a9:=Tryz.isAgg9
  z9:=Tryz.sizeOf9
  v9:=Tryz.zeroValue9
  t20:=Tryz.underlying20
  a20:=Tryz.isAgg20
  z20:=Tryz.sizeOf20
  v20:=Tryz.zeroValue20
  t37:=Tryz.underlying66
  a37:=Tryz.isAgg66
  z37:=Tryz.sizeOf66
  v37:=Tryz.zeroValue66
  t46:=Tryz.underlying67
  a46:=Tryz.isAgg67
  z46:=Tryz.sizeOf67
  v46:=Tryz.zeroValue67
  t51:=Tryz.underlying281
  a51:=Tryz.isAgg281
  z51:=Tryz.sizeOf281
  v51:=Tryz.zeroValue281
  t53:=Tryz.underlying208
  a53:=Tryz.isAgg208
  z53:=Tryz.sizeOf208
  v53:=Tryz.zeroValue208
  t171:=Tryz.underlying283
  a171:=Tryz.isAgg283
  z171:=Tryz.sizeOf283
  v171:=Tryz.zeroValue283
  t173:=Tryz.underlying285
  a173:=Tryz.isAgg285
  z173:=Tryz.sizeOf285
  v173:=Tryz.zeroValue285
  t212:=Tryz.underlying293
  a212:=Tryz.isAgg293
  z212:=Tryz.sizeOf293
  v212:=Tryz.zeroValue293
  t213:=Tryz.underlying294
  a213:=Tryz.isAgg294
  z213:=Tryz.sizeOf294
  t232:=Tryz.underlying304
  a232:=Tryz.isAgg304
  z232:=Tryz.sizeOf304
  v232:=Tryz.zeroValue304
  t233:=Tryz.underlying305
  a233:=Tryz.isAgg305
  z233:=Tryz.sizeOf305
  v233:=Tryz.zeroValue305
  g17:=by kernel_rfl
  g18:=by kernel_rfl
  g19:=by kernel_rfl
  i0:=by kernel_rfl
  i2:=by kernel_rfl
  i3:=by kernel_rfl
  i4:=by kernel_rfl
  i5:=by kernel_rfl
  i9:=by kernel_rfl
  i20:=by kernel_rfl
  i37:=by kernel_rfl
  i46:=by kernel_rfl
  i51:=by kernel_rfl
  i53:=by kernel_rfl
  i171:=by kernel_rfl
  i173:=by kernel_rfl
  i212:=by kernel_rfl
  i232:=by kernel_rfl
  i233:=by kernel_rfl
  m17:=by kernel_rfl
  m18:=by kernel_rfl
  m19:=by kernel_rfl}
open Go.RowKit Go.Sort Go.Lib in
theorem Tryz.strconv_Itoa (n:Int) (h0: -9223372036854775808<=n) (h1:n<=9223372036854775807) (w:World) (htab:Lib.TabIs Tryz.prog w "internal/strconv.uint64pow10" .u64 Lib.pow10Tab) :
    Calls Tryz.prog 269 #[.int .i64 n] w fun e w'=>e= .returned (.string ⟨(Lib.itoa n).toArray⟩)/\ ∃ k os,w'=grow (w.drewN k) os:=Any.strconv_Itoa Tryz.laysM171 n h0 h1 w htab
def Tryz.lays144_ren:Go.Shelf.Ren:=⟨fun | 144=>276 | 143=>295 | 219=>314 | 217=>307 | 225=>333 | 224=>334 | 267=>335 | 266=>327 | 314=>346 | n=>n,fun | 9=>9 | 4=>4 | 3=>3 | 5=>5 | 46=>67 | 146=>299 | 51=>281 | n=>n,fun | 1=>0 | n=>n⟩
theorem Tryz.lays144:Go.Proofs.Lays.n144 Tryz.prog Tryz.lays144_ren:= {
  mixed:=by kernel_rfl
  f143:=Tryz.func295.trans (congrArg some (by kernel_rfl))
  f144:=Tryz.func276.trans (congrArg some (by kernel_rfl))
  f217:=Tryz.func307.trans (congrArg some (by kernel_rfl))
  f219:=Tryz.func314.trans (congrArg some (by kernel_rfl))
  f224:=Tryz.func334.trans (congrArg some (by kernel_rfl))
  f225:=Tryz.func333.trans (congrArg some (by kernel_rfl))
  f266:=Tryz.func327.trans (congrArg some (by kernel_rfl))
  f267:=Tryz.func335.trans (congrArg some (by kernel_rfl))
  f314:=Tryz.func346.trans (congrArg some (by kernel_rfl))
  t3:=Tryz.underlying3
  a3:=Tryz.isAgg3
  z3:=Tryz.sizeOf3
  v3:=Tryz.zeroValue3
  t4:=Tryz.underlying4
  a4:=Tryz.isAgg4
  z4:=Tryz.sizeOf4
  v4:=Tryz.zeroValue4
  t5:=Tryz.underlying5
  a5:=Tryz.isAgg5
  z5:=Tryz.sizeOf5
  v5:=Tryz.zeroValue5
  t9:=Tryz.underlying9
  a9:=Tryz.isAgg9
  z9:=Tryz.sizeOf9
  v9:=Tryz.zeroValue9
  t46:=Tryz.underlying67
  a46:=Tryz.isAgg67
  z46:=Tryz.sizeOf67
  v46:=Tryz.zeroValue67
  t51:=Tryz.underlying281
  a51:=Tryz.isAgg281
  z51:=Tryz.sizeOf281
  v51:=Tryz.zeroValue281
  t146:=Tryz.underlying299
  a146:=Tryz.isAgg299
  z146:=Tryz.sizeOf299
  v146:=Tryz.zeroValue299
  g1:=by kernel_rfl}
open Go.RowKit Go.Lib in
theorem Tryz.strings_Contains (s sub:ByteArray) (m:Int) (w:World) (hs:s.size<4294967281) (hm:w.cell? ⟨0,0,none⟩=some (.int .i64 m)) :
    Calls Tryz.prog 276 #[.string s,.string sub] w fun e w'=>e= .returned (.bool (Lib.contains s.data.toList sub.data.toList))/\w'=w:=Any.strings_Contains Tryz.lays144 s sub m w hs hm
def Tryz.lays145_ren:Go.Shelf.Ren:=⟨fun | 145=>273 | 220=>298 | 219=>314 | 217=>307 | 225=>333 | 224=>334 | 267=>335 | 266=>327 | 314=>346 | n=>n,fun | 9=>9 | 4=>4 | 59=>231 | 3=>3 | 5=>5 | 46=>67 | 146=>299 | 51=>281 | n=>n,fun | 1=>0 | n=>n⟩
theorem Tryz.lays145:Go.Proofs.Lays.n145 Tryz.prog Tryz.lays145_ren:= {
  mixed:=by kernel_rfl
  f145:=Tryz.func273.trans (congrArg some (by kernel_rfl))
  f217:=Tryz.func307.trans (congrArg some (by kernel_rfl))
  f219:=Tryz.func314.trans (congrArg some (by kernel_rfl))
  f220:=Tryz.func298.trans (congrArg some (by kernel_rfl))
  f224:=Tryz.func334.trans (congrArg some (by kernel_rfl))
  f225:=Tryz.func333.trans (congrArg some (by kernel_rfl))
  f266:=Tryz.func327.trans (congrArg some (by kernel_rfl))
  f267:=Tryz.func335.trans (congrArg some (by kernel_rfl))
  f314:=Tryz.func346.trans (congrArg some (by kernel_rfl))
  t3:=Tryz.underlying3
  a3:=Tryz.isAgg3
  z3:=Tryz.sizeOf3
  v3:=Tryz.zeroValue3
  t4:=Tryz.underlying4
  a4:=Tryz.isAgg4
  z4:=Tryz.sizeOf4
  v4:=Tryz.zeroValue4
  t5:=Tryz.underlying5
  a5:=Tryz.isAgg5
  z5:=Tryz.sizeOf5
  v5:=Tryz.zeroValue5
  t9:=Tryz.underlying9
  a9:=Tryz.isAgg9
  z9:=Tryz.sizeOf9
  v9:=Tryz.zeroValue9
  t46:=Tryz.underlying67
  a46:=Tryz.isAgg67
  z46:=Tryz.sizeOf67
  v46:=Tryz.zeroValue67
  t51:=Tryz.underlying281
  a51:=Tryz.isAgg281
  z51:=Tryz.sizeOf281
  v51:=Tryz.zeroValue281
  t59:=Tryz.underlying231
  a59:=Tryz.isAgg231
  z59:=Tryz.sizeOf231
  v59:=Tryz.zeroValue231
  t146:=Tryz.underlying299
  a146:=Tryz.isAgg299
  z146:=Tryz.sizeOf299
  v146:=Tryz.zeroValue299
  g1:=by kernel_rfl}
open Go.RowKit Go.Lib in
theorem Tryz.strings_Cut (s sep:ByteArray) (m:Int) (w:World) (hs:s.size<4294967281) (hm:w.cell? ⟨0,0,none⟩=some (.int .i64 m)) :
    Calls Tryz.prog 273 #[.string s,.string sep] w fun e w'=>e= .returned (.tuple #[.string ⟨(Lib.cut s.data.toList sep.data.toList).1.toArray⟩,.string ⟨(Lib.cut s.data.toList sep.data.toList).2.1.toArray⟩,.bool (Lib.cut s.data.toList sep.data.toList).2.2])/\ ∃ n,w'=w.drewN n:=Any.strings_Cut Tryz.lays145 s sep m w hs hm
def Tryz.lays192_ren:Go.Shelf.Ren:=⟨fun | 192=>258 | 190=>282 | 125=>305 | 258=>304 | 128=>325 | 129=>326 | 302=>316 | 303=>317 | 304=>318 | 305=>319 | 306=>320 | 307=>321 | 308=>322 | 309=>323 | 310=>324 | 333=>336 | 329=>337 | 330=>338 | 334=>339 | 335=>340 | 336=>341 | 344=>347 | n=>n,fun | 31=>22 | 0=>0 | 9=>9 | 3=>3 | 46=>67 | 51=>281 | 53=>208 | 4=>4 | 183=>275 | 182=>274 | 131=>278 | 5=>5 | 218=>287 | 222=>206 | 228=>301 | 229=>302 | n=>n,fun | n=>n⟩
theorem Tryz.lays192:Go.Proofs.Lays.n192 Tryz.prog Tryz.lays192_ren:= {
  mixed:=by kernel_rfl
  f125:=Tryz.func305.trans (congrArg some (by kernel_rfl))
  f128:=Tryz.func325.trans (congrArg some (by kernel_rfl))
  f129:=Tryz.func326.trans (congrArg some (by kernel_rfl))
  f190:=Tryz.func282.trans (congrArg some (by kernel_rfl))
  f192:=Tryz.func258.trans (congrArg some (by kernel_rfl))
  f258:=Tryz.func304.trans (congrArg some (by kernel_rfl))
  f302:=Tryz.func316.trans (congrArg some (by kernel_rfl))
  f303:=Tryz.func317.trans (congrArg some (by kernel_rfl))
  f304:=Tryz.func318.trans (congrArg some (by kernel_rfl))
  f305:=Tryz.func319.trans (congrArg some (by kernel_rfl))
  f306:=Tryz.func320.trans (congrArg some (by kernel_rfl))
  f307:=Tryz.func321.trans (congrArg some (by kernel_rfl))
  f308:=Tryz.func322.trans (congrArg some (by kernel_rfl))
  f309:=Tryz.func323.trans (congrArg some (by kernel_rfl))
  f310:=Tryz.func324.trans (congrArg some (by kernel_rfl))
  f329:=Tryz.func337.trans (congrArg some (by kernel_rfl))
  f330:=Tryz.func338.trans (congrArg some (by kernel_rfl))
  f333:=Tryz.func336.trans (congrArg some (by kernel_rfl))
  f334:=Tryz.func339.trans (congrArg some (by kernel_rfl))
  f335:=Tryz.func340.trans (congrArg some (by kernel_rfl))
  f336:=Tryz.func341.trans (congrArg some (by kernel_rfl))
  f344:=Tryz.func347.trans (congrArg some (by kernel_rfl))
  t0:=Tryz.underlying0
  a0:=Tryz.isAgg0
  z0:=Tryz.sizeOf0
  v0:=Tryz.zeroValue0
  t3:=Tryz.underlying3
  a3:=Tryz.isAgg3
  z3:=Tryz.sizeOf3
  v3:=Tryz.zeroValue3
  t4:=Tryz.underlying4
  a4:=Tryz.isAgg4
  z4:=Tryz.sizeOf4
  v4:=Tryz.zeroValue4
  t5:=Tryz.underlying5
  a5:=Tryz.isAgg5
  z5:=Tryz.sizeOf5
  v5:=Tryz.zeroValue5
  t9:=Tryz.underlying9
  a9:=Tryz.isAgg9
  z9:=Tryz.sizeOf9
  v9:=Tryz.zeroValue9
  t31:=Tryz.underlying22
  a31:=Tryz.isAgg22
  z31:=Tryz.sizeOf22
  v31:=Tryz.zeroValue22
  t46:=Tryz.underlying67
  a46:=Tryz.isAgg67
  z46:=Tryz.sizeOf67
  v46:=Tryz.zeroValue67
  t51:=Tryz.underlying281
  a51:=Tryz.isAgg281
  z51:=Tryz.sizeOf281
  v51:=Tryz.zeroValue281
  t53:=Tryz.underlying208
  a53:=Tryz.isAgg208
  z53:=Tryz.sizeOf208
  v53:=Tryz.zeroValue208
  t131:=Tryz.underlying278
  a131:=Tryz.isAgg278
  z131:=Tryz.sizeOf278
  v131:=Tryz.zeroValue278
  t182:=Tryz.underlying274
  a182:=Tryz.isAgg274
  z182:=Tryz.sizeOf274
  v182:=Tryz.zeroValue274
  t183:=Tryz.underlying275
  a183:=Tryz.isAgg275
  z183:=Tryz.sizeOf275
  v183:=Tryz.zeroValue275
  t218:=Tryz.underlying287
  a218:=Tryz.isAgg287
  z218:=Tryz.sizeOf287
  v218:=Tryz.zeroValue287
  t222:=Tryz.underlying206
  a222:=Tryz.isAgg206
  z222:=Tryz.sizeOf206
  v222:=Tryz.zeroValue206
  t228:=Tryz.underlying301
  a228:=Tryz.isAgg301
  z228:=Tryz.sizeOf301
  v228:=Tryz.zeroValue301
  t229:=Tryz.underlying302
  a229:=Tryz.isAgg302
  z229:=Tryz.sizeOf302
  v229:=Tryz.zeroValue302}
open Go.Sort Go.RowKit in
theorem Tryz.sort_Strings (blk off cap:Nat) (ss:List (List UInt8)) (w:World) (hH:Holds encStr w blk off ss.toArray) (hblk:blk<w.heap.size) (hsz:ss.length<4611686018427387904) :
    Calls Tryz.prog 258 #[.slice (some ⟨blk,off,none⟩) ss.length cap] w fun e w' =>
      e= .returned (.tuple #[])/\ ∃ n os,w'=grow (putRow encStr (Sort.ahead w n) blk off (ss.mergeSort fun x y=>decide (x<=y)).toArray) os:=Any.sort_Strings Tryz.lays192 blk off cap ss w hH hblk hsz
def Tryz.lays99_ren:Go.Shelf.Ren:=⟨fun | 99=>306 | 206=>315 | n=>n,fun | 9=>9 | 4=>4 | 3=>3 | n=>n,fun | n=>n⟩
theorem Tryz.lays99:Go.Proofs.Lays.n99 Tryz.prog Tryz.lays99_ren:= {
  mixed:=by kernel_rfl
  f99:=Tryz.func306.trans (congrArg some (by kernel_rfl))
  f206:=Tryz.func315.trans (congrArg some (by kernel_rfl))
  t3:=Tryz.underlying3
  a3:=Tryz.isAgg3
  z3:=Tryz.sizeOf3
  v3:=Tryz.zeroValue3
  t4:=Tryz.underlying4
  a4:=Tryz.isAgg4
  z4:=Tryz.sizeOf4
  v4:=Tryz.zeroValue4
  t9:=Tryz.underlying9
  a9:=Tryz.isAgg9
  z9:=Tryz.sizeOf9
  v9:=Tryz.zeroValue9}
open Go.RowKit Go.Lib in
theorem Tryz.strings_HasPrefix (s p:ByteArray) (w:World) :
    Calls Tryz.prog 306 #[.string s,.string p] w fun e w'=>e= .returned (.bool (Lib.hasPrefix s.data.toList p.data.toList))/\w'=w:=Any.strings_HasPrefix Tryz.lays99 s p w
def Tryz.lays101_ren:Go.Shelf.Ren:=⟨fun | 101=>272 | 208=>297 | 206=>315 | n=>n,fun | 9=>9 | 4=>4 | 3=>3 | n=>n,fun | n=>n⟩
theorem Tryz.lays101:Go.Proofs.Lays.n101 Tryz.prog Tryz.lays101_ren:= {
  mixed:=by kernel_rfl
  f101:=Tryz.func272.trans (congrArg some (by kernel_rfl))
  f206:=Tryz.func315.trans (congrArg some (by kernel_rfl))
  f208:=Tryz.func297.trans (congrArg some (by kernel_rfl))
  t3:=Tryz.underlying3
  a3:=Tryz.isAgg3
  z3:=Tryz.sizeOf3
  v3:=Tryz.zeroValue3
  t4:=Tryz.underlying4
  a4:=Tryz.isAgg4
  z4:=Tryz.sizeOf4
  v4:=Tryz.zeroValue4
  t9:=Tryz.underlying9
  a9:=Tryz.isAgg9
  z9:=Tryz.sizeOf9
  v9:=Tryz.zeroValue9}
open Go.RowKit Go.Lib in
theorem Tryz.strings_TrimPrefix (s p:ByteArray) (w:World) :
    Calls Tryz.prog 272 #[.string s,.string p] w fun e w'=>e= .returned (.string ⟨(Lib.trimPrefix s.data.toList p.data.toList).toArray⟩)/\w'=w:=Any.strings_TrimPrefix Tryz.lays101 s p w
def Tryz.lays146_ren:Go.Shelf.Ren:=⟨fun | 146=>242 | 221=>270 | 268=>293 | 138=>294 | 143=>295 | 195=>311 | 197=>312 | 218=>313 | 219=>314 | 260=>332 | 217=>307 | 225=>333 | 224=>334 | 267=>335 | 266=>327 | 314=>346 | n=>n,fun | 9=>9 | 31=>22 | 3=>3 | 4=>4 | 0=>0 | 105=>271 | 21=>21 | 5=>5 | 46=>67 | 119=>295 | 139=>298 | 138=>297 | 146=>299 | 51=>281 | n=>n,fun | 1=>0 | 3=>2 | 4=>3 | n=>n⟩
theorem Tryz.lays146:Go.Proofs.Lays.n146 Tryz.prog Tryz.lays146_ren:= {
  mixed:=by kernel_rfl
  f138:=Tryz.func294.trans (congrArg some (by kernel_rfl))
  f143:=Tryz.func295.trans (congrArg some (by kernel_rfl))
  f146:=Tryz.func242.trans (congrArg some (by kernel_rfl))
  f195:=Tryz.func311.trans (congrArg some (by kernel_rfl))
  f197:=Tryz.func312.trans (congrArg some (by kernel_rfl))
  f217:=Tryz.func307.trans (congrArg some (by kernel_rfl))
  f218:=Tryz.func313.trans (congrArg some (by kernel_rfl))
  f219:=Tryz.func314.trans (congrArg some (by kernel_rfl))
  f221:=Tryz.func270.trans (congrArg some (by kernel_rfl))
  f224:=Tryz.func334.trans (congrArg some (by kernel_rfl))
  f225:=Tryz.func333.trans (congrArg some (by kernel_rfl))
  f260:=Tryz.func332.trans (congrArg some (by kernel_rfl))
  f266:=Tryz.func327.trans (congrArg some (by kernel_rfl))
  f267:=Tryz.func335.trans (congrArg some (by kernel_rfl))
  f268:=Tryz.func293.trans (congrArg some (by kernel_rfl))
  f314:=Tryz.func346.trans (congrArg some (by kernel_rfl))
  t0:=Tryz.underlying0
  a0:=Tryz.isAgg0
  z0:=Tryz.sizeOf0
  v0:=Tryz.zeroValue0
  t3:=Tryz.underlying3
  a3:=Tryz.isAgg3
  z3:=Tryz.sizeOf3
  v3:=Tryz.zeroValue3
  t4:=Tryz.underlying4
  a4:=Tryz.isAgg4
  z4:=Tryz.sizeOf4
  v4:=Tryz.zeroValue4
  t5:=Tryz.underlying5
  a5:=Tryz.isAgg5
  z5:=Tryz.sizeOf5
  v5:=Tryz.zeroValue5
  t9:=Tryz.underlying9
  a9:=Tryz.isAgg9
  z9:=Tryz.sizeOf9
  v9:=Tryz.zeroValue9
  t21:=Tryz.underlying21
  a21:=Tryz.isAgg21
  z21:=Tryz.sizeOf21
  v21:=Tryz.zeroValue21
  t31:=Tryz.underlying22
  a31:=Tryz.isAgg22
  z31:=Tryz.sizeOf22
  v31:=Tryz.zeroValue22
  t46:=Tryz.underlying67
  a46:=Tryz.isAgg67
  z46:=Tryz.sizeOf67
  v46:=Tryz.zeroValue67
  t51:=Tryz.underlying281
  a51:=Tryz.isAgg281
  z51:=Tryz.sizeOf281
  v51:=Tryz.zeroValue281
  t105:=Tryz.underlying271
  a105:=Tryz.isAgg271
  z105:=Tryz.sizeOf271
  v105:=Tryz.zeroValue271
  t119:=Tryz.underlying295
  a119:=Tryz.isAgg295
  z119:=Tryz.sizeOf295
  t138:=Tryz.underlying297
  a138:=Tryz.isAgg297
  z138:=Tryz.sizeOf297
  v138:=Tryz.zeroValue297
  t139:=Tryz.underlying298
  a139:=Tryz.isAgg298
  z139:=Tryz.sizeOf298
  v139:=Tryz.zeroValue298
  t146:=Tryz.underlying299
  a146:=Tryz.isAgg299
  z146:=Tryz.sizeOf299
  v146:=Tryz.zeroValue299
  g1:=by kernel_rfl
  g3:=by kernel_rfl
  g4:=by kernel_rfl}
open Go.RowKit Go.Lib in
theorem Tryz.strings_Split (s sep:ByteArray) (m:Int) (w:World) (hs:s.size<4294967281) (hm:w.cell? ⟨0,0,none⟩=some (.int .i64 m)) (h1:1<=sep.size) :
    Calls Tryz.prog 242 #[.string s,.string sep] w fun e w' =>
      e= .returned (.slice (some ⟨w.heap.size,0,none⟩) (Lib.countB s sep+1) (Lib.countB s sep+1))/\w'=w.alloc (.cells ((Lib.splitB sep 0 (Lib.countB s sep) s).map Value.string).toArray 9):=Any.strings_Split Tryz.lays146 (by kernel_rfl) s sep m w hs hm h1
end Go.Proofs
namespace Go.Proofs.YtadefjgbcapakaaGreatDoor.Vm
open Go.Proofs
noncomputable def Qg (N:Nat):Sig:=Iy 9 N
theorem RI (N:Nat):Spec Tryz.prog 215 (Qg N) :=
  wQ (enters (fn:=Tryz.f215) (by kernel_rfl) (by kernel_rfl) (by decide)) ⟨Tryz.strings_Join_none,Tryz.strings_Join⟩
open Go.RowKit
def CK.flat:CK->Bool | .bool=>true | .int _=>true | .str=>true | _=>false
def Sh.flat:Sh->Bool | .cell false k=>k.flat | _=>false
def A.flat:A->Bool | .bool _=>true | .int _ _=>true | .str _=>true | _=>false
def rvA:A->Value | .bool b=>.bool b | .int k n=>.int k n | .str s=>.string ⟨s.toArray⟩ | _=>undef
theorem AmV {O:Own} {w:World} {id:Nat} {v:Value} {x:A} (hf:x.flat=true) (h:IR O w id v x):v=rvA x:=by
  cases x with
  | bool b=>have h':Ai O w v (.bool b):=h;cases h';rfl
  | int k n=>have h':Ai O w v (.int k n):=h;cases h';rfl
  | str s=>exact Yl (show Ai O w v (.str s)from h)
  | _=>cases hf
theorem Anw {O:Own} {w:World} {id:Nat} {x:A} (hf:x.flat=true):IR O w id (rvA x) x:=by
  cases x with
  | bool b=>exact Ai.bool b
  | int k n=>exact Ai.int k n
  | str s=>exact Ai.str (O:=O) (w:=w) ⟨s.toArray⟩
  | _=>cases hf
theorem Sh.AkV {s:Sh} (h:s.flat=true) (v:s.T):(s.enc v).flat=true:=by
  cases s with
  | cell u k=>cases u<;>cases k<;>first | (cases h;done) | rfl
  | _=>cases h
theorem dM: ∀(ss:List Sh) (v:ShT ss),ss.all Sh.flat=true->(encs ss v).all A.flat=true:=by
  intro ss
  induction ss with
  | nil=>intro v _;rfl
  | cons s r ih =>
    intro v h
    rw[List.all_cons,Bool.and_eq_true]at h
    show((s.enc _).flat&&(encs r _).all A.flat)=true
    rw[Sh.AkV h.1,ih _ h.2];rfl
theorem AkW: ∀(ss:List Sh) (v:ShT ss),(encs ss v).length=ss.length:=by
  intro ss
  induction ss with
  | nil=>intro v;rfl
  | cons s r ih=>intro v;show(encs r _).length+1=_;rw[ih];rfl
theorem rF: ∀(ss:List Sh) (i:Nat),ss.all Sh.flat=true->CS ss i=[]:=by
  intro ss
  induction ss with
  | nil=>intro i _;rfl
  | cons s r ih =>
    intro i h
    rw[List.all_cons,Bool.and_eq_true]at h
    unfold CS
    have:BH s=false:=by cases s<;>first | rfl | (cases h.1;done)
    rw[this]
    exact ih _ h.2
theorem AjL (Af Az:List Sh) (h:Af.all Sh.flat=true):EH Af Az=Az:=by
  unfold EH
  rw[List.filterMap_eq_nil_iff.2 (fun s hs=> ?_),List.append_nil]
  have:=List.all_eq_true.1 h s hs
  cases s<;>first | rfl | (cases this;done)
theorem AaB {l:List A} (h:l.all A.flat=true) {j:Nat} (hj:j<l.length):(l.getD j .undef).flat=true:=by
  rw[List.getD_eq_getElem?_getD,List.getElem?_eq_getElem hj]
  exact List.all_eq_true.1 h _ (List.getElem_mem hj)
theorem lF (l:List A) (j:Nat) (hj:j<l.length):((l.map rvA).toArray).getD j undef=rvA (l.getD j .undef):=by
  simp [Array.getD_eq_getD_getElem?,List.getD_eq_getElem?_getD,hj]
theorem Aip {O:Own} {w w':World} {vs:Array Value} {sg:Sig} {rs:List A} (hp:sg.Af.all Sh.flat=true) (hl:rs.length=sg.Az.length) (hf:rs.all A.flat=true) (hb:Below w.heap.size w w'):Came O w vs sg rs (Aen (rs.map rvA).toArray) O w':=by
  have hix:CS sg.Af 0=[]:=rF _ _ hp
  refine⟨Below.moves hb,fun b k _ h=>h,fun b k _ h=>h,by rw[hix,hl];rfl,⟨(rs.map rvA).toArray,by simp [hl],rfl,fun k hk=> ?_⟩,fun j i hj=> ?_⟩
  ·have hk':k<rs.length:=by simpa using hk
   rw[lF rs k hk']
   exact Anw (AaB hf hk')
  ·rw[hix]at hj;cases hj
theorem Aa0 {O:Own} {w:World} {vs:Array Value} {xs:List A} (hf:xs.all A.flat=true) (hv:vs.size=xs.length) (hx: ∀ j,j<xs.length->IR O w (256*j) (vs.getD j undef) (xs.getD j .undef)):vs=(xs.map rvA).toArray:=by
  apply Array.ext
  ·simp [hv]
  ·intro i h1 h2
   have hi:i<xs.length:=by omega
   have:=AmV (AaB hf hi) (hx i hi)
   rw[<- lF xs i hi]at this
   simp only[Array.getD_eq_getD_getElem?,Array.getElem?_eq_getElem h1,Array.getElem?_eq_getElem h2,Option.getD_some]at this
   exact this
theorem Aey (w:World) (k:Nat) (os:Array Go.Obj):Below w.heap.size w (Go.Sort.grow (w.drewN k) os) :=
  ⟨rfl,rfl,rfl,by show _<=(w.heap++os).size;simp,fun i hi=>by show(w.heap++os)[i]? =_;rw[Array.getElem?_append_left hi]⟩
theorem N7 {P:Program} {f:FuncId} {Af Az:List Sh} {g:ShT Af->Option (ShT (EH Af Az))} (hp:Af.all Sh.flat=true) (hr:Az.all Sh.flat=true) (hent: ∀ args w,(callFunc f args).run P w= .ok (.enter f args) w)
    (H: ∀(O:Own) (w:World) (a:ShT Af) (o:ShT (EH Af Az)),Inv O w->g a=some o->Calls P f ((encs Af a).map rvA).toArray w fun e w'=>e= .returned (Aen ((encs (EH Af Az) o).map rvA).toArray)/\Below w.heap.size w w'):Spec P f (Sig.of Af Az g):=by
  refine⟨hent,fun O w vs xs rs hI hv hl _ hx hrs=> ?_⟩
  obtain⟨a,o,h1,h2,h3⟩:=Sig.XQ hrs
  subst h1
  have hvs:=Aa0 (dM Af a hp) hv hx
  rw[hvs]
  refine(H O w a o hI h2).mono fun e w' hq=> ?_
  obtain⟨he,hb⟩:=hq
  subst h3
  have ho:EH Af Az=Az:=AjL Af Az hp
  refine⟨_,O,he,Aip (sg:=Sig.of Af Az g) hp ?_ ?_ hb⟩
  ·rw[AkW,ho];rfl
  ·exact dM _ _ (by rw[ho];exact hr)
def strings_Split (_:Nat) (s sep:Bs):Option (List Bs):=bif decide (s.length<4294967281)&&decide (1<=sep.length)then some (Lib.split s sep)else none
def strings_IndexByte (_:Nat) (s:Bs) (c:Int):Option Int:=some (Lib.indexByte s c.toNat.toUInt8)
def strings_Cut (_:Nat) (s sep:Bs):Option (Bs×Bs×Bool):=bif decide (s.length<4294967281)then some (Lib.cut s sep)else none
def strings_CutPrefix (_:Nat) (s p:Bs):Option (Bs×Bool):=some (Lib.trimPrefix s p,Lib.hasPrefix s p)
def strings_TrimPrefix (_:Nat) (s p:Bs):Option Bs:=some (Lib.trimPrefix s p)
def strings_HasPrefix (_:Nat) (s p:Bs):Option Bool:=some (Lib.hasPrefix s p)
def strings_Contains (_:Nat) (s p:Bs):Option Bool:=bif decide (s.length<4294967281)then some (Lib.contains s p)else none
def strconv_Itoa (_:Nat) (n:Int):Option Bs:=bif decide (-9223372036854775808<=n)&&decide (n<=9223372036854775807)then some (Lib.itoa n)else none
def EO (l:List Bs):Bs:=(l.mergeSort fun x y=>decide (x<=y)).flatten
def Lp (_:Nat) (l:List Bs):Option Bs:=bif decide (0<l.length)&&(decide (l.length<=1099511627776)&&decide (l.flatten.length<=140737488355328))then some (EO l)else none
def Jm (s:ByteArray):Nat->Nat->Bool
  | 0,_=>true
  | n+1,i=>if i<s.size then
     let d:=Utf8.decode s i
     if d.1<32\/d.1=127 then false
     else if d.1=65533/\Lib.hasPrefix (s.data.toList.drop i) [239,191,189]=false then false
     else Jm s n (i+d.2)
    else true
def AhZ (s:Bs):Bool:=Jm ⟨s.toArray⟩ s.length 0
def Zr (_:Nat) (s:Bs):Option Bool:=bif decide (s.length<4294967281)then some (AhZ s)else none
open Go.Proofs Go.RowKit
noncomputable def Ll (N:Nat):Sig:=.of [.cell false .str,.cell false .str] [.cell false .bool] (fun a=>strings_Contains N a.1 a.2)
theorem NY (N:Nat):Spec Tryz.prog 276 (Ll N) :=
  N7 rfl rfl (enters (fn:=Tryz.f276) (by kernel_rfl) (by kernel_rfl) (by decide)) fun O w (a:Bs×Bs) (o:Bool) hI h=>by
   obtain⟨s,c⟩:=a
   have h:(bif decide (List.length s<4294967281)then some (Lib.contains s c)else none)=some o:=h
   cases hc:decide (List.length s<4294967281)with
   | false=>rw[hc]at h;cases h
   | true =>
   rw[hc]at h
   injection h with h
   subst h
   have hs:=of_decide_eq_true hc
   obtain⟨_,v,hm,m,rfl⟩:=hI.1 0 0 _ rfl
   refine(Tryz.strings_Contains ⟨List.toArray s⟩ ⟨List.toArray c⟩ m w hs hm).mono fun e w' hq=> ?_
   obtain⟨h1,h2⟩:=hq
   subst h2
   exact⟨h1,Below.refl _ _⟩
noncomputable def P8 (N:Nat):Sig:=.of [.cell false .str,.cell false .str] [.cell false .str,.cell false .bool] (fun a=>strings_CutPrefix N a.1 a.2)
theorem WL (N:Nat):Spec Tryz.prog 275 (P8 N) :=
  N7 rfl rfl (enters (fn:=Tryz.f275) (by kernel_rfl) (by kernel_rfl) (by decide)) fun O w (a:Bs×Bs) (o:Bs×Bool) hI h=>by
   obtain⟨s,c⟩:=a
   have h:some ((Lib.trimPrefix s c,Lib.hasPrefix s c))=some o:=h
   injection h with h
   subst h
   refine(Tryz.strings_CutPrefix ⟨List.toArray s⟩ ⟨List.toArray c⟩ w).mono fun e w' hq=> ?_
   obtain⟨h1,h2⟩:=hq
   subst h2
   exact⟨h1,Below.refl _ _⟩
noncomputable def Z9 (N:Nat):Sig:=.of [.cell false .str,.cell false .str] [.cell false .str,.cell false .str,.cell false .bool] (fun a=>strings_Cut N a.1 a.2)
theorem qL (N:Nat):Spec Tryz.prog 273 (Z9 N) :=
  N7 rfl rfl (enters (fn:=Tryz.f273) (by kernel_rfl) (by kernel_rfl) (by decide)) fun O w (a:Bs×Bs) (o:Bs×Bs×Bool) hI h=>by
   obtain⟨s,c⟩:=a
   have h:(bif decide (List.length s<4294967281)then some (Lib.cut s c)else none)=some o:=h
   cases hc:decide (List.length s<4294967281)with
   | false=>rw[hc]at h;cases h
   | true =>
   rw[hc]at h
   injection h with h
   subst h
   have hs:=of_decide_eq_true hc
   obtain⟨_,v,hm,m,rfl⟩:=hI.1 0 0 _ rfl
   refine(Tryz.strings_Cut ⟨List.toArray s⟩ ⟨List.toArray c⟩ m w hs hm).mono fun e w' hq=> ?_
   obtain⟨h1,n,h2⟩:=hq
   subst h2
   exact⟨h1,⟨rfl,rfl,rfl,Nat.le_refl _,fun _ _=>rfl⟩⟩
noncomputable def Kt (N:Nat):Sig:=.of [.cell false .str,.cell false (.int .u8)] [.cell false (.int .i64)] (fun a=>strings_IndexByte N a.1 a.2)
theorem MW (N:Nat):Spec Tryz.prog 287 (Kt N) :=
  N7 rfl rfl (enters (fn:=Tryz.f287) (by kernel_rfl) (by kernel_rfl) (by decide)) fun O w (a:Bs×Int) (o:Int) hI h=>by
   obtain⟨s,c⟩:=a
   have h:some (Lib.indexByte s c.toNat.toUInt8)=some o:=h
   injection h with h
   subst h
   refine(Tryz.strings_IndexByte ⟨List.toArray s⟩ c w).mono fun e w' hq=> ?_
   obtain⟨h1,h2⟩:=hq
   subst h2
   exact⟨h1,Below.refl _ _⟩
theorem AlH {O:Own} {w:World} (hI:Inv O w):Lib.TabIs Tryz.prog w "internal/strconv.uint64pow10" .u64 Lib.pow10Tab:=by
  obtain⟨c,e,fr,h1,h2⟩:=hI.2 1 20 rfl
  have hg:Tryz.prog.globalNamed "internal/strconv.uint64pow10" =some 1:=by kernel_rfl
  unfold Lib.TabIs World.var?
  rw[hg]
  show(match w.heap[1]? with | some (.cells cs _ _)=>some cs | _=>none)=_
  rw[h1]
  refine congrArg some (Array.ext (by rw[h2];simp [Lib.pow10Tab_length]) fun i hi hi'=> ?_)
  have hi20:i<20:=by omega
  obtain⟨_,v,hv,hp⟩:=hI.1 1 i _ (if_pos hi20)
  have hv':c[i]? =some v:=by
    have:w.cell? (at' 1 i)=c[i]? :=by simp [World.cell?,h1]
    rw[<- this];exact hv
  rw[Array.getElem?_eq_getElem hi]at hv'
  injection hv' with hv'
  rw[hv',hp]
  simp [Lib.pow10Tab]
noncomputable def Yc (N:Nat):Sig:=.of [.cell false (.int .i64)] [.cell false .str] (fun a=>strconv_Itoa N a)
theorem kR (N:Nat):Spec Tryz.prog 269 (Yc N) :=
  N7 rfl rfl (enters (fn:=Tryz.f269) (by kernel_rfl) (by kernel_rfl) (by decide)) fun O w (a:Int) (o:Bs) hI h=>by
   have h:(bif decide (-9223372036854775808<=a)&&decide (a<=9223372036854775807)then some (Lib.itoa a)else none)=some o:=h
   cases hc:(decide (-9223372036854775808<=a)&&decide (a<=9223372036854775807))with
   | false=>rw[hc]at h;cases h
   | true =>
   rw[hc]at h
   injection h with h
   subst h
   rw[Bool.and_eq_true,decide_eq_true_eq,decide_eq_true_eq]at hc
   refine(Tryz.strconv_Itoa a hc.1 hc.2 w (AlH hI)).mono fun e w' hq=> ?_
   obtain⟨h1,k,os,h2⟩:=hq
   subst h2
   exact⟨h1,Aey _ _ _⟩
end Go.Proofs.YtadefjgbcapakaaGreatDoor.Vm
namespace Go.Proofs.YtadefjgbcapakaaGreatDoor
open Go.RowKit Go.Sort Vm
theorem AaF (l:List (List UInt8)):Lib.join l []=l.flatten:=by
  cases l with
  | nil=>rfl
  | cons a r =>
    rw[Lib.join_cons]
    unfold Lib.joinTail
    simp
theorem Anc {w:World} {g cap n:Nat} {ts:List Bs} {cur:Array Value} {e:TypeId} (hn:ts.length=n) (hb:w.heap[g]? =some (.cells cur e (0,0))) (ht:cur.toList.take n=ts.map encStr) (hc:n<=cap) (h1:n<=140737488355328) (hl:ts.flatten.length<=140737488355328) :
    Calls Tryz.prog 215 #[.slice (some ⟨g,0,none⟩) n cap,.string ⟨#[]⟩] w fun e w'=>e= .returned (.string ⟨ts.flatten.toArray⟩)/\Below w.heap.size w w':=by
  have hm:(ts.map (fun s=>(⟨s.toArray⟩:ByteArray))).map (·.data.toList)=ts:=by
    rw[List.map_map]
    conv=>rhs;rw[<- List.map_id ts]
    refine List.map_congr_left fun s _=> ?_
    simp
  have hj:=Tryz.strings_Join g 0 cap (ts.map (fun s=>(⟨s.toArray⟩:ByteArray))) ⟨#[]⟩ w (fun j x hx=>by
    have hx':(ts.map encStr)[j]? =some (.string x):=by
      rw[List.getElem?_map]at hx ⊢
      cases hq:ts[j]? with
      | none=>rw[hq]at hx;cases hx
      | some y=>rw[hq]at hx;injection hx with hx;rw[<- hx];rfl
    rw[<- ht]at hx'
    have hjn:j<n:=by
      rcases Nat.lt_or_ge j n with h | h
      ·exact h
      ·rw[List.getElem?_take_eq_none h]at hx';cases hx'
    rw[List.getElem?_take_of_lt hjn,Array.getElem?_toList]at hx'
    simp only[World.cell?,hb,Nat.zero_add]
    exact hx') (Array.getElem?_eq_some_iff.1 hb).1 (by rw[List.length_map,hn];exact h1) (by rw[List.length_map,hn];exact hc) (by rw[hm];show(Lib.join ts []).length<=_;rw[AaF];exact hl)
  rw[List.length_map,hn,hm]at hj
  refine hj.mono fun e w' hq=>⟨hq.1.trans ?_,hq.2⟩
  show Ending.returned (Value.string ⟨(Lib.join ts []).toArray⟩)=_
  rw[AaF]
theorem AcV {a b:List Bs} (h:a.Perm b):a.flatten.length=b.flatten.length:=by
  rw[List.length_flatten,List.length_flatten]
  exact(h.map _).sum_nat
set_option maxHeartbeats 1000000 in
set_option maxRecDepth 1000000 in
theorem Ah1 (w:World) (b o c:Nat) (ss:List Bs) (R:Bs) (hR:EO ss=R) (h0:0<ss.length) (hlen:ss.length<=1099511627776) (hflat:ss.flatten.length<=140737488355328)
    (hcells: ∀(j:Nat) (u:Value),(ss.map encStr)[j]? =some u->w.cell? ⟨b,o+j,none⟩=some u) :
    Calls Tryz.prog 217 #[.slice (some ⟨b,o,none⟩) ss.length c] w fun e w'=>e= .returned (.string ⟨R.toArray⟩)/\Below w.heap.size w w':=by
  have hi:Tryz.prog.info? 9=some _:=rfl
  go_enter Tryz.func217,Tryz.ntmps217
  go_wp2_with (at_builtin;go_loud (refine wpList_append_grows w rfl _ _ _ rfl 9 _ _ 1 16 rfl hi rfl rfl rfl rfl (by decide) none 0 0 [] rfl (fun _=>⟨rfl,rfl⟩) rfl (fun _ h=>by cases h) ⟨b,o,none⟩ ss.length c (ss.map encStr) rfl (by simp) (fun j u h=>by rw[Addr.add_lit];exact hcells j u h) (fun u hu=>by obtain⟨x,_,rfl⟩:=List.mem_map.1 hu;rfl) (by omega) (by show _<=maxLen;simp only[maxLen];omega) (by omega) ?_))
  intro v' w1 hown hgr
  rcases hown.2 with ⟨_,h⟩ | ⟨g,cap,cur,rfl,hbase,hbk,h1,h2,h3,h4⟩
  ·exfalso;omega
  have h4':cur.toList.take ss.length=ss.map encStr:=by simpa using h4
  have hH:Holds encStr w1 g 0 ss.toArray:=holds_of_block hbk h4'
  have hB1:Below w.heap.size w w1:=Below.grown (Below.refl _ _) hgr (Nat.le_refl _) (fun k hk=>by cases hk)
  have hsort:=Tryz.sort_Strings g 0 cap ss w1 hH (Array.getElem?_eq_some_iff.1 hbk).1 (by omega)
  have hperm:(ss.mergeSort fun x y=>decide (x<=y)).Perm ss:=List.mergeSort_perm _ _
  have hord:EO ss=(ss.mergeSort fun x y=>decide (x<=y)).flatten:=rfl
  have hfl:=AcV hperm
  have hts:=hperm.length_eq
  generalize (ss.mergeSort fun x y=>decide (x<=y))=ts at hsort hord hfl hts
  have hRt:ts.flatten=R:=hord.symm.trans hR
  have hB2: ∀ n os,Below w.heap.size w (grow (putRow encStr (Sort.ahead w1 n) g 0 ts.toArray) os):=fun n os=>Below.grown hB1 (grownBy_sorted ts.toArray) hB1.size (fun k hk=>by injection hk with hk;omega)
  have hJ: ∀ n os,Calls Tryz.prog 215 #[.slice (some ⟨g,0,none⟩) ss.length cap,.string ⟨#[]⟩] (grow (putRow encStr (Sort.ahead w1 n) g 0 ts.toArray) os) fun e w'=>e= .returned (.string ⟨R.toArray⟩)/\Below w.heap.size w w':=fun n os=>by
    rw[<- hRt]
    refine(Anc (n:=ss.length) hts (heap_sorted ts.toArray hbk) (by rw[<- hts];exact take_putCells cur ts (by omega)) h1 (by omega) (by omega)).mono fun e w' hq=>⟨hq.1,(hB2 n os).trans (hq.2.mono (hB2 n os).size)⟩
  clear hown hgr hcells h4 h4' hH hB1 hB2 hord hfl hperm hR hRt
  go_wp2_with (first | (go_at_call 258;refine hsort.mono ?_;rintro e w2 ⟨rfl,n,os,rfl⟩;have hJ2:=hJ n os;generalize (grow (putRow encStr (Sort.ahead w1 n) g 0 ts.toArray) os)=w3 at hJ2 ⊢) | (go_at_call 215;refine hJ2.mono ?_;rintro e w4 ⟨rfl,hb4⟩))
  go_ret
  exact⟨rfl,hb4⟩
end Go.Proofs.YtadefjgbcapakaaGreatDoor
namespace Go.Proofs.YtadefjgbcapakaaGreatDoor.Vm
open Go.Proofs Go.RowKit
noncomputable def WN (N:Nat):Sig:=.of [.cell false (.sl 9 (.str .nil))] [.cell false .str] (fun a=>Lp N a)
theorem AbV {N:Nat} {O:Own} {w:World} {vs:Array Value} (l:List Bs) (out:Bs) (hv:vs.size=1) (hx0:Ai O w (vs.getD 0 undef) (.sl ⟨.str .nil,l⟩)) (h2':Lp N l=some out) :
    Calls Tryz.prog 217 vs w fun e' w'=> ∃ v O',e'= .returned v/\Came O w vs (WN N) [.str out] v O' w':=by
  unfold Lp at h2'
  have hv1:vs= #[vs.getD 0 undef]:=by
    apply Array.ext
    ·exact hv
    ·intro i h1 h2
     have:i=0:=by simp at h2;omega
     subst this
     simp [Array.getD_eq_getD_getElem?,h1]
  cases hc:(decide (0<l.length)&&(decide (l.length<=1099511627776)&&decide (l.flatten.length<=140737488355328)))with
  | false=>rw[hc]at h2';cases h2'
  | true =>
    rw[hc]at h2'
    injection h2' with h2'
    simp only[Bool.and_eq_true,decide_eq_true_eq]at hc
    obtain⟨c0,c1,c2⟩:=hc
    rw[hv1]
    generalize vs.getD 0 undef=v0 at hx0
    have hes0:(⟨.str .nil,l⟩:Sl).es=l.map (fun s:Bs=>[A.str s]):=rfl
    have hsz:(⟨.str .nil,l⟩:Sl).sz=1:=rfl
    generalize hL:(⟨.str .nil,l⟩:Sl)=L at hx0 hes0 hsz
    have hlen:L.es.length=l.length:=by rw[hes0,List.length_map]
    cases hx0 with
    | nil t =>
      have:l=[]:=by injection hL with h1 h2;subst h1;exact eq_of_heq h2
      rw[this]at c0;exact absurd c0 (by decide)
    | sl0 ad t =>
      have:l=[]:=by injection hL with h1 h2;subst h1;exact eq_of_heq h2
      rw[this]at c0;exact absurd c0 (by decide)
    | @sl b off cap l' vs' hcap hm hr =>
      have hw:=Ah1 w b off cap l out h2' c0 c1 c2 (fun j u hj=>by
        have hjl:j<l.length:=by
          rcases Nat.lt_or_ge j (l.length)with h | h
          ·exact h
          ·rw[List.getElem?_eq_none (by simpa using h)]at hj;cases hj
        have hm1:=(hm j 0 (by rw[hlen];exact hjl) (by rw[hsz];omega)).2
        have hr1:=hr j 0 (by rw[hlen];exact hjl) (by rw[hsz];omega)
        have e1:off+(j*L.sz+0)=off+j:=by rw[hsz];omega
        rw[e1]at hm1
        rw[List.getElem?_map,List.getElem?_eq_getElem hjl]at hj
        injection hj with hj
        have e2:(L.es.getD j []).getD 0 .undef= .str (l[j]):=by
          rw[hes0]
          simp [List.getD_eq_getElem?_getD,hjl]
        rw[e2]at hr1
        rw[<- hj,hm1,Yl hr1])
      rw[<- hlen]at hw
      refine hw.mono fun e' w' hq=> ?_
      refine⟨_,O,hq.1,?_⟩
      refine⟨Below.moves hq.2,fun b k _ h=>h,fun b k _ h=>h,rfl,⟨#[.string ⟨List.toArray out⟩],rfl,rfl,fun k hk=> ?_⟩,fun j i hj=> ?_⟩
      ·have hk0:k=0:=by simp at hk;omega
       subst hk0
       exact Ai.str (O:=O) (w:=w') ⟨List.toArray out⟩
      ·exact absurd hj (by show(CS [.cell false (.sl 9 (.str .nil))] 0)[j]? ≠some i;simp [CS,BH])
theorem Aav (N:Nat):Spec Tryz.prog 217 (WN N):=by
  refine⟨enters (fn:=Tryz.f217) (by kernel_rfl) (by kernel_rfl) (by decide),fun O w vs xs rs hI hv hl _ hx hrs=> ?_⟩
  obtain⟨l,out,h1,h2,h3⟩:=Sig.XQ (Af:=[.cell false (.sl 9 (.str .nil))]) (Az:=[.cell false .str]) (f:=fun a=>Lp N a) hrs
  subst h1
  have h3':rs=[.str out]:=h3
  subst h3'
  exact AbV l out hv (hx 0 (by show 0<1;omega)) h2
end Go.Proofs.YtadefjgbcapakaaGreatDoor.Vm
