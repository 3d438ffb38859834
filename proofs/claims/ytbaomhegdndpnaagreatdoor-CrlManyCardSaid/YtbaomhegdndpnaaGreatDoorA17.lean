import Derived.Test.YtbaomhegdndpnaaGreatDoorA16
import Derived.Lib.Join
import Derived.Below
import Derived.Shelf.Strings.Builder1
import Derived.Shelf.Strings.Builder2
import Derived.Shelf.Strings.OnBuilder
import Derived.Shelf.Small.Bits
import Derived.Shelf.Small.Strs
import Derived.Shelf.Small.Wraps
import Derived.Shelf.Utf8.RuneCount
import Derived.Shelf.Strconv.Itoa0
import Derived.Shelf.Strconv.Itoa1
import Derived.Shelf.LaysM
import Derived.Shelf.Strconv.Itoa2
import Derived.Shelf.Strconv.Itoa3
import Derived.Shelf.Strings.Search1
import Derived.Shelf.Strings.Search2
import Derived.Shelf.Strings.Search3
import Derived.Shelf.Strings.Cut
import Derived.Shelf.Strings.Count
import Derived.Shelf.Strings.Shaped
import Derived.Shelf.Sort.Plain
import Derived.Shelf.Strings.Prefix
import Derived.Shelf.Strings.Split
import Derived.Shelf.Unicode.DecodeSlow
import Derived.Shelf.Unicode.DecodeAny
import Derived.Test.YtbaomhegdndpnaaGreatDoorProg
import Derived.Sort.Grow
import Derived.Lib.Split
import Derived.Lib.ItoaNum
import Derived.Lib.Strings
set_option linter.all false
namespace Go.Proofs.YtbaomhegdndpnaaGreatDoor.Vm
def BI {α ρ :Type} (A:(α ->Option ρ)->Option ρ) (f: α ->Option ρ):Option ρ :=A f
def Ae {ρ :Type} (b:Bool) (k:Bool->Option ρ):Option ρ :=k b
theorem YW {ρ :Type} (b:Bool) (k:Bool->Option ρ):Ae b k=k b:=rfl
def Af5 {α β :Type}:Option (α ⊕ β)->Bool
  | some (.inr _)=>false
  | _=>true
def Af0 {α β :Type}:Option (α ⊕ β)->Option α
  | some (.inl x)=>some x
  | _=>none
def Af1 {α β :Type}:Option (α ⊕ β)->Option β
  | some (.inr x)=>some x
  | _=>none
def G7 {α β ρ :Type} [Inhabited α] [Inhabited β] (o:Option (α ⊕ β)) (k: α ->Option ρ) (l: β ->Option ρ):Option ρ :=bif Af5 o then callO (Af0 o) k else callO (Af1 o) l
theorem oM {α β ρ :Type} [Inhabited α] [Inhabited β] (x: α) (k: α ->Option ρ) (l: β ->Option ρ):G7 (some (.inl x)) k l=k x:=rfl
def strings_Join (_:Nat) (l:List Bs) (sep:Bs):Option Bs:=bif decide (l.length<=140737488355328)&&decide ((sep.intercalate l).length<=140737488355328)then some (sep.intercalate l)else none
def U2 {a0 a1 r:Type} (f:a0->a1->r) (x:a0×a1):r:=f x.1 x.2
def U3 {a0 a1 a2 r:Type} (f:a0->a1->a2->r) (x:a0×a1×a2):r:=f x.1 x.2.1 x.2.2
def U4 {a0 a1 a2 a3 r:Type} (f:a0->a1->a2->a3->r) (x:a0×a1×a2×a3):r:=f x.1 x.2.1 x.2.2.1 x.2.2.2
def U5 {a0 a1 a2 a3 a4 r:Type} (f:a0->a1->a2->a3->a4->r) (x:a0×a1×a2×a3×a4):r:=f x.1 x.2.1 x.2.2.1 x.2.2.2.1 x.2.2.2.2
def U6 {a0 a1 a2 a3 a4 a5 r:Type} (f:a0->a1->a2->a3->a4->a5->r) (x:a0×a1×a2×a3×a4×a5):r:=f x.1 x.2.1 x.2.2.1 x.2.2.2.1 x.2.2.2.2.1 x.2.2.2.2.2
def U7 {a0 a1 a2 a3 a4 a5 a6 r:Type} (f:a0->a1->a2->a3->a4->a5->a6->r) (x:a0×a1×a2×a3×a4×a5×a6):r:=f x.1 x.2.1 x.2.2.1 x.2.2.2.1 x.2.2.2.2.1 x.2.2.2.2.2.1 x.2.2.2.2.2.2
def U8 {a0 a1 a2 a3 a4 a5 a6 a7 r:Type} (f:a0->a1->a2->a3->a4->a5->a6->a7->r) (x:a0×a1×a2×a3×a4×a5×a6×a7):r:=f x.1 x.2.1 x.2.2.1 x.2.2.2.1 x.2.2.2.2.1 x.2.2.2.2.2.1 x.2.2.2.2.2.2.1 x.2.2.2.2.2.2.2
def U10 {a0 a1 a2 a3 a4 a5 a6 a7 a8 a9 r:Type} (f:a0->a1->a2->a3->a4->a5->a6->a7->a8->a9->r) (x:a0×a1×a2×a3×a4×a5×a6×a7×a8×a9):r:=f x.1 x.2.1 x.2.2.1 x.2.2.2.1 x.2.2.2.2.1 x.2.2.2.2.2.1 x.2.2.2.2.2.2.1 x.2.2.2.2.2.2.2.1 x.2.2.2.2.2.2.2.2.1 x.2.2.2.2.2.2.2.2.2
def U11 {a0 a1 a2 a3 a4 a5 a6 a7 a8 a9 a10 r:Type} (f:a0->a1->a2->a3->a4->a5->a6->a7->a8->a9->a10->r) (x:a0×a1×a2×a3×a4×a5×a6×a7×a8×a9×a10):r:=f x.1 x.2.1 x.2.2.1 x.2.2.2.1 x.2.2.2.2.1 x.2.2.2.2.2.1 x.2.2.2.2.2.2.1 x.2.2.2.2.2.2.2.1 x.2.2.2.2.2.2.2.2.1 x.2.2.2.2.2.2.2.2.2.1 x.2.2.2.2.2.2.2.2.2.2
def U12 {a0 a1 a2 a3 a4 a5 a6 a7 a8 a9 a10 a11 r:Type} (f:a0->a1->a2->a3->a4->a5->a6->a7->a8->a9->a10->a11->r) (x:a0×a1×a2×a3×a4×a5×a6×a7×a8×a9×a10×a11):r:=f x.1 x.2.1 x.2.2.1 x.2.2.2.1 x.2.2.2.2.1 x.2.2.2.2.2.1 x.2.2.2.2.2.2.1 x.2.2.2.2.2.2.2.1 x.2.2.2.2.2.2.2.2.1 x.2.2.2.2.2.2.2.2.2.1 x.2.2.2.2.2.2.2.2.2.2.1 x.2.2.2.2.2.2.2.2.2.2.2
def U13 {a0 a1 a2 a3 a4 a5 a6 a7 a8 a9 a10 a11 a12 r:Type} (f:a0->a1->a2->a3->a4->a5->a6->a7->a8->a9->a10->a11->a12->r) (x:a0×a1×a2×a3×a4×a5×a6×a7×a8×a9×a10×a11×a12):r:=f x.1 x.2.1 x.2.2.1 x.2.2.2.1 x.2.2.2.2.1 x.2.2.2.2.2.1 x.2.2.2.2.2.2.1 x.2.2.2.2.2.2.2.1 x.2.2.2.2.2.2.2.2.1 x.2.2.2.2.2.2.2.2.2.1 x.2.2.2.2.2.2.2.2.2.2.1 x.2.2.2.2.2.2.2.2.2.2.2.1 x.2.2.2.2.2.2.2.2.2.2.2.2
def U18 {a0 a1 a2 a3 a4 a5 a6 a7 a8 a9 a10 a11 a12 a13 a14 a15 a16 a17 r:Type} (f:a0->a1->a2->a3->a4->a5->a6->a7->a8->a9->a10->a11->a12->a13->a14->a15->a16->a17->r) (x:a0×a1×a2×a3×a4×a5×a6×a7×a8×a9×a10×a11×a12×a13×a14×a15×a16×a17):r:=f x.1 x.2.1 x.2.2.1 x.2.2.2.1 x.2.2.2.2.1 x.2.2.2.2.2.1 x.2.2.2.2.2.2.1 x.2.2.2.2.2.2.2.1 x.2.2.2.2.2.2.2.2.1 x.2.2.2.2.2.2.2.2.2.1 x.2.2.2.2.2.2.2.2.2.2.1 x.2.2.2.2.2.2.2.2.2.2.2.1 x.2.2.2.2.2.2.2.2.2.2.2.2.1 x.2.2.2.2.2.2.2.2.2.2.2.2.2.1 x.2.2.2.2.2.2.2.2.2.2.2.2.2.2.1 x.2.2.2.2.2.2.2.2.2.2.2.2.2.2.2.1 x.2.2.2.2.2.2.2.2.2.2.2.2.2.2.2.2.1 x.2.2.2.2.2.2.2.2.2.2.2.2.2.2.2.2.2
def U19 {a0 a1 a2 a3 a4 a5 a6 a7 a8 a9 a10 a11 a12 a13 a14 a15 a16 a17 a18 r:Type} (f:a0->a1->a2->a3->a4->a5->a6->a7->a8->a9->a10->a11->a12->a13->a14->a15->a16->a17->a18->r) (x:a0×a1×a2×a3×a4×a5×a6×a7×a8×a9×a10×a11×a12×a13×a14×a15×a16×a17×a18):r:=f x.1 x.2.1 x.2.2.1 x.2.2.2.1 x.2.2.2.2.1 x.2.2.2.2.2.1 x.2.2.2.2.2.2.1 x.2.2.2.2.2.2.2.1 x.2.2.2.2.2.2.2.2.1 x.2.2.2.2.2.2.2.2.2.1 x.2.2.2.2.2.2.2.2.2.2.1 x.2.2.2.2.2.2.2.2.2.2.2.1 x.2.2.2.2.2.2.2.2.2.2.2.2.1 x.2.2.2.2.2.2.2.2.2.2.2.2.2.1 x.2.2.2.2.2.2.2.2.2.2.2.2.2.2.1 x.2.2.2.2.2.2.2.2.2.2.2.2.2.2.2.1 x.2.2.2.2.2.2.2.2.2.2.2.2.2.2.2.2.1 x.2.2.2.2.2.2.2.2.2.2.2.2.2.2.2.2.2.1 x.2.2.2.2.2.2.2.2.2.2.2.2.2.2.2.2.2.2
def U21 {a0 a1 a2 a3 a4 a5 a6 a7 a8 a9 a10 a11 a12 a13 a14 a15 a16 a17 a18 a19 a20 r:Type} (f:a0->a1->a2->a3->a4->a5->a6->a7->a8->a9->a10->a11->a12->a13->a14->a15->a16->a17->a18->a19->a20->r) (x:a0×a1×a2×a3×a4×a5×a6×a7×a8×a9×a10×a11×a12×a13×a14×a15×a16×a17×a18×a19×a20):r:=f x.1 x.2.1 x.2.2.1 x.2.2.2.1 x.2.2.2.2.1 x.2.2.2.2.2.1 x.2.2.2.2.2.2.1 x.2.2.2.2.2.2.2.1 x.2.2.2.2.2.2.2.2.1 x.2.2.2.2.2.2.2.2.2.1 x.2.2.2.2.2.2.2.2.2.2.1 x.2.2.2.2.2.2.2.2.2.2.2.1 x.2.2.2.2.2.2.2.2.2.2.2.2.1 x.2.2.2.2.2.2.2.2.2.2.2.2.2.1 x.2.2.2.2.2.2.2.2.2.2.2.2.2.2.1 x.2.2.2.2.2.2.2.2.2.2.2.2.2.2.2.1 x.2.2.2.2.2.2.2.2.2.2.2.2.2.2.2.2.1 x.2.2.2.2.2.2.2.2.2.2.2.2.2.2.2.2.2.1 x.2.2.2.2.2.2.2.2.2.2.2.2.2.2.2.2.2.2.1 x.2.2.2.2.2.2.2.2.2.2.2.2.2.2.2.2.2.2.2.1 x.2.2.2.2.2.2.2.2.2.2.2.2.2.2.2.2.2.2.2.2
def U23 {a0 a1 a2 a3 a4 a5 a6 a7 a8 a9 a10 a11 a12 a13 a14 a15 a16 a17 a18 a19 a20 a21 a22 r:Type} (f:a0->a1->a2->a3->a4->a5->a6->a7->a8->a9->a10->a11->a12->a13->a14->a15->a16->a17->a18->a19->a20->a21->a22->r) (x:a0×a1×a2×a3×a4×a5×a6×a7×a8×a9×a10×a11×a12×a13×a14×a15×a16×a17×a18×a19×a20×a21×a22):r:=f x.1 x.2.1 x.2.2.1 x.2.2.2.1 x.2.2.2.2.1 x.2.2.2.2.2.1 x.2.2.2.2.2.2.1 x.2.2.2.2.2.2.2.1 x.2.2.2.2.2.2.2.2.1 x.2.2.2.2.2.2.2.2.2.1 x.2.2.2.2.2.2.2.2.2.2.1 x.2.2.2.2.2.2.2.2.2.2.2.1 x.2.2.2.2.2.2.2.2.2.2.2.2.1 x.2.2.2.2.2.2.2.2.2.2.2.2.2.1 x.2.2.2.2.2.2.2.2.2.2.2.2.2.2.1 x.2.2.2.2.2.2.2.2.2.2.2.2.2.2.2.1 x.2.2.2.2.2.2.2.2.2.2.2.2.2.2.2.2.1 x.2.2.2.2.2.2.2.2.2.2.2.2.2.2.2.2.2.1 x.2.2.2.2.2.2.2.2.2.2.2.2.2.2.2.2.2.2.1 x.2.2.2.2.2.2.2.2.2.2.2.2.2.2.2.2.2.2.2.1 x.2.2.2.2.2.2.2.2.2.2.2.2.2.2.2.2.2.2.2.2.1 x.2.2.2.2.2.2.2.2.2.2.2.2.2.2.2.2.2.2.2.2.2.1 x.2.2.2.2.2.2.2.2.2.2.2.2.2.2.2.2.2.2.2.2.2.2
open Go.RowKit
theorem Below.moves {O:Own} {T:Nat->Prop} {w w':World} (h:Below w.heap.size w w'):Moves O T w w':=⟨h.os,h.tape,h.output,h.size,fun b hb=>.inl (h.block b hb)⟩
noncomputable def Fz (e N:Nat):Sig:=.of [.cell false (.sl e (.str .nil)),.cell false .str] [.cell false .str] (fun a=>strings_Join N a.1 a.2)
theorem GU {O:Own} {w:World} {v:Value} {s:List UInt8} (h:Ak O w v (.str s)):v= .string ⟨s.toArray⟩:=by
  cases h with
  | str s=>exact congrArg Value.string (by rw[Array.toArray_toList])
theorem O9 {O:Own} {w w':World} {vs:Array Value} {e N:Nat} {s:List UInt8} (hb:Below w.heap.size w w'):Came O w vs (Fz e N) [.str s] (.string ⟨s.toArray⟩) O w':=by
  refine⟨Below.moves hb,fun b k _ h=>h,fun b k _ h=>h,rfl,⟨#[.string ⟨s.toArray⟩],rfl,rfl,fun k hk=> ?_⟩,fun j i hj=> ?_⟩
  ·have hk0:k=0:=by simp at hk;omega
   subst hk0
   show Ak O w' (.string ⟨s.toArray⟩) (.str s)
   exact Ak.str (O:=O) (w:=w') ⟨s.toArray⟩
  ·exact absurd hj (by show(BA [.cell false (.sl e (.str .nil)),.cell false .str] 0)[j]? ≠some i;simp [BA,Be])
def uP (P:Program) (f:FuncId):Prop :=
    (∀(a:Option Addr) (c:Nat) (sep:ByteArray) (w:World),Calls P f #[.slice a 0 c,.string sep] w fun e w'=>e= .returned (.string ⟨#[]⟩)/\w'=w) /\
    (∀(bk o c:Nat) (xs:List ByteArray) (sep:ByteArray) (w:World),(∀(j:Nat) x,xs[j]? =some x->w.cell? ⟨bk,o+j,none⟩=some (.string x))->bk<w.heap.size->xs.length<=140737488355328->xs.length<=c->(Lib.join (xs.map (·.data.toList)) sep.data.toList).length<=140737488355328 ->
      Calls P f #[.slice (some ⟨bk,o,none⟩) xs.length c,.string sep] w fun e w'=>e= .returned (.string ⟨(Lib.join (xs.map (·.data.toList)) sep.data.toList).toArray⟩)/\Below w.heap.size w w')
theorem dK {P:Program} {f:FuncId} {e N:Nat} (H:uP P f) {O:Own} {w:World} {vs:Array Value} (l:List Bs) (sep o:Bs) (hl2:vs.size=2) (hx0:Ak O w (vs.getD 0 undef) (.sl ⟨.str .nil,l⟩)) (hx1:Ak O w (vs.getD 1 undef) (.str sep)) (h2':strings_Join N l sep=some o) :
    Calls P f vs w fun e' w'=> ∃ v O',e'= .returned v/\Came O w vs (Fz e N) [.str o] v O' w':=by
  obtain⟨hn,hj⟩:=H
  have hvs:vs= #[vs.getD 0 undef,vs.getD 1 undef]:=by
    apply Array.ext
    ·simpa using hl2
    ·intro i h1 h2
     have:i=0\/i=1:=by simp at h2;omega
     rcases this with rfl | rfl
     ·simp [Array.getD_eq_getD_getElem?,h1]
     ·simp [Array.getD_eq_getD_getElem?,h1]
  rw[GU hx1]at hvs
  unfold strings_Join at h2'
  cases hc:(decide (l.length<=140737488355328)&&decide ((sep.intercalate l).length<=140737488355328))with
  | false=>rw[hc]at h2';cases h2'
  | true =>
    rw[hc]at h2'
    injection h2' with h2'
    rw[Bool.and_eq_true,decide_eq_true_eq,decide_eq_true_eq]at hc
    subst h2'
    have hes0:(⟨.str .nil,l⟩:Sl).es=l.map (fun s:Bs=>[A.str s]):=rfl
    generalize hv0:vs.getD 0 undef=v0 at *
    have hnil:l=[]-> ∀ a c,v0= .slice a 0 c->Calls P f vs w fun e' w'=> ∃ v O',e'= .returned v/\Came O w vs (Fz e N) [.str (sep.intercalate l)] v O' w':=by
      intro hl0 a c hv0'
      have:=hn a c ⟨sep.toArray⟩ w
      rw[<- hv0',<- hvs]at this
      refine this.mono fun e' w' hq=> ?_
      obtain⟨h4,h5⟩:=hq
      subst h5
      refine⟨_,O,h4,?_⟩
      have:sep.intercalate l=[]:=by rw[hl0];rfl
      rw[this]
      exact O9 (Below.refl _ _)
    have hsz:(⟨.str .nil,l⟩:Sl).sz=1:=rfl
    generalize hL:(⟨.str .nil,l⟩:Sl)=L at hx0 hes0 hsz
    have hlen:L.es.length=l.length:=by rw[hes0,List.length_map]
    have hes: ∀ j:Nat,L.es[j]? =(l[j]?).map (fun s=>[A.str s]):=fun j=>by rw[hes0,List.getElem?_map]
    cases hx0 with
    | nil t =>
      have:l=[]:=by injection hL with h1 h2;subst h1;exact eq_of_heq h2
      exact hnil this _ _ rfl
    | sl0 ad t =>
      have:l=[]:=by injection hL with h1 h2;subst h1;exact eq_of_heq h2
      exact hnil this _ _ rfl
    | @sl b off cap l' vs' hcap hm hr =>
      cases hl0:l with
      | nil=>rw[<- hl0];exact hnil hl0 _ cap (by rw[hlen,hl0];rfl)
      | cons s0 r =>
        have hb:b<w.heap.size:=by
          have:=(hm 0 0 (by rw[hlen,hl0];simp) (by omega)).2
          exact cell_lt this
        rw[<- hl0]
        have hmap:(l.map (fun s=>(⟨s.toArray⟩:ByteArray))).map (·.data.toList)=l:=by
          rw[List.map_map]
          conv=>rhs;rw[<- List.map_id l]
          refine List.map_congr_left fun s _=> ?_
          simp
        have hJ:=hj b off cap (l.map (fun s=>(⟨s.toArray⟩:ByteArray))) ⟨sep.toArray⟩ w (fun j x hjx=>by
          rw[List.getElem?_map]at hjx
          cases hlj:l[j]? with
          | none=>rw[hlj]at hjx;cases hjx
          | some s =>
            rw[hlj]at hjx
            injection hjx with hjx
            have hjl:j<L.es.length:=by
              rw[hlen]
              rcases Nat.lt_or_ge j l.length with h | h
              ·exact h
              ·rw[List.getElem?_eq_none h]at hlj;cases hlj
            have hm1:=(hm j 0 hjl (by omega)).2
            have hr1:=hr j 0 hjl (by omega)
            rw[List.getD_eq_getElem?_getD (l:=L.es),hes,hlj]at hr1
            have:=GU (show Ak O w (vs' j 0) (.str s)from hr1)
            rw[this]at hm1;rw[<- hjx]
            have e1:off+(j*L.sz+0)=off+j:=by rw[hsz];omega
            rw[e1]at hm1
            exact hm1) hb (by rw[List.length_map];exact hc.1) (by rw[List.length_map,<- hlen];exact hcap) (by rw[hmap];show(List.intercalate _ l).length<=_;simpa using hc.2)
        rw[List.length_map,hmap,<- hlen,<- hvs]at hJ
        refine hJ.mono fun e' w' hq=> ?_
        have e2:Lib.join l (⟨sep.toArray⟩:ByteArray).data.toList=sep.intercalate l:=by show List.intercalate _ l=_;simp
        rw[e2]at hq
        exact⟨_,O,hq.1,O9 hq.2⟩
theorem kG {P:Program} {f:FuncId} {e N:Nat} (hent: ∀ args w,(callFunc f args).run P w= .ok (.enter f args) w) (H:uP P f):Spec P f (Fz e N):=by
  refine⟨hent,fun O w vs xs rs _ hv hl _ hx hrs=> ?_⟩
  obtain⟨a,o,h1,h2,h3⟩:=Sig.Uh hrs
  subst h1
  have h3':rs=[.str o]:=h3
  rw[h3']
  exact dK H a.1 a.2 o hv (hx 0 (by show 0<2;omega)) (hx 1 (by show 1<2;omega)) h2
end Go.Proofs.YtbaomhegdndpnaaGreatDoor.Vm
namespace Go.Proofs
open Go.Shelf
def Tryz.lays156_ren:Go.Shelf.Ren:=⟨fun | 156=>194 | 165=>259 | 166=>260 | 169=>261 | 240=>297 | 241=>298 | 276=>321 | 277=>322 | n=>n,fun | 31=>67 | 9=>9 | 3=>3 | 4=>4 | 0=>0 | 20=>20 | 72=>270 | 76=>274 | 70=>268 | 37=>114 | 75=>273 | 127=>300 | 164=>316 | 5=>5 | 80=>124 | n=>n,fun | n=>n⟩
theorem Tryz.lays156:Go.Proofs.Lays.n156 Tryz.prog Tryz.lays156_ren:= {
  mixed:=by kernel_rfl
  f156:=Tryz.func194.trans (congrArg some (by kernel_rfl))
  f165:=Tryz.func259.trans (congrArg some (by kernel_rfl))
  f166:=Tryz.func260.trans (congrArg some (by kernel_rfl))
  f169:=Tryz.func261.trans (congrArg some (by kernel_rfl))
  f240:=Tryz.func297.trans (congrArg some (by kernel_rfl))
  f241:=Tryz.func298.trans (congrArg some (by kernel_rfl))
  f276:=Tryz.func321.trans (congrArg some (by kernel_rfl))
  f277:=Tryz.func322.trans (congrArg some (by kernel_rfl))
  t0:=Tryz.underlying0
  a0:=Tryz.isAgg0
  z0:=Tryz.sizeOf0
  v0:=Tryz.zeroValue0
  t3:=Tryz.underlying3
  a3:=Tryz.isAgg3
  z3:=Tryz.sizeOf3
  v3:=Tryz.zeroValue3
  t4:=Tryz.underlying4
  a4:=Tryz.isAgg4
  z4:=Tryz.sizeOf4
  v4:=Tryz.zeroValue4
  t9:=Tryz.underlying9
  a9:=Tryz.isAgg9
  z9:=Tryz.sizeOf9
  v9:=Tryz.zeroValue9
  t20:=Tryz.underlying20
  a20:=Tryz.isAgg20
  z20:=Tryz.sizeOf20
  v20:=Tryz.zeroValue20
  t31:=Tryz.underlying67
  a31:=Tryz.isAgg67
  z31:=Tryz.sizeOf67
  v31:=Tryz.zeroValue67
  t37:=Tryz.underlying114
  a37:=Tryz.isAgg114
  z37:=Tryz.sizeOf114
  v37:=Tryz.zeroValue114
  t70:=Tryz.underlying268
  a70:=Tryz.isAgg268
  z70:=Tryz.sizeOf268
  v70:=Tryz.zeroValue268
  t72:=Tryz.underlying270
  a72:=Tryz.isAgg270
  z72:=Tryz.sizeOf270
  v72:=Tryz.zeroValue270
  t75:=Tryz.underlying273
  a75:=Tryz.isAgg273
  z75:=Tryz.sizeOf273
  v75:=Tryz.zeroValue273
  t76:=Tryz.underlying274
  a76:=Tryz.isAgg274
  z76:=Tryz.sizeOf274
  v76:=Tryz.zeroValue274
  t127:=Tryz.underlying300
  a127:=Tryz.isAgg300
  z127:=Tryz.sizeOf300
  v127:=Tryz.zeroValue300
  t164:=Tryz.underlying316
  a164:=Tryz.isAgg316
  z164:=Tryz.sizeOf316
  v164:=Tryz.zeroValue316}
theorem Tryz.Builder_Extra_156:Builder.Extra Tryz.prog Tryz.lays156_ren:= {
  sizeBuilder:=by kernel_rfl
  liesBuilder:=by kernel_rfl
  t5:=Tryz.underlying5
  a5:=Tryz.isAgg5
  z5:=Tryz.sizeOf5
  v5:=Tryz.zeroValue5
  infoByte:=by kernel_rfl
  cellsByte:=by kernel_rfl
  sizeByte:=by kernel_rfl
  neB5:=by decide}
open Go.RowKit in
theorem Tryz.strings_Join_none (a:Option Addr) (c:Nat) (sep:ByteArray) (w:World) :
    Calls Tryz.prog 194 #[.slice a 0 c,.string sep] w fun e w'=>e= .returned (.string ⟨#[]⟩)/\w'=w:=Any.strings_Join_none Tryz.lays156 Tryz.Builder_Extra_156 a c sep w
open Go.RowKit in
theorem Tryz.strings_Join (bk o c:Nat) (xs:List ByteArray) (sep:ByteArray) (w:World) (hcells: ∀(j:Nat) x,xs[j]? =some x->w.cell? ⟨bk,o+j,none⟩=some (.string x)) (hbk:bk<w.heap.size) (hN:xs.length<=140737488355328) (hcap:xs.length<=c) (hlen:(Lib.join (xs.map (·.data.toList)) sep.data.toList).length<=140737488355328) :
    Calls Tryz.prog 194 #[.slice (some ⟨bk,o,none⟩) xs.length c,.string sep] w fun e w'=>e= .returned (.string ⟨(Lib.join (xs.map (·.data.toList)) sep.data.toList).toArray⟩)/\Below w.heap.size w w':=Any.strings_Join Tryz.lays156 Tryz.Builder_Extra_156 bk o c xs sep w hcells hbk hN hcap hlen
def Tryz.lays137_ren:Go.Shelf.Ren:=⟨fun | 137=>209 | 217=>268 | 266=>302 | n=>n,fun | 9=>9 | 5=>5 | 3=>3 | n=>n,fun | n=>n⟩
theorem Tryz.lays137:Go.Proofs.Lays.n137 Tryz.prog Tryz.lays137_ren:= {
  mixed:=by kernel_rfl
  f137:=Tryz.func209.trans (congrArg some (by kernel_rfl))
  f217:=Tryz.func268.trans (congrArg some (by kernel_rfl))
  f266:=Tryz.func302.trans (congrArg some (by kernel_rfl))
  t3:=Tryz.underlying3
  a3:=Tryz.isAgg3
  z3:=Tryz.sizeOf3
  v3:=Tryz.zeroValue3
  t5:=Tryz.underlying5
  a5:=Tryz.isAgg5
  z5:=Tryz.sizeOf5
  v5:=Tryz.zeroValue5
  t9:=Tryz.underlying9
  a9:=Tryz.isAgg9
  z9:=Tryz.sizeOf9
  v9:=Tryz.zeroValue9}
open Go.RowKit in
theorem Tryz.strings_IndexByte (s:ByteArray) (c:Int) (w:World) :
    Calls Tryz.prog 209 #[.string s,.int .u8 c] w fun e w'=>e= .returned (.int .i64 (Lib.indexByte s.data.toList c.toNat.toUInt8))/\w'=w:=Any.strings_IndexByte Tryz.lays137 s c w
def Tryz.lays103_ren:Go.Shelf.Ren:=⟨fun | 103=>273 | 210=>308 | 206=>301 | n=>n,fun | 9=>9 | 4=>4 | 24=>283 | 3=>3 | n=>n,fun | n=>n⟩
theorem Tryz.lays103:Go.Proofs.Lays.n103 Tryz.prog Tryz.lays103_ren:= {
  mixed:=by kernel_rfl
  f103:=Tryz.func273.trans (congrArg some (by kernel_rfl))
  f206:=Tryz.func301.trans (congrArg some (by kernel_rfl))
  f210:=Tryz.func308.trans (congrArg some (by kernel_rfl))
  t3:=Tryz.underlying3
  a3:=Tryz.isAgg3
  z3:=Tryz.sizeOf3
  v3:=Tryz.zeroValue3
  t4:=Tryz.underlying4
  a4:=Tryz.isAgg4
  z4:=Tryz.sizeOf4
  v4:=Tryz.zeroValue4
  t9:=Tryz.underlying9
  a9:=Tryz.isAgg9
  z9:=Tryz.sizeOf9
  v9:=Tryz.zeroValue9
  t24:=Tryz.underlying283
  a24:=Tryz.isAgg283
  z24:=Tryz.sizeOf283
  v24:=Tryz.zeroValue283}
open Go.RowKit in
theorem Tryz.strings_CutPrefix (s p:ByteArray) (w:World) :
    Calls Tryz.prog 273 #[.string s,.string p] w fun e w'=>e= .returned (.tuple #[.string ⟨(Lib.trimPrefix s.data.toList p.data.toList).toArray⟩,.bool (Lib.hasPrefix s.data.toList p.data.toList)])/\w'=w:=Any.strings_CutPrefix Tryz.lays103 s p w
def Tryz.laysM171_ren:Go.Shelf.Ren:=⟨fun | 171=>246 | 243=>293 | 246=>316 | 283=>339 | 284=>340 | 285=>341 | 286=>342 | 129=>333 | 317=>356 | 318=>357 | 319=>358 | 320=>359 | 337=>363 | 338=>364 | n=>n,fun | 3=>3 | 9=>9 | 2=>2 | 4=>4 | 171=>330 | 0=>0 | 53=>265 | 37=>114 | 5=>5 | 173=>332 | 212=>343 | 51=>143 | 20=>20 | 213=>344 | 46=>90 | 232=>354 | 233=>355 | n=>n,fun | 17=>2 | 18=>5 | 19=>6 | n=>n⟩
theorem Tryz.laysM171:Go.Proofs.LaysM.n171 Tryz.prog Tryz.laysM171_ren:= {
  mixed:=by kernel_rfl
  f129:=Tryz.func333.trans (congrArg some (by kernel_rfl))
  f171:=Tryz.func246.trans (congrArg some (by kernel_rfl))
  f243:=Tryz.func293.trans (congrArg some (by kernel_rfl))
  f246:=Tryz.func316.trans (congrArg some (by kernel_rfl))
  f283:=Tryz.func339.trans (congrArg some (by kernel_rfl))
  f284:=Tryz.func340.trans (congrArg some (by kernel_rfl))
  f285:=Tryz.func341.trans (congrArg some (by kernel_rfl))
  f286:=Tryz.func342.trans (congrArg some (by kernel_rfl))
  f317:=Tryz.func356.trans (congrArg some (by kernel_rfl))
  f318:=Tryz.func357.trans (congrArg some (by kernel_rfl))
  f319:=Tryz.func358.trans (congrArg some (by kernel_rfl))
  f320:=Tryz.func359.trans (congrArg some (by kernel_rfl))
  f337:=Tryz.func363.trans (congrArg some (by kernel_rfl))
  f338:=Tryz.func364.trans (congrArg some (by kernel_rfl))
  t0:=Tryz.underlying0
  a0:=Tryz.isAgg0
  z0:=Tryz.sizeOf0
  v0:=Tryz.zeroValue0
  t2:=Tryz.underlying2
  a2:=Tryz.isAgg2
  z2:=Tryz.sizeOf2
  v2:=Tryz.zeroValue2
  t3:=Tryz.underlying3
  a3:=Tryz.isAgg3
  z3:=Tryz.sizeOf3
  v3:=Tryz.zeroValue3
  t4:=Tryz.underlying4
  a4:=Tryz.isAgg4
  z4:=Tryz.sizeOf4
  v4:=Tryz.zeroValue4
  t5:=Tryz.underlying5
  a5:=Tryz.isAgg5
  z5:=Tryz.sizeOf5
  v5:=Tryz.zeroValue5
  t9:=Tryz.underlying9
  a9:=Tryz.isAgg9
  z9:=Tryz.sizeOf9
  v9:=Tryz.zeroValue9
  t20:=Tryz.underlying20
  a20:=Tryz.isAgg20
  z20:=Tryz.sizeOf20
  v20:=Tryz.zeroValue20
  t37:=Tryz.underlying114
  a37:=Tryz.isAgg114
  z37:=Tryz.sizeOf114
  v37:=Tryz.zeroValue114
  t46:=Tryz.underlying90
  a46:=Tryz.isAgg90
  z46:=Tryz.sizeOf90
  v46:=Tryz.zeroValue90
  t51:=Tryz.underlying143
  a51:=Tryz.isAgg143
  z51:=Tryz.sizeOf143
  v51:=Tryz.zeroValue143
  t53:=Tryz.underlying265
  a53:=Tryz.isAgg265
  z53:=Tryz.sizeOf265
  v53:=Tryz.zeroValue265
  t171:=Tryz.underlying330
  a171:=Tryz.isAgg330
  z171:=Tryz.sizeOf330
  v171:=Tryz.zeroValue330
  t173:=Tryz.underlying332
  a173:=Tryz.isAgg332
  z173:=Tryz.sizeOf332
  v173:=Tryz.zeroValue332
  t212:=Tryz.underlying343
  a212:=Tryz.isAgg343
  z212:=Tryz.sizeOf343
  v212:=Tryz.zeroValue343
  t213:=Tryz.underlying344
  a213:=Tryz.isAgg344
  z213:=Tryz.sizeOf344
  t232:=Tryz.underlying354
  a232:=Tryz.isAgg354
  z232:=Tryz.sizeOf354
  v232:=Tryz.zeroValue354
  t233:=Tryz.underlying355
  a233:=Tryz.isAgg355
  z233:=Tryz.sizeOf355
  v233:=Tryz.zeroValue355
  g17:=by kernel_rfl
  g18:=by kernel_rfl
  g19:=by kernel_rfl
  i0:=by kernel_rfl
  i2:=by kernel_rfl
  i3:=by kernel_rfl
  i4:=by kernel_rfl
  i5:=by kernel_rfl
  i9:=by kernel_rfl
  i20:=by kernel_rfl
  i37:=by kernel_rfl
  i46:=by kernel_rfl
  i51:=by kernel_rfl
  i53:=by kernel_rfl
  i171:=by kernel_rfl
  i173:=by kernel_rfl
  i212:=by kernel_rfl
  i232:=by kernel_rfl
  i233:=by kernel_rfl
  m17:=by kernel_rfl
  m18:=by kernel_rfl
  m19:=by kernel_rfl}
open Go.RowKit Go.Sort Go.Lib in
theorem Tryz.strconv_Itoa (n:Int) (h0: -9223372036854775808<=n) (h1:n<=9223372036854775807) (w:World) (htab:Lib.TabIs Tryz.prog w "internal/strconv.uint64pow10" .u64 Lib.pow10Tab) :
    Calls Tryz.prog 246 #[.int .i64 n] w fun e w'=>e= .returned (.string ⟨(Lib.itoa n).toArray⟩)/\ ∃ k os,w'=grow (w.drewN k) os:=Any.strconv_Itoa Tryz.laysM171 n h0 h1 w htab
def Tryz.lays144_ren:Go.Shelf.Ren:=⟨fun | 144=>274 | 143=>309 | 219=>334 | 217=>268 | 225=>353 | 224=>354 | 267=>355 | 266=>302 | 314=>362 | n=>n,fun | 9=>9 | 4=>4 | 3=>3 | 5=>5 | 46=>90 | 146=>348 | 51=>143 | n=>n,fun | 1=>1 | n=>n⟩
theorem Tryz.lays144:Go.Proofs.Lays.n144 Tryz.prog Tryz.lays144_ren:= {
  mixed:=by kernel_rfl
  f143:=Tryz.func309.trans (congrArg some (by kernel_rfl))
  f144:=Tryz.func274.trans (congrArg some (by kernel_rfl))
  f217:=Tryz.func268.trans (congrArg some (by kernel_rfl))
  f219:=Tryz.func334.trans (congrArg some (by kernel_rfl))
  f224:=Tryz.func354.trans (congrArg some (by kernel_rfl))
  f225:=Tryz.func353.trans (congrArg some (by kernel_rfl))
  f266:=Tryz.func302.trans (congrArg some (by kernel_rfl))
  f267:=Tryz.func355.trans (congrArg some (by kernel_rfl))
  f314:=Tryz.func362.trans (congrArg some (by kernel_rfl))
  t3:=Tryz.underlying3
  a3:=Tryz.isAgg3
  z3:=Tryz.sizeOf3
  v3:=Tryz.zeroValue3
  t4:=Tryz.underlying4
  a4:=Tryz.isAgg4
  z4:=Tryz.sizeOf4
  v4:=Tryz.zeroValue4
  t5:=Tryz.underlying5
  a5:=Tryz.isAgg5
  z5:=Tryz.sizeOf5
  v5:=Tryz.zeroValue5
  t9:=Tryz.underlying9
  a9:=Tryz.isAgg9
  z9:=Tryz.sizeOf9
  v9:=Tryz.zeroValue9
  t46:=Tryz.underlying90
  a46:=Tryz.isAgg90
  z46:=Tryz.sizeOf90
  v46:=Tryz.zeroValue90
  t51:=Tryz.underlying143
  a51:=Tryz.isAgg143
  z51:=Tryz.sizeOf143
  v51:=Tryz.zeroValue143
  t146:=Tryz.underlying348
  a146:=Tryz.isAgg348
  z146:=Tryz.sizeOf348
  v146:=Tryz.zeroValue348
  g1:=by kernel_rfl}
open Go.RowKit Go.Lib in
theorem Tryz.strings_Contains (s sub:ByteArray) (m:Int) (w:World) (hs:s.size<4294967281) (hm:w.cell? ⟨1,0,none⟩=some (.int .i64 m)) :
    Calls Tryz.prog 274 #[.string s,.string sub] w fun e w'=>e= .returned (.bool (Lib.contains s.data.toList sub.data.toList))/\w'=w:=Any.strings_Contains Tryz.lays144 s sub m w hs hm
def Tryz.lays145_ren:Go.Shelf.Ren:=⟨fun | 145=>271 | 220=>305 | 219=>334 | 217=>268 | 225=>353 | 224=>354 | 267=>355 | 266=>302 | 314=>362 | n=>n,fun | 9=>9 | 4=>4 | 59=>281 | 3=>3 | 5=>5 | 46=>90 | 146=>348 | 51=>143 | n=>n,fun | 1=>1 | n=>n⟩
theorem Tryz.lays145:Go.Proofs.Lays.n145 Tryz.prog Tryz.lays145_ren:= {
  mixed:=by kernel_rfl
  f145:=Tryz.func271.trans (congrArg some (by kernel_rfl))
  f217:=Tryz.func268.trans (congrArg some (by kernel_rfl))
  f219:=Tryz.func334.trans (congrArg some (by kernel_rfl))
  f220:=Tryz.func305.trans (congrArg some (by kernel_rfl))
  f224:=Tryz.func354.trans (congrArg some (by kernel_rfl))
  f225:=Tryz.func353.trans (congrArg some (by kernel_rfl))
  f266:=Tryz.func302.trans (congrArg some (by kernel_rfl))
  f267:=Tryz.func355.trans (congrArg some (by kernel_rfl))
  f314:=Tryz.func362.trans (congrArg some (by kernel_rfl))
  t3:=Tryz.underlying3
  a3:=Tryz.isAgg3
  z3:=Tryz.sizeOf3
  v3:=Tryz.zeroValue3
  t4:=Tryz.underlying4
  a4:=Tryz.isAgg4
  z4:=Tryz.sizeOf4
  v4:=Tryz.zeroValue4
  t5:=Tryz.underlying5
  a5:=Tryz.isAgg5
  z5:=Tryz.sizeOf5
  v5:=Tryz.zeroValue5
  t9:=Tryz.underlying9
  a9:=Tryz.isAgg9
  z9:=Tryz.sizeOf9
  v9:=Tryz.zeroValue9
  t46:=Tryz.underlying90
  a46:=Tryz.isAgg90
  z46:=Tryz.sizeOf90
  v46:=Tryz.zeroValue90
  t51:=Tryz.underlying143
  a51:=Tryz.isAgg143
  z51:=Tryz.sizeOf143
  v51:=Tryz.zeroValue143
  t59:=Tryz.underlying281
  a59:=Tryz.isAgg281
  z59:=Tryz.sizeOf281
  v59:=Tryz.zeroValue281
  t146:=Tryz.underlying348
  a146:=Tryz.isAgg348
  z146:=Tryz.sizeOf348
  v146:=Tryz.zeroValue348
  g1:=by kernel_rfl}
open Go.RowKit Go.Lib in
theorem Tryz.strings_Cut (s sep:ByteArray) (m:Int) (w:World) (hs:s.size<4294967281) (hm:w.cell? ⟨1,0,none⟩=some (.int .i64 m)) :
    Calls Tryz.prog 271 #[.string s,.string sep] w fun e w'=>e= .returned (.tuple #[.string ⟨(Lib.cut s.data.toList sep.data.toList).1.toArray⟩,.string ⟨(Lib.cut s.data.toList sep.data.toList).2.1.toArray⟩,.bool (Lib.cut s.data.toList sep.data.toList).2.2])/\ ∃ n,w'=w.drewN n:=Any.strings_Cut Tryz.lays145 s sep m w hs hm
def Tryz.lays192_ren:Go.Shelf.Ren:=⟨fun | 192=>195 | 190=>262 | 125=>300 | 258=>299 | 128=>332 | 129=>333 | 302=>323 | 303=>324 | 304=>325 | 305=>326 | 306=>327 | 307=>328 | 308=>329 | 309=>330 | 310=>331 | 333=>347 | 329=>348 | 330=>349 | 334=>350 | 335=>351 | 336=>352 | 344=>361 | n=>n,fun | 31=>67 | 0=>0 | 9=>9 | 3=>3 | 46=>90 | 51=>143 | 53=>265 | 4=>4 | 183=>321 | 182=>320 | 131=>164 | 5=>5 | 218=>336 | 222=>340 | 228=>345 | 229=>346 | n=>n,fun | n=>n⟩
theorem Tryz.lays192:Go.Proofs.Lays.n192 Tryz.prog Tryz.lays192_ren:= {
  mixed:=by kernel_rfl
  f125:=Tryz.func300.trans (congrArg some (by kernel_rfl))
  f128:=Tryz.func332.trans (congrArg some (by kernel_rfl))
  f129:=Tryz.func333.trans (congrArg some (by kernel_rfl))
  f190:=Tryz.func262.trans (congrArg some (by kernel_rfl))
  f192:=Tryz.func195.trans (congrArg some (by kernel_rfl))
  f258:=Tryz.func299.trans (congrArg some (by kernel_rfl))
  f302:=Tryz.func323.trans (congrArg some (by kernel_rfl))
  f303:=Tryz.func324.trans (congrArg some (by kernel_rfl))
  f304:=Tryz.func325.trans (congrArg some (by kernel_rfl))
  f305:=Tryz.func326.trans (congrArg some (by kernel_rfl))
  f306:=Tryz.func327.trans (congrArg some (by kernel_rfl))
  f307:=Tryz.func328.trans (congrArg some (by kernel_rfl))
  f308:=Tryz.func329.trans (congrArg some (by kernel_rfl))
  f309:=Tryz.func330.trans (congrArg some (by kernel_rfl))
  f310:=Tryz.func331.trans (congrArg some (by kernel_rfl))
  f329:=Tryz.func348.trans (congrArg some (by kernel_rfl))
  f330:=Tryz.func349.trans (congrArg some (by kernel_rfl))
  f333:=Tryz.func347.trans (congrArg some (by kernel_rfl))
  f334:=Tryz.func350.trans (congrArg some (by kernel_rfl))
  f335:=Tryz.func351.trans (congrArg some (by kernel_rfl))
  f336:=Tryz.func352.trans (congrArg some (by kernel_rfl))
  f344:=Tryz.func361.trans (congrArg some (by kernel_rfl))
  t0:=Tryz.underlying0
  a0:=Tryz.isAgg0
  z0:=Tryz.sizeOf0
  v0:=Tryz.zeroValue0
  t3:=Tryz.underlying3
  a3:=Tryz.isAgg3
  z3:=Tryz.sizeOf3
  v3:=Tryz.zeroValue3
  t4:=Tryz.underlying4
  a4:=Tryz.isAgg4
  z4:=Tryz.sizeOf4
  v4:=Tryz.zeroValue4
  t5:=Tryz.underlying5
  a5:=Tryz.isAgg5
  z5:=Tryz.sizeOf5
  v5:=Tryz.zeroValue5
  t9:=Tryz.underlying9
  a9:=Tryz.isAgg9
  z9:=Tryz.sizeOf9
  v9:=Tryz.zeroValue9
  t31:=Tryz.underlying67
  a31:=Tryz.isAgg67
  z31:=Tryz.sizeOf67
  v31:=Tryz.zeroValue67
  t46:=Tryz.underlying90
  a46:=Tryz.isAgg90
  z46:=Tryz.sizeOf90
  v46:=Tryz.zeroValue90
  t51:=Tryz.underlying143
  a51:=Tryz.isAgg143
  z51:=Tryz.sizeOf143
  v51:=Tryz.zeroValue143
  t53:=Tryz.underlying265
  a53:=Tryz.isAgg265
  z53:=Tryz.sizeOf265
  v53:=Tryz.zeroValue265
  t131:=Tryz.underlying164
  a131:=Tryz.isAgg164
  z131:=Tryz.sizeOf164
  v131:=Tryz.zeroValue164
  t182:=Tryz.underlying320
  a182:=Tryz.isAgg320
  z182:=Tryz.sizeOf320
  v182:=Tryz.zeroValue320
  t183:=Tryz.underlying321
  a183:=Tryz.isAgg321
  z183:=Tryz.sizeOf321
  v183:=Tryz.zeroValue321
  t218:=Tryz.underlying336
  a218:=Tryz.isAgg336
  z218:=Tryz.sizeOf336
  v218:=Tryz.zeroValue336
  t222:=Tryz.underlying340
  a222:=Tryz.isAgg340
  z222:=Tryz.sizeOf340
  v222:=Tryz.zeroValue340
  t228:=Tryz.underlying345
  a228:=Tryz.isAgg345
  z228:=Tryz.sizeOf345
  v228:=Tryz.zeroValue345
  t229:=Tryz.underlying346
  a229:=Tryz.isAgg346
  z229:=Tryz.sizeOf346
  v229:=Tryz.zeroValue346}
open Go.Sort Go.RowKit in
theorem Tryz.sort_Strings (blk off cap:Nat) (ss:List (List UInt8)) (w:World) (hH:Holds encStr w blk off ss.toArray) (hblk:blk<w.heap.size) (hsz:ss.length<4611686018427387904) :
    Calls Tryz.prog 195 #[.slice (some ⟨blk,off,none⟩) ss.length cap] w fun e w' =>
      e= .returned (.tuple #[])/\ ∃ n os,w'=grow (putRow encStr (Sort.ahead w n) blk off (ss.mergeSort fun x y=>decide (x<=y)).toArray) os:=Any.sort_Strings Tryz.lays192 blk off cap ss w hH hblk hsz
def Tryz.lays99_ren:Go.Shelf.Ren:=⟨fun | 99=>267 | 206=>301 | n=>n,fun | 9=>9 | 4=>4 | 3=>3 | n=>n,fun | n=>n⟩
theorem Tryz.lays99:Go.Proofs.Lays.n99 Tryz.prog Tryz.lays99_ren:= {
  mixed:=by kernel_rfl
  f99:=Tryz.func267.trans (congrArg some (by kernel_rfl))
  f206:=Tryz.func301.trans (congrArg some (by kernel_rfl))
  t3:=Tryz.underlying3
  a3:=Tryz.isAgg3
  z3:=Tryz.sizeOf3
  v3:=Tryz.zeroValue3
  t4:=Tryz.underlying4
  a4:=Tryz.isAgg4
  z4:=Tryz.sizeOf4
  v4:=Tryz.zeroValue4
  t9:=Tryz.underlying9
  a9:=Tryz.isAgg9
  z9:=Tryz.sizeOf9
  v9:=Tryz.zeroValue9}
open Go.RowKit Go.Lib in
theorem Tryz.strings_HasPrefix (s p:ByteArray) (w:World) :
    Calls Tryz.prog 267 #[.string s,.string p] w fun e w'=>e= .returned (.bool (Lib.hasPrefix s.data.toList p.data.toList))/\w'=w:=Any.strings_HasPrefix Tryz.lays99 s p w
def Tryz.lays101_ren:Go.Shelf.Ren:=⟨fun | 101=>270 | 208=>304 | 206=>301 | n=>n,fun | 9=>9 | 4=>4 | 3=>3 | n=>n,fun | n=>n⟩
theorem Tryz.lays101:Go.Proofs.Lays.n101 Tryz.prog Tryz.lays101_ren:= {
  mixed:=by kernel_rfl
  f101:=Tryz.func270.trans (congrArg some (by kernel_rfl))
  f206:=Tryz.func301.trans (congrArg some (by kernel_rfl))
  f208:=Tryz.func304.trans (congrArg some (by kernel_rfl))
  t3:=Tryz.underlying3
  a3:=Tryz.isAgg3
  z3:=Tryz.sizeOf3
  v3:=Tryz.zeroValue3
  t4:=Tryz.underlying4
  a4:=Tryz.isAgg4
  z4:=Tryz.sizeOf4
  v4:=Tryz.zeroValue4
  t9:=Tryz.underlying9
  a9:=Tryz.isAgg9
  z9:=Tryz.sizeOf9
  v9:=Tryz.zeroValue9}
open Go.RowKit Go.Lib in
theorem Tryz.strings_TrimPrefix (s p:ByteArray) (w:World) :
    Calls Tryz.prog 270 #[.string s,.string p] w fun e w'=>e= .returned (.string ⟨(Lib.trimPrefix s.data.toList p.data.toList).toArray⟩)/\w'=w:=Any.strings_TrimPrefix Tryz.lays101 s p w
def Tryz.lays146_ren:Go.Shelf.Ren:=⟨fun | 146=>256 | 221=>296 | 268=>319 | 138=>320 | 143=>309 | 195=>344 | 197=>345 | 218=>346 | 219=>334 | 260=>360 | 217=>268 | 225=>353 | 224=>354 | 267=>355 | 266=>302 | 314=>362 | n=>n,fun | 9=>9 | 31=>67 | 3=>3 | 4=>4 | 0=>0 | 105=>334 | 21=>21 | 5=>5 | 46=>90 | 119=>350 | 139=>353 | 138=>352 | 146=>348 | 51=>143 | n=>n,fun | 1=>1 | 3=>3 | 4=>4 | n=>n⟩
theorem Tryz.lays146:Go.Proofs.Lays.n146 Tryz.prog Tryz.lays146_ren:= {
  mixed:=by kernel_rfl
  f138:=Tryz.func320.trans (congrArg some (by kernel_rfl))
  f143:=Tryz.func309.trans (congrArg some (by kernel_rfl))
  f146:=Tryz.func256.trans (congrArg some (by kernel_rfl))
  f195:=Tryz.func344.trans (congrArg some (by kernel_rfl))
  f197:=Tryz.func345.trans (congrArg some (by kernel_rfl))
  f217:=Tryz.func268.trans (congrArg some (by kernel_rfl))
  f218:=Tryz.func346.trans (congrArg some (by kernel_rfl))
  f219:=Tryz.func334.trans (congrArg some (by kernel_rfl))
  f221:=Tryz.func296.trans (congrArg some (by kernel_rfl))
  f224:=Tryz.func354.trans (congrArg some (by kernel_rfl))
  f225:=Tryz.func353.trans (congrArg some (by kernel_rfl))
  f260:=Tryz.func360.trans (congrArg some (by kernel_rfl))
  f266:=Tryz.func302.trans (congrArg some (by kernel_rfl))
  f267:=Tryz.func355.trans (congrArg some (by kernel_rfl))
  f268:=Tryz.func319.trans (congrArg some (by kernel_rfl))
  f314:=Tryz.func362.trans (congrArg some (by kernel_rfl))
  t0:=Tryz.underlying0
  a0:=Tryz.isAgg0
  z0:=Tryz.sizeOf0
  v0:=Tryz.zeroValue0
  t3:=Tryz.underlying3
  a3:=Tryz.isAgg3
  z3:=Tryz.sizeOf3
  v3:=Tryz.zeroValue3
  t4:=Tryz.underlying4
  a4:=Tryz.isAgg4
  z4:=Tryz.sizeOf4
  v4:=Tryz.zeroValue4
  t5:=Tryz.underlying5
  a5:=Tryz.isAgg5
  z5:=Tryz.sizeOf5
  v5:=Tryz.zeroValue5
  t9:=Tryz.underlying9
  a9:=Tryz.isAgg9
  z9:=Tryz.sizeOf9
  v9:=Tryz.zeroValue9
  t21:=Tryz.underlying21
  a21:=Tryz.isAgg21
  z21:=Tryz.sizeOf21
  v21:=Tryz.zeroValue21
  t31:=Tryz.underlying67
  a31:=Tryz.isAgg67
  z31:=Tryz.sizeOf67
  v31:=Tryz.zeroValue67
  t46:=Tryz.underlying90
  a46:=Tryz.isAgg90
  z46:=Tryz.sizeOf90
  v46:=Tryz.zeroValue90
  t51:=Tryz.underlying143
  a51:=Tryz.isAgg143
  z51:=Tryz.sizeOf143
  v51:=Tryz.zeroValue143
  t105:=Tryz.underlying334
  a105:=Tryz.isAgg334
  z105:=Tryz.sizeOf334
  v105:=Tryz.zeroValue334
  t119:=Tryz.underlying350
  a119:=Tryz.isAgg350
  z119:=Tryz.sizeOf350
  t138:=Tryz.underlying352
  a138:=Tryz.isAgg352
  z138:=Tryz.sizeOf352
  v138:=Tryz.zeroValue352
  t139:=Tryz.underlying353
  a139:=Tryz.isAgg353
  z139:=Tryz.sizeOf353
  v139:=Tryz.zeroValue353
  t146:=Tryz.underlying348
  a146:=Tryz.isAgg348
  z146:=Tryz.sizeOf348
  v146:=Tryz.zeroValue348
  g1:=by kernel_rfl
  g3:=by kernel_rfl
  g4:=by kernel_rfl}
open Go.RowKit Go.Lib in
theorem Tryz.strings_Split (s sep:ByteArray) (m:Int) (w:World) (hs:s.size<4294967281) (hm:w.cell? ⟨1,0,none⟩=some (.int .i64 m)) (h1:1<=sep.size) :
    Calls Tryz.prog 256 #[.string s,.string sep] w fun e w' =>
      e= .returned (.slice (some ⟨w.heap.size,0,none⟩) (Lib.countB s sep+1) (Lib.countB s sep+1))/\w'=w.alloc (.cells ((Lib.splitB sep 0 (Lib.countB s sep) s).map Value.string).toArray 9):=Any.strings_Split Tryz.lays146 (by kernel_rfl) s sep m w hs hm h1
end Go.Proofs
namespace Go.Proofs.YtbaomhegdndpnaaGreatDoor.Vm
open Go.Proofs
noncomputable def LQ (N:Nat):Sig:=Fz 9 N
theorem OA (N:Nat):Spec Tryz.prog 194 (LQ N) :=
  kG (enters (fn:=Tryz.f194) (by kernel_rfl) (by kernel_rfl) (by decide)) ⟨Tryz.strings_Join_none,Tryz.strings_Join⟩
open Go.RowKit
def CK.flat:CK->Bool | .bool=>true | .int _=>true | .str=>true | _=>false
def Sh.flat:Sh->Bool | .cell false k=>k.flat | _=>false
def A.flat:A->Bool | .bool _=>true | .int _ _=>true | .str _=>true | _=>false
def rvA:A->Value | .bool b=>.bool b | .int k n=>.int k n | .str s=>.string ⟨s.toArray⟩ | _=>undef
theorem AeW {O:Own} {w:World} {id:Nat} {v:Value} {x:A} (hf:x.flat=true) (h:IR O w id v x):v=rvA x:=by
  cases x with
  | bool b=>have h':Ak O w v (.bool b):=h;cases h';rfl
  | int k n=>have h':Ak O w v (.int k n):=h;cases h';rfl
  | str s=>exact GU (show Ak O w v (.str s)from h)
  | _=>cases hf
theorem Afb {O:Own} {w:World} {id:Nat} {x:A} (hf:x.flat=true):IR O w id (rvA x) x:=by
  cases x with
  | bool b=>exact Ak.bool b
  | int k n=>exact Ak.int k n
  | str s=>exact Ak.str (O:=O) (w:=w) ⟨s.toArray⟩
  | _=>cases hf
theorem Sh.AdO {s:Sh} (h:s.flat=true) (v:s.T):(s.enc v).flat=true:=by
  cases s with
  | cell u k=>cases u<;>cases k<;>first | (cases h;done) | rfl
  | _=>cases h
theorem XJ: ∀(ss:List Sh) (v:ShT ss),ss.all Sh.flat=true->(encs ss v).all A.flat=true:=by
  intro ss
  induction ss with
  | nil=>intro v _;rfl
  | cons s r ih =>
    intro v h
    rw[List.all_cons,Bool.and_eq_true]at h
    show((s.enc _).flat&&(encs r _).all A.flat)=true
    rw[Sh.AdO h.1,ih _ h.2];rfl
theorem AdP: ∀(ss:List Sh) (v:ShT ss),(encs ss v).length=ss.length:=by
  intro ss
  induction ss with
  | nil=>intro v;rfl
  | cons s r ih=>intro v;show(encs r _).length+1=_;rw[ih];rfl
theorem dZ: ∀(ss:List Sh) (i:Nat),ss.all Sh.flat=true->BA ss i=[]:=by
  intro ss
  induction ss with
  | nil=>intro i _;rfl
  | cons s r ih =>
    intro i h
    rw[List.all_cons,Bool.and_eq_true]at h
    unfold BA
    have:Be s=false:=by cases s<;>first | rfl | (cases h.1;done)
    rw[this]
    exact ih _ h.2
theorem Ade (pars ress:List Sh) (h:pars.all Sh.flat=true):outS pars ress=ress:=by
  unfold outS
  rw[List.filterMap_eq_nil_iff.2 (fun s hs=> ?_),List.append_nil]
  have:=List.all_eq_true.1 h s hs
  cases s<;>first | rfl | (cases this;done)
theorem oW {l:List A} (h:l.all A.flat=true) {j:Nat} (hj:j<l.length):(l.getD j .undef).flat=true:=by
  rw[List.getD_eq_getElem?_getD,List.getElem?_eq_getElem hj]
  exact List.all_eq_true.1 h _ (List.getElem_mem hj)
theorem ZM (l:List A) (j:Nat) (hj:j<l.length):((l.map rvA).toArray).getD j undef=rvA (l.getD j .undef):=by
  simp [Array.getD_eq_getD_getElem?,List.getD_eq_getElem?_getD,hj]
theorem Acu {O:Own} {w w':World} {vs:Array Value} {sg:Sig} {rs:List A} (hp:sg.pars.all Sh.flat=true) (hl:rs.length=sg.ress.length) (hf:rs.all A.flat=true) (hb:Below w.heap.size w w'):Came O w vs sg rs (yM (rs.map rvA).toArray) O w':=by
  have hix:BA sg.pars 0=[]:=dZ _ _ hp
  refine⟨Below.moves hb,fun b k _ h=>h,fun b k _ h=>h,by rw[hix,hl];rfl,⟨(rs.map rvA).toArray,by simp [hl],rfl,fun k hk=> ?_⟩,fun j i hj=> ?_⟩
  ·have hk':k<rs.length:=by simpa using hk
   rw[ZM rs k hk']
   exact Afb (oW hf hk')
  ·rw[hix]at hj;cases hj
theorem oH {O:Own} {w:World} {vs:Array Value} {xs:List A} (hf:xs.all A.flat=true) (hv:vs.size=xs.length) (hx: ∀ j,j<xs.length->IR O w (256*j) (vs.getD j undef) (xs.getD j .undef)):vs=(xs.map rvA).toArray:=by
  apply Array.ext
  ·simp [hv]
  ·intro i h1 h2
   have hi:i<xs.length:=by omega
   have:=AeW (oW hf hi) (hx i hi)
   rw[<- ZM xs i hi]at this
   simp only[Array.getD_eq_getD_getElem?,Array.getElem?_eq_getElem h1,Array.getElem?_eq_getElem h2,Option.getD_some]at this
   exact this
theorem yY (w:World) (k:Nat) (os:Array Go.Obj):Below w.heap.size w (Go.Sort.grow (w.drewN k) os) :=
  ⟨rfl,rfl,rfl,by show _<=(w.heap++os).size;simp,fun i hi=>by show(w.heap++os)[i]? =_;rw[Array.getElem?_append_left hi]⟩
theorem GZ {P:Program} {f:FuncId} {pars ress:List Sh} {g:ShT pars->Option (ShT (outS pars ress))} (hp:pars.all Sh.flat=true) (hr:ress.all Sh.flat=true) (hent: ∀ args w,(callFunc f args).run P w= .ok (.enter f args) w)
    (H: ∀(O:Own) (w:World) (a:ShT pars) (o:ShT (outS pars ress)),Inv O w->g a=some o->Calls P f ((encs pars a).map rvA).toArray w fun e w'=>e= .returned (yM ((encs (outS pars ress) o).map rvA).toArray)/\Below w.heap.size w w'):Spec P f (Sig.of pars ress g):=by
  refine⟨hent,fun O w vs xs rs hI hv hl _ hx hrs=> ?_⟩
  obtain⟨a,o,h1,h2,h3⟩:=Sig.Uh hrs
  subst h1
  have hvs:=oH (XJ pars a hp) hv hx
  rw[hvs]
  refine(H O w a o hI h2).mono fun e w' hq=> ?_
  obtain⟨he,hb⟩:=hq
  subst h3
  have ho:outS pars ress=ress:=Ade pars ress hp
  refine⟨_,O,he,Acu (sg:=Sig.of pars ress g) hp ?_ ?_ hb⟩
  ·rw[AdP,ho];rfl
  ·exact XJ _ _ (by rw[ho];exact hr)
def strings_Split (_:Nat) (s sep:Bs):Option (List Bs):=bif decide (s.length<4294967281)&&decide (1<=sep.length)then some (Lib.split s sep)else none
def strings_IndexByte (_:Nat) (s:Bs) (c:Int):Option Int:=some (Lib.indexByte s c.toNat.toUInt8)
def strings_Cut (_:Nat) (s sep:Bs):Option (Bs×Bs×Bool):=bif decide (s.length<4294967281)then some (Lib.cut s sep)else none
def strings_CutPrefix (_:Nat) (s p:Bs):Option (Bs×Bool):=some (Lib.trimPrefix s p,Lib.hasPrefix s p)
def strings_TrimPrefix (_:Nat) (s p:Bs):Option Bs:=some (Lib.trimPrefix s p)
def strings_HasPrefix (_:Nat) (s p:Bs):Option Bool:=some (Lib.hasPrefix s p)
def strings_Contains (_:Nat) (s p:Bs):Option Bool:=bif decide (s.length<4294967281)then some (Lib.contains s p)else none
def strconv_Itoa (_:Nat) (n:Int):Option Bs:=bif decide (-9223372036854775808<=n)&&decide (n<=9223372036854775807)then some (Lib.itoa n)else none
def xM (l:List Bs):Bs:=(l.mergeSort fun x y=>decide (x<=y)).flatten
def Ns (_:Nat) (l:List Bs):Option Bs:=bif decide (0<l.length)&&(decide (l.length<=1099511627776)&&decide (l.flatten.length<=140737488355328))then some (xM l)else none
def JA (s:ByteArray):Nat->Nat->Bool
  | 0,_=>true
  | n+1,i=>if i<s.size then
     let d:=Utf8.decode s i
     if d.1<32\/d.1=127 then false
     else if d.1=65533/\Lib.hasPrefix (s.data.toList.drop i) [239,191,189]=false then false
     else JA s n (i+d.2)
    else true
def AfY (s:Bs):Bool:=JA ⟨s.toArray⟩ s.length 0
def yJ (_:Nat) (s:Bs):Option Bool:=bif decide (s.length<4294967281)then some (AfY s)else none
open Go.Proofs Go.RowKit
noncomputable def Hu (N:Nat):Sig:=.of [.cell false .str,.cell false .str] [.cell false .bool] (fun a=>strings_Contains N a.1 a.2)
theorem J8 (N:Nat):Spec Tryz.prog 274 (Hu N) :=
  GZ rfl rfl (enters (fn:=Tryz.f274) (by kernel_rfl) (by kernel_rfl) (by decide)) fun O w (a:Bs×Bs) (o:Bool) hI h=>by
   obtain⟨s,c⟩:=a
   have h:(bif decide (List.length s<4294967281)then some (Lib.contains s c)else none)=some o:=h
   cases hc:decide (List.length s<4294967281)with
   | false=>rw[hc]at h;cases h
   | true =>
   rw[hc]at h
   injection h with h
   subst h
   have hs:=of_decide_eq_true hc
   obtain⟨_,v,hm,m,rfl⟩:=hI.1 1 0 _ rfl
   refine(Tryz.strings_Contains ⟨List.toArray s⟩ ⟨List.toArray c⟩ m w hs hm).mono fun e w' hq=> ?_
   obtain⟨h1,h2⟩:=hq
   subst h2
   exact⟨h1,Below.refl _ _⟩
noncomputable def Lr (N:Nat):Sig:=.of [.cell false .str,.cell false .str] [.cell false .str,.cell false .bool] (fun a=>strings_CutPrefix N a.1 a.2)
theorem Tm (N:Nat):Spec Tryz.prog 273 (Lr N) :=
  GZ rfl rfl (enters (fn:=Tryz.f273) (by kernel_rfl) (by kernel_rfl) (by decide)) fun O w (a:Bs×Bs) (o:Bs×Bool) hI h=>by
   obtain⟨s,c⟩:=a
   have h:some ((Lib.trimPrefix s c,Lib.hasPrefix s c))=some o:=h
   injection h with h
   subst h
   refine(Tryz.strings_CutPrefix ⟨List.toArray s⟩ ⟨List.toArray c⟩ w).mono fun e w' hq=> ?_
   obtain⟨h1,h2⟩:=hq
   subst h2
   exact⟨h1,Below.refl _ _⟩
noncomputable def WB (N:Nat):Sig:=.of [.cell false .str,.cell false .str] [.cell false .str,.cell false .str,.cell false .bool] (fun a=>strings_Cut N a.1 a.2)
theorem dJ (N:Nat):Spec Tryz.prog 271 (WB N) :=
  GZ rfl rfl (enters (fn:=Tryz.f271) (by kernel_rfl) (by kernel_rfl) (by decide)) fun O w (a:Bs×Bs) (o:Bs×Bs×Bool) hI h=>by
   obtain⟨s,c⟩:=a
   have h:(bif decide (List.length s<4294967281)then some (Lib.cut s c)else none)=some o:=h
   cases hc:decide (List.length s<4294967281)with
   | false=>rw[hc]at h;cases h
   | true =>
   rw[hc]at h
   injection h with h
   subst h
   have hs:=of_decide_eq_true hc
   obtain⟨_,v,hm,m,rfl⟩:=hI.1 1 0 _ rfl
   refine(Tryz.strings_Cut ⟨List.toArray s⟩ ⟨List.toArray c⟩ m w hs hm).mono fun e w' hq=> ?_
   obtain⟨h1,n,h2⟩:=hq
   subst h2
   exact⟨h1,⟨rfl,rfl,rfl,Nat.le_refl _,fun _ _=>rfl⟩⟩
noncomputable def G6 (N:Nat):Sig:=.of [.cell false .str,.cell false (.int .u8)] [.cell false (.int .i64)] (fun a=>strings_IndexByte N a.1 a.2)
theorem IP (N:Nat):Spec Tryz.prog 209 (G6 N) :=
  GZ rfl rfl (enters (fn:=Tryz.f209) (by kernel_rfl) (by kernel_rfl) (by decide)) fun O w (a:Bs×Int) (o:Int) hI h=>by
   obtain⟨s,c⟩:=a
   have h:some (Lib.indexByte s c.toNat.toUInt8)=some o:=h
   injection h with h
   subst h
   refine(Tryz.strings_IndexByte ⟨List.toArray s⟩ c w).mono fun e w' hq=> ?_
   obtain⟨h1,h2⟩:=hq
   subst h2
   exact⟨h1,Below.refl _ _⟩
theorem Ael {O:Own} {w:World} (hI:Inv O w):Lib.TabIs Tryz.prog w "internal/strconv.uint64pow10" .u64 Lib.pow10Tab:=by
  obtain⟨c,e,fr,h1,h2⟩:=hI.2 2 20 rfl
  have hg:Tryz.prog.globalNamed "internal/strconv.uint64pow10" =some 2:=by kernel_rfl
  unfold Lib.TabIs World.var?
  rw[hg]
  show(match w.heap[2]? with | some (.cells cs _ _)=>some cs | _=>none)=_
  rw[h1]
  refine congrArg some (Array.ext (by rw[h2];simp [Lib.pow10Tab_length]) fun i hi hi'=> ?_)
  have hi20:i<20:=by omega
  obtain⟨_,v,hv,hp⟩:=hI.1 2 i _ (if_pos hi20)
  have hv':c[i]? =some v:=by
    have:w.cell? (at' 2 i)=c[i]? :=by simp [World.cell?,h1]
    rw[<- this];exact hv
  rw[Array.getElem?_eq_getElem hi]at hv'
  injection hv' with hv'
  rw[hv',hp]
  simp [Lib.pow10Tab]
noncomputable def U0 (N:Nat):Sig:=.of [.cell false (.int .i64)] [.cell false .str] (fun a=>strconv_Itoa N a)
theorem Z7 (N:Nat):Spec Tryz.prog 246 (U0 N) :=
  GZ rfl rfl (enters (fn:=Tryz.f246) (by kernel_rfl) (by kernel_rfl) (by decide)) fun O w (a:Int) (o:Bs) hI h=>by
   have h:(bif decide (-9223372036854775808<=a)&&decide (a<=9223372036854775807)then some (Lib.itoa a)else none)=some o:=h
   cases hc:(decide (-9223372036854775808<=a)&&decide (a<=9223372036854775807))with
   | false=>rw[hc]at h;cases h
   | true =>
   rw[hc]at h
   injection h with h
   subst h
   rw[Bool.and_eq_true,decide_eq_true_eq,decide_eq_true_eq]at hc
   refine(Tryz.strconv_Itoa a hc.1 hc.2 w (Ael hI)).mono fun e w' hq=> ?_
   obtain⟨h1,k,os,h2⟩:=hq
   subst h2
   exact⟨h1,yY _ _ _⟩
