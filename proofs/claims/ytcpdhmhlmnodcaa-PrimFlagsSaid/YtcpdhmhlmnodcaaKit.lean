/-
  Small lemmas that the walks of this seat share: results, strings as lists of bytes, rows of bytes that the call itself made.
-/
import Derived.Test.YtcpdhmhlmnodcaaChecked
import Derived.WalkKit
import Derived.WalkSpells
import Derived.Lib.Hide
import Derived.Lib.SmallJoins
import Derived.Lib.IndexBytes
import Derived.ShutString
import Derived.Laws.IdiomStrings
namespace Go.Proofs.Ytcpdhmhlmnodcaa
open Go.RowKit

theorem ret_ints {k k' : IntKind} {a b c d : Int} (h : (a, c) = (b, d)) : Ending.returned (.tuple #[.int k a, .int k' c]) = .returned (.tuple #[.int k b, .int k' d]) := by
  injection h with h1 h2; rw [h1, h2]
theorem ret_int {k : IntKind} {a b : Int} (h : a = b) : Ending.returned (.int k a) = .returned (.int k b) := by rw [h]
theorem ret_bool {a b : Bool} (h : a = b) : Ending.returned (.bool a) = .returned (.bool b) := by rw [h]
theorem val_int {k : IntKind} {a b : Int} (h : a = b) : Value.int k a = Value.int k b := by rw [h]

/-! ### strings -/
/-- a string's bytes, as a word that the walk does not open -/
def dl (s : ByteArray) : List UInt8 := s.data.toList
theorem dl_bs (l : List UInt8) : dl (⟨l.toArray⟩ : ByteArray) = l := by simp [dl]
theorem dl_extract (s : ByteArray) (a : Nat) : dl (s.extract a s.size) = (dl s).drop a := by unfold dl; exact Lib.extract_to_end s a
theorem dl_length (s : ByteArray) : (dl s).length = s.size := by unfold dl; rw [Array.length_toList]; rfl
def bs (l : List UInt8) : ByteArray := ⟨l.toArray⟩
theorem bs_data (l : List UInt8) : (bs l).data.toList = l := by simp [bs]
theorem bs_toList (l : List UInt8) : (bs l).toList = l := by unfold bs; simp
theorem bs_size (l : List UInt8) : (bs l).size = l.length := by simp [bs, ByteArray.size]
theorem bs_of (s : ByteArray) : bs s.data.toList = s := by obtain ⟨⟨l⟩⟩ := s; rfl
theorem size_list (s : ByteArray) : s.data.toList.length = s.size := by rw [Array.length_toList]; rfl
theorem toList_data (s : ByteArray) : s.toList = s.data.toList := ByteArray.toList_eq s
theorem data_nil {s : ByteArray} (h : s.size = 0) : s.data.toList = [] := List.eq_nil_of_length_eq_zero (by rw [size_list]; exact h)
theorem empty_true {s : ByteArray} (h : s.size = 0) : s.toList.isEmpty = true := by rw [toList_data, data_nil h]; rfl
theorem empty_false {s : ByteArray} (h : 0 < s.size) : s.toList.isEmpty = false := by
  rw [toList_data]
  cases hs : s.data.toList with
  | nil => have := size_list s; rw [hs] at this; simp at this; omega
  | cons a r => rfl
theorem data_one (s : ByteArray) (h : 0 < s.size) : ∃ r, s.data.toList = s[0] :: r := by
  obtain ⟨⟨l⟩⟩ := s
  match l, h with
  | a :: r, _ => exact ⟨r, rfl⟩
  | [], h => simp [ByteArray.size] at h
theorem data_two (s : ByteArray) (h : 1 < s.size) : ∃ r, s.data.toList = s[0] :: s[1] :: r := by
  obtain ⟨⟨l⟩⟩ := s
  match l, h with
  | a :: b :: r, _ => exact ⟨r, rfl⟩
  | [], h => simp [ByteArray.size] at h
  | [a], h => simp [ByteArray.size] at h
theorem data_get (s : ByteArray) (k : Nat) (h : k < s.size) : s.data.toList[k]'(by rw [size_list]; exact h) = s[k] := by
  obtain ⟨⟨l⟩⟩ := s; rfl
theorem data_get? (s : ByteArray) (k : Nat) (h : k < s.size) : s.data.toList[k]? = some s[k] := by
  rw [List.getElem?_eq_getElem (by rw [size_list]; exact h), data_get s k h]

theorem beq_t {a b : Int} (h : a = b) : (a == b) = true := beq_iff_eq.2 h
theorem beq_f {a b : Int} (h : a ≠ b) : (a == b) = false := beq_eq_false_iff_ne.2 h
theorem bne_t {a b : Int} (h : a ≠ b) : (a != b) = true := by rw [bne_iff_ne]; exact h
theorem bne_f {a b : Int} (h : a = b) : (a != b) = false := by simp [h]

/-! ### rows of bytes of the call's own -/
def byteV (b : UInt8) : Value := .int .u8 (b.toNat : Int)
def bytesV (l : List UInt8) : List Value := l.map byteV
theorem bytesV_length (l : List UInt8) : (bytesV l).length = l.length := by simp [bytesV]
theorem bytesV_append (l m : List UInt8) : bytesV (l ++ m) = bytesV l ++ bytesV m := by simp [bytesV]
theorem bytesV_get (l : List UInt8) (j : Nat) (h : j < l.length) : (bytesV l)[j]? = some (.int .u8 (l[j].toNat : Int)) := by
  simp [bytesV, byteV, h]

/-- string(b), b a row of bytes of the call's own (nil too) -/
theorem run_string_own {P : Program} (w : World) (src dst e : TypeId) (base : Nat) (v : Value) (n : Nat) (l : List UInt8)
    (hs : P.underlying src = some (.slice e)) (he : P.underlying e = some (.int .u8)) (hd : P.underlying dst = some .string)
    (hown : w.ownsRow base e 1 v n (bytesV l)) : (convert src dst v).run P w = .ok (.string (bs l)) w := by
  obtain ⟨h1, h2⟩ := hown
  rcases h2 with ⟨rfl, rfl⟩ | ⟨g, cap, cur, rfl, hg, hh, hn, hc, hcs, htk⟩
  · rw [bytesV_length] at h1
    have : l = [] := List.eq_nil_of_length_eq_zero (by omega)
    subst this
    rw [run_convert_bytes_string w src dst e none 0 0 hs he hd]
    rfl
  · have hl : n = l.length := by rw [bytesV_length] at h1; omega
    subst hl
    by_cases h0 : l.length = 0
    · have : l = [] := List.eq_nil_of_length_eq_zero h0
      subst this
      rw [run_convert_bytes_string w src dst e _ _ _ hs he hd]
      rfl
    · refine run_convert_bytes_back w src dst e ⟨g, 0, none⟩ cap l hs he hd ?_
      intro j hj
      have hcell := World.ownsRow.cellAt (w := w) (base := base) (e := e) (size := 1) (g := g) (cap := cap) (n := l.length) (xs := bytesV l) ⟨h1, .inr ⟨g, cap, cur, rfl, hg, hh, hn, hc, hcs, htk⟩⟩ j (by omega)
      have ha : (⟨g, 0, none⟩ : Addr).add j = ⟨g, j, none⟩ := by
        unfold Addr.add; split
        · rename_i h; subst h; rfl
        · simp
      rw [ha, hcell, bytesV_get l j hj]

theorem Try.infoU8 : (Try.prog.info? 5).map (fun i => (i.zero, i.size, i.bytes)) = some (some (.int .u8 0), 1, 1) := by kernel_rfl

/-- out = append(out, b), out a row of bytes of the call's own: behind the block that holds b -/
theorem wpList_append_byte {w : World} {ops : Array Oper} {rest : List Oper} {o : Oper} {a : Act} {Q : Exit → Act → World → Prop} (hgd : o.guard = none) (s x : Operand)
    (ho : o.op = .call { callee := .builtin .append, args := #[s, x], argTypes := #[42, 42] })
    (base : Nat) (v : Value) (n : Nat) (l : List UInt8) (hs : a.eval s = v) (hown : w.ownsRow base 5 1 v n (bytesV l)) (q : Int) (b : UInt8)
    (hx : a.eval x = .slice (some ⟨w.heap.size, 0, none⟩) 1 1) (hq : q = (b.toNat : Int)) (hn : n ≤ 70368744177664) (hbase : base ≤ w.heap.size)
    (h : ∀ v' w', w'.ownsRow base 5 1 v' (n + 1) (bytesV (l ++ [b])) → Below base w w' → w.heap.size + 1 ≤ w'.heap.size → wpList Try.prog ops Q rest (a.put o.dst v') w') :
    wpList Try.prog ops Q (o :: rest) a (w.alloc (.cells #[.int .u8 q] 5)) := by
  obtain ⟨i0, hi, hz0, hz1, hz2⟩ := info_parts Try.infoU8
  subst hq
  refine wpList_append_own _ hgd s x 42 ho base 5 i0 (.int .u8 0) 1 1 Try.underlying42 hi hz0 hz1 hz2 rfl (by decide) v n (bytesV l) hs (hown.alloc _) ⟨w.heap.size, 0, none⟩ 1 1 [byteV b] hx rfl ?_ ?_ (by unfold maxLen; omega) (by omega) (by simp; omega) ?_
  · intro j u hj
    match j, hj with
    | 0, hj => simp at hj; subst hj; simp [Addr.add, byteV]
  · intro u hu; simp at hu; subst hu; rfl
  · intro v' w' hown' hgrow _
    have hsz : w.heap.size + 1 ≤ w'.heap.size := by have := hgrow.size; simpa using this
    refine h v' w' (by rw [bytesV_append]; exact hown') ?_ hsz
    refine ((Below.refl base w).alloc (by omega) _).grown hgrow (by simp; omega) ?_
    intro k hk
    rcases hown.2 with ⟨rfl, _⟩ | ⟨g, cap, cur, rfl, hg, _⟩
    · cases hk
    · injection hk with hk; subst hk; exact hg

/-- the same at this program's []byte and string -/
theorem run_string {w : World} {base : Nat} {v : Value} {n : Nat} {l : List UInt8} (hown : w.ownsRow base 5 1 v n (bytesV l)) :
    (convert 42 9 v).run Try.prog w = .ok (.string (bs l)) w :=
  run_string_own w _ _ _ base v n l Try.underlying42 Try.underlying5 Try.underlying9 hown
theorem ret_str {a b : List UInt8} (h : a = b) : Ending.returned (.string (bs a)) = .returned (.string (bs b)) := by rw [h]

/-- string([]byte{b}): the literal's block is the newest one -/
theorem run_string_lit1 (w : World) (q : Int) (b : UInt8) (hq : q = (b.toNat : Int)) :
    (convert 42 9 (.slice (some ⟨w.heap.size, 0, none⟩) 1 1)).run Try.prog (w.alloc (.cells #[.int .u8 q] 5)) = .ok (.string (bs [b])) (w.alloc (.cells #[.int .u8 q] 5)) := by
  subst hq
  refine run_convert_bytes_back _ _ _ 5 ⟨w.heap.size, 0, none⟩ 1 [b] Try.underlying42 Try.underlying5 Try.underlying9 ?_
  intro j hj
  match j, hj with
  | 0, _ => simp [Addr.add]
theorem bs_cons_append (x : UInt8) (s : ByteArray) : bs [x] ++ s = bs (x :: dl s) := by
  rw [← bs_of (bs [x] ++ s), Go.Joins.data_append, bs_data]; rfl
theorem dl_of_bs (l : List UInt8) : dl (bs l) = l := bs_data l

/-- make([]byte, n) -/
theorem wpList_make_bytes {w : World} {ops : Array Oper} {rest : List Oper} {o : Oper} {a : Act} {Q : Exit → Act → World → Prop}
    (hg : o.guard = none) (l : Operand) (hop : o.op = Op.makeSlice 42 l l) (base : Nat) (L : Int) (n : Nat) (hl : a.eval l = .int .i64 L) (hL : L = (n : Int)) (hn : n ≤ 140737488355328) (b4 : base ≤ w.heap.size)
    (hK : ∀ w', w'.ownsRow base 5 1 (.slice (some ⟨w.heap.size, 0, none⟩) n n) n (bytesV (List.replicate n 0)) → Below base w w' → w.heap.size + 0 ≤ w'.heap.size → wpList Try.prog ops Q rest (a.put o.dst (.slice (some ⟨w.heap.size, 0, none⟩) n n)) w') :
    wpList Try.prog ops Q (o :: rest) a w := by
  obtain ⟨i0, hi, hz0, hz1, hz2⟩ := info_parts Try.infoU8
  refine wpList_make_full _ hg l l 42 hop base 5 i0 (.int .u8 0) 1 Try.underlying42 hi hz0 hz1 .i64 .i64 L L n hl hl hL hL (by rw [hz2]; omega) (by unfold maxLen; omega) b4 fun w' hown hgrow => ?_
  refine hK w' ?_ ((Below.refl base w).grown hgrow b4 (by intro k hk; cases hk)) (by have := hgrow.size; omega)
  have e : (madeCells (Value.int IntKind.u8 0).cells (n * 1)).toList = bytesV (List.replicate n 0) := by
    have := toList_madeCells_one (.int .u8 0) (n * 1)
    simp only [Nat.mul_one] at this ⊢
    rw [show (Value.int IntKind.u8 0).cells = #[.int .u8 0] from rfl, this]
    simp [bytesV, byteV]
  rw [e] at hown; exact hown
theorem own_cell {w : World} {base E g n cap : Nat} {l : List UInt8} (h : w.ownsRow base E 1 (.slice (some ⟨g, 0, none⟩) n cap) n (bytesV l)) (j : Nat) (hj : j < l.length) : w.cell? ⟨g, j, none⟩ = some (.int .u8 (l[j].toNat : Int)) := by
  have h1 := h.1
  rw [bytesV_length] at h1
  rw [h.cellAt j (by omega), bytesV_get l j hj]
theorem own_set {w : World} {base E g n cap : Nat} {l : List UInt8} (h : w.ownsRow base E 1 (.slice (some ⟨g, 0, none⟩) n cap) n (bytesV l)) (j : Nat) (q : Int) (b : UInt8) (hq : q = (b.toNat : Int)) :
    (w.setCell ⟨g, j, none⟩ (.int .u8 q)).ownsRow base E 1 (.slice (some ⟨g, 0, none⟩) n cap) n (bytesV (l.set j b)) := by
  subst hq
  have := (h.stored j (byteV b)).1
  unfold bytesV at *
  rw [List.map_set]; exact this
theorem own_zero {w : World} {base E g n cap m : Nat} (h : w.ownsRow base E 1 (.slice (some ⟨g, 0, none⟩) n cap) n (bytesV (List.replicate m 0))) (j : Nat) (hj : j < m) : w.cell? ⟨g, j, none⟩ = some (.int .u8 0) := by
  have := own_cell h j (by simp; exact hj)
  simpa using this
theorem own_base {w : World} {base E g n cap : Nat} {l : List Value} (h : w.ownsRow base E 1 (.slice (some ⟨g, 0, none⟩) n cap) n l) : base ≤ g := by
  rcases h.2 with ⟨h', _⟩ | ⟨g', cap', cur, h', hb, _⟩
  · cases h'
  · injection h' with h1 h2 h3; injection h1 with h1; injection h1 with h1; omega
end Go.Proofs.Ytcpdhmhlmnodcaa
