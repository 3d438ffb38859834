/-
  The walk of 'awake', which every law of this seat calls.
-/
import Derived.Test.YtcpdhmhlmnodcaaPrimInt
import Derived.Test.YtcpdhmhlmnodcaaPrimPutRef
import Derived.Test.YtcpdhmhlmnodcaaPrimPutFlagsRef
namespace Go.Proofs.Ytcpdhmhlmnodcaa
open Go.RowKit

theorem below_then {w w1 w2 : World} (h : Below w.heap.size w w1) (k : Below w1.heap.size w1 w2) : Below w.heap.size w w2 := h.trans (k.mono h.size)
theorem bs_eq (l : List UInt8) : ((bs l).toList == l) = true := by rw [bs_toList]; simp

set_option maxRecDepth 100000 in
theorem awake_any (w : World) : Calls Try.prog 9 #[] w fun e w' => e = .returned (.bool true) ∧ Below w.heap.size w w' := by
  have h6 : PutFlagsRet 6 = .returned (.tuple #[.string (bs [5, 96]), .int .i64 0]) := by
    unfold PutFlagsRet; rw [show Sp.putFlags 6 = ([5, 96], 0) from by decide +kernel]
  have h128 : Sp.putInteger 128 = [0, 128] := by decide +kernel
  have h1 : Sp.putInteger (-1) = [255] := by decide +kernel
  have c6 := fun W => putFlags_any 6 W
  rw [h6] at c6
  have c128 := fun W => putInteger_any 128 W (by omega) (by omega)
  rw [h128] at c128
  have c1 := fun W => putInteger_any (-1) W (by omega) (by omega)
  rw [h1] at c1
  have C6 := Lib.hid c6
  have C128 := Lib.hid c128
  have C1 := Lib.hid c1
  have e1 := bs_eq [5, 96]
  have e2 := bs_eq [0, 128]
  have e3 := bs_eq [255]
  clear c6 c128 c1 h6 h128 h1
  go_enter Try.func9, Try.ntmps9
  go_wp2_with fail
  refine (C6.out _).mono ?_
  rintro e w1 ⟨rfl, b1⟩
  go_wp2_with fail
  refine (C128.out _).mono ?_
  rintro e w2 ⟨rfl, b2⟩
  go_wp2_with fail
  refine (C1.out _).mono ?_
  rintro e w3 ⟨rfl, b3⟩
  go_wp2_with fail
  go_ret
  exact ⟨rfl, below_then (below_then b1 b2) b3⟩

/-- the cells of a literal's block, carried from world to world -/
def CellsAt (w : World) (B : Nat) (xs : List Value) : Prop := B < w.heap.size ∧ ∀ j x, xs[j]? = some x → w.cell? ⟨B, j, none⟩ = some x
theorem CellsAt.lit (w : World) (xs : List Value) (T : TypeId) : CellsAt (w.alloc (.cells xs.toArray T)) w.heap.size xs :=
  ⟨by simp, fun j x h => by rw [World.cell?_alloc_mark]; simpa using h⟩
theorem CellsAt.below {w w1 : World} {B : Nat} {xs : List Value} (h : CellsAt w B xs) (hb : Below w.heap.size w w1) : CellsAt w1 B xs :=
  ⟨Nat.lt_of_lt_of_le h.1 hb.size, fun j x hx => (hb.cell (p := ⟨B, j, none⟩) h.1).trans (h.2 j x hx)⟩
theorem CellsAt.at {w : World} {B : Nat} {xs : List Value} (h : CellsAt w B xs) (j : Nat) (x : Value) (hx : xs[j]? = some x) : w.cell? ⟨B, j, none⟩ = some x := h.2 j x hx
theorem div_range (v : Int) (n : Nat) (h1 : -9223372036854775808 ≤ v) (h2 : v ≤ 9223372036854775807) : -9223372036854775808 ≤ v / 2 ^ n ∧ v / 2 ^ n ≤ 9223372036854775807 := by
  rw [pow_cast]
  have hp : 0 < 2 ^ n := Nat.two_pow_pos n
  generalize 2 ^ n = P at *
  have hP : (0 : Int) < (P : Int) := by omega
  constructor
  · rw [Int.le_ediv_iff_mul_le hP]
    have : (-9223372036854775808 : Int) * P ≤ -9223372036854775808 * 1 := Int.mul_le_mul_of_nonpos_left (by omega) (by omega)
    omega
  · by_cases hv : 0 ≤ v
    · exact Int.le_trans (Int.ediv_le_self _ hv) h2
    · have : v / (P : Int) < 0 := Int.ediv_neg_of_neg_of_pos (by omega) hP
      omega
theorem wrap_range (x : Int) : -9223372036854775808 ≤ wrap64 x ∧ wrap64 x ≤ 9223372036854775807 := by unfold wrap64; omega
theorem bs_ne (l : List UInt8) : (!((bs l).toList == (bs l).toList)) = false := by simp
theorem dl_is (l : List UInt8) : dl (bs l) = l := bs_data l
end Go.Proofs.Ytcpdhmhlmnodcaa
