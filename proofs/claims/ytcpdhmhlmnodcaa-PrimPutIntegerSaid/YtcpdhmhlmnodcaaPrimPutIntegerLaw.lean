/-
  PrimPutInteger: the walk.
-/
import Derived.Test.YtcpdhmhlmnodcaaPrimLaw
namespace Go.Proofs.Ytcpdhmhlmnodcaa
open Go.RowKit
theorem integer_put_ret (v : Int) (h1 : -9223372036854775808 ≤ v) (h2 : v ≤ 9223372036854775807) (W : World) :
    Calls Try.prog 10 #[.string (bs (Sp.putInteger v))] W fun e w' => e = .returned (.tuple #[.int .i64 v, .int .i64 0]) ∧ W = w' := by
  obtain ⟨n, hn, hf, hm⟩ := Sp.fits_least v 7 (Sp.fits7 v h1 h2)
  have hl : (Sp.putInteger v).length = n + 1 := by rw [Sp.putInteger_eq v n hn hf hm, Sp.bytesN_length]
  have := integer_any (bs (Sp.putInteger v)) W (by rw [bs_size, hl]; unfold maxLen; omega)
  rw [bs_data, Sp.integer_put v h1 h2] at this
  exact this

set_option maxRecDepth 100000 in
set_option maxHeartbeats 400000 in
theorem primPutInteger_walk (v sh : Int) (w : World) (h1 : -9223372036854775808 ≤ v) (h2 : v ≤ 9223372036854775807) (s0 : 0 ≤ sh) (s1 : sh ≤ 255) :
    Calls Try.prog 4 #[.int .i64 v, .int .u8 sh] w fun e w' => e = .returned (.bool true) ∧ Below w.heap.size w w' := by
  go_enter Try.func4, Try.ntmps4
  go_wp2_with fail
  have bA := div_range v (sh % 64).toNat h1 h2
  have bB := wrap_range (wrap64 (2 ^ (sh % 63).toNat) - 1)
  have bC := wrap_range (-2 ^ (sh % 64).toNat)
  generalize v / 2 ^ (sh % 64).toNat = A at *
  generalize wrap64 (wrap64 (2 ^ (sh % 63).toNat) - 1) = B at *
  generalize wrap64 (-2 ^ (sh % 64).toNat) = C at *
  have hcells := CellsAt.lit w [.int .i64 v, .int .i64 A, .int .i64 B, .int .i64 C] 3
  have hb0 := (Below.refl w.heap.size w).alloc (Nat.le_refl _) (.cells #[.int .i64 v, .int .i64 A, .int .i64 B, .int .i64 C] 3)
  generalize w.alloc (.cells #[.int .i64 v, .int .i64 A, .int .i64 B, .int .i64 C] 3) = w1 at *
  go_loopw [24] (fun i wr => ∃ k : Nat, k ≤ 4 ∧ i = .int .i64 k ∧ CellsAt wr w.heap.size [.int .i64 v, .int .i64 A, .int .i64 B, .int .i64 C] ∧ Below w.heap.size w wr) (fun i _ => 4 - (intOf i).toNat)
  case atStart => exact ⟨0, by omega, rfl, hcells, hb0⟩
  case round =>
    obtain ⟨k, hk, rfl, hcl, hbel⟩ := hrel
    clear hcells hb0
    by_cases hk4 : k = 4
    · subst hk4
      go_wp2_with fail
      refine (awake_any _).mono ?_
      rintro e w' ⟨rfl, hb⟩
      go_wp2_with fail
      go_ret
      exact ⟨rfl, below_then hbel hb⟩
    · have hk' : (k : Int) < 4 := by omega
      obtain ⟨X, hX, hXl⟩ : ∃ X : Int, [Value.int .i64 v, .int .i64 A, .int .i64 B, .int .i64 C][k]? = some (.int .i64 X) ∧ -9223372036854775808 ≤ X ∧ X ≤ 9223372036854775807 := by
        rcases (show k = 0 ∨ k = 1 ∨ k = 2 ∨ k = 3 by omega) with rfl | rfl | rfl | rfl
        · exact ⟨v, rfl, h1, h2⟩
        · exact ⟨A, rfl, bA⟩
        · exact ⟨B, rfl, bB⟩
        · exact ⟨C, rfl, bC⟩
      have hcx := hcl.at k _ hX
      have hne := bs_ne (Sp.putInteger X)
      have HX := Lib.hid hXl
      have HC := Lib.hid hcl
      clear hX hcl hXl
      go_wp2_with fail
      refine (putInteger_any X _ HX.out.1 HX.out.2).mono ?_
      rintro e w2 ⟨rfl, b2⟩
      go_wp2_with fail
      refine (integer_put_ret X HX.out.1 HX.out.2 _).mono ?_
      rintro e w3 ⟨rfl, rfl⟩
      go_wp2_with fail
      refine (ref_putInteger_any X _).mono ?_
      rintro e w3 ⟨rfl, b3⟩
      go_wp2_with fail
      have b23 := below_then b2 b3
      exact ⟨⟨k + 1, by omega, by go_num, HC.out.below b23, below_then hbel b23⟩, by simp [intOf]; omega⟩
end Go.Proofs.Ytcpdhmhlmnodcaa
