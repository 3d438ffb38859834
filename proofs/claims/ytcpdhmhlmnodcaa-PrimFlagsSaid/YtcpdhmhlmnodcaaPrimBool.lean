/-
  The walks of prim.Boolean, PutBoolean and of their references.
-/
import Derived.Test.YtcpdhmhlmnodcaaPrimBitsPure
import Derived.Test.YtcpdhmhlmnodcaaKit
import Derived.Outline
import Derived.BigGuardPart
namespace Go.Proofs.Ytcpdhmhlmnodcaa
open Go.RowKit

theorem eq_t {s : ByteArray} {l : List UInt8} (h : s.data.toList = l) : (s.toList == l) = true := by rw [toList_data, h]; simp
theorem eq_f {s : ByteArray} {l : List UInt8} (h : ¬ s.data.toList = l) : (s.toList == l) = false := by rw [toList_data]; simpa using h
theorem ret_bi {p q : Bool} {a b : Int} (h : (p, a) = (q, b)) : Ending.returned (.tuple #[.bool p, .int .i64 a]) = .returned (.tuple #[.bool q, .int .i64 b]) := by
  injection h with h1 h2; rw [h1, h2]

theorem boolean_any (s : ByteArray) (w : World) :
    Calls Try.prog 14 #[.string s] w fun e w' => e = .returned (.tuple #[.bool (Sp.boolean s.data.toList).1, .int .i64 (Sp.boolean s.data.toList).2]) ∧ w = w' := by
  by_cases h0 : s.data.toList = [0]
  · have e : Sp.boolean s.data.toList = (false, 0) := by unfold Sp.boolean; rw [if_pos h0]
    rw [e]
    have e0 := eq_t h0
    clear h0 e
    go_enter Try.func14, Try.ntmps14
    go_wp2_with fail
    go_ret2
    exact ⟨rfl, rfl⟩
  · have e0 := eq_f h0
    by_cases h1 : s.data.toList = [255]
    · have e : Sp.boolean s.data.toList = (true, 0) := by unfold Sp.boolean; rw [if_neg h0, if_pos h1]
      rw [e]
      have e1 := eq_t h1
      clear h0 h1 e
      go_enter Try.func14, Try.ntmps14
      go_wp2_with fail
      go_ret2
      exact ⟨rfl, rfl⟩
    · have e : Sp.boolean s.data.toList = (false, 7) := by unfold Sp.boolean; rw [if_neg h0, if_neg h1]
      rw [e]
      have e1 := eq_f h1
      clear h0 h1 e
      go_enter Try.func14, Try.ntmps14
      go_wp2_with fail
      go_ret2
      exact ⟨rfl, rfl⟩
theorem ref_boolean_any (s : ByteArray) (w : World) :
    Calls Try.prog 15 #[.string s] w fun e w' => e = .returned (.tuple #[.bool (Sp.boolean s.data.toList).1, .int .i64 (Sp.boolean s.data.toList).2]) ∧ w = w' := by
  by_cases h0 : s.data.toList = [0]
  · have e : Sp.boolean s.data.toList = (false, 0) := by unfold Sp.boolean; rw [if_pos h0]
    rw [e]
    have e0 := eq_t h0
    have e1 : (s.toList == [255]) = false := eq_f (by rw [h0]; decide)
    clear h0 e
    go_enter Try.func15, Try.ntmps15
    go_wp2_with fail
    go_ret2
    exact ⟨rfl, rfl⟩
  · have e0 := eq_f h0
    by_cases h1 : s.data.toList = [255]
    · have e : Sp.boolean s.data.toList = (true, 0) := by unfold Sp.boolean; rw [if_neg h0, if_pos h1]
      rw [e]
      have e1 := eq_t h1
      clear h0 h1 e
      go_enter Try.func15, Try.ntmps15
      go_wp2_with fail
      go_ret2
      exact ⟨rfl, rfl⟩
    · have e : Sp.boolean s.data.toList = (false, 7) := by unfold Sp.boolean; rw [if_neg h0, if_neg h1]
      rw [e]
      have e1 := eq_f h1
      clear h0 h1 e
      go_enter Try.func15, Try.ntmps15
      go_wp2_with fail
      go_ret2
      exact ⟨rfl, rfl⟩
theorem putBoolean_any (v : Bool) (w : World) :
    Calls Try.prog 16 #[.bool v] w fun e w' => e = .returned (.string (bs (Sp.putBoolean v))) ∧ w = w' := by
  cases v
  all_goals
    go_enter Try.func16, Try.ntmps16
    go_wp2_with fail
    go_ret
    exact ⟨rfl, rfl⟩
theorem ref_putBoolean_any (v : Bool) (w : World) :
    Calls Try.prog 17 #[.bool v] w fun e w' => e = .returned (.string (bs (Sp.putBoolean v))) ∧ w = w' := by
  cases v
  all_goals
    go_enter Try.func17, Try.ntmps17
    go_wp2_with fail
    go_ret
    exact ⟨rfl, rfl⟩
end Go.Proofs.Ytcpdhmhlmnodcaa
