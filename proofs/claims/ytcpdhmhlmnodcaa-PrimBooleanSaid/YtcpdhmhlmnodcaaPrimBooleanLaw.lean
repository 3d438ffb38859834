/-
  PrimBoolean: the walk.
-/
import Derived.Test.YtcpdhmhlmnodcaaPrimLaw
namespace Go.Proofs.Ytcpdhmhlmnodcaa
open Go.RowKit
set_option maxRecDepth 100000 in
set_option maxHeartbeats 400000 in
theorem primBoolean_walk (c : ByteArray) (v : Bool) (w : World) (h : c.size ≤ maxLen) :
    Calls Try.prog 5 #[.string c, .bool v] w fun e w' => e = .returned (.bool true) ∧ Below w.heap.size w w' := by
  unfold maxLen at h
  by_cases hl : 20 < c.size
  · have hl' : (20 : Int) < c.size := by omega
    go_enter Try.func5, Try.ntmps5
    go_wp2_with fail
    refine (awake_any _).mono ?_
    rintro e w' ⟨rfl, hb⟩
    go_wp2_with fail
    go_ret
    exact ⟨rfl, hb⟩
  · have hl' : (c.size : Int) ≤ 20 := by omega
    clear h hl
    go_enter Try.func5, Try.ntmps5
    go_wp2_with fail
    go_loop [18] (fun i => ∃ k : Nat, k ≤ 4 ∧ i = .int .i64 k) (fun i => 4 - (intOf i).toNat)
    case atStart => exact ⟨0, by omega, rfl⟩
    case round =>
      obtain ⟨k, hk, rfl⟩ := hrel
      rcases (show k = 0 ∨ k = 1 ∨ k = 2 ∨ k = 3 ∨ k = 4 by omega) with rfl | rfl | rfl | rfl | rfl
      case inr.inr.inr.inr =>
        go_wp2_with fail
        refine (awake_any _).mono ?_
        rintro e w1 ⟨rfl, hb⟩
        go_wp2_with fail
        refine (putBoolean_any v _).mono ?_
        rintro e w2 ⟨rfl, rfl⟩
        go_wp2_with fail
        refine (ref_putBoolean_any v _).mono ?_
        rintro e w2 ⟨rfl, rfl⟩
        go_wp2_with fail
        go_ret
        exact ⟨rfl, below_then ((Below.refl _ _).alloc (Nat.le_refl _) _) hb⟩
      all_goals
        go_wp2_with (first
          | (go_at_call 14; refine (boolean_any _ _).mono ?_; rintro e w' ⟨rfl, rfl⟩)
          | (go_at_call 15; refine (ref_boolean_any _ _).mono ?_; rintro e w' ⟨rfl, rfl⟩))
        first | exact ⟨⟨1, by omega, rfl⟩, by simp [intOf]⟩ | exact ⟨⟨2, by omega, rfl⟩, by simp [intOf]⟩ | exact ⟨⟨3, by omega, rfl⟩, by simp [intOf]⟩ | exact ⟨⟨4, by omega, rfl⟩, by simp [intOf]⟩
end Go.Proofs.Ytcpdhmhlmnodcaa
