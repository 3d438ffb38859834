/-
  PrimInteger: the walk.
-/
import Derived.Test.YtcpdhmhlmnodcaaPrimLaw
namespace Go.Proofs.Ytcpdhmhlmnodcaa
open Go.RowKit
/-- the table of leading bytes -/
theorem heads (lead : Int) : ∃ H : ByteArray, [Value.string ⟨#[]⟩, Value.string ⟨#[0]⟩, Value.string ⟨#[255]⟩, Value.string ⟨#[0, 0]⟩, Value.string ⟨#[255, 255]⟩, Value.string ⟨#[128]⟩, Value.string ⟨#[127]⟩][(lead % 7).toNat]? = some (.string H) ∧ H.size ≤ 2 := by
  have h : (lead % 7).toNat < 7 := by omega
  generalize (lead % 7).toNat = i at *
  rcases (show i = 0 ∨ i = 1 ∨ i = 2 ∨ i = 3 ∨ i = 4 ∨ i = 5 ∨ i = 6 by omega) with rfl | rfl | rfl | rfl | rfl | rfl | rfl
  all_goals exact ⟨_, rfl, by decide⟩
set_option maxRecDepth 100000 in
set_option maxHeartbeats 400000 in
theorem primInteger_walk (c : ByteArray) (lead n : Int) (w : World) (h : c.size ≤ maxLen) (l0 : 0 ≤ lead) (l1 : lead ≤ 255) (n0 : 0 ≤ n) (n1 : n ≤ 255) :
    Calls Try.prog 3 #[.string c, .int .u8 lead, .int .u8 n] w fun e w' => e = .returned (.bool true) ∧ Below w.heap.size w w' := by
  unfold maxLen at h
  by_cases hl : 20 < c.size
  · have hl' : (20 : Int) < c.size := by omega
    go_enter Try.func3, Try.ntmps3
    go_wp2_with fail
    refine (awake_any _).mono ?_
    rintro e w' ⟨rfl, hb⟩
    go_wp2_with fail
    go_ret
    exact ⟨rfl, hb⟩
  · have hl' : (c.size : Int) ≤ 20 := by omega
    clear h hl
    obtain ⟨H, hget, hH⟩ := heads lead
    by_cases hmin : n % 11 < (H.size : Int) + (c.size : Int)
    · skip
      go_enter Try.func3, Try.ntmps3
      go_wp2_with fail
      go_loop [41] (fun i => ∃ k : Nat, k ≤ 3 ∧ i = .int .i64 k) (fun i => 3 - (intOf i).toNat)
      case atStart => exact ⟨0, by omega, rfl⟩
      case round =>
        obtain ⟨k, hk, rfl⟩ := hrel
        rcases (show k = 0 ∨ k = 1 ∨ k = 2 ∨ k = 3 by omega) with rfl | rfl | rfl | rfl
        case inr.inr.inr =>
          go_wp2_with fail
          refine (awake_any _).mono ?_
          rintro e w' ⟨rfl, hb⟩
          go_wp2_with fail
          go_ret
          exact ⟨rfl, below_then (((Below.refl _ _).alloc (Nat.le_refl _) _).alloc (by simp) _) hb⟩
        all_goals
          go_wp2_with (first
            | (go_at_call 10; refine (integer_any _ _ (by first | (unfold maxLen; omega) | (simp only [ByteArray.size_append, ByteArray.size_extract]; unfold maxLen; omega))).mono ?_; rintro e w' ⟨rfl, rfl⟩)
            | (go_at_call 11; refine (ref_integer_any _ _ (by first | (unfold maxLen; omega) | (simp only [ByteArray.size_append, ByteArray.size_extract]; unfold maxLen; omega))).mono ?_; rintro e w' ⟨rfl, rfl⟩))
          first | exact ⟨⟨1, by omega, rfl⟩, by simp [intOf]⟩ | exact ⟨⟨2, by omega, rfl⟩, by simp [intOf]⟩ | exact ⟨⟨3, by omega, rfl⟩, by simp [intOf]⟩
    · have hmin' : (H.size : Int) + (c.size : Int) ≤ n % 11 := by omega
      clear hmin
      go_enter Try.func3, Try.ntmps3
      go_wp2_with fail
      go_loop [41] (fun i => ∃ k : Nat, k ≤ 3 ∧ i = .int .i64 k) (fun i => 3 - (intOf i).toNat)
      case atStart => exact ⟨0, by omega, rfl⟩
      case round =>
        obtain ⟨k, hk, rfl⟩ := hrel
        rcases (show k = 0 ∨ k = 1 ∨ k = 2 ∨ k = 3 by omega) with rfl | rfl | rfl | rfl
        case inr.inr.inr =>
          go_wp2_with fail
          refine (awake_any _).mono ?_
          rintro e w' ⟨rfl, hb⟩
          go_wp2_with fail
          go_ret
          exact ⟨rfl, below_then (((Below.refl _ _).alloc (Nat.le_refl _) _).alloc (by simp) _) hb⟩
        all_goals
          go_wp2_with (first
            | (go_at_call 10; refine (integer_any _ _ (by first | (unfold maxLen; omega) | (simp only [ByteArray.size_append, ByteArray.size_extract]; unfold maxLen; omega))).mono ?_; rintro e w' ⟨rfl, rfl⟩)
            | (go_at_call 11; refine (ref_integer_any _ _ (by first | (unfold maxLen; omega) | (simp only [ByteArray.size_append, ByteArray.size_extract]; unfold maxLen; omega))).mono ?_; rintro e w' ⟨rfl, rfl⟩))
          first | exact ⟨⟨1, by omega, rfl⟩, by simp [intOf]⟩ | exact ⟨⟨2, by omega, rfl⟩, by simp [intOf]⟩ | exact ⟨⟨3, by omega, rfl⟩, by simp [intOf]⟩
end Go.Proofs.Ytcpdhmhlmnodcaa
