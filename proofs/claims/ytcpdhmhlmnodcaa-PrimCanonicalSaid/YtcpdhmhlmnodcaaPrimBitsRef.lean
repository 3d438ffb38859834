/-
  The walk of the reference's Bits.
-/
import Derived.Test.YtcpdhmhlmnodcaaPrimBits
namespace Go.Proofs.Ytcpdhmhlmnodcaa
open Go.RowKit

theorem spare_tail_nil (s : ByteArray) (u : Nat) (h : s.size = 1) (hu : 0 < u) : Sp.spare (dl (s.extract 1 s.size)) u = false := by
  rw [dl_extract, List.eq_nil_of_length_eq_zero (l := (dl s).drop 1) (by rw [List.length_drop, dl_length]; omega)]
  unfold Sp.spare; simp; omega
theorem spare_tail_last (s : ByteArray) (u : Nat) (h : 1 < s.size) (hu : 0 < u) : Sp.spare (dl (s.extract 1 s.size)) u = decide ((s[s.size - 1]'(by omega)).toNat % 2 ^ u = 0) := by
  rw [dl_extract]
  unfold Sp.spare
  have : ((dl s).drop 1).getLast? = some (s[s.size - 1]'(by omega)) := by
    rw [List.getLast?_drop, if_neg (by rw [dl_length]; omega)]
    exact last_of s (by omega)
  rw [this]; simp; omega

theorem wrap_pow (u : Nat) (hu : u ≤ 7) : IntKind.i64.wrap ((2 : Int) ^ u) = ((2 ^ u : Nat) : Int) := by
  rcases (show u = 0 ∨ u = 1 ∨ u = 2 ∨ u = 3 ∨ u = 4 ∨ u = 5 ∨ u = 6 ∨ u = 7 by omega) with rfl | rfl | rfl | rfl | rfl | rfl | rfl | rfl <;> decide

set_option maxRecDepth 100000 in
set_option maxHeartbeats 400000 in
theorem ref_bits_any (s : ByteArray) (w : World) (h : s.size ≤ maxLen) :
    Calls Try.prog 19 #[.string s] w fun e w' => e = BitsRet s ∧ ∃ n, w' = w.drewN n := by
  unfold maxLen at h
  by_cases h0 : s.size = 0
  · rw [bitsRet_bad s (by unfold dl; rw [data_nil h0]; rfl)]
    have e0 : ((s.size : Int) == 0) = true := beq_t (by omega)
    go_enter Try.func19, Try.ntmps19
    go_wp2_with fail
    go_quiet (fail)
    go_wp2_with fail
    go_ret3
    exact ⟨rfl, _, rfl⟩
  · have e0 : ((s.size : Int) == 0) = false := beq_f (by omega)
    have hp0 : 0 < s.size := by omega
    have hp1 : (1 : Int) ≤ s.size := by omega
    have hp2 : 1 ≤ s.size := by omega
    have hb0 := s[0].toNat_lt
    by_cases h7 : 7 < s[0].toNat
    · rw [bitsRet_bad s (by rw [bitsOk_of s hp0]; simp; omega)]
      have d7 : decide ((7 : Int) < (s[0].toNat : Int)) = true := by rw [decide_eq_true_iff]; omega
      go_enter Try.func19, Try.ntmps19
      go_wp2_with fail
      go_quiet (fail)
      go_wp2_with fail
      go_ret3
      exact ⟨rfl, _, rfl⟩
    · have d7 : decide ((7 : Int) < (s[0].toNat : Int)) = false := by rw [decide_eq_false_iff_not]; omega
      by_cases hz : s[0].toNat = 0
      · rw [bitsRet_good s hp0 (by rw [bitsOk_of s hp0, hz]; rfl)]
        have dz : decide (0 < s[0].toNat) = false := by rw [decide_eq_false_iff_not]; omega
        clear hz
        go_enter Try.func19, Try.ntmps19
        go_wp2_with fail
        go_quiet (fail)
        go_wp2_with fail
        go_quiet (fail)
        go_wp2_with fail
        go_ret3
        exact ⟨rfl, _, World.drewN_drewN _ _ _⟩
      · have dz : decide (0 < s[0].toNat) = true := by rw [decide_eq_true_iff]; omega
        by_cases h1 : s.size = 1
        · rw [bitsRet_bad s (by rw [bitsOk_of s hp0, spare_tail_nil s _ h1 (by omega)]; simp)]
          have e1 : ((s.size : Int) == 1) = true := beq_t (by omega)
          clear h1
          go_enter Try.func19, Try.ntmps19
          go_wp2_with fail
          go_quiet (fail)
          go_wp2_with fail
          go_ret3
          exact ⟨rfl, _, rfl⟩
        · have e1 : ((s.size : Int) == 1) = false := beq_f (by omega)
          have hl := spare_tail_last s s[0].toNat (by omega) (by omega)
          have hbl := (s[s.size - 1]'(by omega)).toNat_lt
          have HL := Lib.hid hl
          clear hl
          have w1 : IntKind.i64.wrap ((s.size : Int) - 1) = (s.size : Int) - 1 := IntWalk.i64_in _ (by omega)
          have w2 : ((s.size : Int) - 1).toNat = s.size - 1 := by omega
          have w3 : (s.size : Int) - 1 < s.size := by omega
          have w4 : s.size - 1 < s.size := by omega
          obtain ⟨P, hP⟩ : ∃ P : Nat, P = 2 ^ s[0].toNat := ⟨_, rfl⟩
          have w5 : IntKind.i64.wrap ((2 : Int) ^ s[0].toNat) = (P : Int) := by rw [hP]; exact wrap_pow _ (by omega)
          have hP1 : 1 ≤ P := by rw [hP]; exact Nat.one_le_two_pow
          have w6 : ((P : Int) == 0) = false := beq_f (by omega)
          have w7 : ¬ P = 0 := by omega
          have w8 : IntKind.i64.wrap ((s[s.size - 1]'(by omega)).toNat : Int) = ((s[s.size - 1]'(by omega)).toNat : Int) := IntWalk.i64_in _ (by omega)
          have HP := Lib.hid hP
          clear hP
          by_cases ht : (s[s.size - 1]'(by omega)).toNat % P = 0
          · rw [bitsRet_good s hp0 (by rw [bitsOk_of s hp0, HL.out, ← HP.out]; simp [ht]; omega)]
            have t : (((s[s.size - 1]'(by omega)).toNat : Int) % (P : Int) != 0) = false := bne_f (by omega)
            clear ht
            go_enter Try.func19, Try.ntmps19
            go_wp2_with fail
            go_quiet (fail)
            go_wp2_with fail
            go_quiet (fail)
            go_wp2_with fail
            go_ret3
            exact ⟨rfl, _, World.drewN_drewN _ _ _⟩
          · rw [bitsRet_bad s (by rw [bitsOk_of s hp0, HL.out, ← HP.out]; simp [ht])]
            have t : (((s[s.size - 1]'(by omega)).toNat : Int) % (P : Int) != 0) = true := bne_t (by omega)
            clear ht
            go_enter Try.func19, Try.ntmps19
            go_wp2_with fail
            go_quiet (fail)
            go_wp2_with fail
            go_ret3
            exact ⟨rfl, _, rfl⟩
end Go.Proofs.Ytcpdhmhlmnodcaa
