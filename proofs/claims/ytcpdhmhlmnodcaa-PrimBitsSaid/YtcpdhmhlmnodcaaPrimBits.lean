/-
  The walks of prim.spare, Bits, PutBits and of the references.
-/
import Derived.Test.YtcpdhmhlmnodcaaPrimBool
import Derived.Deep.QuietTactic
import Derived.BigQuiet
namespace Go.Proofs.Ytcpdhmhlmnodcaa
open Go.RowKit

theorem last_of (s : ByteArray) (h : 0 < s.size) : s.data.toList.getLast? = some (s[s.size - 1]'(by omega)) := by
  rw [List.getLast?_eq_getElem?, size_list, data_get? s (s.size - 1) (by omega)]
theorem spare_zero (s : ByteArray) : Sp.spare s.data.toList 0 = true := rfl
theorem spare_nil (s : ByteArray) (u : Nat) (h : s.size = 0) (hu : 0 < u) : Sp.spare s.data.toList u = false := by
  rw [data_nil h]; unfold Sp.spare; simp; omega
theorem spare_last (s : ByteArray) (u : Nat) (h : 0 < s.size) (hu : 0 < u) : Sp.spare s.data.toList u = decide ((s[s.size - 1]'(by omega)).toNat % 2 ^ u = 0) := by
  unfold Sp.spare; rw [last_of s h]; simp; omega

theorem and_mask (x u : Nat) (hx : x < 2 ^ 8) (hu : u ≤ 7) : (bits .and .u8 (x : Int) (((2 : Int) ^ u - 1) % 256) == 0) = decide (x % 2 ^ u = 0) := by
  have h2 : (((2 : Int) ^ u - 1) % 256) = ((2 ^ u - 1 : Nat) : Int) ∧ 2 ^ u - 1 < 256 := by
    rcases (show u = 0 ∨ u = 1 ∨ u = 2 ∨ u = 3 ∨ u = 4 ∨ u = 5 ∨ u = 6 ∨ u = 7 by omega) with rfl | rfl | rfl | rfl | rfl | rfl | rfl | rfl <;> decide
  rw [h2.1, u8_and_nat x _ (by omega) h2.2, Nat.and_two_pow_sub_one_eq_mod]
  rw [Bool.eq_iff_iff]; simp only [beq_iff_eq, decide_eq_true_eq]; omega

set_option maxRecDepth 100000 in
set_option maxHeartbeats 400000 in
theorem spare_any (s : ByteArray) (u : Nat) (hu : u ≤ 7) (w : World) (h : s.size ≤ maxLen) :
    Calls Try.prog 26 #[.string s, .int .i64 (u : Int)] w fun e w' => e = .returned (.bool (Sp.spare s.data.toList u)) ∧ w = w' := by
  unfold maxLen at h
  by_cases h0 : u = 0
  · subst h0
    rw [spare_zero]
    go_enter Try.func26, Try.ntmps26
    go_wp2_with fail
    go_ret
    exact ⟨rfl, rfl⟩
  · have d0 : ((u : Int) == 0) = false := beq_f (by omega)
    by_cases hs : s.size = 0
    · have e0 := empty_true hs
      rw [spare_nil s u hs (by omega)]
      go_enter Try.func26, Try.ntmps26
      go_wp2_with fail
      go_ret
      exact ⟨rfl, rfl⟩
    · have e0 := empty_false (s := s) (by omega)
      rw [spare_last s u (by omega) (by omega)]
      have hs0 : 0 < s.size := by omega
      have hs1 : (1 : Int) ≤ s.size := by omega
      have hb := (s[s.size - 1]'(by omega)).toNat_lt
      go_enter Try.func26, Try.ntmps26
      go_wp2_with fail
      go_ret
      exact ⟨ret_bool (and_mask _ u hb hu), rfl⟩

/-- a contract that leaves the world alone, at a call inside a region that draws -/
theorem quietly {P : Program} {f : FuncId} {args : Array Value} {w : World} {n : Nat} {v : Value}
    (h : Calls P f args (w.drewN n) fun e w' => e = .returned v ∧ w.drewN n = w') : Calls P f args (w.drewN n) fun e w' => e = .returned v ∧ ∃ m, w' = w.drewN m :=
  h.mono fun _ _ ⟨he, hm⟩ => ⟨he, n, hm.symm⟩

theorem spare_is (s : ByteArray) (u : Nat) (b : Bool) (hb : Sp.spare (dl s) u = b) (hu : u ≤ 7) (w : World) (h : s.size ≤ maxLen) :
    Calls Try.prog 26 #[.string s, .int .i64 (u : Int)] w fun e w' => e = .returned (.bool b) ∧ w = w' := by
  have := spare_any s u hu w h
  rw [show s.data.toList = dl s from rfl, hb] at this; exact this
theorem ret_bits {a b c d : List UInt8 × Int × Int} (h : a = b) (_ : c = d) : Ending.returned (.tuple #[.string (bs a.1), .int .i64 a.2.1, .int .i64 a.2.2]) = .returned (.tuple #[.string (bs b.1), .int .i64 b.2.1, .int .i64 b.2.2]) := by rw [h]

/-- what Bits returns -/
def BitsRet (s : ByteArray) : Ending := .returned (.tuple #[.string (bs (Sp.bitsBytes (dl s))), .int .i64 (Sp.bitsUnused (dl s)), .int .i64 (Sp.bitsErr (dl s))])
theorem bitsRet_bad (s : ByteArray) (h : Sp.bitsOk (dl s) = false) : BitsRet s = .returned (.tuple #[.string ⟨#[]⟩, .int .i64 0, .int .i64 7]) := by
  unfold BitsRet Sp.bitsBytes Sp.bitsUnused Sp.bitsErr; simp only [h]; rfl
theorem bitsRet_good (s : ByteArray) (h0 : 0 < s.size) (h : Sp.bitsOk (dl s) = true) : BitsRet s = .returned (.tuple #[.string (s.extract 1 s.size), .int .i64 (s[0].toNat : Int), .int .i64 0]) := by
  unfold BitsRet Sp.bitsBytes Sp.bitsUnused Sp.bitsErr; simp only [h, if_true]
  obtain ⟨r, hr⟩ := data_one s h0
  have e1 : bs (dl s).tail = s.extract 1 s.size := by
    rw [← bs_of (s.extract 1 s.size)]
    congr 1
    rw [Lib.extract_to_end]; unfold dl; simp
  have e2 : ((dl s).headD 0) = s[0] := by unfold dl; rw [hr]; rfl
  rw [e1, e2]
theorem bitsOk_of (s : ByteArray) (h0 : 0 < s.size) : Sp.bitsOk (dl s) = (decide (s[0].toNat ≤ 7) && Sp.spare (dl (s.extract 1 s.size)) s[0].toNat) := by
  obtain ⟨r, hr⟩ := data_one s h0
  rw [dl_extract]
  unfold dl; rw [hr]; rfl

set_option maxRecDepth 100000 in
set_option maxHeartbeats 400000 in
theorem bits_any (s : ByteArray) (w : World) (h : s.size ≤ maxLen) :
    Calls Try.prog 18 #[.string s] w fun e w' => e = BitsRet s ∧ ∃ n, w' = w.drewN n := by
  unfold maxLen at h
  by_cases h0 : s.size = 0
  · rw [bitsRet_bad s (by unfold dl; rw [data_nil h0]; rfl)]
    have e0 := empty_true h0
    go_enter Try.func18, Try.ntmps18
    go_wp2_with fail
    go_quiet (fail)
    go_wp2_with fail
    go_ret3
    exact ⟨rfl, _, rfl⟩
  · have e0 := empty_false (s := s) (by omega)
    have hp0 : 0 < s.size := by omega
    have hp1 : (1 : Int) ≤ s.size := by omega
    have hp2 : 1 ≤ s.size := by omega
    have hb0 := s[0].toNat_lt
    by_cases h7 : 7 < s[0].toNat
    · rw [bitsRet_bad s (by rw [bitsOk_of s hp0]; simp; omega)]
      have d7 : decide ((7 : Int) < (s[0].toNat : Int)) = true := by rw [decide_eq_true_iff]; omega
      go_enter Try.func18, Try.ntmps18
      go_wp2_with fail
      go_quiet (fail)
      go_wp2_with fail
      go_ret3
      exact ⟨rfl, _, rfl⟩
    · have d7 : decide ((7 : Int) < (s[0].toNat : Int)) = false := by rw [decide_eq_false_iff_not]; omega
      have HX := Lib.hid (show (s.extract 1 s.size).size ≤ maxLen by rw [ByteArray.size_extract]; unfold maxLen; omega)
      have HU := Lib.hid (show s[0].toNat ≤ 7 by omega)
      cases hsp : Sp.spare (dl (s.extract 1 s.size)) s[0].toNat with
      | true =>
        rw [bitsRet_good s hp0 (by rw [bitsOk_of s hp0, hsp]; simp; omega)]
        have HS := Lib.hid hsp
        clear hsp
        go_enter Try.func18, Try.ntmps18
        go_wp2_with fail
        go_quiet ((go_at_call 26; exact quietly (spare_is (s.extract 1 s.size) s[0].toNat _ HS.out HU.out _ HX.out)))
        go_wp2_with fail
        go_quiet (fail)
        go_wp2_with fail
        go_ret3
        exact ⟨rfl, _, World.drewN_drewN _ _ _⟩
      | false =>
        rw [bitsRet_bad s (by rw [bitsOk_of s hp0, hsp]; simp)]
        have HS := Lib.hid hsp
        clear hsp
        go_enter Try.func18, Try.ntmps18
        go_wp2_with fail
        go_quiet ((go_at_call 26; exact quietly (spare_is (s.extract 1 s.size) s[0].toNat _ HS.out HU.out _ HX.out)))
        go_wp2_with fail
        go_ret3
        exact ⟨rfl, _, rfl⟩
end Go.Proofs.Ytcpdhmhlmnodcaa
