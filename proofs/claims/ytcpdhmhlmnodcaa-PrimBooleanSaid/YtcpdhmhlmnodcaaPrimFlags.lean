/-
  The walks of prim.bit, Flags and of the reference's Flags.
-/
import Derived.Test.YtcpdhmhlmnodcaaPrimPutBits
namespace Go.Proofs.Ytcpdhmhlmnodcaa
open Go.RowKit

theorem bit_get (s : ByteArray) (k : Nat) (h : k / 8 < s.size) : Sp.bit (dl s) k = (s[k / 8].toNat).testBit (7 - k % 8) := by
  unfold Sp.bit dl
  rw [List.getD, data_get? s _ h]; rfl
theorem and_one (x n : Nat) (hx : x < 2 ^ 8) : (bits .and .u8 ((x : Int) / 2 ^ n) 1 == 1) = x.testBit n := by
  have e : (x : Int) / 2 ^ n = ((x / 2 ^ n : Nat) : Int) := by rw [Int.natCast_ediv, Int.natCast_pow]; rfl
  have hlt : x / 2 ^ n < 256 := Nat.lt_of_le_of_lt (Nat.div_le_self _ _) (by omega)
  rw [e, show (1 : Int) = ((1 : Nat) : Int) from rfl, u8_and_nat _ 1 hlt (by omega), Nat.and_one_is_mod, Nat.testBit_eq_decide_div_mod_eq]
  rw [Bool.eq_iff_iff]; simp only [beq_iff_eq, decide_eq_true_eq]; omega

set_option maxRecDepth 100000 in
set_option maxHeartbeats 400000 in
theorem bit_any (s : ByteArray) (k : Nat) (w : World) (h : s.size ≤ 140737488351232) (hk : k < 8 * s.size) :
    Calls Try.prog 27 #[.string s, .int .i64 (k : Int)] w fun e w' => e = .returned (.bool (Sp.bit (dl s) k)) ∧ w = w' := by
  have h8 : k / 8 < s.size := by omega
  have hb := s[k / 8].toNat_lt
  rw [bit_get s k h8]
  go_enter Try.func27, Try.ntmps27
  go_wp2_with fail
  go_ret
  exact ⟨ret_bool (and_one _ _ hb), rfl⟩
theorem bit_is (s : ByteArray) (k : Int) (v : Bool) (w : World) (hv : Sp.bit (dl s) k.toNat = v) (h : s.size ≤ 140737488351232) (h0 : 0 ≤ k) (hk : k < 8 * s.size) :
    Calls Try.prog 27 #[.string s, .int .i64 k] w fun e w' => e = .returned (.bool v) ∧ w = w' := by
  obtain ⟨n, rfl⟩ := Int.eq_ofNat_of_zero_le h0
  rw [Int.toNat_natCast] at hv
  rw [← hv]
  exact bit_any s n w h (by omega)

theorem pow_cast (k : Nat) : (2 : Int) ^ k = ((2 ^ k : Nat) : Int) := by rw [Int.natCast_pow]; rfl
theorem pow_small (k : Nat) (hk : k < 16) : 2 ^ k < 65536 := by
  have : 2 ^ k < 2 ^ 16 := Nat.pow_lt_pow_right (by omega) hk
  omega
theorem or_bit (m k : Nat) (hm : m < 65536) (hk : k < 16) : bits .or .i64 (m : Int) (wrap64 ((2 : Int) ^ k)) = ((m ||| 2 ^ k : Nat) : Int) := by
  have hp := pow_small k hk
  rw [pow_cast]
  generalize 2 ^ k = P at *
  rw [IntWalk.wrap64_in _ (by omega)]
  exact (bits_nat .i64 16 (by decide) (fun n h0 h1 => IntWalk.i64_in n (by omega)) m P (by omega) (by omega)).2

/-- what Flags returns -/
def FlagsRet (s : ByteArray) : Ending := .returned (.tuple #[.int .i64 (Sp.flags (dl s)).1, .int .i64 (Sp.flags (dl s)).2])
/-- what Bits hands on where it succeeds -/
structure BitsGood (s b : ByteArray) (u : Nat) : Prop where
  ret : BitsRet s = .returned (.tuple #[.string b, .int .i64 (u : Int), .int .i64 0])
  size : b.size ≤ 140737488351232
  u7 : u ≤ 7
  le : u ≤ 8 * b.size
  flags : FlagsRet s = .returned (.tuple #[.int .i64 (Sp.flagsOf (dl b) (8 * b.size - u)).1, .int .i64 (Sp.flagsOf (dl b) (8 * b.size - u)).2])
  spare : Sp.spare (dl b) u = true
theorem bits_good (s : ByteArray) (h : s.size ≤ 140737488351232) (hok : Sp.bitsOk (dl s) = true) : ∃ b u, BitsGood s b u := by
  have h0 : 0 < s.size := by
    rcases Nat.eq_zero_or_pos s.size with h0 | h0
    · unfold dl at hok; rw [data_nil h0] at hok; cases hok
    · exact h0
  have hb := bitsRet_good s h0 hok
  have hlen : (s.extract 1 s.size).size = s.size - 1 := by rw [ByteArray.size_extract]; omega
  have hok' := hok
  rw [bitsOk_of s h0] at hok'
  simp only [Bool.and_eq_true, decide_eq_true_eq] at hok'
  have hu : Sp.bitsUnused (dl s) = s[0].toNat := by
    unfold Sp.bitsUnused; rw [if_pos hok]
    obtain ⟨r, hr⟩ := data_one s h0
    unfold dl; rw [hr]; rfl
  have hby : Sp.bitsBytes (dl s) = dl (s.extract 1 s.size) := by
    unfold Sp.bitsBytes; rw [if_pos hok, dl_extract]; simp
  refine ⟨s.extract 1 s.size, s[0].toNat, hb, by omega, hok'.1, ?_, ?_, hok'.2⟩
  · have hs := hok'.2
    rcases Nat.eq_zero_or_pos s[0].toNat with h | h
    · omega
    · rcases Nat.eq_zero_or_pos (s.size - 1) with h1 | h1
      · rw [spare_tail_nil s _ (by omega) h] at hs; cases hs
      · omega
  · unfold FlagsRet Sp.flags
    rw [if_pos hok, hby, hu]
    unfold Sp.count; rw [dl_length]
theorem flagsRet_bad (s : ByteArray) (h : Sp.bitsOk (dl s) = false) : FlagsRet s = .returned (.tuple #[.int .i64 0, .int .i64 7]) := by
  unfold FlagsRet Sp.flags; rw [h]; rfl

/-- what the loop gathers -/
structure MaskLoop (b : ByteArray) (M : Nat → Nat) : Prop where
  start : M 0 = 0
  yes : ∀ k, Sp.bit (dl b) k = true → M (k + 1) = M k ||| 2 ^ k
  no : ∀ k, Sp.bit (dl b) k = false → M (k + 1) = M k
  lt : ∀ k, k ≤ 16 → M k < 65536
  eq : ∀ k, M k = Sp.maskOf (dl b) k
theorem maskLoop (b : ByteArray) : ∃ M, MaskLoop b M := by
  refine ⟨Sp.maskOf (dl b), rfl, fun k h => ?_, fun k h => ?_, fun k hk => ?_, fun _ => rfl⟩
  · rw [Sp.maskOf, if_pos h]
  · rw [Sp.maskOf, if_neg (by rw [h]; simp)]
  · exact Nat.lt_of_lt_of_le (Sp.maskOf_lt (dl b) k) (show 2 ^ k ≤ 2 ^ 16 from Nat.pow_le_pow_right (by omega) hk)

set_option maxRecDepth 100000 in
set_option maxHeartbeats 400000 in
theorem flags_any (s : ByteArray) (w : World) (h : s.size ≤ 140737488351232) :
    Calls Try.prog 22 #[.string s] w fun e w' => e = FlagsRet s ∧ ∃ n, w' = w.drewN n := by
  have HM := Lib.hid (show s.size ≤ maxLen by unfold maxLen; omega)
  cases hok : Sp.bitsOk (dl s) with
  | false =>
    rw [flagsRet_bad s hok]
    have HB := Lib.hid (bitsRet_bad s hok)
    clear hok
    go_enter Try.func22, Try.ntmps22
    go_wp2_with (go_at_call 18; refine (bits_any s _ HM.out).mono ?_; rintro e w' ⟨rfl, n, rfl⟩; rw [HB.out])
    go_ret2
    exact ⟨rfl, _, rfl⟩
  | true =>
    obtain ⟨b, u, G⟩ := bits_good s h hok
    rw [G.flags]
    have hz := G.size
    have hu7 := G.u7
    have hle := G.le
    have HG := Lib.hid G
    clear G hok
    by_cases hN : 8 * b.size ≤ u
    · have hN' : 8 * (b.size : Int) ≤ u := by omega
      have e : 8 * b.size - u = 0 := by omega
      have HE : Hid ((Sp.flagsOf (dl b) (8 * b.size - u)) = (0, 0)) := by rw [e]; rfl
      rw [HE.out]
      clear e
      go_enter Try.func22, Try.ntmps22
      go_wp2_with (go_at_call 18; refine (bits_any s _ HM.out).mono ?_; rintro e w' ⟨rfl, n, rfl⟩; rw [HG.out.ret])
      go_loop [8, 36] (fun m i => m = .int .i64 0 ∧ i = .int .i64 0) (fun _ _ => 0)
      case atStart => exact ⟨rfl, rfl⟩
      case round =>
        obtain ⟨rfl, rfl⟩ := hrel
        go_wp2_with fail
        go_ret2
        exact ⟨rfl, _, rfl⟩
    · obtain ⟨N, hNe⟩ : ∃ N, N = 8 * b.size - u := ⟨_, rfl⟩
      have hNi : (N : Int) = 8 * (b.size : Int) - u := by omega
      have hN1 : 1 ≤ N := by omega
      have hNb : N ≤ 8 * b.size := by omega
      rw [← hNe]
      have HNI := Lib.hid hNi
      clear hNe hN hNi
      have bitAt : ∀ (W : World) (v : Bool), Sp.bit (dl b) (N - 1) = v → Calls Try.prog 27 #[.string b, .int .i64 (8 * (b.size : Int) - u - 1)] W fun e w' => e = .returned (.bool v) ∧ W = w' := by
        intro W v hv
        have e : (8 * (b.size : Int) - u - 1) = ((N - 1 : Nat) : Int) := by have := HNI.out; omega
        rw [e]
        exact bit_is b _ v W (by rw [Int.toNat_natCast]; exact hv) hz (by omega) (by omega)
      have BA := Lib.hid bitAt
      clear bitAt
      have hp : (0 : Int) < 8 * (b.size : Int) - u := by have := HNI.out; omega
      cases hbit : Sp.bit (dl b) (N - 1) with
      | false =>
        have e : Sp.flagsOf (dl b) N = (0, 7) := by unfold Sp.flagsOf; rw [if_pos ⟨by omega, hbit⟩]
        rw [e]
        have HV := Lib.hid hbit
        clear hbit e
        go_enter Try.func22, Try.ntmps22
        go_wp2_with (first | (go_at_call 18; refine (bits_any s _ HM.out).mono ?_; rintro e w' ⟨rfl, n, rfl⟩; rw [HG.out.ret]) | (go_at_call 27; refine (BA.out _ _ HV.out).mono ?_; rintro e w' ⟨rfl, rfl⟩))
        all_goals try (exfalso; omega)
        go_ret2
        exact ⟨rfl, _, rfl⟩
      | true =>
        have HV := Lib.hid hbit
        clear hbit
        by_cases h16 : 16 < N
        · have e : Sp.flagsOf (dl b) N = (0, 1) := by unfold Sp.flagsOf; rw [if_neg (by rw [HV.out]; simp), if_pos h16]
          rw [e]
          have h16' : (16 : Int) < 8 * (b.size : Int) - u := by have := HNI.out; omega
          clear e
          go_enter Try.func22, Try.ntmps22
          go_wp2_with (first | (go_at_call 18; refine (bits_any s _ HM.out).mono ?_; rintro e w' ⟨rfl, n, rfl⟩; rw [HG.out.ret]) | (go_at_call 27; refine (BA.out _ _ HV.out).mono ?_; rintro e w' ⟨rfl, rfl⟩))
          all_goals try (exfalso; omega)
          go_ret2
          exact ⟨rfl, _, rfl⟩
        · obtain ⟨M, HM'⟩ := maskLoop b
          have e : Sp.flagsOf (dl b) N = (((M N : Nat) : Int), 0) := by unfold Sp.flagsOf; rw [if_neg (by rw [HV.out]; simp), if_neg h16, HM'.eq]
          rw [e]
          have h16' : 8 * (b.size : Int) - u ≤ 16 := by have := HNI.out; omega
          clear e
          have H0 := Lib.hid HM'.start
          go_enter Try.func22, Try.ntmps22
          go_wp2_with (first | (go_at_call 18; refine (bits_any s _ HM.out).mono ?_; rintro e w' ⟨rfl, n, rfl⟩; rw [HG.out.ret]) | (go_at_call 27; refine (BA.out _ _ HV.out).mono ?_; rintro e w' ⟨rfl, rfl⟩))
          all_goals try (exfalso; omega)
          go_loop [8, 36] (fun m i => ∃ k : Nat, k ≤ N ∧ i = .int .i64 k ∧ m = .int .i64 (M k : Nat)) (fun _ i => N - (intOf i).toNat)
          case atStart => exact ⟨0, by omega, rfl, val_int (by rw [H0.out]; rfl)⟩
          case round =>
            obtain ⟨k, hk, rfl, rfl⟩ := hrel
            by_cases hlt : k < N
            · have hlt' : (k : Int) < 8 * (b.size : Int) - u := by have := HNI.out; omega
              have hk8 : (k : Int) < 16 := by omega
              have hMk := HM'.lt k (by omega)
              cases hv : Sp.bit (dl b) k with
              | false =>
                have HVK := Lib.hid hv
                have HST := Lib.hid (HM'.no k hv)
                clear hv
                go_wp2_with (go_at_call 27; refine (bit_is b k false _ (by rw [Int.toNat_natCast]; exact HVK.out) hz (by omega) (by omega)).mono ?_; rintro e w' ⟨rfl, rfl⟩)
                go_round
                case rel => exact ⟨k + 1, by omega, by go_num, val_int (by rw [HST.out])⟩
                case measure => simp [intOf]; omega
              | true =>
                have HVK := Lib.hid hv
                have HST := Lib.hid (HM'.yes k hv)
                clear hv
                go_wp2_with (go_at_call 27; refine (bit_is b k true _ (by rw [Int.toNat_natCast]; exact HVK.out) hz (by omega) (by omega)).mono ?_; rintro e w' ⟨rfl, rfl⟩)
                exact ⟨⟨k + 1, by omega, by go_num, val_int (by rw [HST.out]; exact or_bit _ _ hMk (by omega))⟩, by simp [intOf]; omega⟩
            · have hge : 8 * (b.size : Int) - u ≤ (k : Int) := by have := HNI.out; omega
              obtain rfl : k = N := by omega
              go_wp2_with fail
              go_ret2
              exact ⟨rfl, _, rfl⟩
end Go.Proofs.Ytcpdhmhlmnodcaa
