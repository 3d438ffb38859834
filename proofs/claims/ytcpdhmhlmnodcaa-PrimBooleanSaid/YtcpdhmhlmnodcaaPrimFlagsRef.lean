/-
  The walk of the reference's Flags.
-/
import Derived.Test.YtcpdhmhlmnodcaaPrimFlags
namespace Go.Proofs.Ytcpdhmhlmnodcaa
open Go.RowKit

/-- the last bit, as the reference asks for it -/
theorem last_bit (b : ByteArray) (u : Nat) (hu : u ≤ 7) (h : 0 < b.size) : Sp.bit (dl b) (8 * b.size - u - 1) = decide ((b[b.size - 1]'(by omega)).toNat / 2 ^ u % 2 = 1) := by
  have e : (8 * b.size - u - 1) / 8 = b.size - 1 := by omega
  have e' : 7 - (8 * b.size - u - 1) % 8 = u := by omega
  unfold Sp.bit dl
  rw [List.getD, e, data_get? b _ (by omega), e', Nat.testBit_eq_decide_div_mod_eq]; rfl
theorem div_cast (x n : Nat) : (x : Int) / 2 ^ n = ((x / 2 ^ n : Nat) : Int) := by rw [Int.natCast_ediv, Int.natCast_pow]; rfl

set_option maxRecDepth 100000 in
set_option maxHeartbeats 400000 in
theorem ref_flags_any (s : ByteArray) (w : World) (h : s.size ≤ 140737488351232) :
    Calls Try.prog 23 #[.string s] w fun e w' => e = FlagsRet s ∧ ∃ n, w' = w.drewN n := by
  have HM := Lib.hid (show s.size ≤ maxLen by unfold maxLen; omega)
  cases hok : Sp.bitsOk (dl s) with
  | false =>
    rw [flagsRet_bad s hok]
    have HB := Lib.hid (bitsRet_bad s hok)
    clear hok
    go_enter Try.func23, Try.ntmps23
    go_wp2_with (go_at_call 19; refine (ref_bits_any s _ HM.out).mono ?_; rintro e w' ⟨rfl, n, rfl⟩; rw [HB.out])
    go_ret2
    exact ⟨rfl, _, rfl⟩
  | true =>
    obtain ⟨b, u, G⟩ := bits_good s h hok
    rw [G.flags]
    have hz := G.size
    have hu7 := G.u7
    have hu7' : (u : Int) ≤ 7 := by omega
    have hle := G.le
    have HG := Lib.hid G
    clear G hok
    by_cases hN : 8 * b.size ≤ u
    · have hN' : 8 * (b.size : Int) ≤ u := by omega
      have e : 8 * b.size - u = 0 := by omega
      have HE : Hid ((Sp.flagsOf (dl b) (8 * b.size - u)) = (0, 0)) := by rw [e]; rfl
      rw [HE.out]
      clear e
      go_enter Try.func23, Try.ntmps23
      go_wp2_with (go_at_call 19; refine (ref_bits_any s _ HM.out).mono ?_; rintro e w' ⟨rfl, n, rfl⟩; rw [HG.out.ret])
      go_loop [8, 9] (fun m i => m = .int .i64 0 ∧ i = .int .i64 0) (fun _ _ => 0)
      case atStart => exact ⟨rfl, rfl⟩
      case round =>
        obtain ⟨rfl, rfl⟩ := hrel
        go_wp2_with fail
        go_ret2
        exact ⟨rfl, _, rfl⟩
    · obtain ⟨N, hNe⟩ : ∃ N, N = 8 * b.size - u := ⟨_, rfl⟩
      have hNi : (N : Int) = 8 * (b.size : Int) - u := by omega
      have hN1 : 1 ≤ N := by omega
      have hNb : N ≤ 8 * b.size := by omega
      have hb0 : 0 < b.size := by omega
      have hb1 : (1 : Int) ≤ b.size := by omega
      have hlb := last_bit b u hu7 hb0
      rw [← hNe] at hlb ⊢
      have HLB := Lib.hid hlb
      have HNI := Lib.hid hNi
      clear hNe hN hNi hlb
      have hx := (b[b.size - 1]'(by omega)).toNat_lt
      have hq : 0 ≤ ((b[b.size - 1]'(by omega)).toNat : Int) / 2 ^ u := by rw [div_cast]; exact Int.natCast_nonneg _
      have hp : (0 : Int) < 8 * (b.size : Int) - u := by have := HNI.out; omega
      by_cases hbit : ((b[b.size - 1]'(by omega)).toNat : Int) / 2 ^ u % 2 = 0
      · have hf : Sp.bit (dl b) (N - 1) = false := by
          rw [HLB.out, decide_eq_false_iff_not]
          rw [div_cast] at hbit; omega
        have e : Sp.flagsOf (dl b) N = (0, 7) := by unfold Sp.flagsOf; rw [if_pos ⟨by omega, hf⟩]
        rw [e]
        have t : (((b[b.size - 1]'(by omega)).toNat : Int) / 2 ^ u % 2 == 0) = true := beq_t hbit
        clear hbit e hf
        go_enter Try.func23, Try.ntmps23
        go_wp2_with (go_at_call 19; refine (ref_bits_any s _ HM.out).mono ?_; rintro e w' ⟨rfl, n, rfl⟩; rw [HG.out.ret])
        all_goals try (exfalso; omega)
        go_ret2
        exact ⟨rfl, _, rfl⟩
      · have hf : Sp.bit (dl b) (N - 1) = true := by
          rw [HLB.out, decide_eq_true_iff]
          rw [div_cast] at hbit; omega
        have t : (((b[b.size - 1]'(by omega)).toNat : Int) / 2 ^ u % 2 == 0) = false := beq_f hbit
        have HV := Lib.hid hf
        clear hbit hf
        by_cases h16 : 16 < N
        · have e : Sp.flagsOf (dl b) N = (0, 1) := by unfold Sp.flagsOf; rw [if_neg (by rw [HV.out]; simp), if_pos h16]
          rw [e]
          have h16' : (16 : Int) < 8 * (b.size : Int) - u := by have := HNI.out; omega
          clear e
          go_enter Try.func23, Try.ntmps23
          go_wp2_with (go_at_call 19; refine (ref_bits_any s _ HM.out).mono ?_; rintro e w' ⟨rfl, n, rfl⟩; rw [HG.out.ret])
          all_goals try (exfalso; omega)
          go_ret2
          exact ⟨rfl, _, rfl⟩
        · obtain ⟨M, HM'⟩ := maskLoop b
          have e : Sp.flagsOf (dl b) N = (((M N : Nat) : Int), 0) := by unfold Sp.flagsOf; rw [if_neg (by rw [HV.out]; simp), if_neg h16, HM'.eq]
          rw [e]
          have h16' : 8 * (b.size : Int) - u ≤ 16 := by have := HNI.out; omega
          clear e
          have H0 := Lib.hid HM'.start
          go_enter Try.func23, Try.ntmps23
          go_wp2_with (go_at_call 19; refine (ref_bits_any s _ HM.out).mono ?_; rintro e w' ⟨rfl, n, rfl⟩; rw [HG.out.ret])
          all_goals try (exfalso; omega)
          go_loop [8, 9] (fun m i => ∃ k : Nat, k ≤ N ∧ i = .int .i64 k ∧ m = .int .i64 (M k : Nat)) (fun _ i => N - (intOf i).toNat)
          case atStart => exact ⟨0, by omega, rfl, val_int (by rw [H0.out]; rfl)⟩
          case round =>
            obtain ⟨k, hk, rfl, rfl⟩ := hrel
            by_cases hlt : k < N
            · have hlt' : (k : Int) < 8 * (b.size : Int) - u := by have := HNI.out; omega
              have hk8 : (k : Int) < 16 := by omega
              have h8 : k / 8 < b.size := by omega
              have hxk := b[k / 8].toNat_lt
              have hqk : 0 ≤ (b[k / 8].toNat : Int) / 2 ^ (7 - k % 8) := by rw [div_cast]; exact Int.natCast_nonneg _
              have hMk := HM'.lt k (by omega)
              have hbg := Lib.hid (bit_get b k h8)
              by_cases hv : (b[k / 8].toNat : Int) / 2 ^ (7 - k % 8) % 2 = 1
              · have HST := Lib.hid (HM'.yes k (by rw [hbg.out, Nat.testBit_eq_decide_div_mod_eq, decide_eq_true_iff]; rw [div_cast] at hv; omega))
                have tk : ((b[k / 8].toNat : Int) / 2 ^ (7 - k % 8) % 2 == 1) = true := beq_t hv
                clear hv
                go_wp2_with fail
                exact ⟨⟨k + 1, by omega, by go_num, val_int (by rw [HST.out]; exact or_bit _ _ hMk (by omega))⟩, by simp [intOf]; omega⟩
              · have HST := Lib.hid (HM'.no k (by rw [hbg.out, Nat.testBit_eq_decide_div_mod_eq, decide_eq_false_iff_not]; rw [div_cast] at hv; omega))
                have tk : ((b[k / 8].toNat : Int) / 2 ^ (7 - k % 8) % 2 == 1) = false := beq_f hv
                clear hv
                go_wp2_with fail
                exact ⟨⟨k + 1, by omega, by go_num, val_int (by rw [HST.out])⟩, by simp [intOf]; omega⟩
            · have hge : 8 * (b.size : Int) - u ≤ (k : Int) := by have := HNI.out; omega
              obtain rfl : k = N := by omega
              go_wp2_with fail
              go_ret2
              exact ⟨rfl, _, rfl⟩
end Go.Proofs.Ytcpdhmhlmnodcaa
