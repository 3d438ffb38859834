/-
  The walk of prim.PutFlags.
-/
import Derived.Test.YtcpdhmhlmnodcaaPrimFlagsRef
namespace Go.Proofs.Ytcpdhmhlmnodcaa
open Go.RowKit

/-- what PutFlags returns -/
def PutFlagsRet (m : Int) : Ending := .returned (.tuple #[.string (bs (Sp.putFlags m).1), .int .i64 (Sp.putFlags m).2])
theorem putFlagsRet_range (m : Int) (h : m < 0 ∨ 65535 < m) : PutFlagsRet m = .returned (.tuple #[.string ⟨#[]⟩, .int .i64 1]) := by
  unfold PutFlagsRet Sp.putFlags; rw [if_pos h]; rfl
theorem putFlagsRet_good (m : Nat) (h : m ≤ 65535) : PutFlagsRet m = .returned (.tuple #[.string (bs (Sp.rows m (Sp.width m 16) (Sp.width m 16))), .int .i64 0]) := by
  unfold PutFlagsRet Sp.putFlags; rw [if_neg (by omega), Int.toNat_natCast]
theorem width_test (m k : Nat) (hm : m ≤ 65535) : 0 < (m : Int) / 2 ^ k ↔ k < Sp.width m 16 := by
  rw [div_cast]
  have hlt := Sp.width_lt m 16 (by omega)
  constructor
  · intro h
    by_cases hk : k < Sp.width m 16
    · exact hk
    · have hp : 2 ^ Sp.width m 16 ≤ 2 ^ k := Nat.pow_le_pow_right (by omega) (by omega)
      rw [Nat.div_eq_of_lt (by omega)] at h
      simp at h
  · intro hk
    have ht := Sp.width_eq_top (m := m) (by omega)
    have hge := Nat.ge_two_pow_of_testBit ht
    have hp : 2 ^ k ≤ 2 ^ (Sp.width m 16 - 1) := Nat.pow_le_pow_right (by omega) (by omega)
    have : 1 ≤ m / 2 ^ k := (Nat.one_le_div_iff (Nat.two_pow_pos k)).2 (by omega)
    omega

/-- what the loops meet -/
structure PutFlagsLoop (m W : Nat) (R : Nat → List UInt8) : Prop where
  w16 : W ≤ 16
  more : ∀ k, k < W → 0 < (m : Int) / 2 ^ k
  stop : (m : Int) / 2 ^ W ≤ 0
  len : ∀ k, (R k).length = 1 + (W + 7) / 8
  start : ∀ q : UInt8, (q.toNat : Int) = 8 * (((W : Int) + 7) / 8) - W → (List.replicate (1 + (W + 7) / 8) (0 : UInt8)).set 0 q = R 0
  keep : ∀ k, k < W → m.testBit k = false → R (k + 1) = R k
  set : ∀ k, k < W → m.testBit k = true → ∃ x : UInt8, (R k)[1 + k / 8]? = some x ∧ ∀ y : UInt8, y.toNat = x.toNat ||| 2 ^ (7 - k % 8) → R (k + 1) = (R k).set (1 + k / 8) y
  ret : PutFlagsRet m = .returned (.tuple #[.string (bs (R W)), .int .i64 0])
theorem putFlagsLoop' (m : Nat) (hm : m ≤ 65535) : ∃ R, PutFlagsLoop m (Sp.width m 16) R := by
  have hw := Sp.width_le m 16
  refine ⟨Sp.rows m (Sp.width m 16), hw, fun k hk => (width_test m k hm).2 hk, ?_, fun k => Sp.rows_length _ _ _, ?_, fun k _ h => Sp.rows_keep _ _ _ h, ?_, putFlagsRet_good m hm⟩
  · have := (width_test m (Sp.width m 16) hm)
    omega
  · intro q hq
    rw [Sp.rows_zero, Nat.add_comm 1, List.replicate_succ, List.set_cons_zero]
    congr 1
    apply UInt8.toNat_inj.1
    rw [UInt8.toNat_ofNat']; omega
  · intro k hk hb
    have hj : k / 8 < (Sp.width m 16 + 7) / 8 := by omega
    refine ⟨Sp.partByte m (k / 8) k, ?_, ?_⟩
    · rw [List.getElem?_eq_getElem (by rw [Sp.rows_length]; omega), Sp.rows_get _ _ _ _ hj]
    · intro y hy
      rw [Sp.rows_set m _ k hb hk]
      congr 1
      apply UInt8.toNat_inj.1
      rw [UInt8.toNat_ofNat', hy, Sp.partByte_toNat]
      refine Nat.mod_eq_of_lt (Nat.or_lt_two_pow (n := 8) (Sp.part_lt m _ k) (Nat.pow_lt_pow_right (by omega) (by omega)))

theorem putFlagsLoop (m : Nat) (hm : m ≤ 65535) : ∃ W R, PutFlagsLoop m W R := by
  obtain ⟨R, h⟩ := putFlagsLoop' m hm
  exact ⟨_, R, h⟩
theorem and_one64 (m k : Nat) (hm : m ≤ 65535) : (bits .and .i64 ((m : Int) / 2 ^ k) 1 == 1) = m.testBit k := by
  have hlt : m / 2 ^ k < 65536 := Nat.lt_of_le_of_lt (Nat.div_le_self _ _) (by omega)
  rw [div_cast, show (1 : Int) = ((1 : Nat) : Int) from rfl, (bits_nat .i64 16 (by decide) (fun n h0 h1 => IntWalk.i64_in n (by omega)) (m / 2 ^ k) 1 hlt (by omega)).1, Nat.and_one_is_mod, Nat.testBit_eq_decide_div_mod_eq]
  rw [Bool.eq_iff_iff]; simp only [beq_iff_eq, decide_eq_true_eq]; omega

theorem or_byte_bit (x : UInt8) (e : Nat) (he : e ≤ 7) : bits .or .u8 (x.toNat : Int) ((2 : Int) ^ e % 256) = ((UInt8.ofNat (x.toNat ||| 2 ^ e)).toNat : Int) ∧ (UInt8.ofNat (x.toNat ||| 2 ^ e)).toNat = x.toNat ||| 2 ^ e := by
  have hp : 2 ^ e < 256 := by
    have : 2 ^ e < 2 ^ 8 := Nat.pow_lt_pow_right (by omega) (by omega)
    omega
  have hx := x.toNat_lt
  have hor : x.toNat ||| 2 ^ e < 256 := Nat.or_lt_two_pow (n := 8) hx hp
  have e2 : (UInt8.ofNat (x.toNat ||| 2 ^ e)).toNat = x.toNat ||| 2 ^ e := by rw [UInt8.toNat_ofNat']; exact Nat.mod_eq_of_lt hor
  refine ⟨?_, e2⟩
  rw [e2, pow_cast]
  generalize 2 ^ e = P at *
  rw [Int.emod_eq_of_lt (by omega) (by omega)]
  exact u8_or_nat _ _ (by omega) (by omega)

set_option maxRecDepth 100000 in
set_option maxHeartbeats 400000 in
theorem putFlags_any (m : Int) (w : World) :
    Calls Try.prog 24 #[.int .i64 m] w fun e w' => e = PutFlagsRet m ∧ Below w.heap.size w w' := by
  by_cases hr : m < 0 ∨ 65535 < m
  · rw [putFlagsRet_range m hr]
    rcases hr with hr | hr
    all_goals
      go_enter Try.func24, Try.ntmps24
      go_wp2_with fail
      all_goals try (exfalso; omega)
      go_ret2
      exact ⟨rfl, Below.refl _ _⟩
  · obtain ⟨n, rfl⟩ := Int.eq_ofNat_of_zero_le (show 0 ≤ m by omega)
    have hn : n ≤ 65535 := by omega
    have hn' : (n : Int) ≤ 65535 := by omega
    clear hr
    obtain ⟨W, R, L⟩ := putFlagsLoop n hn
    rw [L.ret]
    have h16 := L.w16
    have hstop := Lib.hid L.stop
    go_enter Try.func24, Try.ntmps24
    go_wp2_with fail
    all_goals try (exfalso; omega)
    go_loop [4] (fun i => ∃ k : Nat, k ≤ W ∧ i = .int .i64 k) (fun i => W - (intOf i).toNat)
    case atStart => exact ⟨0, by omega, rfl⟩
    case round =>
      obtain ⟨k, hk, rfl⟩ := hrel
      by_cases hlt : k < W
      · have hmore := L.more k hlt
        go_wp2_with fail
        exact ⟨⟨k + 1, by omega, by go_num⟩, by simp [intOf]; omega⟩
      · obtain rfl : k = W := by omega
        have hno := hstop.out
        go_wp2_with (refine wpList_make_bytes rfl _ rfl w.heap.size _ (1 + (k + 7) / 8) rfl (by omega) (by omega) (Nat.le_refl _) ?_; intro w1 hown hb1 hz1; have hc0 := own_zero hown 0 (by omega); have hf0 := hown.frozenAt 0)
        have hgb := own_base hown
        have hown0 := own_set hown 0 (8 * (1 + ((k : Int) + 7) / 8 - 1) - k) (UInt8.ofNat (8 * ((k + 7) / 8) - k)) (by rw [UInt8.toNat_ofNat']; omega)
        rw [L.start _ (by rw [UInt8.toNat_ofNat']; omega)] at hown0
        clear hown hc0 hf0
        have hb2 := hb1.setCell (p := ⟨w.heap.size, 0, none⟩) (Nat.le_refl _) (.int .u8 (8 * (1 + ((k : Int) + 7) / 8 - 1) - k))
        generalize w1.setCell ⟨w.heap.size, 0, none⟩ (.int .u8 (8 * (1 + ((k : Int) + 7) / 8 - 1) - k)) = w2 at *
        clear hb1 hz1
        go_loopw [35] (fun i wr => ∃ j : Nat, j ≤ k ∧ i = .int .i64 j ∧ wr.ownsRow w.heap.size 5 1 (.slice (some ⟨w.heap.size, 0, none⟩) (1 + (k + 7) / 8) (1 + (k + 7) / 8)) (1 + (k + 7) / 8) (bytesV (R j)) ∧ Below w.heap.size w wr) (fun i _ => k - (intOf i).toNat)
        case atStart => exact ⟨0, by omega, rfl, hown0, hb2⟩
        case round =>
          obtain ⟨j, hj, rfl, hown, hbel⟩ := hrel
          by_cases hlt : j < k
          · have hj' : (j : Int) < 16 := by omega
            cases hbit : n.testBit j with
            | false =>
              have t := (and_one64 n j hn).trans hbit
              have HK := Lib.hid (L.keep j hlt hbit)
              clear hbit
              go_wp2_with fail
              go_roundw
              case rel => exact ⟨j + 1, by omega, by go_num, by rw [HK.out]; exact hown, hbel⟩
              case measure => simp [intOf]; omega
            | true =>
              have t := (and_one64 n j hn).trans hbit
              obtain ⟨x, hx, hset⟩ := L.set j hlt hbit
              have hjl : 1 + j / 8 < (R j).length := by rw [L.len]; omega
              have hcx := own_cell hown (1 + j / 8) hjl
              rw [show (R j)[1 + j / 8] = x from by rw [List.getElem?_eq_getElem hjl] at hx; injection hx] at hcx
              have hfx := hown.frozenAt (1 + j / 8)
              have HS := Lib.hid hset
              have hxl := x.toNat_lt
              clear hbit hx hset hjl
              go_wp2_with fail
              exact ⟨⟨j + 1, by omega, by go_num, by rw [HS.out _ (or_byte_bit x (7 - j % 8) (by omega)).2]; exact own_set hown _ _ _ (or_byte_bit x (7 - j % 8) (by omega)).1, hbel.setCell (Nat.le_refl _) _⟩, by simp [intOf]; omega⟩
          · obtain rfl : j = k := by omega
            have hcv := run_string hown
            go_wp2_with fail
            go_ret2
            exact ⟨rfl, hbel⟩
end Go.Proofs.Ytcpdhmhlmnodcaa
