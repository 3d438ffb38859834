/-
  The walk of the reference's PutFlags.
-/
import Derived.Test.YtcpdhmhlmnodcaaPrimPutFlags
import Derived.Deep.RegionHeld3
namespace Go.Proofs.Ytcpdhmhlmnodcaa
open Go.RowKit

/-- the reference's first loop: the width of the bits below k -/
structure WidthLoop (n : Nat) (V : Nat → Nat) : Prop where
  start : V 0 = 0
  yes : ∀ k, n.testBit k = true → V (k + 1) = k + 1
  no : ∀ k, n.testBit k = false → V (k + 1) = V k
theorem widthLoop (n : Nat) : ∃ V, WidthLoop n V ∧ V 16 = Sp.width n 16 := ⟨Sp.width n, ⟨rfl, fun k h => by rw [Sp.width, if_pos h], fun k h => by rw [Sp.width, if_neg (by rw [h]; simp)]⟩, rfl⟩
theorem mod_two (m k : Nat) : ((m : Int) / 2 ^ k % 2 == 1) = m.testBit k := by
  rw [div_cast, Nat.testBit_eq_decide_div_mod_eq]
  rw [Bool.eq_iff_iff]; simp only [beq_iff_eq, decide_eq_true_eq]; omega
theorem or_byte_bit' (x : UInt8) (j : Nat) : bits .or .u8 (x.toNat : Int) (128 / (2 : Int) ^ (j % 8)) = ((UInt8.ofNat (x.toNat ||| 2 ^ (7 - j % 8))).toNat : Int) ∧ (UInt8.ofNat (x.toNat ||| 2 ^ (7 - j % 8))).toNat = x.toNat ||| 2 ^ (7 - j % 8) := by
  have h := or_byte_bit x (7 - j % 8) (by omega)
  have e : 128 / (2 : Int) ^ (j % 8) = (2 : Int) ^ (7 - j % 8) % 256 := by
    have hj : j % 8 < 8 := by omega
    generalize j % 8 = i at *
    rcases (show i = 0 ∨ i = 1 ∨ i = 2 ∨ i = 3 ∨ i = 4 ∨ i = 5 ∨ i = 6 ∨ i = 7 by omega) with rfl | rfl | rfl | rfl | rfl | rfl | rfl | rfl <;> decide
  rw [e]; exact h

set_option maxRecDepth 100000 in
set_option maxHeartbeats 400000 in
theorem ref_putFlags_any (m : Int) (w : World) :
    Calls Try.prog 25 #[.int .i64 m] w fun e w' => e = PutFlagsRet m ∧ Below w.heap.size w w' := by
  by_cases hr : m < 0 ∨ 65535 < m
  · rw [putFlagsRet_range m hr]
    rcases hr with hr | hr
    all_goals
      go_enter Try.func25, Try.ntmps25
      go_wp2_with fail
      all_goals try (exfalso; omega)
      go_ret2
      exact ⟨rfl, Below.refl _ _⟩
  · obtain ⟨n, rfl⟩ := Int.eq_ofNat_of_zero_le (show 0 ≤ m by omega)
    have hn : n ≤ 65535 := by omega
    have hn' : (n : Int) ≤ 65535 := by omega
    clear hr
    obtain ⟨V, HV, hV16⟩ := widthLoop n
    obtain ⟨R, L⟩ := putFlagsLoop' n hn
    obtain ⟨W, hW⟩ : ∃ W, W = V 16 := ⟨_, rfl⟩
    rw [← hV16, ← hW] at L
    have HW := Lib.hid hW
    clear hW
    rw [L.ret]
    have h16 := L.w16
    have H0 := Lib.hid HV.start
    clear hV16
    go_enter Try.func25, Try.ntmps25
    go_wp2_with fail
    all_goals try (exfalso; omega)
    go_loop [4, 5] (fun v i => ∃ k : Nat, k ≤ 16 ∧ i = .int .i64 k ∧ v = .int .i64 (V k : Nat)) (fun _ i => 16 - (intOf i).toNat)
    case atStart => exact ⟨0, by omega, rfl, val_int (by rw [H0.out]; rfl)⟩
    case round =>
      obtain ⟨k, hk, rfl, rfl⟩ := hrel
      by_cases hlt : k < 16
      · have hlt' : (k : Int) < 16 := by omega
        have hq : 0 ≤ (n : Int) / 2 ^ k := by rw [div_cast]; exact Int.natCast_nonneg _
        cases hbit : n.testBit k with
        | false =>
          have t := (mod_two n k).trans hbit
          have HK := Lib.hid (HV.no k hbit)
          clear hbit
          go_wp2_with fail
          exact ⟨⟨k + 1, by omega, by go_num, val_int (by rw [HK.out])⟩, by simp [intOf]; omega⟩
        | true =>
          have t := (mod_two n k).trans hbit
          have HK := Lib.hid (HV.yes k hbit)
          clear hbit
          go_wp2_with fail
          exact ⟨⟨k + 1, by omega, by go_num, val_int (by rw [HK.out]; omega)⟩, by simp [intOf]; omega⟩
      · obtain rfl : k = 16 := by omega
        rw [← HW.out]
        clear HW H0
        go_wp2_with (refine wpList_make_bytes rfl _ rfl w.heap.size _ (1 + (W + 7) / 8) rfl (by omega) (by omega) (Nat.le_refl _) ?_; intro w1 hown hb1 hz1; have hc0 := own_zero hown 0 (by omega); have hf0 := hown.frozenAt 0)
        have hown0 := own_set hown 0 (8 * (((W : Int) + 7) / 8) - W) (UInt8.ofNat (8 * ((W + 7) / 8) - W)) (by rw [UInt8.toNat_ofNat']; omega)
        rw [L.start _ (by rw [UInt8.toNat_ofNat']; omega)] at hown0
        clear hown hc0 hf0
        have hb2 := hb1.setCell (p := ⟨w.heap.size, 0, none⟩) (Nat.le_refl _) (.int .u8 (8 * (((W : Int) + 7) / 8) - W))
        generalize w1.setCell ⟨w.heap.size, 0, none⟩ (.int .u8 (8 * (((W : Int) + 7) / 8) - W)) = w2 at *
        clear hb1 hz1
        go_loopw [7] (fun i wr => ∃ j : Nat, j ≤ W ∧ i = .int .i64 j ∧ wr.ownsRow w.heap.size 5 1 (.slice (some ⟨w.heap.size, 0, none⟩) (1 + (W + 7) / 8) (1 + (W + 7) / 8)) (1 + (W + 7) / 8) (bytesV (R j)) ∧ Below w.heap.size w wr) (fun i _ => W - (intOf i).toNat)
        case atStart => exact ⟨0, by omega, rfl, hown0, hb2⟩
        case round =>
          obtain ⟨j, hj, rfl, hown, hbel⟩ := hrel
          by_cases hlt : j < W
          · have hj' : (j : Int) < 16 := by omega
            have hq : 0 ≤ (n : Int) / 2 ^ j := by rw [div_cast]; exact Int.natCast_nonneg _
            cases hbit : n.testBit j with
            | false =>
              have t := (mod_two n j).trans hbit
              have HK := Lib.hid (L.keep j hlt hbit)
              clear hbit
              go_wp2_with fail
              go_roundw
              case rel => exact ⟨j + 1, by omega, by go_num, by rw [HK.out]; exact hown, hbel⟩
              case measure => simp [intOf]; omega
            | true =>
              have t := (mod_two n j).trans hbit
              obtain ⟨x, hx, hset⟩ := L.set j hlt hbit
              have hjl : 1 + j / 8 < (R j).length := by rw [L.len]; omega
              have hcx := own_cell hown (1 + j / 8) hjl
              rw [show (R j)[1 + j / 8] = x from by rw [List.getElem?_eq_getElem hjl] at hx; injection hx] at hcx
              have hfx := hown.frozenAt (1 + j / 8)
              have HS := Lib.hid hset
              have hxl := x.toNat_lt
              clear hbit hx hset hjl
              go_wp2_with fail
              go_region
              go_wp2_with fail
              exact ⟨⟨j + 1, by omega, by go_num, by rw [HS.out _ (or_byte_bit' x j).2]; exact own_set hown _ _ _ (or_byte_bit' x j).1, (hbel.setCell (Nat.le_refl _) _).drew⟩, by simp [intOf]; omega⟩
          · obtain rfl : j = W := by omega
            have hcv := run_string hown
            go_wp2_with fail
            go_ret2
            exact ⟨rfl, hbel⟩
end Go.Proofs.Ytcpdhmhlmnodcaa
