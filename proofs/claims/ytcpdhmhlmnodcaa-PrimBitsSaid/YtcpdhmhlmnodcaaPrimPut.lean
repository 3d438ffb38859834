/-
  The walks of prim.PutInteger and of its reference.
-/
import Derived.Test.YtcpdhmhlmnodcaaPrimPure
import Derived.Test.YtcpdhmhlmnodcaaKit
import Derived.Outline
import Derived.BigGuardPart
namespace Go.Proofs.Ytcpdhmhlmnodcaa
open Go.RowKit

/-- what the first loop halves -/
structure PutLoop (v : Int) (G : Nat → Int) : Prop where
  start : G 0 = v
  step : ∀ k, G (k + 1) = G k / 256
  eq : ∀ k, G k = v / 256 ^ k
theorem putLoop (v : Int) : ∃ G, PutLoop v G := ⟨fun k => v / 256 ^ k, by simp, fun k => Sp.div_pow_succ v k, fun k => rfl⟩

theorem byte_at (v : Int) (k m : Nat) : v / 2 ^ (8 * (k - m)) % 256 = ((Sp.byteOf (v / 256 ^ (k - m))).toNat : Int) := by
  rw [Sp.byteOf_toNat, Int.pow_mul]; rfl
theorem bytes_take (v : Int) : ∀ n m : Nat, m < n → (Sp.bytesN v n).take (m + 1) = (Sp.bytesN v n).take m ++ [Sp.byteOf (v / 256 ^ (n - 1 - m))] := by
  intro n
  induction n with
  | zero => intro m h; omega
  | succ n ih =>
    intro m h
    match m with
    | 0 => simp [Sp.bytesN]
    | m + 1 =>
      have := ih m (by omega)
      simp only [Sp.bytesN, List.take_succ_cons, List.cons_append]
      rw [this, show n + 1 - 1 - (m + 1) = n - 1 - m from by omega]

set_option maxRecDepth 100000 in
set_option maxHeartbeats 400000 in
theorem putInteger_any (v : Int) (w : World) (h1 : -9223372036854775808 ≤ v) (h2 : v ≤ 9223372036854775807) :
    Calls Try.prog 12 #[.int .i64 v] w fun e w' => e = .returned (.string (bs (Sp.putInteger v))) ∧ Below w.heap.size w w' := by
  obtain ⟨G, HG⟩ := putLoop v
  have H0 := Lib.hid HG.start
  have hfits7 := Sp.fits7 v h1 h2
  rw [← HG.eq] at hfits7
  go_enter Try.func12, Try.ntmps12
  go_wp2_with fail
  go_loop [3, 4] (fun n x => ∃ k : Nat, k ≤ 7 ∧ n = .int .i64 (k + 1) ∧ x = .int .i64 (G k) ∧ (∀ j, j < k → ¬ Sp.fits (G j))) (fun n _ => 8 - (intOf n).toNat)
  case atStart => exact ⟨0, by omega, rfl, val_int H0.out.symm, fun j h => absurd h (by omega)⟩
  case round =>
    obtain ⟨k, hk, rfl, rfl, hno⟩ := hrel
    have HN := Lib.hid hno
    clear hno
    by_cases hf : Sp.fits (G k)
    · have hf1 := hf.1
      have hf2 := hf.2
      go_wp2_with fail
      go_loopw [5, 19] (fun o i wr => ∃ m : Nat, m ≤ k + 1 ∧ i = .int .i64 m ∧ wr.ownsRow w.heap.size 5 1 o m (bytesV ((Sp.bytesN v (k + 1)).take m)) ∧ Below w.heap.size w wr) (fun _ i _ => k + 1 - (intOf i).toNat)
      case atStart => exact ⟨0, by omega, rfl, World.ownsRow_nil _ _ _ _, Below.refl _ _⟩
      case round =>
        obtain ⟨m, hm, rfl, hown, hbel⟩ := hrel
        have hsz := hbel.size
        by_cases hlt : m < k + 1
        · have hmk : (m : Int) ≤ k := by omega
          go_wp2_with (at_builtin; refine wpList_append_byte rfl _ _ rfl w.heap.size _ _ _ rfl hown _ _ rfl (byte_at v k m) (by omega) hsz ?_)
          intro v' w1 hown1 hb1 hsz1
          clear hown
          go_wp2_with fail
          go_roundw
          case rel => exact ⟨m + 1, by omega, by go_num, by rw [bytes_take v (k + 1) m hlt]; exact hown1, hbel.trans hb1⟩
          case measure => simp [intOf]; omega
        · obtain rfl : m = k + 1 := by omega
          have hcv := run_string hown
          clear hown
          have HE := Lib.hid (Sp.putInteger_eq v k hk (by rw [← HG.eq]; exact hf) (by
            rcases Nat.eq_zero_or_pos k with h | h
            · exact .inl h
            · exact .inr ⟨k - 1, by omega, by rw [← HG.eq]; exact HN.out (k - 1) (by omega)⟩))
          go_wp2_with fail
          go_ret
          exact ⟨ret_str (by rw [HE.out, List.take_of_length_le (by rw [Sp.bytesN_length]; omega)]), hbel⟩
    · have hk7 : k < 7 := by
        rcases Nat.lt_or_ge k 7 with h | h
        · exact h
        · obtain rfl : k = 7 := by omega
          exact absurd hfits7 hf
      have hs := Lib.hid (HG.step k)
      have hf' : G k < -128 ∨ 127 < G k := by unfold Sp.fits at hf; omega
      rcases hf' with hf' | hf'
      all_goals
        go_wp2_with fail
        exact ⟨⟨k + 1, by omega, by go_num, val_int (by rw [hs.out]), fun j hj => by
          rcases Nat.lt_or_ge j k with h | h
          · exact HN.out j h
          · obtain rfl : j = k := by omega
            exact hf⟩, by simp [intOf]; omega⟩
end Go.Proofs.Ytcpdhmhlmnodcaa
