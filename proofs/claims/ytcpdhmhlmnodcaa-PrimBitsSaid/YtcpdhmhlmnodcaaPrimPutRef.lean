/-
  The walk of the reference's PutInteger.
-/
import Derived.Test.YtcpdhmhlmnodcaaPrimPut
namespace Go.Proofs.Ytcpdhmhlmnodcaa
open Go.RowKit

theorem byte_at_u (v : Int) (u : Int) (hu : u = v % 18446744073709551616) (e : Nat) (he : e ≤ 7) : u / 2 ^ (8 * e) % 256 = ((Sp.byteOf (v / 256 ^ e)).toNat : Int) := by
  subst hu
  rw [Sp.byteOf_toNat]
  have h : e = 0 ∨ e = 1 ∨ e = 2 ∨ e = 3 ∨ e = 4 ∨ e = 5 ∨ e = 6 ∨ e = 7 := by omega
  rcases h with rfl | rfl | rfl | rfl | rfl | rfl | rfl | rfl <;> simp <;> omega
theorem wrap_u (v : Int) : IntKind.u64.wrap v = v % 18446744073709551616 := IntKind.wrap_u64 v

def lenOf : Value → Nat | .slice _ n _ => n | _ => 0
theorem own_open {w : World} {base : Nat} {E : TypeId} {v : Value} {n : Nat} {l : List UInt8} (h : w.ownsRow base E 1 v n (bytesV l)) (hn : 0 < n) :
    ∃ g cap, v = .slice (some ⟨g, 0, none⟩) n cap ∧ n ≤ cap ∧ ∀ j (hj : j < l.length), w.cell? ⟨g, j, none⟩ = some (.int .u8 (l[j].toNat : Int)) := by
  obtain ⟨h1, h2⟩ := h
  rcases h2 with ⟨rfl, rfl⟩ | ⟨g, cap, cur, rfl, hg, hh, hnc, hc, hcs, htk⟩
  · omega
  · refine ⟨g, cap, rfl, hnc, fun j hj => ?_⟩
    rw [bytesV_length] at h1
    have := World.ownsRow.cellAt (w := w) (base := base) (e := E) (size := 1) (g := g) (cap := cap) (n := n) (xs := bytesV l) ⟨by rw [bytesV_length]; exact h1, .inr ⟨g, cap, cur, rfl, hg, hh, hnc, hc, hcs, htk⟩⟩ j (by omega)
    rw [this, bytesV_get l j hj]

theorem bytes_get (v : Int) : ∀ (N t : Nat) (h : t < (Sp.bytesN v N).length), (Sp.bytesN v N)[t] = Sp.byteOf (v / 256 ^ (N - 1 - t)) := by
  intro N
  induction N with
  | zero => intro t h; simp [Sp.bytesN] at h
  | succ N ih =>
    intro t h
    match t with
    | 0 => simp [Sp.bytesN]
    | t + 1 =>
      have := ih t (by rw [Sp.bytesN_length] at h ⊢; omega)
      simp only [Sp.bytesN, List.getElem_cons_succ]
      rw [this, show N + 1 - 1 - (t + 1) = N - 1 - t from by omega]
theorem strip_bad {v : Int} {m : Nat} (h : Sp.badInt (Sp.bytesN v (m + 2)) = true) : Sp.strip (Sp.bytesN v (m + 2)) = Sp.strip (Sp.bytesN v (m + 1)) := by
  have e : Sp.bytesN v (m + 2) = Sp.byteOf (v / 256 ^ (m + 1)) :: Sp.byteOf (v / 256 ^ m) :: Sp.bytesN v m := rfl
  have e' : Sp.bytesN v (m + 1) = Sp.byteOf (v / 256 ^ m) :: Sp.bytesN v m := rfl
  rw [e] at h ⊢
  rw [Sp.strip, if_pos h, e']
/-- string(all[j:]) -/
theorem own_back {w : World} {v : Int} {g j n c : Nat} (hc : ∀ (t : Nat) (h : t < (Sp.bytesN v 8).length), w.cell? ⟨g, t, none⟩ = some (.int .u8 ((Sp.bytesN v 8)[t].toNat : Int))) (hjn : j + n = 8) :
    (convert 42 9 (.slice (some ⟨g, j, none⟩) n c)).run Try.prog w = .ok (.string (bs (Sp.bytesN v n))) w := by
  have := run_convert_bytes_back w 42 9 5 ⟨g, j, none⟩ c (Sp.bytesN v n) Try.underlying42 Try.underlying5 Try.underlying9 ?_
  · rw [Sp.bytesN_length] at this; exact this
  · intro t ht
    rw [Sp.bytesN_length] at ht
    have ha : (⟨g, j, none⟩ : Addr).add t = ⟨g, j + t, none⟩ := by
      unfold Addr.add; split
      · rename_i h; subst h; rfl
      · rfl
    rw [ha, hc (j + t) (by rw [Sp.bytesN_length]; omega), bytes_get, bytes_get, show 8 - 1 - (j + t) = n - 1 - t from by omega]

set_option maxRecDepth 100000 in
set_option maxHeartbeats 400000 in
theorem ref_putInteger_any (v : Int) (w : World) :
    Calls Try.prog 13 #[.int .i64 v] w fun e w' => e = .returned (.string (bs (Sp.putInteger v))) ∧ Below w.heap.size w w' := by
  obtain ⟨u, hu⟩ : ∃ u, u = v % 18446744073709551616 := ⟨_, rfl⟩
  have hw : IntKind.u64.wrap v = u := by rw [hu]; exact wrap_u v
  have hu0 : 0 ≤ u := by omega
  have hu1 : u < 18446744073709551616 := by omega
  have HU := Lib.hid hu
  clear hu
  go_enter Try.func13, Try.ntmps13
  go_wp2_with fail
  clear hw
  go_loopw [4, 5] (fun o i wr => ∃ m : Nat, m ≤ 8 ∧ i = .int .i64 (7 - (m : Int)) ∧ wr.ownsRow w.heap.size 5 1 o m (bytesV ((Sp.bytesN v 8).take m)) ∧ Below w.heap.size w wr) (fun _ i _ => (intOf i + 1).toNat)
  case atStart => exact ⟨0, by omega, rfl, World.ownsRow_nil _ _ _ _, Below.refl _ _⟩
  case round =>
    obtain ⟨m, hm, rfl, hown, hbel⟩ := hrel
    have hsz := hbel.size
    by_cases hlt : m < 8
    · have hmk : (m : Int) ≤ 7 := by omega
      go_wp2_with (at_builtin; refine wpList_append_byte rfl _ _ rfl w.heap.size _ _ _ rfl hown _ _ rfl (byte_at_u v u HU.out (7 - m) (by omega)) (by omega) hsz ?_)
      intro v' w1 hown1 hb1 hsz1
      clear hown
      go_wp2_with fail
      go_roundw
      case rel => exact ⟨m + 1, by omega, val_int (by omega), by rw [bytes_take v 8 m hlt]; exact hown1, hbel.trans hb1⟩
      case measure => simp [intOf]; omega
    · obtain rfl : m = 8 := by omega
      obtain ⟨g, cap, rfl, hcap, hcell⟩ := own_open hown (by omega)
      rw [List.take_of_length_le (by rw [Sp.bytesN_length]; omega)] at hcell
      have HC := Lib.hid hcell
      clear hown hcell
      have hcap' : (8 : Int) ≤ cap := by omega
      go_wp2_with fail
      go_loop [4] (fun o => ∃ j n c : Nat, j + n = 8 ∧ 1 ≤ n ∧ 8 ≤ j + c ∧ o = .slice (some ⟨g, j, none⟩) n c ∧ Sp.strip (Sp.bytesN v 8) = Sp.strip (Sp.bytesN v n)) (fun o => lenOf o)
      case atStart => exact ⟨0, 8, cap, by omega, by omega, by omega, rfl, rfl⟩
      case round =>
        obtain ⟨j, n, c, hjn, hn1, hjc, rfl, hst⟩ := hrel
        have HST := Lib.hid hst
        clear hst
        by_cases hn : n = 1
        · subst hn
          have hcv := own_back (c := c) HC.out hjn
          have HE := Lib.hid (HST.out.trans (show Sp.strip (Sp.bytesN v 1) = Sp.bytesN v 1 from rfl))
          go_wp2_with fail
          go_ret
          exact ⟨ret_str HE.out.symm, hbel⟩
        · obtain ⟨m, rfl⟩ : ∃ m, n = m + 2 := ⟨n - 2, by omega⟩
          obtain ⟨x, hx⟩ : ∃ x, x = Sp.byteOf (v / 256 ^ (m + 1)) := ⟨_, rfl⟩
          obtain ⟨y, hy⟩ : ∃ y, y = Sp.byteOf (v / 256 ^ m) := ⟨_, rfl⟩
          have hcx := HC.out j (by rw [Sp.bytesN_length]; omega)
          have hcy := HC.out (j + 1) (by rw [Sp.bytesN_length]; omega)
          rw [bytes_get, show 8 - 1 - j = m + 1 from by omega, ← hx] at hcx
          rw [bytes_get, show 8 - 1 - (j + 1) = m from by omega, ← hy] at hcy
          have he : Sp.bytesN v (m + 2) = x :: y :: Sp.bytesN v m := by rw [hx, hy]; rfl
          have HE := Lib.hid he
          clear he hx hy
          have hlx := x.toNat_lt
          have hmc : (m : Int) + 2 ≤ c := by omega
          have hm2 : (1 : Int) < (m : Int) + 2 := by omega
          rcases (show ((x.toNat : Int) ≤ 0 ∧ (y.toNat : Int) < 128) ∨ ((255 : Int) ≤ x.toNat ∧ (128 : Int) ≤ y.toNat) ∨ (((x.toNat : Int) ≤ 0 ∧ (128 : Int) ≤ y.toNat) ∨ ((255 : Int) ≤ x.toNat ∧ (y.toNat : Int) < 128) ∨ (0 : Int) < x.toNat ∧ (x.toNat : Int) < 255) from by omega) with ⟨a, b⟩ | ⟨a, b⟩ | hgood
          · have HB := Lib.hid (show Sp.badInt (Sp.bytesN v (m + 2)) = true by rw [HE.out]; simp only [Sp.badInt, Bool.or_eq_true, Bool.and_eq_true, decide_eq_true_eq]; omega)
            have d1 : ((x.toNat : Int) == 0) = true := beq_t (by omega)
            go_wp2_with fail
            all_goals try (exfalso; omega)
            exact ⟨⟨j + 1, m + 1, c - 1, by omega, by omega, by omega, rfl, HST.out.trans (strip_bad HB.out)⟩, by simp [lenOf]⟩
          · have HB := Lib.hid (show Sp.badInt (Sp.bytesN v (m + 2)) = true by rw [HE.out]; simp only [Sp.badInt, Bool.or_eq_true, Bool.and_eq_true, decide_eq_true_eq]; omega)
            have d1 : ((x.toNat : Int) == 0) = false := beq_f (by omega)
            have d2 : ((x.toNat : Int) == 255) = true := beq_t (by omega)
            go_wp2_with fail
            all_goals try (exfalso; omega)
            exact ⟨⟨j + 1, m + 1, c - 1, by omega, by omega, by omega, rfl, HST.out.trans (strip_bad HB.out)⟩, by simp [lenOf]⟩
          · have HB : Sp.badInt (x :: y :: Sp.bytesN v m) = false := by
              simp only [Sp.badInt, Bool.or_eq_false_iff, Bool.and_eq_false_iff, decide_eq_false_iff_not]; omega
            have hcv := own_back (c := c) HC.out hjn
            have HF := Lib.hid (HST.out.trans (show Sp.strip (Sp.bytesN v (m + 2)) = Sp.bytesN v (m + 2) by rw [HE.out, Sp.strip, if_neg (by rw [HB]; simp)]))
            clear HB
            rcases hgood with ⟨a, b⟩ | ⟨a, b⟩ | ⟨a, b⟩
            · have d1 : ((x.toNat : Int) == 0) = true := beq_t (by omega)
              have d2 : ((x.toNat : Int) == 255) = false := beq_f (by omega)
              go_wp2_with fail
              all_goals try (exfalso; omega)
              go_ret
              exact ⟨ret_str HF.out.symm, hbel⟩
            · have d1 : ((x.toNat : Int) == 0) = false := beq_f (by omega)
              have d2 : ((x.toNat : Int) == 255) = true := beq_t (by omega)
              go_wp2_with fail
              all_goals try (exfalso; omega)
              go_ret
              exact ⟨ret_str HF.out.symm, hbel⟩
            · have d1 : ((x.toNat : Int) == 0) = false := beq_f (by omega)
              have d2 : ((x.toNat : Int) == 255) = false := beq_f (by omega)
              go_wp2_with fail
              all_goals try (exfalso; omega)
              go_ret
              exact ⟨ret_str HF.out.symm, hbel⟩
end Go.Proofs.Ytcpdhmhlmnodcaa
