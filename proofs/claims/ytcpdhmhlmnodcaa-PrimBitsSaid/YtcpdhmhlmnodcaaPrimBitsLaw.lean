/-
  PrimBits: the walk.
-/
import Derived.Test.YtcpdhmhlmnodcaaPrimLaw
namespace Go.Proofs.Ytcpdhmhlmnodcaa
open Go.RowKit
theorem bitsRet_eq (s : ByteArray) : BitsRet s = .returned (.tuple #[.string (bs (Sp.bitsBytes (dl s))), .int .i64 (Sp.bitsUnused (dl s)), .int .i64 (Sp.bitsErr (dl s))]) := rfl
theorem putBitsRet_eq (s : ByteArray) (u : Int) : PutBitsRet s u = .returned (.tuple #[.string (bs (Sp.putBits (dl s) u).1), .int .i64 (Sp.putBits (dl s) u).2]) := rfl

set_option maxRecDepth 100000 in
set_option maxHeartbeats 400000 in
theorem primBits_walk (c b : ByteArray) (u sm : Int) (w : World) (h : c.size ≤ maxLen) (h' : b.size ≤ maxLen) (s0 : 0 ≤ sm) (s1 : sm ≤ 255) :
    Calls Try.prog 6 #[.string c, .string b, .int .i64 u, .int .u8 sm] w fun e w' => e = .returned (.bool true) ∧ Below w.heap.size w w' := by
  unfold maxLen at h h'
  by_cases hl : 60 < c.size ∨ 60 < b.size
  · rcases (show (60 : Int) < c.size ∨ ((c.size : Int) ≤ 60 ∧ (60 : Int) < b.size) by omega) with hl | ⟨hl, hl'⟩
    all_goals
      go_enter Try.func6, Try.ntmps6
      go_wp2_with fail
      all_goals try (exfalso; omega)
      refine (awake_any _).mono ?_
      rintro e w' ⟨rfl, hb⟩
      go_wp2_with fail
      go_ret
      exact ⟨rfl, hb⟩
  · have hl1 : (c.size : Int) ≤ 60 := by omega
    have hl2 : (b.size : Int) ≤ 60 := by omega
    have hbM := Lib.hid (show b.size ≤ 140737488351232 by omega)
    have hcM := Lib.hid (show c.size ≤ maxLen by unfold maxLen; omega)
    clear h h' hl
    go_enter Try.func6, Try.ntmps6
    go_wp2_with fail
    all_goals try (exfalso; omega)
    refine (bits_any c _ hcM.out).mono ?_
    rintro e w1 ⟨rfl, n1, rfl⟩
    rw [bitsRet_eq]
    go_wp2_with fail
    refine (ref_bits_any c _ hcM.out).mono ?_
    rintro e w1 ⟨rfl, n2, rfl⟩
    rw [bitsRet_eq]
    go_wp2_with fail
    have hcells : CellsAt ((w.drewN (n1 + n2)).alloc (.cells #[.int .i64 u, .int .i64 (sm % 9)] 3)) w.heap.size [.int .i64 u, .int .i64 (sm % 9)] := CellsAt.lit (w.drewN (n1 + n2)) [.int .i64 u, .int .i64 (sm % 9)] 3
    have hb0 := (below_drewN (Below.refl w.heap.size w) (n1 + n2)).alloc (Nat.le_refl _) (.cells #[.int .i64 u, .int .i64 (sm % 9)] 3)
    generalize (w.drewN (n1 + n2)).alloc (.cells #[.int .i64 u, .int .i64 (sm % 9)] 3) = W1 at *
    go_loopw [61] (fun i wr => ∃ k : Nat, k ≤ 2 ∧ i = .int .i64 k ∧ CellsAt wr w.heap.size [.int .i64 u, .int .i64 (sm % 9)] ∧ Below w.heap.size w wr) (fun i _ => 2 - (intOf i).toNat)
    case atStart => exact ⟨0, by omega, rfl, hcells, hb0⟩
    case round =>
      obtain ⟨k, hk, rfl, hcl, hbel⟩ := hrel
      clear hcells hb0
      by_cases hk2 : k = 2
      · subst hk2
        go_wp2_with fail
        refine (awake_any _).mono ?_
        rintro e w' ⟨rfl, hb⟩
        go_wp2_with fail
        go_ret
        exact ⟨rfl, below_then hbel hb⟩
      · have hk' : (k : Int) < 2 := by omega
        obtain ⟨X, hX⟩ : ∃ X : Int, [Value.int .i64 u, Value.int .i64 (sm % 9)][k]? = some (.int .i64 X) := by
          rcases (show k = 0 ∨ k = 1 by omega) with rfl | rfl
          · exact ⟨_, rfl⟩
          · exact ⟨_, rfl⟩
        have hcx := hcl.at k _ hX
        have HC := Lib.hid hcl
        clear hX hcl
        go_wp2_with fail
        refine (putBits_any b X _ hbM.out).mono ?_
        rintro e w2 ⟨rfl, b2⟩
        rw [putBitsRet_eq]
        go_wp2_with fail
        refine (ref_putBits_any b X _ hbM.out).mono ?_
        rintro e w3 ⟨rfl, b3⟩
        rw [putBitsRet_eq]
        go_wp2_with fail
        have b23 := below_then b2 b3
        exact ⟨⟨k + 1, by omega, by go_num, HC.out.below b23, below_then hbel b23⟩, by simp [intOf]; omega⟩
end Go.Proofs.Ytcpdhmhlmnodcaa
