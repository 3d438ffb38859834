/-
  The walks of prim.PutBits and of its reference.
-/
import Derived.Test.YtcpdhmhlmnodcaaPrimBitsRef
namespace Go.Proofs.Ytcpdhmhlmnodcaa
open Go.RowKit

theorem below_drewN {B : Nat} {a w : World} (h : Below B a w) (n : Nat) : Below B a (w.drewN n) := ⟨h.os, h.tape, h.output, h.size, h.block⟩
/-- what PutBits returns -/
def PutBitsRet (s : ByteArray) (u : Int) : Ending := .returned (.tuple #[.string (bs (Sp.putBits (dl s) u).1), .int .i64 (Sp.putBits (dl s) u).2])
theorem putBitsRet_range (s : ByteArray) (u : Int) (h : u < 0 ∨ 7 < u) : PutBitsRet s u = .returned (.tuple #[.string ⟨#[]⟩, .int .i64 1]) := by
  unfold PutBitsRet Sp.putBits; rw [if_pos h]; rfl
theorem putBitsRet_bad (s : ByteArray) (u : Nat) (hu : u ≤ 7) (h : Sp.spare (dl s) u = false) : PutBitsRet s u = .returned (.tuple #[.string ⟨#[]⟩, .int .i64 7]) := by
  unfold PutBitsRet Sp.putBits; rw [if_neg (by omega), Int.toNat_natCast, h]; rfl
theorem putBitsRet_good (s : ByteArray) (u : Nat) (hu : u ≤ 7) (h : Sp.spare (dl s) u = true) : PutBitsRet s u = .returned (.tuple #[.string (bs [UInt8.ofNat u] ++ s), .int .i64 0]) := by
  unfold PutBitsRet Sp.putBits; rw [if_neg (by omega), Int.toNat_natCast, h, bs_cons_append]; rfl

set_option maxRecDepth 100000 in
set_option maxHeartbeats 400000 in
theorem putBits_any (s : ByteArray) (u : Int) (w : World) (h : s.size ≤ 140737488351232) :
    Calls Try.prog 20 #[.string s, .int .i64 u] w fun e w' => e = PutBitsRet s u ∧ Below w.heap.size w w' := by
  by_cases hr : u < 0 ∨ 7 < u
  · rw [putBitsRet_range s u hr]
    rcases hr with hr | hr
    all_goals
      go_enter Try.func20, Try.ntmps20
      go_wp2_with fail
      go_ret2
      exact ⟨rfl, Below.refl _ _⟩
  · obtain ⟨n, rfl⟩ := Int.eq_ofNat_of_zero_le (show 0 ≤ u by omega)
    have hn : n ≤ 7 := by omega
    have hn7 : (n : Int) ≤ 7 := by omega
    have HM := Lib.hid (show s.size ≤ maxLen by unfold maxLen; omega)
    have hconv := run_string_lit1 w (n : Int) (UInt8.ofNat n) (by rw [UInt8.toNat_ofNat']; omega)
    have hbs : (bs [UInt8.ofNat n]).size ≤ 1 := by rw [bs_size]; simp
    clear hr
    cases hsp : Sp.spare (dl s) n with
    | true =>
      rw [putBitsRet_good s n hn hsp]
      have HS := Lib.hid hsp
      clear hsp
      go_enter Try.func20, Try.ntmps20
      go_wp2_with (go_at_call 26; refine (spare_is s n _ HS.out hn _ HM.out).mono ?_; rintro e w' ⟨rfl, rfl⟩)
      go_ret2
      exact ⟨rfl, (Below.refl _ _).alloc (Nat.le_refl _) _⟩
    | false =>
      rw [putBitsRet_bad s n hn hsp]
      have HS := Lib.hid hsp
      clear hsp
      go_enter Try.func20, Try.ntmps20
      go_wp2_with (go_at_call 26; refine (spare_is s n _ HS.out hn _ HM.out).mono ?_; rintro e w' ⟨rfl, rfl⟩)
      go_ret2
      exact ⟨rfl, Below.refl _ _⟩

set_option maxRecDepth 100000 in
set_option maxHeartbeats 400000 in
theorem ref_putBits_any (s : ByteArray) (u : Int) (w : World) (h : s.size ≤ 140737488351232) :
    Calls Try.prog 21 #[.string s, .int .i64 u] w fun e w' => e = PutBitsRet s u ∧ Below w.heap.size w w' := by
  by_cases hr : u < 0 ∨ 7 < u
  · rw [putBitsRet_range s u hr]
    rcases hr with hr | hr
    all_goals
      go_enter Try.func21, Try.ntmps21
      go_wp2_with fail
      all_goals (go_ret2; exact ⟨rfl, Below.refl _ _⟩)
  · obtain ⟨n, rfl⟩ := Int.eq_ofNat_of_zero_le (show 0 ≤ u by omega)
    have hn : n ≤ 7 := by omega
    have hn7 : (n : Int) ≤ 7 := by omega
    have hconv : ∀ k : Nat, (convert 42 9 (.slice (some ⟨w.heap.size, 0, none⟩) 1 1)).run Try.prog ((w.drewN k).alloc (.cells #[.int .u8 (n : Int)] 5)) = .ok (.string (bs [UInt8.ofNat n])) ((w.drewN k).alloc (.cells #[.int .u8 (n : Int)] 5)) :=
      fun k => run_string_lit1 (w.drewN k) (n : Int) (UInt8.ofNat n) (by rw [UInt8.toNat_ofNat']; omega)
    have hbs : (bs [UInt8.ofNat n]).size ≤ 1 := by rw [bs_size]; simp
    clear hr
    by_cases hz : n = 0
    · subst hz
      rw [putBitsRet_good s 0 hn rfl]
      have hconv0 : ∀ k : Nat, (convert 42 9 (.slice (some ⟨w.heap.size, 0, none⟩) 1 1)).run Try.prog ((w.drewN k).alloc (.cells #[.int .u8 0] 5)) = .ok (.string (bs [UInt8.ofNat 0])) ((w.drewN k).alloc (.cells #[.int .u8 0] 5)) := hconv
      have hbs0 : (bs [(0 : UInt8)]).size ≤ 1 := hbs
      clear hconv
      go_enter Try.func21, Try.ntmps21
      go_wp2_with fail
      go_quiet (fail)
      go_wp2_with fail
      go_ret2
      exact ⟨rfl, (below_drewN (Below.refl _ _) _).alloc (Nat.le_refl _) _⟩
    · have dz : decide (0 < n) = true := by rw [decide_eq_true_iff]; omega
      by_cases h0 : s.size = 0
      · rw [putBitsRet_bad s n hn (spare_nil s n h0 (by omega))]
        have e0 : ((s.size : Int) == 0) = true := beq_t (by omega)
        clear h0
        go_enter Try.func21, Try.ntmps21
        go_wp2_with fail
        go_quiet (fail)
        go_wp2_with fail
        go_ret2
        exact ⟨rfl, below_drewN (Below.refl _ _) _⟩
      · have e0 : ((s.size : Int) == 0) = false := beq_f (by omega)
        have hl := spare_last s n (by omega) (by omega)
        have hbl := (s[s.size - 1]'(by omega)).toNat_lt
        have HL := Lib.hid hl
        clear hl
        have w1 : IntKind.i64.wrap ((s.size : Int) - 1) = (s.size : Int) - 1 := IntWalk.i64_in _ (by omega)
        have w2 : ((s.size : Int) - 1).toNat = s.size - 1 := by omega
        have w3 : (s.size : Int) - 1 < s.size := by omega
        have w4 : s.size - 1 < s.size := by omega
        have hp1 : (1 : Int) ≤ s.size := by omega
        have hp2 : 1 ≤ s.size := by omega
        obtain ⟨P, hP⟩ : ∃ P : Nat, P = 2 ^ n := ⟨_, rfl⟩
        have w5 : IntKind.i64.wrap ((2 : Int) ^ n) = (P : Int) := by rw [hP]; exact wrap_pow _ (by omega)
        have hP1 : 1 ≤ P := by rw [hP]; exact Nat.one_le_two_pow
        have w7 : ¬ P = 0 := by omega
        have w8 : IntKind.i64.wrap ((s[s.size - 1]'(by omega)).toNat : Int) = ((s[s.size - 1]'(by omega)).toNat : Int) := IntWalk.i64_in _ (by omega)
        have HP := Lib.hid hP
        clear hP
        by_cases ht : (s[s.size - 1]'(by omega)).toNat % P = 0
        · rw [putBitsRet_good s n hn (by unfold dl; rw [HL.out, ← HP.out]; simp [ht])]
          have t : (((s[s.size - 1]'(by omega)).toNat : Int) % (P : Int) != 0) = false := bne_f (by omega)
          clear ht
          go_enter Try.func21, Try.ntmps21
          go_wp2_with fail
          go_quiet (fail)
          go_wp2_with fail
          go_ret2
          exact ⟨rfl, (below_drewN (Below.refl _ _) _).alloc (Nat.le_refl _) _⟩
        · rw [putBitsRet_bad s n hn (by unfold dl; rw [HL.out, ← HP.out]; simp [ht])]
          have t : (((s[s.size - 1]'(by omega)).toNat : Int) % (P : Int) != 0) = true := bne_t (by omega)
          clear ht
          go_enter Try.func21, Try.ntmps21
          go_wp2_with fail
          go_quiet (fail)
          go_wp2_with fail
          go_ret2
          exact ⟨rfl, below_drewN (Below.refl _ _) _⟩
end Go.Proofs.Ytcpdhmhlmnodcaa
