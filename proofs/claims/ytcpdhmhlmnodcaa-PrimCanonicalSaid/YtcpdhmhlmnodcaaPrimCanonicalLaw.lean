/-
  PrimCanonical: the walk.
-/
import Derived.Test.YtcpdhmhlmnodcaaPrimLaw
namespace Go.Proofs.Ytcpdhmhlmnodcaa
open Go.RowKit
set_option linter.unusedVariables false

/-- what is decoded and encoded again: in each of the four, the decoder refuses, or its encoder writes c -/
structure Canon (c : ByteArray) : Prop where
  bool : (∃ v e, (e == 0) = false ∧ ∀ W, Calls Try.prog 14 #[.string c] W fun r w' => r = .returned (.tuple #[.bool v, .int .i64 e]) ∧ W = w') ∨
    ∃ v, (∀ W, Calls Try.prog 14 #[.string c] W fun r w' => r = .returned (.tuple #[.bool v, .int .i64 0]) ∧ W = w') ∧ ∀ W, Calls Try.prog 16 #[.bool v] W fun r w' => r = .returned (.string c) ∧ W = w'
  int : (∃ v e, (e == 0) = false ∧ ∀ W, Calls Try.prog 10 #[.string c] W fun r w' => r = .returned (.tuple #[.int .i64 v, .int .i64 e]) ∧ W = w') ∨
    ∃ v, (∀ W, Calls Try.prog 10 #[.string c] W fun r w' => r = .returned (.tuple #[.int .i64 v, .int .i64 0]) ∧ W = w') ∧ ∀ W, Calls Try.prog 12 #[.int .i64 v] W fun r w' => r = .returned (.string c) ∧ Below W.heap.size W w'
  bits : (∃ v u e, (e == 0) = false ∧ ∀ W, Calls Try.prog 18 #[.string c] W fun r w' => r = .returned (.tuple #[.string v, .int .i64 u, .int .i64 e]) ∧ ∃ n, w' = W.drewN n) ∨
    ∃ v u, (∀ W, Calls Try.prog 18 #[.string c] W fun r w' => r = .returned (.tuple #[.string v, .int .i64 u, .int .i64 0]) ∧ ∃ n, w' = W.drewN n) ∧ ∀ W, Calls Try.prog 20 #[.string v, .int .i64 u] W fun r w' => r = .returned (.tuple #[.string c, .int .i64 0]) ∧ Below W.heap.size W w'
  flags : (∃ v e, (e == 0) = false ∧ ∀ W, Calls Try.prog 22 #[.string c] W fun r w' => r = .returned (.tuple #[.int .i64 v, .int .i64 e]) ∧ ∃ n, w' = W.drewN n) ∨
    ∃ v, (∀ W, Calls Try.prog 22 #[.string c] W fun r w' => r = .returned (.tuple #[.int .i64 v, .int .i64 0]) ∧ ∃ n, w' = W.drewN n) ∧ ∀ W, Calls Try.prog 24 #[.int .i64 v] W fun r w' => r = .returned (.tuple #[.string c, .int .i64 0]) ∧ Below W.heap.size W w'

theorem boolean_err (l : List UInt8) : (Sp.boolean l).2 = 0 ∨ (Sp.boolean l).2 = 7 := by unfold Sp.boolean; split <;> (try split) <;> simp
theorem integer_err (l : List UInt8) : (Sp.integer l).2 = 0 ∨ (Sp.integer l).2 = 7 ∨ (Sp.integer l).2 = 1 := by unfold Sp.integer; split <;> (try split) <;> simp
theorem canon (c : ByteArray) (h : c.size ≤ 60) : Canon c := by
  have hM : c.size ≤ maxLen := by unfold maxLen; omega
  constructor
  · by_cases he : (Sp.boolean c.data.toList).2 = 0
    · right
      refine ⟨(Sp.boolean c.data.toList).1, fun W => ?_, fun W => ?_⟩
      · have := boolean_any c W; rw [he] at this; exact this
      · have := putBoolean_any (Sp.boolean c.data.toList).1 W; rw [Sp.put_boolean _ he, bs_of] at this; exact this
    · exact .inl ⟨_, _, beq_f he, fun W => boolean_any c W⟩
  · by_cases he : (Sp.integer c.data.toList).2 = 0
    · right
      refine ⟨(Sp.integer c.data.toList).1, fun W => ?_, fun W => ?_⟩
      · have := integer_any c W hM; rw [he] at this; exact this
      · have hb : Sp.badInt c.data.toList = false ∧ c.data.toList.length ≤ 8 ∧ (Sp.integer c.data.toList).1 = Sp.intVal c.data.toList := by
          unfold Sp.integer at he ⊢
          split at he
          · simp at he
          · rename_i h1
            split at he
            · simp at he
            · rename_i h2
              rw [if_neg h1, if_neg h2]
              exact ⟨by simpa using h1, by omega, rfl⟩
        have hr := Sp.intVal_range _ hb.2.1
        have := putInteger_any (Sp.integer c.data.toList).1 W (by rw [hb.2.2]; exact hr.1) (by rw [hb.2.2]; exact hr.2)
        rw [hb.2.2] at this ⊢
        rw [Sp.put_integer _ hb.1 hb.2.1, bs_of] at this; exact this
    · exact .inl ⟨_, _, beq_f he, fun W => integer_any c W hM⟩
  · cases hok : Sp.bitsOk (dl c) with
    | false =>
      left
      refine ⟨⟨#[]⟩, 0, 7, rfl, fun W => ?_⟩
      have := bits_any c W hM; rw [bitsRet_bad c hok] at this; exact this
    | true =>
      right
      obtain ⟨v, u, G⟩ := bits_good c (by omega) hok
      refine ⟨v, u, fun W => ?_, fun W => ?_⟩
      · have := bits_any c W hM; rw [G.ret] at this; exact this
      · have := putBits_any v u W G.size
        have e : PutBitsRet v u = .returned (.tuple #[.string c, .int .i64 0]) := by
          have hr := G.ret
          unfold BitsRet at hr
          simp only [Ending.returned.injEq, Value.tuple.injEq, Array.mk.injEq, List.cons.injEq, Value.string.injEq, Value.int.injEq, true_and, and_true] at hr
          have hv : dl v = Sp.bitsBytes (dl c) := by rw [← hr.1, dl_is]
          unfold PutBitsRet
          rw [hv, ← hr.2.1, Sp.put_bits _ hok]
          show Ending.returned (.tuple #[.string (bs (dl c)), .int .i64 0]) = _
          unfold dl; rw [bs_of]
        rw [e] at this; exact this
  · by_cases he : (Sp.flags (dl c)).2 = 0
    · right
      refine ⟨(Sp.flags (dl c)).1, fun W => ?_, fun W => ?_⟩
      · have := flags_any c W (by omega); unfold FlagsRet at this; rw [he] at this; exact this
      · have := putFlags_any (Sp.flags (dl c)).1 W
        unfold PutFlagsRet at this
        rw [Sp.put_flags _ he] at this
        have e : bs (dl c) = c := by unfold dl; rw [bs_of]
        simp only [e] at this
        exact this
    · exact .inl ⟨_, _, beq_f he, fun W => by have := flags_any c W (by omega); unfold FlagsRet at this; exact this⟩

set_option maxRecDepth 100000 in
set_option maxHeartbeats 2000000 in
theorem primCanonical_walk (c : ByteArray) (w : World) (h : c.size ≤ maxLen) :
    Calls Try.prog 8 #[.string c] w fun e w' => e = .returned (.bool true) ∧ Below w.heap.size w w' := by
  unfold maxLen at h
  by_cases hl : 60 < c.size
  · have hl' : (60 : Int) < c.size := by omega
    go_enter Try.func8, Try.ntmps8
    go_wp2_with fail
    refine (awake_any _).mono ?_
    rintro e w' ⟨rfl, hb⟩
    go_wp2_with fail
    go_ret
    exact ⟨rfl, hb⟩
  · have hl' : (c.size : Int) ≤ 60 := by omega
    have C := canon c (by omega)
    clear h hl
    obtain ⟨C1, C2, C3, C4⟩ := C
    rcases C1 with ⟨v1, e1, t1, c1⟩ | ⟨v1, c1, p1⟩
    · rcases C2 with ⟨v2, e2, t2, c2⟩ | ⟨v2, c2, p2⟩
      · rcases C3 with ⟨v3, u3, e3, t3, c3⟩ | ⟨v3, u3, c3, p3⟩
        · rcases C4 with ⟨v4, e4, t4, c4⟩ | ⟨v4, c4, p4⟩
          · have K1 := Lib.hid c1
            have K2 := Lib.hid c2
            have K3 := Lib.hid c3
            have K4 := Lib.hid c4
            clear c1 c2 c3 c4
            go_enter Try.func8, Try.ntmps8
            go_wp2_with fail
            refine (K1.out _).mono ?_
            rintro e w1 ⟨rfl, rfl⟩
            go_wp2_with fail
            refine (K2.out _).mono ?_
            rintro e w2 ⟨rfl, rfl⟩
            go_wp2_with fail
            refine (K3.out _).mono ?_
            rintro e w3 ⟨rfl, n3, rfl⟩
            go_wp2_with fail
            refine (K4.out _).mono ?_
            rintro e w4 ⟨rfl, n4, rfl⟩
            go_wp2_with fail
            refine (awake_any _).mono ?_
            rintro e w5 ⟨rfl, b5⟩
            go_wp2_with fail
            go_ret
            exact ⟨rfl, below_then (below_drewN (Below.refl _ _) _) b5⟩
          · have K1 := Lib.hid c1
            have K2 := Lib.hid c2
            have K3 := Lib.hid c3
            have K4 := Lib.hid c4
            have P4 := Lib.hid p4
            clear c1 c2 c3 c4 p4
            go_enter Try.func8, Try.ntmps8
            go_wp2_with fail
            refine (K1.out _).mono ?_
            rintro e w1 ⟨rfl, rfl⟩
            go_wp2_with fail
            refine (K2.out _).mono ?_
            rintro e w2 ⟨rfl, rfl⟩
            go_wp2_with fail
            refine (K3.out _).mono ?_
            rintro e w3 ⟨rfl, n3, rfl⟩
            go_wp2_with fail
            refine (K4.out _).mono ?_
            rintro e w4 ⟨rfl, n4, rfl⟩
            go_wp2_with fail
            refine (P4.out _).mono ?_
            rintro e w4' ⟨rfl, b4⟩
            go_wp2_with fail
            refine (awake_any _).mono ?_
            rintro e w5 ⟨rfl, b5⟩
            go_wp2_with fail
            go_ret
            exact ⟨rfl, below_then (below_then (below_drewN (Below.refl _ _) _) b4) b5⟩
        · rcases C4 with ⟨v4, e4, t4, c4⟩ | ⟨v4, c4, p4⟩
          · have K1 := Lib.hid c1
            have K2 := Lib.hid c2
            have K3 := Lib.hid c3
            have P3 := Lib.hid p3
            have K4 := Lib.hid c4
            clear c1 c2 c3 p3 c4
            go_enter Try.func8, Try.ntmps8
            go_wp2_with fail
            refine (K1.out _).mono ?_
            rintro e w1 ⟨rfl, rfl⟩
            go_wp2_with fail
            refine (K2.out _).mono ?_
            rintro e w2 ⟨rfl, rfl⟩
            go_wp2_with fail
            refine (K3.out _).mono ?_
            rintro e w3 ⟨rfl, n3, rfl⟩
            go_wp2_with fail
            refine (P3.out _).mono ?_
            rintro e w3' ⟨rfl, b3⟩
            go_wp2_with fail
            refine (K4.out _).mono ?_
            rintro e w4 ⟨rfl, n4, rfl⟩
            go_wp2_with fail
            refine (awake_any _).mono ?_
            rintro e w5 ⟨rfl, b5⟩
            go_wp2_with fail
            go_ret
            exact ⟨rfl, below_then (below_drewN (below_then (below_drewN (Below.refl _ _) _) b3) _) b5⟩
          · have K1 := Lib.hid c1
            have K2 := Lib.hid c2
            have K3 := Lib.hid c3
            have P3 := Lib.hid p3
            have K4 := Lib.hid c4
            have P4 := Lib.hid p4
            clear c1 c2 c3 p3 c4 p4
            go_enter Try.func8, Try.ntmps8
            go_wp2_with fail
            refine (K1.out _).mono ?_
            rintro e w1 ⟨rfl, rfl⟩
            go_wp2_with fail
            refine (K2.out _).mono ?_
            rintro e w2 ⟨rfl, rfl⟩
            go_wp2_with fail
            refine (K3.out _).mono ?_
            rintro e w3 ⟨rfl, n3, rfl⟩
            go_wp2_with fail
            refine (P3.out _).mono ?_
            rintro e w3' ⟨rfl, b3⟩
            go_wp2_with fail
            refine (K4.out _).mono ?_
            rintro e w4 ⟨rfl, n4, rfl⟩
            go_wp2_with fail
            refine (P4.out _).mono ?_
            rintro e w4' ⟨rfl, b4⟩
            go_wp2_with fail
            refine (awake_any _).mono ?_
            rintro e w5 ⟨rfl, b5⟩
            go_wp2_with fail
            go_ret
            exact ⟨rfl, below_then (below_then (below_drewN (below_then (below_drewN (Below.refl _ _) _) b3) _) b4) b5⟩
      · rcases C3 with ⟨v3, u3, e3, t3, c3⟩ | ⟨v3, u3, c3, p3⟩
        · rcases C4 with ⟨v4, e4, t4, c4⟩ | ⟨v4, c4, p4⟩
          · have K1 := Lib.hid c1
            have K2 := Lib.hid c2
            have P2 := Lib.hid p2
            have K3 := Lib.hid c3
            have K4 := Lib.hid c4
            clear c1 c2 p2 c3 c4
            go_enter Try.func8, Try.ntmps8
            go_wp2_with fail
            refine (K1.out _).mono ?_
            rintro e w1 ⟨rfl, rfl⟩
            go_wp2_with fail
            refine (K2.out _).mono ?_
            rintro e w2 ⟨rfl, rfl⟩
            go_wp2_with fail
            refine (P2.out _).mono ?_
            rintro e w2' ⟨rfl, b2⟩
            go_wp2_with fail
            refine (K3.out _).mono ?_
            rintro e w3 ⟨rfl, n3, rfl⟩
            go_wp2_with fail
            refine (K4.out _).mono ?_
            rintro e w4 ⟨rfl, n4, rfl⟩
            go_wp2_with fail
            refine (awake_any _).mono ?_
            rintro e w5 ⟨rfl, b5⟩
            go_wp2_with fail
            go_ret
            exact ⟨rfl, below_then (below_drewN (below_then (Below.refl _ _) b2) _) b5⟩
          · have K1 := Lib.hid c1
            have K2 := Lib.hid c2
            have P2 := Lib.hid p2
            have K3 := Lib.hid c3
            have K4 := Lib.hid c4
            have P4 := Lib.hid p4
            clear c1 c2 p2 c3 c4 p4
            go_enter Try.func8, Try.ntmps8
            go_wp2_with fail
            refine (K1.out _).mono ?_
            rintro e w1 ⟨rfl, rfl⟩
            go_wp2_with fail
            refine (K2.out _).mono ?_
            rintro e w2 ⟨rfl, rfl⟩
            go_wp2_with fail
            refine (P2.out _).mono ?_
            rintro e w2' ⟨rfl, b2⟩
            go_wp2_with fail
            refine (K3.out _).mono ?_
            rintro e w3 ⟨rfl, n3, rfl⟩
            go_wp2_with fail
            refine (K4.out _).mono ?_
            rintro e w4 ⟨rfl, n4, rfl⟩
            go_wp2_with fail
            refine (P4.out _).mono ?_
            rintro e w4' ⟨rfl, b4⟩
            go_wp2_with fail
            refine (awake_any _).mono ?_
            rintro e w5 ⟨rfl, b5⟩
            go_wp2_with fail
            go_ret
            exact ⟨rfl, below_then (below_then (below_drewN (below_then (Below.refl _ _) b2) _) b4) b5⟩
        · rcases C4 with ⟨v4, e4, t4, c4⟩ | ⟨v4, c4, p4⟩
          · have K1 := Lib.hid c1
            have K2 := Lib.hid c2
            have P2 := Lib.hid p2
            have K3 := Lib.hid c3
            have P3 := Lib.hid p3
            have K4 := Lib.hid c4
            clear c1 c2 p2 c3 p3 c4
            go_enter Try.func8, Try.ntmps8
            go_wp2_with fail
            refine (K1.out _).mono ?_
            rintro e w1 ⟨rfl, rfl⟩
            go_wp2_with fail
            refine (K2.out _).mono ?_
            rintro e w2 ⟨rfl, rfl⟩
            go_wp2_with fail
            refine (P2.out _).mono ?_
            rintro e w2' ⟨rfl, b2⟩
            go_wp2_with fail
            refine (K3.out _).mono ?_
            rintro e w3 ⟨rfl, n3, rfl⟩
            go_wp2_with fail
            refine (P3.out _).mono ?_
            rintro e w3' ⟨rfl, b3⟩
            go_wp2_with fail
            refine (K4.out _).mono ?_
            rintro e w4 ⟨rfl, n4, rfl⟩
            go_wp2_with fail
            refine (awake_any _).mono ?_
            rintro e w5 ⟨rfl, b5⟩
            go_wp2_with fail
            go_ret
            exact ⟨rfl, below_then (below_drewN (below_then (below_drewN (below_then (Below.refl _ _) b2) _) b3) _) b5⟩
          · have K1 := Lib.hid c1
            have K2 := Lib.hid c2
            have P2 := Lib.hid p2
            have K3 := Lib.hid c3
            have P3 := Lib.hid p3
            have K4 := Lib.hid c4
            have P4 := Lib.hid p4
            clear c1 c2 p2 c3 p3 c4 p4
            go_enter Try.func8, Try.ntmps8
            go_wp2_with fail
            refine (K1.out _).mono ?_
            rintro e w1 ⟨rfl, rfl⟩
            go_wp2_with fail
            refine (K2.out _).mono ?_
            rintro e w2 ⟨rfl, rfl⟩
            go_wp2_with fail
            refine (P2.out _).mono ?_
            rintro e w2' ⟨rfl, b2⟩
            go_wp2_with fail
            refine (K3.out _).mono ?_
            rintro e w3 ⟨rfl, n3, rfl⟩
            go_wp2_with fail
            refine (P3.out _).mono ?_
            rintro e w3' ⟨rfl, b3⟩
            go_wp2_with fail
            refine (K4.out _).mono ?_
            rintro e w4 ⟨rfl, n4, rfl⟩
            go_wp2_with fail
            refine (P4.out _).mono ?_
            rintro e w4' ⟨rfl, b4⟩
            go_wp2_with fail
            refine (awake_any _).mono ?_
            rintro e w5 ⟨rfl, b5⟩
            go_wp2_with fail
            go_ret
            exact ⟨rfl, below_then (below_then (below_drewN (below_then (below_drewN (below_then (Below.refl _ _) b2) _) b3) _) b4) b5⟩
    · rcases C2 with ⟨v2, e2, t2, c2⟩ | ⟨v2, c2, p2⟩
      · rcases C3 with ⟨v3, u3, e3, t3, c3⟩ | ⟨v3, u3, c3, p3⟩
        · rcases C4 with ⟨v4, e4, t4, c4⟩ | ⟨v4, c4, p4⟩
          · have K1 := Lib.hid c1
            have P1 := Lib.hid p1
            have K2 := Lib.hid c2
            have K3 := Lib.hid c3
            have K4 := Lib.hid c4
            clear c1 p1 c2 c3 c4
            go_enter Try.func8, Try.ntmps8
            go_wp2_with fail
            refine (K1.out _).mono ?_
            rintro e w1 ⟨rfl, rfl⟩
            go_wp2_with fail
            refine (P1.out _).mono ?_
            rintro e w1' ⟨rfl, rfl⟩
            go_wp2_with fail
            refine (K2.out _).mono ?_
            rintro e w2 ⟨rfl, rfl⟩
            go_wp2_with fail
            refine (K3.out _).mono ?_
            rintro e w3 ⟨rfl, n3, rfl⟩
            go_wp2_with fail
            refine (K4.out _).mono ?_
            rintro e w4 ⟨rfl, n4, rfl⟩
            go_wp2_with fail
            refine (awake_any _).mono ?_
            rintro e w5 ⟨rfl, b5⟩
            go_wp2_with fail
            go_ret
            exact ⟨rfl, below_then (below_drewN (Below.refl _ _) _) b5⟩
          · have K1 := Lib.hid c1
            have P1 := Lib.hid p1
            have K2 := Lib.hid c2
            have K3 := Lib.hid c3
            have K4 := Lib.hid c4
            have P4 := Lib.hid p4
            clear c1 p1 c2 c3 c4 p4
            go_enter Try.func8, Try.ntmps8
            go_wp2_with fail
            refine (K1.out _).mono ?_
            rintro e w1 ⟨rfl, rfl⟩
            go_wp2_with fail
            refine (P1.out _).mono ?_
            rintro e w1' ⟨rfl, rfl⟩
            go_wp2_with fail
            refine (K2.out _).mono ?_
            rintro e w2 ⟨rfl, rfl⟩
            go_wp2_with fail
            refine (K3.out _).mono ?_
            rintro e w3 ⟨rfl, n3, rfl⟩
            go_wp2_with fail
            refine (K4.out _).mono ?_
            rintro e w4 ⟨rfl, n4, rfl⟩
            go_wp2_with fail
            refine (P4.out _).mono ?_
            rintro e w4' ⟨rfl, b4⟩
            go_wp2_with fail
            refine (awake_any _).mono ?_
            rintro e w5 ⟨rfl, b5⟩
            go_wp2_with fail
            go_ret
            exact ⟨rfl, below_then (below_then (below_drewN (Below.refl _ _) _) b4) b5⟩
        · rcases C4 with ⟨v4, e4, t4, c4⟩ | ⟨v4, c4, p4⟩
          · have K1 := Lib.hid c1
            have P1 := Lib.hid p1
            have K2 := Lib.hid c2
            have K3 := Lib.hid c3
            have P3 := Lib.hid p3
            have K4 := Lib.hid c4
            clear c1 p1 c2 c3 p3 c4
            go_enter Try.func8, Try.ntmps8
            go_wp2_with fail
            refine (K1.out _).mono ?_
            rintro e w1 ⟨rfl, rfl⟩
            go_wp2_with fail
            refine (P1.out _).mono ?_
            rintro e w1' ⟨rfl, rfl⟩
            go_wp2_with fail
            refine (K2.out _).mono ?_
            rintro e w2 ⟨rfl, rfl⟩
            go_wp2_with fail
            refine (K3.out _).mono ?_
            rintro e w3 ⟨rfl, n3, rfl⟩
            go_wp2_with fail
            refine (P3.out _).mono ?_
            rintro e w3' ⟨rfl, b3⟩
            go_wp2_with fail
            refine (K4.out _).mono ?_
            rintro e w4 ⟨rfl, n4, rfl⟩
            go_wp2_with fail
            refine (awake_any _).mono ?_
            rintro e w5 ⟨rfl, b5⟩
            go_wp2_with fail
            go_ret
            exact ⟨rfl, below_then (below_drewN (below_then (below_drewN (Below.refl _ _) _) b3) _) b5⟩
          · have K1 := Lib.hid c1
            have P1 := Lib.hid p1
            have K2 := Lib.hid c2
            have K3 := Lib.hid c3
            have P3 := Lib.hid p3
            have K4 := Lib.hid c4
            have P4 := Lib.hid p4
            clear c1 p1 c2 c3 p3 c4 p4
            go_enter Try.func8, Try.ntmps8
            go_wp2_with fail
            refine (K1.out _).mono ?_
            rintro e w1 ⟨rfl, rfl⟩
            go_wp2_with fail
            refine (P1.out _).mono ?_
            rintro e w1' ⟨rfl, rfl⟩
            go_wp2_with fail
            refine (K2.out _).mono ?_
            rintro e w2 ⟨rfl, rfl⟩
            go_wp2_with fail
            refine (K3.out _).mono ?_
            rintro e w3 ⟨rfl, n3, rfl⟩
            go_wp2_with fail
            refine (P3.out _).mono ?_
            rintro e w3' ⟨rfl, b3⟩
            go_wp2_with fail
            refine (K4.out _).mono ?_
            rintro e w4 ⟨rfl, n4, rfl⟩
            go_wp2_with fail
            refine (P4.out _).mono ?_
            rintro e w4' ⟨rfl, b4⟩
            go_wp2_with fail
            refine (awake_any _).mono ?_
            rintro e w5 ⟨rfl, b5⟩
            go_wp2_with fail
            go_ret
            exact ⟨rfl, below_then (below_then (below_drewN (below_then (below_drewN (Below.refl _ _) _) b3) _) b4) b5⟩
      · rcases C3 with ⟨v3, u3, e3, t3, c3⟩ | ⟨v3, u3, c3, p3⟩
        · rcases C4 with ⟨v4, e4, t4, c4⟩ | ⟨v4, c4, p4⟩
          · have K1 := Lib.hid c1
            have P1 := Lib.hid p1
            have K2 := Lib.hid c2
            have P2 := Lib.hid p2
            have K3 := Lib.hid c3
            have K4 := Lib.hid c4
            clear c1 p1 c2 p2 c3 c4
            go_enter Try.func8, Try.ntmps8
            go_wp2_with fail
            refine (K1.out _).mono ?_
            rintro e w1 ⟨rfl, rfl⟩
            go_wp2_with fail
            refine (P1.out _).mono ?_
            rintro e w1' ⟨rfl, rfl⟩
            go_wp2_with fail
            refine (K2.out _).mono ?_
            rintro e w2 ⟨rfl, rfl⟩
            go_wp2_with fail
            refine (P2.out _).mono ?_
            rintro e w2' ⟨rfl, b2⟩
            go_wp2_with fail
            refine (K3.out _).mono ?_
            rintro e w3 ⟨rfl, n3, rfl⟩
            go_wp2_with fail
            refine (K4.out _).mono ?_
            rintro e w4 ⟨rfl, n4, rfl⟩
            go_wp2_with fail
            refine (awake_any _).mono ?_
            rintro e w5 ⟨rfl, b5⟩
            go_wp2_with fail
            go_ret
            exact ⟨rfl, below_then (below_drewN (below_then (Below.refl _ _) b2) _) b5⟩
          · have K1 := Lib.hid c1
            have P1 := Lib.hid p1
            have K2 := Lib.hid c2
            have P2 := Lib.hid p2
            have K3 := Lib.hid c3
            have K4 := Lib.hid c4
            have P4 := Lib.hid p4
            clear c1 p1 c2 p2 c3 c4 p4
            go_enter Try.func8, Try.ntmps8
            go_wp2_with fail
            refine (K1.out _).mono ?_
            rintro e w1 ⟨rfl, rfl⟩
            go_wp2_with fail
            refine (P1.out _).mono ?_
            rintro e w1' ⟨rfl, rfl⟩
            go_wp2_with fail
            refine (K2.out _).mono ?_
            rintro e w2 ⟨rfl, rfl⟩
            go_wp2_with fail
            refine (P2.out _).mono ?_
            rintro e w2' ⟨rfl, b2⟩
            go_wp2_with fail
            refine (K3.out _).mono ?_
            rintro e w3 ⟨rfl, n3, rfl⟩
            go_wp2_with fail
            refine (K4.out _).mono ?_
            rintro e w4 ⟨rfl, n4, rfl⟩
            go_wp2_with fail
            refine (P4.out _).mono ?_
            rintro e w4' ⟨rfl, b4⟩
            go_wp2_with fail
            refine (awake_any _).mono ?_
            rintro e w5 ⟨rfl, b5⟩
            go_wp2_with fail
            go_ret
            exact ⟨rfl, below_then (below_then (below_drewN (below_then (Below.refl _ _) b2) _) b4) b5⟩
        · rcases C4 with ⟨v4, e4, t4, c4⟩ | ⟨v4, c4, p4⟩
          · have K1 := Lib.hid c1
            have P1 := Lib.hid p1
            have K2 := Lib.hid c2
            have P2 := Lib.hid p2
            have K3 := Lib.hid c3
            have P3 := Lib.hid p3
            have K4 := Lib.hid c4
            clear c1 p1 c2 p2 c3 p3 c4
            go_enter Try.func8, Try.ntmps8
            go_wp2_with fail
            refine (K1.out _).mono ?_
            rintro e w1 ⟨rfl, rfl⟩
            go_wp2_with fail
            refine (P1.out _).mono ?_
            rintro e w1' ⟨rfl, rfl⟩
            go_wp2_with fail
            refine (K2.out _).mono ?_
            rintro e w2 ⟨rfl, rfl⟩
            go_wp2_with fail
            refine (P2.out _).mono ?_
            rintro e w2' ⟨rfl, b2⟩
            go_wp2_with fail
            refine (K3.out _).mono ?_
            rintro e w3 ⟨rfl, n3, rfl⟩
            go_wp2_with fail
            refine (P3.out _).mono ?_
            rintro e w3' ⟨rfl, b3⟩
            go_wp2_with fail
            refine (K4.out _).mono ?_
            rintro e w4 ⟨rfl, n4, rfl⟩
            go_wp2_with fail
            refine (awake_any _).mono ?_
            rintro e w5 ⟨rfl, b5⟩
            go_wp2_with fail
            go_ret
            exact ⟨rfl, below_then (below_drewN (below_then (below_drewN (below_then (Below.refl _ _) b2) _) b3) _) b5⟩
          · have K1 := Lib.hid c1
            have P1 := Lib.hid p1
            have K2 := Lib.hid c2
            have P2 := Lib.hid p2
            have K3 := Lib.hid c3
            have P3 := Lib.hid p3
            have K4 := Lib.hid c4
            have P4 := Lib.hid p4
            clear c1 p1 c2 p2 c3 p3 c4 p4
            go_enter Try.func8, Try.ntmps8
            go_wp2_with fail
            refine (K1.out _).mono ?_
            rintro e w1 ⟨rfl, rfl⟩
            go_wp2_with fail
            refine (P1.out _).mono ?_
            rintro e w1' ⟨rfl, rfl⟩
            go_wp2_with fail
            refine (K2.out _).mono ?_
            rintro e w2 ⟨rfl, rfl⟩
            go_wp2_with fail
            refine (P2.out _).mono ?_
            rintro e w2' ⟨rfl, b2⟩
            go_wp2_with fail
            refine (K3.out _).mono ?_
            rintro e w3 ⟨rfl, n3, rfl⟩
            go_wp2_with fail
            refine (P3.out _).mono ?_
            rintro e w3' ⟨rfl, b3⟩
            go_wp2_with fail
            refine (K4.out _).mono ?_
            rintro e w4 ⟨rfl, n4, rfl⟩
            go_wp2_with fail
            refine (P4.out _).mono ?_
            rintro e w4' ⟨rfl, b4⟩
            go_wp2_with fail
            refine (awake_any _).mono ?_
            rintro e w5 ⟨rfl, b5⟩
            go_wp2_with fail
            go_ret
            exact ⟨rfl, below_then (below_then (below_drewN (below_then (below_drewN (below_then (Below.refl _ _) b2) _) b3) _) b4) b5⟩
end Go.Proofs.Ytcpdhmhlmnodcaa
