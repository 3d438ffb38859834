/-
  PrimFlags: the walk.
-/
import Derived.Test.YtcpdhmhlmnodcaaPrimLaw
namespace Go.Proofs.Ytcpdhmhlmnodcaa
open Go.RowKit
theorem flagsRet_eq (s : ByteArray) : FlagsRet s = .returned (.tuple #[.int .i64 (Sp.flags (dl s)).1, .int .i64 (Sp.flags (dl s)).2]) := rfl
theorem putFlagsRet_eq (m : Int) : PutFlagsRet m = .returned (.tuple #[.string (bs (Sp.putFlags m).1), .int .i64 (Sp.putFlags m).2]) := rfl
/-- string([]byte{..}): the literal's block holds the bytes l -/
theorem run_string_lit {P : Program} (w : World) (g : Nat) (src dst e : TypeId) (l : List UInt8) (hs : P.underlying src = some (.slice e)) (he : P.underlying e = some (.int .u8)) (hd : P.underlying dst = some .string)
    (hc : ∀ j (hj : j < l.length), w.cell? ⟨g, j, none⟩ = some (.int .u8 (l[j].toNat : Int))) :
    (convert src dst (.slice (some ⟨g, 0, none⟩) l.length l.length)).run P w = .ok (.string (bs l)) w := by
  refine run_convert_bytes_back w src dst e ⟨g, 0, none⟩ l.length l hs he hd fun j hj => ?_
  have ha : (⟨g, 0, none⟩ : Addr).add j = ⟨g, j, none⟩ := by
    unfold Addr.add; split
    · rename_i h; subst h; rfl
    · simp
  rw [ha]; exact hc j hj
theorem lit3 (w : World) (x y z : Int) (hx : 0 ≤ x ∧ x ≤ 255) (hy : 0 ≤ y ∧ y ≤ 255) (hz : 0 ≤ z ∧ z ≤ 255) : ∃ X : ByteArray, X.size ≤ 3 ∧
    (convert 42 9 (.slice (some ⟨w.heap.size, 0, none⟩) 3 3)).run Try.prog (w.alloc (.cells #[.int .u8 x, .int .u8 y, .int .u8 z] 5)) = .ok (.string X) (w.alloc (.cells #[.int .u8 x, .int .u8 y, .int .u8 z] 5)) := by
  refine ⟨bs [UInt8.ofNat x.toNat, UInt8.ofNat y.toNat, UInt8.ofNat z.toNat], by rw [bs_size]; simp, ?_⟩
  refine run_string_lit _ w.heap.size 42 9 5 [UInt8.ofNat x.toNat, UInt8.ofNat y.toNat, UInt8.ofNat z.toNat] Try.underlying42 Try.underlying5 Try.underlying9 fun j hj => ?_
  rw [World.cell?_alloc_mark]
  match j, hj with
  | 0, _ => simp; omega
  | 1, _ => simp; omega
  | 2, _ => simp; omega
theorem lit2 (w : World) (o : Obj) (x y : Int) (hx : 0 ≤ x ∧ x ≤ 255) (hy : 0 ≤ y ∧ y ≤ 255) : ∃ X : ByteArray, X.size ≤ 3 ∧
    (convert 42 9 (.slice (some ⟨w.heap.size + 1, 0, none⟩) 2 2)).run Try.prog ((w.alloc o).alloc (.cells #[.int .u8 x, .int .u8 y] 5)) = .ok (.string X) ((w.alloc o).alloc (.cells #[.int .u8 x, .int .u8 y] 5)) := by
  refine ⟨bs [UInt8.ofNat x.toNat, UInt8.ofNat y.toNat], by rw [bs_size]; simp, ?_⟩
  refine run_string_lit _ (w.heap.size + 1) 42 9 5 [UInt8.ofNat x.toNat, UInt8.ofNat y.toNat] Try.underlying42 Try.underlying5 Try.underlying9 fun j hj => ?_
  rw [show w.heap.size + 1 = (w.alloc o).heap.size by simp, World.cell?_alloc_mark]
  match j, hj with
  | 0, _ => simp; omega
  | 1, _ => simp; omega
set_option maxRecDepth 100000 in
set_option maxHeartbeats 400000 in
theorem primFlags_walk (c : ByteArray) (mask sm fi b : Int) (w : World) (h : c.size ≤ maxLen) (m0 : 0 ≤ sm) (m1 : sm ≤ 65535) (f0 : 0 ≤ fi) (f1 : fi ≤ 255) (b0 : 0 ≤ b) (b1 : b ≤ 65535) :
    Calls Try.prog 7 #[.string c, .int .i64 mask, .int .u16 sm, .int .u8 fi, .int .u16 b] w fun e w' => e = .returned (.bool true) ∧ Below w.heap.size w w' := by
  unfold maxLen at h
  by_cases hl : 20 < c.size
  · have hl' : (20 : Int) < c.size := by omega
    go_enter Try.func7, Try.ntmps7
    go_wp2_with fail
    refine (awake_any _).mono ?_
    rintro e w' ⟨rfl, hb⟩
    go_wp2_with fail
    go_ret
    exact ⟨rfl, hb⟩
  · have hl' : (c.size : Int) ≤ 20 := by omega
    have hcM := Lib.hid (show c.size ≤ 140737488351232 by omega)
    obtain ⟨X1, hX1, hc1⟩ := lit3 w (fi % 9) (b / 256) (b % 256) (by omega) (by omega) (by omega)
    obtain ⟨X2, hX2, hc2⟩ := lit2 w (.cells #[.int .u8 (fi % 9), .int .u8 (b / 256), .int .u8 (b % 256)] 5) (fi % 9) (b % 256) (by omega) (by omega)
    clear h hl
    go_enter Try.func7, Try.ntmps7
    go_wp2_with fail
    clear hc1 hc2
    have hcells : CellsAt (((w.alloc (.cells #[.int .u8 (fi % 9), .int .u8 (b / 256), .int .u8 (b % 256)] 5)).alloc (.cells #[.int .u8 (fi % 9), .int .u8 (b % 256)] 5)).alloc (.cells #[.string c, .string X1, .string X2] 9)) (w.heap.size + 1 + 1) [.string c, .string X1, .string X2] := by
      have := CellsAt.lit ((w.alloc (.cells #[.int .u8 (fi % 9), .int .u8 (b / 256), .int .u8 (b % 256)] 5)).alloc (.cells #[.int .u8 (fi % 9), .int .u8 (b % 256)] 5)) [.string c, .string X1, .string X2] 9
      simpa using this
    have hb0 : Below w.heap.size w (((w.alloc (.cells #[.int .u8 (fi % 9), .int .u8 (b / 256), .int .u8 (b % 256)] 5)).alloc (.cells #[.int .u8 (fi % 9), .int .u8 (b % 256)] 5)).alloc (.cells #[.string c, .string X1, .string X2] 9)) :=
      (((Below.refl w.heap.size w).alloc (Nat.le_refl _) _).alloc (by simp) _).alloc (by simp; omega) _
    generalize ((w.alloc (.cells #[.int .u8 (fi % 9), .int .u8 (b / 256), .int .u8 (b % 256)] 5)).alloc (.cells #[.int .u8 (fi % 9), .int .u8 (b % 256)] 5)).alloc (.cells #[.string c, .string X1, .string X2] 9) = W1 at *
    go_loopw [47] (fun i wr => ∃ k : Nat, k ≤ 3 ∧ i = .int .i64 k ∧ CellsAt wr (w.heap.size + 1 + 1) [.string c, .string X1, .string X2] ∧ Below w.heap.size w wr) (fun i _ => 3 - (intOf i).toNat)
    case atStart => exact ⟨0, by omega, rfl, hcells, hb0⟩
    case round =>
      obtain ⟨k, hk, rfl, hcl, hbel⟩ := hrel
      clear hcells hb0
      by_cases hk3 : k = 3
      · subst hk3
        obtain ⟨n, rfl⟩ := Int.eq_ofNat_of_zero_le m0
        have hfp := Sp.flags_put n (by omega)
        have hr : PutFlagsRet (n : Int) = .returned (.tuple #[.string (bs (Sp.putFlags n).1), .int .i64 0]) := by rw [putFlagsRet_eq, hfp.2]
        have hfr : FlagsRet (bs (Sp.putFlags n).1) = .returned (.tuple #[.int .i64 (n : Int), .int .i64 0]) := by rw [flagsRet_eq, dl_is, hfp.1]
        have hsz : (bs (Sp.putFlags n).1).size ≤ 140737488351232 := by
          rw [bs_size]
          have : (Sp.putFlags n).1 = Sp.rows n (Sp.width n 16) (Sp.width n 16) := by unfold Sp.putFlags; rw [if_neg (by omega), Int.toNat_natCast]
          rw [this, Sp.rows_length]
          have := Sp.width_le n 16
          omega
        have HR := Lib.hid hr
        have HF := Lib.hid hfr
        have HZ := Lib.hid hsz
        clear hfp hr hfr hsz hcl
        go_wp2_with fail
        refine (putFlags_any mask _).mono ?_
        rintro e w1 ⟨rfl, b1⟩
        rw [putFlagsRet_eq]
        go_wp2_with fail
        refine (ref_putFlags_any mask _).mono ?_
        rintro e w2 ⟨rfl, b2⟩
        rw [putFlagsRet_eq]
        go_wp2_with fail
        refine (putFlags_any n _).mono ?_
        rintro e w3 ⟨rfl, b3⟩
        rw [HR.out]
        go_wp2_with fail
        refine (flags_any (bs (Sp.putFlags n).1) _ HZ.out).mono ?_
        rintro e w4 ⟨rfl, n4, rfl⟩
        rw [HF.out]
        go_wp2_with fail
        refine (awake_any _).mono ?_
        rintro e w5 ⟨rfl, b5⟩
        go_wp2_with fail
        go_ret
        exact ⟨rfl, below_then (below_drewN (below_then (below_then (below_then hbel b1) b2) b3) _) b5⟩
      · have hk' : (k : Int) < 3 := by omega
        obtain ⟨X, hX, hXs⟩ : ∃ X : ByteArray, [Value.string c, Value.string X1, Value.string X2][k]? = some (.string X) ∧ X.size ≤ 140737488351232 := by
          rcases (show k = 0 ∨ k = 1 ∨ k = 2 by omega) with rfl | rfl | rfl
          · exact ⟨c, rfl, by omega⟩
          · exact ⟨X1, rfl, by omega⟩
          · exact ⟨X2, rfl, by omega⟩
        have hcx := hcl.at k _ hX
        have HC := Lib.hid hcl
        have HX := Lib.hid hXs
        clear hX hcl hXs
        go_wp2_with fail
        refine (flags_any X _ HX.out).mono ?_
        rintro e w1 ⟨rfl, n1, rfl⟩
        rw [flagsRet_eq]
        go_wp2_with fail
        refine (ref_flags_any X _ HX.out).mono ?_
        rintro e w2 ⟨rfl, n2, rfl⟩
        rw [flagsRet_eq]
        go_wp2_with fail
        exact ⟨⟨k + 1, by omega, by go_num, HC.out.below (below_drewN (Below.refl _ _) _), below_drewN hbel _⟩, by simp [intOf]; omega⟩
end Go.Proofs.Ytcpdhmhlmnodcaa
