/-
  The walk of 'awake', which every law of this seat calls.
-/
import Derived.Test.YtcpdhmhlmnodcaaPrimInt
import Derived.Test.YtcpdhmhlmnodcaaPrimPutRef
import Derived.Test.YtcpdhmhlmnodcaaPrimPutFlagsRef
namespace Go.Proofs.Ytcpdhmhlmnodcaa
open Go.RowKit

theorem below_then {w w1 w2 : World} (h : Below w.heap.size w w1) (k : Below w1.heap.size w1 w2) : Below w.heap.size w w2 := h.trans (k.mono h.size)
theorem bs_eq (l : List UInt8) : ((bs l).toList == l) = true := by rw [bs_toList]; simp

set_option maxRecDepth 100000 in
theorem awake_any (w : World) : Calls Try.prog 9 #[] w fun e w' => e = .returned (.bool true) ∧ Below w.heap.size w w' := by
  have h6 : PutFlagsRet 6 = .returned (.tuple #[.string (bs [5, 96]), .int .i64 0]) := by
    unfold PutFlagsRet; rw [show Sp.putFlags 6 = ([5, 96], 0) from by decide +kernel]
  have h128 : Sp.putInteger 128 = [0, 128] := by decide +kernel
  have h1 : Sp.putInteger (-1) = [255] := by decide +kernel
  have c6 := fun W => putFlags_any 6 W
  rw [h6] at c6
  have c128 := fun W => putInteger_any 128 W (by omega) (by omega)
  rw [h128] at c128
  have c1 := fun W => putInteger_any (-1) W (by omega) (by omega)
  rw [h1] at c1
  have C6 := Lib.hid c6
  have C128 := Lib.hid c128
  have C1 := Lib.hid c1
  have e1 := bs_eq [5, 96]
  have e2 := bs_eq [0, 128]
  have e3 := bs_eq [255]
  clear c6 c128 c1 h6 h128 h1
  go_enter Try.func9, Try.ntmps9
  go_wp2_with fail
  refine (C6.out _).mono ?_
  rintro e w1 ⟨rfl, b1⟩
  go_wp2_with fail
  refine (C128.out _).mono ?_
  rintro e w2 ⟨rfl, b2⟩
  go_wp2_with fail
  refine (C1.out _).mono ?_
  rintro e w3 ⟨rfl, b3⟩
  go_wp2_with fail
  go_ret
  exact ⟨rfl, below_then (below_then b1 b2) b3⟩
end Go.Proofs.Ytcpdhmhlmnodcaa
