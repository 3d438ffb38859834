/-
  Plain functions: bit strings and lists of named bits, and the laws among them. No program in sight.
-/
import Derived.Test.YtcpdhmhlmnodcaaPrimPure
namespace Go.Proofs.Ytcpdhmhlmnodcaa.Sp

/-! ### booleans -/
def boolean (l : List UInt8) : Bool × Int := if l = [0] then (false, 0) else if l = [255] then (true, 0) else (false, 7)
def putBoolean (v : Bool) : List UInt8 := if v then [255] else [0]
theorem put_boolean (l : List UInt8) (h : (boolean l).2 = 0) : putBoolean (boolean l).1 = l := by
  unfold boolean at *
  split at h
  · rename_i h1; subst h1; rfl
  · split at h
    · rename_i h1 h2; subst h2; rfl
    · simp at h

/-! ### bit strings -/
/-- the u least significant bits of the last byte are 0 -/
def spare (b : List UInt8) (u : Nat) : Bool := decide (u = 0) || (match b.getLast? with | none => false | some x => decide (x.toNat % 2 ^ u = 0))
def bitsOk : List UInt8 → Bool
  | [] => false
  | a :: r => decide (a.toNat ≤ 7) && spare r a.toNat
def bitsBytes (l : List UInt8) : List UInt8 := if bitsOk l then l.tail else []
def bitsUnused (l : List UInt8) : Nat := if bitsOk l then (l.headD 0).toNat else 0
def bitsErr (l : List UInt8) : Int := if bitsOk l then 0 else 7
def putBits (b : List UInt8) (u : Int) : List UInt8 × Int :=
  if u < 0 ∨ 7 < u then ([], 1) else if spare b u.toNat then (UInt8.ofNat u.toNat :: b, 0) else ([], 7)
theorem bits_ok {l : List UInt8} (h : bitsOk l = true) : ∃ a r, l = a :: r ∧ a.toNat ≤ 7 ∧ spare r a.toNat = true := by
  match l, h with
  | a :: r, h => simp [bitsOk] at h; exact ⟨a, r, rfl, h.1, h.2⟩
theorem put_bits (l : List UInt8) (h : bitsOk l = true) : putBits (bitsBytes l) (bitsUnused l) = (l, 0) := by
  have hb : bitsBytes l = l.tail := by unfold bitsBytes; rw [if_pos h]
  have hu : bitsUnused l = (l.headD 0).toNat := by unfold bitsUnused; rw [if_pos h]
  obtain ⟨a, r, rfl, ha, hs⟩ := bits_ok h
  rw [hb, hu]
  simp only [List.tail_cons, List.headD_cons]
  unfold putBits
  rw [if_neg (by omega), Int.toNat_natCast, if_pos hs]
  simp

/-! ### named bits -/
/-- bit k of the bytes: bit 0 is the most significant one of the first byte -/
def bit (b : List UInt8) (k : Nat) : Bool := ((b.getD (k / 8) 0).toNat).testBit (7 - k % 8)
/-- the mask of the first k bits -/
def maskOf (b : List UInt8) : Nat → Nat
  | 0 => 0
  | k + 1 => if bit b k then maskOf b k ||| 2 ^ k else maskOf b k
def count (b : List UInt8) (u : Nat) : Nat := 8 * b.length - u
def flagsOf (b : List UInt8) (n : Nat) : Int × Int :=
  if 0 < n ∧ bit b (n - 1) = false then (0, 7) else if 16 < n then (0, 1) else ((maskOf b n : Nat), 0)
def flags (l : List UInt8) : Int × Int := if bitsOk l then flagsOf (bitsBytes l) (count (bitsBytes l) (bitsUnused l)) else (0, 7)
theorem maskOf_testBit (b : List UInt8) (k i : Nat) : (maskOf b k).testBit i = (decide (i < k) && bit b i) := by
  induction k with
  | zero => simp [maskOf]
  | succ k ih =>
    unfold maskOf
    have key : (decide (i < k + 1) && bit b i) = ((decide (i < k) && bit b i) || (decide (k = i) && bit b i)) := by
      by_cases h : i < k
      · simp [h, show i < k + 1 by omega]
      · by_cases h' : k = i
        · subst h'; simp
        · simp [h, h', show ¬ i < k + 1 by omega]
    rw [key, ← ih]
    split
    · rename_i hb
      rw [Nat.testBit_or, Nat.testBit_two_pow]
      by_cases h' : k = i
      · subst h'; simp [hb]
      · simp [h']
    · rename_i hb
      by_cases h' : k = i
      · subst h'; simp [hb]
      · simp [h']
theorem maskOf_lt (b : List UInt8) (k : Nat) : maskOf b k < 2 ^ k := by
  induction k with
  | zero => simp [maskOf]
  | succ k ih =>
    unfold maskOf
    split
    · exact Nat.or_lt_two_pow (Nat.lt_trans ih (Nat.pow_lt_pow_right (by omega) (by omega))) (Nat.pow_lt_pow_right (by omega) (by omega))
    · exact Nat.lt_trans ih (Nat.pow_lt_pow_right (by omega) (by omega))

/-- the number of bits of a mask -/
def width (m : Nat) : Nat → Nat
  | 0 => 0
  | k + 1 => if m.testBit k then k + 1 else width m k
/-- byte j behind k rounds -/
def part (m : Nat) (j : Nat) : Nat → Nat
  | 0 => 0
  | k + 1 => if m.testBit k ∧ k / 8 = j then part m j k ||| 2 ^ (7 - k % 8) else part m j k
theorem part_lt (m j k : Nat) : part m j k < 256 := by
  induction k with
  | zero => simp [part]
  | succ k ih =>
    unfold part
    split
    · refine Nat.or_lt_two_pow (n := 8) ih ?_
      exact Nat.pow_lt_pow_right (by omega) (by omega)
    · exact ih
def partByte (m j k : Nat) : UInt8 := UInt8.ofNat (part m j k)
theorem partByte_toNat (m j k : Nat) : (partByte m j k).toNat = part m j k := by
  unfold partByte; rw [UInt8.toNat_ofNat']; exact Nat.mod_eq_of_lt (part_lt m j k)
/-- the bytes behind k rounds, w bits in all -/
def rows (m w k : Nat) : List UInt8 := UInt8.ofNat (8 * ((w + 7) / 8) - w) :: (List.range ((w + 7) / 8)).map (fun j => partByte m j k)
def putFlags (m : Int) : List UInt8 × Int :=
  if m < 0 ∨ 65535 < m then ([], 1) else (rows m.toNat (width m.toNat 16) (width m.toNat 16), 0)

theorem rows_zero (m w : Nat) : rows m w 0 = UInt8.ofNat (8 * ((w + 7) / 8) - w) :: List.replicate ((w + 7) / 8) 0 := by
  unfold rows
  congr 1
  rw [List.eq_replicate_iff]
  refine ⟨by simp, fun b hb => ?_⟩
  simp only [List.mem_map] at hb
  obtain ⟨j, _, rfl⟩ := hb
  rfl
theorem rows_length (m w k : Nat) : (rows m w k).length = 1 + (w + 7) / 8 := by simp [rows]; omega

/-- bit k of the mask is 0: nothing is written -/
theorem rows_keep (m w k : Nat) (h : m.testBit k = false) : rows m w (k + 1) = rows m w k := by
  unfold rows partByte
  congr 1
  apply List.map_congr_left
  intro j _
  show UInt8.ofNat (part m j (k + 1)) = UInt8.ofNat (part m j k)
  rw [part, if_neg (by simp [h])]
/-- bit k of the mask is 1: one byte turns -/
theorem rows_set (m w k : Nat) (h : m.testBit k = true) (hk : k < w) :
    rows m w (k + 1) = (rows m w k).set (1 + k / 8) (UInt8.ofNat (part m (k / 8) k ||| 2 ^ (7 - k % 8))) := by
  unfold rows
  rw [show 1 + k / 8 = k / 8 + 1 from by omega, List.set_cons_succ]
  congr 1
  apply List.ext_getElem?
  intro j
  rw [List.getElem?_set]
  by_cases hj : k / 8 = j
  · subst hj
    have hlt : k / 8 < (w + 7) / 8 := by omega
    simp [hlt, partByte, part, h]
  · rw [if_neg hj]
    simp only [List.getElem?_map]
    by_cases hjl : j < (w + 7) / 8
    · simp [hjl, partByte, part, hj]
    · simp [hjl]
theorem rows_get (m w k j : Nat) (hj : j < (w + 7) / 8) : (rows m w k)[1 + j]'(by rw [rows_length]; omega) = partByte m j k := by
  simp only [rows]
  simp [show 1 + j = j + 1 from by omega]

theorem width_le (m : Nat) : ∀ k, width m k ≤ k := by
  intro k; induction k with
  | zero => simp [width]
  | succ k ih => unfold width; split <;> omega
theorem width_top (m : Nat) : ∀ k, width m k = 0 ∨ m.testBit (width m k - 1) = true := by
  intro k; induction k with
  | zero => simp [width]
  | succ k ih =>
    unfold width; split
    · rename_i h; right; simpa using h
    · exact ih
theorem width_above (m : Nat) : ∀ k i, width m k ≤ i → i < k → m.testBit i = false := by
  intro k; induction k with
  | zero => intro i _ h; omega
  | succ k ih =>
    intro i h1 h2
    unfold width at h1
    split at h1
    · omega
    · rename_i hb
      by_cases h : i = k
      · subst h; simpa using hb
      · exact ih i h1 (by omega)
theorem width_lt (m k : Nat) (hm : m < 2 ^ k) : m < 2 ^ width m k := by
  apply Nat.lt_pow_two_of_testBit
  intro i hi
  by_cases h : i < k
  · exact width_above m k i hi h
  · exact Nat.testBit_lt_two_pow (Nat.lt_of_lt_of_le hm (Nat.pow_le_pow_right (by omega) (by omega)))
theorem width_eq (m k n : Nat) (hn : n ≤ k) (hm : m < 2 ^ n) (ht : n = 0 ∨ m.testBit (n - 1) = true) : width m k = n := by
  have h1 := width_top m k
  have h2 : width m k ≤ n := by
    rcases h1 with h1 | h1
    · omega
    · by_cases h : width m k ≤ n
      · exact h
      · have : m.testBit (width m k - 1) = false := Nat.testBit_lt_two_pow (Nat.lt_of_lt_of_le hm (Nat.pow_le_pow_right (by omega) (by omega)))
        rw [this] at h1; cases h1
  rcases ht with ht | ht
  · omega
  · by_cases h : n ≤ width m k
    · omega
    · by_cases h0 : n = 0
      · omega
      · have := width_above m k (n - 1) (by omega) (by omega)
        rw [this] at ht; cases ht

theorem part_testBit (m j k : Nat) : ∀ i, i < 8 → (part m j k).testBit i = (decide (8 * j + (7 - i) < k) && m.testBit (8 * j + (7 - i))) := by
  induction k with
  | zero => intro i _; simp [part]
  | succ k ih =>
    intro i hi
    unfold part
    have key : ∀ X : Bool, (decide (8 * j + (7 - i) < k + 1) && X) = ((decide (8 * j + (7 - i) < k) && X) || (decide (8 * j + (7 - i) = k) && X)) := by
      intro X
      by_cases h : 8 * j + (7 - i) < k
      · simp [h, show 8 * j + (7 - i) < k + 1 by omega]
      · by_cases h' : 8 * j + (7 - i) = k
        · simp [h']
        · simp [h, h', show ¬ 8 * j + (7 - i) < k + 1 by omega]
    rw [key, ← ih i hi]
    by_cases hk : 8 * j + (7 - i) = k
    · have e1 : k / 8 = j := by omega
      have e2 : 7 - k % 8 = i := by omega
      rw [e1, e2, hk]
      by_cases hb : m.testBit k = true
      · rw [if_pos ⟨hb, rfl⟩, Nat.testBit_or, Nat.testBit_two_pow]; simp [hb]
      · rw [if_neg (fun h => hb h.1)]; simp [hb]
    · split
      · rename_i h
        rw [Nat.testBit_or, Nat.testBit_two_pow]
        have : ¬ 7 - k % 8 = i := by omega
        simp [this, hk]
      · simp [hk]
theorem rows_bit (m w k : Nat) (hk : k < w) (_hm : m < 2 ^ w) : bit (rows m w w).tail k = m.testBit k := by
  unfold bit
  have hj : k / 8 < (w + 7) / 8 := by omega
  have : ((rows m w w).tail.getD (k / 8) 0) = partByte m (k / 8) w := by
    simp [rows, List.getD, hj]
  rw [this, partByte_toNat, part_testBit m (k / 8) w (7 - k % 8) (by omega)]
  rw [show 8 * (k / 8) + (7 - (7 - k % 8)) = k from by omega]
  simp [hk]
theorem width_eq_top {m : Nat} (h0 : 0 < width m 16) : m.testBit (width m 16 - 1) = true := by
  rcases width_top m 16 with h | h
  · omega
  · exact h
/-- Flags inverts PutFlags. -/
theorem flags_put (m : Nat) (hm : m ≤ 65535) : flags (putFlags m).1 = ((m : Int), 0) ∧ (putFlags m).2 = 0 := by
  have hp : putFlags m = (rows m (width m 16) (width m 16), 0) := by
    unfold putFlags; rw [if_neg (by omega)]; rfl
  rw [hp]
  refine ⟨?_, rfl⟩
  have hw16 := width_le m 16
  have hlt := width_lt m 16 (by omega)
  have htop := @width_eq_top m
  generalize width m 16 = w at *
  have hu : ((UInt8.ofNat (8 * ((w + 7) / 8) - w)).toNat) = 8 * ((w + 7) / 8) - w := by
    rw [UInt8.toNat_ofNat']; omega
  have hsp : spare ((List.range ((w + 7) / 8)).map (fun j => partByte m j w)) (8 * ((w + 7) / 8) - w) = true := by
    unfold spare
    by_cases h0 : (w + 7) / 8 = 0
    · simp [h0]
    · have hl : ((List.range ((w + 7) / 8)).map (fun j => partByte m j w)).getLast? = some (partByte m ((w + 7) / 8 - 1) w) := by
        rw [List.getLast?_eq_getElem?, List.getElem?_map]
        simp only [List.length_map, List.length_range]
        rw [List.getElem?_range (by omega)]; rfl
      rw [hl]
      simp only [Bool.or_eq_true, decide_eq_true_eq]
      right
      rw [partByte_toNat]
      apply Nat.eq_of_testBit_eq
      intro i
      rw [Nat.testBit_mod_two_pow]
      by_cases hi : i < 8 * ((w + 7) / 8) - w
      · rw [part_testBit m _ w i (by omega)]
        have : ¬ 8 * ((w + 7) / 8 - 1) + (7 - i) < w := by omega
        simp [this]
      · simp [hi]
  have hok : bitsOk (rows m w w) = true := by
    show (decide ((UInt8.ofNat (8 * ((w + 7) / 8) - w)).toNat ≤ 7) && spare ((List.range ((w + 7) / 8)).map (fun j => partByte m j w)) (UInt8.ofNat (8 * ((w + 7) / 8) - w)).toNat) = true
    rw [hu]
    simp only [Bool.and_eq_true, decide_eq_true_eq]
    exact ⟨by omega, hsp⟩
  have hb : bitsBytes (rows m w w) = (rows m w w).tail := by unfold bitsBytes; rw [if_pos hok]
  have hun : bitsUnused (rows m w w) = 8 * ((w + 7) / 8) - w := by unfold bitsUnused; rw [if_pos hok]; exact hu
  have hc : count (bitsBytes (rows m w w)) (bitsUnused (rows m w w)) = w := by
    rw [hb, hun]; unfold count; rw [List.length_tail, rows_length]; omega
  unfold flags
  rw [if_pos hok]
  rw [hc, hb]
  unfold flagsOf
  rw [if_neg, if_neg (by omega)]
  · congr 1
    congr 1
    apply Nat.eq_of_testBit_eq
    intro i
    rw [maskOf_testBit]
    by_cases hi : i < w
    · rw [rows_bit m w i hi hlt]; simp [hi]
    · simp [hi]; exact (Nat.testBit_lt_two_pow (Nat.lt_of_lt_of_le hlt (Nat.pow_le_pow_right (by omega) (by omega))))
  · rintro ⟨h0, hf⟩
    rw [rows_bit m w (w - 1) (by omega) hlt, htop h0] at hf; cases hf

/-- PutFlags writes what Flags accepts. -/
theorem put_flags (l : List UInt8) (h : (flags l).2 = 0) : putFlags (flags l).1 = (l, 0) := by
  unfold flags at *
  split at h
  case isFalse => simp at h
  case isTrue hok =>
  rw [if_pos hok]
  have hb : bitsBytes l = l.tail := by unfold bitsBytes; rw [if_pos hok]
  have hun : bitsUnused l = (l.headD 0).toNat := by unfold bitsUnused; rw [if_pos hok]
  obtain ⟨a, r, rfl, ha, hs⟩ := bits_ok hok
  rw [hb, hun] at h ⊢
  simp only [List.tail_cons, List.headD_cons] at h ⊢
  unfold flagsOf at *
  by_cases hn : 0 < count r a.toNat ∧ bit r (count r a.toNat - 1) = false
  · rw [if_pos hn] at h; simp at h
  · by_cases hn16 : 16 < count r a.toNat
    · rw [if_neg hn, if_pos hn16] at h; simp at h
    · rw [if_neg hn, if_neg hn16]
      simp only []
      have hr : r.length = (count r a.toNat + 7) / 8 := by
        unfold count
        unfold spare at hs
        cases r with
        | nil => simp
        | cons x y => simp; omega
      have hu : a.toNat = 8 * ((count r a.toNat + 7) / 8) - count r a.toNat := by
        rw [← hr]
        unfold count
        unfold spare at hs
        cases r with
        | nil => simp at hs; simp [hs]
        | cons x y => simp; omega
      have hmask := maskOf_lt r (count r a.toNat)
      have htest := maskOf_testBit r (count r a.toNat)
      have h16 : maskOf r (count r a.toNat) < 2 ^ 16 := Nat.lt_of_lt_of_le hmask (Nat.pow_le_pow_right (by omega) (by omega))
      have hw : width (maskOf r (count r a.toNat)) 16 = count r a.toNat := by
        apply width_eq _ _ _ (by omega) hmask
        by_cases h0 : count r a.toNat = 0
        · exact .inl h0
        · right
          rw [htest]
          simp only [Bool.and_eq_true, decide_eq_true_eq]
          refine ⟨by omega, ?_⟩
          cases hbit : bit r (count r a.toNat - 1) with
          | true => rfl
          | false => exact absurd ⟨by omega, hbit⟩ hn
      unfold putFlags
      rw [if_neg (by omega)]
      simp only [Int.toNat_natCast]
      rw [hw]
      congr 1
      unfold rows
      rw [← hu]
      have e0 : UInt8.ofNat a.toNat = a := by simp
      rw [e0, ← hr]
      congr 1
      apply List.ext_getElem?
      intro j
      by_cases hj : j < r.length
      · rw [List.getElem?_map, List.getElem?_range hj, List.getElem?_eq_getElem hj]
        simp only [Option.map_some]
        congr 1
        apply UInt8.toNat_inj.1
        rw [partByte_toNat]
        apply Nat.eq_of_testBit_eq
        intro i
        by_cases hi : i < 8
        · rw [part_testBit _ _ _ i hi, htest]
          have hbit : bit r (8 * j + (7 - i)) = (r[j].toNat).testBit i := by
            unfold bit
            rw [show (8 * j + (7 - i)) / 8 = j from by omega, show 7 - (8 * j + (7 - i)) % 8 = i from by omega]
            simp [List.getD, hj]
          rw [hbit]
          by_cases hc : 8 * j + (7 - i) < count r a.toNat
          · simp [hc]
          · simp only [hc, decide_false, Bool.false_and]
            symm
            have hjl : j = r.length - 1 := by unfold count at hc; omega
            unfold spare at hs
            have hl : r.getLast? = some r[j] := by
              rw [List.getLast?_eq_getElem?, ← hjl]
              exact List.getElem?_eq_getElem hj
            rw [hl] at hs
            simp only [Bool.or_eq_true, decide_eq_true_eq] at hs
            have hia : i < a.toNat := by unfold count at hc; omega
            rcases hs with hs | hs
            · omega
            · have := Nat.testBit_mod_two_pow (r[j].toNat) a.toNat i
              rw [hs] at this
              simp [hia] at this
              exact this
        · have hp : 2 ^ 8 ≤ 2 ^ i := Nat.pow_le_pow_right (by omega) (by omega)
          rw [Nat.testBit_lt_two_pow (Nat.lt_of_lt_of_le (part_lt _ _ _) hp)]
          exact (Nat.testBit_lt_two_pow (Nat.lt_of_lt_of_le r[j].toNat_lt hp)).symm
      · rw [List.getElem?_eq_none (by simp; omega), List.getElem?_eq_none (by omega)]
end Go.Proofs.Ytcpdhmhlmnodcaa.Sp
