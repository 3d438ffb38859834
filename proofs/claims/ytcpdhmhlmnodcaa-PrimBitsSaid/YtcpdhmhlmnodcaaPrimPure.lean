/-
  Plain functions on bytes and integers: what the package prim and its reference compute, and the laws among them. No program in sight.
-/
import Derived.RowKit
namespace Go.Proofs.Ytcpdhmhlmnodcaa.Sp

/-! ### integers -/
def sgn8 (b : UInt8) : Int := if b.toNat < 128 then (b.toNat : Int) else (b.toNat : Int) - 256
def be (v : Int) (l : List UInt8) : Int := l.foldl (fun v b => v * 256 + (b.toNat : Int)) v
def badInt : List UInt8 → Bool
  | [] => true
  | [_] => false
  | a :: b :: _ => (decide (a.toNat = 0) && decide (b.toNat < 128)) || (decide (a.toNat = 255) && decide (128 ≤ b.toNat))
def intVal : List UInt8 → Int
  | [] => 0
  | a :: r => be (sgn8 a) r
def integer (l : List UInt8) : Int × Int :=
  if badInt l then (0, 7) else if 8 < l.length then (0, 1) else (intVal l, 0)

theorem be_nil (v : Int) : be v [] = v := rfl
theorem be_snoc (v : Int) (l : List UInt8) (b : UInt8) : be v (l ++ [b]) = be v l * 256 + (b.toNat : Int) := by simp [be, List.foldl_append]
theorem be_cons (v : Int) (l : List UInt8) (b : UInt8) : be v (b :: l) = be (v * 256 + (b.toNat : Int)) l := rfl

theorem sgn8_range (b : UInt8) : -128 ≤ sgn8 b ∧ sgn8 b ≤ 127 := by
  unfold sgn8; have := b.toNat_lt; split <;> omega

/-- the bound: r bytes behind a first number -/
theorem be_range (l : List UInt8) : ∀ v : Int, -128 ≤ v → v ≤ 127 →
    -(128 * 256 ^ l.length) ≤ be v l ∧ be v l < 128 * 256 ^ l.length := by
  have h : ∀ (l : List UInt8) (v lo hi : Int), lo ≤ v → v < hi → lo * 256 ^ l.length ≤ be v l ∧ be v l < hi * 256 ^ l.length := by
    intro l
    induction l with
    | nil => intro v lo hi h1 h2; simp [be]; omega
    | cons b r ih =>
      intro v lo hi h1 h2
      have hb := b.toNat_lt
      have := ih (v * 256 + (b.toNat : Int)) (lo * 256) (hi * 256) (by omega) (by omega)
      rw [be_cons, List.length_cons, Int.pow_succ]
      have e1 : lo * (256 ^ r.length * 256) = lo * 256 * 256 ^ r.length := by rw [Int.mul_comm (256 ^ r.length) 256, Int.mul_assoc]
      have e2 : hi * (256 ^ r.length * 256) = hi * 256 * 256 ^ r.length := by rw [Int.mul_comm (256 ^ r.length) 256, Int.mul_assoc]
      rw [e1, e2]; exact this
  intro v h1 h2
  have := h l v (-128) 128 h1 (by omega)
  rw [Int.neg_mul] at this; exact this

theorem pow256_le {m n : Nat} (h : m ≤ n) : (256 : Int) ^ m ≤ 256 ^ n := by
  have := Int.ofNat_le.2 (Nat.pow_le_pow_right (n := 256) (by omega) h)
  rw [Int.natCast_pow, Int.natCast_pow] at this; exact this
theorem be_small (l : List UInt8) (hl : l.length ≤ 6) (v : Int) (h1 : -128 ≤ v) (h2 : v ≤ 127) :
    -36028797018963968 ≤ be v l ∧ be v l < 36028797018963968 := by
  have h := be_range l v h1 h2
  have hp : (256 : Int) ^ l.length ≤ 256 ^ 6 := by
    exact pow256_le hl
  have : (256 : Int) ^ 6 = 281474976710656 := by decide
  omega
theorem be_small7 (l : List UInt8) (hl : l.length ≤ 7) (v : Int) (h1 : -128 ≤ v) (h2 : v ≤ 127) :
    -9223372036854775808 ≤ be v l ∧ be v l ≤ 9223372036854775807 := by
  have h := be_range l v h1 h2
  have hp : (256 : Int) ^ l.length ≤ 256 ^ 7 := by
    exact pow256_le hl
  have : (256 : Int) ^ 7 = 72057594037927936 := by decide
  omega
theorem intVal_range (l : List UInt8) (hl : l.length ≤ 8) : -9223372036854775808 ≤ intVal l ∧ intVal l ≤ 9223372036854775807 := by
  match l with
  | [] => simp [intVal]
  | a :: r => exact be_small7 r (by simp at hl; omega) _ (sgn8_range a).1 (sgn8_range a).2

/-! ### the bytes of an integer -/
def byteOf (q : Int) : UInt8 := UInt8.ofNat (q % 256).toNat
theorem byteOf_toNat (q : Int) : ((byteOf q).toNat : Int) = q % 256 := by
  unfold byteOf
  rw [UInt8.toNat_ofNat']; omega
/-- the last n bytes of v, the most significant one first -/
def bytesN (v : Int) : Nat → List UInt8
  | 0 => []
  | n + 1 => byteOf (v / 256 ^ n) :: bytesN v n
theorem bytesN_length (v : Int) (n : Nat) : (bytesN v n).length = n := by induction n with
  | zero => rfl
  | succ n ih => simp [bytesN, ih]
def strip : List UInt8 → List UInt8
  | [] => []
  | [a] => [a]
  | a :: b :: r => if badInt (a :: b :: r) then strip (b :: r) else a :: b :: r
def fits (q : Int) : Prop := -128 ≤ q ∧ q ≤ 127
instance (q : Int) : Decidable (fits q) := inferInstanceAs (Decidable (_ ∧ _))
def putInteger (v : Int) : List UInt8 := strip (bytesN v 8)

theorem div_pow_succ (v : Int) (n : Nat) : v / 256 ^ (n + 1) = v / 256 ^ n / 256 := by
  rw [Int.pow_succ, Int.mul_comm, Int.mul_comm]
  exact (Int.ediv_ediv_of_nonneg (Int.pow_nonneg (by omega))).symm
theorem bad_bytes (v : Int) (n : Nat) (h : fits (v / 256 ^ (n + 1))) : badInt (bytesN v (n + 2)) = decide (fits (v / 256 ^ n)) := by
  have e := div_pow_succ v n
  have h1 := byteOf_toNat (v / 256 ^ (n + 1))
  have h2 := byteOf_toNat (v / 256 ^ n)
  simp only [bytesN, badInt]
  rw [Bool.eq_iff_iff, decide_eq_true_iff]
  unfold fits at *
  rw [e] at h h1
  generalize v / 256 ^ n = q at *
  generalize byteOf q = x at *
  rw [e]
  generalize byteOf (q / 256) = y at *
  simp only [Bool.or_eq_true, Bool.and_eq_true, decide_eq_true_eq]
  omega
theorem fits_up (v : Int) (n : Nat) (h : fits (v / 256 ^ n)) : ∀ k, fits (v / 256 ^ (n + k)) := by
  intro k
  induction k with
  | zero => exact h
  | succ k ih => rw [← Nat.add_assoc, div_pow_succ]; unfold fits at *; omega
theorem strip_step (v : Int) (n : Nat) (h : fits (v / 256 ^ n)) (k : Nat) : strip (bytesN v (n + k + 2)) = strip (bytesN v (n + k + 1)) := by
  have hb : badInt (bytesN v (n + k + 2)) = true := by rw [bad_bytes v (n + k) (fits_up v n h (k + 1))]; simp [fits_up v n h k]
  conv => lhs; unfold bytesN
  have e : bytesN v (n + k + 1) = byteOf (v / 256 ^ (n + k)) :: bytesN v (n + k) := rfl
  rw [show n + k + 2 = (n + k + 1) + 1 from rfl] at hb
  unfold bytesN at hb
  rw [e] at hb ⊢
  rw [strip, if_pos hb]
/-- n bytes are enough and fewer are not: these are what stays. -/
theorem strip_bytes (v : Int) (n : Nat) (h : fits (v / 256 ^ n)) (hn : n = 0 ∨ ∃ m, n = m + 1 ∧ ¬ fits (v / 256 ^ m)) :
    ∀ k, strip (bytesN v (n + k + 1)) = bytesN v (n + 1) := by
  intro k
  induction k with
  | zero =>
    rcases hn with rfl | ⟨m, rfl, hm⟩
    · rfl
    · have hb : badInt (bytesN v (m + 2)) = false := by rw [bad_bytes v m h]; simp [hm]
      have e : bytesN v (m + 2) = byteOf (v / 256 ^ (m + 1)) :: byteOf (v / 256 ^ m) :: bytesN v m := rfl
      rw [show m + 1 + 0 + 1 = m + 2 from rfl]
      rw [e] at hb ⊢
      rw [strip, if_neg (by rw [hb]; simp)]
  | succ k ih => rw [← ih]; exact strip_step v n h k
theorem putInteger_eq (v : Int) (n : Nat) (h8 : n ≤ 7) (h : fits (v / 256 ^ n)) (hn : n = 0 ∨ ∃ m, n = m + 1 ∧ ¬ fits (v / 256 ^ m)) : putInteger v = bytesN v (n + 1) := by
  have := strip_bytes v n h hn (7 - n)
  unfold putInteger
  rw [show 8 = n + (7 - n) + 1 from by omega]; exact this
theorem fits7 (v : Int) (h1 : -9223372036854775808 ≤ v) (h2 : v ≤ 9223372036854775807) : fits (v / 256 ^ 7) := by
  have : (256 : Int) ^ 7 = 72057594037927936 := by decide
  rw [this]; unfold fits; omega
/-- there is such an n -/
theorem fits_least (v : Int) (n : Nat) (h : fits (v / 256 ^ n)) : ∃ k, k ≤ n ∧ fits (v / 256 ^ k) ∧ (k = 0 ∨ ∃ m, k = m + 1 ∧ ¬ fits (v / 256 ^ m)) := by
  induction n with
  | zero => exact ⟨0, Nat.le_refl _, h, Or.inl rfl⟩
  | succ n ih =>
    by_cases hf : fits (v / 256 ^ n)
    · obtain ⟨k, h1, h2⟩ := ih hf; exact ⟨k, by omega, h2⟩
    · exact ⟨n + 1, Nat.le_refl _, h, Or.inr ⟨n, rfl, hf⟩⟩

theorem be_bytes (v : Int) (n : Nat) : be (v / 256 ^ n) (bytesN v n) = v := by
  induction n with
  | zero => simp [bytesN, be]
  | succ n ih =>
    simp only [bytesN, be_cons]
    rw [byteOf_toNat, div_pow_succ]
    have : v / 256 ^ n / 256 * 256 + v / 256 ^ n % 256 = v / 256 ^ n := by omega
    rw [this]; exact ih
theorem sgn_byte (q : Int) (h : fits q) : sgn8 (byteOf q) = q := by
  have := byteOf_toNat q
  unfold sgn8; unfold fits at h
  split <;> omega
theorem integer_bytes (v : Int) (n : Nat) (h8 : n ≤ 7) (h : fits (v / 256 ^ n)) (hn : n = 0 ∨ ∃ m, n = m + 1 ∧ ¬ fits (v / 256 ^ m)) : integer (bytesN v (n + 1)) = (v, 0) := by
  have hb : badInt (bytesN v (n + 1)) = false := by
    rcases hn with rfl | ⟨m, rfl, hm⟩
    · rfl
    · rw [bad_bytes v m h]; simp [hm]
  unfold integer
  rw [if_neg (by rw [hb]; simp), if_neg (by rw [bytesN_length]; omega)]
  simp only [bytesN, intVal]
  rw [sgn_byte _ h, be_bytes]
/-- Integer inverts PutInteger. -/
theorem integer_put (v : Int) (h1 : -9223372036854775808 ≤ v) (h2 : v ≤ 9223372036854775807) : integer (putInteger v) = (v, 0) := by
  obtain ⟨n, hn, hf, hm⟩ := fits_least v 7 (fits7 v h1 h2)
  rw [putInteger_eq v n hn hf hm]; exact integer_bytes v n hn hf hm

theorem ofNat_byte (b : UInt8) (q : Int) (h : (b.toNat : Int) = q % 256) : byteOf q = b := by
  apply UInt8.toNat_inj.1
  have := byteOf_toNat q; omega
theorem bytes_be (l : List UInt8) : ∀ v : Int, bytesN (be v l) l.length = l ∧ be v l / 256 ^ l.length = v := by
  induction l with
  | nil => intro v; simp [bytesN, be]
  | cons b r ih =>
    intro v
    obtain ⟨h1, h2⟩ := ih (v * 256 + (b.toNat : Int))
    have hb := b.toNat_lt
    rw [be_cons, List.length_cons]
    refine ⟨?_, ?_⟩
    · simp only [bytesN]
      rw [h1, h2, ofNat_byte b _ (by omega)]
    · rw [div_pow_succ, h2]; omega
theorem put_integer (l : List UInt8) (hb : badInt l = false) (h8 : l.length ≤ 8) : putInteger (intVal l) = l := by
  match l, hb with
  | [a], _ =>
    have hr := sgn8_range a
    have e : intVal [a] = sgn8 a := rfl
    have := putInteger_eq (sgn8 a) 0 (by omega) (by unfold fits; simp; omega) (Or.inl rfl)
    rw [e, this]
    simp only [bytesN]
    rw [ofNat_byte a _ (by unfold sgn8; have := a.toNat_lt; split <;> simp <;> omega)]
  | a :: b :: r, hb =>
    have hr := sgn8_range a
    have h := bytes_be (b :: r) (sgn8 a)
    have h' := bytes_be r (sgn8 a * 256 + (b.toNat : Int))
    have hlb := b.toNat_lt
    have hla := a.toNat_lt
    have e : intVal (a :: b :: r) = be (sgn8 a) (b :: r) := rfl
    rw [e]
    rw [be_cons] at h ⊢
    rw [List.length_cons] at h h8
    rw [List.length_cons] at h8
    have hput := putInteger_eq (be (sgn8 a * 256 + (b.toNat : Int)) r) (r.length + 1) (by omega) (by rw [h.2]; unfold fits; omega) (Or.inr ⟨r.length, rfl, by
      rw [h'.2]; unfold fits
      simp [badInt] at hb
      unfold sgn8; split <;> omega⟩)
    rw [hput]
    simp only [bytesN]
    rw [h.2, h'.1, h'.2]
    rw [ofNat_byte a (sgn8 a) (by unfold sgn8; split <;> omega), ofNat_byte b (sgn8 a * 256 + (b.toNat : Int)) (by omega)]
end Go.Proofs.Ytcpdhmhlmnodcaa.Sp
