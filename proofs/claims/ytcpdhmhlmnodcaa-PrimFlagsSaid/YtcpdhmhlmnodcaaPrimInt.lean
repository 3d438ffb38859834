/-
  The walks of prim.Integer and of its reference.
-/
import Derived.Test.YtcpdhmhlmnodcaaPrimPure
import Derived.Test.YtcpdhmhlmnodcaaKit
import Derived.Outline
import Derived.BigGuardPart
namespace Go.Proofs.Ytcpdhmhlmnodcaa
open Go.RowKit

/-- what the head's test says -/
theorem bad_of (s : ByteArray) (h : 1 < s.size) : Sp.badInt s.data.toList = ((decide (s[0].toNat = 0) && decide (s[1].toNat < 128)) || (decide (s[0].toNat = 255) && decide (128 ≤ s[1].toNat))) := by
  obtain ⟨r, hr⟩ := data_two s h
  rw [hr]; rfl
theorem good_one (s : ByteArray) (h : s.size = 1) : Sp.badInt s.data.toList = false := by
  obtain ⟨⟨l⟩⟩ := s
  match l, h with
  | [a], _ => rfl
theorem int_bad (s : ByteArray) (h : Sp.badInt s.data.toList = true) : (0, 7) = Sp.integer s.data.toList := by
  unfold Sp.integer; rw [if_pos h]
theorem int_long (s : ByteArray) (h : Sp.badInt s.data.toList = false) (h8 : 8 < s.size) : (0, 1) = Sp.integer s.data.toList := by
  unfold Sp.integer; rw [if_neg (by rw [h]; simp), if_pos (by rw [size_list]; exact h8)]
theorem int_good (s : ByteArray) (h : Sp.badInt s.data.toList = false) (h8 : s.size ≤ 8) : Sp.integer s.data.toList = (Sp.intVal s.data.toList, 0) := by
  unfold Sp.integer; rw [if_neg (by rw [h]; simp), if_neg (by rw [size_list]; omega)]

theorem or_byte (x b : Int) (hx : -36028797018963968 ≤ x ∧ x < 36028797018963968) (hb : 0 ≤ b ∧ b < 256) : bits .or .i64 (x * 256) b = x * 256 + b := by
  have h1 : (BitVec.ofInt 64 (x * 256)).toNat = ((x * 256) % 18446744073709551616).toNat := by simp [BitVec.toNat_ofInt]
  have h2 : (BitVec.ofInt 64 b).toNat = b.toNat := by
    rw [BitVec.toNat_ofInt]; omega
  unfold bits
  show IntKind.i64.wrap (((BitVec.ofInt 64 (x * 256)) ||| (BitVec.ofInt 64 b)).toNat : Int) = _
  rw [BitVec.toNat_or, h1, h2, nat_join 8 _ _ (by omega) (by omega)]
  rw [IntKind.wrap_i64]; omega

theorem sgn_conv (b : UInt8) : wrap64 (IntKind.i8.wrap (b.toNat : Int)) = Sp.sgn8 b := by
  have := b.toNat_lt
  unfold Sp.sgn8 wrap64
  simp only [IntKind.wrap, IntKind.bits, IntKind.signed]
  simp
  split <;> split <;> omega
/-- what the loop gathers -/
structure IntLoop (s : ByteArray) (F : Nat → Int) : Prop where
  start : ∀ h : 0 < s.size, F 0 = Sp.sgn8 s[0]
  step : ∀ k (h : k + 1 < s.size), F (k + 1) = F k * 256 + (s[k + 1].toNat : Int)
  small : ∀ k, k ≤ 6 → -36028797018963968 ≤ F k ∧ F k < 36028797018963968
  stop : 0 < s.size → F (s.size - 1) = Sp.intVal s.data.toList
theorem intLoop (s : ByteArray) : ∃ F, IntLoop s F := by
  by_cases h0 : 0 < s.size
  · obtain ⟨r, hr⟩ := data_one s h0
    have hlen := size_list s
    rw [hr, List.length_cons] at hlen
    refine ⟨fun k => Sp.be (Sp.sgn8 s[0]) (r.take k), fun _ => rfl, ?_, ?_, ?_⟩
    · intro k hk
      have hg := data_get? s (k + 1) hk
      rw [hr, List.getElem?_cons_succ] at hg
      show Sp.be _ (List.take (k + 1) r) = Sp.be _ (List.take k r) * 256 + _
      rw [List.take_add_one, hg]
      simp [Sp.be_snoc]
    · intro k hk
      have := Sp.sgn8_range s[0]
      exact Sp.be_small _ (by simp; omega) _ this.1 this.2
    · intro _
      rw [hr]
      simp only [Sp.intVal]
      rw [List.take_of_length_le (by omega)]
  · exact ⟨fun _ => 0, fun h => absurd h h0, fun k h => absurd h (by omega), fun k hk => by simp, fun h => absurd h h0⟩
set_option maxRecDepth 100000 in
set_option maxHeartbeats 400000 in
theorem integer_good (s : ByteArray) (w : World) (h0 : 0 < s.size) (h8 : s.size ≤ 8)
    (c : s.size ≤ 1 ∨ ∃ h : 1 < s.size, ((s[0].toNat : Int) ≤ 0 ∧ (128 : Int) ≤ s[1].toNat) ∨ ((255 : Int) ≤ s[0].toNat ∧ (s[1].toNat : Int) < 128) ∨ ((0 : Int) < s[0].toNat ∧ (s[0].toNat : Int) < 255)) :
    Calls Try.prog 10 #[.string s] w fun e w' => e = .returned (.tuple #[.int .i64 (Sp.intVal s.data.toList), .int .i64 0]) ∧ w = w' := by
  have e0 := empty_false h0
  obtain ⟨F, HF⟩ := intLoop s
  have hF := HF.start h0
  have H0 : Hid (Sp.sgn8 s[0] = F 0) := hF.symm
  have H1 := Lib.hid (HF.stop h0)
  have hb0 := s[0].toNat_lt
  clear hF
  rcases c with c | ⟨h1, ⟨c, c'⟩ | ⟨c, c'⟩ | ⟨c, c'⟩⟩
  case' inr.inl => have d1 : ((s[0].toNat : Int) == 0) = true := beq_t (by omega)
  case' inr.inl => have d2 : ((s[0].toNat : Int) == 255) = false := beq_f (by omega)
  case' inr.inr.inl => have d1 : ((s[0].toNat : Int) == 0) = false := beq_f (by omega)
  case' inr.inr.inl => have d2 : ((s[0].toNat : Int) == 255) = true := beq_t (by omega)
  case' inr.inr.inr => have d1 : ((s[0].toNat : Int) == 0) = false := beq_f (by omega)
  case' inr.inr.inr => have d2 : ((s[0].toNat : Int) == 255) = false := beq_f (by omega)
  all_goals
    go_enter Try.func10, Try.ntmps10
    go_wp2_with fail
    go_loop [4, 43] (fun v i => ∃ k : Nat, k ≤ s.size - 1 ∧ i = .int .i64 k ∧ v = .int .i64 (F k)) (fun _ i => s.size - (intOf i).toNat)
    case atStart => exact ⟨0, by omega, rfl, val_int (by rw [← H0.out]; first | exact sgn_conv _ | (unfold Sp.sgn8; split <;> omega))⟩
    case round => 
      obtain ⟨k, hk, rfl, rfl⟩ := hrel
      have hsm := HF.small k
      by_cases hlt : k + 1 < s.size
      · have hbk := s[k + 1].toNat_lt
        have hsm := HF.small k (by omega)
        go_wp2
        all_goals
          go_round
          case rel => exact ⟨k + 1, by omega, by go_num, val_int (by rw [HF.step k hlt]; exact or_byte _ _ hsm (by omega))⟩
          case measure => simp [intOf]; omega
      · go_wp2
        go_ret2
        obtain rfl : k = s.size - 1 := by omega
        exact ⟨ret_ints (by rw [H1.out]), rfl⟩

set_option maxRecDepth 100000 in
set_option maxHeartbeats 400000 in
theorem integer_bad (s : ByteArray) (w : World) (h : s.size ≤ maxLen)
    (c : s.size ≤ 0 ∨ ∃ h : 1 < s.size, ((s[0].toNat : Int) ≤ 0 ∧ (s[1].toNat : Int) < 128) ∨ ((255 : Int) ≤ s[0].toNat ∧ (128 : Int) ≤ s[1].toNat)) :
    Calls Try.prog 10 #[.string s] w fun e w' => e = .returned (.tuple #[.int .i64 0, .int .i64 7]) ∧ w = w' := by
  unfold maxLen at h
  rcases c with c | ⟨h1, ⟨c, c'⟩ | ⟨c, c'⟩⟩
  · have e0 := empty_true (s := s) (by omega)
    go_enter Try.func10, Try.ntmps10
    go_wp2_with fail
    go_ret2
    exact ⟨rfl, rfl⟩
  · have e0 := empty_false (s := s) (by omega)
    have d1 : ((s[0].toNat : Int) == 0) = true := beq_t (by omega)
    go_enter Try.func10, Try.ntmps10
    go_wp2_with fail
    go_ret2
    exact ⟨rfl, rfl⟩
  · have e0 := empty_false (s := s) (by omega)
    have hb0 := s[0].toNat_lt
    have d1 : ((s[0].toNat : Int) == 0) = false := beq_f (by omega)
    have d2 : ((s[0].toNat : Int) == 255) = true := beq_t (by omega)
    go_enter Try.func10, Try.ntmps10
    go_wp2_with fail
    go_ret2
    exact ⟨rfl, rfl⟩

/-- the three ways of an integer's contents -/
def NotBad (s : ByteArray) : Prop := s.size ≤ 1 ∨ ∃ h : 1 < s.size, ((s[0].toNat : Int) ≤ 0 ∧ (128 : Int) ≤ s[1].toNat) ∨ ((255 : Int) ≤ s[0].toNat ∧ (s[1].toNat : Int) < 128) ∨ ((0 : Int) < s[0].toNat ∧ (s[0].toNat : Int) < 255)
def IsBad (s : ByteArray) : Prop := s.size ≤ 0 ∨ ∃ h : 1 < s.size, ((s[0].toNat : Int) ≤ 0 ∧ (s[1].toNat : Int) < 128) ∨ ((255 : Int) ≤ s[0].toNat ∧ (128 : Int) ≤ s[1].toNat)
theorem int_ways (s : ByteArray) : (IsBad s ∧ Sp.integer s.data.toList = (0, 7)) ∨ (0 < s.size ∧ NotBad s ∧ 8 < s.size ∧ Sp.integer s.data.toList = (0, 1)) ∨
    (0 < s.size ∧ NotBad s ∧ s.size ≤ 8 ∧ Sp.integer s.data.toList = (Sp.intVal s.data.toList, 0)) := by
  have key : (IsBad s ∧ Sp.badInt s.data.toList = true) ∨ (0 < s.size ∧ NotBad s ∧ Sp.badInt s.data.toList = false) := by
    by_cases h0 : s.size = 0
    · exact .inl ⟨.inl (by omega), by rw [data_nil h0]; rfl⟩
    · by_cases h1 : s.size = 1
      · exact .inr ⟨by omega, .inl (by omega), good_one s h1⟩
      · have h2 : 1 < s.size := by omega
        have e := bad_of s h2
        have hb0 := s[0].toNat_lt
        by_cases hb : ((s[0].toNat : Int) ≤ 0 ∧ (s[1].toNat : Int) < 128) ∨ ((255 : Int) ≤ s[0].toNat ∧ (128 : Int) ≤ s[1].toNat)
        · refine .inl ⟨.inr ⟨h2, hb⟩, ?_⟩
          rw [e]; simp only [Bool.or_eq_true, Bool.and_eq_true, decide_eq_true_eq]; omega
        · refine .inr ⟨by omega, .inr ⟨h2, by omega⟩, ?_⟩
          rw [e]; simp only [Bool.or_eq_false_iff, Bool.and_eq_false_iff, decide_eq_false_iff_not]; omega
  rcases key with ⟨h, hb⟩ | ⟨h0, h, hb⟩
  · exact .inl ⟨h, (int_bad s hb).symm⟩
  · by_cases h8 : 8 < s.size
    · exact .inr (.inl ⟨h0, h, h8, (int_long s hb h8).symm⟩)
    · exact .inr (.inr ⟨h0, h, by omega, int_good s hb (by omega)⟩)

set_option maxRecDepth 100000 in
set_option maxHeartbeats 400000 in
theorem integer_long (s : ByteArray) (w : World) (h : s.size ≤ maxLen) (h0 : 0 < s.size) (c : NotBad s) (h8 : 8 < s.size) :
    Calls Try.prog 10 #[.string s] w fun e w' => e = .returned (.tuple #[.int .i64 0, .int .i64 1]) ∧ w = w' := by
  unfold maxLen at h
  have e0 := empty_false h0
  have hb0 := s[0].toNat_lt
  unfold NotBad at c
  rcases c with c | ⟨h1, ⟨c, c'⟩ | ⟨c, c'⟩ | ⟨c, c'⟩⟩
  case' inr.inl => have d1 : ((s[0].toNat : Int) == 0) = true := beq_t (by omega)
  case' inr.inl => have d2 : ((s[0].toNat : Int) == 255) = false := beq_f (by omega)
  case' inr.inr.inl => have d1 : ((s[0].toNat : Int) == 0) = false := beq_f (by omega)
  case' inr.inr.inl => have d2 : ((s[0].toNat : Int) == 255) = true := beq_t (by omega)
  case' inr.inr.inr => have d1 : ((s[0].toNat : Int) == 0) = false := beq_f (by omega)
  case' inr.inr.inr => have d2 : ((s[0].toNat : Int) == 255) = false := beq_f (by omega)
  case inl => omega
  all_goals
    go_enter Try.func10, Try.ntmps10
    go_wp2_with fail
    go_ret2
    exact ⟨rfl, rfl⟩

/-- prim.Integer computes 'Sp.integer'. -/
theorem integer_any (s : ByteArray) (w : World) (h : s.size ≤ maxLen) :
    Calls Try.prog 10 #[.string s] w fun e w' => e = .returned (.tuple #[.int .i64 (Sp.integer s.data.toList).1, .int .i64 (Sp.integer s.data.toList).2]) ∧ w = w' := by
  rcases int_ways s with ⟨c, e⟩ | ⟨h0, c, h8, e⟩ | ⟨h0, c, h8, e⟩
  · rw [e]; exact integer_bad s w h c
  · rw [e]; exact integer_long s w h h0 c h8
  · rw [e]; exact integer_good s w h0 h8 c

/-! ### the reference's Integer -/
structure RefLoop (s : ByteArray) (G : Nat → Int) : Prop where
  low : ∀ h : 0 < s.size, s[0].toNat < 128 → G 0 = 0
  high : ∀ h : 0 < s.size, 128 ≤ s[0].toNat → G 0 = 18446744073709551615
  step : ∀ k (h : k < s.size), G (k + 1) = (G k * 256) % 18446744073709551616 + (s[k].toNat : Int)
  range : ∀ k, 0 ≤ G k ∧ G k < 18446744073709551616
  stop : 0 < s.size → s.size ≤ 8 → wrap64 (G s.size) = Sp.intVal s.data.toList
theorem refLoop (s : ByteArray) : ∃ G, RefLoop s G := by
  by_cases h0 : 0 < s.size
  · obtain ⟨r, hr⟩ := data_one s h0
    have hlen := size_list s
    refine ⟨fun k => Sp.be (if s[0].toNat < 128 then 0 else -1) (s.data.toList.take k) % 18446744073709551616, ?_, ?_, ?_, ?_, ?_⟩
    · intro _ h; simp [h, Sp.be]
    · intro _ h; rw [if_neg (by omega)]; simp [Sp.be]
    · intro k hk
      have hb := s[k].toNat_lt
      show Sp.be _ (List.take (k + 1) s.data.toList) % _ = (Sp.be _ (List.take k s.data.toList) % _ * 256) % _ + _
      rw [List.take_add_one, data_get? s k hk]
      simp only [Option.toList_some, Sp.be_snoc]
      omega
    · intro k
      show 0 ≤ _ % _ ∧ _ % _ < _
      omega
    · intro _ h8
      have hb0 := s[0].toNat_lt
      show wrap64 (Sp.be _ (List.take s.size s.data.toList) % _) = _
      rw [List.take_of_length_le (by omega)]
      have hr8 := Sp.intVal_range s.data.toList (by omega)
      have e : Sp.be (if s[0].toNat < 128 then 0 else -1) s.data.toList = Sp.intVal s.data.toList := by
        rw [hr, Sp.be_cons]
        have : (if s[0].toNat < 128 then (0 : Int) else -1) * (256 : Int) + (s[0].toNat : Int) = Sp.sgn8 s[0] := by
          unfold Sp.sgn8; split <;> omega
        rw [this]; rfl
      rw [e]; unfold wrap64; omega
  · exact ⟨fun _ => 0, fun h => absurd h h0, fun h => absurd h h0, fun k h => absurd h (by omega), fun k => by simp, fun h => absurd h h0⟩

theorem or_byte_u (x b : Int) (hb : 0 ≤ b ∧ b < 256) : bits .or .u64 (IntKind.u64.wrap (x * 256)) b = x * 256 % 18446744073709551616 + b := by
  rw [IntKind.wrap_u64]
  rw [u64_or _ _ (by omega) (by omega) (by omega) (by omega)]
  rw [nat_join 8 _ _ (by omega) (by omega)]
  omega

set_option maxRecDepth 100000 in
set_option maxHeartbeats 400000 in
theorem ref_integer_good (s : ByteArray) (w : World) (h0 : 0 < s.size) (h8 : s.size ≤ 8) (c : NotBad s) :
    Calls Try.prog 11 #[.string s] w fun e w' => e = .returned (.tuple #[.int .i64 (Sp.intVal s.data.toList), .int .i64 0]) ∧ w = w' := by
  have e0 : ((s.size : Int) == 0) = false := beq_f (by omega)
  obtain ⟨G, HG⟩ := refLoop s
  have H1 := Lib.hid (HG.stop h0 h8)
  have hb0 := s[0].toNat_lt
  have hlo := Lib.hid (HG.low h0)
  have hhi := Lib.hid (HG.high h0)
  unfold NotBad at c
  rcases c with c | ⟨h1, ⟨c, c'⟩ | ⟨c, c'⟩ | ⟨c, c'⟩⟩
  case' inr.inl => have d1 : ((s[0].toNat : Int) == 0) = true := beq_t (by omega)
  case' inr.inl => have d2 : ((s[0].toNat : Int) == 255) = false := beq_f (by omega)
  case' inr.inr.inl => have d1 : ((s[0].toNat : Int) == 0) = false := beq_f (by omega)
  case' inr.inr.inl => have d2 : ((s[0].toNat : Int) == 255) = true := beq_t (by omega)
  case' inr.inr.inr => have d1 : ((s[0].toNat : Int) == 0) = false := beq_f (by omega)
  case' inr.inr.inr => have d2 : ((s[0].toNat : Int) == 255) = false := beq_f (by omega)
  all_goals
    go_enter Try.func11, Try.ntmps11
    go_wp2_with fail
    all_goals try (exfalso; omega)
    all_goals
      go_loop [4, 5] (fun v i => ∃ k : Nat, k ≤ s.size ∧ i = .int .i64 k ∧ v = .int .u64 (G k)) (fun _ i => s.size - (intOf i).toNat)
      case atStart => exact ⟨0, by omega, rfl, val_int (by first | exact (hlo.out (by omega)).symm | exact (hhi.out (by omega)).symm)⟩
      case round => 
        obtain ⟨k, hk, rfl, rfl⟩ := hrel
        by_cases hlt : k < s.size
        · have hbk := s[k].toNat_lt
          have hsm := HG.range k
          go_wp2
          all_goals
            go_round
            case rel => exact ⟨k + 1, by omega, by go_num, val_int (by rw [HG.step k hlt]; exact or_byte_u _ _ (by omega))⟩
            case measure => simp [intOf]; omega
        · go_wp2
          go_ret2
          obtain rfl : k = s.size := by omega
          exact ⟨ret_ints (by rw [H1.out]), rfl⟩

set_option maxRecDepth 100000 in
set_option maxHeartbeats 400000 in
theorem ref_integer_long (s : ByteArray) (w : World) (h : s.size ≤ maxLen) (h0 : 0 < s.size) (c : NotBad s) (h8 : 8 < s.size) :
    Calls Try.prog 11 #[.string s] w fun e w' => e = .returned (.tuple #[.int .i64 0, .int .i64 1]) ∧ w = w' := by
  unfold maxLen at h
  have e0 : ((s.size : Int) == 0) = false := beq_f (by omega)
  have hb0 := s[0].toNat_lt
  unfold NotBad at c
  rcases c with c | ⟨h1, ⟨c, c'⟩ | ⟨c, c'⟩ | ⟨c, c'⟩⟩
  case' inr.inl => have d1 : ((s[0].toNat : Int) == 0) = true := beq_t (by omega)
  case' inr.inl => have d2 : ((s[0].toNat : Int) == 255) = false := beq_f (by omega)
  case' inr.inr.inl => have d1 : ((s[0].toNat : Int) == 0) = false := beq_f (by omega)
  case' inr.inr.inl => have d2 : ((s[0].toNat : Int) == 255) = true := beq_t (by omega)
  case' inr.inr.inr => have d1 : ((s[0].toNat : Int) == 0) = false := beq_f (by omega)
  case' inr.inr.inr => have d2 : ((s[0].toNat : Int) == 255) = false := beq_f (by omega)
  case inl => omega
  all_goals
    go_enter Try.func11, Try.ntmps11
    go_wp2_with fail
    all_goals try (exfalso; omega)
    go_ret2
    exact ⟨rfl, rfl⟩
set_option maxRecDepth 100000 in
set_option maxHeartbeats 400000 in
theorem ref_integer_bad (s : ByteArray) (w : World) (h : s.size ≤ maxLen) (c : IsBad s) :
    Calls Try.prog 11 #[.string s] w fun e w' => e = .returned (.tuple #[.int .i64 0, .int .i64 7]) ∧ w = w' := by
  unfold maxLen at h
  unfold IsBad at c
  rcases c with c | ⟨h1, ⟨c, c'⟩ | ⟨c, c'⟩⟩
  · have e0 : ((s.size : Int) == 0) = true := beq_t (by omega)
    go_enter Try.func11, Try.ntmps11
    go_wp2_with fail
    go_ret2
    exact ⟨rfl, rfl⟩
  · have e0 : ((s.size : Int) == 0) = false := beq_f (by omega)
    have d1 : ((s[0].toNat : Int) == 0) = true := beq_t (by omega)
    go_enter Try.func11, Try.ntmps11
    go_wp2_with fail
    go_ret2
    exact ⟨rfl, rfl⟩
  · have e0 : ((s.size : Int) == 0) = false := beq_f (by omega)
    have hb0 := s[0].toNat_lt
    have d1 : ((s[0].toNat : Int) == 0) = false := beq_f (by omega)
    have d2 : ((s[0].toNat : Int) == 255) = true := beq_t (by omega)
    go_enter Try.func11, Try.ntmps11
    go_wp2_with fail
    go_ret2
    exact ⟨rfl, rfl⟩

/-- the reference's Integer computes 'Sp.integer'. -/
theorem ref_integer_any (s : ByteArray) (w : World) (h : s.size ≤ maxLen) :
    Calls Try.prog 11 #[.string s] w fun e w' => e = .returned (.tuple #[.int .i64 (Sp.integer s.data.toList).1, .int .i64 (Sp.integer s.data.toList).2]) ∧ w = w' := by
  rcases int_ways s with ⟨c, e⟩ | ⟨h0, c, h8, e⟩ | ⟨h0, c, h8, e⟩
  · rw [e]; exact ref_integer_bad s w h c
  · rw [e]; exact ref_integer_long s w h h0 c h8
  · rw [e]; exact ref_integer_good s w h0 h8 c
end Go.Proofs.Ytcpdhmhlmnodcaa
