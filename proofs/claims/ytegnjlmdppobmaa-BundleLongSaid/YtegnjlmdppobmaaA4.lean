/-
  BundleLong: whatever the input, the law returns true, and each argument reads as it read before. Conditions: none. (part 4 of 4.)
-/
import Derived.Test.YtegnjlmdppobmaaA3
import Derived.KernelRfl
import Derived.Below
import Derived.Test.YtegnjlmdppobmaaRows
import Derived.ProofKit
import Derived.OpenShut
import Derived.ShutString
import Derived.ChangeOld
set_option linter.unusedVariables false
set_option linter.unusedSimpArgs false
/-
  Bundles: what the reference's encoding computes, and that it is the same. No program in sight.
-/
namespace Go.Proofs.Ytegnjlmdppobmaa.Pl
open Go Vm

def pairO (q : Bs × Bs) : Option Bs := (someO 160 q.1).bind fun f => (someO 161 q.2).bind fun r => wrapO 48 (f ++ r)
def stepO (o : Option Bs) (q : Bs × Bs) : Option Bs := o.bind fun a => (pairO q).map fun e => a ++ e
def refPairs (l : List (Bs × Bs)) : Option Bs := l.foldl stepO (some [])
def endR (o : Option Bs) : Bs × Int := match o with
  | some r => (r, 0)
  | none => ([], 2)
def encR (b : Bundle) : Bs × Int := if bundleE b ≠ 0 then ([], bundleE b) else
  endR ((refPairs b.2.2).bind fun z => (someO 160 b.1.flatten).bind fun x => (someO 161 b.2.1.flatten).bind fun y => (someO 162 z).bind fun w => wrapO 48 ((x ++ y) ++ w))
theorem foldl_none : ∀ l : List (Bs × Bs), l.foldl stepO none = none
  | [] => rfl
  | _ :: r => foldl_none r
theorem pairW_some {q : Bs × Bs} {e : Bs} (h : pairO q = some e) : pairW false q = (e, false) := by
  unfold pairO at h
  unfold pairW someW
  cases h1 : someO 160 q.1 with
  | none => rw [h1] at h; cases h
  | some f =>
    rw [h1] at h
    cases h2 : someO 161 q.2 with
    | none => rw [h2] at h; cases h
    | some r =>
      rw [h2] at h
      have h' : wrapO 48 (f ++ r) = some e := h
      simp [h']
theorem pairW_none {q : Bs × Bs} (h : pairO q = none) : (pairW false q).2 = true := by
  unfold pairO at h
  unfold pairW someW
  cases h1 : someO 160 q.1 with
  | none => simp
  | some f =>
    rw [h1] at h
    cases h2 : someO 161 q.2 with
    | none => simp
    | some r =>
      rw [h2] at h
      have h' : wrapO 48 (f ++ r) = none := h
      simp [h']
theorem pairW_true (q : Bs × Bs) : (pairW true q).2 = true := by simp [pairW, someW]
theorem pairsW_true : ∀ (l : List (Bs × Bs)) (a : List Bs), (pairsW l (true, a)).1 = true := by
  intro l
  induction l with
  | nil => intro a; rfl
  | cons q r ih =>
    intro a
    show (pairsW r ((pairW true q).2, _)).1 = true
    rw [pairW_true]; exact ih _
theorem pairsW_ref : ∀ (l : List (Bs × Bs)) (a : List Bs), match l.foldl stepO (some a.flatten) with
    | some z => (pairsW l (false, a)).1 = false ∧ (pairsW l (false, a)).2.flatten = z
    | none => (pairsW l (false, a)).1 = true := by
  intro l
  induction l with
  | nil => intro a; exact ⟨rfl, rfl⟩
  | cons q r ih =>
    intro a
    show match r.foldl stepO (stepO (some a.flatten) q) with
      | some z => (pairsW r ((pairW false q).2, a ++ [(pairW false q).1])).1 = false ∧ (pairsW r ((pairW false q).2, a ++ [(pairW false q).1])).2.flatten = z
      | none => (pairsW r ((pairW false q).2, a ++ [(pairW false q).1])).1 = true
    cases hq : pairO q with
    | none =>
      have : stepO (some a.flatten) q = none := by simp [stepO, hq]
      rw [this, foldl_none, pairW_none hq]
      exact pairsW_true _ _
    | some e =>
      have : stepO (some a.flatten) q = some (a ++ [e]).flatten := by simp [stepO, hq]
      rw [this, pairW_some hq]
      exact ih _
theorem enc_same (b : Bundle) : encR b = encP b := by
  obtain ⟨c, l, p⟩ := b
  unfold encR encP
  by_cases hE : bundleE (c, l, p) = 0
  · rw [if_neg (by simp [hE]), if_neg (by simp [hE])]
    have := pairsW_ref p []
    unfold encW refPairs
    dsimp only
    rw [List.flatten_nil] at this
    cases hz : p.foldl stepO (some []) with
    | none =>
      rw [hz] at this
      dsimp only at this
      simp [this, someW, endR]
    | some z =>
      rw [hz] at this
      dsimp only at this
      obtain ⟨h1, h2⟩ := this
      simp only [h1, h2, someW, Option.bind_some]
      cases someO 160 c.flatten with
      | none => simp [endR]
      | some x =>
        cases someO 161 l.flatten with
        | none => simp [endR]
        | some y =>
          cases someO 162 z with
          | none => simp [endR]
          | some w =>
            simp only [Option.bind_some, Option.getD_some, ← List.append_assoc]
            cases wrapO 48 (x ++ y ++ w) <;> simp [endR]
  · rw [if_pos hE, if_pos hE]

/-! ### the reference's walk -/
theorem flatten_le {m : Nat} : ∀ {l : List Bs}, (∀ s ∈ l, s.length ≤ m) → l.flatten.length ≤ l.length * m := by
  intro l
  induction l with
  | nil => intro _; simp
  | cons a r ih =>
    intro h
    have h1 := h a List.mem_cons_self
    have h2 := ih (fun s hs => h s (List.mem_cons_of_mem _ hs))
    rw [List.flatten_cons, List.length_append, List.length_cons, Nat.succ_mul]
    omega
theorem flatten_take {l : List Bs} {i : Nat} (h : i < l.length) : (l.take i).flatten ++ l.getD i [] = (l.take (i + 1)).flatten := by
  rw [take_snoc h, List.flatten_append, show l.getD i [] = l[i] by simp [List.getD_eq_getElem?_getD, h]]
  simp
theorem flatten_take_le (l : List Bs) (i : Nat) : (l.take i).flatten.length ≤ l.flatten.length := by
  conv => rhs; rw [← List.take_append_drop i l, List.flatten_append, List.length_append]
  omega
theorem pairO_len {q : Bs × Bs} {e : Bs} (h : pairO q = some e) : e.length ≤ 131077 := by
  have := pairW_some h
  have h2 := pairW_len false q
  rw [this] at h2; exact h2
theorem last_round (N n t : Nat) (all x : Bs) (ht : t < 256) (h31 : t % 32 ≠ 31) (hN : 1 < N) (hx : x.length ≤ 70368744177664) (ha : all.length ≤ 1099511627776) (K : Bs → Option (Bs × Int)) :
    (callO (ref14_someOf N (t : Int) x) fun r101 => bif (r101.2 != (0 : Int)) then (some (([] : Bs), r101.2)) else (Vm.chk (decide (all.length + r101.1.length ≤ 140737488355328)) <| K (all ++ r101.1))) = match someO t x with
      | some w => K (all ++ w)
      | none => some ([], 2) := by
  rw [someOf_eq N t x ht h31 hN (by omega), callO_s]
  cases h : someO t x with
  | none => rfl
  | some w =>
    have := someO_len (t := t) (c := x)
    rw [h] at this
    have hw : w.length ≤ 131077 := this
    simp only [Option.getD_some, Option.isNone_some, Bool.false_eq_true, if_false, bne_self_eq_false, cond_false]
    rw [chk_if, if_pos (by omega)]
theorem last_loop (N : Nat) (hN : 64 < N) (x y z : Bs) (hx : x.length ≤ 70368744177664) (hy : y.length ≤ 70368744177664) (hz : z.length ≤ 70368744177664) :
    iterG (X := Bs × Int × List Bs) (Y := Bs) (U3 fun t16g t92g l34048g k7 x8 =>
      bif decide (t92g < (3 : Int)) then (Vm.chk (decide ((0 : Int) ≤ t92g)) <|
      Vm.chk (decide (t92g < (3 : Int))) <|
      Vm.chk (decide (t92g.toNat < l34048g.length)) <|
      Vm.chk (decide (t92g.toNat < l34048g.length)) <|
      callO (ref14_someOf N (IntKind.i64.wrap ((160 : Int) + t92g)) (l34048g.getD t92g.toNat ([] : Bs))) fun r101 =>
      bif (r101.2 != (0 : Int)) then (some (([] : Bs), r101.2))
      else (Vm.chk (decide (t16g.length + r101.1.length ≤ 140737488355328)) <|
      k7 (t16g ++ r101.1, IntKind.i64.wrap (t92g + (1 : Int)), l34048g)))
      else (x8 t16g)) N (([] : Bs), 0, ([x, y, z] : List Bs)) (fun t16h =>
      callO (ref07_Fit N 48 ([t16h] : List Bs)) fun r113 =>
      some (r113.1, r113.2)) = some (endR ((someO 160 x).bind fun x => (someO 161 y).bind fun y => (someO 162 z).bind fun w => wrapO 48 ((x ++ y) ++ w))) := by
  obtain ⟨n, hn⟩ : ∃ n, N = n + 4 := ⟨N - 4, by omega⟩
  have h160 : IntKind.i64.wrap ((160 : Int) + 0) = ((160 : Nat) : Int) := rfl
  have h161 : IntKind.i64.wrap ((160 : Int) + 1) = ((161 : Nat) : Int) := rfl
  have h162 : IntKind.i64.wrap ((160 : Int) + 2) = ((162 : Nat) : Int) := rfl
  have i1 : IntKind.i64.wrap ((0 : Int) + 1) = 1 := rfl
  have i2 : IntKind.i64.wrap ((1 : Int) + 1) = 2 := rfl
  have i3 : IntKind.i64.wrap ((2 : Int) + 1) = 3 := rfl
  have key : ∀ (B : Bs × Int × List Bs → (Bs × Int × List Bs → Option (Bs × Int)) → (Bs → Option (Bs × Int)) → Option (Bs × Int)) (kx : Bs → Option (Bs × Int)), iterG B N = iterG B (n + 4) := fun B _ => by rw [hn]
  rw [key _ (fun _ => none)]
  rw [iterG_s]
  dsimp only [U3]
  simp only [bif_if, chk_if, h160, i1]
  rw [if_pos (by decide), if_pos (by decide), if_pos (by decide), if_pos (by simp), if_pos (by simp)]
  simp only [← chk_if]
  refine (last_round N n 160 [] x (by omega) (by omega) (by omega) hx (by simp) (fun w => iterG _ (n + 3) (w, 1, [x, y, z]) _)).trans ?_
  cases h1 : someO 160 x with
  | none => rfl
  | some a =>
    have ha : a.length ≤ 131077 := by have := someO_len (t := 160) (c := x); rw [h1] at this; exact this
    dsimp only
    rw [iterG_s]
    dsimp only [U3]
    simp only [bif_if, chk_if, h161, i2]
    rw [if_pos (by decide), if_pos (by decide), if_pos (by decide), if_pos (by simp), if_pos (by simp)]
    simp only [← chk_if]
    refine (last_round N n 161 ([] ++ a) y (by omega) (by omega) (by omega) hy (by simp; omega) (fun w => iterG _ (n + 2) (w, 2, [x, y, z]) _)).trans ?_
    cases h2 : someO 161 y with
    | none => rfl
    | some b =>
      have hb : b.length ≤ 131077 := by have := someO_len (t := 161) (c := y); rw [h2] at this; exact this
      dsimp only
      rw [iterG_s]
      dsimp only [U3]
      simp only [bif_if, chk_if, h162, i3]
      rw [if_pos (by decide), if_pos (by decide), if_pos (by decide), if_pos (by simp), if_pos (by simp)]
      simp only [← chk_if]
      refine (last_round N n 162 ([] ++ a ++ b) z (by omega) (by omega) (by omega) hz (by simp; omega) (fun w => iterG _ (n + 1) (w, 3, [x, y, z]) _)).trans ?_
      cases h3 : someO 162 z with
      | none => rfl
      | some w =>
        have hw : w.length ≤ 131077 := by have := someO_len (t := 162) (c := z); rw [h3] at this; exact this
        dsimp only
        rw [iterG_s]
        dsimp only [U3]
        rw [if_neg (by decide)]
        rw [show (48 : Int) = ((48 : Nat) : Int) from rfl, Fit_eq N 48 [[] ++ a ++ b ++ w] (by omega) (by omega) (by simp; omega) (by simp) (by simp; omega), callO_s]
        have e3 : ([[] ++ a ++ b ++ w] : List Bs).flatten = a ++ b ++ w := by simp
        rw [e3]
        simp only [Option.bind_some]
        cases wrapO 48 (a ++ b ++ w) <;> rfl
set_option maxRecDepth 2000 in
theorem EncodeBundle_eq (N : Nat) (b : Bundle) (hN : 64 < N) (hb : Fit N b) : ref14_EncodeBundle N b = some (encR b) := by
  obtain ⟨c, l, p⟩ := b
  unfold ref14_EncodeBundle encR
  rw [CheckBundle_eq N _ hN hb, callO_s]
  by_cases hE : bundleE (c, l, p) = 0
  · obtain ⟨hm1, hm2, hm3⟩ := small_of hE
    dsimp only at hm1 hm2 hm3
    rw [if_neg (by simp [hE]), hE]
    rw [show ((0 : Int) != 0) = false from rfl, cond_false]
    have hc : c.flatten.length ≤ 70368744177664 := by
      have := flatten_le (l := c) (fun s hs => (hb.c s hs).1)
      have : c.length * 1099511627776 ≤ 64 * 1099511627776 := Nat.mul_le_mul_right _ hm1
      omega
    have hl : l.flatten.length ≤ 70368744177664 := by
      have := flatten_le (l := l) (fun s hs => (hb.l s hs).1)
      have : l.length * 1099511627776 ≤ 64 * 1099511627776 := Nat.mul_le_mul_right _ hm2
      omega
    generalize hR : some (endR _) = R
    -- the first list
    refine Eq.trans (iterG_of (fun x => ∃ i, i ≤ c.length ∧ x = ((i : Int), c, l, p, ([(c.take i).flatten, [], []] : List Bs))) (fun x => c.length - x.1.toNat) (fun _ => R) ?_ N _ ⟨0, by omega, rfl⟩ (by show c.length - 0 < N; omega)) rfl
    rintro x ⟨i, hi, rfl⟩ k hk
    dsimp only [U5]
    by_cases h : i < c.length
    · have e := flatten_take h
      have hle := flatten_take_le c (i + 1)
      have e2 : (([(c.take i).flatten, [], []] : List Bs).getD 0 []).length + (c.getD i []).length ≤ 140737488355328 := by show (c.take i).flatten.length + (c.getD i []).length ≤ _; rw [← List.length_append, e]; omega
      simp only [bif_if, chk_if, Int.toNat_natCast]
      rw [if_pos (by omega), if_pos (by omega), if_pos (by omega), if_pos (by simp), if_pos (by simp), if_pos e2, if_pos (by simp), if_pos (by simp), w64 (by omega) (by omega)]
      refine hk _ ⟨i + 1, h, ?_⟩ (by show c.length - ((i : Int) + 1).toNat < c.length - (i : Int).toNat; omega)
      rw [← e]; rfl
    · have hil : i = c.length := by omega
      subst hil
      clear hk
      rw [bif_if, if_neg (by omega), List.take_length]
      -- the second list
      refine Eq.trans (iterG_of (fun x => ∃ i, i ≤ l.length ∧ x = ((i : Int), c, l, p, ([c.flatten, (l.take i).flatten, []] : List Bs))) (fun x => l.length - x.1.toNat) (fun _ => R) ?_ N _ ⟨0, by omega, rfl⟩ (by show l.length - 0 < N; omega)) rfl
      rintro x ⟨i, hi, rfl⟩ k hk
      dsimp only [U5, U4]
      by_cases h : i < l.length
      · have e := flatten_take h
        have hle := flatten_take_le l (i + 1)
        have e2 : (([c.flatten, (l.take i).flatten, []] : List Bs).getD 1 []).length + (l.getD i []).length ≤ 140737488355328 := by show (l.take i).flatten.length + (l.getD i []).length ≤ _; rw [← List.length_append, e]; omega
        simp only [bif_if, chk_if, Int.toNat_natCast]
        rw [if_pos (by omega), if_pos (by omega), if_pos (by omega), if_pos (by simp), if_pos (by simp), if_pos e2, if_pos (by simp), if_pos (by simp), w64 (by omega) (by omega)]
        refine hk _ ⟨i + 1, h, ?_⟩ (by show l.length - ((i : Int) + 1).toNat < l.length - (i : Int).toNat; omega)
        rw [← e]; rfl
      · have hil : i = l.length := by omega
        subst hil
        clear hk
        rw [bif_if, if_neg (by omega), List.take_length]
        -- the pairs
        refine Eq.trans (iterG_of (fun x => ∃ i z, i ≤ p.length ∧ (p.take i).foldl stepO (some []) = some z ∧ z.length ≤ i * 131077 ∧ x = ((i : Int), ([c.flatten, l.flatten, z] : List Bs))) (fun x => p.length - x.1.toNat) (fun _ => R) ?_ N _ ⟨0, [], by omega, rfl, by simp, rfl⟩ (by show p.length - 0 < N; omega)) rfl
        rintro x ⟨i, z, hi, hz, hzl, rfl⟩ k hk
        dsimp only [U5, U4, U2]
        by_cases h : i < p.length
        · have hmem := getD_mem (([] : Bs), ([] : Bs)) h
          have hp := hb.p _ hmem
          have hsnoc : (p.take (i + 1)).foldl stepO (some []) = stepO (some z) (p.getD i (([] : Bs), ([] : Bs))) := by
            have hq : p.getD i (([] : Bs), ([] : Bs)) = p[i] := by rw [List.getD_eq_getElem?_getD, List.getElem?_eq_getElem h]; rfl
            rw [take_snoc h, List.foldl_append, hz, hq]
            rfl
          have hfail : pairO (p.getD i (([] : Bs), ([] : Bs))) = none → R = some ([], 2) := by
            intro hn
            have : (p.take (i + 1)).foldl stepO (some []) = none := by rw [hsnoc]; unfold stepO; rw [Option.bind_some, hn]; rfl
            have : refPairs p = none := by
              unfold refPairs
              rw [← List.take_append_drop (i + 1) p, List.foldl_append, this, foldl_none]
            rw [← hR, this]; rfl
          have hgood : ∀ e, pairO (p.getD i (([] : Bs), ([] : Bs))) = some e → k ((i : Int) + 1, ([c.flatten, l.flatten, z ++ e] : List Bs)) = R := by
            intro e he
            have hel := pairO_len he
            refine hk _ ⟨i + 1, z ++ e, h, by rw [hsnoc]; unfold stepO; rw [Option.bind_some, he]; rfl, by rw [List.length_append]; omega, rfl⟩ (by show p.length - ((i : Int) + 1).toNat < p.length - (i : Int).toNat; omega)
          simp only [bif_if, chk_if, Int.toNat_natCast]
          rw [if_pos (by omega), if_pos (by omega), if_pos (by omega)]
          generalize p.getD i (([] : Bs), ([] : Bs)) = q at hp hfail hgood
          obtain ⟨⟨hf1, hf2⟩, hr1, hr2⟩ := hp
          rw [show (160 : Int) = ((160 : Nat) : Int) from rfl, show (161 : Int) = ((161 : Nat) : Int) from rfl, show (48 : Int) = ((48 : Nat) : Int) from rfl]
          rw [someOf_eq N 160 q.1 (by omega) (by omega) (by omega) (by omega), callO_s]
          cases h1 : someO 160 q.1 with
          | none => exact (hfail (by unfold pairO; rw [h1]; rfl)).symm
          | some f =>
            have hfl : f.length ≤ 131077 := by have := someO_len (t := 160) (c := q.1); rw [h1] at this; exact this
            simp only [Option.getD_some, Option.isNone_some, Bool.false_eq_true, if_false, bne_self_eq_false, cond_false]
            rw [someOf_eq N 161 q.2 (by omega) (by omega) (by omega) (by omega), callO_s]
            cases h2 : someO 161 q.2 with
            | none => exact (hfail (by unfold pairO; rw [h1, h2]; rfl)).symm
            | some r =>
              have hrl : r.length ≤ 131077 := by have := someO_len (t := 161) (c := q.2); rw [h2] at this; exact this
              simp only [Option.getD_some, Option.isNone_some, Bool.false_eq_true, if_false, bne_self_eq_false, cond_false]
              rw [Fit_eq N 48 [f, r] (by omega) (by omega) (by simp; omega) (by simp) (by simp; omega), callO_s]
              have e3 : ([f, r] : List Bs).flatten = f ++ r := by simp
              rw [e3]
              cases h3 : wrapO 48 (f ++ r) with
              | none => exact (hfail (by unfold pairO; rw [h1, h2]; exact h3)).symm
              | some e =>
                have hpo : pairO q = some e := by unfold pairO; rw [h1, h2]; exact h3
                have hel := pairO_len hpo
                simp only [Option.getD_some, Option.isNone_some, Bool.false_eq_true, if_false, bne_self_eq_false, cond_false]
                have e2 : (([c.flatten, l.flatten, z] : List Bs).getD 2 []).length + e.length ≤ 140737488355328 := by
                  show z.length + e.length ≤ _
                  omega
                rw [if_pos (by simp), if_pos (by simp), if_pos (show _ from e2), if_pos (by simp), if_pos (by simp), w64 (by omega) (by omega)]
                exact hgood e hpo
        · have hil : i = p.length := by omega
          subst hil
          clear hk
          rw [bif_if, if_neg (by omega)]
          rw [List.take_length] at hz
          have hzl' : z.length ≤ 140737488355328 := by omega
          have hR' : R = some (endR ((someO 160 c.flatten).bind fun x => (someO 161 l.flatten).bind fun y => (someO 162 z).bind fun w => wrapO 48 ((x ++ y) ++ w))) := by
            rw [← hR]
            unfold refPairs
            dsimp only
            rw [hz]; rfl
          rw [hR']
          exact last_loop N hN _ _ _ (by omega) (by omega) (by omega)
  · rw [if_pos hE]
    simp [bif_ite, hE]
end Go.Proofs.Ytegnjlmdppobmaa.Pl

/-
  BundleLong: the law's function answers true. No program in sight.
-/
namespace Go.Proofs.Ytegnjlmdppobmaa.Pl
open Go Vm

theorem awake_eq : law20_awake 1048576 = some true := by kernel_rfl
theorem long_end (b : Bundle) (hb : Fit 1048576 b) : (callO (bundle_Encode 1048576 b) fun r59 => callO (ref14_EncodeBundle 1048576 b) fun r64 => callO (law20_awake 1048576) fun r67 =>
    Vm.chk ((r67 || (!r67))) <| Vm.chk ((r67 || (!r67))) <| Vm.chk (bif r67 then r67 else true) <| Vm.chk (bif r67 then true else true) <|
    Vm.chk (((bif r67 then (r59.1 == r64.1) else false) || (!(bif r67 then (r59.1 == r64.1) else false)))) <|
    Vm.chk (((bif r67 then (r59.1 == r64.1) else false) || (!(bif r67 then (r59.1 == r64.1) else false)))) <|
    Vm.chk (bif bif r67 then (r59.1 == r64.1) else false then bif r67 then (r59.1 == r64.1) else false else true) <|
    Vm.chk (bif bif r67 then (r59.1 == r64.1) else false then true else true) <|
    (some (bif bif r67 then (r59.1 == r64.1) else false then (r59.2 == r64.2) else false) : Option Bool)) = some true := by
  rw [Encode_eq _ b (by omega) hb, callO_s, EncodeBundle_eq _ b (by omega) hb, callO_s, enc_same, awake_eq, callO_s]
  simp [Vm.chk]
theorem all_zero (n : Nat) : List.all (List.replicate n (0 : Int)) isByte = true := by
  rw [List.all_eq_true]
  intro x hx
  rw [(List.mem_replicate.1 hx).2]; decide
theorem long_eq (n : Nat) (hn : n < 256) (p1 p2 : Bool) : law20_BundleLong 1048576 (n : Int) p1 p2 = some true := by
  unfold law20_BundleLong
  have hm : (n : Int).tmod 90 = ((n % 90 : Nat) : Int) := by rw [Int.tmod_eq_emod_of_nonneg (by omega)]; omega
  have hlt : n % 90 < 90 := Nat.mod_lt _ (by omega)
  rw [hm]
  generalize n % 90 = m at hlt
  rw [all_zero, chk_t, w64 (x := ((m : Nat) : Int)) (by omega) (by omega), w64 (x := 65436 + ((m : Nat) : Int)) (by omega) (by omega)]
  rw [show (65436 + ((m : Nat) : Int)).toNat = 65436 + m by omega]
  have hb1 : List.all ([255, IntKind.u8.wrap ((160 : Int) + (m : Int))] : List Int) isByte = true := by simp [isByte_w8]; decide
  have hb2 : List.all ([255, IntKind.u8.wrap ((156 : Int) + (m : Int))] : List Int) isByte = true := by simp [isByte_w8]; decide
  simp only [hb1, hb2, all_zero, chk_t, chk_if, List.length_map, List.length_replicate, List.length_append, List.length_cons, List.length_nil]
  rw [if_pos (by decide), if_pos (by decide), if_pos (by decide), if_pos (by decide), if_pos (by omega), if_pos (by omega), if_pos (by omega), if_pos (by omega)]
  rw [letJ_eq]
  have hX : (([48, 131, 1, 0, 0, 4, 130, 255, 252] : Bs) ++ List.map Vm.byteOf (List.replicate 65532 0)).length = 65541 := by
    rw [List.length_append, List.length_map, List.length_replicate]; rfl
  have hS : (((([48, 130] : Bs) ++ List.map Vm.byteOf ([255, IntKind.u8.wrap ((160 : Int) + (m : Int))] : List Int)) ++ ([4, 130] : Bs)) ++ List.map Vm.byteOf ([255, IntKind.u8.wrap ((156 : Int) + (m : Int))] : List Int) ++ List.map Vm.byteOf (List.replicate (65436 + m) 0)).length ≤ 65600 := by
    simp only [List.length_map, List.length_replicate, List.length_append, List.length_cons, List.length_nil]; omega
  generalize ([48, 131, 1, 0, 0, 4, 130, 255, 252] : Bs) ++ List.map Vm.byteOf (List.replicate 65532 0) = X at hX
  generalize (((([48, 130] : Bs) ++ List.map Vm.byteOf ([255, IntKind.u8.wrap ((160 : Int) + (m : Int))] : List Int)) ++ ([4, 130] : Bs)) ++ List.map Vm.byteOf ([255, IntKind.u8.wrap ((156 : Int) + (m : Int))] : List Int) ++ List.map Vm.byteOf (List.replicate (65436 + m) 0)) = S at hS
  have fX : fitS 1048576 X := ⟨by omega, by omega⟩
  have fS : fitS 1048576 S := ⟨by omega, by omega⟩
  have f0 : fitS 1048576 [] := ⟨by simp, by simp⟩
  cases p2 with
  | true => exact long_end ([X], [], [(S, [])]) ⟨by simpa using fX, by simp, by simpa using ⟨fS, f0⟩⟩
  | false =>
    cases p1 with
    | true => exact long_end ([X], [S], []) ⟨by simpa using fX, by simpa using fS, by simp⟩
    | false => exact long_end ([X, S], [], []) ⟨by simpa using ⟨fX, fS⟩, by simp, by simp⟩
end Go.Proofs.Ytegnjlmdppobmaa.Pl

/-
  A law's function that is known to the small machine: it answers true, and what was there is as it was.
-/
namespace Go.Proofs.Ytegnjlmdppobmaa.Vm
open Go.RowKit

theorem Moves.below {T : Nat → Prop} {w w' : World} (h : Moves (fun _ _ => none) T w w') : Below w.heap.size w w' :=
  ⟨h.os, h.tape, h.output, h.size, fun b hb => by
    rcases h.blk b hb with e | ⟨c, c', e, fr, _, _, _, _, k, o, _, ho, _⟩
    · exact e
    · cases ho⟩
theorem Sig.of_F {pars ress : List Sh} {f : ShT pars → Option (ShT (outS pars ress))} {xs : List A} {a : ShT pars} {o : ShT (outS pars ress)} (hd : decs pars xs = some a) (hf : f a = some o) : (Sig.of pars ress f).F xs = some (encs (outS pars ress) o) := by
  unfold Sig.F Sig.of
  dsimp only
  rw [hd]
  dsimp only
  rw [hf]
  rfl
theorem law_calls {P : Program} {f : FuncId} {sg : Sig} (h : Spec P f sg) {xs : List A} {vs : Array Value} {W : World} (hF : sg.F xs = some [.bool true]) (hress : sg.ress = [.cell false .bool]) (hv : vs.size = xs.length) (hl : xs.length = sg.pars.length) (h100 : xs.length ≤ 100)
    (hx : ∀ j, j < xs.length → IR (fun _ _ => none) W (256 * j) (vs.getD j undef) (xs.getD j .undef)) : Calls P f vs W fun e w' => e = .returned (.bool true) ∧ Below W.heap.size W w' := by
  refine (h.2 (fun _ _ => none) W vs xs _ hv hl h100 hx hF).mono fun e w' hq => ?_
  obtain ⟨v, O', he, hc⟩ := hq
  obtain ⟨us, h1, h2, h3⟩ := hc.res
  rw [hress] at h1
  have h1' : us.size = 1 := h1
  have h4 : VRel O' w' (us.getD 0 undef) (.bool true) := h3 0 (by omega)
  have h5 : us.getD 0 undef = .bool true := by
    generalize us.getD 0 undef = z at h4
    cases h4; rfl
  have h6 : v = .bool true := by
    rw [h2, dif_pos h1', ← h5]
    simp [Array.getD_eq_getD_getElem?, h1']
  exact ⟨by rw [he, h6], hc.moves.below⟩
end Go.Proofs.Ytegnjlmdppobmaa.Vm

/-
  BundleLong: what the program's function does.
-/
namespace Go.Proofs.Ytegnjlmdppobmaa
open Go.RowKit Vm

theorem long_walk (a : Int) (p q : Bool) (W : World) (h0 : 0 ≤ a) (h1 : a < 256) : Calls Try.prog 3 #[.int .u8 a, .bool p, .bool q] W fun e w' => e = .returned (.bool true) ∧ Below W.heap.size W w' := by
  obtain ⟨n, rfl⟩ : ∃ n : Nat, a = (n : Int) := ⟨a.toNat, by omega⟩
  refine law_calls (xs := [.int .u8 (n : Int), .bool p, .bool q]) (law20_BundleLong_spec 1048576) (Sig.of_F (pars := [.cell false (.int .u8), .cell false .bool, .cell false .bool]) (ress := [.cell false .bool]) (f := fun a => law20_BundleLong 1048576 a.1 a.2.1 a.2.2) (a := ((n : Int), p, q)) (o := true) rfl (Pl.long_eq n (by omega) p q)) rfl rfl rfl (by show 3 ≤ 100; omega) (fun j hj => ?_)
  · have : j = 0 ∨ j = 1 ∨ j = 2 := by simp at hj; omega
    rcases this with rfl | rfl | rfl
    · exact VRel.int _ _
    · exact VRel.bool _
    · exact VRel.bool _
end Go.Proofs.Ytegnjlmdppobmaa

/-
  BundleLong: WHATEVER THE INPUT, the law returns true, and each argument reads as it read before. Conditions: none.
-/
namespace Go.Proofs.Ytegnjlmdppobmaa.bundleLong
open Go.ChangeShapes Go.WideShapes Go.ChangeAt Go.RowKit
open Go.ChangeMaps (open_string shut_string)
set_option linter.unusedVariables false

theorem own : ownKnob Try.prog.godebug = none := by kernel_rfl

set_option maxRecDepth 100000 in
theorem lifted (os : Os) (started : os.Started) (H : Type) (enc : TypeId × Value → H) :
    ReturnsInHanded {} Try.checked os 3 .any (Rows.bundleLongSpec.pre6 enc Try.prog Try.f3 Rows.bundleLongRow.domain false) (Rows.bundleLongSpec.post enc Try.prog Try.f3 false true false false) := by
  refine returnsInHanded_of_change (C := Try.checked) own started (by kernel_rfl) Try.func3
    (ChangeSpec.witness6 (enc := enc) (C := Try.checked) false ⟨#[], #[.int .u8 0, .bool false, .bool false], []⟩ 8 (by kernel_rfl) (by kernel_rfl) (by kernel_rfl) (by kernel_rfl)) ?_
  intro W base args ds gs before hval0 hW hcnd _
  have hval : ∀ (j : Nat) t v, Try.f3.params[j]? = some t → args[j]? = some v → Value.okWide Try.prog W .any base t v := hval0
  have hW' := hW
  obtain ⟨p, q, hA0, hV, rfl, hfz, hnd⟩ := hW
  have hA : DataW.TrodAll enc Try.prog W 0 (fun _ => true) true Try.f3.params.toList args.toList ds p := hA0
  rw [Try.params3] at hA hval
  obtain ⟨v0, vs0, d0, ds0, p0, q0, hargs, rfl, rfl, h0, r0⟩ := trodAll_cons hA
  obtain ⟨v1, vs1, d1, ds1, p1, q1, rfl, rfl, rfl, h1, r1⟩ := trodAll_cons r0
  obtain ⟨v2, vs2, d2, ds2, p2, q2, rfl, rfl, rfl, h2, r2⟩ := trodAll_cons r1
  obtain ⟨rfl, rfl, rfl⟩ := trodAll_nil r2
  obtain rfl : args = #[v0, v1, v2] := by cases args; simp_all
  obtain ⟨rfl, rfl⟩ := trodVars_none hV
  obtain ⟨a0, rfl, rfl, rfl, w0⟩ := open_int Try.underlying5 (hval 0 5 v0 rfl rfl) h0
  have bd0 := bounds_u8 w0
  obtain ⟨a1, rfl, rfl, rfl⟩ := open_bool Try.underlying4 (hval 1 4 v1 rfl rfl) h1
  obtain ⟨a2, rfl, rfl, rfl⟩ := open_bool Try.underlying4 (hval 2 4 v2 rfl rfl) h2
  clear hA0 hval0
  simp only [List.append_nil] at hW'
  refine (long_walk a0 a1 a2 W bd0.1 (by have := bd0.2; omega)).mono fun e W' ⟨he, bel⟩ => ?_
  subst he
  exact ⟨_, rfl, _, _, _, [], [], [], hW', trodAll_mk1 (shut_bool Try.underlying4 _), (trodAll_cons_mk (shut_int Try.underlying5 w0) (trodAll_cons_mk (shut_bool Try.underlying4 _) (trodAll_cons_mk (shut_bool Try.underlying4 _) trodAll_mk0))), rfl, bel.frame _, fun h => by cases h⟩

theorem over : Rows.bundleLongRow.holds Try.pinned (OpenSpec.ofChange Rows.bundleLongSpec) :=
  OpenClaim.holds_of_wide 3 Try.f3 rfl rfl rfl rfl rfl rfl rfl ⟨rfl, rfl, rfl, rfl, rfl⟩ rfl rfl rfl rfl rfl (by kernel_rfl) Try.func3 (by kernel_rfl)
    (of_decide_eq_true (by kernel_rfl)) (by unfold Func.isWrapper; first | (rw [if_pos (by decide +kernel)]; kernel_rfl) | (rw [if_neg (by decide +kernel)]; exact ⟨rfl, rfl⟩))
    (fun os started H enc _ => lifted os started H enc)

/-- THE STATEMENT -/
theorem proved : Rows.BundleLongSaid := over
#print axioms proved
end Go.Proofs.Ytegnjlmdppobmaa.bundleLong
