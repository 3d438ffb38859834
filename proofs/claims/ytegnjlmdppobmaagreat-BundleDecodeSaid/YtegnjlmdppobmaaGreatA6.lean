/-
  BundleDecode: whatever the input, the law returns true, and each argument reads as it read before. Conditions: none. (part 6 of 6.)
-/
import Derived.Test.YtegnjlmdppobmaaGreatA5
import Derived.ChangeArms
import Derived.SliceStrings
import Derived.Test.YtegnjlmdppobmaaGreatRows
import Derived.ProofKit
import Derived.OpenShut
import Derived.ChangeOld
import Derived.Carry
set_option linter.unusedVariables false
set_option linter.unusedSimpArgs false
/-
  Data that come in, as the small machine has them: numbers, strings, structs, slices of what holds no slices.
-/
namespace Go.Proofs.YtegnjlmdppobmaaGreat.Vm
open Go.ChangeShapes Go.WideShapes

def nobody : Own := fun _ _ => none
/-- what is known of the size of what comes in -/
def okA1 : A → Prop
  | .int k n => k.min ≤ n ∧ n ≤ k.max
  | .str s => s.length ≤ 9223372036854775807
  | _ => True
def okA : A → Prop
  | .sl l => l.xs.length ≤ 9223372036854775807 ∧ ∀ c ∈ l.es, ∀ a ∈ c, okA1 a
  | a => okA1 a
structure Opened (w : World) (ks : List CK) (cs : List Value) (aa : List A) : Prop where
  lc : cs.length = ks.length
  la : aa.length = ks.length
  rel : ∀ j, j < ks.length → VRel nobody w (cs.getD j undef) (aa.getD j .undef)
  made : ((tyl ks).mk aa).1 = true
  ok : ∀ a ∈ aa, okA a
/-- no slice among these -/
def flatA (aa : List A) : Prop := ∀ a ∈ aa, okA1 a
theorem mk_append : ∀ (a : List CK) {b : List CK} {x y : List A}, ((tyl a).mk x).1 = true → ((tyl b).mk y).1 = true → ((tyl (a ++ b)).mk (x ++ y)).1 = true := by
  intro a
  induction a with
  | nil =>
    intro b x y hx hy
    cases x with
    | nil => exact hy
    | cons _ _ => cases hx
  | cons k a ih =>
    intro b x y hx hy
    cases k with
    | bool =>
      cases x with
      | nil => cases hx
      | cons c x => cases c <;> first | exact ih (x := x) hx hy | cases hx
    | int k =>
      cases x with
      | nil => cases hx
      | cons c x =>
        cases c <;> first
          | (simp only [tyl, Ty.mk, Bool.and_eq_true] at hx
             simp only [List.cons_append, tyl, Ty.mk, Bool.and_eq_true]
             exact ⟨hx.1, ih hx.2 hy⟩)
          | cases hx
    | str =>
      cases x with
      | nil => cases hx
      | cons c x => cases c <;> first | exact ih (x := x) hx hy | cases hx
    | sl e t =>
      cases x with
      | nil => cases hx
      | cons c x =>
        cases c with
        | sl l =>
          simp only [tyl, Ty.mk] at hx
          simp only [List.cons_append, tyl, Ty.mk]
          cases hc : l.cast t with
          | none => rw [hc] at hx; cases hx
          | some xs => rw [hc] at hx; exact ih (x := x) hx hy
        | _ => cases hx
    | ptr =>
      cases x with
      | nil => cases hx
      | cons c x => cases c <;> first | exact ih (x := x) hx hy | cases hx
    | oth =>
      cases x with
      | nil => cases hx
      | cons c x => cases c <;> first | exact ih (x := x) hx hy | cases hx
theorem Opened.nil {w : World} : Opened w [] [] [] := ⟨rfl, rfl, fun j hj => absurd hj (Nat.not_lt_zero j), rfl, fun a ha => (by cases ha)⟩
theorem Opened.append {w : World} {a b : List CK} {x y : List Value} {p q : List A} (h1 : Opened w a x p) (h2 : Opened w b y q) : Opened w (a ++ b) (x ++ y) (p ++ q) := by
  refine ⟨by simp [h1.lc, h2.lc], by simp [h1.la, h2.la], fun j hj => ?_, mk_append a h1.made h2.made, fun z hz => ?_⟩
  · rw [List.length_append] at hj
    by_cases h : j < a.length
    · have := h1.rel j h
      rw [List.getD_eq_getElem?_getD, List.getElem?_append_left (by rw [h1.lc]; exact h), ← List.getD_eq_getElem?_getD, List.getD_eq_getElem?_getD (l := p ++ q), List.getElem?_append_left (by rw [h1.la]; exact h), ← List.getD_eq_getElem?_getD]
      exact this
    · have := h2.rel (j - a.length) (by omega)
      rw [List.getD_eq_getElem?_getD, List.getElem?_append_right (by rw [h1.lc]; omega), ← List.getD_eq_getElem?_getD, List.getD_eq_getElem?_getD (l := p ++ q), List.getElem?_append_right (by rw [h1.la]; omega), ← List.getD_eq_getElem?_getD, h1.lc, h1.la]
      exact this
  · rcases List.mem_append.1 hz with hz | hz
    · exact h1.ok z hz
    · exact h2.ok z hz
theorem Opened.one {w : World} {k : CK} {v : Value} {a : A} (hr : VRel nobody w v a) (hm : ((tyl [k]).mk [a]).1 = true) (ho : okA a) : Opened w [k] [v] [a] :=
  ⟨rfl, rfl, fun j hj => by
    have : j = 0 := by simp at hj; omega
    subst this; exact hr, hm, fun z hz => by rw [List.mem_singleton.1 hz]; exact ho⟩
/-- can data of this type be opened? s: are slices let? -/
def ckLen (P : Program) (n t : Nat) : Nat := match ckOf P n t with | some cs => cs.length | none => 0
def offsOk (P : Program) (n : Nat) : List Field → Nat → Bool
  | [], _ => true
  | f :: r, o => Nat.beq f.offset o && Nat.beq (P.cellsOf f.type) (ckLen P n f.type) && offsOk P n r (o + ckLen P n f.type)
def openOk (P : Program) : Nat → Bool → Nat → Bool
  | 0, _, _ => false
  | n + 1, s, t => match P.underlying t with
    | some .bool => true
    | some (.int _) => true
    | some .string => true
    | some (.slice e) => s && openOk P n false e && Nat.beq (P.cellsOf e) (ckLen P n e) && Nat.blt 0 (ckLen P n e) && (match ckOf P n e with | some cs => cs.all CK.plain | none => false)
    | some (.struct fs) => Nat.beq (P.cellsOf t) (ckLen P (n + 1) t) && offsOk P n fs.toList 0 && fs.toList.all (fun f => openOk P n s f.type)
    | _ => false
def isSliceV : Value → Bool | .slice (some a) _ _ => a.spot.isNone | _ => true
section
variable {H : Type} {enc : TypeId × Value → H} {P : Program} {w : World} {base : Nat} {spare : Nat → Bool} {held : Bool}
theorem cells_are {a : Addr} {n : Nat} {cs : List Value} (h : w.cells? base a n = some cs) : cs.length = n ∧ ∀ j, j < n → w.cell? (a.add j) = some (cs.getD j undef) := by
  unfold World.cells? at h
  split at h
  · have key : ∀ (l : List Nat) (cs : List Value), l.mapM (fun i => w.cell? (a.add i)) = some cs → cs.length = l.length ∧ ∀ j (hj : j < l.length), w.cell? (a.add l[j]) = some (cs.getD j undef) := by
      intro l
      induction l with
      | nil =>
        intro cs h
        simp at h
        subst h
        exact ⟨rfl, fun j hj => by cases hj⟩
      | cons i l ih =>
        intro cs h
        rw [List.mapM_cons] at h
        cases h1 : w.cell? (a.add i) with
        | none => rw [h1] at h; cases h
        | some v =>
          rw [h1] at h
          cases h2 : l.mapM (fun i => w.cell? (a.add i)) with
          | none => rw [h2] at h; cases h
          | some r =>
            rw [h2] at h
            injection h with h
            subst h
            obtain ⟨k1, k2⟩ := ih r h2
            refine ⟨by simp [k1], fun j hj => ?_⟩
            cases j with
            | zero => exact h1
            | succ j => exact k2 j (by simpa using hj)
    obtain ⟨h1, h2⟩ := key _ _ h
    rw [List.length_range] at h1
    refine ⟨h1, fun j hj => ?_⟩
    have := h2 j (by rw [List.length_range]; exact hj)
    rw [List.getElem_range] at this
    exact this
  · cases h
theorem mem_take_drop {α : Type} {l : List α} {a b : Nat} {v : α} (h : v ∈ (l.drop a).take b) : v ∈ l := List.mem_of_mem_drop (List.mem_of_mem_take h)
theorem sum_take {l : List Value} {o a b : Nat} : (l.drop o).take (a + b) = (l.drop o).take a ++ (l.drop (o + a)).take b := by
  rw [List.take_add, List.drop_drop]
theorem slice_made (e : Nat) (t : Ty) (xs : List t.Val) : ((tyl [.sl e t]).mk [.sl ⟨t, xs⟩]).1 = true := by
  simp only [tyl, Ty.mk]
  rw [Sl.cast_self]
  rfl
theorem trod_opened : ∀ (n : Nat) (s : Bool) (t : TypeId) (ks : List CK) (fuel : Nat) (cs : List Value) (x : DataW H × List MemPlace), ckOf P n t = some ks → openOk P n s t = true → (s = true → ∀ v ∈ cs, isSliceV v = true) → DataW.trod enc P w base spare held fuel t cs = some x →
    ∃ aa, Opened w ks cs aa ∧ (s = false → ∀ a ∈ aa, okA1 a) := by
  intro n
  induction n with
  | zero => intro s t ks fuel cs x h; cases h
  | succ n ih =>
    intro s t ks fuel cs x hck hok hsp h
    unfold ckOf at hck
    unfold openOk at hok
    cases hu : P.underlying t with
    | none => rw [hu] at hck; cases hck
    | some d =>
      rw [hu] at hck hok
      cases d with
      | bool =>
        injection hck with hck
        subst hck
        obtain ⟨b, rfl, _⟩ := DataW.trod_bool hu h
        exact ⟨[.bool b], Opened.one (.bool b) rfl trivial, fun _ a ha => by rw [List.mem_singleton.1 ha]; trivial⟩
      | int k =>
        injection hck with hck
        subst hck
        obtain ⟨v, rfl, _, hw⟩ := DataW.trod_int hu h
        have hk : okA1 (.int k v) := by
          unfold Lit.wf at hw
          rw [Bool.and_eq_true, decide_eq_true_eq, decide_eq_true_eq] at hw
          exact hw
        exact ⟨[.int k v], Opened.one (.int k v) (by cases k <;> rfl) hk, fun _ a ha => by rw [List.mem_singleton.1 ha]; exact hk⟩
      | string =>
        injection hck with hck
        subst hck
        obtain ⟨v, rfl, _, hw⟩ := DataW.trod_string hu h
        have hk : okA1 (.str v.data.toList) := by
          show v.data.toList.length ≤ _
          have e : v.data.toList.length = v.size := by rw [Array.length_toList]; rfl
          have : maxLen = 9223372036854775807 := rfl
          omega
        exact ⟨[.str v.data.toList], Opened.one (.str v) rfl hk, fun _ a ha => by rw [List.mem_singleton.1 ha]; exact hk⟩
      | slice e =>
        dsimp only at hck hok
        simp only [Bool.and_eq_true] at hok
        obtain ⟨⟨⟨⟨hs, hoe⟩, hce⟩, hc0⟩, hpl⟩ := hok
        subst hs
        cases hke : ckOf P n e with
        | none => rw [hke] at hpl; cases hpl
        | some ke =>
          rw [hke] at hck hpl
          dsimp only at hck hpl
          rw [hpl] at hck
          injection hck with hck
          subst hck
          have hlen : P.cellsOf e = ke.length := by
            have := Nat.eq_of_beq_eq_true hce
            unfold ckLen at this
            rw [hke] at this; exact this
          rcases DataW.trod_slice hu h with ⟨rfl, _⟩ | ⟨a, len, cap, elems, rest, m, _, rfl, _, hb, hl, hm, hel, hels, _, _⟩
          · exact ⟨[.sl ⟨tyl ke, []⟩], Opened.one (.nil _) (slice_made _ _ _) ⟨Nat.zero_le _, fun c hc => (by cases hc)⟩, fun h => (by cases h)⟩
          · have hspot : a.spot = none := by
              have := hsp rfl _ List.mem_cons_self
              exact Option.isNone_iff_eq_none.1 this
            have ha : a = at' a.block a.off := by
              obtain ⟨b, o, sp⟩ := a
              dsimp only at hspot
              rw [hspot]
            have each : ∀ i, ∃ (q : List Value) (aa : List A), i < len → (∀ j, j < ke.length → w.cell? (at' a.block (a.off + (i * ke.length + j))) = some (q.getD j undef)) ∧ Opened w ke q aa ∧ ∀ z ∈ aa, okA1 z := by
              intro i
              by_cases hi : i < len
              · have he := hels i hi
                have hei : elems[i]? = some (elems[i]'(by omega)) := List.getElem?_eq_getElem (by omega)
                rw [hei, Option.bind_eq_some_iff] at he
                obtain ⟨q, hq, hq2⟩ := he
                obtain ⟨k1, k2⟩ := cells_are hq
                rw [hlen] at k1 k2
                obtain ⟨aa, h1, h2⟩ := ih false e ke m q _ hke hoe (fun h => (by cases h)) hq2
                refine ⟨q, aa, fun _ => ⟨fun j hj => ?_, h1, h2 rfl⟩⟩
                have := k2 j hj
                rw [ha, add_at, add_at] at this
                rw [← this]; congr 2; omega
              · exact ⟨[], [], fun h => absurd h hi⟩
            obtain ⟨q, hq⟩ := Classical.axiomOfChoice each
            obtain ⟨aa, haa⟩ := Classical.axiomOfChoice hq
            let l : Sl := ⟨tyl ke, (List.range len).map fun i => ((tyl ke).mk (aa i)).2⟩
            have hes : l.es = (List.range len).map aa := by
              show ((List.range len).map fun i => ((tyl ke).mk (aa i)).2).map (tyl ke).cells = _
              rw [List.map_map]
              refine List.map_congr_left fun i hi => ?_
              exact Ty.mk_cells _ _ (haa i (List.mem_range.1 hi)).2.1.made
            have hesl : l.es.length = len := by rw [hes, List.length_map, List.length_range]
            have hsz : l.sz = ke.length := tyl_len ke
            have hget : ∀ i, i < len → l.es.getD i [] = aa i := fun i hi => by
              rw [hes, List.getD_eq_getElem?_getD, List.getElem?_map, List.getElem?_range hi]; rfl
            have hrel : VRel nobody w (.slice (some a) len cap) (.sl l) := by
              rw [ha, ← hesl]
              refine VRel.sl (fun i j => (q i).getD j undef) (by rw [hesl]; exact hl) (fun i j hi hj => ?_) (fun i j hi hj => ?_)
              · rw [hsz] at hj ⊢
                exact ⟨rfl, (haa i (by rw [← hesl]; exact hi)).1 j hj⟩
              · rw [hsz] at hj
                have hi' : i < len := by rw [← hesl]; exact hi
                rw [hget i hi']
                exact (haa i hi').2.1.rel j hj
            refine ⟨[.sl l], Opened.one hrel (slice_made _ _ _) ⟨?_, fun c hc z hz => ?_⟩, fun h => (by cases h)⟩
            · show ((List.range len).map _).length ≤ _
              rw [List.length_map, List.length_range]
              have : maxLen = 9223372036854775807 := rfl
              omega
            · rw [hes] at hc
              obtain ⟨i, hi, rfl⟩ := List.mem_map.1 hc
              exact (haa i (List.mem_range.1 hi)).2.2 z hz
      | struct fs =>
        dsimp only at hck hok
        simp only [Bool.and_eq_true] at hok
        obtain ⟨⟨hcl, hoff⟩, hall⟩ := hok
        obtain ⟨xs, m, _, _, hl, hxl, hxs⟩ := DataW.trod_struct hu h
        have fields : ∀ (l : List Field) (o : Nat) (ks : List CK), l.foldr (fun f acc => match ckOf P n f.type, acc with | some a, some b => some (a ++ b) | _, _ => none) (some []) = some ks → offsOk P n l o = true → (∀ f ∈ l, openOk P n s f.type = true) →
            (∀ f ∈ l, ∃ y, DataW.trod enc P w base spare held m f.type ((cs.drop f.offset).take (P.cellsOf f.type)) = some y) → ∃ aa, Opened w ks ((cs.drop o).take ks.length) aa ∧ (s = false → ∀ a ∈ aa, okA1 a) := by
          intro l
          induction l with
          | nil =>
            intro o ks hk _ _ _
            injection hk with hk
            subst hk
            exact ⟨[], Opened.nil, fun _ a ha => (by cases ha)⟩
          | cons f r ihr =>
            intro o ks hk ho hf hy
            rw [List.foldr_cons] at hk
            cases ha : ckOf P n f.type with
            | none => rw [ha] at hk; cases hk
            | some a =>
              rw [ha] at hk
              cases hb : r.foldr (fun f acc => match ckOf P n f.type, acc with | some a, some b => some (a ++ b) | _, _ => none) (some []) with
              | none => rw [hb] at hk; cases hk
              | some b =>
                rw [hb] at hk
                injection hk with hk
                subst hk
                have hal : ckLen P n f.type = a.length := by unfold ckLen; rw [ha]
                unfold offsOk at ho
                simp only [Bool.and_eq_true] at ho
                obtain ⟨⟨h1, h2⟩, h3⟩ := ho
                have h1 := Nat.eq_of_beq_eq_true h1
                have h2 := Nat.eq_of_beq_eq_true h2
                rw [hal] at h2 h3
                obtain ⟨y, hy1⟩ := hy f List.mem_cons_self
                rw [h1, h2] at hy1
                obtain ⟨pa, p1, p2⟩ := ih s f.type a m _ y ha (hf f List.mem_cons_self) (fun hs v hv => hsp hs v (mem_take_drop hv)) hy1
                obtain ⟨pb, q1, q2⟩ := ihr (o + a.length) b hb h3 (fun g hg => hf g (List.mem_cons_of_mem _ hg)) (fun g hg => hy g (List.mem_cons_of_mem _ hg))
                refine ⟨pa ++ pb, ?_, fun hs z hz => ?_⟩
                · rw [List.length_append, sum_take]
                  exact p1.append q1
                · rcases List.mem_append.1 hz with hz | hz
                  · exact p2 hs z hz
                  · exact q2 hs z hz
        obtain ⟨aa, h1, h2⟩ := fields fs.toList 0 ks hck hoff (fun f hf => List.all_eq_true.1 hall f hf) (fun f hf => by
          obtain ⟨i, hi⟩ := List.getElem?_of_mem hf
          have hi' : fs[i]? = some f := by rw [← Array.getElem?_toList]; exact hi
          have := hxs i f hi'
          have hlt : i < xs.length := by
            rw [hxl]
            exact (Array.getElem?_eq_some_iff.1 hi').1
          rw [List.getElem?_eq_getElem hlt] at this
          exact ⟨_, this⟩)
        have hcs : (cs.drop 0).take ks.length = cs := by
          rw [List.drop_zero]
          refine List.take_of_length_le ?_
          have h3 := Nat.eq_of_beq_eq_true hcl
          have h4 : ckLen P (n + 1) t = ks.length := by
            unfold ckLen ckOf
            rw [hu]
            dsimp only
            rw [hck]
          omega
        rw [hcs] at h1
        exact ⟨aa, h1, h2⟩
      | _ => cases hok
/-! ### parameters -/
theorem cell_spot {r : Reach} {b0 : Nat} {u : TypeId} {v : Value} (h : Cell.okWide P w r b0 u v) : isSliceV v = true := by
  cases v with
  | slice a len cap =>
    cases a with
    | none => rfl
    | some a =>
      have h' : Cell.ok P w r b0 u (.slice (some a) len cap) := by
        unfold Cell.okWide at h
        split at h <;> first | exact h | (rename_i hh; cases hh)
      unfold Cell.ok at h'
      split at h' <;> first
        | (rename_i hh; cases hh; done)
        | (rename_i e a' len' cap' _ hh
           injection hh with h1 h2 h3
           injection h1 with h1
           subst h1
           show a.spot.isNone = true
           rw [h'.2.2.2.1]; rfl)
        | exact h'.elim
  | _ => rfl
theorem cell_noAgg {r : Reach} {b0 : Nat} {u : TypeId} {cs : Array Value} (h : Cell.okWide P w r b0 u (.agg cs)) : False := by
  have h' : Cell.ok P w r b0 u (.agg cs) := by
    unfold Cell.okWide at h
    split at h <;> first | exact h | (rename_i hh; cases hh)
  unfold Cell.ok at h'
  split at h' <;> first | (rename_i hh; cases hh; done) | exact h'
def aggT (P : Program) (t : TypeId) : Bool := match P.underlying t with
  | some (.struct _) => true
  | some (.array _ _) => true
  | _ => false
theorem open_cell {r : Reach} {b0 n : Nat} {t : TypeId} {v : Value} {d : DataW H} {ps : List MemPlace} {k : CK} (hck : ckOf P n t = some [k]) (hok : openOk P n true t = true) (ha : aggT P t = false) (hval : Value.okWide P w r b0 t v) (hd : DataW.Trod enc P w base spare held t v d ps) :
    ∃ a, VRel nobody w v a ∧ ((tyl [k]).mk [a]).1 = true ∧ okA a := by
  have hc : Cell.okWide P w r b0 t v := by
    unfold Value.okWide at hval
    unfold aggT at ha
    split at hval <;> first | exact hval | (rename_i hh; rw [hh] at ha; cases ha)
  have hcells : v.cells.toList = [v] := by
    cases v with
    | agg cs => exact (cell_noAgg hc).elim
    | _ => rfl
  obtain ⟨fuel, h⟩ := hd
  rw [hcells] at h
  obtain ⟨aa, h1, _⟩ := trod_opened n true t [k] fuel [v] _ hck hok (fun _ u hu => by rw [List.mem_singleton.1 hu]; exact cell_spot hc) h
  obtain ⟨a, rfl⟩ : ∃ a, aa = [a] := List.length_eq_one_iff.1 h1.la
  exact ⟨a, h1.rel 0 (by show 0 < 1; omega), h1.made, h1.ok a List.mem_cons_self⟩
theorem open_agg {r : Reach} {b0 n : Nat} {t : TypeId} {v : Value} {d : DataW H} {ps : List MemPlace} {ks : List CK} (hck : ckOf P n t = some ks) (hok : openOk P n true t = true) (ha : aggT P t = true) (hval : Value.okWide P w r b0 t v) (hd : DataW.Trod enc P w base spare held t v d ps) :
    ∃ (cs : Array Value) (aa : List A), v = .agg cs ∧ Opened w ks cs.toList aa := by
  have hc : ∃ cs, v = .agg cs ∧ cs.size = P.cellsOf t ∧ Row.okWide P w r b0 t cs := by
    unfold Value.okWide at hval
    unfold aggT at ha
    split at hval <;> first | exact hval | (split at ha <;> simp_all)
  obtain ⟨cs, rfl, _, ts, _, _, hrow⟩ := hc
  obtain ⟨fuel, h⟩ := hd
  obtain ⟨aa, h1, _⟩ := trod_opened n true t ks fuel cs.toList _ hck hok (fun _ u hu => by
    obtain ⟨i, hi⟩ := List.getElem?_of_mem hu
    obtain ⟨q, _, hq⟩ := hrow i u (by rw [← Array.getElem?_toList]; exact hi)
    exact cell_spot hq) h
  exact ⟨cs, aa, rfl, h1⟩
/-- what a struct is between calls -/
theorem Opened.ir {ks : List CK} {cs : Array Value} {aa : List A} (h : Opened w ks cs.toList aa) (id : Nat) : IR nobody w id (.agg cs) (.agg aa) := by
  refine ⟨cs, rfl, ?_, fun j hj => VRel.ic ?_⟩
  · rw [← Array.length_toList, h.lc, h.la]
  · have := h.rel j (by rw [← h.la]; exact hj)
    rw [List.getD_eq_getElem?_getD, Array.getElem?_toList, ← Array.getD_eq_getD_getElem?] at this
    exact this
theorem VRel.ir {id : Nat} {v : Value} {a : A} (h : VRel nobody w v a) : IR nobody w id v a := by
  have := h.ic (id := id)
  cases h <;> exact this
end
end Go.Proofs.YtegnjlmdppobmaaGreat.Vm

/-
  BundleDecode: WHATEVER THE INPUT, the law returns true, and each argument reads as it read before. Conditions: none.
-/
namespace Go.Proofs.YtegnjlmdppobmaaGreat.bundleDecode
open Go.ChangeShapes Go.WideShapes Go.ChangeAt Go.RowKit
open Go.Proofs.YtegnjlmdppobmaaGreat.Vm
set_option linter.unusedVariables false

theorem own : ownKnob Tryz.prog.godebug = none := by kernel_rfl
theorem laidOut : laidOutB Tryz.prog = true := by kernel_rfl

set_option maxRecDepth 100000 in
theorem lifted (os : Os) (started : os.Started) (H : Type) (enc : TypeId × Value → H) :
    ReturnsInHanded {} Tryz.checked os 4 .any (Rows.bundleDecodeSpec.pre6 enc Tryz.prog Tryz.f4 Rows.bundleDecodeRow.domain false) (Rows.bundleDecodeSpec.post enc Tryz.prog Tryz.f4 false true false false) := by
  refine returnsInHanded_of_change (C := Tryz.checked) own started (by kernel_rfl) Tryz.func4
    (ChangeSpec.witness6 (enc := enc) (C := Tryz.checked) false ⟨#[], #[.string ByteArray.empty, .slice none 0 0], []⟩ 8 (by kernel_rfl) (by kernel_rfl) (by kernel_rfl) (by kernel_rfl)) ?_
  intro W base args ds gs before hval0 hW hcnd _
  have hval : ∀ (j : Nat) t v, Tryz.f4.params[j]? = some t → args[j]? = some v → Value.okWide Tryz.prog W .any base t v := hval0
  have hW' := hW
  obtain ⟨p, q, hA0, hV, rfl, hfz, hnd⟩ := hW
  have hA : DataW.TrodAll enc Tryz.prog W 0 (fun _ => true) true Tryz.f4.params.toList args.toList ds p := hA0
  rw [Tryz.params4] at hA hval
  obtain ⟨v0, vs0, d0, ds0, p0, q0, hargs, rfl, rfl, h0, r0⟩ := trodAll_cons hA
  obtain ⟨v1, vs1, d1, ds1, p1, q1, rfl, rfl, rfl, h1, r1⟩ := trodAll_cons r0
  obtain ⟨rfl, rfl, rfl⟩ := trodAll_nil r1
  obtain rfl : args = #[v0, v1] := by cases args; simp_all
  obtain ⟨rfl, rfl⟩ := trodVars_none hV
  have hlt0 : ∀ x ∈ p0, x.block < W.heap.size := fun x hx => by have := hW'.lt x (by simp [hx]); simpa using this
  have hk0 := h0
  obtain ⟨a0, re0, ma0, b0⟩ := open_cell (n := 20) (t := 9) (k := .str) (by kernel_rfl) (by kernel_rfl) (by kernel_rfl) (hval 0 9 v0 rfl rfl) h0
  obtain ⟨x0, rfl⟩ : ∃ x : Bs, a0 = .str x := ⟨((tyl [.str]).mk [a0]).2, (List.cons.inj (Ty.mk_cells _ _ ma0)).1.symm⟩
  have hlt1 : ∀ x ∈ p1, x.block < W.heap.size := fun x hx => by have := hW'.lt x (by simp [hx]); simpa using this
  have hk1 := h1
  obtain ⟨a1, re1, ma1, b1⟩ := open_cell (n := 20) (t := 26) (k := (.sl 3 (.int .i64 .nil))) (by kernel_rfl) (by kernel_rfl) (by kernel_rfl) (hval 1 26 v1 rfl rfl) h1
  obtain ⟨x1, rfl⟩ : ∃ x : List Int, a1 = .sl ⟨(.int .i64 .nil), x⟩ := ⟨((tyl [(.sl 3 (.int .i64 .nil))]).mk [a1]).2, (List.cons.inj (Ty.mk_cells _ _ ma1)).1.symm⟩
  clear hA0 hval0
  simp only [List.append_nil] at hW'
  have hF : (Sig.of [.cell false .str, .cell false (.sl 3 (.int .i64 .nil))] [.cell false .bool] (fun a => law20_BundleDecode 1048576 a.1 a.2)).F [.str x0, .sl ⟨(.int .i64 .nil), x1⟩] = some [.bool true] :=
    Sig.of_F (pars := [.cell false .str, .cell false (.sl 3 (.int .i64 .nil))]) (ress := [.cell false .bool]) (f := fun a => law20_BundleDecode 1048576 a.1 a.2) (a := (x0, x1)) (o := true) rfl (Pl.decode_law2 x0 x1 b1.1)
  refine (law_calls (law20_BundleDecode_spec 1048576) (xs := [.str x0, .sl ⟨(.int .i64 .nil), x1⟩]) hF rfl rfl rfl (by show 2 ≤ 100; omega) (fun j hj => ?_)).mono fun e W' ⟨he, bel⟩ => ?_
  · have hj' : j < 2 := hj
    have : j = 0 ∨ j = 1 := by omega
    rcases this with rfl | rfl
    · exact re0.ir
    · exact re1.ir
  subst he
  exact ⟨_, rfl, _, _, _, [], _, [], hW', trodAll_mk1 (shut_bool Tryz.underlying4 _), (trodAll_cons_mk (Below.trod laidOut (by kernel_rfl) (of_decide_eq_true (by kernel_rfl)) hk0 bel hlt0) (trodAll_cons_mk (Below.trod laidOut (by kernel_rfl) (of_decide_eq_true (by kernel_rfl)) hk1 bel hlt1) trodAll_mk0)), rfl, bel.frame _, fun h => by cases h⟩

theorem over : Rows.bundleDecodeRow.holds Tryz.pinned (OpenSpec.ofChange Rows.bundleDecodeSpec) :=
  OpenClaim.holds_of_wide 4 Tryz.f4 rfl rfl rfl rfl rfl rfl rfl ⟨rfl, rfl, rfl, rfl, rfl⟩ rfl rfl rfl rfl rfl (by kernel_rfl) Tryz.func4 (by kernel_rfl)
    (of_decide_eq_true (by kernel_rfl)) (by unfold Func.isWrapper; first | (rw [if_pos (by decide +kernel)]; kernel_rfl) | (rw [if_neg (by decide +kernel)]; exact ⟨rfl, rfl⟩))
    (fun os started H enc _ => lifted os started H enc)

/-- THE STATEMENT -/
theorem proved : Rows.BundleDecodeSaid := over
#print axioms proved
end Go.Proofs.YtegnjlmdppobmaaGreat.bundleDecode
