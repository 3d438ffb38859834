/-
  BundleDecode: whatever the input, the law returns true, and each argument reads as it read before. Conditions: none. (part 2 of 6.)
-/
import Derived.Test.YtegnjlmdppobmaaGreatA1
import Derived.Lib.ConvBytes
import Derived.Calls
import Derived.LoopN
import Derived.Tactics
import Derived.Orders
import Derived.OwnWalk
set_option linter.unusedVariables false
set_option linter.unusedSimpArgs false
/-
  The small machine's operations against the real ones: append, put together.
-/
namespace Go.Proofs.YtegnjlmdppobmaaGreat.Vm
open Classical

section
variable {P : Program} {C : Ctx} {V0 : Nat → Value} {O0 O : Own} {w0 w : World} {m : Nat → Value} {st : St} {a : Act} {o : Oper}

/-- the cells of a row that has grown into a new block -/
theorem held_grown {sz cap : Nat} {es ns : List (List A)} {olds news : List Value} {z : Array Value} (hes : ∀ x ∈ es, x.length = sz) (hns : ∀ x ∈ ns, x.length = sz) (hol : olds.length = es.length * sz) (hnl : news.length = ns.length * sz) (hz : z.size = sz) (hcap : es.length + ns.length ≤ cap)
    (ho : ∀ i j, i < es.length → j < sz → VRel O w (olds.getD (i * sz + j) undef) ((es.getD i []).getD j .undef)) (hn : ∀ i j, i < ns.length → j < sz → VRel O w (news.getD (i * sz + j) undef) ((ns.getD i []).getD j .undef)) :
    (olds.toArray ++ news.toArray ++ Builtin.zeroCells z (cap - (es.length + ns.length))).size = cap * sz ∧ Held O w (olds.toArray ++ news.toArray ++ Builtin.zeroCells z (cap - (es.length + ns.length))) sz (es ++ ns) := by
  refine ⟨?_, fun x hx => (List.mem_append.1 hx).elim (hes x) (hns x), fun i j hi hj => ?_⟩
  · simp only [Array.size_append, List.size_toArray, hol, hnl, size_zeroCells, hz]
    rw [← Nat.add_mul, ← Nat.add_mul]; congr 1; omega
  · rw [List.length_append] at hi
    by_cases hil : i < es.length
    · have hlt : i * sz + j < es.length * sz := by
        have : (i + 1) * sz ≤ es.length * sz := Nat.mul_le_mul_right _ hil
        rw [Nat.add_mul] at this; omega
      refine ⟨olds.getD (i * sz + j) undef, ?_, ?_⟩
      · rw [Array.append_assoc, Array.getElem?_append_left (by simp; omega)]
        simp [List.getD_eq_getElem?_getD, show i * sz + j < olds.length from by omega]
      · have e1 : (es ++ ns).getD i [] = es.getD i [] := by
          simp only [List.getD_eq_getElem?_getD]; rw [List.getElem?_append_left hil]
        rw [e1]; exact ho i j hil hj
    · obtain ⟨i', rfl⟩ : ∃ i', i = es.length + i' := ⟨i - es.length, by omega⟩
      have hi' : i' < ns.length := by omega
      have hlt : i' * sz + j < ns.length * sz := by
        have : (i' + 1) * sz ≤ ns.length * sz := Nat.mul_le_mul_right _ hi'
        rw [Nat.add_mul] at this; omega
      have hidx : (es.length + i') * sz + j = es.length * sz + (i' * sz + j) := by rw [Nat.add_mul]; omega
      refine ⟨news.getD (i' * sz + j) undef, ?_, ?_⟩
      · rw [hidx, Array.append_assoc, Array.getElem?_append_right (by simp; omega), Array.getElem?_append_left (by simp; omega)]
        have : es.length * sz + (i' * sz + j) - olds.toArray.size = i' * sz + j := by simp; omega
        rw [this]
        simp [List.getD_eq_getElem?_getD, show i' * sz + j < news.length from by omega]
      · have e1 : (es ++ ns).getD (es.length + i') [] = ns.getD i' [] := by
          simp only [List.getD_eq_getElem?_getD]; rw [List.getElem?_append_right (by omega), Nat.add_sub_cancel_left]
        rw [e1]; exact hn i' j hi' hj

theorem drew_cell (w : World) (b k : Nat) : w.drew.cell? (at' b k) = w.cell? (at' b k) := rfl

/-- append: from what the two operands are -/
theorem append_core {c : Call} {s y : Operand} {t u e : Nat} {te tu : TI} {ti : TI} (hC : TOk P C) (hS : Sim V0 O0 w0 O m st a w) {d : Tmp} (hd : o.dst = some d) (ho : o.op = .call c) (hcal : c.callee = .builtin .append) (hargs : c.args = #[s, y]) (hty : c.argTypes.toList = [t, u])
    (ht : C.T t = some ti) (hte : ti.d = .slice e) (hte' : C.T e = some te) (htu : C.T u = some tu) (hsl : isSlStr tu.d = true) {frz : Bool} {l l' : Sl} {ns : List (List A)} {news : List Value} {del : List Nat}
    (hsrc : Src P O w te.cs.length (a.eval y) ns news) (h0 : 0 < te.cs.length) (hb : (l.es.length + ns.length) * (te.bytes + 1) ≤ 140737488355328) (hfresh : Fresh st (b2 d))
    (hel : l'.es = l.es ++ ns) (hls : l.sz = te.cs.length) (hls' : l'.sz = te.cs.length)
    (hx : (True ∧ l.es = [] ∧ a.eval s = .slice none 0 0) ∨ (True ∧ ∃ q g cap cur, del = [q] ∧ aget st.objs q = some (.arr e frz l) ∧ m q = .slice (some (at' g 0)) l.es.length cap ∧ a.eval s = .slice (some (at' g 0)) l.es.length cap ∧ RowAt w g cur e)) :
    ∀ (next : Act → World → Prop) (Q : Exit → Act → World → Prop), (∀ O' m' a' w', Sim V0 O0 w0 O' m' { tmps := st.tmps.set d (.own (b2 d)), objs := setAll (delAll st.objs del) [(b2 d, .arr e frz l')] } a' w' → next a' w') → o.wp P a w next Q := by
  intro next Q hn
  have hat : c.argTypes = #[t, u] := by
    have := congrArg List.toArray hty
    simpa using this
  have hu := (hC.is ht).d
  rw [hte] at hu
  have hu2 := (hC.is htu).d
  have hT := hC.is hte'
  obtain ⟨i, z, g1, g2, g3, g4, g5, g6⟩ := hT.i
  have hzs : z.cells.size = te.cs.length := by
    rw [← Array.length_toList]; exact (zeroFits_rel (O := O) (objs := []) (m := fun _ => undef) (w := w) _ _ g5).1
  have hbb : (l.es.length + ns.length) * te.bytes ≤ 140737488355328 ∧ l.es.length + ns.length ≤ 140737488355328 := by
    rw [Nat.mul_add, Nat.mul_one] at hb; omega
  have hexec : ∀ v w', (Builtin.append_ #[t, u] o.type #[a.eval s, a.eval y]).run P w = .ok v w' → (execOp a.eval o).run P w = .ok (.value v) w' := by
    intro v w' h
    simp only [execOp, ho, resolve, hcal, hargs, hat, Sem.run_bind, Sem.run_pure, Result.andThen_ok, invoke, builtin]
    have : (#[s, y].map a.eval) = #[a.eval s, a.eval y] := by simp
    rw [this, h]; rfl
  have hlen := hsrc.len w
  have hcells := hsrc.cells w (fun _ _ _ h => h)
  have hcells' := hsrc.cells w.drew (fun _ _ _ h => h)
  rcases hx with ⟨_, hes, hsv⟩ | ⟨_, q, g, cap, cur, hdel, hq, hmq, hsv, hg⟩
  · rw [hes] at hel hbb
    simp only [List.nil_append] at hel
    simp only [List.length_nil, Nat.zero_add] at hbb
    by_cases hn0 : ns.length = 0
    · have hns : ns = [] := List.eq_nil_of_length_eq_zero hn0
      have := run_append_in (P := P) (w := w) (w' := w) (t := t) (u := u) (ty := o.type) (base := none) (sLen := 0) (sCap := 0) (news := news) hu hu2 hsl g1 hlen (by rw [g2]; exact hcells) (by simp [hn0]) rfl
      rw [← hsv, hn0] at this
      unfold Oper.wp
      rw [hexec _ _ this, Oper.upon_value, hd]
      obtain ⟨t', xs'⟩ := l'
      have hxs : xs' = [] := xs_nil (l := ⟨t', xs'⟩) (by rw [hel, hns])
      subst hxs
      obtain ⟨O', m', h⟩ := nilRow_sim hS (d := d) (e := e) (t := t') (frz := frz) (del := del) hfresh
      exact hn O' m' _ _ h
    · have := run_append_out (P := P) (w := w) (t := t) (u := u) (ty := o.type) (base := none) (sLen := 0) (sCap := 0) (olds := []) (news := news) hu hu2 hsl g1 g4 hlen rfl (by rw [g2]; exact hcells') (by omega) (by rw [g3]; simpa using hbb.1) (.inr (by have := hbb.2; omega))
      rw [← hsv] at this
      unfold Oper.wp
      rw [hexec _ _ this, Oper.upon_value, hd]
      have hge := grownCap_ge w (0 + ns.length) 0 e
      obtain ⟨k1, k2⟩ := held_grown (O := O) (w := w) (cap := grownCap w (0 + ns.length) 0 e) (z := z.cells) (es := []) (olds := []) (by simp) hsrc.each (by simp) hsrc.size hzs (by simpa using hge) (fun i j hi => by simp at hi) hsrc.rel
      obtain ⟨O', m', h⟩ := newRow_sim hS (Moves.drew _ _ w) rfl (d := d) (e := e) (cap := grownCap w (0 + ns.length) 0 e) (frz := frz) (l := l') (del := del) (by rw [hel]; simpa using hge) (grownCap_le_maxLen w _ _ _ (by unfold maxLen; have := hbb.2; omega)) (by rw [hls']; exact k1) (by rw [hls', hel]; exact k2) hfresh
      refine hn O' m' _ _ ?_
      rw [hel] at h
      simpa using h
  · subst hdel
    obtain ⟨hsz, hr⟩ := hS.objs q _ hq
    rw [hls] at hsz
    obtain ⟨g', cap', cur', h2, h3, h4, h5, h6, h7, h8, h9⟩ : ∃ g' cap' cur', m q = .slice (some (at' g' 0)) l.es.length cap' ∧ RowAt w g' cur' e ∧ l.es.length ≤ cap' ∧ cap' ≤ maxLen ∧ cur'.size = cap' * te.cs.length ∧
        (∀ i j, i < l.es.length → j < te.cs.length → ∃ u, cur'[i * te.cs.length + j]? = some u ∧ VRel O w u ((l.es.getD i []).getD j .undef)) ∧ (∀ k, k < cur'.size → l.es.length * te.cs.length ≤ k → O g' k = some q) ∧ (∀ k, k < l.es.length * te.cs.length → O g' k = if frz then none else some q) := by
      rcases hr with ⟨_, _, h⟩ | ⟨_, h⟩
      · rw [hmq] at h; cases h
      · rw [hls] at h; exact h
    rw [hmq] at h2
    injection h2 with h2 _ hcc; injection h2 with h2; injection h2 with h2
    subst h2; subst hcc
    obtain ⟨h3, _⟩ := hg.inj h3
    subst h3
    by_cases hroom : l.es.length + ns.length ≤ cap
    · have hst : (storeCells ((at' g 0).add (l.es.length * i.size)) news).run P w = .ok () (w.setCells g (l.es.length * te.cs.length) news) := by
        rw [add_at, Nat.zero_add, g2]
        have hmul : (l.es.length + ns.length) * te.cs.length ≤ cap * te.cs.length := Nat.mul_le_mul_right _ hroom
        rw [Nat.add_mul] at hmul
        have := run_storeCells_cells (P := P) g (l.es.length * te.cs.length) news 0 w (fun j hj => by
          rw [hg.cell]
          rw [hsrc.size] at hj
          have hlt : l.es.length * te.cs.length + j < cur.size := by omega
          simp [hlt]) (fun j hj => by rw [hsrc.size] at hj; exact hg.frozen (by omega)) (hsrc.one h0)
        simpa using this
      have := run_append_in (P := P) (w := w) (t := t) (u := u) (ty := o.type) (base := some (at' g 0)) (sLen := l.es.length) (sCap := cap) (news := news) hu hu2 hsl g1 hlen (by rw [g2]; exact hcells) hroom hst
      rw [← hsv] at this
      unfold Oper.wp
      rw [hexec _ _ this, Oper.upon_value, hd]
      obtain ⟨O', m', h⟩ := growRow_sim hS hq hmq hg hroom hel (by rw [hls', hls]) (by rw [hls]; exact hsrc.size) (by rw [hls]; exact hsrc.each) (by rw [hls]; exact hsrc.rel) hfresh
      rw [hls] at h
      exact hn O' m' _ _ h
    · have hcur : ∀ k, k < l.es.length * te.cs.length → ∃ u, cur[k]? = some u := by
        intro k hk
        have : l.es.length * te.cs.length ≤ cap * te.cs.length := Nat.mul_le_mul_right _ h4
        exact ⟨cur[k]'(by omega), by simp [show k < cur.size from by omega]⟩
      let olds : List Value := (List.range (l.es.length * te.cs.length)).map fun k => cur.getD k undef
      have hold : (Builtin.firstCells i.size l.es.length (.slice (some (at' g 0)) l.es.length cap)).run P w.drew = .ok olds.toArray w.drew := by
        simp only [Builtin.firstCells, g2]
        exact run_loadCells (P := P) w.drew (at' g 0) (l.es.length * te.cs.length) (fun k => cur.getD k undef) (fun k hk => by
          obtain ⟨u, hu'⟩ := hcur k hk
          rw [add_at, Nat.zero_add, drew_cell, hg.cell]
          rw [Array.getD_eq_getD_getElem?, hu']; rfl)
      have := run_append_out (P := P) (w := w) (t := t) (u := u) (ty := o.type) (base := some (at' g 0)) (sLen := l.es.length) (sCap := cap) (olds := olds) (news := news) hu hu2 hsl g1 g4 hlen hold (by rw [g2]; exact hcells') (by omega) (by rw [g3]; exact hbb.1) (.inr (by have := hbb.2; omega))
      rw [← hsv] at this
      unfold Oper.wp
      rw [hexec _ _ this, Oper.upon_value, hd]
      have hge := grownCap_ge w (l.es.length + ns.length) cap e
      obtain ⟨k1, k2⟩ := held_grown (O := O) (w := w) (cap := grownCap w (l.es.length + ns.length) cap e) (z := z.cells) (es := l.es) (olds := olds) hsz hsrc.each (by simp [olds]) hsrc.size hzs hge (fun i j hi hj => by
        obtain ⟨u, h10, h11⟩ := h7 i j hi hj
        have hlt : i * te.cs.length + j < l.es.length * te.cs.length := by
          have : (i + 1) * te.cs.length ≤ l.es.length * te.cs.length := Nat.mul_le_mul_right _ hi
          rw [Nat.add_mul] at this; omega
        have e1 : olds.getD (i * te.cs.length + j) undef = u := by
          simp [olds, List.getD_eq_getElem?_getD, hlt, h10]
        rw [e1]; exact h11) hsrc.rel
      obtain ⟨O', m', h⟩ := newRow_sim hS (Moves.drew _ _ w) rfl (d := d) (e := e) (cap := grownCap w (l.es.length + ns.length) cap e) (frz := frz) (l := l') (del := [q]) (by rw [hel, List.length_append]; exact hge) (grownCap_le_maxLen w _ _ _ (by unfold maxLen; have := hbb.2; omega)) (by rw [hls']; exact k1) (by rw [hls', hel]; exact k2) hfresh
      rw [hel, List.length_append] at h
      exact hn O' m' _ _ h
end
end Go.Proofs.YtegnjlmdppobmaaGreat.Vm

/-
  The small machine's operations against the real ones: stores; append, boxes as operations.
-/
namespace Go.Proofs.YtegnjlmdppobmaaGreat.Vm
open Classical

section
variable {P : Program} {C : Ctx} {V0 : Nat → Value} {O0 O : Own} {w0 w : World} {m : Nat → Value} {st : St} {a : Act} {o : Oper}

theorem append_good {c : Call} {s y : Operand} {t u : Nat} {tu : TI} (hC : TOk P C) (hS : Sim V0 O0 w0 O m st a w) {d : Tmp} (hd : o.dst = some d) (ho : o.op = .call c) (hcal : c.callee = .builtin .append) (hargs : c.args = #[s, y]) (hty : c.argTypes.toList = [t, u])
    (htu : C.T u = some tu) (hsl : isSlStr tu.d = true) {fet : Fet} (hf : Fet' st.objs fet) {x' y' : A} (hx : TRel O st.objs m w (a.eval s) x') (hy : TRel O st.objs m w (a.eval y) y')
    (hok : AllT (appendX C fet d t x' y').ok) (hfr : ∀ p ∈ (appendX C fet d t x' y').new, st.fresh p.1 = true) : Good P V0 O0 w0 (apply st o (appendX C fet d t x' y')) o a w := by
  intro next Q hn
  have hF : FOk O st.objs m w fet := fun q x h => ⟨hf q x h, hS.objs q x (hf q x h)⟩
  unfold appendX at *
  obtain ⟨ti, e, te, ht, hte, hd', he⟩ := elemOf_ok hok
  rw [he] at hok hfr hn; clear he
  split at hok
  · rename_i q
    obtain ⟨r, hr, he⟩ := optX_ok hok
    rw [he] at hok
    dsimp only at hfr hn
    rw [he] at hfr hn; clear he
    obtain ⟨hok1, hok2⟩ := hok.append
    obtain ⟨h1, h2⟩ := hok2.cons
    obtain ⟨h2, h3⟩ := h2.cons
    obtain ⟨h3, h4⟩ := h3.cons
    have h1 := Nat.eq_of_beq_eq_true h1
    have h2 := Nat.eq_of_beq_eq_true h2
    have h3 : 0 < te.cs.length := by rw [← h2]; simpa [Nat.blt_eq] using h3
    have h2 : r.l.t.len = te.cs.length := h2
    have h4 : (r.l.xs.length + (newsOf fet r.l.t y').2.length) * (te.bytes + 1) ≤ 140737488355328 := by simpa using h4.cons.1
    obtain ⟨news, hsrc⟩ := src_of (P := P) hF hy hok1
    have hq := arr?_some hr
    obtain ⟨hv, hO⟩ := hx.own hF hq
    have hq' := hf _ _ hq
    rw [h2] at hsrc
    refine append_core (frz := r.frz) (l := r.l) (l' := ⟨r.l.t, r.l.xs ++ (newsOf fet r.l.t y').2⟩) (del := [q]) hC hS hd ho hcal hargs hty ht hte hd' htu hsl hsrc h3 (by rw [Sl.es_length, Sl.es_length]; exact h4) (fresh_not (hfr _ List.mem_cons_self)) (Sl.es_append _ _ _) h2 h2 ?_ next Q (fun O' m' a' w' h => hn O' m' a' w' ?_)
    · rcases hO.2 with ⟨h5, h6, h7⟩ | ⟨h5, g, cap, cur, h6, h7, _⟩
      · exact .inl ⟨h5, h6, by rw [hv, h7]⟩
      · refine .inr ⟨h5, q, g, cap, cur, rfl, ?_, h6, by rw [hv, h6], ?_⟩
        · rw [hq', h1]
        · rw [h1]; exact h7
    · rw [apply_mk hd]
      rw [h1] at h; exact h
  · obtain ⟨hok1, hok2⟩ := hok.append
    obtain ⟨h3, h4⟩ := hok2.cons
    have h3 : 0 < te.cs.length := by simpa [Nat.blt_eq] using h3
    have h4 : (newsOf fet (tyl te.cs) y').2.length * (te.bytes + 1) ≤ 140737488355328 := by simpa using h4.cons.1
    obtain ⟨news, hsrc⟩ := src_of (P := P) hF hy hok1
    rw [tyl_len] at hsrc
    refine append_core (frz := false) (l := ⟨tyl te.cs, []⟩) (l' := ⟨tyl te.cs, (newsOf fet (tyl te.cs) y').2⟩) (del := []) hC hS hd ho hcal hargs hty ht hte hd' htu hsl hsrc h3 (by rw [Sl.es_nil, Sl.es_length]; simpa using h4) (fresh_not (hfr _ List.mem_cons_self)) (by rw [Sl.es_nil]; rfl) (tyl_len _) (tyl_len _) (.inl ⟨trivial, rfl, hx⟩) next Q (fun O' m' a' w' h => hn O' m' a' w' ?_)
    rw [apply_mk hd]
    exact h
  · exact (not_AllT_no hok).elim

/-! ### boxes -/
theorem boxOp_good {t : Nat} {x : Operand} (hC : TOk P C) (hS : Sim V0 O0 w0 O m st a w) {d : Tmp} (hd : o.dst = some d) (ho : o.op = .box t x) {x' : A} (hx : TRel O st.objs m w (a.eval x) x') (hids : ∀ i ∈ x'.ids, i ∈ st.ids ∨ (aget st.objs i).isSome)
    (hok : AllT (boxX C d t x').ok) (hfr : ∀ p ∈ (boxX C d t x').new, st.fresh p.1 = true) (hnd : nodup ((boxX C d t x').new.map (·.1)) = true) : Good P V0 O0 w0 (apply st o (boxX C d t x')) o a w := by
  refine box_good hC hS hx hids hd (fun ti ht hv hs => ?_) hok hfr hnd
  simp only [execOp, ho, Instr.box, newVar, newRow, Sem.run_bind]
  rfl
theorem allocOp_good {t : Nat} {ti : TI} (hC : TOk P C) (hS : Sim V0 O0 w0 O m st a w) {d : Tmp} (hd : o.dst = some d) (ho : o.op = .alloc t) (ht : C.T t = some ti)
    (hok : AllT (boxX C d t (.agg (ti.cs.map CK.zero))).ok) (hfr : ∀ p ∈ (boxX C d t (.agg (ti.cs.map CK.zero))).new, st.fresh p.1 = true) (hnd : nodup ((boxX C d t (.agg (ti.cs.map CK.zero))).new.map (·.1)) = true) :
    Good P V0 O0 w0 (apply st o (boxX C d t (.agg (ti.cs.map CK.zero)))) o a w := by
  obtain ⟨i, z, h1, h2, _, h3⟩ := zero_rel (O := O) (objs := st.objs) (m := m) (w := w) (hC.is ht)
  refine box_good (v := .agg z.cells) (x := .agg (ti.cs.map CK.zero)) hC hS ⟨z.cells, rfl, h3.1, h3.2⟩ (fun j hj => ?_) hd (fun ti ht hv hs => ?_) hok hfr hnd
  · exfalso
    have : ∀ ks : List CK, (ks.map CK.zero).flatMap A.ids1 = [] := by
      intro ks
      induction ks with
      | nil => rfl
      | cons k ks ih => rw [List.map_cons, List.flatMap_cons, ih]; cases k <;> rfl
    have hj' : j ∈ (ti.cs.map CK.zero).flatMap A.ids1 := hj
    rw [this] at hj'; cases hj'
  · simp only [execOp, ho, Instr.alloc, Sem.run_bind, zeroValue, typeInfo, run_program, Result.andThen_ok, h1, h2, Sem.run_pure, newVar, newRow]
    rfl

/-! ### stores -/
theorem storeVar_run {t : Nat} {ti : TI} (hT : TyIs P t ti) {v : Value} {b k : Nat} (hs : v.cells.size = ti.cs.length) (h1 : ∀ j, j < v.cells.size → (v.cells.getD j undef).oneCell' = true) (hc : ∀ j, j < v.cells.size → (w.cell? (at' b (k + j))).isSome = true) (hf : ∀ j, j < v.cells.size → w.frozen? (at' b (k + j)) = false) :
    (storeVar t (at' b k) v).run P w = .ok () (w.setCells b k v.cells.toList) := by
  have := run_storeCells_cells (P := P) b k v.cells.toList 0 w (fun j hj => by simpa using hc j (by simpa using hj)) (fun j hj => by simpa using hf j (by simpa using hj)) (fun u hu => by
    obtain ⟨j, hj, he⟩ := List.mem_iff_getElem.1 hu
    have := h1 j (by simpa using hj)
    rw [Array.getD_eq_getD_getElem?, Array.getElem?_eq_getElem (by simpa using hj)] at this
    rw [← he]; simpa using this)
  unfold storeVar
  simp only [Sem.run_bind, hT.runSize, Result.andThen_ok]
  rw [if_neg (by simpa using hs)]
  simpa using this

theorem storeBox_good {t : Nat} {x y : Operand} (hC : TOk P C) (hS : Sim V0 O0 w0 O m st a w) (hd : o.dst = none) (ho : o.op = .store t x y) {fet : Fet} (hf : Fet' st.objs fet) {q off : Nat} {v' : A} (hx : TRel O st.objs m w (a.eval x) (.ptr q off)) (hy : TRel O st.objs m w (a.eval y) v')
    (hids : ∀ i ∈ v'.ids, i ∈ st.ids ∨ (aget st.objs i).isSome)
    (hok : AllT (storeX C fet t (.ptr q off) v').ok) (hfr : ∀ p ∈ (storeX C fet t (.ptr q off) v').new, st.fresh p.1 = true) (hnd : nodup ((storeX C fet t (.ptr q off) v').new.map (·.1)) = true) : Good P V0 O0 w0 (apply st o (storeX C fet t (.ptr q off) v')) o a w := by
  intro next Q hn
  have hF : FOk O st.objs m w fet := fun q x h => ⟨hf q x h, hS.objs q x (hf q x h)⟩
  unfold storeX at *
  obtain ⟨ti, ht, he⟩ := tiOf_ok hok
  rw [he] at hok hfr hnd hn; clear he
  dsimp only at hok hfr hnd hn
  obtain ⟨cs, hcs, he⟩ := optX_ok hok
  rw [he] at hok hfr hnd hn; clear he
  obtain ⟨h1, h2⟩ := hok.cons
  obtain ⟨h2, h3⟩ := h2.cons
  have h2 := Nat.eq_of_beq_eq_true h2
  obtain ⟨h3, h30⟩ := h3.cons
  have h3 := Nat.le_of_ble_eq_true h3
  have h30 : 0 < ti.cs.length := by simpa [Nat.blt_eq] using h30.cons.1
  have hT := hC.is ht
  obtain ⟨b, base, g1, g2, g3⟩ := hx.ptr hF (box?_some hcs)
  have hq := hf _ _ (box?_some hcs)
  have hvc := hy.cells h1
  have hvs : v'.cells.length = ti.cs.length := h2
  have hsz : (a.eval y).cells.size = ti.cs.length := by rw [hvc.1, h2]
  have hr : (execOp a.eval o).run P w = .ok .skip (w.setCells b (base + off) (a.eval y).cells.toList) := by
    have := storeVar_run (P := P) (w := w) (b := b) (k := base + off) hT hsz (fun j hj => (hvc.2 j (by rw [← hvc.1]; exact hj)).one) (fun j hj => by
      obtain ⟨_, _, u, g4, _⟩ := g3 (off + j) (by omega)
      rw [Nat.add_assoc, g4]; rfl) (fun j hj => by
      obtain ⟨_, g4, _⟩ := g3 (off + j) (by omega)
      rw [Nat.add_assoc]; exact g4)
    simp only [execOp, ho, Instr.storeAt, Instr.sureAddr, g2, Sem.run_bind, Sem.run_pure, Result.andThen_ok, this]
  unfold Oper.wp
  rw [hr, Oper.upon_skip]
  -- the block
  obtain ⟨_, _, u0, hu0, _⟩ := g3 off (by omega)
  obtain ⟨c, e, fr, hblk⟩ : ∃ c e fr, w.heap[b]? = some (.cells c e fr) := by
    unfold World.cell? at hu0
    dsimp only at hu0
    split at hu0
    · rename_i c e fr hh; exact ⟨c, e, fr, hh⟩
    · cases hu0
  have hcell : ∀ k u, w.cell? (at' b k) = some u → c[k]? = some u := by
    intro k u hu
    simp only [World.cell?, hblk] at hu
    simpa using hu
  have hend : base + off + (a.eval y).cells.toList.length ≤ c.size := by
    rw [Array.length_toList, hsz]
    obtain ⟨_, _, u, hu, _⟩ := g3 (off + (ti.cs.length - 1)) (by omega)
    have := hcell _ _ hu
    have := (Array.getElem?_eq_some_iff.1 this).1
    omega
  obtain ⟨c', k1, k2, k3, k4, k5, k6, k7, k8⟩ := setCells_heap b (a.eval y).cells.toList (base + off) w hblk hend
  rw [Array.length_toList, hsz] at k3
  have hout : ∀ k, (k < base + off ∨ base + off + ti.cs.length ≤ k) → c'[k]? = c[k]? := by
    intro k hk
    by_cases hks : k < c.size
    · have := k3 k
      rw [if_neg (by omega)] at this
      rw [getD_eq (by omega), getD_eq hks, this]
    · rw [Array.getElem?_eq_none (by omega), Array.getElem?_eq_none (by omega)]
  have hown : ∀ k, base + off ≤ k → k < base + off + ti.cs.length → O b k = some q := by
    intro k hk1 hk2
    have := (g3 (k - base) (by omega)).1
    rwa [show base + (k - base) = k from by omega] at this
  let w' := w.setCells b (base + off) (a.eval y).cells.toList
  have hM : Moves O (fun i => i = q) w w' := by
    refine Moves.row k6 k7 k8 k5 hblk k1 k4 k2 (fun k hk => hout k ?_) (.inl ⟨base + off, q, ?_, hown _ (Nat.le_refl _) (by omega), rfl⟩)
    · rcases Nat.lt_or_ge k (base + off) with h | h
      · exact .inl h
      · right
        rcases Nat.lt_or_ge k (base + off + ti.cs.length) with h' | h'
        · exact absurd rfl (hk q (hown k h h'))
        · exact h'
    · rw [Array.length_toList, hsz] at hend; omega
  have hP : Passes O O (fun i => i = q) w.heap.size := ⟨fun _ _ _ h => h, fun _ _ _ _ h _ => h⟩
  have hpr := hM.pres hP
  let ad := adopt (rowBase fet q + 1 + off) ti.cs v'.cells
  let m' : Nat → Value := fun i => if has (ad.2.map (·.1)) i then .slice none 0 0 else m i
  let Nw : Nat → Prop := fun i => ∃ p ∈ ad.2, p.1 = i
  have hNw : ∀ i, Nw i → Fresh st i := by
    rintro i ⟨p, hp, rfl⟩
    exact fresh_not (hfr p hp)
  have hm_not : ∀ i, ¬ Nw i → m' i = m i := by
    intro i hi
    refine if_neg (fun h => hi ?_)
    obtain ⟨p, hp, hpe⟩ := List.mem_map.1 (has_mem.1 h)
    exact ⟨p, hp, hpe⟩
  have hmad : ∀ p ∈ ad.2, m' p.1 = .slice none 0 0 := fun p hp => if_pos (has_mem.2 (List.mem_map.2 ⟨p, hp, rfl⟩))
  have hqN : ¬ Nw q := fun h => by rw [(hNw q h).2] at hq; cases hq
  let objs' := setAll (delAll (setAll st.objs [(q, .box (splice cs off ad.1))]) []) ad.2
  have hnewO : ∀ p ∈ ad.2, aget objs' p.1 = some p.2 := fun p hp => aget_new hnd (by exact hp)
  have hget : ∀ i z, aget objs' i = some z → (i, z) ∈ ad.2 ∨ (¬ Nw i ∧ i = q ∧ z = .box (splice cs off ad.1)) ∨ (¬ Nw i ∧ i ≠ q ∧ aget st.objs i = some z) := by
    intro i z hz
    rcases aget_apply hz with h | ⟨hno, _, h⟩
    · exact .inl h
    · have hni : ¬ Nw i := by rintro ⟨p, hp, rfl⟩; exact hno p.2 hp
      rcases h with h | ⟨hno', h⟩
      · simp only [List.mem_singleton] at h
        injection h with e1 e2
        exact .inr (.inl ⟨hni, e1, e2⟩)
      · exact .inr (.inr ⟨hni, fun hiq => hno' (.box (splice cs off ad.1)) (by rw [hiq]; exact List.mem_singleton_self _), h⟩)
  have hE : Exts st.objs m objs' m' Nw := by
    intro i z hz
    rcases hget i z hz with h | ⟨hni, h1', h2'⟩ | ⟨hni, _, h⟩
    · exact .inl ⟨_, h, rfl⟩
    · subst h1'; subst h2'
      exact .inr ⟨_, hq, rfl, hm_not _ hni⟩
    · exact .inr ⟨z, h, rfl, hm_not _ hni⟩
  have hadl : ad.1.length = ti.cs.length := by rw [(adopt_spec ti.cs v'.cells (rowBase fet q + 1 + off)).1, hvs]
  have happ : apply st o { ok := [v'.isVal, Nat.beq v'.cells.length ti.cs.length, Nat.ble (off + ti.cs.length) cs.length, Nat.blt 0 ti.cs.length], val := .undef, upd := [(q, .box (splice cs off ad.1))], new := ad.2 } = { tmps := put st.tmps none .undef, objs := objs' } := by
    unfold apply; rw [hd]
  refine hn O m' _ _ ?_
  rw [happ, hd]
  refine hS.next (st' := { tmps := put st.tmps none .undef, objs := objs' }) (d := none) (x := .undef) (T := fun i => i = q) (Nw := Nw) hM hP (fun b k _ h => h) hE (fun n hn' => (hNw n hn').both) (fun r hr => by rw [hr, hq]; rfl) (fun i z hz => ?_) rfl (fun h => absurd rfl h)
  rcases hget i z hz with h | ⟨hni, h1', h2'⟩ | ⟨hni, hiq, h⟩
  · right
    obtain ⟨⟨e', sz', h4⟩, _⟩ := (adopt_spec ti.cs v'.cells (rowBase fet q + 1 + off)).2.2 _ h
    dsimp only at h4
    subst h4
    exact ⟨⟨by simp [Sl.es], .inl ⟨trivial, rfl, hmad _ h⟩⟩, (hNw _ ⟨_, h, rfl⟩).ne⟩
  · right
    subst h1'; subst h2'
    have hcs' : CsRel O objs' m' w' (a.eval y).cells ad.1 := hvc.adopted (ks := ti.cs) (id := rowBase fet i + 1 + off) hpr hE (fun j hj r hr' hn' => by
      rcases hids r (cells_ids h1 hj hr') with hh | hh
      · exact (hNw r hn').1 hh
      · rw [(hNw r hn').2] at hh; cases hh) (fun p hp => ⟨hnewO p hp, hmad p hp⟩)
    refine ⟨⟨b, base, by rw [hm_not _ hni]; exact g1, fun j hj => ?_⟩, hS.ids _ _ hq⟩
    rw [splice_length _ _ _ (by rw [hadl]; omega)] at hj
    obtain ⟨g4, g5, u, g6, g7⟩ := g3 j hj
    refine ⟨g4, by rw [hM.frozen (cell_lt g6)]; exact g5, ?_⟩
    rw [splice_getD _ _ _ _ (by rw [hadl]; omega), hadl]
    have hcell' : ∀ k, w'.cell? (at' b k) = c'[k]? := by intro k; simp only [World.cell?]; rw [k1]; rfl
    rw [hcell']
    have hjs : base + j < c.size := (Array.getElem?_eq_some_iff.1 (hcell _ _ g6)).1
    by_cases hin : off ≤ j ∧ j < off + ti.cs.length
    · rw [if_pos hin]
      refine ⟨_, getD_eq (by omega), ?_⟩
      rw [k3, if_pos (by omega)]
      have e1 : (a.eval y).cells.toList.getD (base + j - (base + off)) undef = (a.eval y).cells.getD (j - off) undef := by
        rw [Array.getD_eq_getD_getElem?, List.getD_eq_getElem?_getD, Array.getElem?_toList, show base + j - (base + off) = j - off from by omega]
      rw [e1]
      exact hcs'.2 (j - off) (by rw [hadl]; omega)
    · rw [if_neg hin, hout _ (by omega)]
      exact ⟨u, hcell _ _ g6, g7.step hpr hE (fun r hr' hn' => (hNw r hn').1 (mem_ids_objs hq (mem_flat hj hr')))⟩
  · exact .inl ⟨hiq, h, hm_not _ hni⟩
end
end Go.Proofs.YtegnjlmdppobmaaGreat.Vm

/-
  The small machine's operations against the real ones: a store into a row of the call's own.
-/
namespace Go.Proofs.YtegnjlmdppobmaaGreat.Vm
open Classical

section
variable {P : Program} {C : Ctx} {V0 : Nat → Value} {O0 O : Own} {w0 w : World} {m : Nat → Value} {st : St} {a : Act} {o : Oper}

theorem splice_getD' (l : List A) (off : Nat) (vs : List A) (i : Nat) (h : off + vs.length ≤ l.length) : (splice l off vs).getD i .undef = if off ≤ i ∧ i < off + vs.length then vs.getD (i - off) .undef else l.getD i .undef := splice_getD l off vs i h

/-- cells of one element of a row set anew: what the row holds then -/
theorem storeRow_sim (hS : Sim V0 O0 w0 O m st a w) {q e g cap i off : Nat} {l l' : Sl} {cur : Array Value} {vs : List Value} {xs : List A}
    (hq : aget st.objs q = some (.arr e false l)) (hm : m q = .slice (some (at' g 0)) l.es.length cap) (hg : RowAt w g cur e) (hi : i < l.es.length) (hel : l'.es = l.es.set i (splice (l.es.getD i []) off xs)) (hls : l'.sz = l.sz) (hle : off + xs.length ≤ l.sz) (hl : vs.length = xs.length) (h0 : 0 < xs.length)
    (hv : ∀ j, j < xs.length → VRel O w (vs.getD j undef) (xs.getD j .undef)) :
    Sim V0 O0 w0 O m { st with objs := aset st.objs q (.arr e false l') } a (w.setCells g (i * l.sz + off) vs) := by
  obtain ⟨hsz, hr⟩ := hS.objs q _ hq
  obtain ⟨g', cap', cur', h2, h3, h4, h5, h6, h7, h8, h9⟩ : ∃ g' cap' cur', m q = .slice (some (at' g' 0)) l.es.length cap' ∧ RowAt w g' cur' e ∧ l.es.length ≤ cap' ∧ cap' ≤ maxLen ∧ cur'.size = cap' * l.sz ∧
      (∀ i j, i < l.es.length → j < l.sz → ∃ u, cur'[i * l.sz + j]? = some u ∧ VRel O w u ((l.es.getD i []).getD j .undef)) ∧ (∀ k, k < cur'.size → l.es.length * l.sz ≤ k → O g' k = some q) ∧ (∀ k, k < l.es.length * l.sz → O g' k = if false then none else some q) := by
    rcases hr with ⟨_, _, h⟩ | ⟨_, h⟩
    · rw [hm] at h; cases h
    · exact h
  rw [hm] at h2
  injection h2 with h2 _ hcc; injection h2 with h2; injection h2 with h2
  subst h2; subst hcc
  obtain ⟨h3, _⟩ := hg.inj h3
  subst h3
  obtain ⟨fr, hg, hfr0⟩ := hg
  have hmul : l.es.length * l.sz ≤ cap * l.sz := Nat.mul_le_mul_right _ h4
  have hrow : i * l.sz + off + xs.length ≤ l.es.length * l.sz := by
    have : (i + 1) * l.sz ≤ l.es.length * l.sz := Nat.mul_le_mul_right _ hi
    rw [Nat.add_mul] at this; omega
  obtain ⟨c', k1, k2, k3, k4, k5, k6, k7, k8⟩ := setCells_heap g vs (i * l.sz + off) w hg (by rw [hl]; omega)
  rw [hl] at k3
  let w' := w.setCells g (i * l.sz + off) vs
  have hout : ∀ k, (k < i * l.sz + off ∨ i * l.sz + off + xs.length ≤ k) → c'[k]? = cur[k]? := by
    intro k hk
    by_cases hks : k < cur.size
    · have := k3 k
      rw [if_neg (by omega)] at this
      rw [getD_eq (by omega), getD_eq hks, this]
    · rw [Array.getElem?_eq_none (by omega), Array.getElem?_eq_none (by omega)]
  have hown : ∀ k, k < l.es.length * l.sz → O g k = some q := by intro k hk; simpa using h9 k hk
  have hM : Moves O (fun i => i = q) w w' := by
    refine Moves.row k6 k7 k8 k5 hg k1 k4 k2 (fun k hk => hout k ?_) (.inl ⟨i * l.sz + off, q, by omega, hown _ (by omega), rfl⟩)
    rcases Nat.lt_or_ge k (i * l.sz + off) with h | h
    · exact .inl h
    · right
      rcases Nat.lt_or_ge k (i * l.sz + off + xs.length) with h' | h'
      · exact absurd rfl (hk q (hown k (by omega)))
      · exact h'
  have hP : Passes O O (fun i => i = q) w.heap.size := ⟨fun _ _ _ h => h, fun _ _ _ _ h _ => h⟩
  have hpr := hM.pres hP
  have hei : (l.es.getD i []).length = l.sz := hsz _ (by rw [List.getD_eq_getElem?_getD, List.getElem?_eq_getElem hi]; simp)
  have hE : Exts st.objs m (aset st.objs q (.arr e false l')) m (fun _ => False) := by
    intro r y hy
    rw [aget_aset] at hy
    by_cases hrq : r = q
    · subst hrq
      rw [if_pos rfl] at hy; injection hy with hy; subst hy
      exact .inr ⟨_, hq, by simp [Obj.shp, hel, hls], rfl⟩
    · rw [if_neg hrq] at hy; exact .inr ⟨y, hy, rfl, rfl⟩
  have := hS.next (st' := { st with objs := aset st.objs q (.arr e false l') }) (d := none) (v := undef) (x := .undef) (T := fun i => i = q) (Nw := fun _ => False) hM hP (fun b k _ h => h) hE (fun _ h => h.elim) (fun r hr => by rw [hr, hq]; rfl) (fun r y hy => ?_) rfl (fun h => absurd rfl h)
  · exact this
  · rw [aget_aset] at hy
    by_cases hrq : r = q
    · right
      subst hrq
      rw [if_pos rfl] at hy; injection hy with hy; subst hy
      refine ⟨?_, hS.ids _ _ hq⟩
      simp only [ORel]
      rw [hel, hls]
      refine ⟨fun x hx => ?_, .inr ⟨trivial, g, cap, c', by rw [List.length_set]; exact hm, ⟨fr, k1, by rw [k2]; exact hfr0⟩, by rw [List.length_set]; exact h4, h5, by rw [k2]; exact h6, fun r' j hr' hj => ?_, fun k hk hge => ?_, fun k hk => ?_⟩⟩
      · rcases List.mem_or_eq_of_mem_set hx with h | h
        · exact hsz x h
        · rw [h, splice_length _ _ _ (by omega)]; exact hei
      · rw [List.length_set] at hr'
        obtain ⟨u, h10, h11⟩ := h7 r' j hr' hj
        have hlt : r' * l.sz + j < l.es.length * l.sz := by
          have : (r' + 1) * l.sz ≤ l.es.length * l.sz := Nat.mul_le_mul_right _ hr'
          rw [Nat.add_mul] at this; omega
        by_cases hri : r' = i
        · subst hri
          have e1 : (l.es.set r' (splice (l.es.getD r' []) off xs)).getD r' [] = splice (l.es.getD r' []) off xs := by
            simp [List.getD_eq_getElem?_getD, hr']
          rw [e1, splice_getD _ _ _ _ (by omega)]
          by_cases hin : off ≤ j ∧ j < off + xs.length
          · rw [if_pos hin]
            refine ⟨_, getD_eq (by omega), ?_⟩
            rw [k3, if_pos (by omega), show r' * l.sz + j - (r' * l.sz + off) = j - off from by omega]
            exact (hv (j - off) (by omega)).pres hpr
          · rw [if_neg hin, hout _ (by omega)]
            exact ⟨u, h10, h11.pres hpr⟩
        · have e1 : (l.es.set i (splice (l.es.getD i []) off xs)).getD r' [] = l.es.getD r' [] := by
            simp only [List.getD_eq_getElem?_getD, List.getElem?_set]
            rw [if_neg (fun h => hri h.symm)]
          rw [e1, hout _ ?_]
          · exact ⟨u, h10, h11.pres hpr⟩
          · rcases Nat.lt_or_gt_of_ne hri with h | h
            · left
              have : (r' + 1) * l.sz ≤ i * l.sz := Nat.mul_le_mul_right _ h
              rw [Nat.add_mul] at this; omega
            · right
              have : (i + 1) * l.sz ≤ r' * l.sz := Nat.mul_le_mul_right _ h
              rw [Nat.add_mul] at this; omega
      · rw [List.length_set] at hge; rw [k2] at hk; exact h8 k hk hge
      · rw [List.length_set] at hk; simpa using hown k hk
    · rw [if_neg hrq] at hy
      exact .inl ⟨hrq, hy, rfl⟩

theorem storeRow_good {t : Nat} {x y : Operand} (hC : TOk P C) (hS : Sim V0 O0 w0 O m st a w) (hd : o.dst = none) (ho : o.op = .store t x y) {fet : Fet} (hf : Fet' st.objs fet) {q i off : Nat} {v' : A} (hx : TRel O st.objs m w (a.eval x) (.oelt q i off)) (hy : TRel O st.objs m w (a.eval y) v')
    (hok : AllT (storeX C fet t (.oelt q i off) v').ok) : Good P V0 O0 w0 (apply st o (storeX C fet t (.oelt q i off) v')) o a w := by
  intro next Q hn
  unfold storeX at *
  obtain ⟨ti, ht, he⟩ := tiOf_ok hok
  rw [he] at hok hn; clear he
  dsimp only at hok hn
  obtain ⟨r, hr, he⟩ := optX_ok hok
  rw [he] at hok hn; clear he
  obtain ⟨hok1, hok2⟩ := hok.append
  obtain ⟨h1, h2⟩ := hok2.cons
  obtain ⟨hset, h2⟩ := h2.cons
  obtain ⟨h2, h3⟩ := h2.cons
  obtain ⟨h3, h4⟩ := h3.cons
  obtain ⟨h4, hno⟩ := h4.cons
  have hno := hno.cons.1
  have h4 : 0 < ti.cs.length := by simpa [Nat.blt_eq] using h4
  have h1 : r.frz = false := by simpa using h1
  have h2 := Nat.le_of_ble_eq_true h2
  have h3' : i < r.l.xs.length := by simpa using h3
  have h3 : i < r.l.es.length := by rw [Sl.es_length]; exact h3'
  have hT := hC.is ht
  have hval := purs_val hok1
  have hvc := hy.cells hval
  obtain ⟨g1, g2, g3, g4⟩ := purs_spec hf ti.cs v'.cells (fun j => (a.eval y).cells.getD j undef) (fun j hj => hvc.2 j hj) hok1
  obtain ⟨O1, hS1, hp1, hle1, hv1, hE1, _⟩ := hS.freezes _ g3
  have hq := hf _ _ (arr?_some hr)
  have hqU : ∀ p ∈ (purs fet ti.cs v'.cells).2.2, p.1 ≠ q := by
    intro p hp he
    have : has ((purs fet ti.cs v'.cells).2.2.map (·.1)) q = true := has_mem.2 (List.mem_map.2 ⟨p, hp, he⟩)
    rw [this] at hno; cases hno
  have hq1 : aget (setAll st.objs (purs fet ti.cs v'.cells).2.2) q = some (.arr r.e false r.l) := by
    rw [aget_setAll_not _ _ _ hqU, hq, h1]
  have hx' : CRel O st.objs m w (a.eval x) (.oelt q i off) := hx
  obtain ⟨_, hx'⟩ := hx'
  rw [hq] at hx'
  simp only [Option.map_some, Obj.shp] at hx'
  obtain ⟨g, n', cap, h5, h6⟩ := hx' h3
  obtain ⟨hsz, hr'⟩ := hS1.objs q _ hq1
  obtain ⟨cur, h7, h8⟩ : ∃ cur, m q = .slice (some (at' g 0)) r.l.es.length cap ∧ RowAt w g cur r.e ∧ cur.size = cap * r.l.sz ∧ r.l.es.length ≤ cap := by
    rcases hr' with ⟨_, h9, _⟩ | ⟨h9, g', cap', cur, h10, h11, h12, h13, h14, _⟩
    · rw [h9] at h3; simp at h3
    · have h10' := h10
      rw [h5] at h10'
      injection h10' with q1 q2 q3; injection q1 with q1; injection q1 with q1
      subst q1; subst q3
      exact ⟨cur, h10, h11, h14, h12⟩
  obtain ⟨h8, h9, h10⟩ := h8
  have hsz2 : (a.eval y).cells.size = ti.cs.length := by rw [hvc.1, g2]
  have hrow : i * r.l.sz + off + ti.cs.length ≤ cur.size := by
    have : (i + 1) * r.l.sz ≤ r.l.es.length * r.l.sz := Nat.mul_le_mul_right _ h3
    have : r.l.es.length * r.l.sz ≤ cap * r.l.sz := Nat.mul_le_mul_right _ h10
    rw [Nat.add_mul] at *; omega
  have hrun : (execOp a.eval o).run P w = .ok .skip (w.setCells g (i * r.l.sz + off) (a.eval y).cells.toList) := by
    have := storeVar_run (P := P) (w := w) (b := g) (k := i * r.l.sz + off) hT hsz2 (fun j hj => (hvc.2 j (by rw [← hvc.1]; exact hj)).one) (fun j hj => by
      have hlt : i * r.l.sz + off + j < cur.size := by omega
      rw [h8.cell]; simp [hlt]) (fun j hj => h8.frozen (by omega))
    simp only [execOp, ho, Instr.storeAt, Instr.sureAddr, h6, Sem.run_bind, Sem.run_pure, Result.andThen_ok, this]
  unfold Oper.wp
  rw [hrun, Oper.upon_skip]
  have hfin := storeRow_sim hS1 (i := i) (off := off) (vs := (a.eval y).cells.toList) (xs := (purs fet ti.cs v'.cells).2.1) hq1 h7 h8 h3 (Sl.es_set r.l h3' hset) rfl (by rw [g1]; exact h2) (by rw [Array.length_toList, hsz2, g1]) (by rw [g1]; exact h4) (fun j hj => by
    rw [g1] at hj
    have e1 : (a.eval y).cells.toList.getD j undef = (a.eval y).cells.getD j undef := by
      rw [Array.getD_eq_getD_getElem?, List.getD_eq_getElem?_getD, Array.getElem?_toList]
    rw [e1]
    exact g4 hp1 hv1 j hj)
  refine hn O1 m _ _ ?_
  have happ : apply st o { ok := (purs fet ti.cs v'.cells).1 ++ [!r.frz, (r.l.set i off (purs fet ti.cs v'.cells).2.1).1, Nat.ble (off + ti.cs.length) r.l.sz, decide (i < r.l.xs.length), Nat.blt 0 ti.cs.length, !(has ((purs fet ti.cs v'.cells).2.2.map (·.1)) q)], val := .undef, upd := (purs fet ti.cs v'.cells).2.2 ++ [(q, .arr r.e false (r.l.set i off (purs fet ti.cs v'.cells).2.1).2)] } =
      { tmps := st.tmps, objs := aset (setAll st.objs (purs fet ti.cs v'.cells).2.2) q (.arr r.e false (r.l.set i off (purs fet ti.cs v'.cells).2.1).2) } := by
    have hsa : ∀ (l : List (Nat × Obj)) (u : List (Nat × Obj)) (p : Nat × Obj), setAll l (u ++ [p]) = aset (setAll l u) p.1 p.2 := by
      intro l u p
      induction u generalizing l with
      | nil => rfl
      | cons s u ih => exact ih _
    unfold apply
    rw [hd, hsa]
    rfl
  rw [happ, hd]
  exact hfin
end
end Go.Proofs.YtegnjlmdppobmaaGreat.Vm

/-
  The small machine's operations against the real ones: a string's bytes; variables that are arrays.
-/
namespace Go.Proofs.YtegnjlmdppobmaaGreat.Vm
open Classical
open Go.Lib (bytesWorld bytesCells bytesWorld_at_old bytesWorld_at_new bytesWorld_size)

section
variable {P : Program} {C : Ctx} {V0 : Nat → Value} {O0 O : Own} {w0 w : World} {m : Nat → Value} {st : St} {a : Act} {o : Oper}

theorem bytes_moves (w : World) (e : TypeId) (s : ByteArray) : Moves O (fun _ => False) w (bytesWorld w e s) := by
  refine ⟨rfl, rfl, rfl, ?_, fun b hb => .inl (bytesWorld_at_old w e s b hb)⟩
  rw [bytesWorld_size]; omega
theorem bytes_good {s t : Nat} {x : Operand} (hC : TOk P C) (hS : Sim V0 O0 w0 O m st a w) {d : Tmp} (hd : o.dst = some d) (ho : o.op = .convert s t x) {l : List UInt8} (hx : TRel O st.objs m w (a.eval x) (.str l))
    (hok : AllT (bytesX C d s t l).ok) (hfr : ∀ p ∈ (bytesX C d s t l).new, st.fresh p.1 = true) : Good P V0 O0 w0 (apply st o (bytesX C d s t l)) o a w := by
  intro next Q hn
  unfold bytesX at *
  obtain ⟨ts, hts, he⟩ := tiOf_ok hok
  rw [he] at hok hfr hn; clear he
  obtain ⟨ti, e, te, ht, hte, hd', he⟩ := elemOf_ok hok
  rw [he] at hok hfr hn; clear he
  obtain ⟨h1, h2⟩ := hok.cons
  have h2 := h2.cons.1
  have hlen : l.length ≤ 140737488355328 := by simpa using h2
  have hde := isU8D_eq h1
  have hue := (hC.is hd').d
  rw [hde] at hue
  have hut := (hC.is ht).d
  rw [hte] at hut
  obtain ⟨b, hb, hl⟩ := hx.str
  have hbl : b.size = l.length := by rw [size_dl, hl]
  have hr : (execOp a.eval o).run P w = .ok (.value (.slice (some (at' w.heap.size 0)) b.size (grownCap w b.size 0 e))) (bytesWorld w e b) := by
    have := Go.Lib.run_convert_string_bytes (P := P) w s t e b (hC.is hts).d hut hue
    simp only [execOp, ho, hb, Sem.run_bind, this]
    rfl
  unfold Oper.wp
  rw [hr, Oper.upon_value, hd]
  have hge := grownCap_ge w b.size 0 e
  have hes : (⟨byteT, l.map (fun (b : UInt8) => ((b.toNat : Int)))⟩ : Sl).es = l.map (fun (x : UInt8) => [A.int .u8 (x.toNat : Int)]) := by
    show List.map (Ty.int IntKind.u8 Ty.nil).cells (List.map (fun (b : UInt8) => ((b.toNat : Int))) l) = _
    exact List.map_map.trans rfl
  have hesl : (⟨byteT, l.map (fun (b : UInt8) => ((b.toNat : Int)))⟩ : Sl).es.length = b.size := by rw [hes, List.length_map, hbl]
  have hcs : (bytesCells w e b).size = grownCap w b.size 0 e := by
    simp [bytesCells]
    have : b.data.size = b.size := rfl
    omega
  obtain ⟨O', m', h⟩ := newRow_sim0 hS (bytes_moves w e b) (d := d) (e := e) (cap := grownCap w b.size 0 e) (frz := false) (l := ⟨byteT, l.map (fun (b : UInt8) => ((b.toNat : Int)))⟩) (del := []) (cur := bytesCells w e b)
    ⟨_, bytesWorld_at_new w e b, .inr (Nat.le_refl _)⟩ (by rw [hesl]; exact hge) (grownCap_le_maxLen w _ _ _ (by unfold maxLen; omega)) (by rw [hcs]; show _ = _ * 1; omega) ⟨Sl.es_len _, fun i j hi hj => by
      have hj0 : j = 0 := by
        have : j < 1 := hj
        omega
      subst hj0
      rw [hesl] at hi
      have hi' : i < l.length := by omega
      have hi2 : i < b.data.toList.length := by rw [hl]; exact hi'
      refine ⟨.int .u8 (l.getD i 0).toNat, ?_, ?_⟩
      · have hlt : i < b.data.size := hi
        show (bytesCells w e b)[i * 1 + 0]? = _
        rw [Nat.mul_one, Nat.add_zero]
        unfold bytesCells
        rw [Array.getElem?_append_left (by simpa using hlt)]
        rw [Array.getElem?_map]
        have : b.data[i]? = some (l.getD i 0) := by
          rw [← Array.getElem?_toList, hl, List.getD_eq_getElem?_getD, List.getElem?_eq_getElem hi']; rfl
        rw [this]; rfl
      · rw [hes]
        have : (l.map (fun (x : UInt8) => [A.int .u8 (x.toNat : Int)])).getD i [] = [A.int .u8 ((l.getD i 0).toNat : Int)] := by
          simp [List.getD_eq_getElem?_getD, hi']
        rw [this]
        exact .int _ _⟩ (fresh_not (hfr _ List.mem_cons_self))
  rw [hesl] at h
  refine hn O' m' _ _ ?_
  rw [apply_mk hd]
  exact h

theorem conv_good {s t : Nat} {x : Operand} (hC : TOk P C) (hS : Sim V0 O0 w0 O m st a w) (ho : o.op = .convert s t x) {fet : Fet} (hf : Fet' st.objs fet) {x' : A} (hx : TRel O st.objs m w (a.eval x) x')
    (hok : AllT (convX C o fet s t x').ok) (hfr : ∀ p ∈ (convX C o fet s t x').new, st.fresh p.1 = true) : Good P V0 O0 w0 (apply st o (convX C o fet s t x')) o a w := by
  have hF : FOk O st.objs m w fet := fun q x h => ⟨hf q x h, hS.objs q x (hf q x h)⟩
  by_cases hs : ∃ l, x' = .str l
  · obtain ⟨l, rfl⟩ := hs
    unfold convX at *
    dsimp only at hok hfr ⊢
    obtain ⟨tt, htt, he⟩ := tiOf_ok hok
    rw [he] at hok hfr ⊢; clear he
    cases hb : isSliceD tt.d with
    | true =>
      rw [hb] at hok hfr
      simp only [cond_true] at hok hfr ⊢
      obtain ⟨d, hd, he⟩ := optX_ok hok
      rw [he] at hok hfr ⊢; clear he
      exact bytes_good hC hS hd ho hx hok hfr
    | false =>
      rw [hb] at hok
      simp only [cond_false] at hok ⊢
      exact (convert_pure hC hF ho hx hok).good hS
  · have e : convX C o fet s t x' = convertX C fet s t x' := by
      cases x' <;> first | rfl | exact absurd ⟨_, rfl⟩ hs
    rw [e] at hok ⊢
    exact (convert_pure hC hF ho hx hok).good hS

/-! ### arrays -/
theorem flat_at (n : Nat) (cs : List CK) {i j : Nat} (hi : i < n) (hj : j < cs.length) : ((List.replicate n cs).flatten).getD (i * cs.length + j) .oth = cs.getD j .oth := by
  induction n generalizing i with
  | zero => omega
  | succ n ih =>
    rw [List.replicate_succ, List.flatten_cons, List.getD_eq_getElem?_getD]
    cases i with
    | zero => rw [List.getElem?_append_left (by omega), Nat.zero_mul, Nat.zero_add, ← List.getD_eq_getElem?_getD]
    | succ i =>
      rw [Nat.add_mul, Nat.one_mul, List.getElem?_append_right (by omega), show i * cs.length + cs.length + j - cs.length = i * cs.length + j from by omega, ← List.getD_eq_getElem?_getD]
      exact ih (by omega)
theorem allocArr_good {t n e : Nat} {ti te : TI} (hC : TOk P C) (hS : Sim V0 O0 w0 O m st a w) {d : Tmp} (hd : o.dst = some d) (ho : o.op = .alloc t) (ht : C.T t = some ti)
    (hp : te.cs.all CK.plain = true) (h0 : 0 < te.cs.length) (hn0 : 0 < n) (hn : n ≤ 16777216) (hcs : ti.cs = (List.replicate n te.cs).flatten) (hfresh : Fresh st (b2 d)) :
    Good P V0 O0 w0 { tmps := st.tmps.set d (.oelt (b2 d) 0 0), objs := setAll (delAll st.objs []) [(b2 d, .arr t false ⟨tyl te.cs, List.replicate n (tyl te.cs).zero⟩)] } o a w := by
  intro next Q hnx
  have hT := hC.is ht
  obtain ⟨i, z, g1, g2, g3, g4, g5, g6⟩ := hT.i
  have hsz : z.cells.size = ti.cs.length := by
    rw [← Array.length_toList]; exact (zeroFits_rel (O := O) (objs := []) (m := fun _ => undef) (w := w) _ _ g5).1
  have hlen : ti.cs.length = n * te.cs.length := by rw [hcs]; simp
  have hpl : ti.cs.all CK.plain = true := by
    rw [hcs, List.all_eq_true]
    intro k hk
    obtain ⟨l, hl, hkl⟩ := List.mem_flatten.1 hk
    rw [List.eq_of_mem_replicate hl] at hkl
    exact List.all_eq_true.1 hp k hkl
  have hv := zeroFits_vrel (O := O) (w := w) _ _ g5 hpl
  have hr : (execOp a.eval o).run P w = .ok (.value (.pointer (some (at' w.heap.size 0)))) (w.alloc (.cells z.cells t)) := by
    simp only [execOp, ho, Instr.alloc, Sem.run_bind, zeroValue, typeInfo, run_program, Result.andThen_ok, g1, g4, Sem.run_pure, newVar, newRow]
    rfl
  unfold Oper.wp
  rw [hr, Oper.upon_value, hd]
  have hel : (⟨tyl te.cs, List.replicate n (tyl te.cs).zero⟩ : Sl).es = List.replicate n (te.cs.map CK.fzero) := Sl.es_replicate _ _ hp
  have hsl : (⟨tyl te.cs, List.replicate n (tyl te.cs).zero⟩ : Sl).sz = te.cs.length := tyl_len _
  obtain ⟨O', m', h⟩ := newRow_sim hS (Moves.refl _ _ w) rfl (d := d) (e := t) (cap := n) (frz := false) (l := ⟨tyl te.cs, List.replicate n (tyl te.cs).zero⟩) (cur := z.cells) (del := []) (by rw [Sl.es_length, List.length_replicate]; exact Nat.le_refl _) (by unfold maxLen; omega) (by rw [hsz, hlen, hsl])
    ⟨Sl.es_len _, fun r j hrl hj => by
      rw [hsl] at hj ⊢
      rw [Sl.es_length, List.length_replicate] at hrl
      have hlt : r * te.cs.length + j < n * te.cs.length := by
        have : (r + 1) * te.cs.length ≤ n * te.cs.length := Nat.mul_le_mul_right _ hrl
        rw [Nat.add_mul] at this; omega
      refine ⟨z.cells.toList.getD (r * te.cs.length + j) undef, ?_, ?_⟩
      · rw [List.getD_eq_getElem?_getD, Array.getElem?_toList]
        rw [Array.getElem?_eq_getElem (by omega)]; rfl
      · have := hv (r * te.cs.length + j) (by omega)
        have e1 : (ti.cs.map CK.fzero).getD (r * te.cs.length + j) .undef = (te.cs.map CK.fzero).getD j .undef := by
          have e2 : (ti.cs.map CK.fzero).getD (r * te.cs.length + j) .undef = (ti.cs.getD (r * te.cs.length + j) .oth).fzero := by
            have : r * te.cs.length + j < ti.cs.length := by omega
            simp [List.getD_eq_getElem?_getD, this]
          have e3 : (te.cs.map CK.fzero).getD j .undef = (te.cs.getD j .oth).fzero := by simp [List.getD_eq_getElem?_getD, hj]
          rw [e2, e3, hcs, flat_at n te.cs hrl hj]
        rw [e1] at this
        rw [hel]
        have e4 : (List.replicate n (te.cs.map CK.fzero)).getD r [] = te.cs.map CK.fzero := by simp [List.getD_eq_getElem?_getD, hrl]
        rw [e4]; exact this⟩ hfresh
  rw [Sl.es_length, List.length_replicate] at h
  refine hnx O' m' _ _ ?_
  by_cases hdt : d < st.tmps.length
  · -- the slot holds the address of the first element
    have hslot := h.tmps d (by simpa using hdt)
    have hself : (a.put (some d) (.slice (some (at' w.heap.size 0)) n n)).tmps.getD d undef = .slice (some (at' w.heap.size 0)) n n := by
      have hs : d < a.tmps.size := by rw [hS.size]; exact hdt
      simp [Act.put, Array.getD_eq_getD_getElem?, hs]
    have hself2 : (st.tmps.set d (.own (b2 d))).getD d .undef = .own (b2 d) := by simp [List.getD_eq_getElem?_getD, hdt]
    rw [hself, hself2] at hslot
    have hc : CRel O' (setAll (delAll st.objs []) [(b2 d, .arr t false ⟨tyl te.cs, List.replicate n (tyl te.cs).zero⟩)]) m' (w.alloc (.cells z.cells t)) (.slice (some (at' w.heap.size 0)) n n) (.own (b2 d)) := hslot
    have hg : aget (setAll (delAll st.objs []) [(b2 d, Obj.arr t false ⟨tyl te.cs, List.replicate n (tyl te.cs).zero⟩)]) (b2 d) = some (.arr t false ⟨tyl te.cs, List.replicate n (tyl te.cs).zero⟩) := by
      simp only [setAll]; rw [aget_aset, if_pos rfl]
    have hm : .slice (some (at' w.heap.size 0)) n n = m' (b2 d) := by
      have := hc.2
      rw [hg] at this
      exact this
    have hcr : CRel O' (setAll (delAll st.objs []) [(b2 d, .arr t false ⟨tyl te.cs, List.replicate n (tyl te.cs).zero⟩)]) m' (w.alloc (.cells z.cells t)) (.pointer (some (at' w.heap.size 0))) (.oelt (b2 d) 0 0) := by
      simp only [CRel, hg, Option.map_some, Obj.shp]
      exact ⟨rfl, fun _ => ⟨w.heap.size, n, n, hm.symm, by simp⟩⟩
    have hnew := h.put (some d) (x := .oelt (b2 d) 0 0) (v := .pointer (some (at' w.heap.size 0))) hcr.toT
    have e1 : put (st.tmps.set d (.own (b2 d))) (some d) (.oelt (b2 d) 0 0) = st.tmps.set d (.oelt (b2 d) 0 0) := by simp [put]
    have e2 : (a.put (some d) (.slice (some (at' w.heap.size 0)) n n)).put (some d) (.pointer (some (at' w.heap.size 0))) = a.put (some d) (.pointer (some (at' w.heap.size 0))) := by simp [Act.put]
    rw [e2] at hnew
    dsimp only at hnew
    rw [e1] at hnew
    exact hnew
  · have e1 : ∀ x, st.tmps.set d x = st.tmps := fun x => List.set_eq_of_length_le (Nat.le_of_not_lt hdt)
    have e2 : ∀ v, a.put (some d) v = a := by
      intro v
      have hs : ¬ d < a.tmps.size := by rw [hS.size]; exact hdt
      have : a.tmps.setIfInBounds d v = a.tmps := by simp [Array.setIfInBounds, hs]
      simp only [Act.put, this]
    rw [e1, e2] at h
    rw [e1, e2]
    exact h
theorem allocX_good {t : Nat} (hC : TOk P C) (hS : Sim V0 O0 w0 O m st a w) {d : Tmp} (hd : o.dst = some d) (ho : o.op = .alloc t)
    (hok : AllT (allocX C d t).ok) (hfr : ∀ p ∈ (allocX C d t).new, st.fresh p.1 = true) (hnd : nodup ((allocX C d t).new.map (·.1)) = true) : Good P V0 O0 w0 (apply st o (allocX C d t)) o a w := by
  unfold allocX at *
  obtain ⟨ti, ht, he⟩ := tiOf_ok hok
  rw [he] at hok hfr hnd ⊢; clear he
  cases ha : arr2? ti.d with
  | some p =>
    obtain ⟨n, e⟩ := p
    rw [ha] at hok hfr
    dsimp only at hok hfr ⊢
    obtain ⟨te, hte, he⟩ := tiOf_ok hok
    rw [he] at hok hfr ⊢; clear he
    obtain ⟨h1, h2⟩ := hok.cons
    obtain ⟨h2, h3⟩ := h2.cons
    obtain ⟨h3, h4⟩ := h3.cons
    obtain ⟨h4, h5⟩ := h4.cons
    have h5 := h5.cons.1
    rw [apply_mk hd]
    exact allocArr_good (n := n) (e := e) hC hS hd ho ht h1 (by simpa [Nat.blt_eq] using h2) (by simpa [Nat.blt_eq] using h3) (Nat.le_of_ble_eq_true h4) (by simpa using h5) (fresh_not (hfr _ List.mem_cons_self))
  | none =>
    rw [ha] at hok hfr hnd
    exact allocOp_good hC hS hd ho ht hok hfr hnd
end
end Go.Proofs.YtegnjlmdppobmaaGreat.Vm

/-
  What goes over between a caller and a callee: relations; handing over; taking back.
-/
namespace Go.Proofs.YtegnjlmdppobmaaGreat.Vm
open Classical

/-- a cell between calls -/
def IC (O : Own) (w : World) (id : Nat) (v : Value) : A → Prop
  | .usl e l => ORel O [] (fun _ => v) w id (.arr e true l)
  | a => VRel O w v a
/-- a value between calls -/
def IR (O : Own) (w : World) (id : Nat) (v : Value) : A → Prop
  | .agg cs => ∃ vs : Array Value, v = .agg vs ∧ vs.size = cs.length ∧ ∀ j, j < cs.length → IC O w (id + 1 + j) (vs.getD j undef) (cs.getD j .undef)
  | .box cs => ∃ b base, v = .pointer (some (at' b base)) ∧ ∀ j, j < cs.length → O b (base + j) = some id ∧ w.frozen? (at' b (base + j)) = false ∧ ∃ u, w.cell? (at' b (base + j)) = some u ∧ IC O w (id + 1 + j) u (cs.getD j .undef)
  | a => IC O w id v a

section
variable {P : Program} {C : Ctx} {V0 : Nat → Value} {O0 O : Own} {w0 w : World} {m : Nat → Value} {st : St} {a : Act} {o : Oper}

theorem VRel.ic {id : Nat} {v : Value} {x : A} (h : VRel O w v x) : IC O w id v x := by cases h <;> first | exact .bool _ | exact .int _ _ | exact .str _ | exact .nil _ | exact .nilp | (rename_i vs a1 a2 a3; exact .sl vs a1 a2 a3)
/-- owners, named anew; who is not named is nobody's business -/
def relab (O : Own) (ρ : Nat → Option Nat) : Own := fun b k => match O b k with
  | none => none
  | some o => match ρ o with
    | some i => some i
    | none => some 255
theorem relab_none {ρ : Nat → Option Nat} {b k : Nat} : relab O ρ b k = none ↔ O b k = none := by
  unfold relab
  cases O b k with
  | none => simp
  | some o => cases h : ρ o <;> simp [h]
theorem relab_some {ρ : Nat → Option Nat} {b k o i : Nat} (h : O b k = some o) (hr : ρ o = some i) : relab O ρ b k = some i := by
  unfold relab; rw [h]; simp [hr]
theorem relab_pres (ρ : Nat → Option Nat) : Pres O w (relab O ρ) w := fun _ _ _ h hc => ⟨relab_none.2 h, hc⟩

theorem ORel.relab {ρ : Nat → Option Nat} {q i e : Nat} {l : Sl} {objs objs' : List (Nat × Obj)} {m m' : Nat → Value} (h : ORel O objs m w q (.arr e true l)) (hr : ρ q = some i) (hm : m' i = m q) :
    ORel (relab O ρ) objs' m' w i (.arr e true l) := by
  refine ⟨h.1, ?_⟩
  rcases h.2 with ⟨h1, h2, h3⟩ | ⟨h1, g, cap, cur, h2, h3, h4, h5, h6, h7, h8, h9⟩
  · exact .inl ⟨h1, h2, by rw [hm]; exact h3⟩
  · refine .inr ⟨h1, g, cap, cur, by rw [hm]; exact h2, h3, h4, h5, h6, fun r j hr' hj => ?_, fun k hk hge => relab_some (h8 k hk hge) hr, fun k hk => ?_⟩
    · obtain ⟨u, h10, h11⟩ := h7 r j hr' hj
      exact ⟨u, h10, h11.pres (relab_pres ρ)⟩
    · have := h9 k hk
      simp only [if_true] at this ⊢
      exact relab_none.2 this

/-- handing over cells: after the freezing (st', O), under names ρ -/
theorem handCells_spec {fet : Fet} (hf : Fet' st.objs fet) : ∀ (ks : List (Bool × CK)) (cs : List A) (id : Nat) (f : Nat → Value), (∀ j, j < cs.length → CRel O st.objs m w (f j) (cs.getD j .undef)) → AllT (handCells fet ks cs).1 →
    (handCells fet ks cs).2.1.length = ks.length ∧ cs.length = ks.length ∧ Frz st.objs (handCells fet ks cs).2.2.1 ∧ (handCells fet ks cs).2.2.2 = (namesC id ks cs).map (·.1) ∧
    ∀ {O' : Own} {objs' : List (Nat × Obj)} {ρ : Nat → Option Nat}, Pres O w O' w → (∀ p ∈ (handCells fet ks cs).2.2.1, ∀ e l, p.2 = .arr e true l → VRel O' w (m p.1) (.sl l)) →
      (∀ p ∈ (handCells fet ks cs).2.2.1, ORel O' objs' m w p.1 p.2) → (∀ p ∈ namesC id ks cs, ρ p.1 = some p.2) →
      ∀ j, j < ks.length → IC (relab O' ρ) w (id + j) (f j) ((handCells fet ks cs).2.1.getD j .undef) := by
  intro ks
  induction ks with
  | nil =>
    intro cs id f _ hok
    cases cs with
    | nil => exact ⟨rfl, rfl, (fun p hp => by simp [handCells] at hp), rfl, fun _ _ _ _ j hj => by simp at hj⟩
    | cons _ _ => have := hok false (by simp [handCells]); cases this
  | cons k ks ih =>
    intro cs id f h hok
    obtain ⟨u, k⟩ := k
    cases cs with
    | nil => have := hok false (by cases u <;> simp [handCells]); cases this
    | cons c cs =>
      have hrest := fun hok2 => ih cs (id + 1) (fun j => f (j + 1)) (fun j hj => by simpa using h (j + 1) (by simpa using hj)) hok2
      cases u with
      | false =>
        simp only [handCells] at hok ⊢
        obtain ⟨hok1, hok2⟩ := hok.append
        obtain ⟨h1, h2⟩ := pur_spec hf (h 0 (by simp)) hok1
        obtain ⟨h3, h4, h5, h6, h7⟩ := hrest hok2
        have hnames : namesC id ((false, k) :: ks) (c :: cs) = namesC (id + 1) ks cs := by cases c <;> rfl
        refine ⟨by simp [h3], by simp [h4], h1.append h5, by rw [hnames]; exact h6, fun {O' objs' ρ} hp hv hO hρ j hj => ?_⟩
        rw [hnames] at hρ
        cases j with
        | zero =>
          have hvr := (h2 hp (fun p hp => hv p (List.mem_append_left _ hp))).pres (relab_pres ρ)
          exact hvr.ic
        | succ j =>
          have := h7 hp (fun p hp => hv p (List.mem_append_right _ hp)) (fun p hp => hO p (List.mem_append_right _ hp)) hρ j (by simpa using hj)
          rw [show id + (j + 1) = id + 1 + j from by omega]
          simpa using this
      | true =>
        cases k with
        | sl e sz =>
          cases c with
          | own q =>
            simp only [handCells] at hok ⊢
            cases hg : aget fet q with
            | none => rw [hg] at hok; have := hok false (by simp); cases this
            | some x =>
              cases x with
              | box _ => rw [hg] at hok; have := hok false (by simp); cases this
              | arr e' fz l =>
                rw [hg] at hok
                dsimp only at hok ⊢
                obtain ⟨hok1, hok2⟩ := hok.append
                obtain ⟨e1, e2⟩ := hok1.cons
                have e1 := Nat.eq_of_beq_eq_true e1
                subst e1
                obtain ⟨h3, h4, h5, h6, h7⟩ := hrest hok2
                have hq := hf q _ hg
                refine ⟨by simp [h3], by simp [h4], fun p hp => ?_, ?_, fun {O' objs' ρ} hp hv hO hρ j hj => ?_⟩
                · rcases List.mem_cons.1 hp with rfl | hp
                  · exact ⟨e, fz, l, hq, rfl⟩
                  · exact h5 p hp
                · simp only [namesC, List.map_cons, h6]
                · cases j with
                  | zero =>
                    have hc : CRel O st.objs m w (f 0) (.own q) := h 0 (by simp)
                    have hc := hc.2
                    rw [hq] at hc
                    simp only [Option.map_some, Obj.shp] at hc
                    have := hO _ List.mem_cons_self
                    exact this.relab (objs' := []) (m' := fun _ => f 0) (hρ (q, id) List.mem_cons_self) hc
                  | succ j =>
                    have := h7 hp (fun p hp => hv p (List.mem_cons_of_mem _ hp)) (fun p hp => hO p (List.mem_cons_of_mem _ hp)) (fun p hp => hρ p (List.mem_cons_of_mem _ hp)) j (by simpa using hj)
                    rw [show id + (j + 1) = id + 1 + j from by omega]
                    simpa using this
          | nils =>
            simp only [handCells] at hok ⊢
            obtain ⟨h3, h4, h5, h6, h7⟩ := hrest hok
            have hnames : namesC id ((true, .sl e sz) :: ks) (.nils :: cs) = namesC (id + 1) ks cs := rfl
            refine ⟨by simp [h3], by simp [h4], h5, by rw [hnames]; exact h6, fun {O' objs' ρ} hp hv hO hρ j hj => ?_⟩
            rw [hnames] at hρ
            cases j with
            | zero =>
              have hc : CRel O st.objs m w (f 0) .nils := h 0 (by simp)
              have hc : f 0 = .slice none 0 0 := hc
              show ORel _ [] (fun _ => f 0) w _ (.arr e true ⟨sz, []⟩)
              exact ⟨by simp [Sl.es], .inl ⟨trivial, rfl, hc⟩⟩
            | succ j =>
              have := h7 hp hv hO hρ j (by simpa using hj)
              rw [show id + (j + 1) = id + 1 + j from by omega]
              simpa using this
          | _ => have := hok false (by simp [handCells]); cases this
        | _ => have := hok false (by simp [handCells]); cases this
end
end Go.Proofs.YtegnjlmdppobmaaGreat.Vm

/-
  Handing over arguments (and, at a function's end, results).
-/
namespace Go.Proofs.YtegnjlmdppobmaaGreat.Vm
open Classical

section
variable {P : Program} {C : Ctx} {V0 : Nat → Value} {O0 O : Own} {w0 w : World} {m : Nat → Value} {st : St} {a : Act} {o : Oper}

theorem handArg_spec {fet : Fet} (hf : Fet' st.objs fet) {s : Sh} {x : A} {v : Value} {id : Nat} (hx : TRel O st.objs m w v x) (hS : ∀ q y, aget st.objs q = some y → ORel O st.objs m w q y) (hok : AllT (handArg fet s x).ok) :
    Frz st.objs (handArg fet s x).upd ∧ (∀ q ∈ (handArg fet s x).del ++ (handArg fet s x).boxes.map (·.1), q ∈ (namesA fet id s x).map (·.1)) ∧ (∀ q ∈ (namesA fet id s x).map (·.1), q ∈ (handArg fet s x).del ++ (handArg fet s x).boxes.map (·.1)) ∧
    ((∃ ks, s = .box ks) ↔ (handArg fet s x).boxes ≠ []) ∧
    ∀ {O' : Own} {objs' : List (Nat × Obj)} {ρ : Nat → Option Nat}, Pres O w O' w → (∀ p ∈ (handArg fet s x).upd, ∀ e l, p.2 = .arr e true l → VRel O' w (m p.1) (.sl l)) →
      (∀ p ∈ (handArg fet s x).upd, ORel O' objs' m w p.1 p.2) → (∀ b k q, O b k = some q → (∃ cs, aget st.objs q = some (.box cs)) → O' b k = some q) → (∀ p ∈ namesA fet id s x, ρ p.1 = some p.2) →
      IR (relab O' ρ) w id v (handArg fet s x).a := by
  cases s with
  | cell u k =>
    unfold handArg at *
    dsimp only at hok ⊢
    have hall : ∀ hc : CRel O st.objs m w v x, _ := fun hc => handCells_spec hf [(u, k)] [x] id (fun _ => v) (fun j hj => by
      have : j = 0 := by simpa using hj
      subst this; exact hc)
    have hnc : ∀ (h : AllT (handCells fet [(u, k)] [x]).1), CRel O st.objs m w v x := by
      intro h
      cases x with
      | undef => cases u <;> cases k <;> (have := h false (by simp [handCells, pur]); cases this)
      | agg _ => cases u <;> cases k <;> (have := h false (by simp [handCells, pur]); cases this)
      | tup _ => cases u <;> cases k <;> (have := h false (by simp [handCells, pur]); cases this)
      | cnd _ _ => cases u <;> cases k <;> (have := h false (by simp [handCells, pur]); cases this)
      | _ => exact hx
    generalize hh : handCells fet [(u, k)] [x] = r at *
    obtain ⟨ok, cs, upd, del⟩ := r
    cases cs with
    | nil => have := hok false (by simp); cases this
    | cons c cs =>
      cases cs with
      | cons _ _ => have := hok false (by simp); cases this
      | nil =>
        dsimp only at hok ⊢
        obtain ⟨h1, h2, h3, h4, h5⟩ := hall (hnc hok) hok
        have h4 : del = (namesC id [(u, k)] [x]).map (·.1) := h4
        refine ⟨h3, fun q hq => ?_, fun q hq => ?_, ⟨(fun ⟨_, h⟩ => by cases h), fun h => absurd rfl h⟩, fun {O' objs' ρ} hp hv hO _ hρ => ?_⟩
        · simp only [List.map_nil, List.append_nil] at hq; rw [h4] at hq; exact hq
        · simp only [List.map_nil, List.append_nil]; rw [h4]; exact hq
        · have := h5 hp hv hO hρ 0 (by simp)
          have e : [c].getD 0 .undef = c := rfl
          dsimp only at this
          rw [e] at this
          cases c <;> first | exact this | cases this
  | agg ks =>
    cases x with
    | agg cs =>
      unfold handArg at *
      dsimp only at hok ⊢
      obtain ⟨vs, g1, g2, g3⟩ := hx
      obtain ⟨h1, h2, h3, h4, h5⟩ := handCells_spec hf ks cs (id + 1) (fun j => vs.getD j undef) g3 hok
      refine ⟨h3, fun q hq => ?_, fun q hq => ?_, ⟨(fun ⟨_, h⟩ => by cases h), fun h => absurd rfl h⟩, fun {O' objs' ρ} hp hv hO _ hρ => ?_⟩
      · simp only [List.map_nil, List.append_nil] at hq; rw [h4] at hq; exact hq
      · simp only [List.map_nil, List.append_nil]; rw [h4]; exact hq
      · exact ⟨vs, g1, by rw [g2, h1, h2], fun j hj => h5 hp hv hO hρ j (by rw [← h1]; exact hj)⟩
    | _ => have := hok false (by simp [handArg]); cases this
  | box ks =>
    cases x with
    | ptr q off =>
      unfold handArg at *
      dsimp only at hok ⊢
      cases hg : box? fet q with
      | none => rw [hg] at hok; have := hok false (by simp); cases this
      | some cs =>
            rw [hg] at hok
            dsimp only at hok ⊢
            obtain ⟨ho0, hokA⟩ := hok.cons
            obtain ⟨_, hokB⟩ := hokA.cons
            have ho0 := Nat.eq_of_beq_eq_true ho0
            subst ho0
            have hq := hf q _ (box?_some hg)
            obtain ⟨b, base, g1, g2⟩ := hS q _ hq
            have hv0 : v = .pointer (some (at' b base)) := by
              have hc : CRel O st.objs m w v (.ptr q 0) := hx
              have hc := hc.2
              rw [hq] at hc
              simp only [Option.map_some, Obj.shp] at hc
              obtain ⟨b', base', g3, g4⟩ := hc
              rw [g1] at g3; injection g3 with g3; injection g3 with g3; injection g3 with e1 e2
              subst e1; subst e2; exact g4
            let f : Nat → Value := fun j => (w.cell? (at' b (base + j))).getD undef
            have hfc : ∀ j, j < cs.length → w.cell? (at' b (base + j)) = some (f j) ∧ CRel O st.objs m w (f j) (cs.getD j .undef) := by
              intro j hj
              obtain ⟨_, _, u, h3, h4⟩ := g2 j hj
              have : f j = u := by show (w.cell? _).getD _ = _; rw [h3]; rfl
              rw [this]; exact ⟨h3, h4⟩
            obtain ⟨h1, h2, h3, h4, h5⟩ := handCells_spec hf ks cs (id + 1) f (fun j hj => (hfc j hj).2) hokB
            have hnames : namesA fet id (.box ks) (.ptr q 0) = (q, id) :: namesC (id + 1) ks cs := by simp only [namesA, hg]
            rw [hnames]
            refine ⟨h3, fun r hr => ?_, fun r hr => ?_, ⟨fun _ => by simp, fun _ => ⟨ks, rfl⟩⟩, fun {O' objs' ρ} hp hv hO hbx hρ => ?_⟩
            · simp only [List.map_cons, List.map_nil, List.mem_append, List.mem_singleton] at hr
              rcases hr with hr | hr
              · rw [h4] at hr; exact List.mem_cons_of_mem _ hr
              · rw [hr]; exact List.mem_cons_self
            · simp only [List.map_cons, List.map_nil, List.mem_append, List.mem_singleton]
              rcases List.mem_cons.1 hr with hr | hr
              · exact .inr hr
              · left; rw [h4]; exact hr
            · refine ⟨b, base, hv0, fun j hj => ?_⟩
              rw [h1] at hj
              obtain ⟨k1, k2, u, k3, _⟩ := g2 j (by rw [h2]; exact hj)
              refine ⟨relab_some (hbx _ _ _ k1 ⟨cs, hq⟩) (hρ (q, id) List.mem_cons_self), k2, f j, (hfc j (by rw [h2]; exact hj)).1, h5 hp hv hO (fun p hp' => hρ p (List.mem_cons_of_mem _ hp')) j hj⟩
    | _ => have := hok false (by simp [handArg]); cases this

theorem handArgs_spec {fet : Fet} (hf : Fet' st.objs fet) (hS : ∀ q y, aget st.objs q = some y → ORel O st.objs m w q y) (stride : Nat) : ∀ (ss : List Sh) (xs : List A) (id : Nat) (f : Nat → Value), (∀ j, j < xs.length → TRel O st.objs m w (f j) (xs.getD j .undef)) → AllT (handArgs fet ss xs).1 →
    (handArgs fet ss xs).2.1.length = ss.length ∧ xs.length = ss.length ∧ Frz st.objs (handArgs fet ss xs).2.2.1 ∧
    (∀ q, q ∈ (handArgs fet ss xs).2.2.2.1 ++ (handArgs fet ss xs).2.2.2.2.map (·.1) ↔ q ∈ (namesAs fet id stride ss xs).map (·.1)) ∧
    ∀ {O' : Own} {objs' : List (Nat × Obj)} {ρ : Nat → Option Nat}, Pres O w O' w → (∀ p ∈ (handArgs fet ss xs).2.2.1, ∀ e l, p.2 = .arr e true l → VRel O' w (m p.1) (.sl l)) →
      (∀ p ∈ (handArgs fet ss xs).2.2.1, ORel O' objs' m w p.1 p.2) → (∀ b k q, O b k = some q → (∃ cs, aget st.objs q = some (.box cs)) → O' b k = some q) → (∀ p ∈ namesAs fet id stride ss xs, ρ p.1 = some p.2) →
      ∀ j, j < ss.length → IR (relab O' ρ) w (id + stride * j) (f j) ((handArgs fet ss xs).2.1.getD j .undef) := by
  intro ss
  induction ss with
  | nil =>
    intro xs id f _ hok
    cases xs with
    | nil => exact ⟨rfl, rfl, (fun p hp => by simp [handArgs] at hp), (fun q => by simp [handArgs, namesAs]), fun _ _ _ _ _ j hj => by simp at hj⟩
    | cons _ _ => have := hok false (by simp [handArgs]); cases this
  | cons s ss ih =>
    intro xs id f h hok
    cases xs with
    | nil => have := hok false (by simp [handArgs]); cases this
    | cons x xs =>
      simp only [handArgs] at hok ⊢
      obtain ⟨hok1, hok2⟩ := hok.append
      obtain ⟨h1, h2, h3, _, h4⟩ := handArg_spec (id := id) hf (h 0 (by simp)) hS hok1
      obtain ⟨g1, g2, g3, g4, g5⟩ := ih xs (id + stride) (fun j => f (j + 1)) (fun j hj => by simpa using h (j + 1) (by simpa using hj)) hok2
      refine ⟨by simp [g1], by simp [g2], h1.append g3, fun q => ?_, fun {O' objs' ρ} hp hv hO hbx hρ j hj => ?_⟩
      · simp only [namesAs, List.map_append, List.mem_append]
        have a1 := h2 q
        have a2 := h3 q
        have a3 := g4 q
        simp only [List.mem_append] at a1 a2 a3
        constructor
        · rintro ((h | h) | (h | h))
          · exact .inl (a1 (.inl h))
          · exact .inr (a3.1 (.inl h))
          · exact .inl (a1 (.inr h))
          · exact .inr (a3.1 (.inr h))
        · rintro (h | h)
          · rcases a2 h with h | h
            · exact .inl (.inl h)
            · exact .inr (.inl h)
          · rcases a3.2 h with h | h
            · exact .inl (.inr h)
            · exact .inr (.inr h)
      · cases j with
        | zero => simpa using h4 hp (fun p hp => hv p (List.mem_append_left _ hp)) (fun p hp => hO p (List.mem_append_left _ hp)) hbx (fun p hp => hρ p (List.mem_append_left _ hp))
        | succ j =>
          have := g5 hp (fun p hp => hv p (List.mem_append_right _ hp)) (fun p hp => hO p (List.mem_append_right _ hp)) hbx (fun p hp => hρ p (List.mem_append_right _ hp)) j (by simpa using hj)
          rw [show id + stride * (j + 1) = id + stride + stride * j from by rw [Nat.mul_add]; omega]
          simpa using this
end
end Go.Proofs.YtegnjlmdppobmaaGreat.Vm

/-
  Taking values over: a callee its arguments, a caller what comes back.
-/
namespace Go.Proofs.YtegnjlmdppobmaaGreat.Vm
open Classical

/-- the x-th thing that a value names: itself, its cells -/
def handleOf (w : World) (v : Value) : Nat → Value
  | 0 => v
  | x + 1 => match v with
    | .agg vs => vs.getD x undef
    | .pointer (some a) => (w.cell? (at' a.block (a.off + x))).getD undef
    | _ => undef

section
variable {Oc O' : Own} {w : World} {objs' : List (Nat × Obj)} {m' : Nat → Value}

theorem ORel.carry {objs : List (Nat × Obj)} {m : Nat → Value} {c i e : Nat} {l : Sl} (h : ORel Oc objs m w c (.arr e true l)) (hp : Pres Oc w O' w) (hr : ∀ b k, Oc b k = some c → O' b k = some i) (hn : ∀ b k, Oc b k = none → O' b k = none) (hm : m' i = m c) :
    ORel O' objs' m' w i (.arr e true l) := by
  refine ⟨h.1, ?_⟩
  rcases h.2 with ⟨h1, h2, h3⟩ | ⟨h1, g, cap, cur, h2, h3, h4, h5, h6, h7, h8, h9⟩
  · exact .inl ⟨h1, h2, by rw [hm]; exact h3⟩
  · refine .inr ⟨h1, g, cap, cur, by rw [hm]; exact h2, h3, h4, h5, h6, fun r j hr' hj => ?_, fun k hk hge => hr _ _ (h8 k hk hge), fun k hk => ?_⟩
    · obtain ⟨u, h10, h11⟩ := h7 r j hr' hj
      exact ⟨u, h10, h11.pres hp⟩
    · have := h9 k hk
      simp only [if_true] at this ⊢
      exact hn _ _ this

theorem force_icrel {id : Nat} {k : CK} {v : Value} {c : A} (h : IC Oc w id v c) (hp : Pres Oc w O' w) (hok : AllT (force k c).1) : CRel O' objs' m' w v (force k c).2 := by
  cases c with
  | usl e l =>
    cases k with
    | oth =>
      rcases h.2 with ⟨_, _, h3⟩ | ⟨_, g, cap, cur, h2, _⟩
      · show v.oneCell' = true
        have h3 : v = _ := h3
        rw [h3]; rfl
      · show v.oneCell' = true
        have h2 : v = _ := h2
        rw [h2]; rfl
    | _ => have := hok.cons.1; simp [A.isB, A.isI, A.isS, A.isSl, A.isNilp] at this
  | _ => exact force_rel (VRel.pres hp h) hok

theorem backCells_spec {cid id : Nat} {f : Nat → Value} (hp : Pres Oc w O' w) (hn : ∀ b k, Oc b k = none → O' b k = none) : ∀ (ks : List (Bool × CK)) (cs : List A) (j0 : Nat), (∀ j, j < ks.length → IC Oc w (cid + (j0 + j)) (f (j0 + j)) (cs.getD (j0 + j) .undef)) →
    (∀ b k x, x < j0 + ks.length → Oc b k = some (cid + x) → O' b k = some (id + x)) → AllT (backCells id ks cs j0).1 → (∀ p ∈ (backCells id ks cs j0).2.2, aget objs' p.1 = some p.2) → (∀ p ∈ (backCells id ks cs j0).2.2, ∀ x, p.1 = id + x → m' p.1 = f x) →
    (backCells id ks cs j0).2.1.length = ks.length ∧ (∀ j, j < ks.length → CRel O' objs' m' w (f (j0 + j)) ((backCells id ks cs j0).2.1.getD j .undef)) ∧ ∀ p ∈ (backCells id ks cs j0).2.2, ORel O' objs' m' w p.1 p.2 ∧ ∃ x, p.1 = id + x ∧ j0 ≤ x ∧ x < j0 + ks.length := by
  intro ks
  induction ks with
  | nil => intro cs j0 _ _ _ _ _; exact ⟨rfl, fun j hj => by simp at hj, fun p hp => by simp [backCells] at hp⟩
  | cons k ks ih =>
    intro cs j0 h hr hok hO hm
    obtain ⟨u, k⟩ := k
    have h0 := h 0 (by simp)
    rw [Nat.add_zero] at h0
    have hrest := fun hok2 hO2 hm2 => ih cs (j0 + 1) (fun j hj => by have := h (j + 1) (by simpa using hj); rwa [show j0 + (j + 1) = j0 + 1 + j from by omega] at this) (fun b k x hx => hr b k x (by simp only [List.length_cons]; omega)) hok2 hO2 hm2
    cases u with
    | false =>
      simp only [backCells] at hok hO hm ⊢
      obtain ⟨hok1, hok2⟩ := hok.append
      obtain ⟨g1, g2, g3⟩ := hrest hok2 hO hm
      refine ⟨by simp [g1], fun j hj => ?_, fun p hp => ?_⟩
      · cases j with
        | zero => exact force_icrel h0 hp hok1
        | succ j =>
          have := g2 j (by simpa using hj)
          rw [show j0 + (j + 1) = j0 + 1 + j from by omega]; simpa using this
      · obtain ⟨a1, x, a2, a3, a4⟩ := g3 p hp
        exact ⟨a1, x, a2, by omega, by simp only [List.length_cons]; omega⟩
    | true =>
      cases k with
      | sl e sz =>
        simp only [backCells] at hok hO hm ⊢
        obtain ⟨hok1, hok2⟩ := hok.cons
        obtain ⟨g1, g2, g3⟩ := hrest hok2 (fun p hp => hO p (List.mem_cons_of_mem _ hp)) (fun p hp => hm p (List.mem_cons_of_mem _ hp))
        have hO0 := hO _ List.mem_cons_self
        have hm0 := hm _ List.mem_cons_self j0 rfl
        dsimp only at hO0 hm0
        have hc : cs.getD j0 .undef = .usl e (cs.getD j0 .undef).toL := by
          generalize cs.getD j0 .undef = c at *
          cases c <;> simp only [A.isUsl] at hok1 <;> first | (cases hok1; done) | skip
          simp only [Bool.and_eq_true] at hok1
          rw [Nat.eq_of_beq_eq_true hok1.1]; rfl
        rw [hc] at h0
        have hor : ORel O' objs' m' w (id + j0) (.arr e true (cs.getD j0 .undef).toL) := ORel.carry (show ORel Oc [] (fun _ => f j0) w (cid + j0) _ from h0) hp (fun b k hbk => hr b k j0 (by simp) hbk) hn hm0
        refine ⟨by simp [g1], fun j hj => ?_, fun p hp => ?_⟩
        · cases j with
          | zero =>
            have hone : (f j0).oneCell' = true := by
              rcases h0.2 with ⟨_, _, h3⟩ | ⟨_, g, cap, cur, h2, _⟩
              · have h3 : f j0 = _ := h3
                rw [h3]; rfl
              · have h2 : f j0 = _ := h2
                rw [h2]; rfl
            refine ⟨hone, ?_⟩
            show match (aget objs' (id + j0)).map Obj.shp with | some (.arr _ _) => _ | _ => True
            rw [hO0]
            exact hm0.symm
          | succ j =>
            have := g2 j (by simpa using hj)
            rw [show j0 + (j + 1) = j0 + 1 + j from by omega]; simpa using this
        · rcases List.mem_cons.1 hp with rfl | hp
          · exact ⟨hor, j0, rfl, Nat.le_refl _, by simp⟩
          · obtain ⟨a1, x, a2, a3, a4⟩ := g3 p hp
            exact ⟨a1, x, a2, by omega, by simp only [List.length_cons]; omega⟩
      | _ => have := hok false (by simp [backCells]); cases this

/-- a value taken over -/
theorem back_spec {cid id : Nat} {s : Sh} {x : A} {v : Value} (hp : Pres Oc w O' w) (hn : ∀ b k, Oc b k = none → O' b k = none) (h : IR Oc w cid v x) (hr : ∀ b k i, i < 255 → Oc b k = some (cid + i) → O' b k = some (id + i))
    (hok : AllT (back id s x).1) (hO : ∀ p ∈ (back id s x).2.2, aget objs' p.1 = some p.2) (hm : ∀ p ∈ (back id s x).2.2, ∀ i, p.1 = id + i → m' p.1 = handleOf w v i) :
    TRel O' objs' m' w v (back id s x).2.1 ∧ ∀ p ∈ (back id s x).2.2, ORel O' objs' m' w p.1 p.2 := by
  cases s with
  | cell u k =>
    simp only [back] at hok hO hm ⊢
    obtain ⟨hok1, hok2⟩ := hok.append
    have hpl := hok2.cons.1
    have hic : IC Oc w cid v x := by
      have bad : ∀ cs, x = .agg cs ∨ x = .box cs → False := by
        rintro cs (rfl | rfl) <;> (cases u <;> cases k <;> first | (cases hpl; done) | (have := hok1 false (by simp [backCells, force, A.isB, A.isI, A.isS, A.isSl, A.isNilp, A.isUsl]); cases this))
      cases x with
      | agg cs => exact (bad cs (.inl rfl)).elim
      | box cs => exact (bad cs (.inr rfl)).elim
      | _ => exact h
    obtain ⟨g1, g2, g3⟩ := backCells_spec (cid := cid) (id := id) (f := handleOf w v) hp hn [(u, k)] [x] 0 (fun j hj => by
      have : j = 0 := by simpa using hj
      subst this; exact hic) (fun b k i hi hb => hr b k i (by simp at hi; omega) hb) hok1 hO hm
    have := g2 0 (by simp)
    exact ⟨this.toT, fun p hp => (g3 p hp).1⟩
  | agg ks =>
    simp only [back] at hok hO hm ⊢
    obtain ⟨hf, hok⟩ := hok.cons
    have hf := Nat.le_of_ble_eq_true hf
    obtain ⟨hok1, hok2⟩ := hok.cons
    cases x with
    | agg cs =>
      obtain ⟨vs, h1, h2, h3⟩ := h
      have hl : cs.length = ks.length := by simpa [A.isAgg, nbeq] using hok1
      obtain ⟨g1, g2, g3⟩ := backCells_spec (objs' := objs') (m' := m') (cid := cid + 1) (id := id + 1) (f := fun j => vs.getD j undef) hp hn ks cs 0 (fun j hj => by
        have := h3 j (by omega)
        rw [Nat.zero_add]; exact this) (fun b k i hi hb => by
        have := hr b k (1 + i) (by omega) (by rw [← Nat.add_assoc]; exact hb)
        rw [← Nat.add_assoc] at this; exact this) hok2 hO (fun p hp i hi => by
        have := hm p hp (i + 1) (by omega)
        rw [this, h1]; rfl)
      refine ⟨⟨vs, h1, ?_, fun j hj => ?_⟩, fun p hp => (g3 p hp).1⟩
      · show vs.size = (backCells (id + 1) ks cs 0).2.1.length
        rw [h2, g1, hl]
      · have hj : j < (backCells (id + 1) ks cs 0).2.1.length := hj
        rw [g1] at hj
        have := g2 j hj
        rwa [Nat.zero_add] at this
    | _ => simp [A.isAgg] at hok1
  | box ks =>
    simp only [back] at hok hO hm ⊢
    obtain ⟨hf, hok⟩ := hok.cons
    have hf := Nat.le_of_ble_eq_true hf
    obtain ⟨hok1, hok2⟩ := hok.cons
    cases x with
    | box cs =>
      obtain ⟨b, base, h1, h2⟩ := h
      have hl : cs.length = ks.length := by simpa [A.isBox, nbeq] using hok1
      have hcell : ∀ j, handleOf w v (j + 1) = (w.cell? (at' b (base + j))).getD undef := by intro j; rw [h1]; rfl
      obtain ⟨g1, g2, g3⟩ := backCells_spec (objs' := objs') (m' := m') (cid := cid + 1) (id := id + 1) (f := fun j => (w.cell? (at' b (base + j))).getD undef) hp hn ks cs 0 (fun j hj => by
        obtain ⟨_, _, u, h5, h6⟩ := h2 j (by omega)
        rw [Nat.zero_add, h5]; exact h6) (fun b k i hi hb => by
        have := hr b k (1 + i) (by omega) (by rw [← Nat.add_assoc]; exact hb)
        rw [← Nat.add_assoc] at this; exact this) hok2 (fun p hp => hO p (List.mem_cons_of_mem _ hp)) (fun p hp i hi => by
        have := hm p (List.mem_cons_of_mem _ hp) (i + 1) (by omega)
        rw [this, hcell])
      have hO0 := hO _ List.mem_cons_self
      have hm0 := hm _ List.mem_cons_self 0 rfl
      dsimp only at hO0 hm0
      refine ⟨?_, fun p hp => ?_⟩
      · show CRel O' objs' m' w v (.ptr id 0)
        refine ⟨by rw [h1]; rfl, ?_⟩
        show match (aget objs' id).map Obj.shp with | some .box => _ | _ => True
        rw [hO0]
        exact ⟨b, base, by rw [hm0]; exact h1, h1⟩
      · rcases List.mem_cons.1 hp with rfl | hp
        · refine ⟨b, base, by rw [hm0]; exact h1, fun j hj => ?_⟩
          have hj : j < (backCells (id + 1) ks cs 0).2.1.length := hj
          rw [g1] at hj
          obtain ⟨a1, a2, u, a3, _⟩ := h2 j (by omega)
          have := g2 j hj
          rw [Nat.zero_add, a3] at this
          exact ⟨by have := hr b (base + j) 0 (by omega) a1; exact this, a2, u, a3, this⟩
        · exact (g3 p hp).1
    | _ => simp [A.isBox] at hok1
end
end Go.Proofs.YtegnjlmdppobmaaGreat.Vm

/-
  What is known of a function; a call of it.
-/
namespace Go.Proofs.YtegnjlmdppobmaaGreat.Vm
open Classical

def ridOf (k : Nat) : Nat := 256000 + 256 * k
def isBoxSh : Sh → Bool | .box _ => true | _ => false
/-- the places of the parameters that are boxes -/
def boxIx : List Sh → Nat → List Nat
  | [], _ => []
  | s :: ss, i => bif isBoxSh s then i :: boxIx ss (i + 1) else boxIx ss (i + 1)

/-- what comes back of a call -/
structure Came (O : Own) (w : World) (vs : Array Value) (sg : Sig) (rs : List A) (v : Value) (O' : Own) (w' : World) : Prop where
  moves : Moves O (fun o => o ≠ 255) w w'
  less : ∀ b k, b < w.heap.size → O' b k ≠ none → O b k ≠ none
  junk : ∀ b k, b < w.heap.size → O b k = some 255 → O' b k = some 255
  count : rs.length = sg.ress.length + (boxIx sg.pars 0).length
  res : ∃ us : Array Value, us.size = sg.ress.length ∧ v = (if h : us.size = 1 then us[0] else .tuple us) ∧ ∀ k, k < us.size → IR O' w' (ridOf k) (us.getD k undef) (rs.getD k .undef)
  boxes : ∀ j i, (boxIx sg.pars 0)[j]? = some i → ∃ cs, rs.getD (sg.ress.length + j) .undef = .agg cs ∧ IR O' w' (256 * i) (vs.getD i undef) (.box cs)

/-- what is known of function f: where F answers, the call returns so -/
def Spec (P : Program) (f : FuncId) (sg : Sig) : Prop :=
  (∀ args w, (callFunc f args).run P w = .ok (.enter f args) w) ∧
  ∀ (O : Own) (w : World) (vs : Array Value) (xs rs : List A), vs.size = xs.length → xs.length = sg.pars.length → xs.length ≤ 100 → (∀ j, j < xs.length → IR O w (256 * j) (vs.getD j undef) (xs.getD j .undef)) → sg.F xs = some rs →
    Calls P f vs w fun e w' => ∃ v O', e = .returned v ∧ Came O w vs sg rs v O' w'

section
variable {P : Program} {C : Ctx} {V0 : Nat → Value} {O0 O : Own} {w0 w : World} {m : Nat → Value} {st : St} {a : Act} {o : Oper}

/-! ### lists of results -/
/-- the handles of what results bring along -/
def backsH (w : World) (f : Nat → Value) (id stride : Nat) : List Sh → List A → Nat → List (Nat × Value)
  | [], _, _ => []
  | s :: ss, rs, j => (back (id + stride * j) s (rs.getD j .undef)).2.2.map (fun p => (p.1, handleOf w (f j) (p.1 - (id + stride * j)))) ++ backsH w f id stride ss rs (j + 1)
theorem backsH_fst (w : World) (f : Nat → Value) (id stride : Nat) : ∀ (ss : List Sh) (rs : List A) (j : Nat), (backsH w f id stride ss rs j).map (·.1) = (backs id stride ss rs j).2.2.map (·.1) := by
  intro ss
  induction ss with
  | nil => intro rs j; rfl
  | cons s ss ih => intro rs j; simp [backsH, backs, ih]

theorem force_val {k : CK} {c : A} (hp : k.plain = true) (h : AllT (force k c).1) : (force k c).2.isVal = true := by
  cases k <;> first
    | (cases hp; done)
    | (have h1 := h.cons.1; cases c <;> first | rfl | (cases h1; done))
theorem backs_spec {Oc O' : Own} {objs' : List (Nat × Obj)} {m' : Nat → Value} {cid cst id stride : Nat} {f : Nat → Value} {rs : List A} (hp : Pres Oc w O' w) (hn : ∀ b k, Oc b k = none → O' b k = none) : ∀ (ss : List Sh) (j0 : Nat),
    (∀ j, j < ss.length → IR Oc w (cid + cst * (j0 + j)) (f (j0 + j)) (rs.getD (j0 + j) .undef)) → (∀ j, j < ss.length → ∀ b k i, i < 255 → Oc b k = some (cid + cst * (j0 + j) + i) → O' b k = some (id + stride * (j0 + j) + i)) →
    AllT (backs id stride ss rs j0).1 → (∀ p ∈ (backs id stride ss rs j0).2.2, aget objs' p.1 = some p.2) → (∀ p ∈ backsH w f id stride ss rs j0, m' p.1 = p.2) →
    (backs id stride ss rs j0).2.1.length = ss.length ∧ (∀ j, j < ss.length → TRel O' objs' m' w (f (j0 + j)) ((backs id stride ss rs j0).2.1.getD j .undef) ∧ ((backs id stride ss rs j0).2.1.getD j .undef).isVal = true) ∧
      ∀ p ∈ (backs id stride ss rs j0).2.2, ORel O' objs' m' w p.1 p.2 := by
  intro ss
  induction ss with
  | nil => intro j0 _ _ _ _ _; exact ⟨rfl, fun j hj => by simp at hj, fun p hp => by simp [backs] at hp⟩
  | cons s ss ih =>
    intro j0 h hr hok hO hm
    simp only [backs] at hok hO ⊢
    simp only [backsH] at hm
    obtain ⟨hok1, hok2⟩ := hok.append
    obtain ⟨g1, g2, g3⟩ := ih (j0 + 1) (fun j hj => by have := h (j + 1) (by simpa using hj); rwa [show j0 + (j + 1) = j0 + 1 + j from by omega] at this)
      (fun j hj => by have := hr (j + 1) (by simpa using hj); rwa [show j0 + (j + 1) = j0 + 1 + j from by omega] at this) hok2 (fun p hp => hO p (List.mem_append_right _ hp)) (fun p hp => hm p (List.mem_append_right _ hp))
    have h0 := h 0 (by simp)
    have hr0 := hr 0 (by simp)
    rw [Nat.add_zero] at h0 hr0
    obtain ⟨k1, k2⟩ := back_spec (id := id + stride * j0) (m' := m') (objs' := objs') hp hn h0 hr0 hok1 (fun p hp => hO p (List.mem_append_left _ hp)) (fun p hp i hi => by
      have := hm (p.1, handleOf w (f j0) (p.1 - (id + stride * j0))) (List.mem_append_left _ (List.mem_map.2 ⟨p, hp, rfl⟩))
      rw [this, hi, Nat.add_sub_cancel_left])
    refine ⟨by simp [g1], fun j hj => ?_, fun p hp => ?_⟩
    · cases j with
      | zero =>
        refine ⟨k1, ?_⟩
        show ((back (id + stride * j0) s (rs.getD j0 .undef)).2.1).isVal = true
        cases s with
        | agg ks => rfl
        | box ks => rfl
        | cell u' k =>
          have hpl : k.plain = true := by
            simp only [back] at hok1
            exact hok1.append.2.cons.1
          cases u' with
          | true => cases k <;> first | (cases hpl; done) | rfl | (exfalso; have := hok1 false (by simp [back, backCells]); cases this)
          | false =>
            have hf : AllT (force k (rs.getD j0 .undef)).1 := by
              have h1 := hok1
              simp only [back, backCells] at h1
              exact h1.append.1.append.1
            show (force k (rs.getD j0 .undef)).2.isVal = true
            exact force_val hpl hf
      | succ j =>
        have := g2 j (by simpa using hj)
        rw [show j0 + (j + 1) = j0 + 1 + j from by omega]
        simpa using this
    · rcases List.mem_append.1 hp with hp | hp
      · exact k2 p hp
      · exact g3 p hp

/-! ### names -/
def look (N : List (Nat × Nat)) (q : Nat) : Option Nat := (N.find? (fun p => p.1 == q)).map (·.2)
theorem look_mem {N : List (Nat × Nat)} (hnd : nodup (N.map (·.1)) = true) : ∀ p ∈ N, look N p.1 = some p.2 := by
  induction N with
  | nil => intro p hp; cases hp
  | cons q N ih =>
    intro p hp
    simp only [List.map_cons, nodup, Bool.and_eq_true, Bool.not_eq_true'] at hnd
    unfold look
    rcases List.mem_cons.1 hp with rfl | hp
    · simp
    · have hne : q.1 ≠ p.1 := fun e => by
        have : has (N.map (·.1)) q.1 = true := has_mem.2 (List.mem_map.2 ⟨p, hp, e.symm⟩)
        rw [this] at hnd; cases hnd.1
      rw [List.find?_cons_of_neg (by simpa using hne)]
      exact ih hnd.2 p hp
theorem look_some {N : List (Nat × Nat)} {q i : Nat} (h : look N q = some i) : (q, i) ∈ N := by
  unfold look at h
  cases hf : N.find? (fun p => p.1 == q) with
  | none => rw [hf] at h; cases h
  | some p =>
    rw [hf] at h
    injection h with h
    have h1 := List.find?_some hf
    have h2 := List.mem_of_find?_eq_some hf
    have : p.1 = q := by simpa using h1
    rw [← this, ← h]; exact h2
def lookV (N : List (Nat × Value)) (q : Nat) : Option Value := (N.find? (fun p => p.1 == q)).map (·.2)
theorem lookV_mem {N : List (Nat × Value)} (hnd : nodup (N.map (·.1)) = true) : ∀ p ∈ N, lookV N p.1 = some p.2 := by
  induction N with
  | nil => intro p hp; cases hp
  | cons q N ih =>
    intro p hp
    simp only [List.map_cons, nodup, Bool.and_eq_true, Bool.not_eq_true'] at hnd
    unfold lookV
    rcases List.mem_cons.1 hp with rfl | hp
    · simp
    · have hne : q.1 ≠ p.1 := fun e => by
        have : has (N.map (·.1)) q.1 = true := has_mem.2 (List.mem_map.2 ⟨p, hp, e.symm⟩)
        rw [this] at hnd; cases hnd.1
      rw [List.find?_cons_of_neg (by simpa using hne)]
      exact ih hnd.2 p hp
theorem lookV_none {N : List (Nat × Value)} {q : Nat} (h : q ∉ N.map (·.1)) : lookV N q = none := by
  unfold lookV
  rw [List.find?_eq_none.2 (fun p hp => by simp; exact fun e => h (List.mem_map.2 ⟨p, hp, e⟩))]
  rfl

theorem TRel.toT1 {objs : List (Nat × Obj)} {v : Value} {x : A} (h : TRel O objs m w v x) (hv : x.isVal = true) : T1 O objs m w v x := by cases x <;> first | (cases hv; done) | exact h
theorem namesC_alive {fet : Fet} : ∀ (ks : List (Bool × CK)) (cs : List A) (id : Nat), AllT (handCells fet ks cs).1 → ∀ p ∈ namesC id ks cs, (∃ e f l, aget fet p.1 = some (.arr e f l)) ∧ ∃ x, x < ks.length ∧ p.2 = id + x := by
  intro ks
  induction ks with
  | nil => intro cs id _ p hp; cases cs <;> simp [namesC] at hp
  | cons k ks ih =>
    intro cs id hok p hp
    obtain ⟨u, k⟩ := k
    cases cs with
    | nil => cases u <;> simp [namesC] at hp
    | cons c cs =>
      have step : AllT (handCells fet ks cs).1 → p ∈ namesC (id + 1) ks cs → (∃ e f l, aget fet p.1 = some (.arr e f l)) ∧ ∃ x, x < ((u, k) :: ks).length ∧ p.2 = id + x := by
        intro h1 h2
        obtain ⟨h3, x, h4, h5⟩ := ih cs (id + 1) h1 p h2
        exact ⟨h3, x + 1, by simpa using h4, by omega⟩
      cases u with
      | false =>
        have hnm : namesC id ((false, k) :: ks) (c :: cs) = namesC (id + 1) ks cs := by cases c <;> rfl
        rw [hnm] at hp
        simp only [handCells] at hok
        exact step hok.append.2 hp
      | true =>
        cases k with
        | sl e sz =>
          cases c with
          | own q =>
            simp only [handCells] at hok
            cases hg : aget fet q with
            | none => rw [hg] at hok; have := hok false (by simp); cases this
            | some y =>
              cases y with
              | box _ => rw [hg] at hok; have := hok false (by simp); cases this
              | arr e' fz l =>
                rw [hg] at hok
                simp only [namesC] at hp
                rcases List.mem_cons.1 hp with rfl | hp
                · exact ⟨⟨_, _, _, hg⟩, 0, by simp, rfl⟩
                · exact step hok.append.2 hp
          | nils =>
            simp only [handCells] at hok
            exact step hok hp
          | _ => have := hok false (by simp [handCells]); cases this
        | _ => have := hok false (by simp [handCells]); cases this

theorem namesA_alive {fet : Fet} {s : Sh} {x : A} {id : Nat} (hok : AllT (handArg fet s x).ok) : ∀ p ∈ namesA fet id s x, (aget fet p.1).isSome ∧ ∃ i, p.2 = id + i ∧ (i < 202 ∨ (∃ ks, s = .agg ks)) := by
  intro p hp
  cases s with
  | cell u k =>
    simp only [namesA] at hp
    have hh : AllT (handCells fet [(u, k)] [x]).1 := by
      unfold handArg at hok
      dsimp only at hok
      generalize handCells fet [(u, k)] [x] = r at *
      obtain ⟨ok, cs, upd, del⟩ := r
      cases cs with
      | nil => have := hok false (by simp); cases this
      | cons c cs =>
        cases cs with
        | nil => exact hok
        | cons _ _ => have := hok false (by simp); cases this
    obtain ⟨⟨e, f, l, h1⟩, i, h2, h3⟩ := namesC_alive _ _ _ hh p hp
    exact ⟨by rw [h1]; rfl, i, h3, .inl (by simp at h2; omega)⟩
  | agg ks =>
    cases x with
    | agg cs =>
      simp only [namesA] at hp
      obtain ⟨⟨e, f, l, h1⟩, i, h2, h3⟩ := namesC_alive _ _ _ (show AllT (handCells fet ks cs).1 from hok) p hp
      exact ⟨by rw [h1]; rfl, 1 + i, by omega, .inr ⟨ks, rfl⟩⟩
    | _ => cases hp
  | box ks =>
    cases x with
    | ptr q off =>
      simp only [namesA] at hp
      unfold handArg at hok
      dsimp only at hok
      cases hg : box? fet q with
      | none => rw [hg] at hok; have := hok false (by simp); cases this
      | some cs =>
        rw [hg] at hok hp
        dsimp only at hok hp
        obtain ⟨_, hokA⟩ := hok.cons
        obtain ⟨hf, hokB⟩ := hokA.cons
        have hf := Nat.le_of_ble_eq_true hf
        rcases List.mem_cons.1 hp with rfl | hp
        · exact ⟨by rw [box?_some hg]; rfl, 0, rfl, .inl (by omega)⟩
        · obtain ⟨⟨e, f, l, h1⟩, i, h2, h3⟩ := namesC_alive _ _ _ hokB p hp
          exact ⟨by rw [h1]; rfl, 1 + i, by omega, .inl (by omega)⟩
    | _ => cases hp
theorem namesAs_alive {fet : Fet} {stride : Nat} : ∀ (ss : List Sh) (xs : List A) (id : Nat), AllT (handArgs fet ss xs).1 → ∀ p ∈ namesAs fet id stride ss xs, (aget fet p.1).isSome := by
  intro ss
  induction ss with
  | nil => intro xs id _ p hp; cases xs <;> simp [namesAs] at hp
  | cons s ss ih =>
    intro xs id hok p hp
    cases xs with
    | nil => simp [namesAs] at hp
    | cons x xs =>
      simp only [handArgs] at hok
      obtain ⟨h1, h2⟩ := hok.append
      rcases List.mem_append.1 hp with hp | hp
      · exact (namesA_alive h1 p hp).1
      · exact ih xs _ h2 p hp

theorem Moves.unrelab {ρ : Nat → Option Nat} {w w' : World} (h : Moves (relab O ρ) (fun o => o ≠ 255) w w') : Moves O (fun o => ∃ i, ρ o = some i) w w' := by
  refine ⟨h.os, h.tape, h.output, h.size, fun b hb => ?_⟩
  rcases h.blk b hb with he | ⟨c, c', e, fr, h1, h2, h3, h4, k, q, h5, h6, h7⟩
  · exact .inl he
  · have un : ∀ k i, relab O ρ b k = some i → i ≠ 255 → ∃ q, O b k = some q ∧ ∃ i, ρ q = some i := by
      intro k i hr hne
      unfold relab at hr
      cases hO : O b k with
      | none => rw [hO] at hr; cases hr
      | some q =>
        rw [hO] at hr
        dsimp only at hr
        cases hρ : ρ q with
        | none => rw [hρ] at hr; injection hr with hr; exact absurd hr.symm hne
        | some j => exact ⟨q, rfl, j, hρ⟩
    refine .inr ⟨c, c', e, fr, h1, h2, h3, fun k hk => h4 k (fun i hi hne => ?_), k, ?_⟩
    · obtain ⟨q, hq, hρ⟩ := un k i hi hne
      exact hk q hq hρ
    · obtain ⟨q', hq', hρ⟩ := un k q h6 h7
      exact ⟨q', h5, hq', hρ⟩
end
end Go.Proofs.YtegnjlmdppobmaaGreat.Vm

/-
  A call: the boxes that were handed over; all put together.
-/
namespace Go.Proofs.YtegnjlmdppobmaaGreat.Vm
open Classical

section
variable {P : Program} {C : Ctx} {V0 : Nat → Value} {O0 O : Own} {w0 w : World} {m : Nat → Value} {st : St} {a : Act} {o : Oper}

theorem boxes_ix {fet : Fet} {stride : Nat} : ∀ (ss : List Sh) (xs : List A) (id i0 : Nat), AllT (handArgs fet ss xs).1 →
    (handArgs fet ss xs).2.2.2.2.length = (boxIx ss i0).length ∧ ∀ (j : Nat) (p : Nat × List (Bool × CK)), (handArgs fet ss xs).2.2.2.2[j]? = some p → ∃ i, (boxIx ss i0)[j]? = some (i0 + i) ∧ i < ss.length ∧ (p.1, id + stride * i) ∈ namesAs fet id stride ss xs ∧ (∃ cs, aget fet p.1 = some (.box cs)) ∧ xs[i]? = some (.ptr p.1 0) ∧ p.2.length ≤ 200 := by
  intro ss
  induction ss with
  | nil => intro xs id i0 hok; cases xs with
    | nil => exact ⟨rfl, fun j p h => by simp [handArgs] at h⟩
    | cons _ _ => have := hok false (by simp [handArgs]); cases this
  | cons s ss ih =>
    intro xs id i0 hok
    cases xs with
    | nil => have := hok false (by simp [handArgs]); cases this
    | cons x xs =>
      simp only [handArgs] at hok ⊢
      obtain ⟨h1, h2⟩ := hok.append
      obtain ⟨g1, g2⟩ := ih xs (id + stride) (i0 + 1) h2
      have hrest : ∀ (j : Nat) (p : Nat × List (Bool × CK)), (handArgs fet ss xs).2.2.2.2[j]? = some p → ∃ i, (boxIx ss (i0 + 1))[j]? = some (i0 + i) ∧ i < (s :: ss).length ∧ (p.1, id + stride * i) ∈ namesAs fet id stride (s :: ss) (x :: xs) ∧ (∃ cs, aget fet p.1 = some (.box cs)) ∧ (x :: xs)[i]? = some (.ptr p.1 0) ∧ p.2.length ≤ 200 := by
        intro j p hp
        obtain ⟨i, a1, a2, a3, a4, a5, a6⟩ := g2 j p hp
        refine ⟨i + 1, by rw [a1]; congr 1; omega, by simpa using a2, List.mem_append_right _ ?_, a4, by simpa using a5, a6⟩
        rw [show id + stride * (i + 1) = id + stride + stride * i from by rw [Nat.mul_add]; omega]; exact a3
      cases s with
      | box ks =>
        cases x with
        | ptr q off =>
          have hA : AllT (handArg fet (.box ks) (.ptr q off)).ok := h1
          unfold handArg at h1
          dsimp only at h1
          cases hg : box? fet q with
          | none => rw [hg] at h1; have := h1 false (by simp); cases this
          | some cs =>
            rw [hg] at h1
            dsimp only at h1
            obtain ⟨h3, h4⟩ := h1.cons
            obtain ⟨h4, _⟩ := h4.cons
            have h3 := Nat.eq_of_beq_eq_true h3
            have h4 := Nat.le_of_ble_eq_true h4
            subst h3
            have hb : (handArg fet (.box ks) (.ptr q 0)).boxes = [(q, ks)] := by unfold handArg; dsimp only; rw [hg]
            rw [hb]
            refine ⟨by simp [boxIx, isBoxSh, g1], fun j p hp => ?_⟩
            cases j with
            | zero =>
              simp at hp; subst hp
              exact ⟨0, by simp [boxIx, isBoxSh], by simp, List.mem_append_left _ (by simp [namesA]), ⟨cs, box?_some hg⟩, rfl, h4⟩
            | succ j =>
              have hp' : (handArgs fet ss xs).2.2.2.2[j]? = some p := by simpa using hp
              obtain ⟨i, a1, a2⟩ := hrest j p hp'
              exact ⟨i, by simpa [boxIx, isBoxSh] using a1, a2⟩
        | _ => have := h1 false (by simp [handArg]); cases this
      | cell u k =>
        have hb : (handArg fet (.cell u k) x).boxes = [] := by
          unfold handArg
          dsimp only
          split <;> rfl
        rw [hb]
        exact ⟨by simpa [boxIx, isBoxSh] using g1, fun j p hp => by simpa [boxIx, isBoxSh] using hrest j p (by simpa using hp)⟩
      | agg ks =>
        have hb : (handArg fet (.agg ks) x).boxes = [] := by
          unfold handArg
          cases x <;> rfl
        rw [hb]
        exact ⟨by simpa [boxIx, isBoxSh] using g1, fun j p hp => by simpa [boxIx, isBoxSh] using hrest j p (by simpa using hp)⟩

def backBoxesH (rb : Nat → Nat) (w : World) (vf : Nat → Value) (rs : List A) : List (Nat × List (Bool × CK)) → Nat → List (Nat × Value)
  | [], _ => []
  | (o, ks) :: r, j => (backCells (rb o + 1) ks (rs.getD j .undef).toCs 0).2.2.map (fun p => (p.1, handleOf w (vf j) (p.1 - rb o))) ++ backBoxesH rb w vf rs r (j + 1)
theorem backBoxesH_fst (rb : Nat → Nat) (w : World) (vf : Nat → Value) (rs : List A) : ∀ (bs : List (Nat × List (Bool × CK))) (j : Nat), (backBoxesH rb w vf rs bs j).map (·.1) = (backBoxes rb rs bs j).2.2.map (·.1) := by
  intro bs
  induction bs with
  | nil => intro j; rfl
  | cons b bs ih => intro j; obtain ⟨q, ks⟩ := b; simp [backBoxesH, backBoxes, ih]
theorem backBoxes_fst (rb : Nat → Nat) (rs : List A) : ∀ (bs : List (Nat × List (Bool × CK))) (j : Nat), (backBoxes rb rs bs j).2.1.map (·.1) = bs.map (·.1) := by
  intro bs
  induction bs with
  | nil => intro j; rfl
  | cons b bs ih => intro j; obtain ⟨q, ks⟩ := b; simp [backBoxes, ih]

theorem backBoxes_spec {rb : Nat → Nat} {Oc O' : Own} {objs' : List (Nat × Obj)} {m' : Nat → Value} {val : Nat → Value} {cid : Nat → Nat} {rs : List A} (hp : Pres Oc w O' w) (hn : ∀ b k, Oc b k = none → O' b k = none) : ∀ (bs : List (Nat × List (Bool × CK))) (j0 : Nat),
    (∀ (j : Nat) (p : Nat × List (Bool × CK)), bs[j]? = some p → p.2.length ≤ 200 ∧ m' p.1 = val (j0 + j) ∧ (∃ cs, rs.getD (j0 + j) .undef = .agg cs ∧ IR Oc w (cid (j0 + j)) (val (j0 + j)) (.box cs)) ∧ ∀ b k i, i < 255 → Oc b k = some (cid (j0 + j) + i) → O' b k = some (if i = 0 then p.1 else rb p.1 + i)) →
    AllT (backBoxes rb rs bs j0).1 → (∀ p ∈ (backBoxes rb rs bs j0).2.2, aget objs' p.1 = some p.2) → (∀ p ∈ backBoxesH rb w val rs bs j0, m' p.1 = p.2) →
    (∀ p ∈ (backBoxes rb rs bs j0).2.1, ORel O' objs' m' w p.1 p.2) ∧ ∀ p ∈ (backBoxes rb rs bs j0).2.2, ORel O' objs' m' w p.1 p.2 := by
  intro bs
  induction bs with
  | nil => intro j0 _ _ _ _; exact ⟨fun p hp => by simp [backBoxes] at hp, fun p hp => by simp [backBoxes] at hp⟩
  | cons b bs ih =>
    intro j0 h hok hO hm
    obtain ⟨q, ks⟩ := b
    simp only [backBoxes] at hok hO ⊢
    simp only [backBoxesH] at hm
    obtain ⟨hok1, hok2⟩ := hok.append
    obtain ⟨hok0, hok1⟩ := hok1.cons
    obtain ⟨g1, g2⟩ := ih (j0 + 1) (fun j p hj => by have := h (j + 1) p (by simpa using hj); rwa [show j0 + (j + 1) = j0 + 1 + j from by omega] at this) hok2 (fun p hp => hO p (List.mem_append_right _ hp)) (fun p hp => hm p (List.mem_append_right _ hp))
    obtain ⟨hf, hmq, ⟨cs, hcs, bk, base, h1, h2⟩, hr⟩ := h 0 (q, ks) rfl
    rw [Nat.add_zero] at hmq hcs h1 h2 hr
    dsimp only at hf hmq hr
    rw [hcs] at hok0 hok1 hO hm
    have hl : cs.length = ks.length := by simpa [A.isAgg, nbeq] using hok0
    have hcell : ∀ j, handleOf w (val j0) (j + 1) = (w.cell? (at' bk (base + j))).getD undef := by intro j; rw [h1]; rfl
    obtain ⟨k1, k2, k3⟩ := backCells_spec (objs' := objs') (m' := m') (cid := cid j0 + 1) (id := rb q + 1) (f := fun j => (w.cell? (at' bk (base + j))).getD undef) hp hn ks cs 0 (fun j hj => by
      obtain ⟨_, _, u, h5, h6⟩ := h2 j (by omega)
      rw [Nat.zero_add, h5]; exact h6) (fun b k i hi hb => by
      have := hr b k (1 + i) (by omega) (by rw [← Nat.add_assoc]; exact hb)
      rw [if_neg (by omega), ← Nat.add_assoc] at this; exact this) hok1 (fun p hp => hO p (List.mem_append_left _ hp)) (fun p hp i hi => by
      have := hm (p.1, handleOf w (val j0) (p.1 - rb q)) (List.mem_append_left _ (List.mem_map.2 ⟨p, hp, rfl⟩))
      rw [this, hi, show rb q + 1 + i - rb q = i + 1 from by omega, hcell])
    refine ⟨fun p hp => ?_, fun p hp => ?_⟩
    · rcases List.mem_cons.1 hp with rfl | hp
      · rw [hcs]
        refine ⟨bk, base, by rw [hmq]; exact h1, fun j hj => ?_⟩
        have hj : j < (backCells (rb q + 1) ks cs 0).2.1.length := hj
        rw [k1] at hj
        obtain ⟨a1, a2, u, a3, _⟩ := h2 j (by omega)
        have := k2 j hj
        rw [Nat.zero_add, a3] at this
        exact ⟨by have := hr bk (base + j) 0 (by omega) a1; exact this, a2, u, a3, this⟩
      · exact g1 p hp
    · rw [hcs] at hp
      rcases List.mem_append.1 hp with hp | hp
      · exact (k3 p hp).1
      · exact g2 p hp
end
end Go.Proofs.YtegnjlmdppobmaaGreat.Vm

/-
  A call, put together.
-/
namespace Go.Proofs.YtegnjlmdppobmaaGreat.Vm
open Classical

section
variable {P : Program} {C : Ctx} {V0 : Nat → Value} {O0 O : Own} {w0 w : World} {m : Nat → Value} {st : St} {a : Act} {o : Oper}

/-- the caller's object behind a parameter that is a box -/
def boxAt (xs : List A) (i : Nat) : Option Nat := match xs.getD i .undef with
  | .ptr o _ => some o
  | _ => none
/-- the caller's names for what the callee leaves -/
def sigma (rb : Nat → Nat) (d : Nat) (xs : List A) (n : Nat) : Option Nat :=
  if 256000 ≤ n then some (b2 d + 16 * ((n - 256000) / 256) + (n - 256000) % 256)
  else match boxAt xs (n / 256) with
    | some q => some (if n % 256 = 0 then q else rb q + n % 256)
    | none => none

theorem call_good {c : Call} {f : Nat} {sg : Sig} (hS : Sim V0 O0 w0 O m st a w) (ho : o.op = .call c) (hcal : c.callee = .value (.func f)) (hsg : C.G f = some sg) (hsp : Spec P f sg) {d : Nat} {fet : Fet} (hf : Fet' st.objs fet) {xs : List A}
    (hl : xs.length = c.args.size) (hx : ∀ j, j < xs.length → TRel O st.objs m w (a.eval (c.args.getD j (.tmp 0))) (xs.getD j .undef))
    (hok : AllT (callX C fet d f xs).ok) (hfr : ∀ p ∈ (callX C fet d f xs).new, st.fresh p.1 = true) (hnd : nodup ((callX C fet d f xs).new.map (·.1)) = true) : Good P V0 O0 w0 (apply st o (callX C fet d f xs)) o a w := by
  intro next Q hn
  unfold callX at hok hfr hnd hn
  rw [hsg] at hok hfr hnd hn
  dsimp only at hok hfr hnd hn
  generalize hH : handOf fet sg.pars xs = H at *
  obtain ⟨hok1, vsA, upd, del, bxs⟩ := H
  have hHs : handArgs fet sg.pars xs = (hok1, vsA, upd, del, bxs) := by
    unfold handOf at hH
    injection hH with q1 q2 q3 q4 q5
    rw [← q1, ← q2, ← q3, ← q4, ← q5]
  dsimp only at hok hfr hnd hn
  unfold callD at hok
  obtain ⟨hokA, hokB⟩ := hok.append
  obtain ⟨hokA, hokC⟩ := hokA.append
  obtain ⟨hokA, hokD⟩ := hokA.append
  obtain ⟨hokA, hokE⟩ := hokA.append
  obtain ⟨hN, hokB⟩ := hokB.cons
  obtain ⟨h100, hokB⟩ := hokB.cons
  have h100 := Nat.le_of_ble_eq_true h100
  have hF : sg.F vsA = some (sg.val vsA) := by
    have := hokE.cons.1
    unfold Sig.F
    rw [this]; rfl
  have hokA' : AllT (handArgs fet sg.pars xs).1 := by rw [hHs]; exact hokA
  generalize sg.val vsA = rs at hF hfr hnd hn hokB hokC hokD
  simp only [callD] at hfr hnd hn hokB hokC hokD
  have hcnt := Nat.eq_of_beq_eq_true hokB.cons.1
  -- the arguments
  obtain ⟨g1, g2, g3, g4, g5⟩ := handArgs_spec hf hS.objs 256 sg.pars xs 0 (fun j => a.eval (c.args.getD j (.tmp 0))) hx hokA'
  obtain ⟨b1, b2'⟩ := boxes_ix (fet := fet) (stride := 256) sg.pars xs 0 0 hokA'
  have halive := namesAs_alive (fet := fet) (stride := 256) sg.pars xs 0 hokA'
  rw [hHs] at g1 g3 g4 g5 b1 b2'
  dsimp only at g1 g3 g4 g5 b1 b2'
  generalize hNs : namesAs fet 0 256 sg.pars xs = N at *
  obtain ⟨O1, hS1, hp1, hle1, hv1, hE1, hk1⟩ := hS.freezes _ g3
  let ρ := look N
  have hρ : ∀ p ∈ N, ρ p.1 = some p.2 := look_mem hN
  have hupdO : ∀ p ∈ upd, ORel O1 (setAll st.objs upd) m w p.1 p.2 := by
    intro p hp
    obtain ⟨x, hx1, hx2⟩ := aget_setAll_mem upd st.objs p.1 ⟨p, hp, rfl⟩
    obtain ⟨e, fz, l, k1, k2⟩ := g3 p hp
    obtain ⟨e', fz', l', k3, k4⟩ := g3 _ hx1
    dsimp only at k3 k4
    rw [k1] at k3
    injection k3 with k3; injection k3 with q1 q2 q3
    subst q1; subst q3
    rw [k2, ← k4]
    exact hS1.objs p.1 x hx2
  have hIR := g5 hp1 hv1 hupdO hk1 hρ
  -- the call
  have hargs : (c.args.map a.eval).size = vsA.length := by rw [Array.size_map, ← hl, g2, g1]
  have hexec : (execOp a.eval o).run P w = .ok (.enter f (c.args.map a.eval)) w := by
    simp only [execOp, ho, resolve, hcal, Act.eval, Deferred.ofValue, Sem.run_bind, Sem.run_pure, Result.andThen_ok, invoke]
    have := hsp.1 (c.args.map a.eval) w
    simpa using this
  unfold Oper.wp
  rw [hexec, Oper.upon_enter]
  refine (hsp.2 (relab O1 ρ) w (c.args.map a.eval) vsA rs hargs g1 (by rw [g1, ← g2]; exact h100) (fun j hj => ?_) hF).mono ?_
  · have := hIR j (by rw [← g1]; exact hj)
    rw [Nat.zero_add] at this
    have e : (c.args.map a.eval).getD j undef = a.eval (c.args.getD j (.tmp 0)) := by
      have hjs : j < c.args.size := by rw [← hl, g2, ← g1]; exact hj
      simp [Array.getD_eq_getD_getElem?, hjs]
    rw [e]; exact this
  rintro e w' ⟨v, Of, rfl, hcame⟩
  dsimp only
  obtain ⟨us, hus1, hus2, hus3⟩ := hcame.res
  -- the new owners
  let T : Nat → Prop := fun q => ∃ i, ρ q = some i
  let O2 : Own := fun b k => if b < w.heap.size then (match O1 b k with | none => none | some q => if T q then (Of b k).bind (sigma (rowBase fet) d xs) else some q) else (Of b k).bind (sigma (rowBase fet) d xs)
  have hM : Moves O1 T w w' := hcame.moves.unrelab
  have hO2lt : ∀ {b k}, b < w.heap.size → O2 b k = (match O1 b k with | none => none | some q => if T q then (Of b k).bind (sigma (rowBase fet) d xs) else some q) := fun hb => if_pos hb
  have hP2 : Passes O1 O2 T w.heap.size := by
    refine ⟨fun b k hb h => by rw [hO2lt hb, h], fun b k q hb h ht => ?_⟩
    rw [hO2lt hb, h]
    exact if_neg ht
  have hless2 : ∀ b k, b < w.heap.size → O2 b k ≠ none → O1 b k ≠ none := by
    intro b k hb h h'
    rw [hO2lt hb, h'] at h; exact h rfl
  have hnone : ∀ b k, Of b k = none → O2 b k = none := by
    intro b k h
    by_cases hb : b < w.heap.size
    · rw [hO2lt hb]
      cases hO : O1 b k with
      | none => rfl
      | some q =>
        by_cases ht : T q
        · show (if T q then _ else _) = _
          rw [if_pos ht, h]; rfl
        · exfalso
          have hr : relab O1 ρ b k = some 255 := by
            unfold relab; rw [hO]
            have : ρ q = none := by
              cases hh : ρ q with
              | none => rfl
              | some i => exact absurd ⟨i, hh⟩ ht
            simp [this]
          have := hcame.junk b k hb hr
          rw [h] at this; cases this
    · show (if _ then _ else _) = _
      rw [if_neg hb, h]; rfl
  have hsome : ∀ b k n, Of b k = some n → n ≠ 255 → O2 b k = sigma (rowBase fet) d xs n := by
    intro b k n h hne
    by_cases hb : b < w.heap.size
    · rw [hO2lt hb]
      have h1 := hcame.less b k hb (by rw [h]; simp)
      rw [Ne, relab_none] at h1
      cases hO : O1 b k with
      | none => exact absurd hO h1
      | some q =>
        by_cases ht : T q
        · show (if T q then _ else _) = _
          rw [if_pos ht, h]; rfl
        · exfalso
          have hr : relab O1 ρ b k = some 255 := by
            unfold relab; rw [hO]
            have : ρ q = none := by
              cases hh : ρ q with
              | none => rfl
              | some i => exact absurd ⟨i, hh⟩ ht
            simp [this]
          have := hcame.junk b k hb hr
          rw [h] at this; injection this with this; exact hne this
    · show (if _ then _ else _) = _
      rw [if_neg hb, h]; rfl
  have hpf : Pres Of w' O2 w' := fun b k u h hc => ⟨hnone b k h, hc⟩
  -- the new handles
  have hbcnt : bxs.length = (boxIx sg.pars 0).length := b1
  let bi : Nat → Nat := fun j => (boxIx sg.pars 0).getD j 0
  let bval : Nat → Value := fun j => a.eval (c.args.getD (bi j) (.tmp 0))
  let HV := backsH w' (fun k => us.getD k undef) (b2 d) 16 sg.ress rs 0 ++ backBoxesH (rowBase fet) w' bval (rs.drop sg.ress.length) bxs 0
  have hHVf : HV.map (·.1) = ((backs (b2 d) 16 sg.ress rs 0).2.2 ++ (backBoxes (rowBase fet) (rs.drop sg.ress.length) bxs 0).2.2).map (·.1) := by
    simp only [HV, List.map_append, backsH_fst, backBoxesH_fst]
  have hHVn : nodup (HV.map (·.1)) = true := by rw [hHVf]; exact hnd
  let m2 : Nat → Value := fun i => (lookV HV i).getD (m i)
  have hm2 : ∀ p ∈ HV, m2 p.1 = p.2 := by
    intro p hp
    show (lookV HV p.1).getD _ = _
    rw [lookV_mem hHVn p hp]; rfl
  let Nw : Nat → Prop := fun i => ∃ p ∈ (backs (b2 d) 16 sg.ress rs 0).2.2 ++ (backBoxes (rowBase fet) (rs.drop sg.ress.length) bxs 0).2.2, p.1 = i
  have hNw : ∀ i, Nw i → Fresh { st with objs := setAll st.objs upd } i := by
    rintro i ⟨p, hp, rfl⟩
    exact (fresh_not (hfr p hp)).frz g3
  have hm2not : ∀ i, ¬ Nw i → m2 i = m i := by
    intro i hi
    show (lookV HV i).getD _ = _
    rw [lookV_none (fun h => ?_)]
    · rfl
    · rw [hHVf] at h
      obtain ⟨p, hp, hpe⟩ := List.mem_map.1 h
      exact hi ⟨p, hp, hpe⟩
  -- roles
  have hrres : ∀ j, j < sg.ress.length → ∀ b k i, i < 255 → Of b k = some (256000 + 256 * (0 + j) + i) → O2 b k = some (b2 d + 16 * (0 + j) + i) := by
    intro j hj b k i hi h
    rw [hsome b k _ h (by omega)]
    unfold sigma
    rw [if_pos (by omega), Nat.zero_add]
    have e1 : (256000 + 256 * j + i - 256000) / 256 = j := by omega
    have e2 : (256000 + 256 * j + i - 256000) % 256 = i := by omega
    rw [e1, e2]
  have hbx : ∀ (j : Nat) (p : Nat × List (Bool × CK)), bxs[j]? = some p → (∃ cs, aget st.objs p.1 = some (.box cs)) ∧ p.2.length ≤ 200 ∧ m p.1 = bval j ∧ (∃ cs, rs.getD (sg.ress.length + j) .undef = .agg cs ∧ IR Of w' (256 * bi j) (bval j) (.box cs)) ∧
      ∀ b k i, i < 255 → Of b k = some (256 * bi j + i) → O2 b k = some (if i = 0 then p.1 else rowBase fet p.1 + i) := by
    intro j p hp
    obtain ⟨i', a1, a2, a3, ⟨cs0, a4⟩, a5, a6⟩ := b2' j p hp
    rw [Nat.zero_add] at a1
    have hbi : bi j = i' := by show (boxIx sg.pars 0).getD j 0 = _; rw [List.getD_eq_getElem?_getD, a1]; rfl
    have hst := hf _ _ a4
    obtain ⟨cs, c1, c2⟩ := hcame.boxes j i' a1
    have hi'x : i' < xs.length := by rw [g2]; exact a2
    have hxv := hx i' hi'x
    have e5 : xs.getD i' .undef = .ptr p.1 0 := by rw [List.getD_eq_getElem?_getD, a5]; rfl
    rw [e5] at hxv
    have hF' : FOk O st.objs m w fet := fun q x h => ⟨hf q x h, hS.objs q x (hf q x h)⟩
    obtain ⟨bk, base, k1, k2, _⟩ := hxv.ptr hF' a4
    have e6 : (c.args.map a.eval).getD i' undef = a.eval (c.args.getD i' (.tmp 0)) := by
      have hjs : i' < c.args.size := by rw [← hl]; exact hi'x
      simp [Array.getD_eq_getD_getElem?, hjs]
    refine ⟨⟨cs0, hst⟩, a6, ?_, ⟨cs, c1, ?_⟩, fun b k i hi h => ?_⟩
    · show _ = a.eval (c.args.getD (bi j) (.tmp 0))
      rw [hbi, k1, k2, Nat.add_zero]
    · show IR Of w' (256 * bi j) (a.eval (c.args.getD (bi j) (.tmp 0))) _
      rw [hbi, ← e6]; exact c2
    · rw [hbi] at h
      rw [hsome b k _ h (by omega)]
      unfold sigma
      rw [if_neg (by omega)]
      have e1 : (256 * i' + i) / 256 = i' := by omega
      have e2 : (256 * i' + i) % 256 = i := by omega
      have e7 : boxAt xs i' = some p.1 := by unfold boxAt; rw [e5]
      rw [e1, e2, e7]
  -- the objects
  let NEW := (backs (b2 d) 16 sg.ress rs 0).2.2 ++ (backBoxes (rowBase fet) (rs.drop sg.ress.length) bxs 0).2.2
  let BX := (backBoxes (rowBase fet) (rs.drop sg.ress.length) bxs 0).2.1
  let objsF := setAll (delAll (setAll st.objs (upd ++ BX)) del) NEW
  have hnewO : ∀ p ∈ NEW, aget objsF p.1 = some p.2 := fun p hp => aget_new hnd hp
  have hBXk : ∀ i z, (i, z) ∈ BX → ∃ (j : Nat) (p : Nat × List (Bool × CK)), bxs[j]? = some p ∧ p.1 = i ∧ ∃ cs, z = .box cs := by
    intro i z hz
    have : ∀ (bs : List (Nat × List (Bool × CK))) (j0 : Nat), (i, z) ∈ (backBoxes (rowBase fet) (rs.drop sg.ress.length) bs j0).2.1 → ∃ (j : Nat) (p : Nat × List (Bool × CK)), bs[j]? = some p ∧ p.1 = i ∧ ∃ cs, z = .box cs := by
      intro bs
      induction bs with
      | nil => intro j0 h; simp [backBoxes] at h
      | cons b bs ih =>
        intro j0 h
        obtain ⟨q, ks⟩ := b
        simp only [backBoxes] at h
        rcases List.mem_cons.1 h with h | h
        · injection h with h1 h2
          exact ⟨0, (q, ks), rfl, h1.symm, _, h2⟩
        · obtain ⟨j, p, h1, h2⟩ := ih (j0 + 1) h
          exact ⟨j + 1, p, by simpa using h1, h2⟩
    exact this bxs 0 hz
  have hupdk : ∀ i z, (i, z) ∈ upd → (∃ e l f, z = .arr e true l ∧ aget st.objs i = some (.arr e f l)) ∧ aget (setAll st.objs upd) i = some z := by
    intro i z hz
    obtain ⟨e, fz, l, k1, k2⟩ := g3 _ hz
    dsimp only at k1 k2
    refine ⟨⟨e, l, fz, k2, k1⟩, ?_⟩
    obtain ⟨x, hx1, hx2⟩ := aget_setAll_mem upd st.objs i ⟨(i, z), hz, rfl⟩
    obtain ⟨e', fz', l', k3, k4⟩ := g3 _ hx1
    dsimp only at k3 k4
    rw [k1] at k3
    injection k3 with k3; injection k3 with q1 q2 q3
    subst q1; subst q3
    rw [hx2, k4, k2]
  have hnoBX : ∀ i, (∃ e f l, aget st.objs i = some (.arr e f l)) → ∀ y, (i, y) ∉ BX := by
    rintro i ⟨e, f', l, h⟩ y hy
    obtain ⟨j, p, h1, h2, _⟩ := hBXk i y hy
    obtain ⟨⟨cs, h3⟩, _⟩ := hbx j p h1
    rw [h2, h] at h3; cases h3
  have hTiff : ∀ i, T i → i ∈ del ∨ ∃ y, (i, y) ∈ BX := by
    rintro i ⟨n, hn'⟩
    have h1 : (i, n) ∈ N := look_some hn'
    have h2 := (g4 i).2 (List.mem_map.2 ⟨_, h1, rfl⟩)
    rcases List.mem_append.1 h2 with h2 | h2
    · exact .inl h2
    · right
      rw [← backBoxes_fst (rowBase fet) (rs.drop sg.ress.length) bxs 0] at h2
      obtain ⟨q, hq1, hq2⟩ := List.mem_map.1 h2
      exact ⟨q.2, by rw [← hq2]; exact hq1⟩
  have hget : ∀ i z, aget objsF i = some z → (i, z) ∈ NEW ∨ (¬ Nw i ∧ i ∉ del ∧ ((i, z) ∈ BX ∨ ((∀ y, (i, y) ∉ BX) ∧ aget (setAll st.objs upd) i = some z))) := by
    intro i z hz
    rcases aget_apply hz with h | ⟨hno, hnd', h⟩
    · exact .inl h
    · have hni : ¬ Nw i := by rintro ⟨p, hp, rfl⟩; exact hno p.2 hp
      refine .inr ⟨hni, hnd', ?_⟩
      rcases h with h | ⟨h1, h2⟩
      · rcases List.mem_append.1 h with h | h
        · obtain ⟨⟨e, l, f', h3, h4⟩, h5⟩ := hupdk i z h
          exact .inr ⟨hnoBX i ⟨e, f', l, h4⟩, h5⟩
        · exact .inl h
      · right
        refine ⟨fun y hy => h1 y (List.mem_append_right _ hy), ?_⟩
        rw [aget_setAll_not _ _ _ (fun p hp e => h1 p.2 (List.mem_append_left _ (by rw [← e]; exact hp)))]
        exact h2
  have hbxst : ∀ i z, (i, z) ∈ BX → ∃ cs, aget st.objs i = some (.box cs) ∧ aget (setAll st.objs upd) i = some (.box cs) := by
    intro i z hz
    obtain ⟨j, p, h1, h2, _⟩ := hBXk i z hz
    obtain ⟨⟨cs, h3⟩, _⟩ := hbx j p h1
    rw [h2] at h3
    refine ⟨cs, h3, ?_⟩
    rw [aget_setAll_not _ _ _ (fun p hp e => ?_)]
    · exact h3
    · obtain ⟨⟨e1, e2, e3, _, h6⟩, _⟩ := hupdk p.1 p.2 hp
      rw [e, h3] at h6; cases h6
  have hE : Exts (setAll st.objs upd) m objsF m2 Nw := by
    intro i z hz
    rcases hget i z hz with h | ⟨h1, h2, h | ⟨h3, h4⟩⟩
    · exact .inl ⟨_, h, rfl⟩
    · obtain ⟨cs, h5, h6⟩ := hbxst i z h
      obtain ⟨_, _, _, _, cs', h7⟩ := hBXk i z h
      exact .inr ⟨.box cs, h6, by rw [h7]; rfl, hm2not i h1⟩
    · exact .inr ⟨z, h4, rfl, hm2not i h1⟩
  obtain ⟨r1, r2, r3⟩ := backs_spec (objs' := objsF) (m' := m2) (cid := 256000) (cst := 256) (id := b2 d) (stride := 16) (f := fun k => us.getD k undef) (rs := rs) hpf hnone sg.ress 0 (fun j hj => by
    have := hus3 j (by rw [hus1]; exact hj)
    rw [Nat.zero_add]; exact this) hrres hokD (fun p hp => hnewO p (List.mem_append_left _ hp)) (fun p hp => hm2 p (List.mem_append_left _ hp))
  obtain ⟨s1, s2⟩ := backBoxes_spec (rb := rowBase fet) (objs' := objsF) (m' := m2) (val := bval) (cid := fun j => 256 * bi j) (rs := rs.drop sg.ress.length) hpf hnone bxs 0 (fun j p hp => by
    obtain ⟨⟨cs0, h0⟩, h1, h2, ⟨cs, h3, h4⟩, h5⟩ := hbx j p hp
    have hni : ¬ Nw p.1 := fun h => by
      have := (hNw p.1 h).objs
      dsimp only at this
      rw [aget_setAll_not _ _ _ (fun p' hp' e => ?_)] at this
      · rw [h0] at this; cases this
      · obtain ⟨⟨e1, e2, e3, _, h6⟩, _⟩ := hupdk p'.1 p'.2 hp'
        rw [e, h0] at h6; cases h6
    rw [Nat.zero_add]
    refine ⟨h1, by rw [hm2not _ hni]; exact h2, ⟨cs, ?_, h4⟩, h5⟩
    rw [List.getD_eq_getElem?_getD, List.getElem?_drop, ← List.getD_eq_getElem?_getD]; exact h3) hokC (fun p hp => hnewO p (List.mem_append_right _ hp)) (fun p hp => hm2 p (List.mem_append_right _ hp))
  -- the value
  let vsR := (backs (b2 d) 16 sg.ress rs 0).2.1
  have hval : TRel O2 objsF m2 w' v (tupOf vsR) := by
    have hlen : vsR.length = us.size := by rw [r1, hus1]
    rw [hus2]
    by_cases h1 : us.size = 1
    · rw [dif_pos h1]
      obtain ⟨x, hx'⟩ : ∃ x, vsR = [x] := List.length_eq_one_iff.1 (by rw [hlen]; exact h1)
      rw [hx']
      have := (r2 0 (by rw [← hus1]; omega)).1
      have e1 : (backs (b2 d) 16 sg.ress rs 0).2.1.getD 0 .undef = x := by
        show vsR.getD 0 .undef = x
        rw [hx']; rfl
      rw [e1] at this
      have e2 : us.getD (0 + 0) undef = us[0] := by simp [Array.getD_eq_getD_getElem?, show 0 < us.size from by omega]
      rw [← e2]; exact this
    · rw [dif_neg h1]
      have e1 : tupOf vsR = .tup vsR := by
        cases hv' : vsR with
        | nil => rfl
        | cons x l =>
          cases l with
          | nil => rw [hv'] at hlen; simp at hlen; omega
          | cons _ _ => rfl
      rw [e1]
      refine ⟨us, rfl, hlen.symm, fun j hj => ?_⟩
      have hj' : j < sg.ress.length := by rw [← r1]; exact hj
      have := r2 j hj'
      rw [Nat.zero_add] at this
      exact this.1.toT1 this.2
  refine hn O2 m2 _ _ ?_
  refine hS1.next (T := T) (Nw := Nw) (x := tupOf vsR) hM hP2 hless2 hE (fun n hn' => (hNw n hn').both) (fun q hq => ?_) (fun i z hz => ?_) rfl (fun _ => hval)
  · obtain ⟨n, hn'⟩ := hq
    have h1 : (q, n) ∈ N := look_some hn'
    have h2 := halive _ h1
    obtain ⟨y, hy⟩ := Option.isSome_iff_exists.1 h2
    have h3 := hf _ _ hy
    by_cases hu : ∃ p ∈ upd, p.1 = q
    · obtain ⟨x, _, hx2⟩ := aget_setAll_mem upd st.objs q hu
      exact Option.isSome_iff_exists.2 ⟨x, hx2⟩
    · dsimp only
      rw [aget_setAll_not _ _ _ (fun p hp e => hu ⟨p, hp, e⟩)]
      exact Option.isSome_iff_exists.2 ⟨y, h3⟩
  · rcases hget i z hz with h | ⟨h1, h2, h | ⟨h3, h4⟩⟩
    · right
      refine ⟨?_, (hNw i ⟨_, h, rfl⟩).ne⟩
      rcases List.mem_append.1 h with h | h
      · exact r3 _ h
      · exact s2 _ h
    · right
      obtain ⟨cs, h5, h6⟩ := hbxst i z h
      exact ⟨s1 _ h, hS.ids i _ h5⟩
    · left
      refine ⟨fun ht => ?_, h4, hm2not i h1⟩
      rcases hTiff i ht with h | ⟨y, hy⟩
      · exact h2 h
      · exact h3 y hy
end
end Go.Proofs.YtegnjlmdppobmaaGreat.Vm

/-
  One operation of the small machine against the real one.
-/
namespace Go.Proofs.YtegnjlmdppobmaaGreat.Vm
open Classical

structure CtxOk (P : Program) (C : Ctx) : Prop where
  T : TOk P C
  G : ∀ f sg, C.G f = some sg → Spec P f sg
  alt : ∀ f q, C.alt f = some q → Spec P f q.1 ∧ Spec P f q.2.1
theorem CtxOk.put {P : Program} {C : Ctx} (h : CtxOk P C) {f : Nat} {s : Sig} (hs : Spec P f s) : CtxOk P (C.put f s) :=
  ⟨h.T, fun k sg hk => by
    have hk' : (bif Nat.beq f k then some s else C.G k) = some sg := hk
    cases hb : Nat.beq f k with
    | true => rw [hb] at hk'; injection hk' with e; rw [← e, ← Nat.eq_of_beq_eq_true hb]; exact hs
    | false => rw [hb] at hk'; exact h.G k sg hk', h.alt⟩

section
variable {P : Program} {C : Ctx} {V0 : Nat → Value} {O0 O : Own} {w0 w : World} {m : Nat → Value} {st : St} {a : Act} {o : Oper}

theorem len1 {xs : List A} (h : xs.length = 1) : ∃ x, xs = [x] := List.length_eq_one_iff.1 h
theorem len2 {xs : List A} (h : xs.length = 2) : ∃ x y, xs = [x, y] := by
  match xs, h with
  | [x, y], _ => exact ⟨x, y, rfl⟩
theorem len3 {xs : List A} (h : xs.length = 3) : ∃ x y z, xs = [x, y, z] := by
  match xs, h with
  | [x, y, z], _ => exact ⟨x, y, z, rfl⟩

theorem not_ok {δ : Dl} (h : AllT δ.ok) (e : δ = .no) : False := by rw [e] at h; exact not_AllT_no h

theorem slice_good {t : Nat} {x : Operand} {lo hi : Option Operand} (hC : TOk P C) (hS : Sim V0 O0 w0 O m st a w) (ho : o.op = .slice t x lo hi none) {fet : Fet} (hf : Fet' st.objs fet) {x' : A} {lo' hi' : Option A} (hx : TRel O st.objs m w (a.eval x) x')
    (hlo : ORl O st.objs m w (lo.map a.eval) lo') (hhi : ORl O st.objs m w (hi.map a.eval) hi') (hok : AllT (sliceX C fet t x' lo' hi').ok) : Good P V0 O0 w0 (apply st o (sliceX C fet t x' lo' hi')) o a w := by
  cases x' with
  | str s => exact (slice_str hC ho rfl hx hlo hhi hok).good hS
  | sl l => exact (slice_sl hC ho rfl hx hlo hhi hok).good hS
  | own q => exact sliceOwn_good hC hS ho rfl hf hx hlo hhi hok
  | _ =>
    exfalso
    unfold sliceX at hok
    obtain ⟨ti, ht, he⟩ := tiOf_ok hok
    rw [he] at hok
    exact not_AllT_no hok

theorem a1_ok {k : A → Dl} {v : List A} (h : AllT (a1 k v).ok) : ∃ x, v = [x] := by
  match v, h with
  | [x], _ => exact ⟨x, rfl⟩
  | [], h => exact (not_AllT_no h).elim
  | _ :: _ :: _, h => exact (not_AllT_no h).elim
theorem a2_ok {k : A → A → Dl} {v : List A} (h : AllT (a2 k v).ok) : ∃ x y, v = [x, y] := by
  match v, h with
  | [x, y], _ => exact ⟨x, y, rfl⟩
  | [], h => exact (not_AllT_no h).elim
  | [_], h => exact (not_AllT_no h).elim
  | _ :: _ :: _ :: _, h => exact (not_AllT_no h).elim
theorem a3_ok {k : A → A → A → Dl} {v : List A} (h : AllT (a3 k v).ok) : ∃ x y z, v = [x, y, z] := by
  match v, h with
  | [x, y, z], _ => exact ⟨x, y, z, rfl⟩
  | [], h => exact (not_AllT_no h).elim
  | [_], h => exact (not_AllT_no h).elim
  | [_, _], h => exact (not_AllT_no h).elim
  | _ :: _ :: _ :: _ :: _, h => exact (not_AllT_no h).elim

set_option maxHeartbeats 1000000 in
theorem op_sound (hCx : CtxOk P C) (hS : Sim V0 O0 w0 O m st a w) {fet : Fet} (hf : Fet' st.objs fet) {xs : List A} (hl : xs.length = o.op.operands.size) (hx : ∀ j, j < xs.length → TRel O st.objs m w (a.eval (o.op.operands.getD j (.tmp 0))) (xs.getD j .undef))
    (hids : ∀ x ∈ xs, ∀ i ∈ x.ids, i ∈ st.ids ∨ (aget st.objs i).isSome)
    (hok : AllT (opX C o xs fet).ok) (hfr : ∀ p ∈ (opX C o xs fet).new, st.fresh p.1 = true) (hnd : nodup ((opX C o xs fet).new.map (·.1)) = true) : Good P V0 O0 w0 (apply st o (opX C o xs fet)) o a w := by
  have hC := hCx.T
  have hF : FOk O st.objs m w fet := fun q x h => ⟨hf q x h, hS.objs q x (hf q x h)⟩
  obtain ⟨dst, op, ty, pos, after, guard⟩ := o
  cases op with
  | move x =>
    obtain ⟨x', rfl⟩ := len1 hl
    exact (move_pure (o := ⟨dst, .move x, ty, pos, after, guard⟩) (.inl rfl) (hx 0 (by simp))).good hS
  | assign x =>
    obtain ⟨x', rfl⟩ := len1 hl
    exact (move_pure (o := ⟨dst, .assign x, ty, pos, after, guard⟩) (.inr rfl) (hx 0 (by simp))).good hS
  | pick c x y =>
    obtain ⟨c', x', y', rfl⟩ := len3 hl
    exact (pick_pure rfl (hx 0 (by simp)) (hx 1 (by simp)) (hx 2 (by simp)) hok).good hS
  | alloc t =>
    obtain rfl : xs = [] := List.eq_nil_of_length_eq_zero hl
    obtain ⟨d, hd, he⟩ := optX_ok (show AllT (optX dst fun d => allocX C d t).ok from hok)
    have e1 : opX C ⟨dst, .alloc t, ty, pos, after, guard⟩ [] fet = allocX C d t := he
    rw [e1] at hok hfr hnd ⊢
    exact allocX_good hC hS hd rfl hok hfr hnd
  | box t x =>
    obtain ⟨x', rfl⟩ := len1 hl
    obtain ⟨d, hd, he⟩ := optX_ok (show AllT (optX dst fun d => boxX C d t x').ok from hok)
    have e1 : opX C ⟨dst, .box t x, ty, pos, after, guard⟩ [x'] fet = boxX C d t x' := he
    rw [e1] at hok hfr hnd ⊢
    exact boxOp_good hC hS hd rfl (hx 0 (by simp)) (hids x' (by simp)) hok hfr hnd
  | build t ps =>
    have hps : xs.length = ps.size := by
      rw [hl]; simp [Op.operands]
    have e1 : opX C ⟨dst, .build t ps, ty, pos, after, guard⟩ xs fet = buildX C t ((ps.toList.map (fun (p : Nat × Operand) => p.1)).zip xs) := rfl
    rw [e1] at hok ⊢
    refine (build_pure (o := ⟨dst, .build t ps, ty, pos, after, guard⟩) (ps := ps) (xs := (ps.toList.map (fun (p : Nat × Operand) => p.1)).zip xs) hC rfl (by simp [hps]) (fun j x p hxj hpj => ?_) hok).good hS
    have hj : j < ps.size := (Array.getElem?_eq_some_iff.1 hpj).1
    have hjx : j < xs.length := by omega
    rw [List.getElem?_zip_eq_some] at hxj
    obtain ⟨h1, h2⟩ := hxj
    have := hx j hjx
    have e1 : (Op.build t ps).operands.getD j (.tmp 0) = p.2 := by
      simp only [Op.operands]
      rw [Array.getD_eq_getD_getElem?]
      simp [hpj]
    have e2 : xs.getD j .undef = x.2 := by rw [List.getD_eq_getElem?_getD, h2]; rfl
    refine ⟨?_, ?_⟩
    · simp [hpj] at h1; exact h1
    · rw [← e1, ← e2]; exact this
  | buildSlice t n ps =>
    obtain ⟨d, hd, he⟩ := optX_ok (show AllT (optX dst fun d => buildSliceX C fet d t n ((ps.toList.map (·.1)).zip xs)).ok from hok)
    have e1 : opX C ⟨dst, .buildSlice t n ps, ty, pos, after, guard⟩ xs fet = buildSliceX C fet d t n ((ps.toList.map (·.1)).zip xs) := he
    rw [e1] at hok hfr ⊢
    have hps : xs.length = ps.size := by
      rw [hl]; simp [Op.operands]
    refine buildSlice_good (o := ⟨dst, .buildSlice t n ps, ty, pos, after, guard⟩) (ps := ps) (xs := (ps.toList.map (·.1)).zip xs) hC hS hd rfl hf (by simp [hps]) (fun j x p hxj hpj => ?_) hok hfr
    have hj : j < ps.size := (Array.getElem?_eq_some_iff.1 hpj).1
    have hjx : j < xs.length := by omega
    rw [List.getElem?_zip_eq_some] at hxj
    obtain ⟨h1, h2⟩ := hxj
    have := hx j hjx
    have e1 : (Op.buildSlice t n ps).operands.getD j (.tmp 0) = p.2 := by
      simp only [Op.operands]
      rw [Array.getD_eq_getD_getElem?]
      simp [hpj]
    have e2 : xs.getD j .undef = x.2 := by rw [List.getD_eq_getElem?_getD, h2]; rfl
    refine ⟨?_, ?_⟩
    · simp [hpj] at h1; exact h1
    · rw [← e1, ← e2]; exact this
  | load t x =>
    obtain ⟨x', rfl⟩ := len1 hl
    exact (load_pure hC hF rfl (hx 0 (by simp)) hok).good hS
  | store t x y =>
    obtain ⟨x', y', rfl⟩ := len2 hl
    cases dst with
    | some d => exact (not_AllT_no hok).elim
    | none =>
      have e1 : opX C ⟨none, .store t x y, ty, pos, after, guard⟩ [x', y'] fet = storeX C fet t x' y' := rfl
      rw [e1] at hok hfr hnd ⊢
      cases x' with
      | ptr q off => exact storeBox_good hC hS rfl rfl hf (hx 0 (by simp)) (hx 1 (by simp)) (hids y' (by simp)) hok hfr hnd
      | oelt q i off => exact storeRow_good hC hS rfl rfl hf (hx 0 (by simp)) (hx 1 (by simp)) hok
      | _ =>
        exfalso
        unfold storeX at hok
        obtain ⟨ti, ht, he⟩ := tiOf_ok hok
        rw [he] at hok
        exact not_AllT_no hok
  | nilCheck x =>
    obtain ⟨x', rfl⟩ := len1 hl
    exact (nilCheck_pure hF rfl (hx 0 (by simp)) hok).good hS
  | binOp op t x y t' =>
    obtain ⟨x', y', rfl⟩ := len2 hl
    exact (bin_pure hC hF rfl (hx 0 (by simp)) (hx 1 (by simp)) hok).good hS
  | unOp op t x =>
    obtain ⟨x', rfl⟩ := len1 hl
    exact (un_pure rfl (hx 0 (by simp)) hok).good hS
  | convert s t x =>
    obtain ⟨x', rfl⟩ := len1 hl
    exact conv_good (o := ⟨dst, .convert s t x, ty, pos, after, guard⟩) hC hS rfl hf (hx 0 (by simp)) hok hfr
  | makeSlice t l c =>
    obtain ⟨l', c', rfl⟩ := len2 hl
    obtain ⟨d, hd, he⟩ := optX_ok (show AllT (optX dst fun d => makeX C d t l' c').ok from hok)
    have e1 : opX C ⟨dst, .makeSlice t l c, ty, pos, after, guard⟩ [l', c'] fet = makeX C d t l' c' := he
    rw [e1] at hok hfr ⊢
    exact make_good hC hS hd rfl (hx 0 (by simp)) (hx 1 (by simp)) hok hfr
  | slice t x lo hi mx =>
    have hok' : AllT (slX C fet t lo hi mx xs).ok := hok
    show Good P V0 O0 w0 (apply st _ (slX C fet t lo hi mx xs)) _ a w
    cases mx with
    | some _ => exfalso; cases lo <;> cases hi <;> exact not_AllT_no hok'
    | none =>
      cases lo with
      | none =>
        cases hi with
        | none =>
          obtain ⟨x', rfl⟩ := len1 (by simpa [Op.operands] using hl)
          exact slice_good (o := ⟨dst, .slice t x none none none, ty, pos, after, guard⟩) (lo := none) (hi := none) (lo' := none) (hi' := none) hC hS rfl hf (hx 0 (by simp)) trivial trivial hok'
        | some h =>
          obtain ⟨x', h', rfl⟩ := len2 (by simpa [Op.operands] using hl)
          exact slice_good (o := ⟨dst, .slice t x none (some h) none, ty, pos, after, guard⟩) (lo := none) (hi := some h) (lo' := none) (hi' := some h') hC hS rfl hf (hx 0 (by simp)) trivial (hx 1 (by simp)) hok'
      | some l =>
        cases hi with
        | none =>
          obtain ⟨x', l', rfl⟩ := len2 (by simpa [Op.operands] using hl)
          exact slice_good (o := ⟨dst, .slice t x (some l) none none, ty, pos, after, guard⟩) (lo := some l) (hi := none) (lo' := some l') (hi' := none) hC hS rfl hf (hx 0 (by simp)) (hx 1 (by simp)) trivial hok'
        | some h =>
          obtain ⟨x', l', h', rfl⟩ := len3 (by simpa [Op.operands] using hl)
          exact slice_good (o := ⟨dst, .slice t x (some l) (some h) none, ty, pos, after, guard⟩) (lo := some l) (hi := some h) (lo' := some l') (hi' := some h') hC hS rfl hf (hx 0 (by simp)) (hx 1 (by simp)) (hx 2 (by simp)) hok'
  | fieldAddr t x f =>
    obtain ⟨x', rfl⟩ := len1 hl
    exact (fieldAddr_pure hC hF rfl (hx 0 (by simp)) hok).good hS
  | field t x f =>
    obtain ⟨x', rfl⟩ := len1 hl
    exact (field_pure hC rfl (hx 0 (by simp)) hok).good hS
  | indexAddr t x i =>
    obtain ⟨x', i', rfl⟩ := len2 hl
    exact (indexAddr_pure hC hF rfl (hx 0 (by simp)) (hx 1 (by simp)) hok).good hS
  | index t x i =>
    obtain ⟨x', i', rfl⟩ := len2 hl
    exact (index_pure hC rfl (hx 0 (by simp)) (hx 1 (by simp)) hok).good hS
  | extract x i =>
    obtain ⟨x', rfl⟩ := len1 hl
    exact (extract_pure rfl (hx 0 (by simp)) hok).good hS
  | call c =>
    obtain ⟨callee, args, ts⟩ := c
    cases callee with
    | value fo =>
      cases fo with
      | func f =>
        have hl' : xs.length = 1 + args.size := by rw [hl]; simp [Op.operands, Call.operands]
        obtain ⟨x0, xs', rfl⟩ : ∃ x0 xs', xs = x0 :: xs' := by
          cases xs with
          | nil => simp at hl'; omega
          | cons x0 xs' => exact ⟨x0, xs', rfl⟩
        have e1 : opX C ⟨dst, .call ⟨.value (.func f), args, ts⟩, ty, pos, after, guard⟩ (x0 :: xs') fet = callX C fet (dst.getD 0) f xs' := rfl
        rw [e1] at hok hfr hnd ⊢
        cases hsg : C.G f with
        | none => exfalso; unfold callX at hok; rw [hsg] at hok; exact not_AllT_no hok
        | some sg =>
          refine call_good hS rfl rfl hsg (hCx.G f sg hsg) hf (by simp at hl'; show xs'.length = args.size; omega) (fun j hj => ?_) hok hfr hnd
          have := hx (j + 1) (by simpa using hj)
          have e2 : (Op.call ⟨.value (.func f), args, ts⟩).operands.getD (j + 1) (.tmp 0) = args.getD j (.tmp 0) := by
            simp only [Op.operands, Call.operands]
            rw [Array.getD_eq_getD_getElem?, Array.getD_eq_getD_getElem?, Array.getElem?_append_right (by simp)]
            simp
          rw [e2] at this
          simpa using this
      | _ => exfalso; exact not_ok hok rfl
    | builtin b =>
      have hok' : AllT (blX C ⟨dst, .call ⟨.builtin b, args, ts⟩, ty, pos, after, guard⟩ fet ts.toList b xs).ok := hok
      cases b with
      | len =>
        obtain ⟨x', rfl⟩ := a1_ok (show AllT (a1 _ xs).ok from hok')
        have hargs : ∃ x, args = #[x] := by
          have : args.size = 1 := by simpa [Op.operands, Call.operands] using hl.symm
          exact ⟨args[0], by apply Array.ext (by simp [this]); intro i h1 h2; have : i = 0 := by omega
                             subst this; rfl⟩
        obtain ⟨x, rfl⟩ := hargs
        obtain ⟨t, ht, he⟩ := optX_ok (show AllT (optX (one? ts.toList) fun t => lenX C fet t x').ok from hok')
        have e1 : opX C ⟨dst, .call ⟨.builtin .len, #[x], ts⟩, ty, pos, after, guard⟩ [x'] fet = lenX C fet t x' := he
        rw [e1] at hok ⊢
        exact (len_pure hC hF rfl rfl rfl (one?_some ht) (hx 0 (by simp)) hok).good hS
      | append =>
        obtain ⟨x', y', rfl⟩ := a2_ok (show AllT (a2 _ xs).ok from hok')
        have hargs : ∃ x y, args = #[x, y] := by
          have : args.size = 2 := by simpa [Op.operands, Call.operands] using hl.symm
          refine ⟨args[0], args[1], ?_⟩
          apply Array.ext (by simp [this])
          intro i h1 h2
          have : i = 0 ∨ i = 1 := by omega
          rcases this with rfl | rfl <;> rfl
        obtain ⟨x, y, rfl⟩ := hargs
        have e0 : opX C ⟨dst, .call ⟨.builtin .append, #[x, y], ts⟩, ty, pos, after, guard⟩ [x', y'] fet = appX C ⟨dst, .call ⟨.builtin .append, #[x, y], ts⟩, ty, pos, after, guard⟩ fet ts.toList x' y' := rfl
        rw [e0] at hok hfr ⊢
        clear hok' e0
        generalize hts : ts.toList = tl at hok hfr ⊢
        unfold appX at hok hfr ⊢
        split at hok
        · rename_i t u
          dsimp only at hfr ⊢
          obtain ⟨tu, htu, he⟩ := tiOf_ok hok
          rw [he] at hok hfr ⊢
          obtain ⟨d, hd, he⟩ := optX_ok hok
          rw [he] at hok hfr ⊢
          obtain ⟨h1, h2⟩ := hok.cons
          exact append_good hC hS hd rfl rfl rfl hts htu h1 hf (hx 0 (by simp)) (hx 1 (by simp)) h2 hfr
        · exact (not_AllT_no hok).elim
      | _ => exfalso; exact not_AllT_no hok'
    | invoke r mth => exfalso; exact not_ok hok rfl
  | _ => exfalso; exact not_ok hok rfl
end
end Go.Proofs.YtegnjlmdppobmaaGreat.Vm

/-
  A region's operations, one behind the other; code.
-/
namespace Go.Proofs.YtegnjlmdppobmaaGreat.Vm
open Classical

section
variable {P : Program} {C : Ctx} {V0 : Nat → Value} {O0 O : Own} {w0 w : World} {m : Nat → Value} {st : St} {a : Act} {o : Oper}

theorem fetch_ok (objs : List (Nat × Obj)) : ∀ (l : List Nat) (q : Nat) (x : Obj), aget (fetch objs l) q = some x → aget objs q = some x := by
  intro l
  induction l with
  | nil => intro q x h; cases h
  | cons n r ih =>
    intro q x h
    simp only [fetch] at h
    cases hn : aget objs n with
    | none => rw [hn] at h; exact ih q x h
    | some y =>
      rw [hn] at h
      dsimp only at h
      rw [aget_cons] at h
      by_cases hq : n = q
      · rw [if_pos hq] at h; injection h with h; subst h; rw [← hq]; exact hn
      · rw [if_neg hq] at h; exact ih q x h
theorem aget_append (a b : List (Nat × Obj)) (q : Nat) : aget (a ++ b) q = match aget a q with | some x => some x | none => aget b q := by
  induction a with
  | nil => rfl
  | cons p r ih =>
    obtain ⟨k, x⟩ := p
    rw [List.cons_append, aget_cons, aget_cons, ih]
    by_cases h : k = q <;> simp [h]
theorem fetchAll_ok (st : St) (vs : List A) : Fet' st.objs (fetchAll st vs) := by
  intro q x h
  unfold fetchAll at h
  dsimp only at h
  rw [aget_append] at h
  split at h
  · rename_i y hy; injection h with h; subst h; exact fetch_ok _ _ _ _ hy
  · exact fetch_ok _ _ _ _ h

theorem strip_rel {v : Value} {x : A} (h : TRel O st.objs m w v x) (hok : AllT x.strip.1) : TRel O st.objs m w v x.strip.2 := by
  cases x with
  | cnd g y =>
    have := h.1 hok.cons.1
    cases y <;> first | trivial | exact this | exact this.elim
  | _ => exact h
theorem strips_spec : ∀ (xs : List A) (f : Nat → Value), (∀ j, j < xs.length → TRel O st.objs m w (f j) (xs.getD j .undef)) → AllT (strips xs).1 →
    (strips xs).2.length = xs.length ∧ ∀ j, j < xs.length → TRel O st.objs m w (f j) ((strips xs).2.getD j .undef) := by
  intro xs
  induction xs with
  | nil => intro f _ _; exact ⟨rfl, fun j hj => by simp at hj⟩
  | cons x xs ih =>
    intro f h hok
    simp only [strips] at hok ⊢
    obtain ⟨h1, h2⟩ := hok.append
    obtain ⟨g1, g2⟩ := ih (fun j => f (j + 1)) (fun j hj => by simpa using h (j + 1) (by simpa using hj)) h2
    refine ⟨by simp [g1], fun j hj => ?_⟩
    cases j with
    | zero => exact strip_rel (h 0 (by simp)) h1
    | succ j => simpa using g2 j (by simpa using hj)
theorem stripsFor_spec {op : Op} {xs : List A} {f : Nat → Value} (h : ∀ j, j < xs.length → TRel O st.objs m w (f j) (xs.getD j .undef)) (hok : AllT (stripsFor op xs).1) :
    (stripsFor op xs).2.length = xs.length ∧ ∀ j, j < xs.length → TRel O st.objs m w (f j) ((stripsFor op xs).2.getD j .undef) := by
  cases op with
  | pick _ _ _ => exact ⟨rfl, h⟩
  | _ => exact strips_spec xs f h hok

theorem strip_ids {v : Value} {x : A} {i : Nat} (ht : TRel O st.objs m w v x) (hok : AllT x.strip.1) (h : i ∈ x.strip.2.ids) : i ∈ x.ids := by
  cases x with
  | cnd g y =>
    have h1 := ht.1 hok.cons.1
    cases y <;> first | exact h | exact h1.elim
  | _ => exact h
theorem strips_ids : ∀ (xs : List A) (f : Nat → Value), (∀ j, j < xs.length → TRel O st.objs m w (f j) (xs.getD j .undef)) → AllT (strips xs).1 → ∀ x ∈ (strips xs).2, ∀ i ∈ x.ids, ∃ y ∈ xs, i ∈ y.ids := by
  intro xs
  induction xs with
  | nil => intro f _ _ x hx; simp [strips] at hx
  | cons z xs ih =>
    intro f h hok x hx i hi
    simp only [strips] at hok hx
    obtain ⟨h1, h2⟩ := hok.append
    rcases List.mem_cons.1 hx with rfl | hx
    · exact ⟨z, List.mem_cons_self, strip_ids (h 0 (by simp)) h1 hi⟩
    · obtain ⟨y, hy, hi'⟩ := ih (fun j => f (j + 1)) (fun j hj => by simpa using h (j + 1) (by simpa using hj)) h2 x hx i hi
      exact ⟨y, List.mem_cons_of_mem _ hy, hi'⟩
theorem stripsFor_ids {op : Op} {xs : List A} {f : Nat → Value} (h : ∀ j, j < xs.length → TRel O st.objs m w (f j) (xs.getD j .undef)) (hok : AllT (stripsFor op xs).1) : ∀ x ∈ (stripsFor op xs).2, ∀ i ∈ x.ids, ∃ y ∈ xs, i ∈ y.ids := by
  cases op with
  | pick _ _ _ => exact fun x hx i hi => ⟨x, hx, hi⟩
  | _ => exact strips_ids xs f h hok

/-- is the operation wanted? -/
theorem guard_spec {ops : Array Oper} {gd : Option (Nat × Bool)} (hS : Sim V0 O0 w0 O m st a w) (hgd : o.guard = gd) :
    (guardOf ops.toList st.tmps gd = some none → Region.wanted o (yielded ops a.tmps) = true) ∧
    ∀ g, guardOf ops.toList st.tmps gd = some (some g) → Region.wanted o (yielded ops a.tmps) = g := by
  cases gd with
  | none =>
    refine ⟨fun _ => by unfold Region.wanted; rw [hgd], fun g h => by simp [guardOf] at h⟩
  | some p =>
    obtain ⟨j, want⟩ := p
    unfold Region.wanted
    rw [hgd]
    dsimp only
    have key : ∀ oj t, ops[j]? = some oj → oj.dst = some t → yielded ops a.tmps j = match a.tmps[t]? with | some (.bool b) => some b | _ => none := by
      intro oj t h1 h2
      unfold yielded
      have : (ops[j]?).bind (·.dst) = some t := by rw [h1]; exact h2
      rw [this]
      show (match a.tmps[t]? with | some (.bool b) => some b | _ => none) = _
      cases a.tmps[t]? with
      | none => rfl
      | some v => cases v <;> rfl
    unfold guardOf
    have hop : ops.toList[j]? = ops[j]? := by simp
    dsimp only
    rw [hop]
    cases hj : ops[j]? with
    | none => exact ⟨fun h => by simp at h, fun g h => by simp at h⟩
    | some oj =>
      dsimp only
      cases hd : oj.dst with
      | none => exact ⟨fun h => by simp at h, fun g h => by simp at h⟩
      | some t =>
        dsimp only
        have ht := hS.tmps t
        rw [key oj t hj hd]
        cases hv : st.tmps.getD t .undef with
        | bool b =>
          refine ⟨fun h => by simp at h, fun g h => ?_⟩
          simp only [Option.some.injEq] at h
          have htl : t < st.tmps.length := by
            rcases Nat.lt_or_ge t st.tmps.length with h | h
            · exact h
            · rw [List.getD_eq_getElem?_getD, List.getElem?_eq_none h] at hv; cases hv
          have := ht htl
          rw [hv] at this
          have := this.bool
          have hts : t < a.tmps.size := by rw [hS.size]; exact htl
          rw [getD_eq hts, this, ← h]
          cases want <;> cases b <;> rfl
        | cnd g0 y =>
          cases y with
          | bool b =>
            refine ⟨fun h => by simp at h, fun g h => ?_⟩
            simp only [Option.some.injEq] at h
            have htl : t < st.tmps.length := by
              rcases Nat.lt_or_ge t st.tmps.length with h | h
              · exact h
              · rw [List.getD_eq_getElem?_getD, List.getElem?_eq_none h] at hv; cases hv
            have := ht htl
            rw [hv] at this
            have hts : t < a.tmps.size := by rw [hS.size]; exact htl
            rw [getD_eq hts, ← h]
            cases g0 with
            | true =>
              have h1 : VRel O w (a.tmps.getD t undef) (.bool b) := this.1 rfl
              generalize a.tmps.getD t undef = z at h1
              cases h1
              cases want <;> cases b <;> rfl
            | false =>
              rw [this.2 rfl]; simp [undef]
          | _ => exact ⟨fun h => by simp at h, fun g h => by simp at h⟩
        | _ => exact ⟨fun h => by simp at h, fun g h => by simp at h⟩

theorem const_ids (v : Value) : (ofConst v).ids = [] := by
  have hc : ∀ u : Value, (cellConst u).ids1 = [] := by intro u; unfold cellConst; split <;> rfl
  have hc2 : ∀ u : Value, (cellConst u).ids = [] := by intro u; unfold cellConst; split <;> rfl
  unfold ofConst
  split
  · rename_i vs
    cases vs.toList.all Value.oneCell' with
    | false => rfl
    | true =>
      show (vs.toList.map cellConst).flatMap A.ids1 = []
      rw [List.flatMap_eq_nil_iff]
      intro x hx
      obtain ⟨u, _, rfl⟩ := List.mem_map.1 hx
      exact hc u
  · exact hc2 v

theorem mergeA_spec {a b : A} (h : mergeAOk a b = true) : mergeA true a b = b ∧ mergeA false a b = a := by
  cases a <;> cases b <;> first | exact ⟨rfl, rfl⟩ | exact (Bool.false_ne_true h).elim | skip
  case int.int k x k' y =>
    have e : k = k' := by cases k <;> cases k' <;> first | rfl | cases h
    subst e; exact ⟨rfl, rfl⟩
  case sl.sl l l' =>
    obtain ⟨t, xs⟩ := l
    obtain ⟨t', xs'⟩ := l'
    unfold mergeAOk Sl.cast at h
    unfold mergeA Sl.cast
    dsimp only at h ⊢
    cases hd : decEq t' t with
    | isTrue e => subst e; exact ⟨rfl, rfl⟩
    | isFalse e => rw [hd] at h; cases h
  case own.own q q' =>
    have e : q = q' := Nat.eq_of_beq_eq_true h
    subst e; exact ⟨rfl, rfl⟩
theorem zipM_spec : ∀ {aa bs : List A}, okM aa bs = true → zipM true aa bs = bs ∧ zipM false aa bs = aa
  | [], [], _ => ⟨rfl, rfl⟩
  | a :: aa, b :: bs, h => by
    unfold okM at h
    obtain ⟨h1, h2⟩ := Bool.and_eq_true_iff.1 h
    obtain ⟨i1, i2⟩ := mergeA_spec h1
    obtain ⟨j1, j2⟩ := zipM_spec h2
    exact ⟨by unfold zipM; rw [i1, j1], by unfold zipM; rw [i2, j2]⟩
  | [], _ :: _, h => by cases h
  | _ :: _, [], h => by cases h
theorem mergeO_spec {x : Option Obj} {y : Obj} (h : mergeOOk x y = true) : mergeO true x y = y ∧ ∃ z, x = some z ∧ mergeO false x y = z := by
  cases x with
  | none => cases h
  | some x =>
    cases x with
    | box cs =>
      cases y with
      | box ds =>
        obtain ⟨h1, h2⟩ := zipM_spec (show okM cs ds = true from h)
        exact ⟨congrArg Obj.box h1, .box cs, rfl, congrArg Obj.box h2⟩
      | arr e f l => cases h
    | arr e f l => cases h
theorem _root_.Go.Proofs.YtegnjlmdppobmaaGreat.Vm.Sim.sameObjs {objs' : List (Nat × Obj)} (hS : Sim V0 O0 w0 O m st a w) (h : ∀ n, aget objs' n = aget st.objs n) : Sim V0 O0 w0 O m { st with objs := objs' } a w := by
  have he : Exts st.objs m objs' m (fun _ => False) := fun o x hx => .inr ⟨x, by rw [← h]; exact hx, rfl, rfl⟩
  have hp : Pres O w O w := fun b k u h1 h2 => ⟨h1, h2⟩
  refine ⟨hS.defers, hS.size, fun t ht => (hS.tmps t ht).step hp he (fun _ _ => id), fun o x hx => ?_, hS.frame, hS.own, fun o x hx => hS.ids o x (by rw [← h]; exact hx), hS.less, fun o ho hx => hS.root o ho (by rw [← h]; exact hx), hS.junk⟩
  have h0 := hS.objs o x (by rw [← h]; exact hx)
  cases x with
  | box cs =>
    obtain ⟨b, base, h1, h2⟩ := h0
    refine ⟨b, base, h1, fun j hj => ?_⟩
    obtain ⟨g1, g2, u, g3, g4⟩ := h2 j hj
    exact ⟨g1, g2, u, g3, g4.step hp he (fun _ _ => id)⟩
  | arr e f l => exact h0
/-- one operation, its guard heeded -/
theorem step_sound (hC : CtxOk P C) (hS : Sim V0 O0 w0 O m st a w) {ops : Array Oper} (hok : AllT (stepX C ops.toList o st).ok) (next : Act → World → Prop) (Q : Exit → Act → World → Prop)
    (hn : ∀ O' m' a' w', Sim V0 O0 w0 O' m' (apply st o (stepX C ops.toList o st)) a' w' → next a' w') :
    if Region.wanted o (yielded ops a.tmps) then o.wp P a w next Q else next (a.put o.dst undef) w := by
  have hx0 : ∀ j, j < (o.op.operands.toList.map (evalA st.tmps)).length → TRel O st.objs m w (a.eval (o.op.operands.getD j (.tmp 0))) ((o.op.operands.toList.map (evalA st.tmps)).getD j .undef) := by
    intro j hj
    have hj' : j < o.op.operands.size := by simpa using hj
    have e1 : o.op.operands.getD j (.tmp 0) = o.op.operands[j] := by rw [Array.getD_eq_getD_getElem?, Array.getElem?_eq_getElem hj']; rfl
    have e2 : (o.op.operands.toList.map (evalA st.tmps)).getD j .undef = evalA st.tmps o.op.operands[j] := by simp [List.getD_eq_getElem?_getD, hj']
    rw [e1, e2]; exact eval_rel hS _
  have hid0 : ∀ y ∈ o.op.operands.toList.map (evalA st.tmps), ∀ i ∈ y.ids, i ∈ st.ids := by
    intro y hy i hi
    obtain ⟨x, _, rfl⟩ := List.mem_map.1 hy
    cases x with
    | tmp t =>
      rcases Nat.lt_or_ge t st.tmps.length with h | h
      · exact mem_ids_tmps h hi
      · have : evalA st.tmps (.tmp t) = .undef := by simp [evalA, List.getD_eq_getElem?_getD, List.getElem?_eq_none h]
        rw [this] at hi; cases hi
    | const v => have : evalA st.tmps (.const v) = ofConst v := rfl
                 rw [this, const_ids] at hi; cases hi
    | global g => cases hi
    | func f => cases hi
  obtain ⟨hg1, hg2⟩ := guard_spec (ops := ops) (o := o) hS rfl
  unfold stepX at hok hn
  cases hgo : guardOf ops.toList st.tmps o.guard with
  | none => rw [hgo] at hok; exact (not_AllT_no hok).elim
  | some r =>
    cases r with
    | none =>
      rw [hgo] at hok hn
      rw [hg1 hgo, if_pos rfl]
      dsimp only at hok hn
      obtain ⟨hokA, hokB⟩ := hok.append
      obtain ⟨hok1, hok2⟩ := hokA.append
      obtain ⟨hB1, hB2⟩ := hokB.cons
      have hB2 := hB2.cons.1
      obtain ⟨hl, hx⟩ := stripsFor_spec hx0 hok1
      have hid := stripsFor_ids hx0 hok1
      have hg := op_sound hC hS (fetchAll_ok st _) (by rw [hl]; simp) (fun j hj => hx j (by rw [← hl]; exact hj)) (fun x hx' i hi => by
        obtain ⟨y, hy, hi'⟩ := hid x hx' i hi
        exact .inl (hid0 y hy i hi')) hok2 (fun p hp => (List.all_eq_true.1 hB1) p hp) hB2
      exact hg next Q hn
    | some g =>
      rw [hgo] at hok hn
      rw [hg2 g hgo]
      dsimp only at hok hn
      obtain ⟨hokA, hokB⟩ := hok.append
      obtain ⟨hv, hokB⟩ := hokB.cons
      obtain ⟨h1, hokB⟩ := hokB.cons
      obtain ⟨h3, hokB⟩ := hokB.cons
      obtain ⟨hdst, hmg⟩ := hokB.cons
      generalize hxs : (stripsFor o.op (o.op.operands.toList.map (evalA st.tmps))) = sf at *
      generalize hδ : opX C o sf.2 (fetchAll st sf.2) = δ at *
      have hfet := fetchAll_ok st sf.2
      generalize hfe : fetchAll st sf.2 = fet at *
      have e1 : δ.new = [] := by simpa using h1
      have e3 : δ.del = [] := by simpa using h3
      have hm2 : ∀ p ∈ δ.upd, mergeOOk (aget fet p.1) p.2 = true := fun p hp => hmg _ (List.mem_map.2 ⟨p, hp, rfl⟩)
      cases g with
      | false =>
        rw [if_neg (by simp)]
        refine hn O m _ _ ?_
        have hS1 := hS.put o.dst (x := .cnd false δ.val) ⟨fun h => by (cases h), fun _ => rfl⟩
        refine hS1.sameObjs (fun n => ?_)
        show aget (setAll st.objs (δ.upd.map (fun p => (p.1, mergeO false (aget fet p.1) p.2)))) n = aget st.objs n
        by_cases hx : ∃ p ∈ δ.upd.map (fun p => (p.1, mergeO false (aget fet p.1) p.2)), p.1 = n
        · obtain ⟨x, hx1, hx2⟩ := aget_setAll_mem _ st.objs n hx
          obtain ⟨p, hp, he⟩ := List.mem_map.1 hx1
          injection he with he1 he2
          obtain ⟨_, z, hz, hz2⟩ := mergeO_spec (hm2 p hp)
          rw [hx2, ← he2, hz2, ← he1, hfet _ _ hz]
        · exact aget_setAll_not _ _ _ (fun p hp hk => hx ⟨p, hp, hk⟩)
      | true =>
        rw [if_pos rfl]
        have hokA' : AllT (sf.1 ++ δ.ok) := by
          intro b hb
          have := hokA (b || !true) (List.mem_map.2 ⟨b, hb, rfl⟩)
          simpa using this
        obtain ⟨hok1, hok2⟩ := hokA'.append
        rw [← hxs] at hok1
        obtain ⟨hl, hx⟩ := stripsFor_spec hx0 hok1
        have hid := stripsFor_ids hx0 hok1
        rw [hxs] at hl hx hid
        have hg := op_sound (xs := sf.2) (fet := fet) hC hS hfet (by rw [hl]; simp) (fun j hj => hx j (by rw [← hl]; exact hj)) (fun x hx' i hi => by
          obtain ⟨y, hy, hi'⟩ := hid x hx' i hi
          exact .inl (hid0 y hy i hi')) (by rw [hδ]; exact hok2) (fun p hp => by rw [hδ, e1] at hp; cases hp) (by rw [hδ, e1]; rfl)
        rw [hδ] at hg
        refine hg next Q (fun O' m' a' w' h => hn O' m' a' w' ?_)
        have eu : δ.upd.map (fun p => (p.1, mergeO true (aget fet p.1) p.2)) = δ.upd := by
          conv => rhs; rw [← List.map_id δ.upd]
          exact List.map_congr_left fun p hp => by rw [(mergeO_spec (hm2 p hp)).1]; rfl
        have ea : apply st o δ = { tmps := put st.tmps o.dst δ.val, objs := setAll st.objs δ.upd } := by
          unfold apply; rw [e1, e3]; rfl
        rw [ea] at h
        have eb : ∀ ok, apply st o { ok := ok, val := .cnd true δ.val, upd := δ.upd.map (fun p => (p.1, mergeO true (aget fet p.1) p.2)) } = { tmps := put st.tmps o.dst (.cnd true δ.val), objs := setAll st.objs δ.upd } := by
          intro ok; unfold apply; dsimp only; rw [eu]; rfl
        rw [eb]
        -- the value is there
        refine ⟨h.defers, by have := h.size; dsimp only at this ⊢; rw [put_length] at this ⊢; exact this, fun t ht => ?_, h.objs, h.frame, h.own, h.ids, h.less, h.root, h.junk⟩
        have ht' : t < st.tmps.length := by
          have ht2 : t < (put st.tmps o.dst (.cnd true δ.val)).length := ht
          rw [put_length] at ht2; exact ht2
        have := h.tmps t (by show t < (put st.tmps o.dst δ.val).length; rw [put_length]; exact ht')
        dsimp only at this ⊢
        rw [put_getD _ _ _ _ ht'] at this
        rw [put_getD _ _ _ _ ht']
        by_cases hd : o.dst = some t
        · rw [if_pos hd] at this ⊢
          exact ⟨fun _ => this.toT1 hv, fun h => by (cases h)⟩
        · rw [if_neg hd] at this ⊢; exact this
end
end Go.Proofs.YtegnjlmdppobmaaGreat.Vm

/-
  Places where ways meet: what is not read any more is let go, objects are named anew, rows are closed.
-/
namespace Go.Proofs.YtegnjlmdppobmaaGreat.Vm
open Classical

section
variable {P : Program} {C : Ctx} {V0 : Nat → Value} {O0 O : Own} {w0 w : World} {m : Nat → Value} {st : St} {a : Act}

theorem aget_filter (p : Nat → Bool) (l : List (Nat × Obj)) (k : Nat) : aget (l.filter (fun q => p q.1)) k = if p k then aget l k else none := by
  induction l with
  | nil => simp [aget]
  | cons q r ih =>
    obtain ⟨n, x⟩ := q
    by_cases hp : p n = true
    · rw [List.filter_cons_of_pos (by simpa using hp), aget_cons, aget_cons, ih]
      by_cases hk : n = k
      · subst hk; simp [hp]
      · simp [hk]
    · rw [List.filter_cons_of_neg (by simpa using hp), aget_cons, ih]
      by_cases hk : n = k
      · subst hk; simp [hp]
      · simp [hk]
theorem aget_map (g : Obj → Obj) (l : List (Nat × Obj)) (k : Nat) : aget (l.map (fun q => (q.1, g q.2))) k = (aget l k).map g := by
  induction l with
  | nil => rfl
  | cons q r ih =>
    obtain ⟨n, x⟩ := q
    rw [List.map_cons, aget_cons, aget_cons, ih]
    by_cases hk : n = k <;> simp [hk]

theorem drop_length (keep : List Nat) : ∀ (l : List A) (i : Nat), (drop keep l i).length = l.length := by
  intro l
  induction l with
  | nil => intro i; rfl
  | cons x r ih => intro i; simp [drop, ih]
theorem drop_getD (keep : List Nat) : ∀ (l : List A) (i t : Nat), (drop keep l i).getD t .undef = .undef ∨ (drop keep l i).getD t .undef = l.getD t .undef := by
  intro l
  induction l with
  | nil => intro i t; exact .inl (by simp [drop])
  | cons x r ih =>
    intro i t
    cases t with
    | zero =>
      simp only [drop, List.getD_cons_zero]
      cases has keep i with
      | true => exact .inr rfl
      | false => exact .inl rfl
    | succ t => simpa [drop] using ih (i + 1) t

/-- slots and objects are let go -/
theorem Sim.dropped (hS : Sim V0 O0 w0 O m st a w) (keep objs : List Nat) : Sim V0 O0 w0 O m { tmps := drop keep st.tmps 0, objs := st.objs.filter (fun p => has objs p.1) } a w := by
  have hag : ∀ o x, aget (st.objs.filter (fun p => has objs p.1)) o = some x → aget st.objs o = some x := by
    intro o x h
    rw [aget_filter (has objs)] at h
    split at h
    · exact h
    · cases h
  have hE : Exts st.objs m (st.objs.filter (fun p => has objs p.1)) m (fun _ => False) := fun o x h => .inr ⟨x, hag o x h, rfl, rfl⟩
  have hp : Pres O w O w := fun _ _ _ h hc => ⟨h, hc⟩
  refine ⟨hS.defers, by rw [hS.size]; exact (drop_length _ _ _).symm, fun t ht => ?_, fun o x h => ?_, hS.frame, hS.own, fun o x h => hS.ids o x (hag o x h), hS.less, fun o hr ho => (by obtain ⟨x, hx⟩ := Option.isSome_iff_exists.1 ho; exact hS.root o hr (by rw [hag o x hx]; rfl)), hS.junk⟩
  · have ht' : t < st.tmps.length := by
      have : t < (drop keep st.tmps 0).length := ht
      rwa [drop_length] at this
    show TRel O _ m w _ ((drop keep st.tmps 0).getD t .undef)
    rcases drop_getD keep st.tmps 0 t with h | h
    · rw [h]; trivial
    · rw [h]; exact (hS.tmps t ht').step hp hE (fun _ _ h => h)
  · exact (hS.objs o x (hag o x h)).step (T := fun _ => False) (Moves.refl O _ w) ⟨fun _ _ _ h => h, fun _ _ _ _ h _ => h⟩ hE id rfl (fun _ _ h => h)

/-! ### names anew -/
def rho (f t o : Nat) : Nat := if o = f then t else o
theorem rho_eq (f t o : Nat) : (bif Nat.beq o f then t else o) = rho f t o := by
  rw [nbeq]; unfold rho; by_cases h : o = f <;> simp [h]
def ren1 (f t : Nat) : A → A
  | .ptr o off => .ptr (rho f t o) off
  | .own o => .own (rho f t o)
  | .oelt o i off => .oelt (rho f t o) i off
  | c => c
theorem renA_agg (f t : Nat) (cs : List A) : renA f t (.agg cs) = .agg (cs.map (ren1 f t)) := by
  show A.agg (cs.map _) = _
  congr 1
  refine List.map_congr_left fun c _ => ?_
  cases c <;> first | rfl | (simp only [ren1, rho_eq])
theorem renA_1 (f t : Nat) (c : A) : (∃ cs, c = .agg cs) ∨ renA f t c = ren1 f t c := by
  cases c <;> first | exact .inl ⟨_, rfl⟩ | exact .inr rfl | (right; simp only [ren1, renA, rho_eq])

structure Ren (O : Own) (objs : List (Nat × Obj)) (m : Nat → Value) (f t : Nat) (O' : Own) (objs' : List (Nat × Obj)) (m' : Nat → Value) : Prop where
  here : ∀ x', aget objs' t = some x' → ∃ x, aget objs f = some x ∧ x.shp = x'.shp ∧ m' t = m f
  there : ∀ o x', o ≠ t → aget objs' o = some x' → o ≠ f ∧ ∃ x, aget objs o = some x ∧ x.shp = x'.shp ∧ m' o = m o
  own : ∀ b k, O' b k = (O b k).map (rho f t)
theorem Ren.pres {O' : Own} {objs objs' : List (Nat × Obj)} {m' : Nat → Value} {f t : Nat} (h : Ren O objs m f t O' objs' m') : Pres O w O' w := by
  intro b k u hn hc
  exact ⟨by rw [h.own, hn]; rfl, hc⟩

theorem CRel.ren {O' : Own} {objs objs' : List (Nat × Obj)} {m' : Nat → Value} {f t : Nat} (h : Ren O objs m f t O' objs' m') {v : Value} {c : A} (hn : ∀ i ∈ c.ids1, i = t → f = t) (hc : CRel O objs m w v c) :
    CRel O' objs' m' w v (ren1 f t c) := by
  have key : ∀ o, (o = t → f = t) → ∀ x', aget objs' (rho f t o) = some x' → ∃ x, aget objs o = some x ∧ x.shp = x'.shp ∧ m' (rho f t o) = m o := by
    intro o ho x' hx
    unfold rho at hx ⊢
    by_cases hf : o = f
    · rw [if_pos hf] at hx ⊢; rw [hf]; exact h.here x' hx
    · rw [if_neg hf] at hx ⊢
      exact (h.there o x' (fun e => hf (by rw [e, ho e])) hx).2
  cases c with
  | ptr o off =>
    simp only [CRel, ren1] at *
    refine ⟨hc.1, ?_⟩
    have hc := hc.2
    cases hx : aget objs' (rho f t o) with
    | none => simp
    | some x' =>
      obtain ⟨x, h1, h2, h3⟩ := key o (hn o (by simp [A.ids1])) x' hx
      rw [h1] at hc; simp only [Option.map_some, h2] at hc; simp only [Option.map_some, h3]; exact hc
  | own o =>
    simp only [CRel, ren1] at *
    refine ⟨hc.1, ?_⟩
    have hc := hc.2
    cases hx : aget objs' (rho f t o) with
    | none => simp
    | some x' =>
      obtain ⟨x, h1, h2, h3⟩ := key o (hn o (by simp [A.ids1])) x' hx
      rw [h1] at hc; simp only [Option.map_some, h2] at hc; simp only [Option.map_some, h3]; exact hc
  | oelt o i off =>
    simp only [CRel, ren1] at *
    refine ⟨hc.1, ?_⟩
    have hc := hc.2
    cases hx : aget objs' (rho f t o) with
    | none => simp
    | some x' =>
      obtain ⟨x, h1, h2, h3⟩ := key o (hn o (by simp [A.ids1])) x' hx
      rw [h1] at hc; simp only [Option.map_some, h2] at hc; simp only [Option.map_some, h3]; exact hc
  | elt cs =>
    obtain ⟨b, off, hv, hc⟩ := hc
    refine ⟨b, off, hv, fun j hj => ?_⟩
    obtain ⟨h1, u, h2, h3⟩ := hc j hj
    obtain ⟨h4, h5⟩ := h.pres _ _ _ h1 h2
    exact ⟨h4, u, h5, h3.pres h.pres⟩
  | fn f => exact hc
  | undef => exact hc
  | nils => exact hc
  | bool b => exact VRel.pres h.pres hc
  | int k n => exact VRel.pres h.pres hc
  | str s => exact VRel.pres h.pres hc
  | sl l => exact VRel.pres h.pres hc
  | nilp => exact VRel.pres h.pres hc
  | usl _ _ => exact hc
  | agg _ => exact hc
  | tup _ => exact hc
  | box _ => exact hc
  | cnd _ _ => exact hc

theorem Ren.exts {O' : Own} {objs objs' : List (Nat × Obj)} {m' : Nat → Value} {f t : Nat} (h : Ren O objs m f t O' objs' m') : Exts objs m objs' m' (fun o => o = t ∧ f ≠ t) := by
  intro o x' hx
  by_cases ho : o = t
  · subst ho
    by_cases hf : f = o
    · right
      obtain ⟨x, h1, h2, h3⟩ := h.here x' hx
      rw [hf] at h1 h3
      exact ⟨x, h1, h2, h3⟩
    · exact .inl ⟨rfl, hf⟩
  · exact .inr (h.there o x' ho hx).2

theorem TRel.ren {O' : Own} {objs objs' : List (Nat × Obj)} {m' : Nat → Value} {f t : Nat} (h : Ren O objs m f t O' objs' m') {v : Value} {c : A} (hn : ∀ i ∈ c.ids, i = t → f = t) (hc : TRel O objs m w v c) :
    TRel O' objs' m' w v (renA f t c) := by
  cases c with
  | agg cs =>
    rw [renA_agg]
    obtain ⟨vs, h1, h2, h3⟩ := hc
    refine ⟨vs, h1, by simpa using h2, fun j hj => ?_⟩
    have hj' : j < cs.length := by simpa using hj
    have e : (cs.map (ren1 f t)).getD j .undef = ren1 f t (cs.getD j .undef) := by
      simp [List.getD_eq_getElem?_getD, hj']
    rw [e]
    exact (h3 j hj').ren h (fun i hi => hn i (mem_flat (f := A.ids1) hj' hi))
  | tup l => exact TRel.step h.pres h.exts (fun o ho hN => hN.2 (hn o ho hN.1)) hc
  | cnd g c => exact TRel.step h.pres h.exts (fun o ho hN => hN.2 (hn o ho hN.1)) hc
  | undef => trivial
  | ptr o off =>
    have e : renA f t (.ptr o off) = ren1 f t (.ptr o off) := by simp only [ren1, renA, rho_eq]
    rw [e]; exact CRel.ren (w := w) (m := m) (c := .ptr o off) h hn hc
  | own o =>
    have e : renA f t (.own o) = ren1 f t (.own o) := by simp only [ren1, renA, rho_eq]
    rw [e]; exact CRel.ren (w := w) (m := m) (c := .own o) h hn hc
  | oelt o i off =>
    have e : renA f t (.oelt o i off) = ren1 f t (.oelt o i off) := by simp only [ren1, renA, rho_eq]
    rw [e]; exact CRel.ren (w := w) (m := m) (c := .oelt o i off) h hn hc
  | bool b => exact CRel.ren (w := w) (m := m) (c := .bool b) h hn hc
  | int k n => exact CRel.ren (w := w) (m := m) (c := .int k n) h hn hc
  | str s => exact CRel.ren (w := w) (m := m) (c := .str s) h hn hc
  | sl l => exact CRel.ren (w := w) (m := m) (c := .sl l) h hn hc
  | nils => exact CRel.ren (w := w) (m := m) (c := .nils) h hn hc
  | nilp => exact CRel.ren (w := w) (m := m) (c := .nilp) h hn hc
  | elt cs => exact CRel.ren (w := w) (m := m) (c := .elt cs) h hn hc
  | fn g => exact CRel.ren (w := w) (m := m) (c := .fn g) h hn hc
  | usl _ _ => exact hc
  | box _ => exact hc

theorem CRel.renA {O' : Own} {objs objs' : List (Nat × Obj)} {m' : Nat → Value} {f t : Nat} (h : Ren O objs m f t O' objs' m') {v : Value} {c : A} (hn : ∀ i ∈ c.ids1, i = t → f = t) (hc : CRel O objs m w v c) :
    CRel O' objs' m' w v (Vm.renA f t c) := by
  rcases renA_1 f t c with ⟨cs, rfl⟩ | e
  · exact hc.elim
  · rw [e]; exact hc.ren h hn

theorem ORel.ren {O' : Own} {objs objs' : List (Nat × Obj)} {m' : Nat → Value} {f t : Nat} (h : Ren O objs m f t O' objs' m') {o : Nat} {x : Obj} (hm : m' (rho f t o) = m o) (hn : ∀ i ∈ x.ids, i = t → f = t) (hx : ORel O objs m w o x) :
    ORel O' objs' m' w (rho f t o) (renO f t x) := by
  cases x with
  | box cs =>
    obtain ⟨b, base, h1, h2⟩ := hx
    refine ⟨b, base, by rw [hm]; exact h1, fun j hj => ?_⟩
    have hj' : j < cs.length := by simpa using hj
    obtain ⟨h3, h4, u, h5, h6⟩ := h2 j hj'
    refine ⟨by rw [h.own, h3]; rfl, h4, u, h5, ?_⟩
    have e : (cs.map (Vm.renA f t)).getD j .undef = Vm.renA f t (cs.getD j .undef) := by
      simp [List.getD_eq_getElem?_getD, hj']
    rw [e]
    exact h6.renA h (fun i hi => hn i (mem_flat (f := A.ids1) hj' hi))
  | arr e frz l =>
    obtain ⟨h0, hx⟩ := hx
    refine ⟨h0, ?_⟩
    rcases hx with ⟨h1, h2, h3⟩ | ⟨h1, g, cap, cur, h2, h3, h4, h5, h6, h7, h8, h9⟩
    · exact .inl ⟨h1, h2, by rw [hm]; exact h3⟩
    · refine .inr ⟨h1, g, cap, cur, by rw [hm]; exact h2, h3, h4, h5, h6, fun i j hi hj => ?_, fun k hk hge => ?_, fun k hk => ?_⟩
      · obtain ⟨u, h10, h11⟩ := h7 i j hi hj
        exact ⟨u, h10, h11.pres h.pres⟩
      · rw [h.own, h8 k hk hge]; rfl
      · rw [h.own, h9 k hk]; cases frz <;> rfl

theorem Sim.renamed (hS : Sim V0 O0 w0 O m st a w) {f t : Nat} {x : Obj} (hf : aget st.objs f = some x) (ht : f = t ∨ Fresh st t) :
    ∃ O' m', Sim V0 O0 w0 O' m' { tmps := st.tmps.map (renA f t), objs := (aset (adel st.objs f) t x).map (fun p => (p.1, renO f t p.2)) } a w := by
  have hag : ∀ o, aget ((aset (adel st.objs f) t x).map (fun p => (p.1, renO f t p.2))) o = (if o = t then some x else if o = f then none else aget st.objs o).map (renO f t) := by
    intro o
    rw [aget_map, aget_aset, aget_adel]
  have hshp : ∀ y, (renO f t y).shp = y.shp := by intro y; cases y <;> rfl
  have h255 : f ≠ 255 := hS.ids f x hf
  have hR : Ren O st.objs m f t (fun b k => (O b k).map (rho f t)) ((aset (adel st.objs f) t x).map (fun p => (p.1, renO f t p.2))) (fun o => if o = t then m f else m o) := by
    refine ⟨fun x' hx => ?_, fun o x' ho hx => ?_, fun _ _ => rfl⟩
    · rw [hag, if_pos rfl] at hx
      simp only [Option.map_some, Option.some.injEq] at hx
      exact ⟨x, hf, by rw [← hx, hshp], if_pos rfl⟩
    · rw [hag, if_neg ho] at hx
      by_cases hof : o = f
      · rw [if_pos hof] at hx; cases hx
      · rw [if_neg hof] at hx
        cases hy : aget st.objs o with
        | none => rw [hy] at hx; cases hx
        | some y =>
          rw [hy] at hx
          simp only [Option.map_some, Option.some.injEq] at hx
          exact ⟨hof, y, rfl, by rw [← hx, hshp], if_neg ho⟩
  have hids : ∀ i ∈ st.ids, i = t → f = t := by
    intro i hi he
    rcases ht with h | h
    · exact h
    · exact absurd (he ▸ hi) h.ids
  have hmr : ∀ o, (o = t → f = t) → (fun o => if o = t then m f else m o) (rho f t o) = m o := by
    intro o ho
    unfold rho
    by_cases h1 : o = f
    · rw [if_pos h1, h1]; exact if_pos rfl
    · rw [if_neg h1]; exact if_neg (fun e => h1 (by rw [e, ho e]))
  refine ⟨(fun b k => (O b k).map (rho f t)), (fun o => if o = t then m f else m o), hS.defers, by rw [hS.size]; simp, fun i hi => ?_, fun o y hy => ?_, hS.frame, fun b k o hb ho hne => ?_, fun o y hy => ?_, fun b k hb h => hS.less b k hb (fun e => h (by show (O b k).map _ = none; rw [e]; rfl)), fun o hr ho => ?_, fun b k hb h => by show (O b k).map (rho f t) = _; rw [hS.junk b k hb h]; exact congrArg some (if_neg (fun e => h255 e.symm))⟩
  · have hi' : i < st.tmps.length := by simpa using hi
    have e : (st.tmps.map (renA f t)).getD i .undef = renA f t (st.tmps.getD i .undef) := by
      simp [List.getD_eq_getElem?_getD, hi']
    show TRel _ _ _ _ _ ((st.tmps.map (renA f t)).getD i .undef)
    rw [e]
    exact (hS.tmps i hi').ren hR (fun j hj => hids j (mem_ids_tmps hi' hj))
  · have hy' := hy
    dsimp only at hy
    rw [hag] at hy
    by_cases h1 : o = t
    · rw [if_pos h1] at hy
      simp only [Option.map_some, Option.some.injEq] at hy
      subst hy
      have := (hS.objs f x hf).ren hR (hmr f (fun e => e)) (fun i hi => hids i (mem_ids_objs hf hi))
      have e : rho f t f = t := if_pos rfl
      rw [e] at this; rw [h1]; exact this
    · rw [if_neg h1] at hy
      by_cases h2 : o = f
      · rw [if_pos h2] at hy; cases hy
      · rw [if_neg h2] at hy
        cases hz : aget st.objs o with
        | none => rw [hz] at hy; cases hy
        | some z =>
          rw [hz] at hy
          simp only [Option.map_some, Option.some.injEq] at hy
          subst hy
          have := (hS.objs o z hz).ren hR (hmr o (fun e => absurd e h1)) (fun i hi => hids i (mem_ids_objs hz hi))
          have e : rho f t o = o := if_neg h2
          rw [e] at this; exact this
  · cases hq : O b k with
    | none =>
      have : (O b k).map (rho f t) = some o := ho
      rw [hq] at this; cases this
    | some o1 =>
      have : (O b k).map (rho f t) = some o := ho
      rw [hq] at this
      simp only [Option.map_some, Option.some.injEq] at this
      refine hS.own b k o1 hb hq (fun e => hne ?_)
      rw [← this, e]; exact if_neg (fun e => h255 e.symm)
  · dsimp only at hy
    rw [hag] at hy
    by_cases h1 : o = t
    · rw [h1]
      rcases ht with h | h
      · rw [← h]; exact h255
      · exact h.ne
    · rw [if_neg h1] at hy
      by_cases h2 : o = f
      · rw [h2]; exact h255
      · rw [if_neg h2] at hy
        cases hz : aget st.objs o with
        | none => rw [hz] at hy; cases hy
        | some z => exact hS.ids o z hz
  · dsimp only at ho ⊢
    rw [hag] at ho
    by_cases h1 : o = t
    · rw [if_pos h1]
      rcases ht with h | h
      · rw [h1, ← h]; exact hS.root f (by rw [h, ← h1]; exact hr) (by rw [hf]; rfl)
      · rw [h1, h.root] at hr; cases hr
    · rw [if_neg h1] at ho ⊢
      by_cases h2 : o = f
      · rw [if_pos h2] at ho; cases ho
      · rw [if_neg h2] at ho
        refine hS.root o hr ?_
        cases hz : aget st.objs o with
        | none => rw [hz] at ho; cases ho
        | some z => rfl

theorem rens_sound : ∀ (l : List (Nat × Nat)) {O : Own} {m : Nat → Value} {st : St}, Sim V0 O0 w0 O m st a w → (rens st l).1 = true → ∃ O' m', Sim V0 O0 w0 O' m' (rens st l).2 a w := by
  intro l
  induction l with
  | nil => intro O m st hS _; exact ⟨O, m, hS⟩
  | cons p r ih =>
    intro O m st hS h
    obtain ⟨f, t⟩ := p
    simp only [rens] at h ⊢
    cases hx : aget st.objs f with
    | none => rw [hx] at h; exact ih hS h
    | some x =>
      rw [hx] at h
      dsimp only at h ⊢
      rw [Bool.and_eq_true, nbeq] at h
      obtain ⟨O1, m1, hS1⟩ := hS.renamed (t := t) hx (by
        by_cases hft : f = t
        · exact .inl hft
        · have h1 := h.1
          rw [show decide (f = t) = false by simpa using hft] at h1
          exact .inr (fresh_not h1))
      exact ih hS1 h.2
theorem frzs_sound : ∀ (l : List Nat) {O : Own} {st : St}, Sim V0 O0 w0 O m st a w → ∃ O', Sim V0 O0 w0 O' m { st with objs := frzs st.objs l } a w := by
  intro l
  induction l with
  | nil => intro O st hS; exact ⟨O, hS⟩
  | cons n r ih =>
    intro O st hS
    simp only [frzs]
    cases hx : aget st.objs n with
    | none => exact ih hS
    | some x =>
      cases x with
      | box cs => exact ih hS
      | arr e f l =>
        obtain ⟨O1, hS1, _⟩ := hS.freeze1 hx
        exact ih hS1

theorem put_self {t : Nat} {v : Value} (hs : a.tmps.getD t undef = v) (hlt : t < a.tmps.size) : a.put (some t) v = a := by
  have : a.tmps.setIfInBounds t v = a.tmps := by
    apply Array.ext_getElem?
    intro i
    rw [Array.getElem?_setIfInBounds]
    by_cases hi : t = i
    · subst hi
      rw [if_pos rfl, if_pos hlt, getD_eq hlt, hs]
    · rw [if_neg hi]
  simp only [Act.put, this]
theorem isNils_eq {x : A} (h : isNils x = true) : x = .nils := by cases x <;> first | rfl | cases h
/-- slots that hold what a row's handle is -/
theorem setOwn_sim {id : Nat} : ∀ (ts : List Nat) {O : Own} {m : Nat → Value} {st : St}, Sim V0 O0 w0 O m st a w → (∀ t ∈ ts, t < st.tmps.length) → (∀ t ∈ ts, CRel O st.objs m w (a.tmps.getD t undef) (.own id)) →
    Sim V0 O0 w0 O m { st with tmps := setOwn id ts st.tmps } a w := by
  intro ts
  induction ts with
  | nil => intro O m st hS _ _; exact hS
  | cons t r ih =>
    intro O m st hS hl hc
    have hlt := hl t List.mem_cons_self
    have h1 := hS.put (some t) (x := .own id) (v := a.tmps.getD t undef) ((hc t List.mem_cons_self).toT)
    rw [put_self rfl (by rw [hS.size]; exact hlt)] at h1
    exact ih (st := { st with tmps := st.tmps.set t (.own id) }) h1 (fun q hq => by simpa using hl q (List.mem_cons_of_mem _ hq)) (fun q hq => hc q (List.mem_cons_of_mem _ hq))
theorem owns_sound : ∀ (l : List (List Nat × Nat × Ty × Nat)) {O : Own} {m : Nat → Value} {st : St}, Sim V0 O0 w0 O m st a w → (owns l st).1 = true → ∃ O' m', Sim V0 O0 w0 O' m' (owns l st).2 a w := by
  intro l
  induction l with
  | nil => intro O m st hS _; exact ⟨O, m, hS⟩
  | cons p r ih =>
    intro O m st hS h
    obtain ⟨ts, e, ty, id⟩ := p
    unfold owns at h ⊢
    cases hany : ts.any (fun t => isNils (st.tmps.getD t .undef)) with
    | false => rw [hany] at h; exact ih hS h
    | true =>
      rw [hany] at h
      simp only [cond_true] at h ⊢
      rw [Bool.and_eq_true, Bool.and_eq_true] at h
      obtain ⟨⟨h1, h2⟩, h3⟩ := h
      have hall : ∀ t ∈ ts, st.tmps.getD t .undef = .nils ∧ t < st.tmps.length := by
        intro t ht
        have := List.all_eq_true.1 h1 t ht
        rw [Bool.and_eq_true, Nat.blt_eq] at this
        exact ⟨isNils_eq this.1, this.2⟩
      have hval : ∀ t ∈ ts, a.tmps.getD t undef = .slice none 0 0 := by
        intro t ht
        have hv := hS.tmps t (hall t ht).2
        rw [(hall t ht).1] at hv
        exact hv
      cases ts with
      | nil => cases hany
      | cons t ts =>
        have hlt := (hall t List.mem_cons_self).2
        obtain ⟨O', m', hS'⟩ := nilRow_sim hS (d := t) (e := e) (t := ty) (frz := false) (del := []) (fresh_not h2)
        rw [put_self (hval t List.mem_cons_self) (by rw [hS.size]; exact hlt)] at hS'
        have hslot := hS'.tmps t (by simpa using hlt)
        have e0 : (st.tmps.set t (.own id)).getD t .undef = .own id := by simp [List.getD_eq_getElem?_getD, hlt]
        rw [e0, hval t List.mem_cons_self] at hslot
        have hfin := setOwn_sim (a := a) ts hS' (fun q hq => by simpa using (hall q (List.mem_cons_of_mem _ hq)).2) (fun q hq => by
          rw [hval q (List.mem_cons_of_mem _ hq)]; exact hslot)
        exact ih hfin h3
/-- a row is closed where it stands -/
theorem pzs_sound : ∀ (l : List (Option Nat × Nat × Ty)) {O : Own} {st : St}, Sim V0 O0 w0 O m st a w → ∃ O', Sim V0 O0 w0 O' m (pzs l st) a w := by
  intro l
  induction l with
  | nil => intro O st hS; exact ⟨O, hS⟩
  | cons p r ih =>
    intro O st hS
    obtain ⟨b, j, ty⟩ := p
    cases b with
    | none =>
      unfold pzs
      cases hx : st.tmps.getD j .undef with
      | nils =>
        dsimp only
        have hlt : j < st.tmps.length := by
          rcases Nat.lt_or_ge j st.tmps.length with h | h
          · exact h
          · rw [List.getD_eq_getElem?_getD, List.getElem?_eq_none h] at hx; cases hx
        have hc := hS.tmps j hlt
        rw [hx] at hc
        have hc : a.tmps.getD j undef = .slice none 0 0 := hc
        have h2 := hS.put (some j) (x := .sl ⟨ty, []⟩) (v := a.tmps.getD j undef) (by rw [hc]; exact VRel.nil ty)
        rw [put_self rfl (by rw [hS.size]; exact hlt)] at h2
        exact ih h2
      | own o =>
        dsimp only
        cases ho : aget st.objs o with
        | none => exact ih hS
        | some y =>
          cases y with
          | box _ => exact ih hS
          | arr e f l =>
            dsimp only
            obtain ⟨O1, hS1, hp1, _, hv1, _⟩ := hS.freeze1 ho
            have hlt : j < st.tmps.length := by
              rcases Nat.lt_or_ge j st.tmps.length with h | h
              · exact h
              · rw [List.getD_eq_getElem?_getD, List.getElem?_eq_none h] at hx; cases hx
            have hc := hS.tmps j hlt
            rw [hx] at hc
            have hc : CRel O st.objs m w (a.tmps.getD j undef) (.own o) := hc
            have hc2 := hc.2
            rw [ho] at hc2
            have hm : a.tmps.getD j undef = m o := hc2
            have h2 := hS1.put (some j) (x := .sl l) (v := a.tmps.getD j undef) (by rw [hm]; exact hv1)
            rw [put_self rfl (by rw [hS.size]; exact hlt)] at h2
            exact ih h2
      | _ => exact ih hS
    | some b =>
      unfold pzs
      cases hb : aget st.objs b with
      | none => exact ih hS
      | some y =>
        cases y with
        | arr _ _ _ => exact ih hS
        | box cs =>
          dsimp only
          cases hx : cs.getD j .undef with
          | own o =>
            dsimp only
            cases ho : aget st.objs o with
            | none => exact ih hS
            | some y =>
              cases y with
              | box _ => exact ih hS
              | arr e f l =>
                dsimp only
                obtain ⟨O1, hS1, hp1, _, hv1, _⟩ := hS.freeze1 ho
                have hbo : b ≠ o := fun h => by rw [h, ho] at hb; cases hb
                have hb1 : aget (aset st.objs o (.arr e true l)) b = some (.box cs) := by rw [aget_aset, if_neg hbo]; exact hb
                have ho1 : aget (aset st.objs o (.arr e true l)) o = some (.arr e true l) := by rw [aget_aset, if_pos rfl]
                have hjl : j < cs.length := by
                  rcases Nat.lt_or_ge j cs.length with h | h
                  · exact h
                  · rw [List.getD_eq_getElem?_getD, List.getElem?_eq_none h] at hx; cases hx
                have hE : Exts (aset st.objs o (.arr e true l)) m (aset (aset st.objs o (.arr e true l)) b (.box (cs.set j (.sl l)))) m (fun _ => False) := by
                  intro q z hz
                  rw [aget_aset] at hz
                  by_cases hq : q = b
                  · rw [if_pos hq] at hz; injection hz with hz; subst hz
                    exact .inr ⟨.box cs, by rw [hq]; exact hb1, rfl, rfl⟩
                  · rw [if_neg hq] at hz; exact .inr ⟨z, hz, rfl, rfl⟩
                have h2 := hS1.next (st' := { st with objs := aset (aset st.objs o (.arr e true l)) b (.box (cs.set j (.sl l))) }) (d := none) (v := undef) (x := .undef) (T := fun _ => False) (Nw := fun _ => False) (Moves.refl O1 _ w) ⟨fun _ _ _ h => h, fun _ _ _ _ h _ => h⟩ (fun _ _ _ h => h) hE (fun _ h => h.elim) (fun _ h => h.elim)
                  (fun q z hz => by
                    rw [aget_aset] at hz
                    by_cases hq : q = b
                    · rw [if_pos hq] at hz; injection hz with hz; subst hz
                      right
                      obtain ⟨bk, base, g1, g2⟩ := hS1.objs b _ hb1
                      rw [hq]
                      refine ⟨⟨bk, base, g1, fun i hi => ?_⟩, hS.ids b _ hb⟩
                      rw [List.length_set] at hi
                      obtain ⟨k1, k2, u, k3, k4⟩ := g2 i hi
                      refine ⟨k1, k2, u, k3, ?_⟩
                      by_cases hij : j = i
                      · subst hij
                        have e1 : (cs.set j (.sl l)).getD j .undef = .sl l := by simp [List.getD_eq_getElem?_getD, hjl]
                        rw [e1]
                        rw [hx] at k4
                        have k5 := k4.2
                        rw [ho1] at k5
                        have hm : u = m o := k5
                        rw [hm]; exact hv1
                      · have e1 : (cs.set j (.sl l)).getD i .undef = cs.getD i .undef := by
                          simp only [List.getD_eq_getElem?_getD, List.getElem?_set]; rw [if_neg hij]
                        rw [e1]
                        exact k4.step (fun _ _ _ h hc => ⟨h, hc⟩) hE (fun _ _ h => h)
                    · rw [if_neg hq] at hz; exact .inl ⟨fun h => h, hz, rfl⟩) rfl (fun h => absurd rfl h)
                exact ih h2
          | _ => exact ih hS
theorem norm_sound (hS : Sim V0 O0 w0 O m st a w) {key : Nat} (h : (norm C key st).1 = true) : ∃ O' m', Sim V0 O0 w0 O' m' (norm C key st).2 a w := by
  unfold norm at h ⊢
  cases hn : C.nrm key with
  | none => exact ⟨O, m, hS⟩
  | some n =>
    rw [hn] at h
    dsimp only at h ⊢
    rw [Bool.and_eq_true] at h
    obtain ⟨O4, hS4⟩ := pzs_sound n.pz hS
    obtain ⟨O1, m1, hS1⟩ := rens_sound n.ren (hS4.dropped n.keep (reached (drop n.keep (pzs n.pz st).tmps 0) (pzs n.pz st).objs)) h.1
    obtain ⟨O3, m3, hS3⟩ := owns_sound n.nw hS1 h.2
    obtain ⟨O2, hS2⟩ := frzs_sound n.frz hS3
    exact ⟨O2, m3, hS2⟩
theorem meetAt_sound {ρ : Type} (hS : Sim V0 O0 w0 O m st a w) {key : Nat} {K : St → Option ρ} {r : ρ} (h : meetAt C key st K = some r) : ∃ O' m' st', Sim V0 O0 w0 O' m' st' a w ∧ K st' = some r := by
  unfold meetAt at h
  cases hn : (norm C key st).1 with
  | false =>
    have h' : (bif (norm C key st).1 then K (norm C key st).2 else none) = some r := h
    rw [hn] at h'; cases h'
  | true =>
    have h' : (bif (norm C key st).1 then K (norm C key st).2 else none) = some r := h
    rw [hn] at h'
    obtain ⟨O1, m1, hS1⟩ := norm_sound hS hn
    exact ⟨O1, m1, _, hS1, h'⟩
theorem meet_sound {ρ : Type} (hS : Sim V0 O0 w0 O m st a w) {kind : Nat} {c : Code} {K : St → Option ρ} {r : ρ} (h : meet C kind c st K = some r) : ∃ O' m' st', Sim V0 O0 w0 O' m' st' a w ∧ K st' = some r := by
  unfold meet at h
  cases hn : firstRegion c with
  | none => rw [hn] at h; exact ⟨O, m, st, hS, h⟩
  | some n => rw [hn] at h; exact meetAt_sound hS h
end
end Go.Proofs.YtegnjlmdppobmaaGreat.Vm

/-
  Code: what the small machine answers the real one does.
-/
namespace Go.Proofs.YtegnjlmdppobmaaGreat.Vm
open Classical

section
variable {P : Program} {C : Ctx} {V0 : Nat → Value} {O0 O : Own} {w0 w : World} {m : Nat → Value} {st : St} {a : Act}

theorem altOf_some {C : Ctx} {o : Oper} {f : Nat} {q : Alt} (h : altOf C o = some (f, q)) : C.alt f = some q := by
  unfold altOf at h
  split at h
  · rename_i g _ _ _ _
    cases ha : C.alt g with
    | none => rw [ha] at h; cases h
    | some q' => rw [ha] at h; injection h with h; injection h with h1 h2; rw [← h1, ← h2]; exact ha
  · cases h
theorem ops_sound {ρ : Type} (hC : CtxOk P C) {ops : Array Oper} {Q : Exit → Act → World → Prop} {v : ρ} {K : St → Option ρ} (hK : ∀ O' m' st' a' w', Sim V0 O0 w0 O' m' st' a' w' → K st' = some v → Q .normal a' w') :
    ∀ (l : List Oper) {O : Own} {m : Nat → Value} {st : St} {a : Act} {w : World}, Sim V0 O0 w0 O m st a w → opsA C ops.toList l st K = some v → wpList P ops Q l a w := by
  intro l
  induction l with
  | nil => intro O m st a w hS h; exact hK _ _ _ _ _ hS h
  | cons o r ih =>
    intro O m st a w hS h
    have one : ∀ C' : Ctx, CtxOk P C' → allT (stepX C' ops.toList o st).ok (opsA C ops.toList r (apply st o (stepX C' ops.toList o st)) K) = some v → wpList P ops Q (o :: r) a w := by
      intro C' hC' h
      obtain ⟨h1, h2⟩ := allT_some h
      refine wpList_step fun k hk => ?_
      exact step_sound hC' hS h1 k Q fun O' m' a' w' hS' => hk _ _ (ih hS' h2)
    unfold opsA at h
    cases ha : altOf C o with
    | none => rw [ha] at h; exact one C hC h
    | some q =>
      obtain ⟨f, q⟩ := q
      rw [ha] at h
      dsimp only at h
      obtain ⟨h1, h2⟩ := hC.alt f q (altOf_some ha)
      cases hb : altB o st q with
      | true => rw [hb] at h; exact one _ (hC.put h1) h
      | false => rw [hb] at h; exact one _ (hC.put h2) h

/-- what holds where the code has been left -/
def Post {ρ : Type} (V0 : Nat → Value) (O0 : Own) (w0 : World) (fin : St → Option ρ) (K : Ex → St → Option ρ) (v : ρ) : Exit → Act → World → Prop
  | .normal, a, w => ∃ O m st, Sim V0 O0 w0 O m st a w ∧ K .normal st = some v
  | .exit id, a, w => ∃ O m st, Sim V0 O0 w0 O m st a w ∧ K (.exit id) st = some v
  | .ret, a, w => ∃ O m st, Sim V0 O0 w0 O m st a w ∧ fin st = some v
  | _, _, _ => False

theorem cond_eval (hS : Sim V0 O0 w0 O m st a w) {c : Operand} {t : Bool} (h : evalA st.tmps c = .bool t ∨ evalA st.tmps c = .cnd true (.bool t)) : a.eval c = .bool t := by
  have := eval_rel hS c
  rcases h with h | h
  · rw [h] at this; exact this.bool
  · rw [h] at this
    have h1 : VRel O w (a.eval c) (.bool t) := this.1 rfl
    generalize a.eval c = z at h1 ⊢
    cases h1; rfl

theorem code_sound {ρ : Type} (hC : CtxOk P C) (N : Nat) {fin : St → Option ρ} {v : ρ}
    (hdraw : ∀ (id : Nat) (ops : Array Oper) {O : Own} {m : Nat → Value} {st : St} {a : Act} {w : World} (K : Ex → St → Option ρ), Sim V0 O0 w0 O m st a w → drawOk C ops.toList st = true → opsX C ops.toList ops.toList st (fun st' => K .normal st') = some v →
      (Code.region id ops true).wp P (Post V0 O0 w0 fin K v) a w) :
    ∀ (c : Code) {O : Own} {m : Nat → Value} {st : St} {a : Act} {w : World} {K : Ex → St → Option ρ}, Sim V0 O0 w0 O m st a w → exec C N fin c st K = some v → c.wp P (Post V0 O0 w0 fin K v) a w := by
  intro c
  induction c with
  | skip => intro O m st a w K hS h; exact wp_skip ⟨O, m, st, hS, h⟩
  | label l => intro O m st a w K hS h; exact wp_label ⟨O, m, st, hS, h⟩
  | ret => intro O m st a w K hS h; exact wp_ret ⟨O, m, st, hS, h⟩
  | exit id =>
    intro O m st a w K hS h
    obtain ⟨O', m', st', hS', h'⟩ := meetAt_sound hS (show meetAt C (4 * id + 3) st (fun st' => K (.exit id) st') = some v from h)
    exact wp_exit ⟨O', m', st', hS', h'⟩
  | region id ops d =>
    intro O m st a w K hS h
    cases d with
    | false =>
      refine wp_region_list (ops_sound hC (K := fun st' => K .normal st') (fun O' m' st' a' w' hS' h' => ⟨O', m', st', hS', h'⟩) ops.toList hS h)
    | true =>
      have h' : (bif drawOk C ops.toList st then opsX C ops.toList ops.toList st (fun st' => K .normal st') else none) = some v := h
      cases hd : drawOk C ops.toList st with
      | false => rw [hd] at h'; cases h'
      | true => rw [hd] at h'; exact hdraw id ops K hS hd h'
  | seq x y ihx ihy =>
    intro O m st a w K hS h
    refine wp_seq (wp_mono (ihx (K := fun | .normal, st' => meet C 1 y st' fun st'' => exec C N fin y st'' K | .exit id, st' => K (.exit id) st') hS h) fun e a' w' hq => ?_)
    cases e with
    | normal =>
      obtain ⟨O1, m1, st1, hS1, h1⟩ := hq
      obtain ⟨O2, m2, st2, hS2, h2⟩ := meet_sound hS1 h1
      exact ihy hS2 h2
    | exit id => exact hq
    | ret => exact hq
    | goto l => exact hq
    | panic ch => exact hq
    | outgrown => exact hq
  | cond c x y ihx ihy =>
    intro O m st a w K hS h
    have key : ∀ t : Bool, (evalA st.tmps c = .bool t ∨ evalA st.tmps c = .cnd true (.bool t)) → (bif t then exec C N fin x st K else exec C N fin y st K) = some v → (Code.cond c x y).wp P (Post V0 O0 w0 fin K v) a w := by
      intro t ht h'
      refine wp_cond (cond_eval hS ht) ?_
      cases t with
      | true => exact ihx hS h'
      | false => exact ihy hS h'
    simp only [exec] at h
    cases he : evalA st.tmps c with
    | bool t => rw [he] at h; exact key t (.inl he) h
    | cnd g y' =>
      rw [he] at h
      cases y' with
      | bool t =>
        cases g with
        | false => cases h
        | true => exact key t (.inr he) h
      | _ => cases h
    | _ => rw [he] at h; cases h
  | block id c ih =>
    intro O m st a w K hS h
    refine wp_block (wp_mono (ih (K := fun | .exit j, st' => bif Nat.beq j id then K .normal st' else K (.exit j) st' | .normal, st' => K .normal st') hS h) fun e a' w' hq => ?_)
    cases e with
    | normal => exact hq
    | exit j =>
      obtain ⟨O1, m1, st1, hS1, h1⟩ := hq
      dsimp only at h1
      show if j = id then _ else _
      rw [nbeq] at h1
      by_cases hj : j = id
      · rw [if_pos hj]
        simp only [hj, decide_true, cond_true] at h1
        exact ⟨O1, m1, st1, hS1, h1⟩
      · rw [if_neg hj]
        rw [show decide (j = id) = false by simpa using hj] at h1
        exact ⟨O1, m1, st1, hS1, h1⟩
    | ret => exact hq
    | goto l => exact hq
    | panic ch => exact hq
    | outgrown => exact hq
  | loop c ih =>
    intro O m st a w K hS h
    obtain ⟨O1, m1, st1, hS1, h1⟩ := meet_sound hS (show meet C 2 c st (fun st' => rounds (meet C 2 c) (exec C N fin c) N st' K) = some v from h)
    refine wp_loop_rounds N ?_
    have key : ∀ (n : Nat) {O : Own} {m : Nat → Value} {st : St} {a : Act} {w : World}, Sim V0 O0 w0 O m st a w → rounds (meet C 2 c) (exec C N fin c) n st K = some v → Code.rounds P c (Post V0 O0 w0 fin K v) n a w := by
      intro n
      induction n with
      | zero => intro O m st a w _ h; cases h
      | succ n ihn =>
        intro O m st a w hS h
        refine wp_mono (ih (K := fun | .normal, st' => meet C 2 c st' fun st'' => rounds (meet C 2 c) (exec C N fin c) n st'' K | .exit id, st' => K (.exit id) st') hS h) fun e a' w' hq => ?_
        cases e with
        | normal =>
          obtain ⟨O2, m2, st2, hS2, h2⟩ := hq
          obtain ⟨O3, m3, st3, hS3, h3⟩ := meet_sound hS2 h2
          exact ihn hS3 h3
        | exit id => exact hq
        | ret => exact hq
        | goto l => exact hq
        | panic ch => exact hq
        | outgrown => exact hq
    exact key N hS1 h1
  | _ => intro O m st a w K hS h; cases h
end
end Go.Proofs.YtegnjlmdppobmaaGreat.Vm

/-
  A function: what the small machine answers its call returns.
-/
namespace Go.Proofs.YtegnjlmdppobmaaGreat.Vm
open Classical

def maskS : Sh → Sh
  | .box ks => .box ks
  | _ => .cell false .bool
def maskV : List Sh → Nat → List A
  | [], _ => []
  | s :: ss, i => (bif isBoxSh s then .ptr (256 * i) 0 else .bool true) :: maskV ss (i + 1)
def unbox : A → A
  | .box cs => .agg cs
  | a => a
def entrySt (pars : List Sh) (xs : List A) (n : Nat) : St := { tmps := (backs 0 256 pars xs 0).2.1 ++ List.replicate (n - pars.length) .undef, objs := setAll [] (backs 0 256 pars xs 0).2.2 }
/-- a result: a slot, or what lies where a slot points -/
def outX (C : Ctx) (st : St) (q : Nat × Option Nat) : List Bool × A :=
  match q.2 with
  | none => ([Nat.blt q.1 st.tmps.length], st.tmps.getD q.1 .undef)
  | some ty => match loadX C st.objs ty (st.tmps.getD q.1 .undef) with
    | δ => (Nat.blt q.1 st.tmps.length :: δ.ok, δ.val)
def outsOf (C : Ctx) (outs : List (Nat × Option Nat)) (st : St) : List A := outs.map (fun q => (outX C st q).2)
def finish (C : Ctx) (pars ress : List Sh) (outs : List (Nat × Option Nat)) (st : St) : Option (List A) :=
  allT ((handArgs st.objs ress (outsOf C outs st)).1 ++ (handArgs st.objs (pars.map maskS) (maskV pars 0)).1 ++
      [nodup ((namesAs st.objs 256000 256 ress (outsOf C outs st) ++ namesAs st.objs 0 256 (pars.map maskS) (maskV pars 0)).map (·.1))] ++ outs.flatMap (fun q => (outX C st q).1))
    (some ((handArgs st.objs ress (outsOf C outs st)).2.1 ++ (boxIx pars 0).map (fun i => unbox ((handArgs st.objs (pars.map maskS) (maskV pars 0)).2.1.getD i .undef))))
/-- a function's run; fin: what is made of the state at its end -/
def runK {ρ : Type} (C : Ctx) (N : Nat) (pars : List Sh) (n : Nat) (code : Code) (fin : St → Option ρ) (xs : List A) : Option ρ :=
  allT ((backs 0 256 pars xs 0).1 ++ [nodup ((backs 0 256 pars xs 0).2.2.map (·.1)), !(has ((backs 0 256 pars xs 0).2.2.map (·.1)) 255)])
    (exec C N fin code (entrySt pars xs n) fun
      | .normal, st => fin st
      | .exit _, _ => none)

section
variable {P : Program} {C : Ctx} {V0 : Nat → Value} {O0 O : Own} {w0 w : World} {m : Nat → Value} {st : St} {a : Act}

theorem backCells_keys {id : Nat} : ∀ (ks : List (Bool × CK)) (cs : List A) (j0 : Nat), ∀ p ∈ (backCells id ks cs j0).2.2, ∃ x, p.1 = id + x ∧ x < j0 + ks.length := by
  intro ks
  induction ks with
  | nil => intro cs j0 p hp; simp [backCells] at hp
  | cons k ks ih =>
    intro cs j0 p hp
    have step : p ∈ (backCells id ks cs (j0 + 1)).2.2 → ∃ x, p.1 = id + x ∧ x < j0 + (k :: ks).length := by
      intro h
      obtain ⟨x, h1, h2⟩ := ih cs (j0 + 1) p h
      exact ⟨x, h1, by simp only [List.length_cons]; omega⟩
    obtain ⟨u, k⟩ := k
    cases u with
    | false => exact step hp
    | true =>
      cases k with
      | sl e sz =>
        simp only [backCells] at hp
        rcases List.mem_cons.1 hp with rfl | hp
        · exact ⟨j0, rfl, by simp⟩
        · exact step hp
      | _ => simp [backCells] at hp
theorem back_keys {id : Nat} {s : Sh} {x : A} (hok : AllT (back id s x).1) : ∀ p ∈ (back id s x).2.2, ∃ i, p.1 = id + i ∧ i < 255 := by
  intro p hp
  cases s with
  | cell u k =>
    obtain ⟨i, h1, h2⟩ := backCells_keys _ _ _ p hp
    exact ⟨i, h1, by simp at h2; omega⟩
  | agg ks =>
    simp only [back] at hok hp
    have := Nat.le_of_ble_eq_true hok.cons.1
    obtain ⟨i, h1, h2⟩ := backCells_keys _ _ _ p hp
    exact ⟨1 + i, by omega, by omega⟩
  | box ks =>
    simp only [back] at hok hp
    have := Nat.le_of_ble_eq_true hok.cons.1
    rcases List.mem_cons.1 hp with rfl | hp
    · exact ⟨0, rfl, by omega⟩
    · obtain ⟨i, h1, h2⟩ := backCells_keys _ _ _ p hp
      exact ⟨1 + i, by omega, by omega⟩
theorem backsH_val {f : Nat → Value} : ∀ (ss : List Sh) (rs : List A) (j0 : Nat), AllT (backs 0 256 ss rs j0).1 → ∀ p ∈ backsH w f 0 256 ss rs j0, p.2 = handleOf w (f (p.1 / 256)) (p.1 % 256) := by
  intro ss
  induction ss with
  | nil => intro rs j0 _ p hp; simp [backsH] at hp
  | cons s ss ih =>
    intro rs j0 hok p hp
    simp only [backs] at hok
    obtain ⟨h1, h2⟩ := hok.append
    simp only [backsH] at hp
    rcases List.mem_append.1 hp with hp | hp
    · obtain ⟨q, hq, rfl⟩ := List.mem_map.1 hp
      obtain ⟨i, h3, h4⟩ := back_keys h1 q hq
      dsimp only
      rw [h3]
      have e1 : (0 + 256 * j0 + i) / 256 = j0 := by omega
      have e2 : (0 + 256 * j0 + i) % 256 = i := by omega
      rw [e1, e2, Nat.add_sub_cancel_left]
    · exact ih rs (j0 + 1) h2 p hp

/-- the start -/
theorem entry_sim {pars : List Sh} {xs : List A} {n : Nat} {vs : Array Value} (hv : vs.size = xs.length) (hl : xs.length = pars.length) (h : ∀ j, j < xs.length → IR O w (256 * j) (vs.getD j undef) (xs.getD j .undef))
    (hok : AllT (backs 0 256 pars xs 0).1) (hnd : nodup ((backs 0 256 pars xs 0).2.2.map (·.1)) = true) (h255 : has ((backs 0 256 pars xs 0).2.2.map (·.1)) 255 = false) :
    Sim (fun o => vs.getD (o / 256) undef) O w O (fun o => handleOf w (vs.getD (o / 256) undef) (o % 256)) (entrySt pars xs n) { tmps := vs ++ Array.replicate (n - vs.size) undef, defers := [] } w := by
  have hmem : ∀ o x, aget (setAll [] (backs 0 256 pars xs 0).2.2) o = some x → (o, x) ∈ (backs 0 256 pars xs 0).2.2 := by
    intro o x hx
    rcases mem_setAll _ (aget_mem hx) with h | h
    · exact h
    · cases h
  have hget : ∀ p ∈ (backs 0 256 pars xs 0).2.2, aget (setAll [] (backs 0 256 pars xs 0).2.2) p.1 = some p.2 := fun p hp => aget_new (objs := []) (upd := []) (del := []) hnd (o := p.1) (x := p.2) hp
  obtain ⟨r1, r2, r3⟩ := backs_spec (Oc := O) (O' := O) (w := w) (objs' := setAll [] (backs 0 256 pars xs 0).2.2) (m' := fun o => handleOf w (vs.getD (o / 256) undef) (o % 256)) (cid := 0) (cst := 256) (id := 0) (stride := 256) (f := fun j => vs.getD j undef) (rs := xs)
    (fun _ _ _ h hc => ⟨h, hc⟩) (fun _ _ h => h) pars 0 (fun j hj => by rw [Nat.zero_add, Nat.zero_add]; exact h j (by rw [hl]; exact hj)) (fun j _ b k i _ hb => hb) hok hget
    (fun p hp => (backsH_val pars xs 0 hok p hp).symm)
  refine ⟨rfl, ?_, fun t ht => ?_, fun o x hx => r3 _ (hmem o x hx), Moves.refl O _ w, fun b k o _ ho hne => ⟨o, ho, hne⟩, fun o x hx e => ?_, fun b k _ h => h, fun o hr _ => ?_, fun b k _ h => h⟩
  · simp [entrySt, r1, hv, hl]
  · show TRel O _ _ w (((vs ++ Array.replicate (n - vs.size) undef).getD t undef)) (((backs 0 256 pars xs 0).2.1 ++ List.replicate (n - pars.length) A.undef).getD t .undef)
    rcases Nat.lt_or_ge t pars.length with htl | htl
    · have e1 : ((backs 0 256 pars xs 0).2.1 ++ List.replicate (n - pars.length) A.undef).getD t .undef = (backs 0 256 pars xs 0).2.1.getD t .undef := by
        simp [List.getD_eq_getElem?_getD, List.getElem?_append_left, r1, htl]
      have e2 : (vs ++ Array.replicate (n - vs.size) undef).getD t undef = vs.getD t undef := by
        have : t < vs.size := by rw [hv, hl]; exact htl
        simp [Array.getD_eq_getD_getElem?, Array.getElem?_append_left, this]
      rw [e1, e2]
      have := (r2 t htl).1
      rw [Nat.zero_add] at this; exact this
    · have e1 : ((backs 0 256 pars xs 0).2.1 ++ List.replicate (n - pars.length) A.undef).getD t .undef = .undef := by
        rw [List.getD_eq_getElem?_getD, List.getElem?_append_right (by rw [r1]; exact htl), List.getElem?_replicate]
        split <;> rfl
      rw [e1]; trivial
  · subst e
    have := hmem _ x hx
    have h' : has ((backs 0 256 pars xs 0).2.2.map (·.1)) 255 = true := has_mem.2 (List.mem_map.2 ⟨_, this, rfl⟩)
    rw [h'] at h255; cases h255
  · unfold rootId at hr
    rw [Bool.and_eq_true] at hr
    have := Nat.eq_of_beq_eq_true hr.2
    rw [this]; rfl

theorem handArgs_box {fet : Fet} : ∀ (ss : List Sh) (xs : List A), AllT (handArgs fet ss xs).1 → ∀ i ks, ss[i]? = some (.box ks) → ∃ cs, (handArgs fet ss xs).2.1.getD i .undef = .box cs := by
  intro ss
  induction ss with
  | nil => intro xs _ i ks h; simp at h
  | cons s ss ih =>
    intro xs hok i ks h
    cases xs with
    | nil => have := hok false (by simp [handArgs]); cases this
    | cons x xs =>
      simp only [handArgs] at hok ⊢
      obtain ⟨h1, h2⟩ := hok.append
      cases i with
      | zero =>
        simp at h; subst h
        cases x with
        | ptr q off =>
          unfold handArg at h1 ⊢
          dsimp only at h1 ⊢
          cases hb : box? fet q with
          | none => rw [hb] at h1; have := h1 false (by simp); cases this
          | some cs => exact ⟨(handCells fet ks cs).2.1, by simp⟩
        | _ => have := h1 false (by simp [handArg]); cases this
      | succ i => simpa using ih xs h2 i ks (by simpa using h)
theorem boxIx_spec : ∀ (ss : List Sh) (i0 j i : Nat), (boxIx ss i0)[j]? = some i → ∃ r ks, i = i0 + r ∧ ss[r]? = some (.box ks) := by
  intro ss
  induction ss with
  | nil => intro i0 j i h; simp [boxIx] at h
  | cons s ss ih =>
    intro i0 j i h
    have step : ∀ j' : Nat, (boxIx ss (i0 + 1))[j']? = some i → ∃ r ks, i = i0 + r ∧ (s :: ss)[r]? = some (.box ks) := by
      intro j' h'
      obtain ⟨r, ks, h1, h2⟩ := ih (i0 + 1) j' i h'
      exact ⟨r + 1, ks, by omega, by simpa using h2⟩
    simp only [boxIx] at h
    cases s with
    | box ks =>
      simp only [isBoxSh, cond_true] at h
      cases j with
      | zero => simp at h; exact ⟨0, ks, by omega, rfl⟩
      | succ j => exact step j (by simpa using h)
    | cell u k => simp only [isBoxSh, cond_false] at h; exact step j h
    | agg ks => simp only [isBoxSh, cond_false] at h; exact step j h
theorem maskV_length : ∀ (ss : List Sh) (i0 : Nat), (maskV ss i0).length = ss.length := by
  intro ss
  induction ss with
  | nil => intro i0; rfl
  | cons s ss ih => intro i0; simp [maskV, ih]
theorem maskV_getD : ∀ (ss : List Sh) (i0 j : Nat), j < ss.length → (maskV ss i0).getD j .undef = if isBoxSh (ss.getD j (.agg [])) then .ptr (256 * (i0 + j)) 0 else .bool true := by
  intro ss
  induction ss with
  | nil => intro i0 j h; simp at h
  | cons s ss ih =>
    intro i0 j h
    cases j with
    | zero =>
      simp only [maskV, List.getD_cons_zero, Nat.add_zero]
      cases isBoxSh s <;> rfl
    | succ j =>
      have := ih (i0 + 1) j (by simpa using h)
      rw [show i0 + 1 + j = i0 + (j + 1) from by omega] at this
      simpa [maskV] using this
end
end Go.Proofs.YtegnjlmdppobmaaGreat.Vm

/-
  A function: the end, and all put together.
-/
namespace Go.Proofs.YtegnjlmdppobmaaGreat.Vm
open Classical

def rv : Nat × Option Nat → ResultVar
  | (t, none) => .tmp t
  | (a, some ty) => .cell a ty
def readR (tmps : Array Value) : ResultVar → Sem Value
  | .tmp t => pure (tmps.getD t undef)
  | .cell a t => do loadVar t (← asAddr (tmps.getD a undef))
theorem mapM_run {P : Program} {w : World} {α : Type} {g : α → Sem Value} : ∀ (l : List α) (f : Nat → Value), (∀ (j : Nat) (x : α), l[j]? = some x → (g x).run P w = .ok (f j) w) → (l.mapM g).run P w = .ok ((List.range l.length).map f) w := by
  intro l
  induction l with
  | nil => intro f _; simp
  | cons x r ih =>
    intro f h
    have h1 := ih (fun j => f (j + 1)) (fun j y hy => h (j + 1) y (by simpa using hy))
    have h2 := h 0 x rfl
    rw [List.mapM_cons]
    simp only [Sem.run_bind, h2, Result.andThen_ok, h1, Sem.run_pure, List.length_cons, List.range_succ_eq_map, List.map_cons, List.map_map]
    rfl
def tupV (us : Array Value) : Value := if h : us.size = 1 then us[0] else .tuple us
theorem results_run {P : Program} {w : World} {fn : Func} {outs : List (Nat × Option Nat)} {tmps : Array Value} (h : fn.results = (outs.map rv).toArray) (f : Nat → Value) (hf : ∀ (j : Nat) (q : Nat × Option Nat), outs[j]? = some q → (readR tmps (rv q)).run P w = .ok (f j) w) :
    (results fn tmps).run P w = .ok (tupV ((List.range outs.length).map f).toArray) w := by
  have e : results fn tmps = (do let vs ← fn.results.mapM (readR tmps); pure (tupV vs)) := by
    have e0 : readR tmps = (fun | .tmp t => pure (tmps.getD t undef) | .cell a t => do loadVar t (← asAddr (tmps.getD a undef))) := by
      funext x; cases x <;> rfl
    unfold results tupV
    rw [e0]
    rfl
  rw [e, h, List.mapM_toArray]
  have := mapM_run (P := P) (w := w) (g := readR tmps) (outs.map rv) f (fun j x hx => by
    rw [List.getElem?_map] at hx
    cases hq : outs[j]? with
    | none => rw [hq] at hx; cases hx
    | some q => rw [hq] at hx; injection hx with hx; rw [← hx]; exact hf j q hq)
  rw [List.length_map] at this
  simp only [map_eq_pure_bind, bind_assoc, pure_bind, Sem.run_bind, Sem.run_pure, this, Result.andThen_ok]

section
variable {P : Program} {C : Ctx} {V0 : Nat → Value} {O0 O : Own} {w0 w : World} {m : Nat → Value} {st : St} {a : Act}

theorem shapes_box {pars : List Sh} {i : Nat} {ks : List (Bool × CK)} (h : pars[i]? = some (.box ks)) : (pars.map maskS)[i]? = some (.box ks) ∧ isBoxSh (pars.getD i (.agg [])) = true ∧ i < pars.length := by
  have hi : i < pars.length := by
    rcases Nat.lt_or_ge i pars.length with h' | h'
    · exact h'
    · rw [List.getElem?_eq_none h'] at h; cases h
  refine ⟨by rw [List.getElem?_map, h]; rfl, ?_, hi⟩
  rw [List.getD_eq_getElem?_getD, h]; rfl

theorem end_sound {pars ress : List Sh} {outs : List (Nat × Option Nat)} {rs : List A} {vs : Array Value} {sg : Sig} {fn : Func} (hC : TOk P C) (hfn : fn.results = (outs.map rv).toArray) (hp : sg.pars = pars) (hr : sg.ress = ress) (h100 : pars.length ≤ 100)
    (hptr : ∀ i, i < pars.length → isBoxSh (pars.getD i (.agg [])) = true → (vs.getD i undef).oneCell' = true)
    (hS : Sim (fun o => vs.getD (o / 256) undef) O0 w0 O m st a w) (h : finish C pars ress outs st = some rs) :
    ∃ v O', (results fn a.tmps).run P w = .ok v w ∧ Came O0 w0 vs sg rs v O' w := by
  obtain ⟨hok, hrs⟩ := allT_some h
  injection hrs with hrs
  obtain ⟨hokA, hokO⟩ := hok.append
  obtain ⟨hokA, hokB⟩ := hokA.append
  obtain ⟨hok1, hok2⟩ := hokA.append
  have hnd := hokB.cons.1
  have hf : Fet' st.objs st.objs := fun _ _ h => h
  generalize hN : namesAs st.objs 256000 256 ress (outsOf C outs st) ++ namesAs st.objs 0 256 (pars.map maskS) (maskV pars 0) = N at *
  have hout : ∀ j : Nat, ∃ u : Value, ∀ q, outs[j]? = some q → (readR a.tmps (rv q)).run P w = .ok u w ∧ TRel O st.objs m w u (outX C st q).2 := by
    intro j
    cases hj : outs[j]? with
    | none => exact ⟨undef, fun q hq => by cases hq⟩
    | some q =>
      have hqok : AllT (outX C st q).1 := fun b hb => hokO b (List.mem_flatMap.2 ⟨q, List.mem_of_getElem? hj, hb⟩)
      obtain ⟨t, ty⟩ := q
      cases ty with
      | none =>
        have hlt := hqok.cons.1
        rw [Nat.blt_eq] at hlt
        exact ⟨a.tmps.getD t undef, fun q hq => by injection hq with hq; subst hq; exact ⟨rfl, hS.tmps t hlt⟩⟩
      | some ty =>
        have hq2 : AllT (Nat.blt t st.tmps.length :: (loadX C st.objs ty (st.tmps.getD t .undef)).ok) := hqok
        obtain ⟨hlt, hld⟩ := hq2.cons
        rw [Nat.blt_eq] at hlt
        obtain ⟨u, hu1, hu2⟩ := (load_pure (o := { (default : Oper) with op := .load ty (.tmp t) }) hC (fun q x hq => ⟨hq, hS.objs q x hq⟩) rfl (eval_rel hS (.tmp t)) hld).run
        refine ⟨u, fun q hq => ?_⟩
        injection hq with hq; subst hq
        refine ⟨?_, hu2⟩
        have hev : a.eval (.tmp t) = a.tmps.getD t undef := by simp [Act.eval]
        simp only [execOp, Instr.loadAt, hev] at hu1
        show (do loadVar ty (← asAddr (a.tmps.getD t undef)) : Sem Value).run P w = _
        generalize a.tmps.getD t undef = z at hu1 ⊢
        cases z with
        | pointer p =>
          cases p with
          | none => simp [Instr.sureAddr] at hu1
          | some ad =>
            simp only [asAddr, Sem.run_bind, Sem.run_pure, Result.andThen_ok]
            simp only [Instr.sureAddr, pure_bind, Sem.run_bind, Sem.run_pure] at hu1
            cases hl : (loadVar ty ad).run P w with
            | ok x w2 =>
              rw [hl] at hu1
              simp only [Result.andThen_ok, Sem.run_pure, Result.ok.injEq, Next.value.injEq] at hu1
              rw [hu1.1, hu1.2]
            | halt x w2 => rw [hl] at hu1; simp [Result.andThen] at hu1
        | _ => simp [Instr.sureAddr] at hu1
  obtain ⟨fv, hfv⟩ := Classical.axiomOfChoice hout
  obtain ⟨g1, g2, g3, _, g5⟩ := handArgs_spec hf hS.objs 256 ress (outsOf C outs st) 256000 fv (fun j hj => by
    have hj' : j < outs.length := by simpa [outsOf] using hj
    have e : (outsOf C outs st).getD j .undef = (outX C st outs[j]).2 := by
      simp [outsOf, List.getD_eq_getElem?_getD, hj']
    rw [e]; exact (hfv j _ (List.getElem?_eq_getElem hj')).2) hok1
  have hmaskl : (pars.map maskS).length = pars.length := by simp
  obtain ⟨k1, k2, k3, _, k5⟩ := handArgs_spec hf hS.objs 256 (pars.map maskS) (maskV pars 0) 0 (fun j => if isBoxSh (pars.getD j (.agg [])) then vs.getD j undef else .bool true) (fun j hj => by
    have hj' : j < pars.length := by rw [maskV_length] at hj; exact hj
    rw [maskV_getD pars 0 j hj', Nat.zero_add]
    by_cases hb : isBoxSh (pars.getD j (.agg [])) = true
    · rw [if_pos hb, if_pos hb]
      refine ⟨hptr j hj' hb, ?_⟩
      cases hx : aget st.objs (256 * j) with
      | none => trivial
      | some x =>
        cases x with
        | arr _ _ _ => trivial
        | box cs =>
          obtain ⟨b, base, h1, _⟩ := hS.objs _ _ hx
          have hroot : rootId (256 * j) = true := by
            unfold rootId
            rw [Bool.and_eq_true, Nat.blt_eq]
            refine ⟨by omega, ?_⟩
            rw [Nat.mul_mod_right]; rfl
          have := hS.root (256 * j) hroot (by rw [hx]; rfl)
          rw [Nat.mul_div_cancel_left j (by decide)] at this
          exact ⟨b, base, h1, by rw [← this, h1]; rfl⟩
    · rw [if_neg hb, if_neg hb]
      exact VRel.bool true) hok2
  obtain ⟨O1, hS1, hp1, _, hv1, _, hk1⟩ := hS.freezes _ (g3.append k3)
  have hρ : ∀ p ∈ N, look N p.1 = some p.2 := look_mem hnd
  have halive : ∀ p ∈ N, (aget st.objs p.1).isSome := by
    intro p hp'
    rw [← hN] at hp'
    rcases List.mem_append.1 hp' with hp' | hp'
    · exact namesAs_alive _ _ _ hok1 p hp'
    · exact namesAs_alive _ _ _ hok2 p hp'
  generalize hU : (handArgs st.objs ress (outsOf C outs st)).2.2.1 ++ (handArgs st.objs (pars.map maskS) (maskV pars 0)).2.2.1 = U at *
  have hFU : Frz st.objs U := by rw [← hU]; exact g3.append k3
  have hupdO : ∀ p ∈ U, ORel O1 (setAll st.objs U) m w p.1 p.2 := by
    intro p hp
    obtain ⟨x, hx1, hx2⟩ := aget_setAll_mem U st.objs p.1 ⟨p, hp, rfl⟩
    obtain ⟨e, fz, l, k1, k2⟩ := hFU p hp
    obtain ⟨e', fz', l', k3, k4⟩ := hFU _ hx1
    dsimp only at k3 k4
    rw [k1] at k3
    injection k3 with k3; injection k3 with q1 q2 q3
    subst q1; subst q3
    rw [k2, ← k4]
    exact hS1.objs p.1 x hx2
  have hR := g5 (ρ := look N) hp1 (fun p hp => hv1 p (by rw [← hU]; exact List.mem_append_left _ hp)) (fun p hp => hupdO p (by rw [← hU]; exact List.mem_append_left _ hp)) hk1 (fun p hp => hρ p (by rw [← hN]; exact List.mem_append_left _ hp))
  have hB := k5 (ρ := look N) hp1 (fun p hp => hv1 p (by rw [← hU]; exact List.mem_append_right _ hp)) (fun p hp => hupdO p (by rw [← hU]; exact List.mem_append_right _ hp)) hk1 (fun p hp => hρ p (by rw [← hN]; exact List.mem_append_right _ hp))
  have hol : outs.length = ress.length := by rw [← g2]; simp [outsOf]
  refine ⟨_, relab O1 (look N), results_run hfn fv (fun j q hq => (hfv j q hq).1), hS1.frame, fun b k hb hne => hS1.less b k hb (fun e => hne (relab_none.2 e)), fun b k hb hj => ?_, ?_, ?_, ?_⟩
  · have := hS1.junk b k hb hj
    unfold relab
    rw [this]
    dsimp only
    cases hl : look N 255 with
    | none => rfl
    | some i =>
      have h1 := halive _ (look_some hl)
      obtain ⟨x, hx⟩ := Option.isSome_iff_exists.1 h1
      exact absurd rfl (hS.ids 255 x hx)
  · rw [← hrs, hp, hr]; simp [g1]
  · refine ⟨((List.range outs.length).map fv).toArray, by rw [hr]; simp [hol], rfl, fun k hk => ?_⟩
    have hk' : k < outs.length := by simpa using hk
    have hus : (((List.range outs.length).map fv).toArray).getD k undef = fv k := by
      simp [Array.getD_eq_getD_getElem?, hk']
    rw [hus]
    have := hR k (by rw [← hol]; exact hk')
    have e : rs.getD k .undef = (handArgs st.objs ress (outsOf C outs st)).2.1.getD k .undef := by
      rw [← hrs, List.getD_eq_getElem?_getD, List.getElem?_append_left (by rw [g1, ← hol]; exact hk'), ← List.getD_eq_getElem?_getD]
    rw [e]; exact this
  · intro j i hji
    rw [hp] at hji
    obtain ⟨r, ks, h1, h2⟩ := boxIx_spec pars 0 j i hji
    rw [Nat.zero_add] at h1; subst h1
    obtain ⟨h3, h4, h5⟩ := shapes_box h2
    obtain ⟨cs, h6⟩ := handArgs_box _ _ hok2 i ks h3
    refine ⟨cs, ?_, ?_⟩
    · rw [← hrs, hr, List.getD_eq_getElem?_getD, List.getElem?_append_right (by rw [g1]; omega), g1, Nat.add_sub_cancel_left, List.getElem?_map, hji]
      show unbox _ = _
      rw [h6]; rfl
    · have := hB i (by rw [hmaskl]; exact h5)
      rw [h6, Nat.zero_add, if_pos h4] at this
      exact this

theorem run_calls {ρ : Type} {o : ρ} {fin : St → Option ρ} (hC : CtxOk P C) (N : Nat)
    (hdraw : ∀ {ρ : Type} {V0 : Nat → Value} {O0 : Own} {w0 : World} {fin : St → Option ρ} {v : ρ} (id : Nat) (ops : Array Oper) {O : Own} {m : Nat → Value} {st : St} {a : Act} {w : World} (K : Ex → St → Option ρ), Sim V0 O0 w0 O m st a w → drawOk C ops.toList st = true → opsX C ops.toList ops.toList st (fun st' => K .normal st') = some v →
      (Code.region id ops true).wp P (Post V0 O0 w0 fin K v) a w)
    {f : FuncId} {fn : Func} {code : Code} {outs : List (Nat × Option Nat)} {sg : Sig} (hf : P.funcs[f]? = some fn) (hb : fn.body = some code) (hout : fn.results = (outs.map rv).toArray)
    {vs : Array Value} {xs rs : List A} (hv : vs.size = xs.length) (hl : xs.length = sg.pars.length) (h100 : xs.length ≤ 100) (hx : ∀ j, j < xs.length → IR O w (256 * j) (vs.getD j undef) (xs.getD j .undef))
    (h : runK C N sg.pars fn.ntmps code fin xs = some o) (hrs : ∀ st, fin st = some o → finish C sg.pars sg.ress outs st = some rs) :
    Calls P f vs w fun e w' => ∃ v O', e = .returned v ∧ Came O w vs sg rs v O' w' := by
  obtain ⟨hok, h⟩ := allT_some h
  obtain ⟨hok1, hok2⟩ := hok.append
  obtain ⟨hnd, hok2⟩ := hok2.cons
  have h255 := hok2.cons.1
  rw [Bool.not_eq_true'] at h255
  have hS := entry_sim (n := fn.ntmps) hv hl hx hok1 hnd h255
  have hptr : ∀ i, i < sg.pars.length → isBoxSh (sg.pars.getD i (.agg [])) = true → (vs.getD i undef).oneCell' = true := by
    intro i hi hb
    have hi' : i < xs.length := by rw [hl]; exact hi
    have hbk : AllT (back (256 * i) (sg.pars.getD i (.agg [])) (xs.getD i .undef)).1 := by
      have key : ∀ (ss : List Sh) (j0 i : Nat), i < ss.length → AllT (backs 0 256 ss xs j0).1 → AllT (back (0 + 256 * (j0 + i)) (ss.getD i (.agg [])) (xs.getD (j0 + i) .undef)).1 := by
        intro ss
        induction ss with
        | nil => intro j0 i h; simp at h
        | cons s ss ih =>
          intro j0 i h hok
          simp only [backs] at hok
          obtain ⟨h1, h2⟩ := hok.append
          cases i with
          | zero => simpa using h1
          | succ i =>
            have := ih (j0 + 1) i (by simpa using h) h2
            rw [show j0 + 1 + i = j0 + (i + 1) from by omega] at this
            simpa using this
      have := key sg.pars 0 i hi hok1
      rw [Nat.zero_add, Nat.zero_add] at this; exact this
    have hir := hx i hi'
    generalize sg.pars.getD i (.agg []) = s at hb hbk
    cases s with
    | box ks =>
      simp only [back] at hbk
      have h2 := hbk.cons.2.cons.1
      generalize xs.getD i .undef = x at h2 hir
      cases x with
      | box cs =>
        obtain ⟨b, base, h3, _⟩ := hir
        rw [h3]; rfl
      | _ => cases h2
    | _ => cases hb
  refine calls_of_wp hf hb (wp_mono (code_sound hC N hdraw code hS h) fun e a' w' hq => ?_)
  have fin' : (∃ O' m' st', Sim (fun o => vs.getD (o / 256) undef) O w O' m' st' a' w' ∧ fin st' = some o) → a'.defers = [] ∧ ∃ v, (results fn a'.tmps).run P w' = .ok v w' ∧ ∃ v' O', Ending.returned v = .returned v' ∧ Came O w vs sg rs v' O' w' := by
    rintro ⟨O', m', st', hS', hfin⟩
    obtain ⟨v, O2, hres, hcame⟩ := end_sound (sg := sg) hC.T hout rfl rfl (by rw [← hl]; exact h100) hptr hS' (hrs st' hfin)
    exact ⟨hS'.defers, v, hres, v, O2, rfl, hcame⟩
  cases e with
  | normal => exact fin' hq
  | ret => exact fin' hq
  | exit id =>
    obtain ⟨O', m', st', _, h'⟩ := hq
    cases h'
  | goto l => exact hq.elim
  | panic ch => exact hq.elim
  | outgrown => exact hq.elim
end
end Go.Proofs.YtegnjlmdppobmaaGreat.Vm

/-
  Regions whose order is drawn: operations that do not touch each other may change places.
-/
namespace Go.Proofs.YtegnjlmdppobmaaGreat.Vm
open Classical

section
variable {P : Program} {C : Ctx} {V0 : Nat → Value} {O0 O : Own} {w0 w : World} {m : Nat → Value} {st : St} {a : Act}

theorem disj_spec {a b : List Nat} (h : disj a b = true) : ∀ n ∈ a, n ∉ b := by
  intro n hn hb
  have := List.all_eq_true.1 h n hn
  rw [has_mem.2 hb] at this; cases this

/-! ### look-ups behind an operation -/
def lastOf : List (Nat × Obj) → Nat → Option Obj
  | [], _ => none
  | (n, x) :: r, k => match lastOf r k with
    | some y => some y
    | none => if n = k then some x else none
theorem lastOf_none {u : List (Nat × Obj)} {k : Nat} (h : k ∉ u.map (·.1)) : lastOf u k = none := by
  induction u with
  | nil => rfl
  | cons p r ih =>
    obtain ⟨n, x⟩ := p
    simp only [List.map_cons, List.mem_cons, not_or] at h
    simp only [lastOf, ih h.2]
    exact if_neg (fun e => h.1 e.symm)
theorem aget_setAll (u : List (Nat × Obj)) : ∀ (l : List (Nat × Obj)) (k : Nat), aget (setAll l u) k = match lastOf u k with | some x => some x | none => aget l k := by
  induction u with
  | nil => intro l k; rfl
  | cons p r ih =>
    obtain ⟨n, x⟩ := p
    intro l k
    rw [setAll, ih, aget_aset]
    simp only [lastOf]
    cases lastOf r k with
    | some y => rfl
    | none =>
      by_cases h : n = k
      · simp [h]
      · have : k ≠ n := fun e => h e.symm
        simp [h, this]
theorem aget_applied (st : St) (o : Oper) (δ : Dl) (k : Nat) : aget (apply st o δ).objs k = match lastOf δ.new k with
    | some x => some x
    | none => if k ∈ δ.del then none else match lastOf δ.upd k with
      | some x => some x
      | none => aget st.objs k := by
  unfold apply
  dsimp only
  rw [aget_setAll, aget_delAll, aget_setAll]
theorem aget_off {st : St} {o : Oper} {δ : Dl} {k : Nat} (h : k ∉ δ.upd.map (·.1) ++ δ.del ++ δ.new.map (·.1)) : aget (apply st o δ).objs k = aget st.objs k := by
  simp only [List.mem_append, not_or] at h
  rw [aget_applied, lastOf_none h.2, lastOf_none h.1.1]
  exact if_neg h.1.2

/-! ### sorted lists -/
def Srt : List (Nat × Obj) → Prop := List.Pairwise (fun p q => p.1 < q.1)
theorem sorted_srt : ∀ {l : List (Nat × Obj)}, sorted l = true → Srt l := by
  intro l
  induction l with
  | nil => intro _; exact List.Pairwise.nil
  | cons p r ih =>
    intro h
    cases r with
    | nil => exact List.pairwise_singleton _ _
    | cons q r =>
      obtain ⟨n, x⟩ := p
      obtain ⟨k, y⟩ := q
      simp only [sorted, Bool.and_eq_true, Nat.blt_eq] at h
      have hr := ih h.2
      refine List.Pairwise.cons (fun q hq => ?_) hr
      rcases List.mem_cons.1 hq with rfl | hq
      · exact h.1
      · exact Nat.lt_trans h.1 ((List.pairwise_cons.1 hr).1 q hq)
theorem Srt.adel {l : List (Nat × Obj)} (h : Srt l) (n : Nat) : Srt (Vm.adel l n) := by
  induction l with
  | nil => exact h
  | cons p r ih =>
    obtain ⟨k, x⟩ := p
    obtain ⟨h1, h2⟩ := List.pairwise_cons.1 h
    rw [adel_cons]
    split
    · exact ih h2
    · exact List.Pairwise.cons (fun q hq => h1 q (mem_adel hq)) (ih h2)
theorem Srt.ains {l : List (Nat × Obj)} (h : Srt l) {n : Nat} (y : Obj) (hn : aget l n = none) : Srt (Vm.ains l n y) := by
  induction l with
  | nil => exact List.pairwise_singleton _ _
  | cons p r ih =>
    obtain ⟨k, x⟩ := p
    obtain ⟨h1, h2⟩ := List.pairwise_cons.1 h
    rw [aget_cons] at hn
    have hkn : k ≠ n := fun e => by rw [if_pos e] at hn; cases hn
    rw [if_neg hkn] at hn
    simp only [Vm.ains]
    cases hle : Nat.ble n k with
    | true =>
      have := Nat.le_of_ble_eq_true hle
      refine List.Pairwise.cons (fun q hq => ?_) h
      rcases List.mem_cons.1 hq with rfl | hq
      · show n < k; omega
      · have := h1 q hq
        show n < q.1
        dsimp only at this; omega
    | false =>
      have hlt : k < n := by
        rcases Nat.lt_or_ge k n with h | h
        · exact h
        · rw [Nat.ble_eq_true_of_le h] at hle; cases hle
      refine List.Pairwise.cons (fun q hq => ?_) (ih h2 hn)
      rcases mem_ains hq with rfl | hq
      · exact hlt
      · exact h1 q hq
theorem Srt.aset {l : List (Nat × Obj)} (h : Srt l) (n : Nat) (y : Obj) : Srt (Vm.aset l n y) := (h.adel n).ains y (by rw [aget_adel, if_pos rfl])
theorem Srt.setAll : ∀ (u : List (Nat × Obj)) {l : List (Nat × Obj)}, Srt l → Srt (Vm.setAll l u) := by
  intro u
  induction u with
  | nil => intro l h; exact h
  | cons p r ih => intro l h; obtain ⟨n, x⟩ := p; exact ih (h.aset n x)
theorem Srt.delAll : ∀ (u : List Nat) {l : List (Nat × Obj)}, Srt l → Srt (Vm.delAll l u) := by
  intro u
  induction u with
  | nil => intro l h; exact h
  | cons n r ih => intro l h; exact ih (h.adel n)
theorem Srt.apply {st : St} (h : Srt st.objs) (o : Oper) (δ : Dl) : Srt (Vm.apply st o δ).objs := ((h.setAll δ.upd).delAll δ.del).setAll δ.new
theorem aget_head {n : Nat} {x : Obj} {r : List (Nat × Obj)} : aget ((n, x) :: r) n = some x := by rw [aget_cons, if_pos rfl]
theorem aget_lt {l : List (Nat × Obj)} {k : Nat} (h : ∀ p ∈ l, k < p.1) : aget l k = none := by
  cases hx : aget l k with
  | none => rfl
  | some x => exact absurd (h _ (aget_mem hx)) (Nat.lt_irrefl _)
theorem Srt.ext : ∀ {l l' : List (Nat × Obj)}, Srt l → Srt l' → (∀ k, aget l k = aget l' k) → l = l' := by
  intro l
  induction l with
  | nil =>
    intro l' _ _ h
    cases l' with
    | nil => rfl
    | cons p r => obtain ⟨n, x⟩ := p; have := h n; rw [aget_head] at this; cases this
  | cons p r ih =>
    intro l' h1 h2 h
    obtain ⟨n, x⟩ := p
    cases l' with
    | nil => have := h n; rw [aget_head] at this; cases this
    | cons q r' =>
      obtain ⟨k, y⟩ := q
      obtain ⟨a1, a2⟩ := List.pairwise_cons.1 h1
      obtain ⟨b1, b2'⟩ := List.pairwise_cons.1 h2
      have hnk : n = k := by
        rcases Nat.lt_trichotomy n k with hlt | he | hgt
        · have := h n
          rw [aget_head, aget_lt] at this
          · cases this
          · intro p hp
            rcases List.mem_cons.1 hp with rfl | hp
            · exact hlt
            · exact Nat.lt_trans hlt (b1 p hp)
        · exact he
        · have := h k
          rw [aget_head, aget_lt] at this
          · cases this
          · intro p hp
            rcases List.mem_cons.1 hp with rfl | hp
            · exact hgt
            · exact Nat.lt_trans hgt (a1 p hp)
      subst hnk
      have hx := h n
      rw [aget_head, aget_head] at hx
      injection hx with hx; subst hx
      rw [ih a2 b2' (fun j => ?_)]
      by_cases hj : n = j
      · subst hj; rw [aget_lt a1, aget_lt b1]
      · have := h j
        rw [aget_cons, aget_cons, if_neg hj, if_neg hj] at this; exact this

/-! ### two operations change places -/
theorem put_comm (tmps : List A) {d e : Option Tmp} (x y : A) (h : ∀ t, d = some t → e ≠ some t) : put (put tmps d x) e y = put (put tmps e y) d x := by
  cases d with
  | none => rfl
  | some d =>
    cases e with
    | none => rfl
    | some e =>
      have : d ≠ e := fun he => h d rfl (by rw [he])
      exact List.set_comm _ _ this
theorem put_off (tmps : List A) {d : Option Tmp} (x : A) {t : Nat} (h : d ≠ some t) : (put tmps d x).getD t .undef = tmps.getD t .undef := by
  cases d with
  | none => rfl
  | some d =>
    have : d ≠ t := fun e => h (by rw [e])
    simp [put, List.getD_eq_getElem?_getD, List.getElem?_set, this]
theorem mem_dst {o : Oper} {t : Nat} : t ∈ dstOf o ↔ o.dst = some t := by
  unfold dstOf
  cases o.dst with
  | none => simp
  | some d => simp [eq_comm]
theorem eval_off {ops : List Oper} {o : Oper} {tmps : List A} {d : Option Tmp} {v : A} (h : ∀ t, d = some t → t ∉ slotsOf ops o) {x : Operand} (hx : x ∈ o.op.operands) : evalA (put tmps d v) x = evalA tmps x := by
  cases x with
  | tmp t =>
    refine put_off tmps v fun hd => h t hd ?_
    exact List.mem_append_left _ (List.mem_filterMap.2 ⟨.tmp t, by simpa using hx, rfl⟩)
  | _ => rfl
theorem guard_off {ops : List Oper} {o : Oper} {tmps : List A} {d : Option Tmp} {v : A} (h : ∀ t, d = some t → t ∉ slotsOf ops o) : guardOf ops (put tmps d v) o.guard = guardOf ops tmps o.guard := by
  cases hg : o.guard with
  | none => rfl
  | some p =>
    obtain ⟨j, want⟩ := p
    unfold guardOf
    dsimp only
    cases hj : ops[j]? with
    | none => rfl
    | some oj =>
      dsimp only
      cases hd : oj.dst with
      | none => rfl
      | some t =>
        dsimp only
        rw [put_off tmps v (t := t) (fun hd' => h t hd' (by
          unfold slotsOf
          refine List.mem_append_right _ ?_
          rw [hg]; dsimp only; rw [hj]; dsimp only; rw [hd]; simp))]
theorem fetch_congr {objs objs' : List (Nat × Obj)} : ∀ (l : List Nat), (∀ n ∈ l, aget objs n = aget objs' n) → fetch objs l = fetch objs' l := by
  intro l
  induction l with
  | nil => intro _; rfl
  | cons n r ih =>
    intro h
    simp only [fetch]
    rw [h n List.mem_cons_self, ih (fun k hk => h k (List.mem_cons_of_mem _ hk))]

theorem asksNot_spec {op : Op} (h : asksNot op = true) : (∃ x, op = .move x) ∨ ∃ x, op = .assign x := by
  cases op <;> first | exact .inl ⟨_, rfl⟩ | exact .inr ⟨_, rfl⟩ | exact absurd h (by decide) | (unfold asksNot at h; cases h)
theorem step_congr {ops : List Oper} {o : Oper} {s1 s2 : St} (hE : ∀ x ∈ o.op.operands, evalA s2.tmps x = evalA s1.tmps x) (hG : guardOf ops s2.tmps o.guard = guardOf ops s1.tmps o.guard)
    (hF : ∀ n ∈ askedOf o s1 (vsOf o s1), aget s2.objs n = aget s1.objs n) (h1 : ∀ n ∈ (stepX C ops o s1).new.map (·.1), s1.fresh n = true) (h2 : ∀ n ∈ (stepX C ops o s1).new.map (·.1), s2.fresh n = true) :
    stepX C ops o s2 = stepX C ops o s1 ∧ askedOf o s2 (vsOf o s2) = askedOf o s1 (vsOf o s1) := by
  have hmap : o.op.operands.toList.map (evalA s2.tmps) = o.op.operands.toList.map (evalA s1.tmps) := List.map_congr_left fun x hx => hE x (by simpa using hx)
  have hvs : vsOf o s2 = vsOf o s1 := by unfold vsOf; rw [hmap]
  have key : ((∀ w, opX C o (vsOf o s1) (fetchAll s2 w) = opX C o (vsOf o s1) (fetchAll s1 w)) ∧ (∀ f, (opX C o (vsOf o s1) f).upd = []) ∧ askedOf o s2 (vsOf o s1) = askedOf o s1 (vsOf o s1)) ∨ (fetchAll s2 (vsOf o s1) = fetchAll s1 (vsOf o s1) ∧ askedOf o s2 (vsOf o s1) = askedOf o s1 (vsOf o s1)) := by
    unfold askedOf at hF ⊢
    cases hm : asksNot o.op with
    | true =>
      have hu : ∀ (v : List A), (a1 (fun a => .v a) v).upd = [] := fun v => by
        cases v with
        | nil => rfl
        | cons x r => cases r <;> rfl
      rcases asksNot_spec hm with ⟨x, e⟩ | ⟨x, e⟩
      · exact .inl ⟨fun w => by unfold opX; rw [e], fun f => by unfold opX; rw [e]; exact hu _, rfl⟩
      · exact .inl ⟨fun w => by unfold opX; rw [e], fun f => by unfold opX; rw [e]; exact hu _, rfl⟩
    | false =>
      rw [hm] at hF
      have e1 : fetch s2.objs ((vsOf o s1).flatMap A.ids) = fetch s1.objs ((vsOf o s1).flatMap A.ids) := fetch_congr _ (fun n hn => hF n (List.mem_append_left _ hn))
      refine .inr ⟨?_, by show (_ ++ _ : List Nat) = _; rw [e1]; rfl⟩
      unfold fetchAll
      dsimp only
      rw [e1, fetch_congr _ (fun n hn => hF n (List.mem_append_right _ hn))]
  have hop : opX C o (vsOf o s1) (fetchAll s2 (vsOf o s1)) = opX C o (vsOf o s1) (fetchAll s1 (vsOf o s1)) := by
    rcases key with h | h
    · exact h.1 _
    · rw [h.1]
  refine ⟨?_, by rw [hvs]; rcases key with h | h; exact h.2.2; exact h.2⟩
  unfold stepX at h1 h2 ⊢
  rw [hG, hmap]
  have hfa' : opX C o (stripsFor o.op (o.op.operands.toList.map (evalA s1.tmps))).2 (fetchAll s2 (stripsFor o.op (o.op.operands.toList.map (evalA s1.tmps))).2) = opX C o (stripsFor o.op (o.op.operands.toList.map (evalA s1.tmps))).2 (fetchAll s1 (stripsFor o.op (o.op.operands.toList.map (evalA s1.tmps))).2) := hop
  cases hg : guardOf ops s1.tmps o.guard with
  | none => rfl
  | some r =>
    cases r with
    | some g =>
      dsimp only
      rcases key with h | h
      · have hu := h.2.1 (fetchAll s1 (vsOf o s1))
        rw [hfa']
        have hu' : (opX C o (stripsFor o.op (o.op.operands.toList.map (evalA s1.tmps))).2 (fetchAll s1 (stripsFor o.op (o.op.operands.toList.map (evalA s1.tmps))).2)).upd = [] := hu
        simp only [hu', List.map_nil]
      · have h1' : fetchAll s2 (stripsFor o.op (o.op.operands.toList.map (evalA s1.tmps))).2 = fetchAll s1 (stripsFor o.op (o.op.operands.toList.map (evalA s1.tmps))).2 := h.1
        rw [h1']
    | none =>
      rw [hg] at h1 h2
      dsimp only at h1 h2 ⊢
      rw [hfa']
      generalize opX C o (stripsFor o.op (o.op.operands.toList.map (evalA s1.tmps))).2 (fetchAll s1 (stripsFor o.op (o.op.operands.toList.map (evalA s1.tmps))).2) = δ at *
      have a1 : δ.new.all (fun p => s1.fresh p.1) = true := List.all_eq_true.2 fun p hp => h1 p.1 (List.mem_map.2 ⟨p, hp, rfl⟩)
      have a2 : δ.new.all (fun p => s2.fresh p.1) = true := List.all_eq_true.2 fun p hp => h2 p.1 (List.mem_map.2 ⟨p, hp, rfl⟩)
      rw [a1, a2]
end
end Go.Proofs.YtegnjlmdppobmaaGreat.Vm

/-
  Regions whose order is drawn: all orders do the same.
-/
namespace Go.Proofs.YtegnjlmdppobmaaGreat.Vm
open Classical

section
variable {P : Program} {C : Ctx} {V0 : Nat → Value} {O0 O : Own} {w0 w : World} {m : Nat → Value} {st st' : St} {a : Act}

structure Stands (C : Ctx) (ops : List Oper) (x : Foot) (st : St) : Prop where
  step : stepX C ops x.o st = x.δ
  rd : askedOf x.o st (vsOf x.o st) = x.rd
def Runs (C : Ctx) (ops : List Oper) : List Foot → St → St → Prop
  | [], s, s' => s = s'
  | x :: r, s, s' => Stands C ops x s ∧ Runs C ops r (apply s x.o x.δ) s'

theorem mem_delAll : ∀ (u : List Nat) {l : List (Nat × Obj)} {p : Nat × Obj}, p ∈ delAll l u → p ∈ l := by
  intro u
  induction u with
  | nil => intro l p h; exact h
  | cons n r ih => intro l p h; exact mem_adel (ih h)
theorem fresh_off {x : Foot} {n : Nat} (h : st.fresh n = true) (h1 : n ∉ x.says) (h2 : n ∉ x.keys) : (apply st x.o x.δ).fresh n = true := by
  obtain ⟨f1, f2, f3, f4⟩ := fresh_not h
  unfold Foot.says at h1
  simp only [List.mem_append, not_or] at h1
  have g1 : has (apply st x.o x.δ).ids n = false := by
    rw [← Bool.not_eq_true]
    intro hh
    rcases List.mem_append.1 (has_mem.1 hh) with hm | hm
    · obtain ⟨c, hc, hi⟩ := List.mem_flatMap.1 hm
      have hc : c ∈ put st.tmps x.o.dst x.δ.val := hc
      have : c ∈ st.tmps ∨ c = x.δ.val := by
        cases hd : x.o.dst with
        | none => rw [hd] at hc; exact .inl hc
        | some d => rw [hd] at hc; exact List.mem_or_eq_of_mem_set hc
      rcases this with hc | hc
      · exact f1 (List.mem_append_left _ (List.mem_flatMap.2 ⟨c, hc, hi⟩))
      · rw [hc] at hi; exact h1.1.1 hi
    · obtain ⟨p, hp, hi⟩ := List.mem_flatMap.1 hm
      rcases mem_setAll x.δ.new (show p ∈ setAll (delAll (setAll st.objs x.δ.upd) x.δ.del) x.δ.new from hp) with hp | hp
      · exact h1.2 (List.mem_flatMap.2 ⟨p, hp, hi⟩)
      · rcases mem_setAll x.δ.upd (mem_delAll _ hp) with hp | hp
        · exact h1.1.2 (List.mem_flatMap.2 ⟨p, hp, hi⟩)
        · exact f1 (List.mem_append_right _ (List.mem_flatMap.2 ⟨p, hp, hi⟩))
  have g2 : aget (apply st x.o x.δ).objs n = none := by rw [aget_off h2]; exact f2
  unfold St.fresh
  rw [g1, g2, f4, nbeq]
  simp [f3]

theorem swap {ops : List Oper} {x y : Foot} {r : List Foot} (hi : indep ops x y = true) (hxF : ∀ n ∈ x.news, st.fresh n = true) (hyF : ∀ n ∈ y.news, st.fresh n = true) (h1 : disj y.news x.says = true) (h2 : disj y.news x.keys = true)
    (hs : Srt st.objs) (h : Runs C ops (x :: y :: r) st st') : Runs C ops (y :: x :: r) st st' := by
  unfold indep at hi
  simp only [Bool.and_eq_true] at hi
  obtain ⟨⟨⟨⟨⟨⟨i1, i2⟩, i3⟩, i4⟩, i5⟩, i6⟩, i7⟩ := hi
  obtain ⟨hx, hy, hr⟩ := h
  have hkx : ∀ n, n ∈ x.keys → n ∉ y.keys := disj_spec i6
  have hnx : ∀ n ∈ x.news, n ∈ x.keys := fun n hn => List.mem_append_right _ hn
  have cy := step_congr (C := C) (ops := ops) (o := y.o) (s1 := apply st x.o x.δ) (s2 := st)
    (fun z hz => (eval_off (fun t ht => disj_spec i2 t (mem_dst.2 ht)) hz).symm) (guard_off (fun t ht => disj_spec i2 t (mem_dst.2 ht))).symm
    (fun n hn => (aget_off (fun hk => disj_spec i4 n hk (by rw [← hy.rd]; exact hn))).symm)
    (fun n hn => by rw [hy.step] at hn; exact fresh_off (hyF n hn) (disj_spec h1 n hn) (disj_spec h2 n hn))
    (fun n hn => by rw [hy.step] at hn; exact hyF n hn)
  have cx := step_congr (C := C) (ops := ops) (o := x.o) (s1 := st) (s2 := apply st y.o y.δ)
    (fun z hz => eval_off (fun t ht => disj_spec i3 t (mem_dst.2 ht)) hz) (guard_off (fun t ht => disj_spec i3 t (mem_dst.2 ht)))
    (fun n hn => aget_off (fun hk => disj_spec i5 n hk (by rw [← hx.rd]; exact hn)))
    (fun n hn => by rw [hx.step] at hn; exact hxF n hn)
    (fun n hn => by rw [hx.step] at hn; exact fresh_off (hxF n hn) (disj_spec i7 n hn) (hkx n (hnx n hn)))
  have hst : apply (apply st y.o y.δ) x.o x.δ = apply (apply st x.o x.δ) y.o y.δ := by
    have e1 : (apply (apply st y.o y.δ) x.o x.δ).tmps = (apply (apply st x.o x.δ) y.o y.δ).tmps := (put_comm st.tmps x.δ.val y.δ.val (fun t ht he => disj_spec i1 t (mem_dst.2 ht) (mem_dst.2 he))).symm
    have e2 : (apply (apply st y.o y.δ) x.o x.δ).objs = (apply (apply st x.o x.δ) y.o y.δ).objs := by
      refine Srt.ext ((hs.apply _ _).apply _ _) ((hs.apply _ _).apply _ _) fun k => ?_
      by_cases hk : k ∈ x.keys
      · have hky := hkx k hk
        rw [aget_off (o := y.o) (δ := y.δ) hky, aget_applied (apply st y.o y.δ), aget_off (o := y.o) (δ := y.δ) hky, ← aget_applied st]
      · rw [aget_off (o := x.o) (δ := x.δ) hk, aget_applied (apply st x.o x.δ), aget_off (o := x.o) (δ := x.δ) hk, ← aget_applied st]
    generalize apply (apply st y.o y.δ) x.o x.δ = s at *
    generalize apply (apply st x.o x.δ) y.o y.δ = s' at *
    cases s; cases s'
    dsimp only at e1 e2
    rw [e1, e2]
  refine ⟨⟨by rw [cy.1, hy.step], by rw [cy.2, hy.rd]⟩, ⟨by rw [cx.1, hx.step], by rw [cx.2, hx.rd]⟩, ?_⟩
  rw [hst]; exact hr

structure Pre (R : List Foot) (st : St) : Prop where
  srt : Srt st.objs
  fresh : ∀ z ∈ R, ∀ n ∈ z.news, st.fresh n = true
  pairs : R.Pairwise (fun y z => disj z.news y.says = true ∧ disj z.news y.keys = true)
theorem Pre.step {y : Foot} {R : List Foot} (h : Pre (y :: R) st) : Pre R (apply st y.o y.δ) := by
  obtain ⟨h1, h2⟩ := List.pairwise_cons.1 h.pairs
  exact ⟨h.srt.apply _ _, fun z hz n hn => fresh_off (h.fresh z (List.mem_cons_of_mem _ hz) n hn) (disj_spec (h1 z hz).1 n hn) (disj_spec (h1 z hz).2 n hn), h2⟩
theorem front {ops : List Oper} {x : Foot} {L2 : List Foot} : ∀ (L1 : List Foot) {st : St}, Pre (L1 ++ x :: L2) st → (∀ y ∈ L1, indep ops y x = true) → Runs C ops (L1 ++ x :: L2) st st' → Runs C ops (x :: (L1 ++ L2)) st st' := by
  intro L1
  induction L1 with
  | nil => intro st _ _ h; exact h
  | cons y L1 ih =>
    intro st hP hi h
    have h1 := ih (st := apply st y.o y.δ) (hP.step) (fun z hz => hi z (List.mem_cons_of_mem _ hz)) h.2
    have hx : x ∈ L1 ++ x :: L2 := List.mem_append_right _ List.mem_cons_self
    obtain ⟨p1, _⟩ := List.pairwise_cons.1 hP.pairs
    exact swap (hi y List.mem_cons_self) (hP.fresh y List.mem_cons_self) (hP.fresh x (List.mem_cons_of_mem _ hx)) (p1 x hx).1 (p1 x hx).2 hP.srt ⟨h.1, h1⟩

theorem binds_any {md : Region.Mode} {e : Edge} (h : Region.binds .any e = true) : Region.binds md e = true := by
  unfold Region.binds at h ⊢
  cases hg : e.ground with
  | textOnly r => rw [hg] at h; cases h
  | gcOnly r => rw [hg] at h; cases h
  | _ => rfl
theorem pairOk_spec {ops : List Oper} {i : Nat} {x y : Foot} (h : pairOk ops i x y = true) : disj y.news x.says = true ∧ disj y.news x.keys = true ∧ (i ∈ y.anc ∨ indep ops x y = true) := by
  unfold pairOk at h
  simp only [Bool.and_eq_true, Bool.or_eq_true] at h
  exact ⟨h.1.1, h.1.2, h.2.imp has_mem.1 id⟩

theorem getD_any {l : Array Bool} {i : Nat} (h : i < l.size) (b c : Bool) : l.getD i b = l.getD i c := by
  simp [Array.getD_eq_getD_getElem?, h]

theorem exists_min {α : Type} (f : α → Nat) : ∀ (l : List α), l ≠ [] → ∃ x ∈ l, ∀ y ∈ l, f x ≤ f y := by
  intro l
  induction l with
  | nil => intro h; exact absurd rfl h
  | cons a r ih =>
    intro _
    by_cases hr : r = []
    · exact ⟨a, List.mem_cons_self, fun y hy => by rw [hr] at hy; simp at hy; rw [hy]; exact Nat.le_refl _⟩
    · obtain ⟨x, hx, hm⟩ := ih hr
      by_cases h : f a ≤ f x
      · exact ⟨a, List.mem_cons_self, fun y hy => by
          rcases List.mem_cons.1 hy with rfl | hy
          · exact Nat.le_refl _
          · exact Nat.le_trans h (hm y hy)⟩
      · exact ⟨x, List.mem_cons_of_mem _ hx, fun y hy => by
          rcases List.mem_cons.1 hy with rfl | hy
          · omega
          · exact hm y hy⟩
theorem draw_any {ρ : Type} (hC : CtxOk P C) {ops : Array Oper} {md : Region.Mode} {Q : Exit → Act → World → Prop} {v : ρ} {K : St → Option ρ} (hQ : ∀ O' m' st' a' w', Sim V0 O0 w0 O' m' st' a' w' → K st' = some v → Q .normal a' w')
    {ANC : List (List Nat)} (hanc : ∀ (j : Nat) (o : Oper), ops[j]? = some o → ∀ i ∈ ANC.getD j [], ∃ e ∈ edges o, i = e ∨ i ∈ ANC.getD e []) {rk : Nat → Nat} (hback : ∀ (j : Nat) (o : Oper), ops[j]? = some o → ∀ e ∈ o.after, Region.binds md e = true → e.on < ops.size ∧ rk e.on < rk j) :
    ∀ (fuel : Nat) (R : List (Nat × Foot)) (listed : Array Bool) {O : Own} {m : Nat → Value} {st : St} {a : Act} {w : World}, R.length = fuel → R.Pairwise (fun p q => p.1 < q.1) →
      (∀ p ∈ R, ops[p.1]? = some p.2.o ∧ AllT p.2.δ.ok ∧ p.2.anc = ANC.getD p.1 []) → listed.size = ops.size → (∀ i, i < ops.size → (listed.getD i true = false ↔ i ∈ R.map (·.1))) →
      (∀ e, listed.getD e false = true → ∀ i ∈ ANC.getD e [], listed.getD i false = true) → R.Pairwise (fun p q => pairOk ops.toList p.1 p.2 q.2 = true) → (∀ p ∈ R, ∀ n ∈ p.2.news, st.fresh n = true) → Srt st.objs →
      Runs C ops.toList (R.map (·.2)) st st' → K st' = some v → Sim V0 O0 w0 O m st a w → wpAny P md ops Q fuel listed a w := by
  intro fuel
  induction fuel with
  | zero =>
    intro R listed O m st a w hlen _ _ hsz hl _ _ _ _ hruns hK hS
    have hR : R = [] := List.length_eq_zero_iff.1 hlen
    subst hR
    refine ⟨?_, ?_⟩
    · rw [List.eq_nil_iff_forall_not_mem]
      intro i hi
      obtain ⟨h1, o, h2, _⟩ := mem_ready.1 hi
      have hlt := (Array.getElem?_eq_some_iff.1 h2).1
      have := (hl i hlt).1 h1
      simp at this
    · have : st = st' := hruns
      subst this
      exact hQ _ _ _ _ _ hS hK
  | succ fuel ih =>
    intro R listed O m st a w hlen hord hops hsz hl hcl hpr hfr hsrt hruns hK hS
    have hin : ∀ p ∈ R, p.1 < ops.size := fun p hp => (Array.getElem?_eq_some_iff.1 (hops p hp).1).1
    refine ⟨fun hnil => ?_, fun i hi => ?_⟩
    · exfalso
      obtain ⟨p, hpR, hmin⟩ := exists_min (fun q : Nat × Foot => rk q.1) R (by intro h; rw [h] at hlen; simp at hlen)
      have hp := hin p hpR
      have : p.1 ∈ Region.ready md ops listed := by
        refine mem_ready.2 ⟨(hl p.1 hp).2 (List.mem_map.2 ⟨p, hpR, rfl⟩), p.2.o, (hops p hpR).1, fun e he hb => ?_⟩
        obtain ⟨hsize, hlt⟩ := hback _ _ (hops p hpR).1 e he hb
        have hno : e.on ∉ R.map (·.1) := by
          intro hm
          obtain ⟨q, hq, hqe⟩ := List.mem_map.1 hm
          have := hmin q hq
          rw [hqe] at this
          omega
        have : listed.getD e.on true ≠ false := fun h => hno ((hl e.on hsize).1 h)
        rw [getD_any (by rw [hsz]; exact hsize) false true]
        simpa using this
      rw [hnil] at this; cases this
    · obtain ⟨hi1, oi, hi2, hi3⟩ := mem_ready.1 hi
      have hilt := (Array.getElem?_eq_some_iff.1 hi2).1
      obtain ⟨p, hp, rfl⟩ := List.mem_map.1 ((hl i hilt).1 hi1)
      obtain ⟨L1, L2, rfl⟩ := List.append_of_mem hp
      obtain ⟨i, x⟩ := p
      dsimp only at hi hi1 hi2 hi3 hilt ⊢
      obtain ⟨hx1, hx2, hx3⟩ := hops (i, x) hp
      dsimp only at hx1 hx2 hx3
      have hancl : ∀ j ∈ ANC.getD i [], listed.getD j false = true := by
        intro j hj
        obtain ⟨e, he, hje⟩ := hanc i _ hx1 j hj
        have hel : listed.getD e false = true := by
          unfold edges at he
          obtain ⟨ed, hed, hb⟩ := List.mem_filterMap.1 he
          rw [hi2] at hx1; injection hx1 with hx1; subst hx1
          cases hbb : Region.binds .any ed with
          | false => rw [hbb] at hb; cases hb
          | true =>
            rw [hbb] at hb
            injection hb with hb
            rw [← hb]; exact hi3 ed (by simpa using hed) (binds_any hbb)
        rcases hje with rfl | hje
        · exact hel
        · exact hcl e hel j hje
      have hord' := List.pairwise_append.1 hord
      have hpr' := List.pairwise_append.1 hpr
      have hind : ∀ q ∈ L1, pairOk ops.toList q.1 q.2 x = true ∧ indep ops.toList q.2 x = true := by
        intro q hq
        have hpq := hpr'.2.2 q hq (i, x) List.mem_cons_self
        dsimp only at hpq
        refine ⟨hpq, (pairOk_spec hpq).2.2.resolve_left fun hm => ?_⟩
        rw [hx3] at hm
        have h1 := hancl _ hm
        have hqR : q ∈ L1 ++ (i, x) :: L2 := List.mem_append_left _ hq
        have hqlt := hin q hqR
        have h2 := (hl q.1 hqlt).2 (List.mem_map.2 ⟨q, hqR, rfl⟩)
        rw [getD_any (by rw [hsz]; exact hqlt) true false, h1] at h2
        cases h2
      have hPre : Pre ((L1 ++ (i, x) :: L2).map (·.2)) st := by
        refine ⟨hsrt, fun z hz n hn => ?_, ?_⟩
        · obtain ⟨q, hq, rfl⟩ := List.mem_map.1 hz
          exact hfr q hq n hn
        · rw [List.pairwise_map]
          exact hpr.imp fun h => ⟨(pairOk_spec h).1, (pairOk_spec h).2.1⟩
      have hfront : Runs C ops.toList (x :: (L1.map (·.2) ++ L2.map (·.2))) st st' := by
        refine front (L1.map (·.2)) (by simpa using hPre) (fun y hy => ?_) (by simpa using hruns)
        obtain ⟨q, hq, rfl⟩ := List.mem_map.1 hy
        exact (hind q hq).2
      obtain ⟨hstep, hrest⟩ := hfront
      have hsub : List.Sublist (L1 ++ L2) (L1 ++ (i, x) :: L2) := List.Sublist.append_left (List.sublist_cons_self _ _) _
      have hnext : ∀ O' m' a' w', Sim V0 O0 w0 O' m' (apply st x.o (stepX C ops.toList x.o st)) a' w' → wpAny P md ops Q fuel (listed.setIfInBounds i true) a' w' := by
        intro O' m' a' w' hS'
        rw [hstep.step] at hS'
        refine ih (L1 ++ L2) _ (by simp at hlen ⊢; omega) (hord.sublist hsub) (fun q hq => hops q (hsub.subset hq)) (by simpa using hsz) (fun j hj => ?_) (fun e he j hj => ?_) (hpr.sublist hsub) (fun q hq n hn => ?_) (hsrt.apply _ _) (by simpa using hrest) hK hS'
        · by_cases hji : i = j
          · subst hji
            have h1 : (listed.setIfInBounds i true).getD i true = true := by simp [Array.getD_eq_getD_getElem?, hsz, hj]
            rw [h1]
            refine ⟨fun h => (by cases h), fun h => ?_⟩
            obtain ⟨q, hq, hqi⟩ := List.mem_map.1 h
            rcases List.mem_append.1 hq with hq | hq
            · have := hord'.2.2 q hq (i, x) List.mem_cons_self
              dsimp only at this; omega
            · have := (List.pairwise_cons.1 hord'.2.1).1 q hq
              dsimp only at this; omega
          · rw [getD_set_ne true hji, hl j hj]
            simp only [List.map_append, List.map_cons, List.mem_append, List.mem_cons]
            constructor
            · rintro (h | h | h)
              · exact .inl h
              · exact absurd h.symm hji
              · exact .inr h
            · rintro (h | h)
              · exact .inl h
              · exact .inr (.inr h)
        · by_cases hei : i = e
          · subst hei; exact getD_set_true (hancl j hj)
          · rw [getD_set_ne false hei] at he
            exact getD_set_true (hcl e he j hj)
        · have hq' := hsub.subset hq
          have hf := hfr q hq' n hn
          rcases List.mem_append.1 hq with hq | hq
          · have hi' := (hind q hq).2
            unfold indep at hi'
            simp only [Bool.and_eq_true] at hi'
            exact fresh_off hf (disj_spec hi'.2 n hn) (disj_spec hi'.1.2 n (List.mem_append_right _ hn))
          · have hpq := pairOk_spec ((List.pairwise_cons.1 hpr'.2.1).1 q hq)
            exact fresh_off hf (disj_spec hpq.1 n hn) (disj_spec hpq.2.1 n hn)
      have hw := step_sound hC hS (ops := ops) (o := x.o) (by rw [hstep.step]; exact hx2) (wpAny P md ops Q fuel (listed.setIfInBounds i true)) Q hnext
      unfold wpOp
      rw [hx1]
      dsimp only
      split
      · rename_i hwt; rw [if_pos hwt] at hw; exact .inl hw
      · rename_i hwt; rw [if_neg hwt] at hw; exact hw
end
end Go.Proofs.YtegnjlmdppobmaaGreat.Vm

/-
  Regions whose order is drawn: the check, and what it gives.
-/
namespace Go.Proofs.YtegnjlmdppobmaaGreat.Vm
open Classical

section
variable {P : Program} {C : Ctx} {V0 : Nat → Value} {O0 O : Own} {w0 w : World} {m : Nat → Value} {st st' : St} {a : Act}

def enum : Nat → List Foot → List (Nat × Foot)
  | _, [] => []
  | i, x :: r => (i, x) :: enum (i + 1) r
theorem enum_length : ∀ (l : List Foot) (i : Nat), (enum i l).length = l.length := by
  intro l
  induction l with
  | nil => intro i; rfl
  | cons x r ih => intro i; simp [enum, ih]
theorem enum_snd : ∀ (l : List Foot) (i : Nat), (enum i l).map (·.2) = l := by
  intro l
  induction l with
  | nil => intro i; rfl
  | cons x r ih => intro i; simp [enum, ih]
theorem enum_mem : ∀ (l : List Foot) (i : Nat) (p : Nat × Foot), p ∈ enum i l → ∃ k, p.1 = i + k ∧ l[k]? = some p.2 := by
  intro l
  induction l with
  | nil => intro i p h; cases h
  | cons x r ih =>
    intro i p h
    rcases List.mem_cons.1 h with rfl | h
    · exact ⟨0, rfl, rfl⟩
    · obtain ⟨k, h1, h2⟩ := ih (i + 1) p h
      exact ⟨k + 1, by omega, by simpa using h2⟩
theorem enum_fst : ∀ (l : List Foot) (i j : Nat), j ∈ (enum i l).map (·.1) ↔ i ≤ j ∧ j < i + l.length := by
  intro l
  induction l with
  | nil => intro i j; simp [enum]
  | cons x r ih => intro i j; simp only [enum, List.map_cons, List.mem_cons, ih, List.length_cons]; omega
theorem enum_ord : ∀ (l : List Foot) (i : Nat), (enum i l).Pairwise (fun p q => p.1 < q.1) := by
  intro l
  induction l with
  | nil => intro i; exact List.Pairwise.nil
  | cons x r ih =>
    intro i
    refine List.Pairwise.cons (fun q hq => ?_) (ih (i + 1))
    obtain ⟨k, h1, _⟩ := enum_mem _ _ _ hq
    show i < q.1
    omega
theorem enum_pairs {ops : List Oper} : ∀ (l : List Foot) (i : Nat), pairsOk ops i l = true → (enum i l).Pairwise (fun p q => pairOk ops p.1 p.2 q.2 = true) := by
  intro l
  induction l with
  | nil => intro i _; exact List.Pairwise.nil
  | cons x r ih =>
    intro i h
    simp only [pairsOk, Bool.and_eq_true] at h
    refine List.Pairwise.cons (fun q hq => ?_) (ih (i + 1) h.2)
    obtain ⟨k, _, h2⟩ := enum_mem _ _ _ hq
    exact List.all_eq_true.1 h.1 _ (List.mem_of_getElem? h2)

theorem edges_mem {o : Oper} {e : Nat} (h : e ∈ edges o) : ∃ ed ∈ o.after, ed.on = e ∧ Region.binds .any ed = true := by
  unfold edges at h
  obtain ⟨ed, hed, hb⟩ := List.mem_filterMap.1 h
  cases hbb : Region.binds .any ed with
  | false => rw [hbb] at hb; cases hb
  | true => rw [hbb] at hb; injection hb with hb; exact ⟨ed, by simpa using hed, hb, hbb⟩
theorem backward_spec : ∀ (l : List Oper) (i : Nat), backward i l = true → ∀ (k : Nat) (o : Oper), l[k]? = some o → ∀ e ∈ o.after, e.on < i + k := by
  intro l
  induction l with
  | nil => intro i _ k o h; simp at h
  | cons x r ih =>
    intro i h k o hk e he
    simp only [backward, Bool.and_eq_true] at h
    cases k with
    | zero =>
      simp at hk; subst hk
      have := List.all_eq_true.1 h.1 e (by simpa using he)
      rw [Nat.blt_eq] at this; exact this
    | succ k =>
      have := ih (i + 1) h.2 k o (by simpa using hk) e he
      omega

theorem backwardA_spec : ∀ (l : List Oper) (i : Nat), backwardA i l = true → ∀ (k : Nat) (o : Oper), l[k]? = some o → ∀ e ∈ o.after, Region.binds .any e = true → e.on < i + k := by
  intro l
  induction l with
  | nil => intro i _ k o h; simp at h
  | cons x r ih =>
    intro i h k o hk e he hb
    simp only [backwardA, Bool.and_eq_true] at h
    cases k with
    | zero =>
      simp at hk; subst hk
      have := List.all_eq_true.1 h.1 e (by simpa using he)
      rw [hb] at this
      have : Nat.blt e.on i = true := by simpa using this
      rw [Nat.blt_eq] at this; exact this
    | succ k =>
      have := ih (i + 1) h.2 k o (by simpa using hk) e he hb
      omega
theorem rankedBy_spec {md : Region.Mode} {n : Nat} {rk : List Nat} : ∀ (l : List Oper) (i : Nat), rankedBy md n rk i l = true → ∀ (k : Nat) (o : Oper), l[k]? = some o → ∀ e ∈ o.after, Region.binds md e = true → e.on < n ∧ rk.getD e.on 0 < rk.getD (i + k) 0 := by
  intro l
  induction l with
  | nil => intro i _ k o h; simp at h
  | cons x r ih =>
    intro i h k o hk e he hb
    simp only [rankedBy, Bool.and_eq_true] at h
    cases k with
    | zero =>
      simp at hk; subst hk
      have := List.all_eq_true.1 h.1 e (by simpa using he)
      rw [hb] at this
      have : (Nat.blt e.on n && Nat.blt (rk.getD e.on 0) (rk.getD i 0)) = true := by simpa using this
      rw [Bool.and_eq_true, Nat.blt_eq, Nat.blt_eq] at this
      exact this
    | succ k =>
      have := ih (i + 1) h.2 k o (by simpa using hk) e he hb
      rw [show i + (k + 1) = i + 1 + k from by omega]; exact this
theorem ordered_rank {ops : Array Oper} (h : ordered ops.toList = true) (md : Region.Mode) : ∃ rk : Nat → Nat, ∀ (j : Nat) (o : Oper), ops[j]? = some o → ∀ e ∈ o.after, Region.binds md e = true → e.on < ops.size ∧ rk e.on < rk j := by
  unfold ordered at h
  rw [Bool.and_eq_true, Bool.or_eq_true] at h
  rcases h.2 with h | h
  · refine ⟨id, fun j o hj e he _ => ?_⟩
    have h1 := backward_spec _ _ h j o (by simpa using hj) e he
    have h2 := (Array.getElem?_eq_some_iff.1 hj).1
    exact ⟨by omega, by show e.on < j; omega⟩
  · simp only [Bool.and_eq_true] at h
    have key : ranked md ops.toList = true := by cases md <;> first | exact h.1.1 | exact h.1.2 | exact h.2
    refine ⟨fun i => (ranks md ops.toList ops.toList.length (ops.toList.map fun _ => 0)).getD i 0, fun j o hj e he hb => ?_⟩
    have := rankedBy_spec _ _ key j o (by simpa using hj) e he hb
    rw [Nat.zero_add] at this
    exact ⟨by simpa using this.1, this.2⟩

theorem flatMap_congr' {α β : Type} {f g : α → List β} : ∀ (l : List α), (∀ x ∈ l, f x = g x) → l.flatMap f = l.flatMap g := by
  intro l
  induction l with
  | nil => intro _; rfl
  | cons x r ih => intro h; simp only [List.flatMap_cons]; rw [h x List.mem_cons_self, ih (fun y hy => h y (List.mem_cons_of_mem _ hy))]

theorem foots_spec {ops : List Oper} : ∀ (l : List Oper) (acc : List (List Nat)) (st : St), backwardA acc.length l = true → (foots C ops l acc st).length = l.length ∧
    ∀ (k : Nat) (o : Oper), l[k]? = some o → ∃ x, (foots C ops l acc st)[k]? = some x ∧ x.o = o ∧ x.anc = (edges o).flatMap (fun e => e :: (acc ++ (foots C ops l acc st).map Foot.anc).getD e []) := by
  intro l
  induction l with
  | nil => intro acc st _; exact ⟨rfl, fun k o h => by simp at h⟩
  | cons o' r ih =>
    intro acc st h
    have hb := backwardA_spec _ _ h
    simp only [backwardA, Bool.and_eq_true] at h
    let an := (edges o').flatMap (fun e => e :: acc.getD e [])
    let s1 := apply st o' (stepX C ops o' st)
    have hf : foots C ops (o' :: r) acc st = ⟨o', stepX C ops o' st, askedOf o' st (vsOf o' st), an⟩ :: foots C ops r (acc ++ [an]) s1 := rfl
    obtain ⟨g1, g2⟩ := ih (acc ++ [an]) s1 (by simpa using h.2)
    rw [hf]
    refine ⟨by simp [g1], fun k o hk => ?_⟩
    cases k with
    | zero =>
      simp at hk; subst hk
      refine ⟨_, rfl, rfl, ?_⟩
      refine flatMap_congr' _ fun e he => ?_
      obtain ⟨ed, h1, h2, h3⟩ := edges_mem he
      have hlt := hb 0 o' rfl ed h1 h3
      rw [List.getD_eq_getElem?_getD, List.getD_eq_getElem?_getD, List.getElem?_append_left (by omega)]
    | succ k =>
      obtain ⟨x, h1, h2, h3⟩ := g2 k o (by simpa using hk)
      refine ⟨x, by simpa using h1, h2, ?_⟩
      rw [h3]
      simp [List.append_assoc]
theorem foots_runs {ρ : Type} {ops : List Oper} {K : St → Option ρ} {v : ρ} : ∀ (l : List Oper) (acc : List (List Nat)) (st : St), opsX C ops l st K = some v → ∃ st', Runs C ops (foots C ops l acc st) st st' ∧ K st' = some v ∧ ∀ x ∈ foots C ops l acc st, AllT x.δ.ok := by
  intro l
  induction l with
  | nil => intro acc st h; exact ⟨st, rfl, h, fun x hx => by cases hx⟩
  | cons o r ih =>
    intro acc st h
    obtain ⟨h1, h2⟩ := allT_some (show allT (stepX C ops o st).ok (opsX C ops r (apply st o (stepX C ops o st)) K) = some v from h)
    obtain ⟨st', h3, h4, h5⟩ := ih (acc ++ [(edges o).flatMap (fun e => e :: acc.getD e [])]) _ h2
    refine ⟨st', ⟨⟨rfl, rfl⟩, h3⟩, h4, fun x hx => ?_⟩
    rcases List.mem_cons.1 hx with rfl | hx
    · exact h1
    · exact h5 x hx

theorem Sim.drew (hS : Sim V0 O0 w0 O m st a w) : Sim V0 O0 w0 O m st a { w with drawn := w.drawn + 1 } :=
  hS.next (st' := st) (d := none) (v := undef) (x := .undef) (T := fun _ => False) (Nw := fun _ => False) ⟨rfl, rfl, rfl, Nat.le_refl _, fun _ _ => .inl rfl⟩ ⟨fun _ _ _ h => h, fun _ _ _ _ h _ => h⟩ (fun _ _ _ h => h) (fun _ y ho => .inr ⟨y, ho, rfl, rfl⟩) (fun _ h => h.elim) (fun _ h => h.elim)
    (fun _ _ ho => .inl ⟨id, ho, rfl⟩) rfl (fun h => absurd rfl h)

theorem draw_sound {ρ : Type} (hC : CtxOk P C) {fin : St → Option ρ} {v : ρ} (id : Nat) (ops : Array Oper) {O : Own} {m : Nat → Value} {st : St} {a : Act} {w : World} (K : Ex → St → Option ρ) (hS : Sim V0 O0 w0 O m st a w) (hd : drawOk C ops.toList st = true)
    (hx : opsX C ops.toList ops.toList st (fun st' => K .normal st') = some v) : (Code.region id ops true).wp P (Post V0 O0 w0 fin K v) a w := by
  unfold drawOk at hd
  dsimp only at hd
  simp only [Bool.and_eq_true] at hd
  obtain ⟨⟨⟨d1, d2⟩, d3⟩, d4⟩ := hd
  have d1A : backwardA 0 ops.toList = true := by
    have := d1
    unfold ordered at this
    rw [Bool.and_eq_true] at this
    exact this.1
  obtain ⟨f1, f2⟩ := foots_spec (C := C) (ops := ops.toList) ops.toList [] st d1A
  obtain ⟨st', r1, r2, r3⟩ := foots_runs ops.toList [] st hx
  generalize hfs : foots C ops.toList ops.toList [] st = fs at *
  have hlen : fs.length = ops.size := by rw [f1]; simp
  have hsize : (enum 0 fs).length = ops.size := by rw [enum_length, hlen]
  have hany : ∀ md, wpAny P md ops (Post V0 O0 w0 fin K v) ops.size (Array.replicate ops.size false) a { w with drawn := w.drawn + 1 } := by
    intro md
    obtain ⟨rk, hrk⟩ := ordered_rank d1 md
    refine draw_any (V0 := V0) (O0 := O0) (w0 := w0) hC (K := fun st' => K .normal st') (v := v) (st' := st') (fun O' m' s a' w' h1 h2 => ⟨O', m', s, h1, h2⟩) (ANC := fs.map Foot.anc) (rk := rk) (fun j o hj i hi => ?_) hrk
      ops.size (enum 0 fs) _ hsize (enum_ord _ _) (fun p hp => ?_) (by simp) (fun i hi => ?_) (fun e he i _ => ?_) (enum_pairs _ _ d2) (fun p hp n hn => ?_) (sorted_srt d4) (by rw [enum_snd]; exact r1) r2 hS.drew
    · obtain ⟨x, h1, h2, h3⟩ := f2 j o (by simpa using hj)
      have e1 : (fs.map Foot.anc).getD j [] = x.anc := by
        rw [List.getD_eq_getElem?_getD, List.getElem?_map, h1]; rfl
      rw [e1, h3] at hi
      obtain ⟨e, he, hie⟩ := List.mem_flatMap.1 hi
      rcases List.mem_cons.1 hie with h | h
      · exact ⟨e, he, .inl h⟩
      · exact ⟨e, he, .inr (by simpa using h)⟩
    · obtain ⟨k, h1, h2⟩ := enum_mem _ _ _ hp
      rw [Nat.zero_add] at h1
      have hk : k < ops.toList.length := by
        rw [← f1]
        rcases Nat.lt_or_ge k fs.length with h | h
        · exact h
        · rw [List.getElem?_eq_none h] at h2; cases h2
      obtain ⟨x, h3, h4, h5⟩ := f2 k ops.toList[k] (by simp at hk ⊢)
      rw [h2] at h3
      injection h3 with h3
      refine ⟨?_, r3 _ (List.mem_of_getElem? h2), ?_⟩
      · rw [h1, h3, h4]; simp at hk ⊢
      · rw [h1, List.getD_eq_getElem?_getD, List.getElem?_map, h2]; rfl
    · rw [enum_fst]
      simp [Array.getD_eq_getD_getElem?, hi, hlen]
    · have : (Array.replicate ops.size false).getD e false = false := by
        rw [Array.getD_eq_getD_getElem?, Array.getElem?_replicate]
        split <;> rfl
      rw [this] at he; cases he
    · obtain ⟨k, _, h2⟩ := enum_mem _ _ _ hp
      exact List.all_eq_true.1 d3 n (List.mem_flatMap.2 ⟨_, List.mem_of_getElem? h2, hn⟩)
  refine wp_region_draw fun t => ?_
  unfold Region.schedule
  split
  · exact wpAny_sound _ _ _ _ _ (hany _)
  · exact wpAny_sound _ _ _ _ _ (hany _)
end
end Go.Proofs.YtegnjlmdppobmaaGreat.Vm

/-
  What is known of a function, off its run; tables.
-/
namespace Go.Proofs.YtegnjlmdppobmaaGreat.Vm
open Classical

section
variable {P : Program} {C : Ctx}

/-! ### tables -/
def glook : List (Nat × Sig) → Nat → Option Sig
  | [], _ => none
  | (k, x) :: r, t => bif Nat.beq k t then some x else glook r t
theorem glook_mem : ∀ {l : List (Nat × Sig)} {t : Nat} {x : Sig}, glook l t = some x → (t, x) ∈ l := by
  intro l
  induction l with
  | nil => intro t x h; cases h
  | cons p r ih =>
    intro t x h
    obtain ⟨k, y⟩ := p
    simp only [glook, nbeq] at h
    by_cases hk : k = t
    · simp only [hk, decide_true, cond_true, Option.some.injEq] at h
      rw [hk, h]; exact List.mem_cons_self
    · rw [show decide (k = t) = false by simpa using hk] at h
      exact List.mem_cons_of_mem _ (ih h)
def nlook : List (Nat × Nrm) → Nat → Option Nrm
  | [], _ => none
  | (k, x) :: r, t => bif Nat.beq k t then some x else nlook r t
def alook : List (Nat × Alt) → Nat → Option Alt
  | [], _ => none
  | (k, x) :: r, t => bif Nat.beq k t then some x else alook r t
def ctx (P : Program) (gs : List (Nat × Sig)) (ns : List (Nat × Nrm)) (aa : List (Nat × Alt) := []) : Ctx := ⟨tyOf P, glook gs, nlook ns, alook aa⟩
/-- all that is known of functions that may hand back a nil pointer -/
def Alts (P : Program) : List (Nat × Alt) → Prop
  | [] => True
  | (f, q) :: r => (Spec P f q.1 ∧ Spec P f q.2.1) ∧ Alts P r
theorem Alts.look : ∀ {l : List (Nat × Alt)}, Alts P l → ∀ f q, alook l f = some q → Spec P f q.1 ∧ Spec P f q.2.1 := by
  intro l
  induction l with
  | nil => intro _ f q h; cases h
  | cons p r ih =>
    intro h f q hq
    obtain ⟨k, x⟩ := p
    simp only [alook, nbeq] at hq
    by_cases hk : k = f
    · simp only [hk, decide_true, cond_true, Option.some.injEq] at hq
      rw [← hq, ← hk]; exact h.1
    · rw [show decide (k = f) = false by simpa using hk] at hq
      exact ih h.2 f q hq
/-- all that is known of functions -/
def Specs (P : Program) : List (Nat × Sig) → Prop
  | [] => True
  | (f, sg) :: r => Spec P f sg ∧ Specs P r
theorem Specs.mem : ∀ {l : List (Nat × Sig)}, Specs P l → ∀ p ∈ l, Spec P p.1 p.2 := by
  intro l
  induction l with
  | nil => intro _ p hp; cases hp
  | cons q r ih =>
    intro h p hp
    rcases List.mem_cons.1 hp with rfl | hp
    · exact h.1
    · exact ih h.2 p hp
theorem ctx_ok {gs : List (Nat × Sig)} {ns : List (Nat × Nrm)} {aa : List (Nat × Alt)} (hG : Specs P gs) (hA : Alts P aa := by trivial) : CtxOk P (ctx P gs ns aa) :=
  ⟨fun _ _ h => h, fun _ _ h => hG.mem _ (glook_mem h), hA.look⟩

theorem enters {f : FuncId} {fn : Func} (hf : P.funcs[f]? = some fn) (hb : fn.body.isNone = false) (hn : (fn.name == "runtime.NumGoroutine") = false) (args : Array Value) (w : World) : (callFunc f args).run P w = .ok (.enter f args) w := by
  have h1 : fn.name ≠ "runtime.NumGoroutine" := by simpa using hn
  have h2 : fn.body ≠ none := by intro e; rw [e] at hb; cases hb
  simp [callFunc, hf, h1, h2]

/-! ### arguments and results, typed -/
def decC : (ks : List (Bool × CK)) → List A → Option (tyl (ks.map (·.2))).Val
  | [] => fun
    | [] => some ()
    | _ => none
  | (_, .bool) :: r => fun
    | .bool b :: cs => (decC r cs).map (fun q => Ty.mk2 _ b q)
    | _ => none
  | (_, .int k) :: r => fun
    | .int j n :: cs => bif A.kEq j k then (decC r cs).map (fun q => Ty.mk2 _ n q) else none
    | _ => none
  | (_, .str) :: r => fun
    | .str s :: cs => (decC r cs).map (fun q => Ty.mk2 _ s q)
    | _ => none
  | (false, .sl _ t) :: r => fun
    | .sl l :: cs => match l.cast t with
      | some xs => (decC r cs).map (fun q => Ty.mk2 _ xs q)
      | none => none
    | _ => none
  | (true, .sl e t) :: r => fun
    | .usl e' l :: cs => bif Nat.beq e' e then match l.cast t with
      | some xs => (decC r cs).map (fun q => Ty.mk2 _ xs q)
      | none => none
      else none
    | _ => none
  | (_, .ptr) :: r => fun
    | .nilp :: cs => (decC r cs).map (fun q => q)
    | _ => none
  | (_, .oth) :: _ => fun _ => none
def encC : (ks : List (Bool × CK)) → (tyl (ks.map (·.2))).Val → List A
  | [], _ => []
  | (_, .bool) :: r, v => .bool (Ty.hd _ v) :: encC r (Ty.tl _ v)
  | (_, .int k) :: r, v => .int k (Ty.hd _ v) :: encC r (Ty.tl _ v)
  | (_, .str) :: r, v => .str (Ty.hd _ v) :: encC r (Ty.tl _ v)
  | (false, .sl _ t) :: r, v => .sl ⟨t, Ty.hd _ v⟩ :: encC r (Ty.tl _ v)
  | (true, .sl e t) :: r, v => .usl e ⟨t, Ty.hd _ v⟩ :: encC r (Ty.tl _ v)
  | (_, .ptr) :: r, v => .nilp :: encC r v
  | (_, .oth) :: _, _ => []
theorem decC_enc : ∀ (ks : List (Bool × CK)) (cs : List A) (v : (tyl (ks.map (·.2))).Val), decC ks cs = some v → cs = encC ks v := by
  intro ks
  induction ks with
  | nil =>
    intro cs v h
    cases cs with
    | nil => rfl
    | cons _ _ => cases h
  | cons k ks ih =>
    intro cs v h
    obtain ⟨u, k⟩ := k
    have none' : ∀ {α : Type} {x : α}, (none : Option α) = some x → False := fun h => by cases h
    cases k with
    | bool =>
      simp only [decC] at h
      split at h
      · rename_i b cs
        cases hd : decC ks cs with
        | none => rw [hd] at h; cases h
        | some q =>
          rw [hd] at h
          injection h with h
          subst h
          simp only [encC, Ty.hd_mk2, Ty.tl_mk2]
          rw [← ih cs q hd]
      · exact (none' h).elim
    | int k =>
      simp only [decC] at h
      split at h
      · rename_i j n cs
        cases hk : A.kEq j k with
        | false => rw [hk] at h; exact (none' h).elim
        | true =>
          rw [hk] at h
          cases hd : decC ks cs with
          | none => rw [hd] at h; cases h
          | some q =>
            rw [hd] at h
            injection h with h
            subst h
            simp only [encC, Ty.hd_mk2, Ty.tl_mk2]
            rw [← ih cs q hd, A.kEq_eq hk]
      · exact (none' h).elim
    | str =>
      simp only [decC] at h
      split at h
      · rename_i b cs
        cases hd : decC ks cs with
        | none => rw [hd] at h; cases h
        | some q =>
          rw [hd] at h
          injection h with h
          subst h
          simp only [encC, Ty.hd_mk2, Ty.tl_mk2]
          rw [← ih cs q hd]
      · exact (none' h).elim
    | sl e t =>
      cases u with
      | false =>
        simp only [decC] at h
        split at h
        · rename_i l cs
          cases hc : l.cast t with
          | none => rw [hc] at h; exact (none' h).elim
          | some xs =>
            rw [hc] at h
            dsimp only at h
            cases hd : decC ks cs with
            | none => rw [hd] at h; cases h
            | some q =>
              rw [hd] at h
              injection h with h
              subst h
              simp only [encC, Ty.hd_mk2, Ty.tl_mk2]
              rw [← ih cs q hd, Sl.cast_some hc]
        · exact (none' h).elim
      | true =>
        simp only [decC] at h
        split at h
        · rename_i e' l cs
          cases he : Nat.beq e' e with
          | false => rw [he] at h; exact (none' h).elim
          | true =>
            rw [he] at h
            dsimp only [cond_true] at h
            cases hc : l.cast t with
            | none => rw [hc] at h; exact (none' h).elim
            | some xs =>
              rw [hc] at h
              dsimp only at h
              cases hd : decC ks cs with
              | none => rw [hd] at h; cases h
              | some q =>
                rw [hd] at h
                injection h with h
                subst h
                simp only [encC, Ty.hd_mk2, Ty.tl_mk2]
                rw [← ih cs q hd, Sl.cast_some hc, Nat.eq_of_beq_eq_true he]
        · exact (none' h).elim
    | ptr =>
      simp only [decC] at h
      split at h
      · rename_i cs
        cases hd : decC ks cs with
        | none => rw [hd] at h; cases h
        | some q =>
          rw [hd] at h
          injection h with h
          subst h
          simp only [encC]
          rw [← ih cs _ hd]
      · exact (none' h).elim
    | oth => simp only [decC] at h; exact (none' h).elim

def Sh.ks : Sh → List (Bool × CK)
  | .cell u k => [(u, k)]
  | .agg ks => ks
  | .box ks => ks
/-- what is given for a shape -/
def Sh.T (s : Sh) : Type := (tyl (s.ks.map (·.2))).Val
def Sh.dec : (s : Sh) → A → Option s.T
  | .cell u k, x => decC [(u, k)] [x]
  | .agg ks, .agg cs => decC ks cs
  | .box ks, .box cs => decC ks cs
  | _, _ => none
def Sh.enc : (s : Sh) → s.T → A
  | .cell u k, v => (encC [(u, k)] v).getD 0 .undef
  | .agg ks, v => .agg (encC ks v)
  | .box ks, v => .box (encC ks v)
theorem Sh.dec_enc {s : Sh} {x : A} {v : s.T} (h : s.dec x = some v) : x = s.enc v := by
  cases s with
  | cell u k =>
    have := decC_enc _ _ _ (show decC [(u, k)] [x] = some v from h)
    show x = (encC [(u, k)] v).getD 0 .undef
    rw [← this]; rfl
  | agg ks =>
    cases x with
    | agg cs =>
      have := decC_enc _ _ _ (show decC ks cs = some v from h)
      show _ = A.agg (encC ks v)
      rw [← this]
    | _ => cases h
  | box ks =>
    cases x with
    | box cs =>
      have := decC_enc _ _ _ (show decC ks cs = some v from h)
      show _ = A.box (encC ks v)
      rw [← this]
    | _ => cases h
def prS (s : Sh) (β : Type) : List Sh → Type
  | [] => s.T
  | _ :: _ => s.T × β
/-- what is given for shapes -/
def ShT : List Sh → Type
  | [] => Unit
  | s :: r => prS s (ShT r) r
def hdS (s : Sh) : (r : List Sh) → prS s (ShT r) r → s.T
  | [], v => v
  | _ :: _, v => v.1
def tlS (s : Sh) : (r : List Sh) → prS s (ShT r) r → ShT r
  | [], _ => ()
  | _ :: _, v => v.2
def mkS (s : Sh) : (r : List Sh) → s.T → ShT r → prS s (ShT r) r
  | [], a, _ => a
  | _ :: _, a, b => (a, b)
theorem hdS_mk (s : Sh) (r : List Sh) (a : s.T) (b : ShT r) : hdS s r (mkS s r a b) = a := by cases r <;> rfl
theorem tlS_mk (s : Sh) (r : List Sh) (a : s.T) (b : ShT r) : tlS s r (mkS s r a b) = b := by cases r <;> rfl
def bothO (s : Sh) (r : List Sh) : Option s.T → Option (ShT r) → Option (prS s (ShT r) r)
  | some a, some b => some (mkS s r a b)
  | _, _ => none
theorem bothO_some {s : Sh} {r : List Sh} {x : Option s.T} {y : Option (ShT r)} {v : prS s (ShT r) r} (h : bothO s r x y = some v) : ∃ a b, x = some a ∧ y = some b ∧ v = mkS s r a b := by
  cases x with
  | none => cases h
  | some a =>
    cases y with
    | none => cases h
    | some b => injection h with h; exact ⟨a, b, rfl, rfl, h.symm⟩
def decs : (ss : List Sh) → List A → Option (ShT ss)
  | [] => fun
    | [] => some ()
    | _ => none
  | s :: r => fun
    | [] => none
    | x :: xs => bothO s r (s.dec x) (decs r xs)
def encs : (ss : List Sh) → ShT ss → List A
  | [], _ => []
  | s :: r, v => s.enc (hdS s r v) :: encs r (tlS s r v)
theorem decs_enc : ∀ (ss : List Sh) (xs : List A) (v : ShT ss), decs ss xs = some v → xs = encs ss v := by
  intro ss
  induction ss with
  | nil =>
    intro xs v h
    cases xs with
    | nil => rfl
    | cons _ _ => cases h
  | cons s ss ih =>
    intro xs v h
    cases xs with
    | nil => cases h
    | cons x xs =>
      obtain ⟨a, b, h1, h2, h3⟩ := bothO_some (show bothO s ss (s.dec x) (decs ss xs) = some v from h)
      subst h3
      show _ = s.enc (hdS s ss (mkS s ss a b)) :: encs ss (tlS s ss (mkS s ss a b))
      rw [hdS_mk, tlS_mk, ← Sh.dec_enc h1, ← ih xs b h2]
def Sh.zero (s : Sh) : s.T := Ty.zero _
def zeroS : (ss : List Sh) → ShT ss
  | [] => ()
  | s :: r => mkS s r s.zero (zeroS r)
/-- what comes back: results, what the boxes hold -/
def outS (pars ress : List Sh) : List Sh := ress ++ pars.filterMap (fun | .box ks => some (.agg ks) | _ => none)
def Sig.of (pars ress : List Sh) (f : ShT pars → Option (ShT (outS pars ress))) : Sig where
  pars := pars
  ress := ress
  ok xs := match decs pars xs with
    | some a => (f a).isSome
    | none => false
  val xs := match decs pars xs with
    | some a => encs (outS pars ress) ((f a).getD (zeroS _))
    | none => []
theorem Sig.of_some {pars ress : List Sh} {f : ShT pars → Option (ShT (outS pars ress))} {xs rs : List A} (h : (Sig.of pars ress f).F xs = some rs) : ∃ a o, xs = encs pars a ∧ f a = some o ∧ rs = encs _ o := by
  unfold Sig.F Sig.of at h
  dsimp only at h
  cases hd : decs pars xs with
  | none => rw [hd] at h; cases h
  | some a =>
    rw [hd] at h
    dsimp only at h
    cases hf : f a with
    | none => rw [hf] at h; cases h
    | some o =>
      rw [hf] at h
      injection h with h
      exact ⟨a, o, decs_enc _ _ _ hd, hf, h.symm⟩
/-- the end of a run, typed -/
def finT (C : Ctx) (pars ress : List Sh) (outs : List (Nat × Option Nat)) (st : St) : Option (ShT (outS pars ress)) :=
  allT ((handArgs st.objs ress (outsOf C outs st)).1 ++ (handArgs st.objs (pars.map maskS) (maskV pars 0)).1 ++
      [nodup ((namesAs st.objs 256000 256 ress (outsOf C outs st) ++ namesAs st.objs 0 256 (pars.map maskS) (maskV pars 0)).map (·.1))] ++ outs.flatMap (fun q => (outX C st q).1))
    (decs _ ((handArgs st.objs ress (outsOf C outs st)).2.1 ++ (boxIx pars 0).map (fun i => unbox ((handArgs st.objs (pars.map maskS) (maskV pars 0)).2.1.getD i .undef))))
theorem allT_eq {α β : Type} {l : List Bool} {x : Option α} {y : α} (h : allT l x = some y) (z : β) : allT l (some z) = some z := by
  induction l with
  | nil => rfl
  | cons c cs ih =>
    cases c with
    | false => cases h
    | true => exact ih h
theorem finT_some {C : Ctx} {pars ress : List Sh} {outs : List (Nat × Option Nat)} {st : St} {o : ShT (outS pars ress)} (h : finT C pars ress outs st = some o) : finish C pars ress outs st = some (encs _ o) := by
  unfold finT at h
  obtain ⟨_, h2⟩ := allT_some h
  have := decs_enc _ _ _ h2
  unfold finish
  rw [← this]
  exact allT_eq h _
def runT (C : Ctx) (N : Nat) (pars ress : List Sh) (n : Nat) (outs : List (Nat × Option Nat)) (code : Code) (a : ShT pars) : Option (ShT (outS pars ress)) :=
  runK C N pars n code (finT C pars ress outs) (encs pars a)

/-- a function, off its run; sel: what is taken of its end -/
theorem spec_of_runS {ρ : Type} {fin : St → Option ρ} (hC : CtxOk P C) (N : Nat) {f : FuncId} {fn : Func} {code : Code} {outs : List (Nat × Option Nat)} {pars ress : List Sh} {g : ShT pars → Option (ShT (outS pars ress))} (hf : P.funcs[f]? = some fn) (hb : fn.body = some code) (hn : (fn.name == "runtime.NumGoroutine") = false)
    (hout : fn.results = (outs.map rv).toArray) (hF : ∀ a o, g a = some o → ∃ r, runK C N pars fn.ntmps code fin (encs pars a) = some r ∧ ∀ st, fin st = some r → finT C pars ress outs st = some o) : Spec P f (Sig.of pars ress g) :=
  ⟨enters hf (by rw [hb]; rfl) hn, fun _ _ _ xs rs hv hl h100 hx hrs => by
    obtain ⟨a, o, h1, h2, h3⟩ := Sig.of_some hrs
    subst h1; subst h3
    obtain ⟨r, h4, h5⟩ := hF a o h2
    exact run_calls (sg := Sig.of pars ress g) (o := r) hC N (fun id ops _ _ _ _ _ K hS hd hx => draw_sound hC id ops K hS hd hx) hf hb hout hv hl h100 hx h4 (fun st h => finT_some (h5 st h))⟩
end
end Go.Proofs.YtegnjlmdppobmaaGreat.Vm
