/-
  The law BundleMerge returns true for every input. (part 2 of 6.)
-/
import Derived.Test.YtnllccjmbijjlaaGreatA1
import Derived.Lib.ConvBytes
import Derived.ChangeKeysEq
import Derived.MapKept
import Derived.Carry
import Derived.Calls
import Derived.LoopN
import Derived.Tactics
set_option linter.unusedVariables false
set_option linter.unusedSimpArgs false
/-
  The small machine's operations against the real ones: append.
-/
namespace Go.Proofs.YtnllccjmbijjlaaGreat.Vm
open Classical

section
variable {P : Program} {C : Ctx} {V0 : Nat → Value} {O0 O : Own} {w0 w : World} {m : Nat → Value} {st : St} {a : Act} {o : Oper}

theorem VRel.one {v : Value} {x : A} (h : VRel O w v x) : v.oneCell' = true := by cases h <;> rfl

/-- what is appended -/
structure Src (P : Program) (O : Own) (w : World) (sz : Nat) (y : Value) (ns : List (List A)) (news : List Value) : Prop where
  len : ∀ w', (Builtin.lenOf y).run P w' = .ok ns.length w'
  cells : ∀ w', (∀ b k u, w.cell? (at' b k) = some u → w'.cell? (at' b k) = some u) → (Builtin.firstCells sz ns.length y).run P w' = .ok news.toArray w'
  size : news.length = ns.length * sz
  each : ∀ x ∈ ns, x.length = sz
  rel : ∀ i j, i < ns.length → j < sz → VRel O w (news.getD (i * sz + j) undef) ((ns.getD i []).getD j .undef)
theorem Src.one {sz : Nat} {y : Value} {ns : List (List A)} {news : List Value} (h : Src P O w sz y ns news) (h0 : 0 < sz) : ∀ v ∈ news, v.oneCell' = true := by
  intro v hv
  obtain ⟨k, hk, hke⟩ := List.mem_iff_getElem.1 hv
  have hd : k = (k / sz) * sz + k % sz := by rw [Nat.mul_comm]; exact (Nat.div_add_mod k sz).symm
  have hlt : k / sz < ns.length := by
    rw [Nat.div_lt_iff_lt_mul h0, ← h.size]; exact hk
  have := h.rel (k / sz) (k % sz) hlt (Nat.mod_lt _ h0)
  rw [← hd, List.getD_eq_getElem?_getD, List.getElem?_eq_getElem hk] at this
  simp only [Option.getD_some, hke] at this
  exact this.one

theorem src_rd {l : Sl} {v : Value} (h : RdIs w O v l) : ∃ news, Src P O w l.sz v l.es news := by
  rcases h with ⟨hv, hn⟩ | ⟨b, k, c, hv, hc, hcell⟩
  · have hn : l.es = [] := by simp [Sl.es, hn]
    refine ⟨[], ⟨fun w' => by rw [hv, hn]; rfl, fun w' _ => by rw [hv, hn]; rfl, by rw [hn]; simp, l.es_len, fun i j hi => by rw [hn] at hi; simp at hi⟩⟩
  · let news : List Value := (List.range (l.es.length * l.sz)).map fun i => (w.cell? (at' b (k + i))).getD undef
    have hcells : ∀ i, i < l.es.length * l.sz → ∃ u, w.cell? (at' b (k + i)) = some u := by
      intro i hi
      have h0 : 0 < l.sz := by
        rcases Nat.eq_zero_or_pos l.sz with h | h
        · rw [h] at hi; simp at hi
        · exact h
      have hd : i = (i / l.sz) * l.sz + i % l.sz := by rw [Nat.mul_comm]; exact (Nat.div_add_mod i l.sz).symm
      obtain ⟨u, hu, _⟩ := hcell (i / l.sz) (i % l.sz) (by rw [Nat.div_lt_iff_lt_mul h0]; exact hi) (Nat.mod_lt _ h0)
      rw [← hd] at hu; exact ⟨u, hu⟩
    refine ⟨news, ⟨fun w' => by rw [hv]; rfl, fun w' hw' => ?_, by simp [news], l.es_len, fun i j hi hj => ?_⟩⟩
    · rw [hv]
      simp only [Builtin.firstCells]
      have := run_loadCells (P := P) w' (at' b k) (l.es.length * l.sz) (fun i => (w.cell? (at' b (k + i))).getD undef) (fun i hi => by
        obtain ⟨u, hu⟩ := hcells i hi
        rw [add_at, hw' _ _ _ hu, hu]; rfl)
      exact this
    · obtain ⟨u, h3, h4⟩ := hcell i j hi hj
      have hlt : i * l.sz + j < l.es.length * l.sz := by
        have : (i + 1) * l.sz ≤ l.es.length * l.sz := Nat.mul_le_mul_right _ hi
        rw [Nat.add_mul] at this; omega
      have e1 : news.getD (i * l.sz + j) undef = u := by
        simp [news, List.getD_eq_getElem?_getD, hlt, h3]
      rw [e1]; exact h4
theorem src_of {fet : Fet} {t : Ty} {y : A} {v : Value} (hf : FOk O st.objs m w fet) (hy : TRel O st.objs m w v y) (hok : AllT (newsOf fet t y).1) : ∃ news, Src P O w t.len v (⟨t, (newsOf fet t y).2⟩ : Sl).es news := by
  have hrd : AllT (rdT fet t y).1 → ∃ news, Src P O w t.len v (⟨t, (rdT fet t y).2⟩ : Sl).es news := fun hok => src_rd (rdT_run hf hy hok)
  by_cases hs : ∃ s, y = .str s
  · obtain ⟨s, rfl⟩ := hs
    by_cases ht : t = .int .u8 .nil
    · subst ht
      obtain ⟨b, hb, hl⟩ := hy.str
      have hbl : b.size = s.length := by rw [size_dl, hl]
      have hes : (⟨.int .u8 .nil, (newsOf fet (.int .u8 .nil) (.str s)).2⟩ : Sl).es = s.map (fun (x : UInt8) => [A.int .u8 (x.toNat : Int)]) := by
        show List.map (Ty.int IntKind.u8 Ty.nil).cells (List.map (fun (b : UInt8) => ((b.toNat : Int))) s) = _
        exact List.map_map.trans rfl
      rw [hes]
      refine ⟨s.map (fun (x : UInt8) => Value.int .u8 (x.toNat : Int)), ⟨fun w' => by rw [hb]; simp [Builtin.lenOf, hbl], fun w' _ => ?_, by simp [Ty.len], by simp [Ty.len], fun i j hi hj => ?_⟩⟩
      · rw [hb]
        simp only [Builtin.firstCells, List.length_map, Sem.run_pure]
        congr 1
        have : b.extract 0 s.length = b := by
          rw [← hbl]
          have h1 : (b.extract 0 b.size).data.toList = b.data.toList := by rw [extract_cut, size_dl]; unfold cutL; rw [List.drop_zero, List.take_length]
          exact ByteArray.ext (Array.toList_inj.1 h1)
        rw [this]
        apply Array.toList_inj.1
        simp [hl]
      · have hj0 : j = 0 := by simp [Ty.len] at hj; omega
        subst hj0
        have hi' : i < s.length := by simpa using hi
        simp [List.getD_eq_getElem?_getD, hi', Ty.len]
        exact .int _ _
    · have : (newsOf fet t (.str s)).1 = [false] := by
        unfold newsOf
        cases t with
        | int k r => cases k <;> cases r <;> first | rfl | exact absurd rfl ht
        | _ => rfl
      rw [this] at hok
      have := hok false (by simp); cases this
  · have : newsOf fet t y = rdT fet t y := by
      cases y <;> first | rfl | exact absurd ⟨_, rfl⟩ hs
    rw [this] at hok ⊢
    exact hrd hok

theorem isSlStr_or {d : TypeDesc} (h : isSlStr d = true) : (∃ e, d = .slice e) ∨ d = .string := by
  unfold isSlStr at h; split at h <;> simp_all
theorem run_append_in {t u ty e n sLen sCap : Nat} {i : TypeInfo} {du : TypeDesc} {base : Option Addr} {y : Value} {news : List Value} {w' : World} (hu : P.underlying t = some (.slice e)) (hu2 : P.underlying u = some du) (hdu : isSlStr du = true) (hi : P.info? e = some i)
    (hlen : (Builtin.lenOf y).run P w = .ok n w) (hnew : (Builtin.firstCells i.size n y).run P w = .ok news.toArray w) (hle : sLen + n ≤ sCap)
    (hst : match base with | some ad => (storeCells (ad.add (sLen * i.size)) news).run P w = .ok () w' | none => w' = w) :
    (Builtin.append_ #[t, u] ty #[.slice base sLen sCap, y]).run P w = .ok (.slice base (sLen + n) sCap) w' := by
  rcases isSlStr_or hdu with ⟨e', rfl⟩ | rfl
  · cases base with
    | none => subst hst; simp [Builtin.append_, run_underlying hu, run_underlying hu2, sizeOf, typeInfo, hi, hlen, hnew, hle]
    | some ad => dsimp only at hst; simp [Builtin.append_, run_underlying hu, run_underlying hu2, sizeOf, typeInfo, hi, hlen, hnew, hle, hst]
  · cases base with
    | none => subst hst; simp [Builtin.append_, run_underlying hu, run_underlying hu2, sizeOf, typeInfo, hi, hlen, hnew, hle]
    | some ad => dsimp only at hst; simp [Builtin.append_, run_underlying hu, run_underlying hu2, sizeOf, typeInfo, hi, hlen, hnew, hle, hst]
theorem run_append_out {t u ty e n sLen sCap : Nat} {i : TypeInfo} {z : Value} {du : TypeDesc} {base : Option Addr} {y : Value} {olds news : List Value} (hu : P.underlying t = some (.slice e)) (hu2 : P.underlying u = some du) (hdu : isSlStr du = true) (hi : P.info? e = some i) (hz : i.zero = some z)
    (hlen : (Builtin.lenOf y).run P w = .ok n w) (hold : (Builtin.firstCells i.size sLen (.slice base sLen sCap)).run P w.drew = .ok olds.toArray w.drew) (hnew : (Builtin.firstCells i.size n y).run P w.drew = .ok news.toArray w.drew) (hgt : sCap < sLen + n)
    (hb : (sLen + n) * i.bytes ≤ 140737488355328) (h0 : 0 < i.bytes ∨ ((sLen + n : Nat) : Int) ≤ 9223372036854775807) :
    (Builtin.append_ #[t, u] ty #[.slice base sLen sCap, y]).run P w =
      .ok (.slice (some (at' w.heap.size 0)) (sLen + n) (grownCap w (sLen + n) sCap e)) (w.drew.alloc (.cells (olds.toArray ++ news.toArray ++ Builtin.zeroCells z.cells (grownCap w (sLen + n) sCap e - (sLen + n))) e)) := by
  have hn : ¬ (sLen + n ≤ sCap) := by omega
  have hfit := growslice_fits hgt hb
  have h48' : ¬ (281474976710656 < Builtin.nextslicecap (sLen + n) sCap * i.bytes) := by omega
  have h63 : ¬ (((sLen : Int) + (n : Int)) > 9223372036854775807 ∧ i.bytes = 0) := by
    rintro ⟨ha, hb'⟩
    rcases h0 with h0 | h0
    · omega
    · rw [Int.natCast_add] at h0; omega
  have h63' : ¬ (9223372036854775807 < ((sLen : Int) + (n : Int)) ∧ i.bytes = 0) := h63
  rcases isSlStr_or hdu with ⟨e', rfl⟩ | rfl
  · simp [Builtin.append_, run_underlying hu, run_underlying hu2, sizeOf, typeInfo, zeroValue, hi, hz, hlen, hn, h63', h48', Question.forced, hold, hnew, newRow, grownCap]
    congr 2
    apply Array.ext'
    simp [List.append_assoc]
  · simp [Builtin.append_, run_underlying hu, run_underlying hu2, sizeOf, typeInfo, zeroValue, hi, hz, hlen, hn, h63', h48', Question.forced, hold, hnew, newRow, grownCap]
    congr 2
    apply Array.ext'
    simp [List.append_assoc]
end
end Go.Proofs.YtnllccjmbijjlaaGreat.Vm

/-
  The small machine's operations against the real ones: append, put together.
-/
namespace Go.Proofs.YtnllccjmbijjlaaGreat.Vm
open Classical

section
variable {P : Program} {C : Ctx} {V0 : Nat → Value} {O0 O : Own} {w0 w : World} {m : Nat → Value} {st : St} {a : Act} {o : Oper}

/-- the cells of a row that has grown into a new block -/
theorem held_grown {sz cap : Nat} {es ns : List (List A)} {olds news : List Value} {z : Array Value} (hes : ∀ x ∈ es, x.length = sz) (hns : ∀ x ∈ ns, x.length = sz) (hol : olds.length = es.length * sz) (hnl : news.length = ns.length * sz) (hz : z.size = sz) (hcap : es.length + ns.length ≤ cap)
    (ho : ∀ i j, i < es.length → j < sz → VRel O w (olds.getD (i * sz + j) undef) ((es.getD i []).getD j .undef)) (hn : ∀ i j, i < ns.length → j < sz → VRel O w (news.getD (i * sz + j) undef) ((ns.getD i []).getD j .undef)) :
    (olds.toArray ++ news.toArray ++ Builtin.zeroCells z (cap - (es.length + ns.length))).size = cap * sz ∧ Held O w (olds.toArray ++ news.toArray ++ Builtin.zeroCells z (cap - (es.length + ns.length))) sz (es ++ ns) := by
  refine ⟨?_, fun x hx => (List.mem_append.1 hx).elim (hes x) (hns x), fun i j hi hj => ?_⟩
  · simp only [Array.size_append, List.size_toArray, hol, hnl, size_zeroCells, hz]
    rw [← Nat.add_mul, ← Nat.add_mul]; congr 1; omega
  · rw [List.length_append] at hi
    by_cases hil : i < es.length
    · have hlt : i * sz + j < es.length * sz := by
        have : (i + 1) * sz ≤ es.length * sz := Nat.mul_le_mul_right _ hil
        rw [Nat.add_mul] at this; omega
      refine ⟨olds.getD (i * sz + j) undef, ?_, ?_⟩
      · rw [Array.append_assoc, Array.getElem?_append_left (by simp; omega)]
        simp [List.getD_eq_getElem?_getD, show i * sz + j < olds.length from by omega]
      · have e1 : (es ++ ns).getD i [] = es.getD i [] := by
          simp only [List.getD_eq_getElem?_getD]; rw [List.getElem?_append_left hil]
        rw [e1]; exact ho i j hil hj
    · obtain ⟨i', rfl⟩ : ∃ i', i = es.length + i' := ⟨i - es.length, by omega⟩
      have hi' : i' < ns.length := by omega
      have hlt : i' * sz + j < ns.length * sz := by
        have : (i' + 1) * sz ≤ ns.length * sz := Nat.mul_le_mul_right _ hi'
        rw [Nat.add_mul] at this; omega
      have hidx : (es.length + i') * sz + j = es.length * sz + (i' * sz + j) := by rw [Nat.add_mul]; omega
      refine ⟨news.getD (i' * sz + j) undef, ?_, ?_⟩
      · rw [hidx, Array.append_assoc, Array.getElem?_append_right (by simp; omega), Array.getElem?_append_left (by simp; omega)]
        have : es.length * sz + (i' * sz + j) - olds.toArray.size = i' * sz + j := by simp; omega
        rw [this]
        simp [List.getD_eq_getElem?_getD, show i' * sz + j < news.length from by omega]
      · have e1 : (es ++ ns).getD (es.length + i') [] = ns.getD i' [] := by
          simp only [List.getD_eq_getElem?_getD]; rw [List.getElem?_append_right (by omega), Nat.add_sub_cancel_left]
        rw [e1]; exact hn i' j hi' hj

theorem drew_cell (w : World) (b k : Nat) : w.drew.cell? (at' b k) = w.cell? (at' b k) := rfl

/-- append: from what the two operands are -/
theorem append_core {c : Call} {s y : Operand} {t u e : Nat} {te tu : TI} {ti : TI} (hC : TOk P C) (hS : Sim V0 O0 w0 O m st a w) {d : Tmp} (hd : o.dst = some d) (ho : o.op = .call c) (hcal : c.callee = .builtin .append) (hargs : c.args = #[s, y]) (hty : c.argTypes.toList = [t, u])
    (ht : C.T t = some ti) (hte : ti.d = .slice e) (hte' : C.T e = some te) (htu : C.T u = some tu) (hsl : isSlStr tu.d = true) {frz : Bool} {l l' : Sl} {ns : List (List A)} {news : List Value} {del : List Nat}
    (hsrc : Src P O w te.cs.length (a.eval y) ns news) (h0 : 0 < te.cs.length) (hb : (l.es.length + ns.length) * (te.bytes + 1) ≤ 140737488355328) (hfresh : Fresh st (b2 d))
    (hel : l'.es = l.es ++ ns) (hls : l.sz = te.cs.length) (hls' : l'.sz = te.cs.length)
    (hx : (True ∧ l.es = [] ∧ a.eval s = .slice none 0 0) ∨ (True ∧ ∃ q g cap cur, del = [q] ∧ aget st.objs q = some (.arr e frz l) ∧ m q = .slice (some (at' g 0)) l.es.length cap ∧ a.eval s = .slice (some (at' g 0)) l.es.length cap ∧ RowAt w g cur e)) :
    ∀ (next : Act → World → Prop) (Q : Exit → Act → World → Prop), (∀ O' m' a' w', Sim V0 O0 w0 O' m' { tmps := st.tmps.set d (.own (b2 d)), objs := setAll (delAll st.objs del) [(b2 d, .arr e frz l')] } a' w' → next a' w') → o.wp P a w next Q := by
  intro next Q hn
  have hat : c.argTypes = #[t, u] := by
    have := congrArg List.toArray hty
    simpa using this
  have hu := (hC.is ht).d
  rw [hte] at hu
  have hu2 := (hC.is htu).d
  have hT := hC.is hte'
  obtain ⟨i, z, g1, g2, g3, g4, g5, g6⟩ := hT.i
  have hzs : z.cells.size = te.cs.length := by
    rw [← Array.length_toList]; exact (zeroFits_rel (O := O) (objs := []) (m := fun _ => undef) (w := w) _ _ g5).1
  have hbb : (l.es.length + ns.length) * te.bytes ≤ 140737488355328 ∧ l.es.length + ns.length ≤ 140737488355328 := by
    rw [Nat.mul_add, Nat.mul_one] at hb; omega
  have hexec : ∀ v w', (Builtin.append_ #[t, u] o.type #[a.eval s, a.eval y]).run P w = .ok v w' → (execOp a.eval o).run P w = .ok (.value v) w' := by
    intro v w' h
    simp only [execOp, ho, resolve, hcal, hargs, hat, Sem.run_bind, Sem.run_pure, Result.andThen_ok, invoke, builtin]
    have : (#[s, y].map a.eval) = #[a.eval s, a.eval y] := by simp
    rw [this, h]; rfl
  have hlen := hsrc.len w
  have hcells := hsrc.cells w (fun _ _ _ h => h)
  have hcells' := hsrc.cells w.drew (fun _ _ _ h => h)
  rcases hx with ⟨_, hes, hsv⟩ | ⟨_, q, g, cap, cur, hdel, hq, hmq, hsv, hg⟩
  · rw [hes] at hel hbb
    simp only [List.nil_append] at hel
    simp only [List.length_nil, Nat.zero_add] at hbb
    by_cases hn0 : ns.length = 0
    · have hns : ns = [] := List.eq_nil_of_length_eq_zero hn0
      have := run_append_in (P := P) (w := w) (w' := w) (t := t) (u := u) (ty := o.type) (base := none) (sLen := 0) (sCap := 0) (news := news) hu hu2 hsl g1 hlen (by rw [g2]; exact hcells) (by simp [hn0]) rfl
      rw [← hsv, hn0] at this
      unfold Oper.wp
      rw [hexec _ _ this, Oper.upon_value, hd]
      obtain ⟨t', xs'⟩ := l'
      have hxs : xs' = [] := xs_nil (l := ⟨t', xs'⟩) (by rw [hel, hns])
      subst hxs
      obtain ⟨O', m', h⟩ := nilRow_sim hS (d := d) (e := e) (t := t') (frz := frz) (del := del) hfresh
      exact hn O' m' _ _ h
    · have := run_append_out (P := P) (w := w) (t := t) (u := u) (ty := o.type) (base := none) (sLen := 0) (sCap := 0) (olds := []) (news := news) hu hu2 hsl g1 g4 hlen rfl (by rw [g2]; exact hcells') (by omega) (by rw [g3]; simpa using hbb.1) (.inr (by have := hbb.2; omega))
      rw [← hsv] at this
      unfold Oper.wp
      rw [hexec _ _ this, Oper.upon_value, hd]
      have hge := grownCap_ge w (0 + ns.length) 0 e
      obtain ⟨k1, k2⟩ := held_grown (O := O) (w := w) (cap := grownCap w (0 + ns.length) 0 e) (z := z.cells) (es := []) (olds := []) (by simp) hsrc.each (by simp) hsrc.size hzs (by simpa using hge) (fun i j hi => by simp at hi) hsrc.rel
      obtain ⟨O', m', h⟩ := newRow_sim hS (Moves.drew _ _ w) rfl (d := d) (e := e) (cap := grownCap w (0 + ns.length) 0 e) (frz := frz) (l := l') (del := del) (by rw [hel]; simpa using hge) (grownCap_le_maxLen w _ _ _ (by unfold maxLen; have := hbb.2; omega)) (by rw [hls']; exact k1) (by rw [hls', hel]; exact k2) hfresh
      refine hn O' m' _ _ ?_
      rw [hel] at h
      simpa using h
  · subst hdel
    obtain ⟨hsz, hr⟩ := hS.objs q _ hq
    rw [hls] at hsz
    obtain ⟨g', cap', cur', h2, h3, h4, h5, h6, h7, h8, h9⟩ : ∃ g' cap' cur', m q = .slice (some (at' g' 0)) l.es.length cap' ∧ RowAt w g' cur' e ∧ l.es.length ≤ cap' ∧ cap' ≤ maxLen ∧ cur'.size = cap' * te.cs.length ∧
        (∀ i j, i < l.es.length → j < te.cs.length → ∃ u, cur'[i * te.cs.length + j]? = some u ∧ VRel O w u ((l.es.getD i []).getD j .undef)) ∧ (∀ k, k < cur'.size → l.es.length * te.cs.length ≤ k → O g' k = some q) ∧ (∀ k, k < l.es.length * te.cs.length → O g' k = if frz then none else some q) := by
      rcases hr with ⟨_, _, h⟩ | ⟨_, h⟩
      · rw [hmq] at h; cases h
      · rw [hls] at h; exact h
    rw [hmq] at h2
    injection h2 with h2 _ hcc; injection h2 with h2; injection h2 with h2
    subst h2; subst hcc
    obtain ⟨h3, _⟩ := hg.inj h3
    subst h3
    by_cases hroom : l.es.length + ns.length ≤ cap
    · have hst : (storeCells ((at' g 0).add (l.es.length * i.size)) news).run P w = .ok () (w.setCells g (l.es.length * te.cs.length) news) := by
        rw [add_at, Nat.zero_add, g2]
        have hmul : (l.es.length + ns.length) * te.cs.length ≤ cap * te.cs.length := Nat.mul_le_mul_right _ hroom
        rw [Nat.add_mul] at hmul
        have := run_storeCells_cells (P := P) g (l.es.length * te.cs.length) news 0 w (fun j hj => by
          rw [hg.cell]
          rw [hsrc.size] at hj
          have hlt : l.es.length * te.cs.length + j < cur.size := by omega
          simp [hlt]) (fun j hj => by rw [hsrc.size] at hj; exact hg.frozen (by omega)) (hsrc.one h0)
        simpa using this
      have := run_append_in (P := P) (w := w) (t := t) (u := u) (ty := o.type) (base := some (at' g 0)) (sLen := l.es.length) (sCap := cap) (news := news) hu hu2 hsl g1 hlen (by rw [g2]; exact hcells) hroom hst
      rw [← hsv] at this
      unfold Oper.wp
      rw [hexec _ _ this, Oper.upon_value, hd]
      obtain ⟨O', m', h⟩ := growRow_sim hS hq hmq hg hroom hel (by rw [hls', hls]) (by rw [hls]; exact hsrc.size) (by rw [hls]; exact hsrc.each) (by rw [hls]; exact hsrc.rel) hfresh
      rw [hls] at h
      exact hn O' m' _ _ h
    · have hcur : ∀ k, k < l.es.length * te.cs.length → ∃ u, cur[k]? = some u := by
        intro k hk
        have : l.es.length * te.cs.length ≤ cap * te.cs.length := Nat.mul_le_mul_right _ h4
        exact ⟨cur[k]'(by omega), by simp [show k < cur.size from by omega]⟩
      let olds : List Value := (List.range (l.es.length * te.cs.length)).map fun k => cur.getD k undef
      have hold : (Builtin.firstCells i.size l.es.length (.slice (some (at' g 0)) l.es.length cap)).run P w.drew = .ok olds.toArray w.drew := by
        simp only [Builtin.firstCells, g2]
        exact run_loadCells (P := P) w.drew (at' g 0) (l.es.length * te.cs.length) (fun k => cur.getD k undef) (fun k hk => by
          obtain ⟨u, hu'⟩ := hcur k hk
          rw [add_at, Nat.zero_add, drew_cell, hg.cell]
          rw [Array.getD_eq_getD_getElem?, hu']; rfl)
      have := run_append_out (P := P) (w := w) (t := t) (u := u) (ty := o.type) (base := some (at' g 0)) (sLen := l.es.length) (sCap := cap) (olds := olds) (news := news) hu hu2 hsl g1 g4 hlen hold (by rw [g2]; exact hcells') (by omega) (by rw [g3]; exact hbb.1) (.inr (by have := hbb.2; omega))
      rw [← hsv] at this
      unfold Oper.wp
      rw [hexec _ _ this, Oper.upon_value, hd]
      have hge := grownCap_ge w (l.es.length + ns.length) cap e
      obtain ⟨k1, k2⟩ := held_grown (O := O) (w := w) (cap := grownCap w (l.es.length + ns.length) cap e) (z := z.cells) (es := l.es) (olds := olds) hsz hsrc.each (by simp [olds]) hsrc.size hzs hge (fun i j hi hj => by
        obtain ⟨u, h10, h11⟩ := h7 i j hi hj
        have hlt : i * te.cs.length + j < l.es.length * te.cs.length := by
          have : (i + 1) * te.cs.length ≤ l.es.length * te.cs.length := Nat.mul_le_mul_right _ hi
          rw [Nat.add_mul] at this; omega
        have e1 : olds.getD (i * te.cs.length + j) undef = u := by
          simp [olds, List.getD_eq_getElem?_getD, hlt, h10]
        rw [e1]; exact h11) hsrc.rel
      obtain ⟨O', m', h⟩ := newRow_sim hS (Moves.drew _ _ w) rfl (d := d) (e := e) (cap := grownCap w (l.es.length + ns.length) cap e) (frz := frz) (l := l') (del := [q]) (by rw [hel, List.length_append]; exact hge) (grownCap_le_maxLen w _ _ _ (by unfold maxLen; have := hbb.2; omega)) (by rw [hls']; exact k1) (by rw [hls', hel]; exact k2) hfresh
      rw [hel, List.length_append] at h
      exact hn O' m' _ _ h
end
end Go.Proofs.YtnllccjmbijjlaaGreat.Vm

/-
  The small machine's operations against the real ones: stores; append, boxes as operations.
-/
namespace Go.Proofs.YtnllccjmbijjlaaGreat.Vm
open Classical

section
variable {P : Program} {C : Ctx} {V0 : Nat → Value} {O0 O : Own} {w0 w : World} {m : Nat → Value} {st : St} {a : Act} {o : Oper}

theorem append_good {c : Call} {s y : Operand} {t u : Nat} {tu : TI} (hC : TOk P C) (hS : Sim V0 O0 w0 O m st a w) {d : Tmp} (hd : o.dst = some d) (ho : o.op = .call c) (hcal : c.callee = .builtin .append) (hargs : c.args = #[s, y]) (hty : c.argTypes.toList = [t, u])
    (htu : C.T u = some tu) (hsl : isSlStr tu.d = true) {fet : Fet} (hf : Fet' st.objs fet) {x' y' : A} (hx : TRel O st.objs m w (a.eval s) x') (hy : TRel O st.objs m w (a.eval y) y')
    (hok : AllT (appendX C fet d t x' y').ok) (hfr : ∀ p ∈ (appendX C fet d t x' y').new, st.fresh p.1 = true) : Good P V0 O0 w0 (apply st o (appendX C fet d t x' y')) o a w := by
  intro next Q hn
  have hF : FOk O st.objs m w fet := fun q x h => ⟨hf q x h, hS.objs q x (hf q x h)⟩
  unfold appendX at *
  obtain ⟨ti, e, te, ht, hte, hd', he⟩ := elemOf_ok hok
  rw [he] at hok hfr hn; clear he
  split at hok
  · rename_i q
    obtain ⟨r, hr, he⟩ := optX_ok hok
    rw [he] at hok
    dsimp only at hfr hn
    rw [he] at hfr hn; clear he
    obtain ⟨hok1, hok2⟩ := hok.append
    obtain ⟨h1, h2⟩ := hok2.cons
    obtain ⟨h2, h3⟩ := h2.cons
    obtain ⟨h3, h4⟩ := h3.cons
    have h1 := Nat.eq_of_beq_eq_true h1
    have h2 := Nat.eq_of_beq_eq_true h2
    have h3 : 0 < te.cs.length := by rw [← h2]; simpa [Nat.blt_eq] using h3
    have h2 : r.l.t.len = te.cs.length := h2
    have h4 : (r.l.xs.length + (newsOf fet r.l.t y').2.length) * (te.bytes + 1) ≤ 140737488355328 := by simpa using h4.cons.1
    obtain ⟨news, hsrc⟩ := src_of (P := P) hF hy hok1
    have hq := arr?_some hr
    obtain ⟨hv, hO⟩ := hx.own hF hq
    have hq' := hf _ _ hq
    rw [h2] at hsrc
    refine append_core (frz := r.frz) (l := r.l) (l' := ⟨r.l.t, r.l.xs ++ (newsOf fet r.l.t y').2⟩) (del := [q]) hC hS hd ho hcal hargs hty ht hte hd' htu hsl hsrc h3 (by rw [Sl.es_length, Sl.es_length]; exact h4) (fresh_not (hfr _ List.mem_cons_self)) (Sl.es_append _ _ _) h2 h2 ?_ next Q (fun O' m' a' w' h => hn O' m' a' w' ?_)
    · rcases hO.2 with ⟨h5, h6, h7⟩ | ⟨h5, g, cap, cur, h6, h7, _⟩
      · exact .inl ⟨h5, h6, by rw [hv, h7]⟩
      · refine .inr ⟨h5, q, g, cap, cur, rfl, ?_, h6, by rw [hv, h6], ?_⟩
        · rw [hq', h1]
        · rw [h1]; exact h7
    · rw [apply_mk hd]
      rw [h1] at h; exact h
  · obtain ⟨hok1, hok2⟩ := hok.append
    obtain ⟨h3, h4⟩ := hok2.cons
    have h3 : 0 < te.cs.length := by simpa [Nat.blt_eq] using h3
    have h4 : (newsOf fet (tyl te.cs) y').2.length * (te.bytes + 1) ≤ 140737488355328 := by simpa using h4.cons.1
    obtain ⟨news, hsrc⟩ := src_of (P := P) hF hy hok1
    rw [tyl_len] at hsrc
    refine append_core (frz := false) (l := ⟨tyl te.cs, []⟩) (l' := ⟨tyl te.cs, (newsOf fet (tyl te.cs) y').2⟩) (del := []) hC hS hd ho hcal hargs hty ht hte hd' htu hsl hsrc h3 (by rw [Sl.es_nil, Sl.es_length]; simpa using h4) (fresh_not (hfr _ List.mem_cons_self)) (by rw [Sl.es_nil]; rfl) (tyl_len _) (tyl_len _) (.inl ⟨trivial, rfl, hx⟩) next Q (fun O' m' a' w' h => hn O' m' a' w' ?_)
    rw [apply_mk hd]
    exact h
  · exact (not_AllT_no hok).elim

/-! ### boxes -/
theorem boxOp_good {t : Nat} {x : Operand} (hC : TOk P C) (hS : Sim V0 O0 w0 O m st a w) {d : Tmp} (hd : o.dst = some d) (ho : o.op = .box t x) {x' : A} (hx : TRel O st.objs m w (a.eval x) x') (hids : ∀ i ∈ x'.ids, i ∈ st.ids ∨ (aget st.objs i).isSome)
    (hok : AllT (boxX C d t x').ok) (hfr : ∀ p ∈ (boxX C d t x').new, st.fresh p.1 = true) (hnd : nodup ((boxX C d t x').new.map (·.1)) = true) : Good P V0 O0 w0 (apply st o (boxX C d t x')) o a w := by
  refine box_good hC hS hx hids hd (fun ti ht hv hs => ?_) hok hfr hnd
  simp only [execOp, ho, Instr.box, newVar, newRow, Sem.run_bind]
  rfl
theorem allocOp_good {t : Nat} {ti : TI} (hC : TOk P C) (hS : Sim V0 O0 w0 O m st a w) {d : Tmp} (hd : o.dst = some d) (ho : o.op = .alloc t) (ht : C.T t = some ti)
    (hok : AllT (boxX C d t (.agg (ti.cs.map CK.zero))).ok) (hfr : ∀ p ∈ (boxX C d t (.agg (ti.cs.map CK.zero))).new, st.fresh p.1 = true) (hnd : nodup ((boxX C d t (.agg (ti.cs.map CK.zero))).new.map (·.1)) = true) :
    Good P V0 O0 w0 (apply st o (boxX C d t (.agg (ti.cs.map CK.zero)))) o a w := by
  obtain ⟨i, z, h1, h2, _, h3⟩ := zero_rel (O := O) (objs := st.objs) (m := m) (w := w) (hC.is ht)
  refine box_good (v := .agg z.cells) (x := .agg (ti.cs.map CK.zero)) hC hS ⟨z.cells, rfl, h3.1, h3.2⟩ (fun j hj => ?_) hd (fun ti ht hv hs => ?_) hok hfr hnd
  · exfalso
    have : ∀ ks : List CK, (ks.map CK.zero).flatMap A.ids1 = [] := by
      intro ks
      induction ks with
      | nil => rfl
      | cons k ks ih => rw [List.map_cons, List.flatMap_cons, ih]; cases k <;> rfl
    have hj' : j ∈ (ti.cs.map CK.zero).flatMap A.ids1 := hj
    rw [this] at hj'; cases hj'
  · simp only [execOp, ho, Instr.alloc, Sem.run_bind, zeroValue, typeInfo, run_program, Result.andThen_ok, h1, h2, Sem.run_pure, newVar, newRow]
    rfl

/-! ### stores -/
theorem storeVar_run {t : Nat} {ti : TI} (hT : TyIs P t ti) {v : Value} {b k : Nat} (hs : v.cells.size = ti.cs.length) (h1 : ∀ j, j < v.cells.size → (v.cells.getD j undef).oneCell' = true) (hc : ∀ j, j < v.cells.size → (w.cell? (at' b (k + j))).isSome = true) (hf : ∀ j, j < v.cells.size → w.frozen? (at' b (k + j)) = false) :
    (storeVar t (at' b k) v).run P w = .ok () (w.setCells b k v.cells.toList) := by
  have := run_storeCells_cells (P := P) b k v.cells.toList 0 w (fun j hj => by simpa using hc j (by simpa using hj)) (fun j hj => by simpa using hf j (by simpa using hj)) (fun u hu => by
    obtain ⟨j, hj, he⟩ := List.mem_iff_getElem.1 hu
    have := h1 j (by simpa using hj)
    rw [Array.getD_eq_getD_getElem?, Array.getElem?_eq_getElem (by simpa using hj)] at this
    rw [← he]; simpa using this)
  unfold storeVar
  simp only [Sem.run_bind, hT.runSize, Result.andThen_ok]
  rw [if_neg (by simpa using hs)]
  simpa using this

theorem storeBox_good {t : Nat} {x y : Operand} (hC : TOk P C) (hS : Sim V0 O0 w0 O m st a w) (hd : o.dst = none) (ho : o.op = .store t x y) {fet : Fet} (hf : Fet' st.objs fet) {q off : Nat} {v' : A} (hx : TRel O st.objs m w (a.eval x) (.ptr q off)) (hy : TRel O st.objs m w (a.eval y) v')
    (hids : ∀ i ∈ v'.ids, i ∈ st.ids ∨ (aget st.objs i).isSome)
    (hok : AllT (storeX C fet t (.ptr q off) v').ok) (hfr : ∀ p ∈ (storeX C fet t (.ptr q off) v').new, st.fresh p.1 = true) (hnd : nodup ((storeX C fet t (.ptr q off) v').new.map (·.1)) = true) : Good P V0 O0 w0 (apply st o (storeX C fet t (.ptr q off) v')) o a w := by
  intro next Q hn
  have hF : FOk O st.objs m w fet := fun q x h => ⟨hf q x h, hS.objs q x (hf q x h)⟩
  unfold storeX at *
  obtain ⟨ti, ht, he⟩ := tiOf_ok hok
  rw [he] at hok hfr hnd hn; clear he
  dsimp only at hok hfr hnd hn
  obtain ⟨cs, hcs, he⟩ := optX_ok hok
  rw [he] at hok hfr hnd hn; clear he
  obtain ⟨h1, h2⟩ := hok.cons
  obtain ⟨h2, h3⟩ := h2.cons
  have h2 := Nat.eq_of_beq_eq_true h2
  obtain ⟨h3, h30⟩ := h3.cons
  have h3 := Nat.le_of_ble_eq_true h3
  have h30 : 0 < ti.cs.length := by simpa [Nat.blt_eq] using h30.cons.1
  have hT := hC.is ht
  obtain ⟨b, base, g1, g2, g3⟩ := hx.ptr hF (box?_some hcs)
  have hq := hf _ _ (box?_some hcs)
  have hvc := hy.cells h1
  have hvs : v'.cells.length = ti.cs.length := h2
  have hsz : (a.eval y).cells.size = ti.cs.length := by rw [hvc.1, h2]
  have hr : (execOp a.eval o).run P w = .ok .skip (w.setCells b (base + off) (a.eval y).cells.toList) := by
    have := storeVar_run (P := P) (w := w) (b := b) (k := base + off) hT hsz (fun j hj => (hvc.2 j (by rw [← hvc.1]; exact hj)).one) (fun j hj => by
      obtain ⟨_, _, u, g4, _⟩ := g3 (off + j) (by omega)
      rw [Nat.add_assoc, g4]; rfl) (fun j hj => by
      obtain ⟨_, g4, _⟩ := g3 (off + j) (by omega)
      rw [Nat.add_assoc]; exact g4)
    simp only [execOp, ho, Instr.storeAt, Instr.sureAddr, g2, Sem.run_bind, Sem.run_pure, Result.andThen_ok, this]
  unfold Oper.wp
  rw [hr, Oper.upon_skip]
  -- the block
  obtain ⟨_, _, u0, hu0, _⟩ := g3 off (by omega)
  obtain ⟨c, e, fr, hblk⟩ : ∃ c e fr, w.heap[b]? = some (.cells c e fr) := by
    unfold World.cell? at hu0
    dsimp only at hu0
    split at hu0
    · rename_i c e fr hh; exact ⟨c, e, fr, hh⟩
    · cases hu0
  have hcell : ∀ k u, w.cell? (at' b k) = some u → c[k]? = some u := by
    intro k u hu
    simp only [World.cell?, hblk] at hu
    simpa using hu
  have hend : base + off + (a.eval y).cells.toList.length ≤ c.size := by
    rw [Array.length_toList, hsz]
    obtain ⟨_, _, u, hu, _⟩ := g3 (off + (ti.cs.length - 1)) (by omega)
    have := hcell _ _ hu
    have := (Array.getElem?_eq_some_iff.1 this).1
    omega
  obtain ⟨c', k1, k2, k3, k4, k5, k6, k7, k8⟩ := setCells_heap b (a.eval y).cells.toList (base + off) w hblk hend
  rw [Array.length_toList, hsz] at k3
  have hout : ∀ k, (k < base + off ∨ base + off + ti.cs.length ≤ k) → c'[k]? = c[k]? := by
    intro k hk
    by_cases hks : k < c.size
    · have := k3 k
      rw [if_neg (by omega)] at this
      rw [getD_eq (by omega), getD_eq hks, this]
    · rw [Array.getElem?_eq_none (by omega), Array.getElem?_eq_none (by omega)]
  have hown : ∀ k, base + off ≤ k → k < base + off + ti.cs.length → O b k = some q := by
    intro k hk1 hk2
    have := (g3 (k - base) (by omega)).1
    rwa [show base + (k - base) = k from by omega] at this
  let w' := w.setCells b (base + off) (a.eval y).cells.toList
  have hM : Moves O (fun i => i = q) w w' := by
    refine Moves.row k6 k7 k8 k5 hblk k1 k4 k2 (fun k hk => hout k ?_) (.inl ⟨base + off, q, ?_, hown _ (Nat.le_refl _) (by omega), rfl⟩)
    · rcases Nat.lt_or_ge k (base + off) with h | h
      · exact .inl h
      · right
        rcases Nat.lt_or_ge k (base + off + ti.cs.length) with h' | h'
        · exact absurd rfl (hk q (hown k h h'))
        · exact h'
    · rw [Array.length_toList, hsz] at hend; omega
  have hP : Passes O O (fun i => i = q) w.heap.size := ⟨fun _ _ _ h => h, fun _ _ _ _ h _ => h⟩
  have hpr := hM.pres hP
  let ad := adopt (rowBase fet q + 1 + off) ti.cs v'.cells
  let m' : Nat → Value := fun i => if has (ad.2.map (·.1)) i then .slice none 0 0 else m i
  let Nw : Nat → Prop := fun i => ∃ p ∈ ad.2, p.1 = i
  have hNw : ∀ i, Nw i → Fresh st i := by
    rintro i ⟨p, hp, rfl⟩
    exact fresh_not (hfr p hp)
  have hm_not : ∀ i, ¬ Nw i → m' i = m i := by
    intro i hi
    refine if_neg (fun h => hi ?_)
    obtain ⟨p, hp, hpe⟩ := List.mem_map.1 (has_mem.1 h)
    exact ⟨p, hp, hpe⟩
  have hmad : ∀ p ∈ ad.2, m' p.1 = .slice none 0 0 := fun p hp => if_pos (has_mem.2 (List.mem_map.2 ⟨p, hp, rfl⟩))
  have hqN : ¬ Nw q := fun h => by rw [(hNw q h).2] at hq; cases hq
  let objs' := setAll (delAll (setAll st.objs [(q, .box (splice cs off ad.1))]) []) ad.2
  have hnewO : ∀ p ∈ ad.2, aget objs' p.1 = some p.2 := fun p hp => aget_new hnd (by exact hp)
  have hget : ∀ i z, aget objs' i = some z → (i, z) ∈ ad.2 ∨ (¬ Nw i ∧ i = q ∧ z = .box (splice cs off ad.1)) ∨ (¬ Nw i ∧ i ≠ q ∧ aget st.objs i = some z) := by
    intro i z hz
    rcases aget_apply hz with h | ⟨hno, _, h⟩
    · exact .inl h
    · have hni : ¬ Nw i := by rintro ⟨p, hp, rfl⟩; exact hno p.2 hp
      rcases h with h | ⟨hno', h⟩
      · simp only [List.mem_singleton] at h
        injection h with e1 e2
        exact .inr (.inl ⟨hni, e1, e2⟩)
      · exact .inr (.inr ⟨hni, fun hiq => hno' (.box (splice cs off ad.1)) (by rw [hiq]; exact List.mem_singleton_self _), h⟩)
  have hE : Exts st.objs m objs' m' Nw := by
    intro i z hz
    rcases hget i z hz with h | ⟨hni, h1', h2'⟩ | ⟨hni, _, h⟩
    · exact .inl ⟨_, h, rfl⟩
    · subst h1'; subst h2'
      exact .inr ⟨_, hq, rfl, hm_not _ hni⟩
    · exact .inr ⟨z, h, rfl, hm_not _ hni⟩
  have hadl : ad.1.length = ti.cs.length := by rw [(adopt_spec ti.cs v'.cells (rowBase fet q + 1 + off)).1, hvs]
  have happ : apply st o { ok := [v'.isVal, Nat.beq v'.cells.length ti.cs.length, Nat.ble (off + ti.cs.length) cs.length, Nat.blt 0 ti.cs.length], val := .undef, upd := [(q, .box (splice cs off ad.1))], new := ad.2 } = { tmps := put st.tmps none .undef, objs := objs' } := by
    unfold apply; rw [hd]
  refine hn O m' _ _ ?_
  rw [happ, hd]
  refine hS.next (st' := { tmps := put st.tmps none .undef, objs := objs' }) (d := none) (x := .undef) (T := fun i => i = q) (Nw := Nw) hM hP (fun b k _ h => h) hE (fun n hn' => (hNw n hn').both) (fun r hr => by rw [hr, hq]; rfl) (fun i z hz => ?_) rfl (fun h => absurd rfl h)
  rcases hget i z hz with h | ⟨hni, h1', h2'⟩ | ⟨hni, hiq, h⟩
  · right
    obtain ⟨⟨e', sz', h4⟩, _⟩ := (adopt_spec ti.cs v'.cells (rowBase fet q + 1 + off)).2.2 _ h
    dsimp only at h4
    subst h4
    exact ⟨⟨by simp [Sl.es], .inl ⟨trivial, rfl, hmad _ h⟩⟩, (hNw _ ⟨_, h, rfl⟩).ne⟩
  · right
    subst h1'; subst h2'
    have hcs' : CsRel O objs' m' w' (a.eval y).cells ad.1 := hvc.adopted (ks := ti.cs) (id := rowBase fet i + 1 + off) hpr hE (fun j hj r hr' hn' => by
      rcases hids r (cells_ids h1 hj hr') with hh | hh
      · exact (hNw r hn').1 hh
      · rw [(hNw r hn').2] at hh; cases hh) (fun p hp => ⟨hnewO p hp, hmad p hp⟩)
    refine ⟨⟨b, base, by rw [hm_not _ hni]; exact g1, fun j hj => ?_⟩, hS.ids _ _ hq⟩
    rw [splice_length _ _ _ (by rw [hadl]; omega)] at hj
    obtain ⟨g4, g5, u, g6, g7⟩ := g3 j hj
    refine ⟨g4, by rw [hM.frozen (cell_lt g6)]; exact g5, ?_⟩
    rw [splice_getD _ _ _ _ (by rw [hadl]; omega), hadl]
    have hcell' : ∀ k, w'.cell? (at' b k) = c'[k]? := by intro k; simp only [World.cell?]; rw [k1]; rfl
    rw [hcell']
    have hjs : base + j < c.size := (Array.getElem?_eq_some_iff.1 (hcell _ _ g6)).1
    by_cases hin : off ≤ j ∧ j < off + ti.cs.length
    · rw [if_pos hin]
      refine ⟨_, getD_eq (by omega), ?_⟩
      rw [k3, if_pos (by omega)]
      have e1 : (a.eval y).cells.toList.getD (base + j - (base + off)) undef = (a.eval y).cells.getD (j - off) undef := by
        rw [Array.getD_eq_getD_getElem?, List.getD_eq_getElem?_getD, Array.getElem?_toList, show base + j - (base + off) = j - off from by omega]
      rw [e1]
      exact hcs'.2 (j - off) (by rw [hadl]; omega)
    · rw [if_neg hin, hout _ (by omega)]
      exact ⟨u, hcell _ _ g6, g7.step hpr hE (fun r hr' hn' => (hNw r hn').1 (mem_ids_objs hq (mem_flat hj hr')))⟩
  · exact .inl ⟨hiq, h, hm_not _ hni⟩
end
end Go.Proofs.YtnllccjmbijjlaaGreat.Vm

/-
  The small machine's operations against the real ones: a store into a row of the call's own.
-/
namespace Go.Proofs.YtnllccjmbijjlaaGreat.Vm
open Classical

section
variable {P : Program} {C : Ctx} {V0 : Nat → Value} {O0 O : Own} {w0 w : World} {m : Nat → Value} {st : St} {a : Act} {o : Oper}

theorem splice_getD' (l : List A) (off : Nat) (vs : List A) (i : Nat) (h : off + vs.length ≤ l.length) : (splice l off vs).getD i .undef = if off ≤ i ∧ i < off + vs.length then vs.getD (i - off) .undef else l.getD i .undef := splice_getD l off vs i h

/-- cells of one element of a row set anew: what the row holds then -/
theorem storeRow_sim (hS : Sim V0 O0 w0 O m st a w) {q e g cap i off : Nat} {l l' : Sl} {cur : Array Value} {vs : List Value} {xs : List A}
    (hq : aget st.objs q = some (.arr e false l)) (hm : m q = .slice (some (at' g 0)) l.es.length cap) (hg : RowAt w g cur e) (hi : i < l.es.length) (hel : l'.es = l.es.set i (splice (l.es.getD i []) off xs)) (hls : l'.sz = l.sz) (hle : off + xs.length ≤ l.sz) (hl : vs.length = xs.length) (h0 : 0 < xs.length)
    (hv : ∀ j, j < xs.length → VRel O w (vs.getD j undef) (xs.getD j .undef)) :
    Sim V0 O0 w0 O m { st with objs := aset st.objs q (.arr e false l') } a (w.setCells g (i * l.sz + off) vs) := by
  obtain ⟨hsz, hr⟩ := hS.objs q _ hq
  obtain ⟨g', cap', cur', h2, h3, h4, h5, h6, h7, h8, h9⟩ : ∃ g' cap' cur', m q = .slice (some (at' g' 0)) l.es.length cap' ∧ RowAt w g' cur' e ∧ l.es.length ≤ cap' ∧ cap' ≤ maxLen ∧ cur'.size = cap' * l.sz ∧
      (∀ i j, i < l.es.length → j < l.sz → ∃ u, cur'[i * l.sz + j]? = some u ∧ VRel O w u ((l.es.getD i []).getD j .undef)) ∧ (∀ k, k < cur'.size → l.es.length * l.sz ≤ k → O g' k = some q) ∧ (∀ k, k < l.es.length * l.sz → O g' k = if false then none else some q) := by
    rcases hr with ⟨_, _, h⟩ | ⟨_, h⟩
    · rw [hm] at h; cases h
    · exact h
  rw [hm] at h2
  injection h2 with h2 _ hcc; injection h2 with h2; injection h2 with h2
  subst h2; subst hcc
  obtain ⟨h3, _⟩ := hg.inj h3
  subst h3
  obtain ⟨fr, hg, hfr0⟩ := hg
  have hmul : l.es.length * l.sz ≤ cap * l.sz := Nat.mul_le_mul_right _ h4
  have hrow : i * l.sz + off + xs.length ≤ l.es.length * l.sz := by
    have : (i + 1) * l.sz ≤ l.es.length * l.sz := Nat.mul_le_mul_right _ hi
    rw [Nat.add_mul] at this; omega
  obtain ⟨c', k1, k2, k3, k4, k5, k6, k7, k8⟩ := setCells_heap g vs (i * l.sz + off) w hg (by rw [hl]; omega)
  rw [hl] at k3
  let w' := w.setCells g (i * l.sz + off) vs
  have hout : ∀ k, (k < i * l.sz + off ∨ i * l.sz + off + xs.length ≤ k) → c'[k]? = cur[k]? := by
    intro k hk
    by_cases hks : k < cur.size
    · have := k3 k
      rw [if_neg (by omega)] at this
      rw [getD_eq (by omega), getD_eq hks, this]
    · rw [Array.getElem?_eq_none (by omega), Array.getElem?_eq_none (by omega)]
  have hown : ∀ k, k < l.es.length * l.sz → O g k = some q := by intro k hk; simpa using h9 k hk
  have hM : Moves O (fun i => i = q) w w' := by
    refine Moves.row k6 k7 k8 k5 hg k1 k4 k2 (fun k hk => hout k ?_) (.inl ⟨i * l.sz + off, q, by omega, hown _ (by omega), rfl⟩)
    rcases Nat.lt_or_ge k (i * l.sz + off) with h | h
    · exact .inl h
    · right
      rcases Nat.lt_or_ge k (i * l.sz + off + xs.length) with h' | h'
      · exact absurd rfl (hk q (hown k (by omega)))
      · exact h'
  have hP : Passes O O (fun i => i = q) w.heap.size := ⟨fun _ _ _ h => h, fun _ _ _ _ h _ => h⟩
  have hpr := hM.pres hP
  have hei : (l.es.getD i []).length = l.sz := hsz _ (by rw [List.getD_eq_getElem?_getD, List.getElem?_eq_getElem hi]; simp)
  have hE : Exts st.objs m (aset st.objs q (.arr e false l')) m (fun _ => False) := by
    intro r y hy
    rw [aget_aset] at hy
    by_cases hrq : r = q
    · subst hrq
      rw [if_pos rfl] at hy; injection hy with hy; subst hy
      exact .inr ⟨_, hq, by simp [Obj.shp, hel, hls], rfl⟩
    · rw [if_neg hrq] at hy; exact .inr ⟨y, hy, rfl, rfl⟩
  have := hS.next (st' := { st with objs := aset st.objs q (.arr e false l') }) (d := none) (v := undef) (x := .undef) (T := fun i => i = q) (Nw := fun _ => False) hM hP (fun b k _ h => h) hE (fun _ h => h.elim) (fun r hr => by rw [hr, hq]; rfl) (fun r y hy => ?_) rfl (fun h => absurd rfl h)
  · exact this
  · rw [aget_aset] at hy
    by_cases hrq : r = q
    · right
      subst hrq
      rw [if_pos rfl] at hy; injection hy with hy; subst hy
      refine ⟨?_, hS.ids _ _ hq⟩
      simp only [ORel]
      rw [hel, hls]
      refine ⟨fun x hx => ?_, .inr ⟨trivial, g, cap, c', by rw [List.length_set]; exact hm, ⟨fr, k1, by rw [k2]; exact hfr0⟩, by rw [List.length_set]; exact h4, h5, by rw [k2]; exact h6, fun r' j hr' hj => ?_, fun k hk hge => ?_, fun k hk => ?_⟩⟩
      · rcases List.mem_or_eq_of_mem_set hx with h | h
        · exact hsz x h
        · rw [h, splice_length _ _ _ (by omega)]; exact hei
      · rw [List.length_set] at hr'
        obtain ⟨u, h10, h11⟩ := h7 r' j hr' hj
        have hlt : r' * l.sz + j < l.es.length * l.sz := by
          have : (r' + 1) * l.sz ≤ l.es.length * l.sz := Nat.mul_le_mul_right _ hr'
          rw [Nat.add_mul] at this; omega
        by_cases hri : r' = i
        · subst hri
          have e1 : (l.es.set r' (splice (l.es.getD r' []) off xs)).getD r' [] = splice (l.es.getD r' []) off xs := by
            simp [List.getD_eq_getElem?_getD, hr']
          rw [e1, splice_getD _ _ _ _ (by omega)]
          by_cases hin : off ≤ j ∧ j < off + xs.length
          · rw [if_pos hin]
            refine ⟨_, getD_eq (by omega), ?_⟩
            rw [k3, if_pos (by omega), show r' * l.sz + j - (r' * l.sz + off) = j - off from by omega]
            exact (hv (j - off) (by omega)).pres hpr
          · rw [if_neg hin, hout _ (by omega)]
            exact ⟨u, h10, h11.pres hpr⟩
        · have e1 : (l.es.set i (splice (l.es.getD i []) off xs)).getD r' [] = l.es.getD r' [] := by
            simp only [List.getD_eq_getElem?_getD, List.getElem?_set]
            rw [if_neg (fun h => hri h.symm)]
          rw [e1, hout _ ?_]
          · exact ⟨u, h10, h11.pres hpr⟩
          · rcases Nat.lt_or_gt_of_ne hri with h | h
            · left
              have : (r' + 1) * l.sz ≤ i * l.sz := Nat.mul_le_mul_right _ h
              rw [Nat.add_mul] at this; omega
            · right
              have : (i + 1) * l.sz ≤ r' * l.sz := Nat.mul_le_mul_right _ h
              rw [Nat.add_mul] at this; omega
      · rw [List.length_set] at hge; rw [k2] at hk; exact h8 k hk hge
      · rw [List.length_set] at hk; simpa using hown k hk
    · rw [if_neg hrq] at hy
      exact .inl ⟨hrq, hy, rfl⟩

theorem storeRow_good {t : Nat} {x y : Operand} (hC : TOk P C) (hS : Sim V0 O0 w0 O m st a w) (hd : o.dst = none) (ho : o.op = .store t x y) {fet : Fet} (hf : Fet' st.objs fet) {q i off : Nat} {v' : A} (hx : TRel O st.objs m w (a.eval x) (.oelt q i off)) (hy : TRel O st.objs m w (a.eval y) v')
    (hok : AllT (storeX C fet t (.oelt q i off) v').ok) : Good P V0 O0 w0 (apply st o (storeX C fet t (.oelt q i off) v')) o a w := by
  intro next Q hn
  unfold storeX at *
  obtain ⟨ti, ht, he⟩ := tiOf_ok hok
  rw [he] at hok hn; clear he
  dsimp only at hok hn
  obtain ⟨r, hr, he⟩ := optX_ok hok
  rw [he] at hok hn; clear he
  obtain ⟨hok1, hok2⟩ := hok.append
  obtain ⟨h1, h2⟩ := hok2.cons
  obtain ⟨hset, h2⟩ := h2.cons
  obtain ⟨h2, h3⟩ := h2.cons
  obtain ⟨h3, h4⟩ := h3.cons
  obtain ⟨h4, hno⟩ := h4.cons
  have hno := hno.cons.1
  have h4 : 0 < ti.cs.length := by simpa [Nat.blt_eq] using h4
  have h1 : r.frz = false := by simpa using h1
  have h2 := Nat.le_of_ble_eq_true h2
  have h3' : i < r.l.xs.length := by simpa using h3
  have h3 : i < r.l.es.length := by rw [Sl.es_length]; exact h3'
  have hT := hC.is ht
  have hval := purs_val hok1
  have hvc := hy.cells hval
  obtain ⟨g1, g2, g3, g4⟩ := purs_spec hf ti.cs v'.cells (fun j => (a.eval y).cells.getD j undef) (fun j hj => hvc.2 j hj) hok1
  obtain ⟨O1, hS1, hp1, hle1, hv1, hE1, _⟩ := hS.freezes _ g3
  have hq := hf _ _ (arr?_some hr)
  have hqU : ∀ p ∈ (purs fet ti.cs v'.cells).2.2, p.1 ≠ q := by
    intro p hp he
    have : has ((purs fet ti.cs v'.cells).2.2.map (·.1)) q = true := has_mem.2 (List.mem_map.2 ⟨p, hp, he⟩)
    rw [this] at hno; cases hno
  have hq1 : aget (setAll st.objs (purs fet ti.cs v'.cells).2.2) q = some (.arr r.e false r.l) := by
    rw [aget_setAll_not _ _ _ hqU, hq, h1]
  have hx' : CRel O st.objs m w (a.eval x) (.oelt q i off) := hx
  obtain ⟨_, hx'⟩ := hx'
  rw [hq] at hx'
  simp only [Option.map_some, Obj.shp] at hx'
  obtain ⟨g, n', cap, h5, h6⟩ := hx' h3
  obtain ⟨hsz, hr'⟩ := hS1.objs q _ hq1
  obtain ⟨cur, h7, h8⟩ : ∃ cur, m q = .slice (some (at' g 0)) r.l.es.length cap ∧ RowAt w g cur r.e ∧ cur.size = cap * r.l.sz ∧ r.l.es.length ≤ cap := by
    rcases hr' with ⟨_, h9, _⟩ | ⟨h9, g', cap', cur, h10, h11, h12, h13, h14, _⟩
    · rw [h9] at h3; simp at h3
    · have h10' := h10
      rw [h5] at h10'
      injection h10' with q1 q2 q3; injection q1 with q1; injection q1 with q1
      subst q1; subst q3
      exact ⟨cur, h10, h11, h14, h12⟩
  obtain ⟨h8, h9, h10⟩ := h8
  have hsz2 : (a.eval y).cells.size = ti.cs.length := by rw [hvc.1, g2]
  have hrow : i * r.l.sz + off + ti.cs.length ≤ cur.size := by
    have : (i + 1) * r.l.sz ≤ r.l.es.length * r.l.sz := Nat.mul_le_mul_right _ h3
    have : r.l.es.length * r.l.sz ≤ cap * r.l.sz := Nat.mul_le_mul_right _ h10
    rw [Nat.add_mul] at *; omega
  have hrun : (execOp a.eval o).run P w = .ok .skip (w.setCells g (i * r.l.sz + off) (a.eval y).cells.toList) := by
    have := storeVar_run (P := P) (w := w) (b := g) (k := i * r.l.sz + off) hT hsz2 (fun j hj => (hvc.2 j (by rw [← hvc.1]; exact hj)).one) (fun j hj => by
      have hlt : i * r.l.sz + off + j < cur.size := by omega
      rw [h8.cell]; simp [hlt]) (fun j hj => h8.frozen (by omega))
    simp only [execOp, ho, Instr.storeAt, Instr.sureAddr, h6, Sem.run_bind, Sem.run_pure, Result.andThen_ok, this]
  unfold Oper.wp
  rw [hrun, Oper.upon_skip]
  have hfin := storeRow_sim hS1 (i := i) (off := off) (vs := (a.eval y).cells.toList) (xs := (purs fet ti.cs v'.cells).2.1) hq1 h7 h8 h3 (Sl.es_set r.l h3' hset) rfl (by rw [g1]; exact h2) (by rw [Array.length_toList, hsz2, g1]) (by rw [g1]; exact h4) (fun j hj => by
    rw [g1] at hj
    have e1 : (a.eval y).cells.toList.getD j undef = (a.eval y).cells.getD j undef := by
      rw [Array.getD_eq_getD_getElem?, List.getD_eq_getElem?_getD, Array.getElem?_toList]
    rw [e1]
    exact g4 hp1 hv1 j hj)
  refine hn O1 m _ _ ?_
  have happ : apply st o { ok := (purs fet ti.cs v'.cells).1 ++ [!r.frz, (r.l.set i off (purs fet ti.cs v'.cells).2.1).1, Nat.ble (off + ti.cs.length) r.l.sz, decide (i < r.l.xs.length), Nat.blt 0 ti.cs.length, !(has ((purs fet ti.cs v'.cells).2.2.map (·.1)) q)], val := .undef, upd := (purs fet ti.cs v'.cells).2.2 ++ [(q, .arr r.e false (r.l.set i off (purs fet ti.cs v'.cells).2.1).2)] } =
      { tmps := st.tmps, objs := aset (setAll st.objs (purs fet ti.cs v'.cells).2.2) q (.arr r.e false (r.l.set i off (purs fet ti.cs v'.cells).2.1).2) } := by
    have hsa : ∀ (l : List (Nat × Obj)) (u : List (Nat × Obj)) (p : Nat × Obj), setAll l (u ++ [p]) = aset (setAll l u) p.1 p.2 := by
      intro l u p
      induction u generalizing l with
      | nil => rfl
      | cons s u ih => exact ih _
    unfold apply
    rw [hd, hsa]
    rfl
  rw [happ, hd]
  exact hfin
end
end Go.Proofs.YtnllccjmbijjlaaGreat.Vm

/-
  The small machine's operations against the real ones: a string's bytes; variables that are arrays.
-/
namespace Go.Proofs.YtnllccjmbijjlaaGreat.Vm
open Classical
open Go.Lib (bytesWorld bytesCells bytesWorld_at_old bytesWorld_at_new bytesWorld_size)

section
variable {P : Program} {C : Ctx} {V0 : Nat → Value} {O0 O : Own} {w0 w : World} {m : Nat → Value} {st : St} {a : Act} {o : Oper}

theorem bytes_moves (w : World) (e : TypeId) (s : ByteArray) : Moves O (fun _ => False) w (bytesWorld w e s) := by
  refine ⟨rfl, rfl, rfl, ?_, fun b hb => .inl (bytesWorld_at_old w e s b hb)⟩
  rw [bytesWorld_size]; omega
theorem bytes_good {s t : Nat} {x : Operand} (hC : TOk P C) (hS : Sim V0 O0 w0 O m st a w) {d : Tmp} (hd : o.dst = some d) (ho : o.op = .convert s t x) {l : List UInt8} (hx : TRel O st.objs m w (a.eval x) (.str l))
    (hok : AllT (bytesX C d s t l).ok) (hfr : ∀ p ∈ (bytesX C d s t l).new, st.fresh p.1 = true) : Good P V0 O0 w0 (apply st o (bytesX C d s t l)) o a w := by
  intro next Q hn
  unfold bytesX at *
  obtain ⟨ts, hts, he⟩ := tiOf_ok hok
  rw [he] at hok hfr hn; clear he
  obtain ⟨ti, e, te, ht, hte, hd', he⟩ := elemOf_ok hok
  rw [he] at hok hfr hn; clear he
  obtain ⟨h1, h2⟩ := hok.cons
  have h2 := h2.cons.1
  have hlen : l.length ≤ 140737488355328 := by simpa using h2
  have hde := isU8D_eq h1
  have hue := (hC.is hd').d
  rw [hde] at hue
  have hut := (hC.is ht).d
  rw [hte] at hut
  obtain ⟨b, hb, hl⟩ := hx.str
  have hbl : b.size = l.length := by rw [size_dl, hl]
  have hr : (execOp a.eval o).run P w = .ok (.value (.slice (some (at' w.heap.size 0)) b.size (grownCap w b.size 0 e))) (bytesWorld w e b) := by
    have := Go.Lib.run_convert_string_bytes (P := P) w s t e b (hC.is hts).d hut hue
    simp only [execOp, ho, hb, Sem.run_bind, this]
    rfl
  unfold Oper.wp
  rw [hr, Oper.upon_value, hd]
  have hge := grownCap_ge w b.size 0 e
  have hes : (⟨byteT, l.map (fun (b : UInt8) => ((b.toNat : Int)))⟩ : Sl).es = l.map (fun (x : UInt8) => [A.int .u8 (x.toNat : Int)]) := by
    show List.map (Ty.int IntKind.u8 Ty.nil).cells (List.map (fun (b : UInt8) => ((b.toNat : Int))) l) = _
    exact List.map_map.trans rfl
  have hesl : (⟨byteT, l.map (fun (b : UInt8) => ((b.toNat : Int)))⟩ : Sl).es.length = b.size := by rw [hes, List.length_map, hbl]
  have hcs : (bytesCells w e b).size = grownCap w b.size 0 e := by
    simp [bytesCells]
    have : b.data.size = b.size := rfl
    omega
  obtain ⟨O', m', h⟩ := newRow_sim0 hS (bytes_moves w e b) (d := d) (e := e) (cap := grownCap w b.size 0 e) (frz := false) (l := ⟨byteT, l.map (fun (b : UInt8) => ((b.toNat : Int)))⟩) (del := []) (cur := bytesCells w e b)
    ⟨_, bytesWorld_at_new w e b, .inr (Nat.le_refl _)⟩ (by rw [hesl]; exact hge) (grownCap_le_maxLen w _ _ _ (by unfold maxLen; omega)) (by rw [hcs]; show _ = _ * 1; omega) ⟨Sl.es_len _, fun i j hi hj => by
      have hj0 : j = 0 := by
        have : j < 1 := hj
        omega
      subst hj0
      rw [hesl] at hi
      have hi' : i < l.length := by omega
      have hi2 : i < b.data.toList.length := by rw [hl]; exact hi'
      refine ⟨.int .u8 (l.getD i 0).toNat, ?_, ?_⟩
      · have hlt : i < b.data.size := hi
        show (bytesCells w e b)[i * 1 + 0]? = _
        rw [Nat.mul_one, Nat.add_zero]
        unfold bytesCells
        rw [Array.getElem?_append_left (by simpa using hlt)]
        rw [Array.getElem?_map]
        have : b.data[i]? = some (l.getD i 0) := by
          rw [← Array.getElem?_toList, hl, List.getD_eq_getElem?_getD, List.getElem?_eq_getElem hi']; rfl
        rw [this]; rfl
      · rw [hes]
        have : (l.map (fun (x : UInt8) => [A.int .u8 (x.toNat : Int)])).getD i [] = [A.int .u8 ((l.getD i 0).toNat : Int)] := by
          simp [List.getD_eq_getElem?_getD, hi']
        rw [this]
        exact .int _ _⟩ (fresh_not (hfr _ List.mem_cons_self))
  rw [hesl] at h
  refine hn O' m' _ _ ?_
  rw [apply_mk hd]
  exact h

theorem conv_good {s t : Nat} {x : Operand} (hC : TOk P C) (hS : Sim V0 O0 w0 O m st a w) (ho : o.op = .convert s t x) {fet : Fet} (hf : Fet' st.objs fet) {x' : A} (hx : TRel O st.objs m w (a.eval x) x')
    (hok : AllT (convX C o fet s t x').ok) (hfr : ∀ p ∈ (convX C o fet s t x').new, st.fresh p.1 = true) : Good P V0 O0 w0 (apply st o (convX C o fet s t x')) o a w := by
  have hF : FOk O st.objs m w fet := fun q x h => ⟨hf q x h, hS.objs q x (hf q x h)⟩
  by_cases hs : ∃ l, x' = .str l
  · obtain ⟨l, rfl⟩ := hs
    unfold convX at *
    dsimp only at hok hfr ⊢
    obtain ⟨tt, htt, he⟩ := tiOf_ok hok
    rw [he] at hok hfr ⊢; clear he
    cases hb : isSliceD tt.d with
    | true =>
      rw [hb] at hok hfr
      simp only [cond_true] at hok hfr ⊢
      obtain ⟨d, hd, he⟩ := optX_ok hok
      rw [he] at hok hfr ⊢; clear he
      exact bytes_good hC hS hd ho hx hok hfr
    | false =>
      rw [hb] at hok
      simp only [cond_false] at hok ⊢
      exact (convert_pure hC hF ho hx hok).good hS
  · have e : convX C o fet s t x' = convertX C fet s t x' := by
      cases x' <;> first | rfl | exact absurd ⟨_, rfl⟩ hs
    rw [e] at hok ⊢
    exact (convert_pure hC hF ho hx hok).good hS

/-! ### arrays -/
theorem flat_at (n : Nat) (cs : List CK) {i j : Nat} (hi : i < n) (hj : j < cs.length) : ((List.replicate n cs).flatten).getD (i * cs.length + j) .oth = cs.getD j .oth := by
  induction n generalizing i with
  | zero => omega
  | succ n ih =>
    rw [List.replicate_succ, List.flatten_cons, List.getD_eq_getElem?_getD]
    cases i with
    | zero => rw [List.getElem?_append_left (by omega), Nat.zero_mul, Nat.zero_add, ← List.getD_eq_getElem?_getD]
    | succ i =>
      rw [Nat.add_mul, Nat.one_mul, List.getElem?_append_right (by omega), show i * cs.length + cs.length + j - cs.length = i * cs.length + j from by omega, ← List.getD_eq_getElem?_getD]
      exact ih (by omega)
theorem allocArr_good {t n e : Nat} {ti te : TI} (hC : TOk P C) (hS : Sim V0 O0 w0 O m st a w) {d : Tmp} (hd : o.dst = some d) (ho : o.op = .alloc t) (ht : C.T t = some ti)
    (hp : te.cs.all CK.plain = true) (h0 : 0 < te.cs.length) (hn0 : 0 < n) (hn : n ≤ 16777216) (hcs : ti.cs = (List.replicate n te.cs).flatten) (hfresh : Fresh st (b2 d)) :
    Good P V0 O0 w0 { tmps := st.tmps.set d (.oelt (b2 d) 0 0), objs := setAll (delAll st.objs []) [(b2 d, .arr t false ⟨tyl te.cs, List.replicate n (tyl te.cs).zero⟩)] } o a w := by
  intro next Q hnx
  have hT := hC.is ht
  obtain ⟨i, z, g1, g2, g3, g4, g5, g6⟩ := hT.i
  have hsz : z.cells.size = ti.cs.length := by
    rw [← Array.length_toList]; exact (zeroFits_rel (O := O) (objs := []) (m := fun _ => undef) (w := w) _ _ g5).1
  have hlen : ti.cs.length = n * te.cs.length := by rw [hcs]; simp
  have hpl : ti.cs.all CK.plain = true := by
    rw [hcs, List.all_eq_true]
    intro k hk
    obtain ⟨l, hl, hkl⟩ := List.mem_flatten.1 hk
    rw [List.eq_of_mem_replicate hl] at hkl
    exact List.all_eq_true.1 hp k hkl
  have hv := zeroFits_vrel (O := O) (w := w) _ _ g5 hpl
  have hr : (execOp a.eval o).run P w = .ok (.value (.pointer (some (at' w.heap.size 0)))) (w.alloc (.cells z.cells t)) := by
    simp only [execOp, ho, Instr.alloc, Sem.run_bind, zeroValue, typeInfo, run_program, Result.andThen_ok, g1, g4, Sem.run_pure, newVar, newRow]
    rfl
  unfold Oper.wp
  rw [hr, Oper.upon_value, hd]
  have hel : (⟨tyl te.cs, List.replicate n (tyl te.cs).zero⟩ : Sl).es = List.replicate n (te.cs.map CK.fzero) := Sl.es_replicate _ _ hp
  have hsl : (⟨tyl te.cs, List.replicate n (tyl te.cs).zero⟩ : Sl).sz = te.cs.length := tyl_len _
  obtain ⟨O', m', h⟩ := newRow_sim hS (Moves.refl _ _ w) rfl (d := d) (e := t) (cap := n) (frz := false) (l := ⟨tyl te.cs, List.replicate n (tyl te.cs).zero⟩) (cur := z.cells) (del := []) (by rw [Sl.es_length, List.length_replicate]; exact Nat.le_refl _) (by unfold maxLen; omega) (by rw [hsz, hlen, hsl])
    ⟨Sl.es_len _, fun r j hrl hj => by
      rw [hsl] at hj ⊢
      rw [Sl.es_length, List.length_replicate] at hrl
      have hlt : r * te.cs.length + j < n * te.cs.length := by
        have : (r + 1) * te.cs.length ≤ n * te.cs.length := Nat.mul_le_mul_right _ hrl
        rw [Nat.add_mul] at this; omega
      refine ⟨z.cells.toList.getD (r * te.cs.length + j) undef, ?_, ?_⟩
      · rw [List.getD_eq_getElem?_getD, Array.getElem?_toList]
        rw [Array.getElem?_eq_getElem (by omega)]; rfl
      · have := hv (r * te.cs.length + j) (by omega)
        have e1 : (ti.cs.map CK.fzero).getD (r * te.cs.length + j) .undef = (te.cs.map CK.fzero).getD j .undef := by
          have e2 : (ti.cs.map CK.fzero).getD (r * te.cs.length + j) .undef = (ti.cs.getD (r * te.cs.length + j) .oth).fzero := by
            have : r * te.cs.length + j < ti.cs.length := by omega
            simp [List.getD_eq_getElem?_getD, this]
          have e3 : (te.cs.map CK.fzero).getD j .undef = (te.cs.getD j .oth).fzero := by simp [List.getD_eq_getElem?_getD, hj]
          rw [e2, e3, hcs, flat_at n te.cs hrl hj]
        rw [e1] at this
        rw [hel]
        have e4 : (List.replicate n (te.cs.map CK.fzero)).getD r [] = te.cs.map CK.fzero := by simp [List.getD_eq_getElem?_getD, hrl]
        rw [e4]; exact this⟩ hfresh
  rw [Sl.es_length, List.length_replicate] at h
  refine hnx O' m' _ _ ?_
  by_cases hdt : d < st.tmps.length
  · -- the slot holds the address of the first element
    have hslot := h.tmps d (by simpa using hdt)
    have hself : (a.put (some d) (.slice (some (at' w.heap.size 0)) n n)).tmps.getD d undef = .slice (some (at' w.heap.size 0)) n n := by
      have hs : d < a.tmps.size := by rw [hS.size]; exact hdt
      simp [Act.put, Array.getD_eq_getD_getElem?, hs]
    have hself2 : (st.tmps.set d (.own (b2 d))).getD d .undef = .own (b2 d) := by simp [List.getD_eq_getElem?_getD, hdt]
    rw [hself, hself2] at hslot
    have hc : CRel O' (setAll (delAll st.objs []) [(b2 d, .arr t false ⟨tyl te.cs, List.replicate n (tyl te.cs).zero⟩)]) m' (w.alloc (.cells z.cells t)) (.slice (some (at' w.heap.size 0)) n n) (.own (b2 d)) := hslot
    have hg : aget (setAll (delAll st.objs []) [(b2 d, Obj.arr t false ⟨tyl te.cs, List.replicate n (tyl te.cs).zero⟩)]) (b2 d) = some (.arr t false ⟨tyl te.cs, List.replicate n (tyl te.cs).zero⟩) := by
      simp only [setAll]; rw [aget_aset, if_pos rfl]
    have hm : .slice (some (at' w.heap.size 0)) n n = m' (b2 d) := by
      have := hc.2
      rw [hg] at this
      exact this
    have hcr : CRel O' (setAll (delAll st.objs []) [(b2 d, .arr t false ⟨tyl te.cs, List.replicate n (tyl te.cs).zero⟩)]) m' (w.alloc (.cells z.cells t)) (.pointer (some (at' w.heap.size 0))) (.oelt (b2 d) 0 0) := by
      simp only [CRel, hg, Option.map_some, Obj.shp]
      exact ⟨rfl, fun _ => ⟨w.heap.size, n, n, hm.symm, by simp⟩⟩
    have hnew := h.put (some d) (x := .oelt (b2 d) 0 0) (v := .pointer (some (at' w.heap.size 0))) hcr.toT
    have e1 : put (st.tmps.set d (.own (b2 d))) (some d) (.oelt (b2 d) 0 0) = st.tmps.set d (.oelt (b2 d) 0 0) := by simp [put]
    have e2 : (a.put (some d) (.slice (some (at' w.heap.size 0)) n n)).put (some d) (.pointer (some (at' w.heap.size 0))) = a.put (some d) (.pointer (some (at' w.heap.size 0))) := by simp [Act.put]
    rw [e2] at hnew
    dsimp only at hnew
    rw [e1] at hnew
    exact hnew
  · have e1 : ∀ x, st.tmps.set d x = st.tmps := fun x => List.set_eq_of_length_le (Nat.le_of_not_lt hdt)
    have e2 : ∀ v, a.put (some d) v = a := by
      intro v
      have hs : ¬ d < a.tmps.size := by rw [hS.size]; exact hdt
      have : a.tmps.setIfInBounds d v = a.tmps := by simp [Array.setIfInBounds, hs]
      simp only [Act.put, this]
    rw [e1, e2] at h
    rw [e1, e2]
    exact h
theorem allocX_good {t : Nat} (hC : TOk P C) (hS : Sim V0 O0 w0 O m st a w) {d : Tmp} (hd : o.dst = some d) (ho : o.op = .alloc t)
    (hok : AllT (allocX C d t).ok) (hfr : ∀ p ∈ (allocX C d t).new, st.fresh p.1 = true) (hnd : nodup ((allocX C d t).new.map (·.1)) = true) : Good P V0 O0 w0 (apply st o (allocX C d t)) o a w := by
  unfold allocX at *
  obtain ⟨ti, ht, he⟩ := tiOf_ok hok
  rw [he] at hok hfr hnd ⊢; clear he
  cases ha : arr2? ti.d with
  | some p =>
    obtain ⟨n, e⟩ := p
    rw [ha] at hok hfr
    dsimp only at hok hfr ⊢
    obtain ⟨te, hte, he⟩ := tiOf_ok hok
    rw [he] at hok hfr ⊢; clear he
    obtain ⟨h1, h2⟩ := hok.cons
    obtain ⟨h2, h3⟩ := h2.cons
    obtain ⟨h3, h4⟩ := h3.cons
    obtain ⟨h4, h5⟩ := h4.cons
    have h5 := h5.cons.1
    rw [apply_mk hd]
    exact allocArr_good (n := n) (e := e) hC hS hd ho ht h1 (by simpa [Nat.blt_eq] using h2) (by simpa [Nat.blt_eq] using h3) (Nat.le_of_ble_eq_true h4) (by simpa using h5) (fresh_not (hfr _ List.mem_cons_self))
  | none =>
    rw [ha] at hok hfr hnd
    exact allocOp_good hC hS hd ho ht hok hfr hnd
end
end Go.Proofs.YtnllccjmbijjlaaGreat.Vm

/-
  The small machine's operations against the real ones: maps.
-/
namespace Go.Proofs.YtnllccjmbijjlaaGreat.Vm
open Classical MapKept

/-! ### keys -/
theorem Ty.mk2_eta {α : Type} (r : Ty) (p : Ty.pr α r.Val r) (hu : r = .nil → True) : r.mk2 (r.hd p) (r.tl p) = p := by cases r <;> rfl
theorem Ty.same_eq : ∀ (t : Ty) (a b : t.Val), t.same a b = true → a = b
  | .nil, _, _, _ => rfl
  | .bool r, a, b, h => by
    simp only [Ty.same, Bool.and_eq_true] at h
    rw [← Ty.mk2_eta r a (fun _ => trivial), ← Ty.mk2_eta r b (fun _ => trivial), eq_of_beq h.1, Ty.same_eq r _ _ h.2]
  | .int _ r, a, b, h => by
    simp only [Ty.same, Bool.and_eq_true] at h
    rw [← Ty.mk2_eta r a (fun _ => trivial), ← Ty.mk2_eta r b (fun _ => trivial), eq_of_beq h.1, Ty.same_eq r _ _ h.2]
  | .str r, a, b, h => by
    simp only [Ty.same, Bool.and_eq_true] at h
    rw [← Ty.mk2_eta r a (fun _ => trivial), ← Ty.mk2_eta r b (fun _ => trivial), eq_of_beq h.1, Ty.same_eq r _ _ h.2]
  | .sl _ _ _, _, _, h => by cases h
  | .ptr _, _, _, h => by cases h
  | .fn _, _, _, h => by cases h
  | .mp _ _ _, _, _, h => by cases h
/-- cells that are strings: are they the same? -/
def sameS : List A → List A → Bool
  | .str x :: xs, .str y :: ys => (x == y) && sameS xs ys
  | _, _ => true
def strT : Nat → Ty
  | 0 => .nil
  | n + 1 => .str (strT n)
theorem same_strT : ∀ (n : Nat) (a b : (strT n).Val), (strT n).same a b = sameS ((strT n).cells a) ((strT n).cells b) := by
  intro n
  induction n with
  | zero => intro a b; rfl
  | succ n ih => intro a b; show ((_ == _) && _) = ((_ == _) && _); rw [ih]
theorem tyl_strs (n : Nat) : tyl (List.replicate n [CK.str]).flatten = strT n := by
  induction n with
  | zero => rfl
  | succ n ih => simp only [List.replicate_succ, List.flatten_cons, List.singleton_append, tyl, strT, ih]
theorem strT_cells : ∀ (n : Nat) (a : (strT n).Val) (j : Nat), j < n → ∃ s, ((strT n).cells a).getD j .undef = .str s := by
  intro n
  induction n with
  | zero => intro a j h; omega
  | succ n ih =>
    intro a j h
    cases j with
    | zero => exact ⟨_, rfl⟩
    | succ j => exact ih _ j (by omega)

/-- the entry that is found -/
def fnd {β : Type} (t : Ty) (k : t.Val) : List MapEntry → List (t.Val × β) → Nat → Option (Nat × Value)
  | e :: es, p :: l, i => bif t.same k p.1 then some (i, e.val) else fnd t k es l (i + 1)
  | _, _, _ => none
theorem fnd_spec {β : Type} {t : Ty} {k : t.Val} : ∀ (es : List MapEntry) (l : List (t.Val × β)) (i : Nat), es.length = l.length →
    (fnd t k es l i = none ∧ mget t k l = none ∧ (∀ x, mput t k x l = l ++ [(k, x)]) ∧ mdel t k l = l) ∨
    ∃ j e p, fnd t k es l i = some (i + j, e.val) ∧ es[j]? = some e ∧ l[j]? = some p ∧ p.1 = k ∧ mget t k l = some p.2 ∧ (∀ x, mput t k x l = l.set j (p.1, x)) ∧ mdel t k l = l.eraseIdx j := by
  intro es
  induction es with
  | nil =>
    intro l i h
    cases l with
    | nil => exact .inl ⟨rfl, rfl, fun _ => rfl, rfl⟩
    | cons _ _ => cases h
  | cons e es ih =>
    intro l i h
    cases l with
    | nil => cases h
    | cons p l =>
      cases hs : t.same k p.1 with
      | true =>
        refine .inr ⟨0, e, p, by simp [fnd, hs], rfl, rfl, (Ty.same_eq _ _ _ hs).symm, by simp [mget, hs], fun x => by simp [mput, hs], by simp [mdel, hs]⟩
      | false =>
        rcases ih l (i + 1) (by simpa using h) with ⟨h1, h2, h3, h4⟩ | ⟨j, e', p', h1, h2, h3, h4, h5, h6, h7⟩
        · exact .inl ⟨by simp [fnd, hs, h1], by simp [mget, hs, h2], fun x => by simp [mput, hs, h3], by simp [mdel, hs, h4]⟩
        · exact .inr ⟨j + 1, e', p', by simp only [fnd, hs, cond_false, h1]; congr 2; omega, by simpa using h2, by simpa using h3, h4, by simp [mget, hs, h5], fun x => by simp [mput, hs, h6], by simp [mdel, hs, h7]⟩

section
variable {P : Program} {C : Ctx} {V0 : Nat → Value} {O0 O : Own} {w0 w : World} {m : Nat → Value} {st : St} {a : Act} {o : Oper}

/-- what is known of the keys of a type -/
structure KeyAt (P : Program) (O : Own) (w : World) (kt : TypeId) (t : Ty) : Prop where
  check : ∀ (e : Bool) (v : Value) (k : t.Val), DRel O w v (ofCs (t.cells k)) → (Instr.checkKey e 10000 kt v).run P w = .ok () w
  find : ∀ {β : Type} (v : Value) (k : t.Val) (es : List MapEntry) (l : List (t.Val × β)), DRel O w v (ofCs (t.cells k)) → es.length = l.length → (∀ (i : Nat) e p, es[i]? = some e → l[i]? = some p → DRel O w e.key (ofCs (t.cells p.1))) →
    (Instr.findKey kt v es).run P w = .ok (fnd t k es l 0) w
  stays : ∀ (v u : Value) (k : t.Val), DRel O w v (ofCs (t.cells k)) → DRel O w u (ofCs (t.cells k)) → (Instr.keyThatStays u v).run P w = .ok v w

theorem findNow_fnd {β : Type} {t : Ty} {k : t.Val} {d : TypeDesc} {v : Value} : ∀ (es : List MapEntry) (l : List (t.Val × β)) (i : Nat), es.length = l.length → (∀ (i : Nat) (e : MapEntry) (p : t.Val × β), es[i]? = some e → l[i]? = some p → Instr.sameNow d v e.key = some (t.same k p.1)) →
    Instr.findNow d v es i = some (fnd t k es l i) := by
  intro es
  induction es with
  | nil => intro l i h _; cases l <;> rfl
  | cons e es ih =>
    intro l i h hs
    cases l with
    | nil => cases h
    | cons p l =>
      have h0 := hs 0 e p rfl rfl
      have h1 := ih l (i + 1) (by simpa using h) (fun i e p he hp => hs (i + 1) e p (by simpa using he) (by simpa using hp))
      cases hb : t.same k p.1 with
      | true => rw [hb] at h0; simp [Instr.findNow, h0, fnd, hb]
      | false => rw [hb] at h0; simp [Instr.findNow, h0, fnd, hb, h1]
theorem asking_fnd {β : Type} {t : Ty} {k : t.Val} {kt : TypeId} {v : Value} : ∀ (es : List MapEntry) (l : List (t.Val × β)) (i : Nat), es.length = l.length → (∀ (i : Nat) (e : MapEntry) (p : t.Val × β), es[i]? = some e → l[i]? = some p → (Op.equal kt v e.key).run P w = .ok (t.same k p.1) w) →
    (Instr.findAsking kt v es i).run P w = .ok (fnd t k es l i) w := by
  intro es
  induction es with
  | nil => intro l i h _; cases l <;> first | rfl | cases h
  | cons e es ih =>
    intro l i h hs
    cases l with
    | nil => cases h
    | cons p l =>
      have h0 := hs 0 e p rfl rfl
      have h1 := ih l (i + 1) (by simpa using h) (fun i e p he hp => hs (i + 1) e p (by simpa using he) (by simpa using hp))
      cases hb : t.same k p.1 with
      | true => rw [hb] at h0; simp [Instr.findAsking, h0, fnd, hb]
      | false => rw [hb] at h0; simp [Instr.findAsking, h0, fnd, hb, h1]

theorem bytes_of_list {a b : ByteArray} (h : a.data.toList = b.data.toList) : a = b := by
  obtain ⟨⟨x⟩⟩ := a
  obtain ⟨⟨y⟩⟩ := b
  have : x = y := h
  rw [this]
theorem beq_bytes (a b : ByteArray) : (a == b) = (a.data.toList == b.data.toList) := by
  rw [Bool.eq_iff_iff, bytes_beq, beq_iff_eq]
  exact ⟨fun h => by rw [h], bytes_of_list⟩
theorem VRel.str' {v : Value} {s : List UInt8} (h : VRel O w v (.str s)) : ∃ b : ByteArray, v = .string b ∧ b.data.toList = s := by cases h; exact ⟨_, rfl, rfl⟩
theorem VRel.int' {v : Value} {k : IntKind} {n : Int} (h : VRel O w v (.int k n)) : v = .int k n := by cases h; rfl

theorem same_str (k k' : List UInt8) : (Ty.str .nil).same k k' = (k == k') := Bool.and_true _
theorem same_int (q : IntKind) (k k' : Int) : (Ty.int q .nil).same k k' = (k == k') := Bool.and_true _
theorem sameNow_int (q : IntKind) (a b : Int) : Instr.sameNow (.int q) (.int q a) (.int q b) = some (a == b) := by simp [Instr.sameNow]
theorem keyAt_str {kt : TypeId} (hu : P.underlying kt = some .string) : KeyAt P O w kt (.str .nil) where
  check e v k h := by
    obtain ⟨b, rfl, _⟩ := VRel.str' (show VRel O w v (.str k) from h)
    exact run_checkKey hu (show IsKey .string (.string b) from trivial) e 9999
  find v k es l h hl hes := by
    obtain ⟨b, rfl, hb⟩ := VRel.str' (show VRel O w v (.str k) from h)
    have hn : Instr.findNow .string (.string b) es 0 = some (fnd (.str .nil) k es l 0) := findNow_fnd es l 0 hl fun i e p he hp => by
      obtain ⟨b', h1, h2⟩ := VRel.str' (show VRel O w e.key (.str p.1) from hes i e p he hp)
      rw [h1]
      have e1 : Instr.sameNow .string (.string b) (.string b') = some (b == b') := by simp [Instr.sameNow]
      refine e1.trans (congrArg some (Eq.trans ?_ (same_str k p.1).symm))
      rw [beq_bytes, hb, h2]
    simp [Instr.findKey, run_underlying hu, hn]
  stays v u k h h' := by
    obtain ⟨b, rfl, hb⟩ := VRel.str' (show VRel O w v (.str k) from h)
    obtain ⟨b', rfl, hb'⟩ := VRel.str' (show VRel O w u (.str k) from h')
    obtain rfl : b' = b := bytes_of_list (by rw [hb, hb'])
    have : (b' == b') = true := by rw [beq_bytes]; simp
    simp [Instr.keyThatStays, Instr.sameBits, this]
theorem keyAt_int {kt : TypeId} {q : IntKind} (hu : P.underlying kt = some (.int q)) : KeyAt P O w kt (.int q .nil) where
  check e v k h := by
    obtain rfl := VRel.int' (show VRel O w v (.int q k) from h)
    exact run_checkKey hu (show IsKey (.int q) (.int q k) from rfl) e 9999
  find v k es l h hl hes := by
    obtain rfl := VRel.int' (show VRel O w v (.int q k) from h)
    have hn : Instr.findNow (.int q) (.int q k) es 0 = some (fnd (.int q .nil) k es l 0) := findNow_fnd es l 0 hl fun i e p he hp => by
      rw [VRel.int' (show VRel O w e.key (.int q p.1) from hes i e p he hp)]
      exact (sameNow_int q k p.1).trans (congrArg some (same_int q k p.1).symm)
    simp [Instr.findKey, run_underlying hu, hn]
  stays v u k h h' := by
    obtain rfl := VRel.int' (show VRel O w v (.int q k) from h)
    obtain rfl := VRel.int' (show VRel O w u (.int q k) from h')
    have : ((k : Int) == (k : Int)) = true := by simp
    have : Instr.sameBits 10000 (.int q k) (.int q k) = true := by
      have : ∀ n : Int, Instr.sameBits 10000 (.int q n) (.int q n) = true := fun n => by simp [Instr.sameBits]
      exact this k
    simp [Instr.keyThatStays, this]

theorem ofCs_agg {cs : List A} (h : cs.length ≠ 1) : ofCs cs = .agg cs := by
  unfold ofCs
  split
  · simp at h
  · rfl
theorem items_run {e : TypeId} {d : Nat} (hue : P.underlying e = some .string) {xs ys : Array Value} {cs ds : List A} (hx : ∀ j, j < cs.length → VRel O w (xs.getD j undef) (cs.getD j .undef)) (hxs : xs.size = cs.length)
    (hy : ∀ j, j < ds.length → VRel O w (ys.getD j undef) (ds.getD j .undef)) (hys : ys.size = ds.length) (hl : cs.length = ds.length) (hc : ∀ j, j < cs.length → ∃ s, cs.getD j .undef = .str s) (hd : ∀ j, j < ds.length → ∃ s, ds.getD j .undef = .str s) :
    ∀ (n i : Nat), i + n = cs.length → (Op.eqItems (d + 1) e 1 xs ys (List.range' i n)).run P w = .ok (sameS (cs.drop i) (ds.drop i)) w := by
  intro n
  induction n with
  | zero =>
    intro i hi
    have : cs.drop i = [] := List.drop_eq_nil_of_le (by omega)
    rw [this]; rfl
  | succ n ih =>
    intro i hi
    have hi' : i < cs.length := by omega
    obtain ⟨s, hs⟩ := hc i hi'
    obtain ⟨s', hs'⟩ := hd i (by omega)
    have hx1 := hx i hi'
    have hy1 := hy i (by omega)
    rw [hs] at hx1
    rw [hs'] at hy1
    obtain ⟨b, hb1, hb2⟩ := hx1.str'
    obtain ⟨b', hb1', hb2'⟩ := hy1.str'
    have ex : xs[i]? = some (.string b) := by
      have : i < xs.size := by omega
      rw [Array.getElem?_eq_getElem this, ← hb1, Array.getD_eq_getD_getElem?, Array.getElem?_eq_getElem this]; rfl
    have ey : ys[i]? = some (.string b') := by
      have : i < ys.size := by omega
      rw [Array.getElem?_eq_getElem this, ← hb1', Array.getD_eq_getD_getElem?, Array.getElem?_eq_getElem this]; rfl
    have hpk : P.plainKey e = true := by simp [Program.plainKey, hue]
    have p1 := run_part_plain w hpk (off := i * 1) (by rw [Nat.mul_one]; exact ex)
    have p2 := run_part_plain w hpk (off := i * 1) (by rw [Nat.mul_one]; exact ey)
    have p3 := run_equalIn_string (P := P) w d e b b' hue
    have ec : cs.drop i = .str s :: cs.drop (i + 1) := by
      rw [List.drop_eq_getElem_cons hi', ← hs, List.getD_eq_getElem?_getD, List.getElem?_eq_getElem hi']; rfl
    have ed : ds.drop i = .str s' :: ds.drop (i + 1) := by
      rw [List.drop_eq_getElem_cons (by omega), ← hs', List.getD_eq_getElem?_getD, List.getElem?_eq_getElem (by omega)]; rfl
    rw [List.range'_succ, ec, ed]
    have ih' := ih (i + 1) (by omega)
    simp only [Op.eqItems, Sem.run_bind, p1, p2, p3, Result.andThen_ok]
    rw [toList_dl, toList_dl, hb2, hb2']
    cases hbb : (s == s') with
    | false => simp [sameS, hbb]
    | true => simp [sameS, hbb, ih']
theorem checkItems_run {e : TypeId} {em : Bool} {d : Nat} (hue : P.underlying e = some .string) (hsz : (sizeOf e).run P w = .ok 1 w) {xs : Array Value} {n : Nat} (hx : ∀ j, j < n → ∃ b, xs[j]? = some (.string b)) :
    ∀ (is : List Nat), (∀ i ∈ is, i < n) → (forIn is PUnit.unit fun i _ => do Instr.checkKey em (d + 1) e (← part e xs (i * (← sizeOf e))); pure (ForInStep.yield PUnit.unit)).run P w = .ok PUnit.unit w := by
  intro is
  induction is with
  | nil => intro _; simp
  | cons j is ih =>
    intro h
    obtain ⟨b, hb⟩ := hx j (h j (by simp))
    have hpk : P.plainKey e = true := by simp [Program.plainKey, hue]
    have p1 := run_part_plain w hpk (off := j * 1) (by rw [Nat.mul_one]; exact hb)
    have p2 := run_checkKey (P := P) (w := w) hue (k := .string b) trivial em d
    simp only [List.forIn_cons, Sem.run_bind, hsz, Result.andThen_ok, p1, p2, Sem.run_pure]
    exact ih (fun i hi => h i (by simp [hi]))
theorem DRel.agg' {v : Value} {cs : List A} (h : DRel O w v (.agg cs)) : ∃ vs : Array Value, v = .agg vs ∧ vs.size = cs.length ∧ ∀ j, j < cs.length → VRel O w (vs.getD j undef) (cs.getD j .undef) := h
theorem keyAt_strs {kt e : TypeId} {n : Nat} {ie : TypeInfo} (hu : P.underlying kt = some (.array n e)) (hue : P.underlying e = some .string) (hie : P.info? e = some ie) (his : ie.size = 1) (hn : 1 < n) : KeyAt P O w kt (strT n) := by
  have hlen : ∀ k : (strT n).Val, ((strT n).cells k).length = n := fun k => by
    rw [Ty.cells_length]
    have : ∀ n, (strT n).len = n := by intro n; induction n with | zero => rfl | succ n ih => simp [strT, Ty.len, ih]
    exact this n
  have hag : ∀ k : (strT n).Val, ofCs ((strT n).cells k) = .agg ((strT n).cells k) := fun k => ofCs_agg (by rw [hlen]; omega)
  have hce : P.cellsOf e = 1 := by simp [Program.cellsOf, hie, his]
  have hsz : (sizeOf e).run P w = .ok 1 w := by simp [sizeOf, typeInfo, hie, his]
  have hstr : ∀ {vs : Array Value} {k : (strT n).Val}, vs.size = n → (∀ j, j < n → VRel O w (vs.getD j undef) (((strT n).cells k).getD j .undef)) → ∀ j, j < n → ∃ b, vs[j]? = some (.string b) := by
    intro vs k hs h j hj
    obtain ⟨s, hs'⟩ := strT_cells n k j hj
    have h1 := h j hj
    rw [hs'] at h1
    obtain ⟨b, hb, _⟩ := h1.str'
    have hj' : j < vs.size := by omega
    exact ⟨b, by rw [Array.getElem?_eq_getElem hj', ← hb, Array.getD_eq_getD_getElem?, Array.getElem?_eq_getElem hj']; rfl⟩
  refine ⟨fun em v k h => ?_, fun v k es l h hl hes => ?_, fun v u k h h' => ?_⟩
  · rw [hag] at h
    obtain ⟨vs, rfl, h1, h2⟩ := h.agg'
    rw [hlen] at h1 h2
    rw [show (10000 : Nat) = 9998 + 1 + 1 from rfl, Instr.checkKey]
    simp only [Sem.run_bind, run_underlying hu, Result.andThen_ok]
    simp only [Std.Legacy.Range.forIn_eq_forIn_range', Std.Legacy.Range.size, Nat.sub_zero, Nat.add_one_sub_one, Nat.div_one]
    rw [checkItems_run (em := em) (d := 9998) hue hsz (hstr h1 h2) (List.range' 0 n) (fun i hi => by simpa using hi)]
    rfl
  · rw [hag] at h
    obtain ⟨vs, rfl, h1, h2⟩ := h.agg'
    rw [hlen] at h1 h2
    have eqs : ∀ (i : Nat) (e' : MapEntry) p, es[i]? = some e' → l[i]? = some p → (Op.equal kt (.agg vs) e'.key).run P w = .ok ((strT n).same k p.1) w := by
      intro i e' p he hp
      have h3 := hes i e' p he hp
      rw [hag] at h3
      obtain ⟨us, h4, h5, h6⟩ := h3.agg'
      rw [hlen] at h5 h6
      rw [h4]
      show (Op.equalIn 10000 kt _ _).run P w = _
      rw [show (10000 : Nat) = 9999 + 1 from rfl, run_equalIn_array w 9999 vs us hu hie, hce, List.range_eq_range', same_strT]
      have := items_run (P := P) (O := O) (w := w) (d := 9998) hue (xs := vs) (ys := us) (cs := (strT n).cells k) (ds := (strT n).cells p.1) (by rw [hlen]; exact h2) (by rw [hlen]; exact h1) (by rw [hlen]; exact h6) (by rw [hlen]; exact h5) (by rw [hlen, hlen]) (by rw [hlen]; exact strT_cells n k) (by rw [hlen]; exact strT_cells n p.1) n 0 (by rw [hlen]; omega)
      simpa using this
    have hnow : ∀ (es : List MapEntry) (i : Nat), Instr.findNow (.array n e) (.agg vs) es i = if es = [] then some none else none := by
      intro es i
      cases es with
      | nil => rfl
      | cons e' es => simp [Instr.findNow, Instr.sameNow]
    simp only [Instr.findKey, Sem.run_bind, run_underlying hu, Result.andThen_ok, hnow]
    cases es with
    | nil => cases l <;> first | simp [fnd] | cases hl
    | cons e' es =>
      rw [if_neg (by simp)]
      exact asking_fnd _ l 0 hl eqs
  · rw [hag] at h h'
    obtain ⟨vs, rfl, h1, h2⟩ := h.agg'
    obtain ⟨us, rfl, h3, h4⟩ := h'.agg'
    have e : us = vs := by
      rw [hlen] at h1 h2 h3 h4
      apply Array.ext (by omega)
      intro j hj1 hj2
      obtain ⟨s, hs⟩ := strT_cells n k j (by omega)
      have a1 := h2 j (by omega)
      have a2 := h4 j (by omega)
      rw [hs] at a1 a2
      obtain ⟨b1, e1, f1⟩ := a1.str'
      obtain ⟨b2, e2, f2⟩ := a2.str'
      rw [Array.getD_eq_getD_getElem?, Array.getElem?_eq_getElem hj2] at e1
      rw [Array.getD_eq_getD_getElem?, Array.getElem?_eq_getElem hj1] at e2
      have e1 : vs[j] = _ := e1
      have e2 : us[j] = _ := e2
      rw [e1, e2, bytes_of_list (f1.trans f2.symm)]
    subst e
    have hsb : Instr.sameBits 10000 (.agg us) (.agg us) = true := by
      show ((us.size == us.size) && (us.toList.zip us.toList).all _) = true
      rw [Bool.and_eq_true]
      refine ⟨by simp, List.all_eq_true.2 fun p hp => ?_⟩
      obtain ⟨i, hi⟩ := List.mem_iff_getElem?.1 hp
      rw [List.getElem?_zip_eq_some] at hi
      rw [hlen] at h1 h2
      have hi1 : i < us.size := by
        have := (List.getElem?_eq_some_iff.1 hi.1).1
        simpa using this
      obtain ⟨b, hb⟩ := hstr h1 h2 i (by omega)
      have q1 : p.1 = .string b := by
        have := hi.1
        rw [Array.getElem?_toList, hb] at this
        injection this with this; exact this.symm
      have q2 : p.2 = .string b := by
        have := hi.2
        rw [Array.getElem?_toList, hb] at this
        injection this with this; exact this.symm
      obtain ⟨p1, p2⟩ := p
      dsimp only at q1 q2
      subst q1; subst q2
      show (b == b) = true
      rw [beq_bytes]; simp
    simp [Instr.keyThatStays, hsb]
theorem keyOk_at (hC : TOk P C) {t : Nat} {ta : TI} (ht : C.T t = some ta) (h : keyOk C ta = true) : KeyAt P O w t (tyl ta.cs) := by
  have hT := hC.is ht
  have hu := hT.d
  have hck := hT.ck
  unfold keyOk at h
  split at h
  · rename_i hd
    rw [hd] at hu
    have : ta.cs = [.str] := by simp [ckOf, hu] at hck; exact hck.symm
    rw [this]; exact keyAt_str hu
  · rename_i q hd
    rw [hd] at hu
    have : ta.cs = [.int q] := by simp [ckOf, hu] at hck; exact hck.symm
    rw [this]; exact keyAt_int hu
  · rename_i n e hd
    rw [hd] at hu
    split at h
    · rename_i te hte
      simp only [Bool.and_eq_true, Nat.blt_eq] at h
      have hTe := hC.is hte
      have hde := isStrD_eq h.1
      have hue := hTe.d
      rw [hde] at hue
      have hcse : te.cs = [.str] := by have := hTe.ck; simp [ckOf, hue] at this; exact this.symm
      have hcs : ta.cs = (List.replicate n [CK.str]).flatten := by
        rw [show (20 : Nat) = 18 + 1 + 1 from rfl] at hck
        unfold ckOf at hck
        simp only [hu] at hck
        have he : ckOf P (18 + 1) e = some [.str] := by simp [ckOf, hue]
        rw [he] at hck
        dsimp only at hck
        cases hb : Nat.ble (n * [CK.str].length) 4096 with
        | false => rw [hb] at hck; cases hck
        | true => rw [hb] at hck; injection hck with hck; exact hck.symm
      rw [hcs, tyl_strs]
      obtain ⟨i, z, h1, h2, _⟩ := hTe.i
      exact keyAt_strs hu hue h1 (by rw [h2, hcse]; rfl) h.2
    · cases h
  · cases h
end
end Go.Proofs.YtnllccjmbijjlaaGreat.Vm

/-
  The small machine's operations against the real ones: maps, the operations.
-/
namespace Go.Proofs.YtnllccjmbijjlaaGreat.Vm
open Classical MapKept

/-- cells that hold data -/
def isData : A → Bool
  | .bool _ | .int _ _ | .str _ | .sl _ | .nilp | .fn _ | .ump _ => true
  | _ => false
theorem Ty.cells_data : ∀ (t : Ty) (v : t.Val), ∀ c ∈ t.cells v, isData c = true
  | .nil, _, c, h => by cases h
  | .bool r, v, c, h => by
    rcases List.mem_cons.1 h with rfl | h
    · rfl
    · exact Ty.cells_data r _ c h
  | .int _ r, v, c, h => by
    rcases List.mem_cons.1 h with rfl | h
    · rfl
    · exact Ty.cells_data r _ c h
  | .str r, v, c, h => by
    rcases List.mem_cons.1 h with rfl | h
    · rfl
    · exact Ty.cells_data r _ c h
  | .sl _ _ r, v, c, h => by
    rcases List.mem_cons.1 h with rfl | h
    · rfl
    · exact Ty.cells_data r _ c h
  | .ptr r, v, c, h => by
    rcases List.mem_cons.1 h with rfl | h
    · rfl
    · exact Ty.cells_data r v c h
  | .fn r, v, c, h => by
    rcases List.mem_cons.1 h with rfl | h
    · rfl
    · exact Ty.cells_data r _ c h
  | .mp _ _ r, v, c, h => by
    rcases List.mem_cons.1 h with rfl | h
    · rfl
    · exact Ty.cells_data r _ c h

section
variable {P : Program} {C : Ctx} {V0 : Nat → Value} {O0 O : Own} {w0 w : World} {m : Nat → Value} {st : St} {a : Act} {o : Oper}

theorem CRel.data {objs : List (Nat × Obj)} {v : Value} {c : A} (h : CRel O objs m w v c) (hd : isData c = true) : VRel O w v c := by
  cases c <;> first | exact h | exact h.elim | cases hd
theorem DRel.toT {objs : List (Nat × Obj)} {v : Value} {x : A} (h : DRel O w v x) : TRel O objs m w v x ∧ T1 O objs m w v x := by
  have cell : ∀ {v : Value} {x : A}, VRel O w v x → CRel O objs m w v x := fun h => by cases h <;> first | exact .bool _ | exact .int _ _ | exact .str _ | exact .nil _ | exact .nilp | exact .fn _ | exact .nilfn | (rename_i vs a1 a2 a3; exact .sl vs a1 a2 a3)
  cases x with
  | agg cs =>
    obtain ⟨vs, h1, h2, h3⟩ := h
    exact ⟨⟨vs, h1, h2, fun j hj => cell (h3 j hj)⟩, ⟨vs, h1, h2, fun j hj => cell (h3 j hj)⟩⟩
  | undef => cases h
  | nils => cases h
  | usl _ _ => cases h
  | ump _ => cases h
  | ptr _ _ => cases h
  | own _ => cases h
  | elt _ => cases h
  | oelt _ _ _ => cases h
  | tup _ => cases h
  | box _ => cases h
  | cnd _ _ => cases h
  | bool _ => exact ⟨cell h, cell h⟩
  | int _ _ => exact ⟨cell h, cell h⟩
  | str _ => exact ⟨cell h, cell h⟩
  | sl _ => exact ⟨cell h, cell h⟩
  | nilp => exact ⟨cell h, cell h⟩
  | fn _ => exact ⟨cell h, cell h⟩
theorem isOf_agg {xs : List A} (h : isOf (.agg xs) = true) : xs.length ≠ 1 := by
  intro h1
  obtain ⟨c, rfl⟩ := List.length_eq_one_iff.1 h1
  cases h
/-- data out of a value and its cells -/
theorem drel_of {O' : Own} {objs : List (Nat × Obj)} {v : Value} {x : A} {cs : List A} (ho : isOf x = true) (hv : x.isVal = true) (hx : TRel O objs m w v x) (hl : cs.length = x.cells.length)
    (hrel : ∀ j, j < cs.length → VRel O' w (v.cells.getD j undef) (cs.getD j .undef)) : DRel O' w v (ofCs cs) := by
  have one : CRel O objs m w v x → x.cells = [x] → DRel O' w v (ofCs cs) := by
    intro hc he
    rw [he] at hl
    obtain ⟨c, rfl⟩ := List.length_eq_one_iff.1 hl
    have h0 := hrel 0 (by simp)
    rw [oneCell_cells hc.one] at h0
    have h0 : VRel O' w v c := h0
    show DRel O' w v c
    cases c <;> first | exact h0 | cases h0
  cases x with
  | agg xs =>
    obtain ⟨vs, rfl, h2, h3⟩ := hx
    have hl : cs.length = xs.length := hl
    rw [ofCs_agg (by rw [hl]; exact isOf_agg ho)]
    exact ⟨vs, rfl, by rw [h2, hl], hrel⟩
  | undef => cases hv
  | tup _ => cases hv
  | usl _ _ => cases hv
  | ump _ => cases hv
  | box _ => cases hv
  | cnd _ _ => cases hv
  | _ => exact one hx rfl

theorem getMap_run {r : Nat} {es : Array MapEntry} {ck : Nat} (hb : w.heap[r]? = some (.map es ck)) : (getObj r).run P w = .ok (.map es ck) w := by simp [getObj, Sem.run, hb]
theorem setMap_run {r : Nat} {es : Array MapEntry} {ck : Nat} (x : Go.Obj) (hb : w.heap[r]? = some (.map es ck)) : (setObj r x).run P w = .ok () { w with heap := w.heap.setIfInBounds r x } := by simp [setObj, Sem.run, hb]
theorem mapOf_ok {t : Nat} {k : TI → TI → Dl} (hok : AllT (mapOf C t k).ok) : ∃ ti kt et ta tb, C.T t = some ti ∧ ti.d = .map kt et ∧ C.T kt = some ta ∧ C.T et = some tb ∧ mapOf C t k = k ta tb := by
  unfold mapOf at hok ⊢
  obtain ⟨ti, ht, he⟩ := tiOf_ok hok
  rw [he] at hok ⊢
  split at hok
  · rename_i kt et hd
    obtain ⟨ta, hta, he⟩ := tiOf_ok hok
    rw [he] at hok
    obtain ⟨tb, htb, he'⟩ := tiOf_ok hok
    exact ⟨ti, kt, et, ta, tb, ht, hd, hta, htb, he.trans he'⟩
  · exact (not_AllT_no hok).elim
/-- a key -/
theorem key_at {objs : List (Nat × Obj)} (hC : TOk P C) {kt : Nat} {ta tb : TI} (hta : C.T kt = some ta) {l : Mp} {i : A} {v : Value} (hi : TRel O objs m w v i) (hok : AllT (fitsM C ta tb l i)) :
    KeyAt P O w kt l.kt ∧ DRel O w v (ofCs (l.kt.cells (l.kt.mk i.cells).2)) ∧ oneOk tb = true ∧ l.vt = tyl tb.cs := by
  obtain ⟨h1, hok⟩ := hok.cons
  obtain ⟨h2, hok⟩ := hok.cons
  obtain ⟨h3, hok⟩ := hok.cons
  obtain ⟨h4, hok⟩ := hok.cons
  obtain ⟨h5, hok⟩ := hok.cons
  obtain ⟨h6, hok⟩ := hok.cons
  have h7 := hok.cons.1
  have h3 := of_decide_eq_true h3
  have hc := Ty.mk_cells _ _ h7
  refine ⟨by rw [h3]; exact keyOk_at hC hta h1, ?_, h2, of_decide_eq_true h4⟩
  obtain ⟨g1, g2⟩ := hi.cells h5
  refine drel_of (objs := objs) h6 h5 hi (by rw [hc]) (fun j hj => ?_)
  have hd := Ty.cells_data _ _ _ (List.getElem_mem hj)
  have e : (l.kt.cells (l.kt.mk i.cells).2).getD j .undef = (l.kt.cells (l.kt.mk i.cells).2)[j] := by
    rw [List.getD_eq_getElem?_getD, List.getElem?_eq_getElem hj]; rfl
  rw [← e] at hd
  rw [hc] at hd hj ⊢
  exact (g2 j hj).data hd
theorem zero_drel {t : Nat} {tb : TI} (hT : TyIs P t tb) (hone : oneOk tb = true) (hp : tb.cs.all CK.plain = true) : ∃ z, (zeroValue t).run P w = .ok z w ∧ DRel O w z (ofCs ((tyl tb.cs).cells (tyl tb.cs).zero)) := by
  obtain ⟨i, z, h1, h2, h3, h4, h5, h6⟩ := hT.i
  refine ⟨z, by simp [zeroValue, typeInfo, h1, h4], ?_⟩
  rw [Ty.zero_cells _ hp]
  have hv := zeroFits_vrel (O := O) (w := w) _ _ h5 hp
  have hl := (zeroFits_rel (O := O) (objs := []) (m := fun _ => undef) (w := w) _ _ h5).1
  have hone : tb.agg = !(Nat.beq tb.cs.length 1) := by simpa [oneOk] using hone
  rw [agg_isAggD, h6, nbeq] at hone
  cases z with
  | agg vs =>
    have hne : tb.cs.length ≠ 1 := by simpa [isAggV] using hone
    rw [ofCs_agg (by simpa using hne)]
    refine ⟨vs, rfl, ?_, fun j hj => ?_⟩
    · have : vs.toList.length = tb.cs.length := hl
      rw [Array.length_toList] at this; simpa using this
    · have := hv j (by simpa using hj)
      have e : (Value.agg vs).cells.toList.getD j undef = vs.getD j undef := by
        show vs.toList.getD j undef = _
        rw [Array.getD_eq_getD_getElem?, List.getD_eq_getElem?_getD, Array.getElem?_toList]
      rw [e] at this; exact this
  | _ =>
    have he : tb.cs.length = 1 := by simpa [isAggV] using hone
    obtain ⟨c, hc⟩ := List.length_eq_one_iff.1 he
    rw [hc] at hv ⊢
    have := hv 0 (by simp)
    have this : VRel O w _ c.fzero := this
    show DRel O w _ c.fzero
    cases hcz : c.fzero <;> rw [hcz] at this <;> first | exact this | cases this

theorem lookup_pure {t : Nat} {x i : Operand} {c : Bool} {objs : List (Nat × Obj)} {fet : Fet} (hC : TOk P C) (hF : FOk O objs m w fet) (ho : o.op = .lookup t x i c) {x' i' : A} (hx : TRel O objs m w (a.eval x) x') (hi : TRel O objs m w (a.eval i) i')
    (hok : AllT (lookupX C fet t c x' i').ok) : Pure P O objs m a w o (lookupX C fet t c x' i') := by
  unfold lookupX at hok ⊢
  obtain ⟨ti, kt, et, ta, tb, ht, hd, hta, htb, he⟩ := mapOf_ok hok
  rw [he] at hok ⊢; clear he
  obtain ⟨p, hp, he⟩ := optX_ok hok
  rw [he] at hok ⊢; clear he
  obtain ⟨hok1, hok2⟩ := hok.append
  have hpl := hok2.cons.1
  obtain ⟨_, hv, hM⟩ := mp_at hF hx hp
  obtain ⟨hK, hk, hone, hvt⟩ := key_at hC hta hi hok1
  obtain ⟨r, es, ck, h1, h2, h3, h4, h5⟩ := hM.lists
  have hu := (hC.is ht).d
  rw [hd] at hu
  have hfind := hK.find (a.eval i) _ es.toList p.2.l hk h4 (fun i e p he hp => (h5 i e p he hp).1)
  have hchk := hK.check es.isEmpty (a.eval i) _ hk
  obtain ⟨z, hz1, hz2⟩ := zero_drel (O := O) (w := w) (hC.is htb) hone hpl
  rw [← hvt] at hz2
  have key : ∃ u, (Instr.lookup t (a.eval x) (a.eval i) c).run P w = .ok (if c then .tuple #[u, .bool (mget p.2.kt (p.2.kt.mk i'.cells).2 p.2.l).isSome] else u) w ∧
      DRel O w u (ofCs (p.2.vt.cells ((mget p.2.kt (p.2.kt.mk i'.cells).2 p.2.l).getD p.2.vt.zero))) := by
    rw [hv, h1]
    rcases fnd_spec (k := (p.2.kt.mk i'.cells).2) es.toList p.2.l 0 h4 with ⟨f1, f2, _, _⟩ | ⟨j, e, q, f1, f2, f3, f4, f5, _, _⟩
    · refine ⟨z, ?_, by rw [f2]; exact hz2⟩
      simp [Instr.lookup, run_underlying hu, getMap_run h2, hchk, hfind, f1, hz1, f2, Result.andThen]
    · refine ⟨e.val, ?_, by rw [f5]; exact (h5 j e q f2 f3).2⟩
      simp [Instr.lookup, run_underlying hu, getMap_run h2, hchk, hfind, f1, f5, Result.andThen]
  obtain ⟨u, hrun, hu2⟩ := key
  refine ⟨⟨if c then .tuple #[u, .bool (mget p.2.kt (p.2.kt.mk i'.cells).2 p.2.l).isSome] else u, ?_, ?_⟩, rfl, rfl, rfl⟩
  · simp only [execOp, ho, Sem.run_bind, hrun, Result.andThen_ok, Sem.run_pure]
  · show TRel O objs m w _ (lookedX _ _ _)
    unfold lookedX
    cases c with
    | false => exact hu2.toT.1
    | true =>
      refine ⟨#[u, .bool (mget p.2.kt (p.2.kt.mk i'.cells).2 p.2.l).isSome], rfl, rfl, fun j hj => ?_⟩
      have hj : j < 2 := hj
      rcases (show j = 0 ∨ j = 1 by omega) with rfl | rfl
      · exact hu2.toT.2
      · exact VRel.bool _

theorem heap_set' {r : Nat} {x y : Go.Obj} (hb : w.heap[r]? = some x) : (w.heap.setIfInBounds r y)[r]? = some y ∧ ∀ b, b ≠ r → (w.heap.setIfInBounds r y)[b]? = w.heap[b]? := by
  have hlt := (Array.getElem?_eq_some_iff.1 hb).1
  refine ⟨by rw [Array.getElem?_setIfInBounds, if_pos rfl, if_pos hlt], fun b hne => by rw [Array.getElem?_setIfInBounds, if_neg (fun h => hne h.symm)]⟩

/-- a map's entries are other ones -/
theorem setMap_sim (hS : Sim V0 O0 w0 O m st a w) {q r ck ck' : Nat} {es es' : Array MapEntry} {l l' : Mp} (hq : aget st.objs q = some (.mp l)) (hm : m q = .map (some r)) (hb : w.heap[r]? = some (.map es ck)) (hO : O r 0 = some q) (hs : es'.size = l'.l.length)
    (hes : ∀ (i : Nat) (p : l'.kt.Val × l'.vt.Val), l'.l[i]? = some p → ∃ e, es'[i]? = some e ∧ DRel O w e.key (ofCs (l'.kt.cells p.1)) ∧ DRel O w e.val (ofCs (l'.vt.cells p.2))) {d : Option Tmp} {v : Value} {x : A} (hx : d ≠ none → ∀ O' objs' m' w', TRel O' objs' m' w' v x) :
    Sim V0 O0 w0 O m { tmps := put st.tmps d x, objs := aset st.objs q (.mp l') } (a.put d v) { w with heap := w.heap.setIfInBounds r (.map es' ck') } := by
  obtain ⟨hb1, hb2⟩ := heap_set' (y := .map es' ck') hb
  have hM : Moves O (fun i => i = q) w { w with heap := w.heap.setIfInBounds r (.map es' ck') } := Moves.map rfl rfl rfl (by simp) hb hb1 hb2 hO rfl
  have hP : Passes O O (fun i => i = q) w.heap.size := ⟨fun _ _ _ h => h, fun _ _ _ _ h _ => h⟩
  have hpr := hM.pres hP
  have hE : Exts st.objs m (aset st.objs q (.mp l')) m (fun _ => False) := by
    intro i y hy
    rw [aget_aset] at hy
    by_cases hi : i = q
    · rw [if_pos hi] at hy; injection hy with hy; subst hy; subst hi
      exact .inr ⟨_, hq, rfl, rfl⟩
    · rw [if_neg hi] at hy; exact .inr ⟨y, hy, rfl, rfl⟩
  refine hS.next (st' := { tmps := put st.tmps d x, objs := aset st.objs q (.mp l') }) (T := fun i => i = q) (Nw := fun _ => False) hM hP (fun b k _ h => h) hE (fun _ h => h.elim) (fun r' hr => by rw [hr, hq]; rfl) (fun i y hy => ?_) rfl (fun h => hx h _ _ _ _)
  rw [aget_aset] at hy
  by_cases hi : i = q
  · right
    rw [if_pos hi] at hy; injection hy with hy; subst hy; subst hi
    refine ⟨(⟨r, es', ck', hm, hb1, hO, hs, fun j p hp => ?_⟩ : MRel O _ i (m i) l'), hS.ids i _ hq⟩
    obtain ⟨e, k1, k2, k3⟩ := hes j p hp
    exact ⟨e, k1, k2.pres hpr, k3.pres hpr⟩
  · left
    rw [if_neg hi] at hy
    exact ⟨hi, hy, rfl⟩

theorem makeMap_good {t : Nat} {r : Option Operand} {xs : List A} (hC : TOk P C) (hS : Sim V0 O0 w0 O m st a w) {d : Nat} (hd : o.dst = some d) (ho : o.op = .makeMap t r) (hr : xs.length = r.toArray.size) (hok : AllT (makeMapX C d t xs).ok) (hfr : ∀ p ∈ (makeMapX C d t xs).new, st.fresh p.1 = true) :
    Good P V0 O0 w0 (apply st o (makeMapX C d t xs)) o a w := by
  intro next Q hn
  unfold makeMapX at *
  obtain ⟨ti, kt, et, ta, tb, ht, hd', hta, htb, he⟩ := mapOf_ok hok
  rw [he] at hok hfr hn; clear he
  have hx : xs = [] := by simpa using hok.cons.1
  subst hx
  have hr0 : r = none := by cases r with | none => rfl | some _ => simp at hr
  subst hr0
  have hfresh := fresh_not (hfr _ List.mem_cons_self)
  have hrun : (execOp a.eval o).run P w = .ok (.value (.map (some w.heap.size))) (w.alloc (.map #[] 0)) := by
    have : (Instr.makeMap t none).run P w = .ok (.map (some w.heap.size)) (w.alloc (.map #[] 0)) := rfl
    simp only [execOp, ho, Option.map_none, Sem.run_bind, this, Result.andThen_ok, Sem.run_pure]
  unfold Oper.wp
  rw [hrun, Oper.upon_value, hd]
  let id := b2 d
  let O' : Own := fun b k => if b = w.heap.size then some id else O b k
  let m' : Nat → Value := fun i => if i = id then .map (some w.heap.size) else m i
  have hlt : ∀ {b k}, b < w.heap.size → O' b k = O b k := fun hb => if_neg (Nat.ne_of_lt hb)
  have hM : Moves O (fun _ => False) w (w.alloc (.map #[] 0)) := Moves.push _
  have hP : Passes O O' (fun _ => False) w.heap.size := ⟨fun b k hb h => by rw [hlt hb]; exact h, fun b k q hb h _ => by rw [hlt hb]; exact h⟩
  let ob : Vm.Obj := .mp ⟨tyl ta.cs, tyl tb.cs, []⟩
  have hget : ∀ i y, aget (aset st.objs id ob) i = some y → (i = id ∧ y = ob) ∨ (i ≠ id ∧ aget st.objs i = some y) := by
    intro i y hy
    rw [aget_aset] at hy
    by_cases hi : i = id
    · rw [if_pos hi] at hy; injection hy with hy; exact .inl ⟨hi, hy.symm⟩
    · rw [if_neg hi] at hy; exact .inr ⟨hi, hy⟩
  have hE : Exts st.objs m (aset st.objs id ob) m' (fun i => i = id) := by
    intro i y hy
    rcases hget i y hy with ⟨h1, _⟩ | ⟨h1, h2⟩
    · exact .inl h1
    · exact .inr ⟨y, h2, rfl, if_neg h1⟩
  refine hn O' m' _ _ ?_
  have happ : ∀ ok, apply st o { ok := ok, val := .own (b2 d), new := [(b2 d, ob)] } = { tmps := put st.tmps (some d) (.own id), objs := aset st.objs id ob } := by
    intro ok; unfold apply; rw [hd]; rfl
  rw [happ]
  refine hS.next (st' := { tmps := put st.tmps (some d) (.own id), objs := aset st.objs id ob }) (x := .own id) (T := fun _ => False) (Nw := fun i => i = id) hM hP (fun b k hb h => by rw [hlt hb] at h; exact h) hE (fun n hn => by rw [hn]; exact hfresh.both) (fun _ h => h.elim) (fun i y hy => ?_) rfl (fun _ => ?_)
  · rcases hget i y hy with ⟨h1, h2⟩ | ⟨h1, h2⟩
    · right
      subst h1; subst h2
      refine ⟨(⟨w.heap.size, #[], 0, if_pos rfl, heap_new _ _, if_pos rfl, rfl, fun i p hp => by cases hp⟩ : MRel O' _ id (m' id) _), hfresh.ne⟩
    · exact .inl ⟨fun h => h, h2, if_neg h1⟩
  · refine ⟨rfl, ?_⟩
    show match (aget (aset st.objs id ob) id).map Obj.shp with | some (.arr _ _) => _ | some .mp => _ | _ => True
    rw [aget_aset, if_pos rfl]
    exact (if_pos rfl : m' id = _).symm

theorem mem_lset {α : Type} {l : List α} {j : Nat} {x : α} {i : Nat} {p : α} (h : (l.set j x)[i]? = some p) : (i = j ∧ p = x ∧ j < l.length) ∨ (i ≠ j ∧ l[i]? = some p) := by
  rw [List.getElem?_set] at h
  by_cases hi : j = i
  · rw [if_pos hi] at h
    split at h
    · injection h with h; exact .inl ⟨hi.symm, h.symm, by omega⟩
    · cases h
  · rw [if_neg hi] at h; exact .inr ⟨fun e => hi e.symm, h⟩

theorem update_good {t : Nat} {x i y : Operand} (hC : TOk P C) (hS : Sim V0 O0 w0 O m st a w) (hd : o.dst = none) (ho : o.op = .mapUpdate t x i y ∨ o.op = .insert t x i y) {fet : Fet} (hf : Fet' st.objs fet) {x' i' y' : A} (hx : TRel O st.objs m w (a.eval x) x') (hi : TRel O st.objs m w (a.eval i) i') (hy : TRel O st.objs m w (a.eval y) y')
    (hok : AllT (updateX C fet t x' i' y').ok) : Good P V0 O0 w0 (apply st o (updateX C fet t x' i' y')) o a w := by
  intro next Q hn
  have hF : FOk O st.objs m w fet := fun q x h => ⟨hf q x h, hS.objs q x (hf q x h)⟩
  unfold updateX at *
  obtain ⟨ti, kt, et, ta, tb, ht, hd', hta, htb, he⟩ := mapOf_ok hok
  rw [he] at hok hn; clear he
  obtain ⟨p, hp, he⟩ := optX_ok hok
  rw [he] at hok hn; clear he
  obtain ⟨hokA, hokB⟩ := hok.append
  have hmk := hokB.cons.1
  obtain ⟨hokA, hokP⟩ := hokA.append
  obtain ⟨hok1, hokV⟩ := hokA.append
  obtain ⟨hv1, hokV⟩ := hokV.cons
  have hv2 := hokV.cons.1
  obtain ⟨hq, hv, hM⟩ := mp_at hF hx hp
  obtain ⟨hK, hk, hone, hvt⟩ := key_at hC hta hi hok1
  obtain ⟨hyc1, hyc2⟩ := hy.cells hv1
  obtain ⟨g1, g2, g3, g4⟩ := purs_spec (O := O) (m := m) (w := w) hf tb.cs y'.cells (fun j => (a.eval y).cells.getD j undef) hyc2 hokP
  generalize hpu : purs fet tb.cs y'.cells = pu at *
  obtain ⟨O1, hS1, hp1, hle1, hv1', hE1, hk1⟩ := hS.freezes _ g3
  -- the map behind the freezing
  have hNR : NR st.objs p.1 := .of hq (fun _ _ _ h => by cases h)
  have hq1 : aget (setAll st.objs pu.2.2) p.1 = some (.mp p.2) := by
    rw [aget_setAll_not _ _ _ (fun z hz e => ?_)]
    · exact hq
    · obtain ⟨e', f', l', h1, _⟩ := g3 z hz
      rw [e] at h1; exact hNR _ _ _ h1
  obtain ⟨r, es, ck, h1, h2, h3, h4, h5⟩ := (show MRel O1 w p.1 (m p.1) p.2 from hS1.objs p.1 _ hq1).lists
  have hu := (hC.is ht).d
  rw [hd'] at hu
  have hM0 := hM.lists
  obtain ⟨r0, es0, ck0, k1, k2, k3, k4, k5⟩ := hM0
  rw [h1] at k1; injection k1 with k1; injection k1 with k1; subst k1
  rw [h2] at k2; injection k2 with k2; injection k2 with k2 k2'; subst k2; subst k2'
  have hfind := hK.find (a.eval i) _ es.toList p.2.l hk k4 (fun i e p he hp => (k5 i e p he hp).1)
  have hchk := hK.check false (a.eval i) _ hk
  have hk' : DRel O1 w (a.eval i) (ofCs (p.2.kt.cells (p.2.kt.mk i'.cells).2)) := hk.pres hp1
  have hcells := Ty.mk_cells _ _ hmk
  have hval : DRel O1 w (a.eval y) (ofCs (p.2.vt.cells (p.2.vt.mk pu.2.1).2)) := by
    rw [hcells]
    refine drel_of (objs := st.objs) hv2 hv1 hy (by rw [g1, g2]) (fun j hj => g4 hp1 hv1' j (by rw [← g1]; exact hj))
  have happ : ∀ ok l', apply st o { ok := ok, val := .undef, upd := pu.2.2 ++ [(p.1, .mp l')] } = { tmps := put st.tmps none .undef, objs := aset (setAll st.objs pu.2.2) p.1 (.mp l') } := by
    intro ok l'
    unfold apply
    rw [hd]
    have : ∀ (u : List (Nat × Vm.Obj)) (l : List (Nat × Vm.Obj)) n z, setAll l (u ++ [(n, z)]) = aset (setAll l u) n z := by
      intro u
      induction u with
      | nil => intro l n z; rfl
      | cons q u ih => intro l n z; exact ih _ _ _
    show St.mk _ (setAll (delAll (setAll st.objs (pu.2.2 ++ [(p.1, .mp l')])) []) []) = _
    rw [this]; rfl
  rcases fnd_spec (k := (p.2.kt.mk i'.cells).2) es.toList p.2.l 0 k4 with ⟨f1, _, f3, _⟩ | ⟨j, e, q, f1, f2, f3, f4, _, f6, _⟩
  · have hrun : (execOp a.eval o).run P w = .ok .skip { w with heap := w.heap.setIfInBounds r (.map (es.push { key := a.eval i, val := a.eval y, born := ck }) (ck + 1)) } := by
      have : (Instr.mapUpdate t (a.eval x) (a.eval i) (a.eval y)).run P w = .ok () { w with heap := w.heap.setIfInBounds r (.map (es.push { key := a.eval i, val := a.eval y, born := ck }) (ck + 1)) } := by
        rw [hv, h1]
        simp [Instr.mapUpdate, run_underlying hu, getMap_run h2, hchk, hfind, f1, setMap_run _ h2, Result.andThen]
      rcases ho with ho | ho <;> simp only [execOp, ho, Sem.run_bind, this, Result.andThen_ok, Sem.run_pure]
    unfold Oper.wp
    rw [hrun, Oper.upon_skip, hd]
    refine hn O1 m _ _ ?_
    rw [happ]
    refine setMap_sim hS1 (d := none) (v := undef) hq1 h1 h2 h3 (by rw [f3, Array.size_push, List.length_append, ← k4, Array.length_toList]; rfl) (fun i0 p0 hp0 => ?_) (fun h => absurd rfl h)
    have hp0 : (mput p.2.kt (p.2.kt.mk i'.cells).2 (p.2.vt.mk pu.2.1).2 p.2.l)[i0]? = some p0 := hp0
    rw [f3] at hp0
    have hsz : es.size = p.2.l.length := by rw [← k4, Array.length_toList]
    rcases Nat.lt_or_ge i0 p.2.l.length with hlt | hge
    · rw [List.getElem?_append_left hlt] at hp0
      have hlt' : i0 < es.size := by omega
      have hes : es.toList[i0]? = some es[i0] := by rw [Array.getElem?_toList, Array.getElem?_eq_getElem hlt']
      refine ⟨es[i0], by rw [Array.getElem?_push, if_neg (by omega), Array.getElem?_eq_getElem hlt'], h5 i0 _ p0 hes hp0⟩
    · rw [List.getElem?_append_right hge] at hp0
      have h0 : i0 - p.2.l.length = 0 := by
        rcases Nat.eq_zero_or_pos (i0 - p.2.l.length) with h | h
        · exact h
        · rw [List.getElem?_eq_none (by show 1 ≤ _; omega)] at hp0; cases hp0
      rw [h0] at hp0
      injection hp0 with hp0
      subst hp0
      exact ⟨_, by rw [Array.getElem?_push, if_pos (by omega)], hk', hval⟩
  · have hstay := hK.stays (a.eval i) e.key _ hk (by rw [← f4]; exact (k5 j e q f2 f3).1)
    have f2' : es[j]? = some e := by rw [← Array.getElem?_toList]; exact f2
    have hrun : (execOp a.eval o).run P w = .ok .skip { w with heap := w.heap.setIfInBounds r (.map (es.modify j fun e => { e with key := a.eval i, val := a.eval y }) ck) } := by
      have : (Instr.mapUpdate t (a.eval x) (a.eval i) (a.eval y)).run P w = .ok () { w with heap := w.heap.setIfInBounds r (.map (es.modify j fun e => { e with key := a.eval i, val := a.eval y }) ck) } := by
        rw [hv, h1]
        simp [Instr.mapUpdate, run_underlying hu, getMap_run h2, hchk, hfind, f1, f2', hstay, setMap_run _ h2, Result.andThen]
      rcases ho with ho | ho <;> simp only [execOp, ho, Sem.run_bind, this, Result.andThen_ok, Sem.run_pure]
    unfold Oper.wp
    rw [hrun, Oper.upon_skip, hd]
    refine hn O1 m _ _ ?_
    rw [happ]
    refine setMap_sim hS1 (d := none) (v := undef) hq1 h1 h2 h3 (by rw [f6, Array.size_modify, List.length_set, ← k4, Array.length_toList]) (fun i0 p0 hp0 => ?_) (fun h => absurd rfl h)
    have hp0 : (mput p.2.kt (p.2.kt.mk i'.cells).2 (p.2.vt.mk pu.2.1).2 p.2.l)[i0]? = some p0 := hp0
    rw [f6] at hp0
    rcases mem_lset hp0 with ⟨q1, q2, _⟩ | ⟨q1, q2⟩
    · subst q1; subst q2
      refine ⟨_, by rw [Array.getElem?_modify, if_pos rfl, f2']; rfl, ?_, hval⟩
      dsimp only
      rw [f4]; exact hk'
    · have hlt : i0 < es.size := by
        have := (List.getElem?_eq_some_iff.1 q2).1
        rw [← k4, Array.length_toList] at this; exact this
      have hes : es.toList[i0]? = some es[i0] := by rw [Array.getElem?_toList, Array.getElem?_eq_getElem hlt]
      exact ⟨es[i0], by rw [Array.getElem?_modify, if_neg (fun h => q1 h.symm), Array.getElem?_eq_getElem hlt], h5 i0 _ p0 hes q2⟩

theorem delete_good {t : Nat} {x i : Operand} {c : Call} (hC : TOk P C) (hS : Sim V0 O0 w0 O m st a w) (ho : o.op = .call c) (hcal : c.callee = .builtin .delete) (hargs : c.args = #[x, i]) {ts : List Nat} (hts : c.argTypes.toList = t :: ts) {fet : Fet} (hf : Fet' st.objs fet) {x' i' : A} (hx : TRel O st.objs m w (a.eval x) x') (hi : TRel O st.objs m w (a.eval i) i')
    (hok : AllT (deleteX C fet t x' i').ok) : Good P V0 O0 w0 (apply st o (deleteX C fet t x' i')) o a w := by
  intro next Q hn
  have hF : FOk O st.objs m w fet := fun q x h => ⟨hf q x h, hS.objs q x (hf q x h)⟩
  unfold deleteX at *
  obtain ⟨ti, kt, et, ta, tb, ht, hd', hta, htb, he⟩ := mapOf_ok hok
  rw [he] at hok hn; clear he
  obtain ⟨p, hp, he⟩ := optX_ok hok
  rw [he] at hok hn; clear he
  obtain ⟨hq, hv, hM⟩ := mp_at hF hx hp
  obtain ⟨hK, hk, hone, hvt⟩ := key_at hC hta hi hok
  obtain ⟨r, es, ck, h1, h2, h3, h4, h5⟩ := hM.lists
  have hu := (hC.is ht).d
  rw [hd'] at hu
  have hts0 : c.argTypes[0]? = some t := by rw [← Array.getElem?_toList, hts]; rfl
  have hfind := hK.find (a.eval i) _ es.toList p.2.l hk h4 (fun i e p he hp => (h5 i e p he hp).1)
  have hchk := hK.check es.isEmpty (a.eval i) _ hk
  have happ : ∀ ok l', apply st o { ok := ok, val := .tup [], upd := [(p.1, .mp l')] } = { tmps := put st.tmps o.dst (.tup []), objs := aset st.objs p.1 (.mp l') } := by
    intro ok l'; rfl
  have hT : ∀ (O' : Own) (objs' : List (Nat × Vm.Obj)) (m' : Nat → Value) (w' : World), TRel O' objs' m' w' (.tuple #[]) (.tup []) := fun _ _ _ _ => ⟨#[], rfl, rfl, fun j hj => by cases hj⟩
  have main : ∀ (es' : Array MapEntry), (Builtin.delete_ c.argTypes o.type #[a.eval x, a.eval i]).run P w = .ok (.tuple #[]) { w with heap := w.heap.setIfInBounds r (.map es' ck) } → es'.size = (mdel p.2.kt (p.2.kt.mk i'.cells).2 p.2.l).length →
      (∀ (i0 : Nat) (p0 : p.2.kt.Val × p.2.vt.Val), (mdel p.2.kt (p.2.kt.mk i'.cells).2 p.2.l)[i0]? = some p0 → ∃ e, es'[i0]? = some e ∧ DRel O w e.key (ofCs (p.2.kt.cells p0.1)) ∧ DRel O w e.val (ofCs (p.2.vt.cells p0.2))) → o.wp P a w next Q := by
    intro es' hr hs he
    have hrun : (execOp a.eval o).run P w = .ok (.value (.tuple #[])) { w with heap := w.heap.setIfInBounds r (.map es' ck) } := by
      simp [execOp, ho, resolve, hcal, hargs, invoke, builtin, hr]
    unfold Oper.wp
    rw [hrun, Oper.upon_value]
    refine hn O m _ _ ?_
    rw [happ]
    exact setMap_sim (l' := ⟨p.2.kt, p.2.vt, mdel p.2.kt (p.2.kt.mk i'.cells).2 p.2.l⟩) hS hq (by rw [← h1]) h2 h3 hs he (fun _ => hT)
  have hsz : es.size = p.2.l.length := by rw [← h4, Array.length_toList]
  rcases fnd_spec (k := (p.2.kt.mk i'.cells).2) es.toList p.2.l 0 h4 with ⟨f1, _, _, f3⟩ | ⟨j, e, q, f1, f2, f3, f4, _, _, f6⟩
  · refine main es ?_ (by rw [f3]; exact hsz) (fun i0 p0 hp0 => ?_)
    · rw [hv, h1]
      simp [Builtin.delete_, hts0, run_underlying hu, getMap_run h2, hchk, hfind, f1, setMap_run _ h2, Result.andThen]
    · rw [f3] at hp0
      have hlt : i0 < es.size := by
        have := (List.getElem?_eq_some_iff.1 hp0).1
        omega
      have hes : es.toList[i0]? = some es[i0] := by rw [Array.getElem?_toList, Array.getElem?_eq_getElem hlt]
      exact ⟨es[i0], Array.getElem?_eq_getElem hlt, h5 i0 _ p0 hes hp0⟩
  · have hj : j < es.size := by
      have := (List.getElem?_eq_some_iff.1 f2).1
      simpa using this
    have hel : (es.eraseIdxIfInBounds j).toList = es.toList.eraseIdx j := by
      unfold Array.eraseIdxIfInBounds
      rw [dif_pos hj]; simp
    refine main (es.eraseIdxIfInBounds j) ?_ ?_ (fun i0 p0 hp0 => ?_)
    · rw [hv, h1]
      simp [Builtin.delete_, hts0, run_underlying hu, getMap_run h2, hchk, hfind, f1, setMap_run _ h2, Result.andThen]
    · rw [f6, ← Array.length_toList, hel, List.length_eraseIdx, List.length_eraseIdx, h4]
    · rw [f6] at hp0
      rw [List.getElem?_eraseIdx] at hp0
      have key : ∀ i1 : Nat, p.2.l[i1]? = some p0 → (es.toList.eraseIdx j)[i0]? = es.toList[i1]? → ∃ e, (es.eraseIdxIfInBounds j)[i0]? = some e ∧ DRel O w e.key (ofCs (p.2.kt.cells p0.1)) ∧ DRel O w e.val (ofCs (p.2.vt.cells p0.2)) := by
        intro i1 hl hh
        have hlt : i1 < es.size := by
          have := (List.getElem?_eq_some_iff.1 hl).1
          omega
        have hes : es.toList[i1]? = some es[i1] := by rw [Array.getElem?_toList, Array.getElem?_eq_getElem hlt]
        exact ⟨es[i1], by rw [← Array.getElem?_toList, hel, hh, hes], h5 i1 _ p0 hes hl⟩
      split at hp0
      · rename_i hlt; exact key i0 hp0 (by rw [List.getElem?_eraseIdx, if_pos hlt])
      · rename_i hlt; exact key (i0 + 1) hp0 (by rw [List.getElem?_eraseIdx, if_neg hlt])
end
end Go.Proofs.YtnllccjmbijjlaaGreat.Vm

/-
  What goes over between a caller and a callee: relations; handing over; taking back.
-/
namespace Go.Proofs.YtnllccjmbijjlaaGreat.Vm
open Classical

/-- a cell between calls -/
def IC (O : Own) (w : World) (id : Nat) (v : Value) : A → Prop
  | .usl e l => ORel O [] (fun _ => v) w id (.arr e true l)
  | a => VRel O w v a
/-- a value between calls -/
def IR (O : Own) (w : World) (id : Nat) (v : Value) : A → Prop
  | .agg cs => ∃ vs : Array Value, v = .agg vs ∧ vs.size = cs.length ∧ ∀ j, j < cs.length → IC O w (id + 1 + j) (vs.getD j undef) (cs.getD j .undef)
  | .box cs => ∃ b base, v = .pointer (some (at' b base)) ∧ ∀ j, j < cs.length → O b (base + j) = some id ∧ w.frozen? (at' b (base + j)) = false ∧ ∃ u, w.cell? (at' b (base + j)) = some u ∧ IC O w (id + 1 + j) u (cs.getD j .undef)
  | .ump l => MRel O w id v l
  | a => IC O w id v a

section
variable {P : Program} {C : Ctx} {V0 : Nat → Value} {O0 O : Own} {w0 w : World} {m : Nat → Value} {st : St} {a : Act} {o : Oper}

theorem VRel.ic {id : Nat} {v : Value} {x : A} (h : VRel O w v x) : IC O w id v x := by cases h <;> first | exact .bool _ | exact .int _ _ | exact .str _ | exact .nil _ | exact .nilp | exact .fn _ | exact .nilfn | (rename_i vs a1 a2 a3; exact .sl vs a1 a2 a3)
/-- owners, named anew; who is not named is nobody's business -/
def relab (O : Own) (ρ : Nat → Option Nat) : Own := fun b k => match O b k with
  | none => none
  | some o => match ρ o with
    | some i => some i
    | none => some 255
theorem relab_none {ρ : Nat → Option Nat} {b k : Nat} : relab O ρ b k = none ↔ O b k = none := by
  unfold relab
  cases O b k with
  | none => simp
  | some o => cases h : ρ o <;> simp [h]
theorem relab_some {ρ : Nat → Option Nat} {b k o i : Nat} (h : O b k = some o) (hr : ρ o = some i) : relab O ρ b k = some i := by
  unfold relab; rw [h]; simp [hr]
theorem relab_pres (ρ : Nat → Option Nat) : Pres O w (relab O ρ) w := fun _ _ _ h hc => ⟨relab_none.2 h, hc⟩

theorem ORel.relab {ρ : Nat → Option Nat} {q i e : Nat} {l : Sl} {objs objs' : List (Nat × Obj)} {m m' : Nat → Value} (h : ORel O objs m w q (.arr e true l)) (hr : ρ q = some i) (hm : m' i = m q) :
    ORel (relab O ρ) objs' m' w i (.arr e true l) := by
  refine ⟨h.1, ?_⟩
  rcases h.2 with ⟨h1, h2, h3⟩ | ⟨h1, g, cap, cur, h2, h3, h4, h5, h6, h7, h8, h9⟩
  · exact .inl ⟨h1, h2, by rw [hm]; exact h3⟩
  · refine .inr ⟨h1, g, cap, cur, by rw [hm]; exact h2, h3, h4, h5, h6, fun r j hr' hj => ?_, fun k hk hge => relab_some (h8 k hk hge) hr, fun k hk => ?_⟩
    · obtain ⟨u, h10, h11⟩ := h7 r j hr' hj
      exact ⟨u, h10, h11.pres (relab_pres ρ)⟩
    · have := h9 k hk
      simp only [if_true] at this ⊢
      exact relab_none.2 this

/-- handing over cells: after the freezing (st', O), under names ρ -/
theorem handCells_spec {fet : Fet} (hf : Fet' st.objs fet) : ∀ (ks : List (Bool × CK)) (cs : List A) (id : Nat) (f : Nat → Value), (∀ j, j < cs.length → CRel O st.objs m w (f j) (cs.getD j .undef)) → AllT (handCells fet ks cs).1 →
    (handCells fet ks cs).2.1.length = ks.length ∧ cs.length = ks.length ∧ Frz st.objs (handCells fet ks cs).2.2.1 ∧ (handCells fet ks cs).2.2.2 = (namesC id ks cs).map (·.1) ∧
    ∀ {O' : Own} {objs' : List (Nat × Obj)} {ρ : Nat → Option Nat}, Pres O w O' w → (∀ p ∈ (handCells fet ks cs).2.2.1, ∀ e l, p.2 = .arr e true l → VRel O' w (m p.1) (.sl l)) →
      (∀ p ∈ (handCells fet ks cs).2.2.1, ORel O' objs' m w p.1 p.2) → (∀ p ∈ namesC id ks cs, ρ p.1 = some p.2) →
      ∀ j, j < ks.length → IC (relab O' ρ) w (id + j) (f j) ((handCells fet ks cs).2.1.getD j .undef) := by
  intro ks
  induction ks with
  | nil =>
    intro cs id f _ hok
    cases cs with
    | nil => exact ⟨rfl, rfl, (fun p hp => by simp [handCells] at hp), rfl, fun _ _ _ _ j hj => by simp at hj⟩
    | cons _ _ => have := hok false (by simp [handCells]); cases this
  | cons k ks ih =>
    intro cs id f h hok
    obtain ⟨u, k⟩ := k
    cases cs with
    | nil => have := hok false (by cases u <;> simp [handCells]); cases this
    | cons c cs =>
      have hrest := fun hok2 => ih cs (id + 1) (fun j => f (j + 1)) (fun j hj => by simpa using h (j + 1) (by simpa using hj)) hok2
      cases u with
      | false =>
        simp only [handCells] at hok ⊢
        obtain ⟨hok1, hok2⟩ := hok.append
        obtain ⟨h1, h2⟩ := pur_spec hf (h 0 (by simp)) hok1
        obtain ⟨h3, h4, h5, h6, h7⟩ := hrest hok2
        have hnames : namesC id ((false, k) :: ks) (c :: cs) = namesC (id + 1) ks cs := by cases c <;> rfl
        refine ⟨by simp [h3], by simp [h4], h1.append h5, by rw [hnames]; exact h6, fun {O' objs' ρ} hp hv hO hρ j hj => ?_⟩
        rw [hnames] at hρ
        cases j with
        | zero =>
          have hvr := (h2 hp (fun p hp => hv p (List.mem_append_left _ hp))).pres (relab_pres ρ)
          exact hvr.ic
        | succ j =>
          have := h7 hp (fun p hp => hv p (List.mem_append_right _ hp)) (fun p hp => hO p (List.mem_append_right _ hp)) hρ j (by simpa using hj)
          rw [show id + (j + 1) = id + 1 + j from by omega]
          simpa using this
      | true =>
        cases k with
        | sl e sz =>
          cases c with
          | own q =>
            simp only [handCells] at hok ⊢
            cases hg : aget fet q with
            | none => rw [hg] at hok; have := hok false (by simp); cases this
            | some x =>
              cases x with
              | box _ => rw [hg] at hok; have := hok false (by simp); cases this
              | mp _ => rw [hg] at hok; have := hok false (by simp); cases this
              | arr e' fz l =>
                rw [hg] at hok
                dsimp only at hok ⊢
                obtain ⟨hok1, hok2⟩ := hok.append
                obtain ⟨e1, e2⟩ := hok1.cons
                have e1 := Nat.eq_of_beq_eq_true e1
                subst e1
                obtain ⟨h3, h4, h5, h6, h7⟩ := hrest hok2
                have hq := hf q _ hg
                refine ⟨by simp [h3], by simp [h4], fun p hp => ?_, ?_, fun {O' objs' ρ} hp hv hO hρ j hj => ?_⟩
                · rcases List.mem_cons.1 hp with rfl | hp
                  · exact ⟨e, fz, l, hq, rfl⟩
                  · exact h5 p hp
                · simp only [namesC, List.map_cons, h6]
                · cases j with
                  | zero =>
                    have hc : CRel O st.objs m w (f 0) (.own q) := h 0 (by simp)
                    have hc := hc.2
                    rw [hq] at hc
                    simp only [Option.map_some, Obj.shp] at hc
                    have := hO _ List.mem_cons_self
                    exact this.relab (objs' := []) (m' := fun _ => f 0) (hρ (q, id) List.mem_cons_self) hc
                  | succ j =>
                    have := h7 hp (fun p hp => hv p (List.mem_cons_of_mem _ hp)) (fun p hp => hO p (List.mem_cons_of_mem _ hp)) (fun p hp => hρ p (List.mem_cons_of_mem _ hp)) j (by simpa using hj)
                    rw [show id + (j + 1) = id + 1 + j from by omega]
                    simpa using this
          | nils =>
            simp only [handCells] at hok ⊢
            obtain ⟨h3, h4, h5, h6, h7⟩ := hrest hok
            have hnames : namesC id ((true, .sl e sz) :: ks) (.nils :: cs) = namesC (id + 1) ks cs := rfl
            refine ⟨by simp [h3], by simp [h4], h5, by rw [hnames]; exact h6, fun {O' objs' ρ} hp hv hO hρ j hj => ?_⟩
            rw [hnames] at hρ
            cases j with
            | zero =>
              have hc : CRel O st.objs m w (f 0) .nils := h 0 (by simp)
              have hc : f 0 = .slice none 0 0 := hc
              show ORel _ [] (fun _ => f 0) w _ (.arr e true ⟨sz, []⟩)
              exact ⟨by simp [Sl.es], .inl ⟨trivial, rfl, hc⟩⟩
            | succ j =>
              have := h7 hp hv hO hρ j (by simpa using hj)
              rw [show id + (j + 1) = id + 1 + j from by omega]
              simpa using this
          | _ => have := hok false (by simp [handCells]); cases this
        | _ => have := hok false (by simp [handCells]); cases this
end
end Go.Proofs.YtnllccjmbijjlaaGreat.Vm

/-
  Handing over arguments (and, at a function's end, results).
-/
namespace Go.Proofs.YtnllccjmbijjlaaGreat.Vm
open Classical

section
variable {P : Program} {C : Ctx} {V0 : Nat → Value} {O0 O : Own} {w0 w : World} {m : Nat → Value} {st : St} {a : Act} {o : Oper}

theorem handArg_spec {fet : Fet} (hf : Fet' st.objs fet) {s : Sh} {x : A} {v : Value} {id : Nat} (hx : TRel O st.objs m w v x) (hS : ∀ q y, aget st.objs q = some y → ORel O st.objs m w q y) (hok : AllT (handArg fet s x).ok) :
    Frz st.objs (handArg fet s x).upd ∧ (∀ q ∈ (handArg fet s x).del ++ (handArg fet s x).boxes.map (·.1), q ∈ (namesA fet id s x).map (·.1)) ∧ (∀ q ∈ (namesA fet id s x).map (·.1), q ∈ (handArg fet s x).del ++ (handArg fet s x).boxes.map (·.1)) ∧
    (isBoxSh s = true ↔ (handArg fet s x).boxes ≠ []) ∧
    ∀ {O' : Own} {objs' : List (Nat × Obj)} {ρ : Nat → Option Nat}, Pres O w O' w → (∀ p ∈ (handArg fet s x).upd, ∀ e l, p.2 = .arr e true l → VRel O' w (m p.1) (.sl l)) →
      (∀ p ∈ (handArg fet s x).upd, ORel O' objs' m w p.1 p.2) → (∀ b k q, O b k = some q → NR st.objs q → O' b k = some q) → (∀ p ∈ namesA fet id s x, ρ p.1 = some p.2) →
      IR (relab O' ρ) w id v (handArg fet s x).a := by
  cases s with
  | cell u k =>
    unfold handArg at *
    dsimp only at hok ⊢
    have hall : ∀ hc : CRel O st.objs m w v x, _ := fun hc => handCells_spec hf [(u, k)] [x] id (fun _ => v) (fun j hj => by
      have : j = 0 := by simpa using hj
      subst this; exact hc)
    have hnc : ∀ (h : AllT (handCells fet [(u, k)] [x]).1), CRel O st.objs m w v x := by
      intro h
      cases x with
      | undef => cases u <;> cases k <;> (have := h false (by simp [handCells, pur]); cases this)
      | agg _ => cases u <;> cases k <;> (have := h false (by simp [handCells, pur]); cases this)
      | tup _ => cases u <;> cases k <;> (have := h false (by simp [handCells, pur]); cases this)
      | cnd _ _ => cases u <;> cases k <;> (have := h false (by simp [handCells, pur]); cases this)
      | _ => exact hx
    generalize hh : handCells fet [(u, k)] [x] = r at *
    obtain ⟨ok, cs, upd, del⟩ := r
    cases cs with
    | nil => have := hok false (by simp); cases this
    | cons c cs =>
      cases cs with
      | cons _ _ => have := hok false (by simp); cases this
      | nil =>
        dsimp only at hok ⊢
        obtain ⟨h1, h2, h3, h4, h5⟩ := hall (hnc hok) hok
        have h4 : del = (namesC id [(u, k)] [x]).map (·.1) := h4
        refine ⟨h3, fun q hq => ?_, fun q hq => ?_, ⟨(fun h => by cases h), fun h => absurd rfl h⟩, fun {O' objs' ρ} hp hv hO _ hρ => ?_⟩
        · simp only [List.map_nil, List.append_nil] at hq; rw [h4] at hq; exact hq
        · simp only [List.map_nil, List.append_nil]; rw [h4]; exact hq
        · have := h5 hp hv hO hρ 0 (by simp)
          have e : [c].getD 0 .undef = c := rfl
          dsimp only at this
          rw [e] at this
          cases c <;> first | exact this | cases this
  | agg ks =>
    cases x with
    | agg cs =>
      unfold handArg at *
      dsimp only at hok ⊢
      obtain ⟨vs, g1, g2, g3⟩ := hx
      obtain ⟨h1, h2, h3, h4, h5⟩ := handCells_spec hf ks cs (id + 1) (fun j => vs.getD j undef) g3 hok
      refine ⟨h3, fun q hq => ?_, fun q hq => ?_, ⟨(fun h => by cases h), fun h => absurd rfl h⟩, fun {O' objs' ρ} hp hv hO _ hρ => ?_⟩
      · simp only [List.map_nil, List.append_nil] at hq; rw [h4] at hq; exact hq
      · simp only [List.map_nil, List.append_nil]; rw [h4]; exact hq
      · exact ⟨vs, g1, by rw [g2, h1, h2], fun j hj => h5 hp hv hO hρ j (by rw [← h1]; exact hj)⟩
    | _ => have := hok false (by simp [handArg]); cases this
  | box ks =>
    cases x with
    | ptr q off =>
      unfold handArg at *
      dsimp only at hok ⊢
      cases hg : box? fet q with
      | none => rw [hg] at hok; have := hok false (by simp); cases this
      | some cs =>
            rw [hg] at hok
            dsimp only at hok ⊢
            obtain ⟨ho0, hokA⟩ := hok.cons
            obtain ⟨_, hokB⟩ := hokA.cons
            have ho0 := Nat.eq_of_beq_eq_true ho0
            subst ho0
            have hq := hf q _ (box?_some hg)
            obtain ⟨b, base, g1, g2⟩ := hS q _ hq
            have hv0 : v = .pointer (some (at' b base)) := by
              have hc : CRel O st.objs m w v (.ptr q 0) := hx
              have hc := hc.2
              rw [hq] at hc
              simp only [Option.map_some, Obj.shp] at hc
              obtain ⟨b', base', g3, g4⟩ := hc
              rw [g1] at g3; injection g3 with g3; injection g3 with g3; injection g3 with e1 e2
              subst e1; subst e2; exact g4
            let f : Nat → Value := fun j => (w.cell? (at' b (base + j))).getD undef
            have hfc : ∀ j, j < cs.length → w.cell? (at' b (base + j)) = some (f j) ∧ CRel O st.objs m w (f j) (cs.getD j .undef) := by
              intro j hj
              obtain ⟨_, _, u, h3, h4⟩ := g2 j hj
              have : f j = u := by show (w.cell? _).getD _ = _; rw [h3]; rfl
              rw [this]; exact ⟨h3, h4⟩
            obtain ⟨h1, h2, h3, h4, h5⟩ := handCells_spec hf ks cs (id + 1) f (fun j hj => (hfc j hj).2) hokB
            have hnames : namesA fet id (.box ks) (.ptr q 0) = (q, id) :: namesC (id + 1) ks cs := by simp only [namesA, hg]
            rw [hnames]
            refine ⟨h3, fun r hr => ?_, fun r hr => ?_, ⟨fun _ => by simp, fun _ => rfl⟩, fun {O' objs' ρ} hp hv hO hbx hρ => ?_⟩
            · simp only [List.map_cons, List.map_nil, List.mem_append, List.mem_singleton] at hr
              rcases hr with hr | hr
              · rw [h4] at hr; exact List.mem_cons_of_mem _ hr
              · rw [hr]; exact List.mem_cons_self
            · simp only [List.map_cons, List.map_nil, List.mem_append, List.mem_singleton]
              rcases List.mem_cons.1 hr with hr | hr
              · exact .inr hr
              · left; rw [h4]; exact hr
            · refine ⟨b, base, hv0, fun j hj => ?_⟩
              rw [h1] at hj
              obtain ⟨k1, k2, u, k3, _⟩ := g2 j (by rw [h2]; exact hj)
              refine ⟨relab_some (hbx _ _ _ k1 (.of hq (fun _ _ _ h => by cases h))) (hρ (q, id) List.mem_cons_self), k2, f j, (hfc j (by rw [h2]; exact hj)).1, h5 hp hv hO (fun p hp' => hρ p (List.mem_cons_of_mem _ hp')) j hj⟩
    | _ => have := hok false (by simp [handArg]); cases this
  | map kt vt =>
    cases x with
    | own q =>
      unfold handArg at *
      dsimp only at hok ⊢
      cases hg : aget fet q with
      | none => rw [hg] at hok; have := hok false (by simp); cases this
      | some y =>
        cases y with
        | box _ => rw [hg] at hok; have := hok false (by simp); cases this
        | arr _ _ _ => rw [hg] at hok; have := hok false (by simp); cases this
        | mp l =>
          rw [hg] at hok
          dsimp only at hok ⊢
          have hq := hf q _ hg
          have hv0 : v = m q := by
            have hc : CRel O st.objs m w v (.own q) := hx
            have hc := hc.2
            rw [hq] at hc
            exact hc
          refine ⟨(fun p hp => by cases hp), fun r hr => ?_, fun r hr => ?_, ⟨fun _ => by simp, fun _ => rfl⟩, fun {O' objs' ρ} hp hv hO hbx hρ => ?_⟩
          · simpa [namesA] using hr
          · simpa [namesA] using hr
          · obtain ⟨r, es, ck, g1, g2, g3, g4, g5⟩ := (show MRel O w q (m q) l from hS q _ hq)
            refine ⟨r, es, ck, by rw [hv0]; exact g1, g2, relab_some (hbx _ _ _ g3 (.of hq (fun _ _ _ h => by cases h))) (hρ (q, id) List.mem_cons_self), g4, fun i p hip => ?_⟩
            obtain ⟨e, k1, k2, k3⟩ := g5 i p hip
            exact ⟨e, k1, (k2.pres hp).pres (relab_pres ρ), (k3.pres hp).pres (relab_pres ρ)⟩
    | _ => have := hok false (by simp [handArg]); cases this

theorem handArgs_spec {fet : Fet} (hf : Fet' st.objs fet) (hS : ∀ q y, aget st.objs q = some y → ORel O st.objs m w q y) (stride : Nat) : ∀ (ss : List Sh) (xs : List A) (id : Nat) (f : Nat → Value), (∀ j, j < xs.length → TRel O st.objs m w (f j) (xs.getD j .undef)) → AllT (handArgs fet ss xs).1 →
    (handArgs fet ss xs).2.1.length = ss.length ∧ xs.length = ss.length ∧ Frz st.objs (handArgs fet ss xs).2.2.1 ∧
    (∀ q, q ∈ (handArgs fet ss xs).2.2.2.1 ++ (handArgs fet ss xs).2.2.2.2.map (·.1) ↔ q ∈ (namesAs fet id stride ss xs).map (·.1)) ∧
    ∀ {O' : Own} {objs' : List (Nat × Obj)} {ρ : Nat → Option Nat}, Pres O w O' w → (∀ p ∈ (handArgs fet ss xs).2.2.1, ∀ e l, p.2 = .arr e true l → VRel O' w (m p.1) (.sl l)) →
      (∀ p ∈ (handArgs fet ss xs).2.2.1, ORel O' objs' m w p.1 p.2) → (∀ b k q, O b k = some q → NR st.objs q → O' b k = some q) → (∀ p ∈ namesAs fet id stride ss xs, ρ p.1 = some p.2) →
      ∀ j, j < ss.length → IR (relab O' ρ) w (id + stride * j) (f j) ((handArgs fet ss xs).2.1.getD j .undef) := by
  intro ss
  induction ss with
  | nil =>
    intro xs id f _ hok
    cases xs with
    | nil => exact ⟨rfl, rfl, (fun p hp => by simp [handArgs] at hp), (fun q => by simp [handArgs, namesAs]), fun _ _ _ _ _ j hj => by simp at hj⟩
    | cons _ _ => have := hok false (by simp [handArgs]); cases this
  | cons s ss ih =>
    intro xs id f h hok
    cases xs with
    | nil => have := hok false (by simp [handArgs]); cases this
    | cons x xs =>
      simp only [handArgs] at hok ⊢
      obtain ⟨hok1, hok2⟩ := hok.append
      obtain ⟨h1, h2, h3, _, h4⟩ := handArg_spec (id := id) hf (h 0 (by simp)) hS hok1
      obtain ⟨g1, g2, g3, g4, g5⟩ := ih xs (id + stride) (fun j => f (j + 1)) (fun j hj => by simpa using h (j + 1) (by simpa using hj)) hok2
      refine ⟨by simp [g1], by simp [g2], h1.append g3, fun q => ?_, fun {O' objs' ρ} hp hv hO hbx hρ j hj => ?_⟩
      · simp only [namesAs, List.map_append, List.mem_append]
        have a1 := h2 q
        have a2 := h3 q
        have a3 := g4 q
        simp only [List.mem_append] at a1 a2 a3
        constructor
        · rintro ((h | h) | (h | h))
          · exact .inl (a1 (.inl h))
          · exact .inr (a3.1 (.inl h))
          · exact .inl (a1 (.inr h))
          · exact .inr (a3.1 (.inr h))
        · rintro (h | h)
          · rcases a2 h with h | h
            · exact .inl (.inl h)
            · exact .inr (.inl h)
          · rcases a3.2 h with h | h
            · exact .inl (.inr h)
            · exact .inr (.inr h)
      · cases j with
        | zero => simpa using h4 hp (fun p hp => hv p (List.mem_append_left _ hp)) (fun p hp => hO p (List.mem_append_left _ hp)) hbx (fun p hp => hρ p (List.mem_append_left _ hp))
        | succ j =>
          have := g5 hp (fun p hp => hv p (List.mem_append_right _ hp)) (fun p hp => hO p (List.mem_append_right _ hp)) hbx (fun p hp => hρ p (List.mem_append_right _ hp)) j (by simpa using hj)
          rw [show id + stride * (j + 1) = id + stride + stride * j from by rw [Nat.mul_add]; omega]
          simpa using this
end
end Go.Proofs.YtnllccjmbijjlaaGreat.Vm

/-
  Taking values over: a callee its arguments, a caller what comes back.
-/
namespace Go.Proofs.YtnllccjmbijjlaaGreat.Vm
open Classical

/-- the x-th thing that a value names: itself, its cells -/
def handleOf (w : World) (v : Value) : Nat → Value
  | 0 => v
  | x + 1 => match v with
    | .agg vs => vs.getD x undef
    | .pointer (some a) => (w.cell? (at' a.block (a.off + x))).getD undef
    | _ => undef

section
variable {Oc O' : Own} {w : World} {objs' : List (Nat × Obj)} {m' : Nat → Value}

theorem ORel.carry {objs : List (Nat × Obj)} {m : Nat → Value} {c i e : Nat} {l : Sl} (h : ORel Oc objs m w c (.arr e true l)) (hp : Pres Oc w O' w) (hr : ∀ b k, Oc b k = some c → O' b k = some i) (hn : ∀ b k, Oc b k = none → O' b k = none) (hm : m' i = m c) :
    ORel O' objs' m' w i (.arr e true l) := by
  refine ⟨h.1, ?_⟩
  rcases h.2 with ⟨h1, h2, h3⟩ | ⟨h1, g, cap, cur, h2, h3, h4, h5, h6, h7, h8, h9⟩
  · exact .inl ⟨h1, h2, by rw [hm]; exact h3⟩
  · refine .inr ⟨h1, g, cap, cur, by rw [hm]; exact h2, h3, h4, h5, h6, fun r j hr' hj => ?_, fun k hk hge => hr _ _ (h8 k hk hge), fun k hk => ?_⟩
    · obtain ⟨u, h10, h11⟩ := h7 r j hr' hj
      exact ⟨u, h10, h11.pres hp⟩
    · have := h9 k hk
      simp only [if_true] at this ⊢
      exact hn _ _ this

theorem MRel.carry {c i : Nat} {v : Value} {l : Mp} (h : MRel Oc w c v l) (hp : Pres Oc w O' w) (hr : ∀ b k, Oc b k = some c → O' b k = some i) : MRel O' w i v l := by
  obtain ⟨r, es, ck, h1, h2, h3, h4, h5⟩ := h
  refine ⟨r, es, ck, h1, h2, hr _ _ h3, h4, fun j p hj => ?_⟩
  obtain ⟨e, k1, k2, k3⟩ := h5 j p hj
  exact ⟨e, k1, k2.pres hp, k3.pres hp⟩
theorem isUmp_eq {kt vt : Ty} {a : A} (h : a.isUmp kt vt = true) : ∃ l, a = .ump l ∧ l.kt = kt ∧ l.vt = vt := by
  cases a with
  | ump l =>
    have h' : (decide (l.kt = kt) && decide (l.vt = vt)) = true := h
    simp only [Bool.and_eq_true, decide_eq_true_eq] at h'
    exact ⟨l, rfl, h'.1, h'.2⟩
  | _ => cases h
theorem force_icrel {id : Nat} {k : CK} {v : Value} {c : A} (h : IC Oc w id v c) (hp : Pres Oc w O' w) (hok : AllT (force k c).1) : CRel O' objs' m' w v (force k c).2 := by
  cases c with
  | usl e l =>
    cases k with
    | oth =>
      rcases h.2 with ⟨_, _, h3⟩ | ⟨_, g, cap, cur, h2, _⟩
      · show v.oneCell' = true
        have h3 : v = _ := h3
        rw [h3]; rfl
      · show v.oneCell' = true
        have h2 : v = _ := h2
        rw [h2]; rfl
    | mp _ _ => have := hok.cons.1; cases this
    | _ => have := hok.cons.1; simp [A.isB, A.isI, A.isS, A.isSl, A.isNilp, A.isFn] at this
  | _ => exact force_rel (VRel.pres hp h) hok

theorem backCells_spec {cid id : Nat} {f : Nat → Value} (hp : Pres Oc w O' w) (hn : ∀ b k, Oc b k = none → O' b k = none) : ∀ (ks : List (Bool × CK)) (cs : List A) (j0 : Nat), (∀ j, j < ks.length → IC Oc w (cid + (j0 + j)) (f (j0 + j)) (cs.getD (j0 + j) .undef)) →
    (∀ b k x, x < j0 + ks.length → Oc b k = some (cid + x) → O' b k = some (id + x)) → AllT (backCells id ks cs j0).1 → (∀ p ∈ (backCells id ks cs j0).2.2, aget objs' p.1 = some p.2) → (∀ p ∈ (backCells id ks cs j0).2.2, ∀ x, p.1 = id + x → m' p.1 = f x) →
    (backCells id ks cs j0).2.1.length = ks.length ∧ (∀ j, j < ks.length → CRel O' objs' m' w (f (j0 + j)) ((backCells id ks cs j0).2.1.getD j .undef)) ∧ ∀ p ∈ (backCells id ks cs j0).2.2, ORel O' objs' m' w p.1 p.2 ∧ ∃ x, p.1 = id + x ∧ j0 ≤ x ∧ x < j0 + ks.length := by
  intro ks
  induction ks with
  | nil => intro cs j0 _ _ _ _ _; exact ⟨rfl, fun j hj => by simp at hj, fun p hp => by simp [backCells] at hp⟩
  | cons k ks ih =>
    intro cs j0 h hr hok hO hm
    obtain ⟨u, k⟩ := k
    have h0 := h 0 (by simp)
    rw [Nat.add_zero] at h0
    have hrest := fun hok2 hO2 hm2 => ih cs (j0 + 1) (fun j hj => by have := h (j + 1) (by simpa using hj); rwa [show j0 + (j + 1) = j0 + 1 + j from by omega] at this) (fun b k x hx => hr b k x (by simp only [List.length_cons]; omega)) hok2 hO2 hm2
    cases u with
    | false =>
      simp only [backCells] at hok hO hm ⊢
      obtain ⟨hok1, hok2⟩ := hok.append
      obtain ⟨g1, g2, g3⟩ := hrest hok2 hO hm
      refine ⟨by simp [g1], fun j hj => ?_, fun p hp => ?_⟩
      · cases j with
        | zero => exact force_icrel h0 hp hok1
        | succ j =>
          have := g2 j (by simpa using hj)
          rw [show j0 + (j + 1) = j0 + 1 + j from by omega]; simpa using this
      · obtain ⟨a1, x, a2, a3, a4⟩ := g3 p hp
        exact ⟨a1, x, a2, by omega, by simp only [List.length_cons]; omega⟩
    | true =>
      cases k with
      | sl e sz =>
        simp only [backCells] at hok hO hm ⊢
        obtain ⟨hok1, hok2⟩ := hok.cons
        obtain ⟨g1, g2, g3⟩ := hrest hok2 (fun p hp => hO p (List.mem_cons_of_mem _ hp)) (fun p hp => hm p (List.mem_cons_of_mem _ hp))
        have hO0 := hO _ List.mem_cons_self
        have hm0 := hm _ List.mem_cons_self j0 rfl
        dsimp only at hO0 hm0
        have hc : cs.getD j0 .undef = .usl e (cs.getD j0 .undef).toL := by
          generalize cs.getD j0 .undef = c at *
          cases c <;> simp only [A.isUsl] at hok1 <;> first | (cases hok1; done) | skip
          simp only [Bool.and_eq_true] at hok1
          rw [Nat.eq_of_beq_eq_true hok1.1]; rfl
        rw [hc] at h0
        have hor : ORel O' objs' m' w (id + j0) (.arr e true (cs.getD j0 .undef).toL) := ORel.carry (show ORel Oc [] (fun _ => f j0) w (cid + j0) _ from h0) hp (fun b k hbk => hr b k j0 (by simp) hbk) hn hm0
        refine ⟨by simp [g1], fun j hj => ?_, fun p hp => ?_⟩
        · cases j with
          | zero =>
            have hone : (f j0).oneCell' = true := by
              rcases h0.2 with ⟨_, _, h3⟩ | ⟨_, g, cap, cur, h2, _⟩
              · have h3 : f j0 = _ := h3
                rw [h3]; rfl
              · have h2 : f j0 = _ := h2
                rw [h2]; rfl
            refine ⟨hone, ?_⟩
            show match (aget objs' (id + j0)).map Obj.shp with | some (.arr _ _) => _ | some .mp => _ | _ => True
            rw [hO0]
            exact hm0.symm
          | succ j =>
            have := g2 j (by simpa using hj)
            rw [show j0 + (j + 1) = j0 + 1 + j from by omega]; simpa using this
        · rcases List.mem_cons.1 hp with rfl | hp
          · exact ⟨hor, j0, rfl, Nat.le_refl _, by simp⟩
          · obtain ⟨a1, x, a2, a3, a4⟩ := g3 p hp
            exact ⟨a1, x, a2, by omega, by simp only [List.length_cons]; omega⟩
      | _ => have := hok false (by simp [backCells]); cases this

/-- a value taken over -/
theorem back_spec {cid id : Nat} {s : Sh} {x : A} {v : Value} (hp : Pres Oc w O' w) (hn : ∀ b k, Oc b k = none → O' b k = none) (h : IR Oc w cid v x) (hr : ∀ b k i, i < 255 → Oc b k = some (cid + i) → O' b k = some (id + i))
    (hok : AllT (back id s x).1) (hO : ∀ p ∈ (back id s x).2.2, aget objs' p.1 = some p.2) (hm : ∀ p ∈ (back id s x).2.2, ∀ i, p.1 = id + i → m' p.1 = handleOf w v i) :
    TRel O' objs' m' w v (back id s x).2.1 ∧ ∀ p ∈ (back id s x).2.2, ORel O' objs' m' w p.1 p.2 := by
  cases s with
  | cell u k =>
    simp only [back] at hok hO hm ⊢
    obtain ⟨hok1, hok2⟩ := hok.append
    have hpl := hok2.cons.1
    have hic : IC Oc w cid v x := by
      have bad : ∀ cs l, x = .agg cs ∨ x = .box cs ∨ x = .ump l → False := by
        rintro cs l (rfl | rfl | rfl) <;> (cases u <;> cases k <;> first | (cases hpl; done) | (have := hok1 false (by simp [backCells, force, A.isB, A.isI, A.isS, A.isSl, A.isNilp, A.isUsl, A.isFn]); cases this))
      cases x with
      | agg cs => exact (bad cs default (.inl rfl)).elim
      | box cs => exact (bad cs default (.inr (.inl rfl))).elim
      | ump l => exact (bad [] l (.inr (.inr rfl))).elim
      | _ => exact h
    obtain ⟨g1, g2, g3⟩ := backCells_spec (cid := cid) (id := id) (f := handleOf w v) hp hn [(u, k)] [x] 0 (fun j hj => by
      have : j = 0 := by simpa using hj
      subst this; exact hic) (fun b k i hi hb => hr b k i (by simp at hi; omega) hb) hok1 hO hm
    have := g2 0 (by simp)
    exact ⟨this.toT, fun p hp => (g3 p hp).1⟩
  | agg ks =>
    simp only [back] at hok hO hm ⊢
    obtain ⟨hf, hok⟩ := hok.cons
    have hf := Nat.le_of_ble_eq_true hf
    obtain ⟨hok1, hok2⟩ := hok.cons
    cases x with
    | agg cs =>
      obtain ⟨vs, h1, h2, h3⟩ := h
      have hl : cs.length = ks.length := by simpa [A.isAgg, nbeq] using hok1
      obtain ⟨g1, g2, g3⟩ := backCells_spec (objs' := objs') (m' := m') (cid := cid + 1) (id := id + 1) (f := fun j => vs.getD j undef) hp hn ks cs 0 (fun j hj => by
        have := h3 j (by omega)
        rw [Nat.zero_add]; exact this) (fun b k i hi hb => by
        have := hr b k (1 + i) (by omega) (by rw [← Nat.add_assoc]; exact hb)
        rw [← Nat.add_assoc] at this; exact this) hok2 hO (fun p hp i hi => by
        have := hm p hp (i + 1) (by omega)
        rw [this, h1]; rfl)
      refine ⟨⟨vs, h1, ?_, fun j hj => ?_⟩, fun p hp => (g3 p hp).1⟩
      · show vs.size = (backCells (id + 1) ks cs 0).2.1.length
        rw [h2, g1, hl]
      · have hj : j < (backCells (id + 1) ks cs 0).2.1.length := hj
        rw [g1] at hj
        have := g2 j hj
        rwa [Nat.zero_add] at this
    | _ => simp [A.isAgg] at hok1
  | box ks =>
    simp only [back] at hok hO hm ⊢
    obtain ⟨hf, hok⟩ := hok.cons
    have hf := Nat.le_of_ble_eq_true hf
    obtain ⟨hok1, hok2⟩ := hok.cons
    cases x with
    | box cs =>
      obtain ⟨b, base, h1, h2⟩ := h
      have hl : cs.length = ks.length := by simpa [A.isBox, nbeq] using hok1
      have hcell : ∀ j, handleOf w v (j + 1) = (w.cell? (at' b (base + j))).getD undef := by intro j; rw [h1]; rfl
      obtain ⟨g1, g2, g3⟩ := backCells_spec (objs' := objs') (m' := m') (cid := cid + 1) (id := id + 1) (f := fun j => (w.cell? (at' b (base + j))).getD undef) hp hn ks cs 0 (fun j hj => by
        obtain ⟨_, _, u, h5, h6⟩ := h2 j (by omega)
        rw [Nat.zero_add, h5]; exact h6) (fun b k i hi hb => by
        have := hr b k (1 + i) (by omega) (by rw [← Nat.add_assoc]; exact hb)
        rw [← Nat.add_assoc] at this; exact this) hok2 (fun p hp => hO p (List.mem_cons_of_mem _ hp)) (fun p hp i hi => by
        have := hm p (List.mem_cons_of_mem _ hp) (i + 1) (by omega)
        rw [this, hcell])
      have hO0 := hO _ List.mem_cons_self
      have hm0 := hm _ List.mem_cons_self 0 rfl
      dsimp only at hO0 hm0
      refine ⟨?_, fun p hp => ?_⟩
      · show CRel O' objs' m' w v (.ptr id 0)
        refine ⟨by rw [h1]; rfl, ?_⟩
        show match (aget objs' id).map Obj.shp with | some .box => _ | _ => True
        rw [hO0]
        exact ⟨b, base, by rw [hm0]; exact h1, h1⟩
      · rcases List.mem_cons.1 hp with rfl | hp
        · refine ⟨b, base, by rw [hm0]; exact h1, fun j hj => ?_⟩
          have hj : j < (backCells (id + 1) ks cs 0).2.1.length := hj
          rw [g1] at hj
          obtain ⟨a1, a2, u, a3, _⟩ := h2 j (by omega)
          have := g2 j hj
          rw [Nat.zero_add, a3] at this
          exact ⟨by have := hr b (base + j) 0 (by omega) a1; exact this, a2, u, a3, this⟩
        · exact (g3 p hp).1
    | _ => simp [A.isBox] at hok1
  | map kt vt =>
    simp only [back] at hok hO hm ⊢
    obtain ⟨l, rfl, _, _⟩ := isUmp_eq hok.cons.1
    have hO0 := hO _ List.mem_cons_self
    have hm0 := hm _ List.mem_cons_self 0 rfl
    dsimp only at hO0 hm0
    have hm0 : m' id = v := hm0
    have h : MRel Oc w cid v l := h
    have h2 : MRel O' w id v l := h.carry hp (fun b k hb => hr b k 0 (by omega) hb)
    refine ⟨?_, fun p hp => ?_⟩
    · show CRel O' objs' m' w v (.own id)
      refine ⟨by obtain ⟨r, _, _, h1, _⟩ := h; rw [h1]; rfl, ?_⟩
      rw [hO0]
      exact hm0.symm
    · obtain rfl : p = (id, .mp l) := List.mem_singleton.1 hp
      show MRel O' w id (m' id) l
      rw [hm0]; exact h2
end
end Go.Proofs.YtnllccjmbijjlaaGreat.Vm

/-
  What is known of a function; a call of it.
-/
namespace Go.Proofs.YtnllccjmbijjlaaGreat.Vm
open Classical

def ridOf (k : Nat) : Nat := 256000 + 256 * k
/-- what comes back of a box, as a box -/
def rebox : A → A
  | .agg cs => .box cs
  | a => a
/-- the places of the parameters that are boxes -/
def boxIx : List Sh → Nat → List Nat
  | [], _ => []
  | s :: ss, i => bif isBoxSh s then i :: boxIx ss (i + 1) else boxIx ss (i + 1)

/-- what comes back of a call -/
structure Came (O : Own) (w : World) (vs : Array Value) (sg : Sig) (rs : List A) (v : Value) (O' : Own) (w' : World) : Prop where
  moves : Moves O (fun o => o ≠ 255) w w'
  less : ∀ b k, b < w.heap.size → O' b k ≠ none → O b k ≠ none
  junk : ∀ b k, b < w.heap.size → O b k = some 255 → O' b k = some 255
  count : rs.length = sg.ress.length + (boxIx sg.pars 0).length
  res : ∃ us : Array Value, us.size = sg.ress.length ∧ v = (if h : us.size = 1 then us[0] else .tuple us) ∧ ∀ k, k < us.size → IR O' w' (ridOf k) (us.getD k undef) (rs.getD k .undef)
  boxes : ∀ j i, (boxIx sg.pars 0)[j]? = some i → IR O' w' (256 * i) (vs.getD i undef) (rebox (rs.getD (sg.ress.length + j) .undef))

/-- what is known of function f: where F answers, the call returns so -/
def Spec (P : Program) (f : FuncId) (sg : Sig) : Prop :=
  (∀ args w, (callFunc f args).run P w = .ok (.enter f args) w) ∧
  ∀ (O : Own) (w : World) (vs : Array Value) (xs rs : List A), vs.size = xs.length → xs.length = sg.pars.length → xs.length ≤ 100 → (∀ j, j < xs.length → IR O w (256 * j) (vs.getD j undef) (xs.getD j .undef)) → sg.F xs = some rs →
    Calls P f vs w fun e w' => ∃ v O', e = .returned v ∧ Came O w vs sg rs v O' w'

section
variable {P : Program} {C : Ctx} {V0 : Nat → Value} {O0 O : Own} {w0 w : World} {m : Nat → Value} {st : St} {a : Act} {o : Oper}

/-! ### lists of results -/
/-- the handles of what results bring along -/
def backsH (w : World) (f : Nat → Value) (id stride : Nat) : List Sh → List A → Nat → List (Nat × Value)
  | [], _, _ => []
  | s :: ss, rs, j => (back (id + stride * j) s (rs.getD j .undef)).2.2.map (fun p => (p.1, handleOf w (f j) (p.1 - (id + stride * j)))) ++ backsH w f id stride ss rs (j + 1)
theorem backsH_fst (w : World) (f : Nat → Value) (id stride : Nat) : ∀ (ss : List Sh) (rs : List A) (j : Nat), (backsH w f id stride ss rs j).map (·.1) = (backs id stride ss rs j).2.2.map (·.1) := by
  intro ss
  induction ss with
  | nil => intro rs j; rfl
  | cons s ss ih => intro rs j; simp [backsH, backs, ih]

theorem force_val {k : CK} {c : A} (hp : k.plain = true) (h : AllT (force k c).1) : (force k c).2.isVal = true := by
  cases k <;> first
    | (cases hp; done)
    | (have h1 := h.cons.1; cases c <;> first | rfl | (cases h1; done))
theorem backs_spec {Oc O' : Own} {objs' : List (Nat × Obj)} {m' : Nat → Value} {cid cst id stride : Nat} {f : Nat → Value} {rs : List A} (hp : Pres Oc w O' w) (hn : ∀ b k, Oc b k = none → O' b k = none) : ∀ (ss : List Sh) (j0 : Nat),
    (∀ j, j < ss.length → IR Oc w (cid + cst * (j0 + j)) (f (j0 + j)) (rs.getD (j0 + j) .undef)) → (∀ j, j < ss.length → ∀ b k i, i < 255 → Oc b k = some (cid + cst * (j0 + j) + i) → O' b k = some (id + stride * (j0 + j) + i)) →
    AllT (backs id stride ss rs j0).1 → (∀ p ∈ (backs id stride ss rs j0).2.2, aget objs' p.1 = some p.2) → (∀ p ∈ backsH w f id stride ss rs j0, m' p.1 = p.2) →
    (backs id stride ss rs j0).2.1.length = ss.length ∧ (∀ j, j < ss.length → TRel O' objs' m' w (f (j0 + j)) ((backs id stride ss rs j0).2.1.getD j .undef) ∧ ((backs id stride ss rs j0).2.1.getD j .undef).isVal = true) ∧
      ∀ p ∈ (backs id stride ss rs j0).2.2, ORel O' objs' m' w p.1 p.2 := by
  intro ss
  induction ss with
  | nil => intro j0 _ _ _ _ _; exact ⟨rfl, fun j hj => by simp at hj, fun p hp => by simp [backs] at hp⟩
  | cons s ss ih =>
    intro j0 h hr hok hO hm
    simp only [backs] at hok hO ⊢
    simp only [backsH] at hm
    obtain ⟨hok1, hok2⟩ := hok.append
    obtain ⟨g1, g2, g3⟩ := ih (j0 + 1) (fun j hj => by have := h (j + 1) (by simpa using hj); rwa [show j0 + (j + 1) = j0 + 1 + j from by omega] at this)
      (fun j hj => by have := hr (j + 1) (by simpa using hj); rwa [show j0 + (j + 1) = j0 + 1 + j from by omega] at this) hok2 (fun p hp => hO p (List.mem_append_right _ hp)) (fun p hp => hm p (List.mem_append_right _ hp))
    have h0 := h 0 (by simp)
    have hr0 := hr 0 (by simp)
    rw [Nat.add_zero] at h0 hr0
    obtain ⟨k1, k2⟩ := back_spec (id := id + stride * j0) (m' := m') (objs' := objs') hp hn h0 hr0 hok1 (fun p hp => hO p (List.mem_append_left _ hp)) (fun p hp i hi => by
      have := hm (p.1, handleOf w (f j0) (p.1 - (id + stride * j0))) (List.mem_append_left _ (List.mem_map.2 ⟨p, hp, rfl⟩))
      rw [this, hi, Nat.add_sub_cancel_left])
    refine ⟨by simp [g1], fun j hj => ?_, fun p hp => ?_⟩
    · cases j with
      | zero =>
        refine ⟨k1, ?_⟩
        show ((back (id + stride * j0) s (rs.getD j0 .undef)).2.1).isVal = true
        cases s with
        | agg ks => rfl
        | box ks => rfl
        | map kt vt => rfl
        | cell u' k =>
          have hpl : k.plain = true := by
            simp only [back] at hok1
            exact hok1.append.2.cons.1
          cases u' with
          | true => cases k <;> first | (cases hpl; done) | rfl | (exfalso; have := hok1 false (by simp [back, backCells]); cases this)
          | false =>
            have hf : AllT (force k (rs.getD j0 .undef)).1 := by
              have h1 := hok1
              simp only [back, backCells] at h1
              exact h1.append.1.append.1
            show (force k (rs.getD j0 .undef)).2.isVal = true
            exact force_val hpl hf
      | succ j =>
        have := g2 j (by simpa using hj)
        rw [show j0 + (j + 1) = j0 + 1 + j from by omega]
        simpa using this
    · rcases List.mem_append.1 hp with hp | hp
      · exact k2 p hp
      · exact g3 p hp

/-! ### names -/
def look (N : List (Nat × Nat)) (q : Nat) : Option Nat := (N.find? (fun p => p.1 == q)).map (·.2)
theorem look_mem {N : List (Nat × Nat)} (hnd : nodup (N.map (·.1)) = true) : ∀ p ∈ N, look N p.1 = some p.2 := by
  induction N with
  | nil => intro p hp; cases hp
  | cons q N ih =>
    intro p hp
    simp only [List.map_cons, nodup, Bool.and_eq_true, Bool.not_eq_true'] at hnd
    unfold look
    rcases List.mem_cons.1 hp with rfl | hp
    · simp
    · have hne : q.1 ≠ p.1 := fun e => by
        have : has (N.map (·.1)) q.1 = true := has_mem.2 (List.mem_map.2 ⟨p, hp, e.symm⟩)
        rw [this] at hnd; cases hnd.1
      rw [List.find?_cons_of_neg (by simpa using hne)]
      exact ih hnd.2 p hp
theorem look_some {N : List (Nat × Nat)} {q i : Nat} (h : look N q = some i) : (q, i) ∈ N := by
  unfold look at h
  cases hf : N.find? (fun p => p.1 == q) with
  | none => rw [hf] at h; cases h
  | some p =>
    rw [hf] at h
    injection h with h
    have h1 := List.find?_some hf
    have h2 := List.mem_of_find?_eq_some hf
    have : p.1 = q := by simpa using h1
    rw [← this, ← h]; exact h2
def lookV (N : List (Nat × Value)) (q : Nat) : Option Value := (N.find? (fun p => p.1 == q)).map (·.2)
theorem lookV_mem {N : List (Nat × Value)} (hnd : nodup (N.map (·.1)) = true) : ∀ p ∈ N, lookV N p.1 = some p.2 := by
  induction N with
  | nil => intro p hp; cases hp
  | cons q N ih =>
    intro p hp
    simp only [List.map_cons, nodup, Bool.and_eq_true, Bool.not_eq_true'] at hnd
    unfold lookV
    rcases List.mem_cons.1 hp with rfl | hp
    · simp
    · have hne : q.1 ≠ p.1 := fun e => by
        have : has (N.map (·.1)) q.1 = true := has_mem.2 (List.mem_map.2 ⟨p, hp, e.symm⟩)
        rw [this] at hnd; cases hnd.1
      rw [List.find?_cons_of_neg (by simpa using hne)]
      exact ih hnd.2 p hp
theorem lookV_none {N : List (Nat × Value)} {q : Nat} (h : q ∉ N.map (·.1)) : lookV N q = none := by
  unfold lookV
  rw [List.find?_eq_none.2 (fun p hp => by simp; exact fun e => h (List.mem_map.2 ⟨p, hp, e⟩))]
  rfl

theorem TRel.toT1 {objs : List (Nat × Obj)} {v : Value} {x : A} (h : TRel O objs m w v x) (hv : x.isVal = true) : T1 O objs m w v x := by cases x <;> first | (cases hv; done) | exact h
theorem namesC_alive {fet : Fet} : ∀ (ks : List (Bool × CK)) (cs : List A) (id : Nat), AllT (handCells fet ks cs).1 → ∀ p ∈ namesC id ks cs, (∃ e f l, aget fet p.1 = some (.arr e f l)) ∧ ∃ x, x < ks.length ∧ p.2 = id + x := by
  intro ks
  induction ks with
  | nil => intro cs id _ p hp; cases cs <;> simp [namesC] at hp
  | cons k ks ih =>
    intro cs id hok p hp
    obtain ⟨u, k⟩ := k
    cases cs with
    | nil => cases u <;> simp [namesC] at hp
    | cons c cs =>
      have step : AllT (handCells fet ks cs).1 → p ∈ namesC (id + 1) ks cs → (∃ e f l, aget fet p.1 = some (.arr e f l)) ∧ ∃ x, x < ((u, k) :: ks).length ∧ p.2 = id + x := by
        intro h1 h2
        obtain ⟨h3, x, h4, h5⟩ := ih cs (id + 1) h1 p h2
        exact ⟨h3, x + 1, by simpa using h4, by omega⟩
      cases u with
      | false =>
        have hnm : namesC id ((false, k) :: ks) (c :: cs) = namesC (id + 1) ks cs := by cases c <;> rfl
        rw [hnm] at hp
        simp only [handCells] at hok
        exact step hok.append.2 hp
      | true =>
        cases k with
        | sl e sz =>
          cases c with
          | own q =>
            simp only [handCells] at hok
            cases hg : aget fet q with
            | none => rw [hg] at hok; have := hok false (by simp); cases this
            | some y =>
              cases y with
              | box _ => rw [hg] at hok; have := hok false (by simp); cases this
              | mp _ => rw [hg] at hok; have := hok false (by simp); cases this
              | arr e' fz l =>
                rw [hg] at hok
                simp only [namesC] at hp
                rcases List.mem_cons.1 hp with rfl | hp
                · exact ⟨⟨_, _, _, hg⟩, 0, by simp, rfl⟩
                · exact step hok.append.2 hp
          | nils =>
            simp only [handCells] at hok
            exact step hok hp
          | _ => have := hok false (by simp [handCells]); cases this
        | _ => have := hok false (by simp [handCells]); cases this

theorem namesA_alive {fet : Fet} {s : Sh} {x : A} {id : Nat} (hok : AllT (handArg fet s x).ok) : ∀ p ∈ namesA fet id s x, (aget fet p.1).isSome ∧ ∃ i, p.2 = id + i ∧ (i < 202 ∨ (∃ ks, s = .agg ks)) := by
  intro p hp
  cases s with
  | cell u k =>
    simp only [namesA] at hp
    have hh : AllT (handCells fet [(u, k)] [x]).1 := by
      unfold handArg at hok
      dsimp only at hok
      generalize handCells fet [(u, k)] [x] = r at *
      obtain ⟨ok, cs, upd, del⟩ := r
      cases cs with
      | nil => have := hok false (by simp); cases this
      | cons c cs =>
        cases cs with
        | nil => exact hok
        | cons _ _ => have := hok false (by simp); cases this
    obtain ⟨⟨e, f, l, h1⟩, i, h2, h3⟩ := namesC_alive _ _ _ hh p hp
    exact ⟨by rw [h1]; rfl, i, h3, .inl (by simp at h2; omega)⟩
  | agg ks =>
    cases x with
    | agg cs =>
      simp only [namesA] at hp
      obtain ⟨⟨e, f, l, h1⟩, i, h2, h3⟩ := namesC_alive _ _ _ (show AllT (handCells fet ks cs).1 from hok) p hp
      exact ⟨by rw [h1]; rfl, 1 + i, by omega, .inr ⟨ks, rfl⟩⟩
    | _ => cases hp
  | box ks =>
    cases x with
    | ptr q off =>
      simp only [namesA] at hp
      unfold handArg at hok
      dsimp only at hok
      cases hg : box? fet q with
      | none => rw [hg] at hok; have := hok false (by simp); cases this
      | some cs =>
        rw [hg] at hok hp
        dsimp only at hok hp
        obtain ⟨_, hokA⟩ := hok.cons
        obtain ⟨hf, hokB⟩ := hokA.cons
        have hf := Nat.le_of_ble_eq_true hf
        rcases List.mem_cons.1 hp with rfl | hp
        · exact ⟨by rw [box?_some hg]; rfl, 0, rfl, .inl (by omega)⟩
        · obtain ⟨⟨e, f, l, h1⟩, i, h2, h3⟩ := namesC_alive _ _ _ hokB p hp
          exact ⟨by rw [h1]; rfl, 1 + i, by omega, .inl (by omega)⟩
    | _ => cases hp
  | map kt vt =>
    cases x with
    | own q =>
      obtain rfl : p = (q, id) := by simpa [namesA] using hp
      unfold handArg at hok
      dsimp only at hok
      cases hg : aget fet q with
      | none => rw [hg] at hok; have := hok false (by simp); cases this
      | some y => exact ⟨rfl, 0, rfl, .inl (by omega)⟩
    | _ => cases hp
theorem namesAs_alive {fet : Fet} {stride : Nat} : ∀ (ss : List Sh) (xs : List A) (id : Nat), AllT (handArgs fet ss xs).1 → ∀ p ∈ namesAs fet id stride ss xs, (aget fet p.1).isSome := by
  intro ss
  induction ss with
  | nil => intro xs id _ p hp; cases xs <;> simp [namesAs] at hp
  | cons s ss ih =>
    intro xs id hok p hp
    cases xs with
    | nil => simp [namesAs] at hp
    | cons x xs =>
      simp only [handArgs] at hok
      obtain ⟨h1, h2⟩ := hok.append
      rcases List.mem_append.1 hp with hp | hp
      · exact (namesA_alive h1 p hp).1
      · exact ih xs _ h2 p hp

theorem Moves.unrelab {ρ : Nat → Option Nat} {w w' : World} (h : Moves (relab O ρ) (fun o => o ≠ 255) w w') : Moves O (fun o => ∃ i, ρ o = some i) w w' := by
  refine ⟨h.os, h.tape, h.output, h.size, fun b hb => ?_⟩
  have un : ∀ k i, relab O ρ b k = some i → i ≠ 255 → ∃ q, O b k = some q ∧ ∃ i, ρ q = some i := by
    intro k i hr hne
    unfold relab at hr
    cases hO : O b k with
    | none => rw [hO] at hr; cases hr
    | some q =>
      rw [hO] at hr
      dsimp only at hr
      cases hρ : ρ q with
      | none => rw [hρ] at hr; injection hr with hr; exact absurd hr.symm hne
      | some j => exact ⟨q, rfl, j, hρ⟩
  rcases h.blk b hb with he | ⟨c, c', e, fr, h1, h2, h3, h4, k, q, h5, h6, h7⟩ | ⟨es, ck, es', ck', q, h1, h2, h3, h4⟩
  · exact .inl he
  · refine .inr (.inl ⟨c, c', e, fr, h1, h2, h3, fun k hk => h4 k (fun i hi hne => ?_), k, ?_⟩)
    · obtain ⟨q, hq, hρ⟩ := un k i hi hne
      exact hk q hq hρ
    · obtain ⟨q', hq', hρ⟩ := un k q h6 h7
      exact ⟨q', h5, hq', hρ⟩
  · obtain ⟨q', hq', hρ⟩ := un 0 q h3 h4
    exact .inr (.inr ⟨es, ck, es', ck', q', h1, h2, hq', hρ⟩)
end
end Go.Proofs.YtnllccjmbijjlaaGreat.Vm

/-
  A call: the boxes that were handed over; all put together.
-/
namespace Go.Proofs.YtnllccjmbijjlaaGreat.Vm
open Classical

section
variable {P : Program} {C : Ctx} {V0 : Nat → Value} {O0 O : Own} {w0 w : World} {m : Nat → Value} {st : St} {a : Act} {o : Oper}

/-- what is handed over and comes back: an object, where it lies -/
def BxAt (fet : Fet) (p : Nat × Sh) (x : Option A) : Prop := match p.2 with
  | .box ks => (∃ cs, aget fet p.1 = some (.box cs)) ∧ x = some (.ptr p.1 0) ∧ ks.length ≤ 200
  | .map _ _ => (∃ l, aget fet p.1 = some (.mp l)) ∧ x = some (.own p.1)
  | _ => False
theorem boxes_ix {fet : Fet} {stride : Nat} : ∀ (ss : List Sh) (xs : List A) (id i0 : Nat), AllT (handArgs fet ss xs).1 →
    (handArgs fet ss xs).2.2.2.2.length = (boxIx ss i0).length ∧ ∀ (j : Nat) (p : Nat × Sh), (handArgs fet ss xs).2.2.2.2[j]? = some p → ∃ i, (boxIx ss i0)[j]? = some (i0 + i) ∧ i < ss.length ∧ (p.1, id + stride * i) ∈ namesAs fet id stride ss xs ∧ BxAt fet p xs[i]? ∧ ss[i]? = some p.2 := by
  intro ss
  induction ss with
  | nil => intro xs id i0 hok; cases xs with
    | nil => exact ⟨rfl, fun j p h => by simp [handArgs] at h⟩
    | cons _ _ => have := hok false (by simp [handArgs]); cases this
  | cons s ss ih =>
    intro xs id i0 hok
    cases xs with
    | nil => have := hok false (by simp [handArgs]); cases this
    | cons x xs =>
      simp only [handArgs] at hok ⊢
      obtain ⟨h1, h2⟩ := hok.append
      obtain ⟨g1, g2⟩ := ih xs (id + stride) (i0 + 1) h2
      have hrest : ∀ (j : Nat) (p : Nat × Sh), (handArgs fet ss xs).2.2.2.2[j]? = some p → ∃ i, (boxIx ss (i0 + 1))[j]? = some (i0 + i) ∧ i < (s :: ss).length ∧ (p.1, id + stride * i) ∈ namesAs fet id stride (s :: ss) (x :: xs) ∧ BxAt fet p (x :: xs)[i]? ∧ (s :: ss)[i]? = some p.2 := by
        intro j p hp
        obtain ⟨i, a1, a2, a3, a4, a5⟩ := g2 j p hp
        refine ⟨i + 1, by rw [a1]; congr 1; omega, by simpa using a2, List.mem_append_right _ ?_, by simpa using a4, by simpa using a5⟩
        rw [show id + stride * (i + 1) = id + stride + stride * i from by rw [Nat.mul_add]; omega]; exact a3
      cases s with
      | box ks =>
        cases x with
        | ptr q off =>
          have hA : AllT (handArg fet (.box ks) (.ptr q off)).ok := h1
          unfold handArg at h1
          dsimp only at h1
          cases hg : box? fet q with
          | none => rw [hg] at h1; have := h1 false (by simp); cases this
          | some cs =>
            rw [hg] at h1
            dsimp only at h1
            obtain ⟨h3, h4⟩ := h1.cons
            obtain ⟨h4, _⟩ := h4.cons
            have h3 := Nat.eq_of_beq_eq_true h3
            have h4 := Nat.le_of_ble_eq_true h4
            subst h3
            have hb : (handArg fet (.box ks) (.ptr q 0)).boxes = [(q, .box ks)] := by unfold handArg; dsimp only; rw [hg]
            rw [hb]
            refine ⟨by simp [boxIx, isBoxSh, g1], fun j p hp => ?_⟩
            cases j with
            | zero =>
              simp at hp; subst hp
              exact ⟨0, by simp [boxIx, isBoxSh], by simp, List.mem_append_left _ (by simp [namesA]), ⟨⟨cs, box?_some hg⟩, rfl, h4⟩, rfl⟩
            | succ j =>
              have hp' : (handArgs fet ss xs).2.2.2.2[j]? = some p := by simpa using hp
              obtain ⟨i, a1, a2⟩ := hrest j p hp'
              exact ⟨i, by simpa [boxIx, isBoxSh] using a1, a2⟩
        | _ => have := h1 false (by simp [handArg]); cases this
      | cell u k =>
        have hb : (handArg fet (.cell u k) x).boxes = [] := by
          unfold handArg
          dsimp only
          split <;> rfl
        rw [hb]
        exact ⟨by simpa [boxIx, isBoxSh] using g1, fun j p hp => by simpa [boxIx, isBoxSh] using hrest j p (by simpa using hp)⟩
      | agg ks =>
        have hb : (handArg fet (.agg ks) x).boxes = [] := by
          unfold handArg
          cases x <;> rfl
        rw [hb]
        exact ⟨by simpa [boxIx, isBoxSh] using g1, fun j p hp => by simpa [boxIx, isBoxSh] using hrest j p (by simpa using hp)⟩
      | map kt vt =>
        cases x with
        | own q =>
          unfold handArg at h1
          dsimp only at h1
          cases hg : aget fet q with
          | none => rw [hg] at h1; have := h1 false (by simp); cases this
          | some y =>
            cases y with
            | box _ => rw [hg] at h1; have := h1 false (by simp); cases this
            | arr _ _ _ => rw [hg] at h1; have := h1 false (by simp); cases this
            | mp l =>
              have hb : (handArg fet (.map kt vt) (.own q)).boxes = [(q, .map kt vt)] := by unfold handArg; dsimp only; rw [hg]
              rw [hb]
              refine ⟨by simp [boxIx, isBoxSh, g1], fun j p hp => ?_⟩
              cases j with
              | zero =>
                simp at hp; subst hp
                exact ⟨0, by simp [boxIx, isBoxSh], by simp, List.mem_append_left _ (by simp [namesA]), ⟨⟨l, hg⟩, rfl⟩, rfl⟩
              | succ j =>
                have hp' : (handArgs fet ss xs).2.2.2.2[j]? = some p := by simpa using hp
                obtain ⟨i, a1, a2⟩ := hrest j p hp'
                exact ⟨i, by simpa [boxIx, isBoxSh] using a1, a2⟩
        | _ => have := h1 false (by simp [handArg]); cases this

def backBoxesH (rb : Nat → Nat) (w : World) (vf : Nat → Value) (rs : List A) : List (Nat × Sh) → Nat → List (Nat × Value)
  | [], _ => []
  | (o, s) :: r, j => (backBox (rb o) s (rs.getD j .undef)).2.2.map (fun p => (p.1, handleOf w (vf j) (p.1 - rb o))) ++ backBoxesH rb w vf rs r (j + 1)
theorem backBoxesH_fst (rb : Nat → Nat) (w : World) (vf : Nat → Value) (rs : List A) : ∀ (bs : List (Nat × Sh)) (j : Nat), (backBoxesH rb w vf rs bs j).map (·.1) = (backBoxes rb rs bs j).2.2.map (·.1) := by
  intro bs
  induction bs with
  | nil => intro j; rfl
  | cons b bs ih => intro j; obtain ⟨q, ks⟩ := b; simp [backBoxesH, backBoxes, ih]
theorem backBoxes_fst (rb : Nat → Nat) (rs : List A) : ∀ (bs : List (Nat × Sh)) (j : Nat), (backBoxes rb rs bs j).2.1.map (·.1) = bs.map (·.1) := by
  intro bs
  induction bs with
  | nil => intro j; rfl
  | cons b bs ih => intro j; obtain ⟨q, ks⟩ := b; simp [backBoxes, ih]

theorem backBox_spec {rb : Nat} {Oc O' : Own} {objs' : List (Nat × Obj)} {m' : Nat → Value} {v : Value} {cid q : Nat} {s : Sh} {r : A} (hp : Pres Oc w O' w) (hn : ∀ b k, Oc b k = none → O' b k = none)
    (hs : ∀ ks, s = .box ks → ks.length ≤ 200) (hmq : m' q = v) (hir : IR Oc w cid v (rebox r)) (hr : ∀ b k i, i < 255 → Oc b k = some (cid + i) → O' b k = some (if i = 0 then q else rb + i))
    (hok : AllT (backBox rb s r).1) (hO : ∀ p ∈ (backBox rb s r).2.2, aget objs' p.1 = some p.2) (hm : ∀ p ∈ (backBox rb s r).2.2, m' p.1 = handleOf w v (p.1 - rb)) :
    ORel O' objs' m' w q (backBox rb s r).2.1 ∧ ∀ p ∈ (backBox rb s r).2.2, ORel O' objs' m' w p.1 p.2 := by
  cases s with
  | cell _ _ => have := hok false (by simp [backBox]); cases this
  | agg _ => have := hok false (by simp [backBox]); cases this
  | map kt vt =>
    simp only [backBox] at hok ⊢
    obtain ⟨l, rfl, _, _⟩ := isUmp_eq hok.cons.1
    refine ⟨?_, fun p hp => by cases hp⟩
    show MRel O' w q (m' q) l
    rw [hmq]
    exact MRel.carry (show MRel Oc w cid v l from hir) hp (fun b k hb => by have := hr b k 0 (by omega) hb; exact this)
  | box ks =>
    have hf := hs ks rfl
    simp only [backBox] at hok hO hm ⊢
    obtain ⟨hok0, hok1⟩ := hok.cons
    cases r with
    | agg cs =>
      have hl : cs.length = ks.length := by simpa [A.isAgg, nbeq] using hok0
      obtain ⟨bk, base, h1, h2⟩ := (show IR Oc w cid v (.box cs) from hir)
      have hcell : ∀ j, handleOf w v (j + 1) = (w.cell? (at' bk (base + j))).getD undef := by intro j; rw [h1]; rfl
      obtain ⟨k1, k2, k3⟩ := backCells_spec (objs' := objs') (m' := m') (cid := cid + 1) (id := rb + 1) (f := fun j => (w.cell? (at' bk (base + j))).getD undef) hp hn ks cs 0 (fun j hj => by
        obtain ⟨_, _, u, h5, h6⟩ := h2 j (by omega)
        rw [Nat.zero_add, h5]; exact h6) (fun b k i hi hb => by
        have := hr b k (1 + i) (by omega) (by rw [← Nat.add_assoc]; exact hb)
        rw [if_neg (by omega), ← Nat.add_assoc] at this; exact this) hok1 hO (fun p hp i hi => by
        have := hm p hp
        rw [this, hi, show rb + 1 + i - rb = i + 1 from by omega, hcell])
      refine ⟨⟨bk, base, by rw [hmq]; exact h1, fun j hj => ?_⟩, fun p hp => (k3 p hp).1⟩
      have hj : j < (backCells (rb + 1) ks cs 0).2.1.length := hj
      rw [k1] at hj
      obtain ⟨a1, a2, u, a3, _⟩ := h2 j (by omega)
      have := k2 j hj
      rw [Nat.zero_add, a3] at this
      exact ⟨by have := hr bk (base + j) 0 (by omega) a1; exact this, a2, u, a3, this⟩
    | _ => cases hok0

theorem backBoxes_spec {rb : Nat → Nat} {Oc O' : Own} {objs' : List (Nat × Obj)} {m' : Nat → Value} {val : Nat → Value} {cid : Nat → Nat} {rs : List A} (hp : Pres Oc w O' w) (hn : ∀ b k, Oc b k = none → O' b k = none) : ∀ (bs : List (Nat × Sh)) (j0 : Nat),
    (∀ (j : Nat) (p : Nat × Sh), bs[j]? = some p → (∀ ks, p.2 = .box ks → ks.length ≤ 200) ∧ m' p.1 = val (j0 + j) ∧ IR Oc w (cid (j0 + j)) (val (j0 + j)) (rebox (rs.getD (j0 + j) .undef)) ∧ ∀ b k i, i < 255 → Oc b k = some (cid (j0 + j) + i) → O' b k = some (if i = 0 then p.1 else rb p.1 + i)) →
    AllT (backBoxes rb rs bs j0).1 → (∀ p ∈ (backBoxes rb rs bs j0).2.2, aget objs' p.1 = some p.2) → (∀ p ∈ backBoxesH rb w val rs bs j0, m' p.1 = p.2) →
    (∀ p ∈ (backBoxes rb rs bs j0).2.1, ORel O' objs' m' w p.1 p.2) ∧ ∀ p ∈ (backBoxes rb rs bs j0).2.2, ORel O' objs' m' w p.1 p.2 := by
  intro bs
  induction bs with
  | nil => intro j0 _ _ _ _; exact ⟨fun p hp => by simp [backBoxes] at hp, fun p hp => by simp [backBoxes] at hp⟩
  | cons b bs ih =>
    intro j0 h hok hO hm
    obtain ⟨q, s⟩ := b
    simp only [backBoxes] at hok hO ⊢
    simp only [backBoxesH] at hm
    obtain ⟨hok1, hok2⟩ := hok.append
    obtain ⟨g1, g2⟩ := ih (j0 + 1) (fun j p hj => by have := h (j + 1) p (by simpa using hj); rwa [show j0 + (j + 1) = j0 + 1 + j from by omega] at this) hok2 (fun p hp => hO p (List.mem_append_right _ hp)) (fun p hp => hm p (List.mem_append_right _ hp))
    obtain ⟨hf, hmq, hir, hr⟩ := h 0 (q, s) rfl
    rw [Nat.add_zero] at hmq hir hr
    obtain ⟨k1, k2⟩ := backBox_spec (objs' := objs') (m' := m') (rb := rb q) (q := q) hp hn hf hmq hir hr hok1 (fun p hp => hO p (List.mem_append_left _ hp)) (fun p hp => hm (p.1, handleOf w (val j0) (p.1 - rb q)) (List.mem_append_left _ (List.mem_map.2 ⟨p, hp, rfl⟩)))
    refine ⟨fun p hp => ?_, fun p hp => ?_⟩
    · rcases List.mem_cons.1 hp with rfl | hp
      · exact k1
      · exact g1 p hp
    · rcases List.mem_append.1 hp with hp | hp
      · exact k2 p hp
      · exact g2 p hp
end
end Go.Proofs.YtnllccjmbijjlaaGreat.Vm

/-
  A call, put together.
-/
namespace Go.Proofs.YtnllccjmbijjlaaGreat.Vm
open Classical

section
variable {P : Program} {C : Ctx} {V0 : Nat → Value} {O0 O : Own} {w0 w : World} {m : Nat → Value} {st : St} {a : Act} {o : Oper}

/-- the caller's object behind a parameter that is a box or a map -/
def boxAt (ss : List Sh) (xs : List A) (i : Nat) : Option Nat := match ss.getD i (.agg []), xs.getD i .undef with
  | .map _ _, .own o => some o
  | _, .ptr o _ => some o
  | _, _ => none
/-- the caller's names for what the callee leaves -/
def sigma (rb : Nat → Nat) (d : Nat) (ss : List Sh) (xs : List A) (n : Nat) : Option Nat :=
  if 256000 ≤ n then some (b2 d + 16 * ((n - 256000) / 256) + (n - 256000) % 256)
  else match boxAt ss xs (n / 256) with
    | some q => some (if n % 256 = 0 then q else rb q + n % 256)
    | none => none

/-- an object of the kind that is handed over -/
def okObj : Sh → Obj → Prop
  | .box _, .box _ => True
  | .map _ _, .mp _ => True
  | _, _ => False
theorem okObj_row {s : Sh} {e : Nat} {f : Bool} {l : Sl} (h : okObj s (.arr e f l)) : False := by cases s <;> exact h
theorem okObj_shp {s : Sh} {y : Obj} {rb : Nat} {r : A} (h : okObj s y) : y.shp = (backBox rb s r).2.1.shp := by
  cases s <;> cases y <;> first | exact h.elim | rfl
theorem call_good {c : Call} {f : Nat} {sg : Sig} (hS : Sim V0 O0 w0 O m st a w) (ho : o.op = .call c) (hcal : c.callee = .value (.func f)) (hsg : C.G f = some sg) (hsp : Spec P f sg) {d : Nat} {fet : Fet} (hf : Fet' st.objs fet) {xs : List A}
    (hl : xs.length = c.args.size) (hx : ∀ j, j < xs.length → TRel O st.objs m w (a.eval (c.args.getD j (.tmp 0))) (xs.getD j .undef))
    (hok : AllT (callX C fet d f xs).ok) (hfr : ∀ p ∈ (callX C fet d f xs).new, st.fresh p.1 = true) (hnd : nodup ((callX C fet d f xs).new.map (·.1)) = true) : Good P V0 O0 w0 (apply st o (callX C fet d f xs)) o a w := by
  intro next Q hn
  unfold callX at hok hfr hnd hn
  rw [hsg] at hok hfr hnd hn
  dsimp only at hok hfr hnd hn
  generalize hH : handOf fet sg.pars xs = H at *
  obtain ⟨hok1, vsA, upd, del, bxs⟩ := H
  have hHs : handArgs fet sg.pars xs = (hok1, vsA, upd, del, bxs) := by
    unfold handOf at hH
    injection hH with q1 q2 q3 q4 q5
    rw [← q1, ← q2, ← q3, ← q4, ← q5]
  dsimp only at hok hfr hnd hn
  unfold callD at hok
  obtain ⟨hokA, hokB⟩ := hok.append
  obtain ⟨hokA, hokC⟩ := hokA.append
  obtain ⟨hokA, hokD⟩ := hokA.append
  obtain ⟨hokA, hokE⟩ := hokA.append
  obtain ⟨hN, hokB⟩ := hokB.cons
  obtain ⟨h100, hokB⟩ := hokB.cons
  have h100 := Nat.le_of_ble_eq_true h100
  have hF : sg.F vsA = some (sg.val vsA) := by
    have := hokE.cons.1
    unfold Sig.F
    rw [this]; rfl
  have hokA' : AllT (handArgs fet sg.pars xs).1 := by rw [hHs]; exact hokA
  generalize sg.val vsA = rs at hF hfr hnd hn hokB hokC hokD
  simp only [callD] at hfr hnd hn hokB hokC hokD
  have hcnt := Nat.eq_of_beq_eq_true hokB.cons.1
  -- the arguments
  obtain ⟨g1, g2, g3, g4, g5⟩ := handArgs_spec hf hS.objs 256 sg.pars xs 0 (fun j => a.eval (c.args.getD j (.tmp 0))) hx hokA'
  obtain ⟨b1, b2'⟩ := boxes_ix (fet := fet) (stride := 256) sg.pars xs 0 0 hokA'
  have halive := namesAs_alive (fet := fet) (stride := 256) sg.pars xs 0 hokA'
  rw [hHs] at g1 g3 g4 g5 b1 b2'
  dsimp only at g1 g3 g4 g5 b1 b2'
  generalize hNs : namesAs fet 0 256 sg.pars xs = N at *
  obtain ⟨O1, hS1, hp1, hle1, hv1, hE1, hk1⟩ := hS.freezes _ g3
  let ρ := look N
  have hρ : ∀ p ∈ N, ρ p.1 = some p.2 := look_mem hN
  have hupdO : ∀ p ∈ upd, ORel O1 (setAll st.objs upd) m w p.1 p.2 := by
    intro p hp
    obtain ⟨x, hx1, hx2⟩ := aget_setAll_mem upd st.objs p.1 ⟨p, hp, rfl⟩
    obtain ⟨e, fz, l, k1, k2⟩ := g3 p hp
    obtain ⟨e', fz', l', k3, k4⟩ := g3 _ hx1
    dsimp only at k3 k4
    rw [k1] at k3
    injection k3 with k3; injection k3 with q1 q2 q3
    subst q1; subst q3
    rw [k2, ← k4]
    exact hS1.objs p.1 x hx2
  have hIR := g5 hp1 hv1 hupdO hk1 hρ
  -- the call
  have hargs : (c.args.map a.eval).size = vsA.length := by rw [Array.size_map, ← hl, g2, g1]
  have hexec : (execOp a.eval o).run P w = .ok (.enter f (c.args.map a.eval)) w := by
    simp only [execOp, ho, resolve, hcal, Act.eval, Deferred.ofValue, Sem.run_bind, Sem.run_pure, Result.andThen_ok, invoke]
    have := hsp.1 (c.args.map a.eval) w
    simpa using this
  unfold Oper.wp
  rw [hexec, Oper.upon_enter]
  refine (hsp.2 (relab O1 ρ) w (c.args.map a.eval) vsA rs hargs g1 (by rw [g1, ← g2]; exact h100) (fun j hj => ?_) hF).mono ?_
  · have := hIR j (by rw [← g1]; exact hj)
    rw [Nat.zero_add] at this
    have e : (c.args.map a.eval).getD j undef = a.eval (c.args.getD j (.tmp 0)) := by
      have hjs : j < c.args.size := by rw [← hl, g2, ← g1]; exact hj
      simp [Array.getD_eq_getD_getElem?, hjs]
    rw [e]; exact this
  rintro e w' ⟨v, Of, rfl, hcame⟩
  dsimp only
  obtain ⟨us, hus1, hus2, hus3⟩ := hcame.res
  -- the new owners
  let T : Nat → Prop := fun q => ∃ i, ρ q = some i
  let O2 : Own := fun b k => if b < w.heap.size then (match O1 b k with | none => none | some q => if T q then (Of b k).bind (sigma (rowBase fet) d sg.pars xs) else some q) else (Of b k).bind (sigma (rowBase fet) d sg.pars xs)
  have hM : Moves O1 T w w' := hcame.moves.unrelab
  have hO2lt : ∀ {b k}, b < w.heap.size → O2 b k = (match O1 b k with | none => none | some q => if T q then (Of b k).bind (sigma (rowBase fet) d sg.pars xs) else some q) := fun hb => if_pos hb
  have hP2 : Passes O1 O2 T w.heap.size := by
    refine ⟨fun b k hb h => by rw [hO2lt hb, h], fun b k q hb h ht => ?_⟩
    rw [hO2lt hb, h]
    exact if_neg ht
  have hless2 : ∀ b k, b < w.heap.size → O2 b k ≠ none → O1 b k ≠ none := by
    intro b k hb h h'
    rw [hO2lt hb, h'] at h; exact h rfl
  have hnone : ∀ b k, Of b k = none → O2 b k = none := by
    intro b k h
    by_cases hb : b < w.heap.size
    · rw [hO2lt hb]
      cases hO : O1 b k with
      | none => rfl
      | some q =>
        by_cases ht : T q
        · show (if T q then _ else _) = _
          rw [if_pos ht, h]; rfl
        · exfalso
          have hr : relab O1 ρ b k = some 255 := by
            unfold relab; rw [hO]
            have : ρ q = none := by
              cases hh : ρ q with
              | none => rfl
              | some i => exact absurd ⟨i, hh⟩ ht
            simp [this]
          have := hcame.junk b k hb hr
          rw [h] at this; cases this
    · show (if _ then _ else _) = _
      rw [if_neg hb, h]; rfl
  have hsome : ∀ b k n, Of b k = some n → n ≠ 255 → O2 b k = sigma (rowBase fet) d sg.pars xs n := by
    intro b k n h hne
    by_cases hb : b < w.heap.size
    · rw [hO2lt hb]
      have h1 := hcame.less b k hb (by rw [h]; simp)
      rw [Ne, relab_none] at h1
      cases hO : O1 b k with
      | none => exact absurd hO h1
      | some q =>
        by_cases ht : T q
        · show (if T q then _ else _) = _
          rw [if_pos ht, h]; rfl
        · exfalso
          have hr : relab O1 ρ b k = some 255 := by
            unfold relab; rw [hO]
            have : ρ q = none := by
              cases hh : ρ q with
              | none => rfl
              | some i => exact absurd ⟨i, hh⟩ ht
            simp [this]
          have := hcame.junk b k hb hr
          rw [h] at this; injection this with this; exact hne this
    · show (if _ then _ else _) = _
      rw [if_neg hb, h]; rfl
  have hpf : Pres Of w' O2 w' := fun b k u h hc => ⟨hnone b k h, hc⟩
  -- the new handles
  have hbcnt : bxs.length = (boxIx sg.pars 0).length := b1
  let bi : Nat → Nat := fun j => (boxIx sg.pars 0).getD j 0
  let bval : Nat → Value := fun j => a.eval (c.args.getD (bi j) (.tmp 0))
  let HV := backsH w' (fun k => us.getD k undef) (b2 d) 16 sg.ress rs 0 ++ backBoxesH (rowBase fet) w' bval (rs.drop sg.ress.length) bxs 0
  have hHVf : HV.map (·.1) = ((backs (b2 d) 16 sg.ress rs 0).2.2 ++ (backBoxes (rowBase fet) (rs.drop sg.ress.length) bxs 0).2.2).map (·.1) := by
    simp only [HV, List.map_append, backsH_fst, backBoxesH_fst]
  have hHVn : nodup (HV.map (·.1)) = true := by rw [hHVf]; exact hnd
  let m2 : Nat → Value := fun i => (lookV HV i).getD (m i)
  have hm2 : ∀ p ∈ HV, m2 p.1 = p.2 := by
    intro p hp
    show (lookV HV p.1).getD _ = _
    rw [lookV_mem hHVn p hp]; rfl
  let Nw : Nat → Prop := fun i => ∃ p ∈ (backs (b2 d) 16 sg.ress rs 0).2.2 ++ (backBoxes (rowBase fet) (rs.drop sg.ress.length) bxs 0).2.2, p.1 = i
  have hNw : ∀ i, Nw i → Fresh { st with objs := setAll st.objs upd } i := by
    rintro i ⟨p, hp, rfl⟩
    exact (fresh_not (hfr p hp)).frz g3
  have hm2not : ∀ i, ¬ Nw i → m2 i = m i := by
    intro i hi
    show (lookV HV i).getD _ = _
    rw [lookV_none (fun h => ?_)]
    · rfl
    · rw [hHVf] at h
      obtain ⟨p, hp, hpe⟩ := List.mem_map.1 h
      exact hi ⟨p, hp, hpe⟩
  -- roles
  have hrres : ∀ j, j < sg.ress.length → ∀ b k i, i < 255 → Of b k = some (256000 + 256 * (0 + j) + i) → O2 b k = some (b2 d + 16 * (0 + j) + i) := by
    intro j hj b k i hi h
    rw [hsome b k _ h (by omega)]
    unfold sigma
    rw [if_pos (by omega), Nat.zero_add]
    have e1 : (256000 + 256 * j + i - 256000) / 256 = j := by omega
    have e2 : (256000 + 256 * j + i - 256000) % 256 = i := by omega
    rw [e1, e2]
  have hbx : ∀ (j : Nat) (p : Nat × Sh), bxs[j]? = some p → (∃ y, aget st.objs p.1 = some y ∧ okObj p.2 y) ∧ (∀ ks, p.2 = .box ks → ks.length ≤ 200) ∧ m p.1 = bval j ∧ IR Of w' (256 * bi j) (bval j) (rebox (rs.getD (sg.ress.length + j) .undef)) ∧
      ∀ b k i, i < 255 → Of b k = some (256 * bi j + i) → O2 b k = some (if i = 0 then p.1 else rowBase fet p.1 + i) := by
    intro j p hp
    obtain ⟨i', a1, a2, a3, a4, a7⟩ := b2' j p hp
    rw [Nat.zero_add] at a1
    have hbi : bi j = i' := by show (boxIx sg.pars 0).getD j 0 = _; rw [List.getD_eq_getElem?_getD, a1]; rfl
    have c2 := hcame.boxes j i' a1
    have hi'x : i' < xs.length := by rw [g2]; exact a2
    have hxv := hx i' hi'x
    have hF' : FOk O st.objs m w fet := fun q x h => ⟨hf q x h, hS.objs q x (hf q x h)⟩
    have hkey : (∃ y, aget st.objs p.1 = some y ∧ okObj p.2 y) ∧ (∀ ks, p.2 = .box ks → ks.length ≤ 200) ∧ m p.1 = a.eval (c.args.getD i' (.tmp 0)) ∧ boxAt sg.pars xs i' = some p.1 := by
      obtain ⟨q, s⟩ := p
      have hsh : sg.pars.getD i' (.agg []) = s := by rw [List.getD_eq_getElem?_getD, a7]; rfl
      cases s with
      | cell _ _ => exact a4.elim
      | agg _ => exact a4.elim
      | box ks =>
        obtain ⟨⟨cs0, a4⟩, a5, a6⟩ := a4
        have e5 : xs.getD i' .undef = .ptr q 0 := by rw [List.getD_eq_getElem?_getD, a5]; rfl
        rw [e5] at hxv
        obtain ⟨bk, base, k1, k2, _⟩ := hxv.ptr hF' a4
        refine ⟨⟨_, hf _ _ a4, trivial⟩, (fun ks' h => by injection h with h; rw [← h]; exact a6), by dsimp only at k1 ⊢; rw [k1, k2, Nat.add_zero], ?_⟩
        unfold boxAt; rw [hsh, e5]
      | map kt vt =>
        obtain ⟨⟨l, a4⟩, a5⟩ := a4
        have e5 : xs.getD i' .undef = .own q := by rw [List.getD_eq_getElem?_getD, a5]; rfl
        rw [e5] at hxv
        have hc : CRel O st.objs m w (a.eval (c.args.getD i' (.tmp 0))) (.own q) := hxv
        have hc := hc.2
        rw [hf _ _ a4] at hc
        refine ⟨⟨_, hf _ _ a4, trivial⟩, (fun ks' h => by cases h), hc.symm, ?_⟩
        unfold boxAt; rw [hsh, e5]
    obtain ⟨hky, hk200, hkm, e7⟩ := hkey
    have e6 : (c.args.map a.eval).getD i' undef = a.eval (c.args.getD i' (.tmp 0)) := by
      have hjs : i' < c.args.size := by rw [← hl]; exact hi'x
      simp [Array.getD_eq_getD_getElem?, hjs]
    refine ⟨hky, hk200, ?_, ?_, fun b k i hi h => ?_⟩
    · show _ = a.eval (c.args.getD (bi j) (.tmp 0))
      rw [hbi]; exact hkm
    · show IR Of w' (256 * bi j) (a.eval (c.args.getD (bi j) (.tmp 0))) _
      rw [hbi, ← e6]; exact c2
    · rw [hbi] at h
      rw [hsome b k _ h (by omega)]
      unfold sigma
      rw [if_neg (by omega)]
      have e1 : (256 * i' + i) / 256 = i' := by omega
      have e2 : (256 * i' + i) % 256 = i := by omega
      rw [e1, e2, e7]
  -- the objects
  let NEW := (backs (b2 d) 16 sg.ress rs 0).2.2 ++ (backBoxes (rowBase fet) (rs.drop sg.ress.length) bxs 0).2.2
  let BX := (backBoxes (rowBase fet) (rs.drop sg.ress.length) bxs 0).2.1
  let objsF := setAll (delAll (setAll st.objs (upd ++ BX)) del) NEW
  have hnewO : ∀ p ∈ NEW, aget objsF p.1 = some p.2 := fun p hp => aget_new hnd hp
  have hBXk : ∀ i z, (i, z) ∈ BX → ∃ (j : Nat) (p : Nat × Sh), bxs[j]? = some p ∧ p.1 = i ∧ ∃ r, z = (backBox (rowBase fet p.1) p.2 r).2.1 := by
    intro i z hz
    have : ∀ (bs : List (Nat × Sh)) (j0 : Nat), (i, z) ∈ (backBoxes (rowBase fet) (rs.drop sg.ress.length) bs j0).2.1 → ∃ (j : Nat) (p : Nat × Sh), bs[j]? = some p ∧ p.1 = i ∧ ∃ r, z = (backBox (rowBase fet p.1) p.2 r).2.1 := by
      intro bs
      induction bs with
      | nil => intro j0 h; simp [backBoxes] at h
      | cons b bs ih =>
        intro j0 h
        obtain ⟨q, ks⟩ := b
        simp only [backBoxes] at h
        rcases List.mem_cons.1 h with h | h
        · injection h with h1 h2
          exact ⟨0, (q, ks), rfl, h1.symm, _, h2⟩
        · obtain ⟨j, p, h1, h2⟩ := ih (j0 + 1) h
          exact ⟨j + 1, p, by simpa using h1, h2⟩
    exact this bxs 0 hz
  have hupdk : ∀ i z, (i, z) ∈ upd → (∃ e l f, z = .arr e true l ∧ aget st.objs i = some (.arr e f l)) ∧ aget (setAll st.objs upd) i = some z := by
    intro i z hz
    obtain ⟨e, fz, l, k1, k2⟩ := g3 _ hz
    dsimp only at k1 k2
    refine ⟨⟨e, l, fz, k2, k1⟩, ?_⟩
    obtain ⟨x, hx1, hx2⟩ := aget_setAll_mem upd st.objs i ⟨(i, z), hz, rfl⟩
    obtain ⟨e', fz', l', k3, k4⟩ := g3 _ hx1
    dsimp only at k3 k4
    rw [k1] at k3
    injection k3 with k3; injection k3 with q1 q2 q3
    subst q1; subst q3
    rw [hx2, k4, k2]
  have hnoBX : ∀ i, (∃ e f l, aget st.objs i = some (.arr e f l)) → ∀ y, (i, y) ∉ BX := by
    rintro i ⟨e, f', l, h⟩ y hy
    obtain ⟨j, p, h1, h2, _⟩ := hBXk i y hy
    obtain ⟨⟨y', h3, h4⟩, _⟩ := hbx j p h1
    rw [h2, h] at h3; injection h3 with h3; subst h3
    exact okObj_row h4
  have hTiff : ∀ i, T i → i ∈ del ∨ ∃ y, (i, y) ∈ BX := by
    rintro i ⟨n, hn'⟩
    have h1 : (i, n) ∈ N := look_some hn'
    have h2 := (g4 i).2 (List.mem_map.2 ⟨_, h1, rfl⟩)
    rcases List.mem_append.1 h2 with h2 | h2
    · exact .inl h2
    · right
      rw [← backBoxes_fst (rowBase fet) (rs.drop sg.ress.length) bxs 0] at h2
      obtain ⟨q, hq1, hq2⟩ := List.mem_map.1 h2
      exact ⟨q.2, by rw [← hq2]; exact hq1⟩
  have hget : ∀ i z, aget objsF i = some z → (i, z) ∈ NEW ∨ (¬ Nw i ∧ i ∉ del ∧ ((i, z) ∈ BX ∨ ((∀ y, (i, y) ∉ BX) ∧ aget (setAll st.objs upd) i = some z))) := by
    intro i z hz
    rcases aget_apply hz with h | ⟨hno, hnd', h⟩
    · exact .inl h
    · have hni : ¬ Nw i := by rintro ⟨p, hp, rfl⟩; exact hno p.2 hp
      refine .inr ⟨hni, hnd', ?_⟩
      rcases h with h | ⟨h1, h2⟩
      · rcases List.mem_append.1 h with h | h
        · obtain ⟨⟨e, l, f', h3, h4⟩, h5⟩ := hupdk i z h
          exact .inr ⟨hnoBX i ⟨e, f', l, h4⟩, h5⟩
        · exact .inl h
      · right
        refine ⟨fun y hy => h1 y (List.mem_append_right _ hy), ?_⟩
        rw [aget_setAll_not _ _ _ (fun p hp e => h1 p.2 (List.mem_append_left _ (by rw [← e]; exact hp)))]
        exact h2
  have hbxst : ∀ i z, (i, z) ∈ BX → ∃ y, aget st.objs i = some y ∧ aget (setAll st.objs upd) i = some y ∧ y.shp = z.shp := by
    intro i z hz
    obtain ⟨j, p, h1, h2, r, h4⟩ := hBXk i z hz
    obtain ⟨⟨y, h3, h5⟩, _⟩ := hbx j p h1
    rw [h2] at h3
    refine ⟨y, h3, ?_, by rw [h4]; exact okObj_shp h5⟩
    rw [aget_setAll_not _ _ _ (fun p hp e => ?_)]
    · exact h3
    · obtain ⟨⟨e1, e2, e3, _, h6⟩, _⟩ := hupdk p.1 p.2 hp
      rw [e, h3] at h6; injection h6 with h6; rw [h6] at h5; exact okObj_row h5
  have hE : Exts (setAll st.objs upd) m objsF m2 Nw := by
    intro i z hz
    rcases hget i z hz with h | ⟨h1, h2, h | ⟨h3, h4⟩⟩
    · exact .inl ⟨_, h, rfl⟩
    · obtain ⟨y, h5, h6, h7⟩ := hbxst i z h
      exact .inr ⟨y, h6, h7, hm2not i h1⟩
    · exact .inr ⟨z, h4, rfl, hm2not i h1⟩
  obtain ⟨r1, r2, r3⟩ := backs_spec (objs' := objsF) (m' := m2) (cid := 256000) (cst := 256) (id := b2 d) (stride := 16) (f := fun k => us.getD k undef) (rs := rs) hpf hnone sg.ress 0 (fun j hj => by
    have := hus3 j (by rw [hus1]; exact hj)
    rw [Nat.zero_add]; exact this) hrres hokD (fun p hp => hnewO p (List.mem_append_left _ hp)) (fun p hp => hm2 p (List.mem_append_left _ hp))
  obtain ⟨s1, s2⟩ := backBoxes_spec (rb := rowBase fet) (objs' := objsF) (m' := m2) (val := bval) (cid := fun j => 256 * bi j) (rs := rs.drop sg.ress.length) hpf hnone bxs 0 (fun j p hp => by
    obtain ⟨⟨y0, h0, h0'⟩, h1, h2, h4, h5⟩ := hbx j p hp
    have hni : ¬ Nw p.1 := fun h => by
      have := (hNw p.1 h).objs
      dsimp only at this
      rw [aget_setAll_not _ _ _ (fun p' hp' e => ?_)] at this
      · rw [h0] at this; cases this
      · obtain ⟨⟨e1, e2, e3, _, h6⟩, _⟩ := hupdk p'.1 p'.2 hp'
        rw [e, h0] at h6; injection h6 with h6; rw [h6] at h0'; exact okObj_row h0'
    rw [Nat.zero_add]
    refine ⟨h1, by rw [hm2not _ hni]; exact h2, ?_, h5⟩
    rw [List.getD_eq_getElem?_getD, List.getElem?_drop, ← List.getD_eq_getElem?_getD]; exact h4) hokC (fun p hp => hnewO p (List.mem_append_right _ hp)) (fun p hp => hm2 p (List.mem_append_right _ hp))
  -- the value
  let vsR := (backs (b2 d) 16 sg.ress rs 0).2.1
  have hval : TRel O2 objsF m2 w' v (tupOf vsR) := by
    have hlen : vsR.length = us.size := by rw [r1, hus1]
    rw [hus2]
    by_cases h1 : us.size = 1
    · rw [dif_pos h1]
      obtain ⟨x, hx'⟩ : ∃ x, vsR = [x] := List.length_eq_one_iff.1 (by rw [hlen]; exact h1)
      rw [hx']
      have := (r2 0 (by rw [← hus1]; omega)).1
      have e1 : (backs (b2 d) 16 sg.ress rs 0).2.1.getD 0 .undef = x := by
        show vsR.getD 0 .undef = x
        rw [hx']; rfl
      rw [e1] at this
      have e2 : us.getD (0 + 0) undef = us[0] := by simp [Array.getD_eq_getD_getElem?, show 0 < us.size from by omega]
      rw [← e2]; exact this
    · rw [dif_neg h1]
      have e1 : tupOf vsR = .tup vsR := by
        cases hv' : vsR with
        | nil => rfl
        | cons x l =>
          cases l with
          | nil => rw [hv'] at hlen; simp at hlen; omega
          | cons _ _ => rfl
      rw [e1]
      refine ⟨us, rfl, hlen.symm, fun j hj => ?_⟩
      have hj' : j < sg.ress.length := by rw [← r1]; exact hj
      have := r2 j hj'
      rw [Nat.zero_add] at this
      exact this.1.toT1 this.2
  refine hn O2 m2 _ _ ?_
  refine hS1.next (T := T) (Nw := Nw) (x := tupOf vsR) hM hP2 hless2 hE (fun n hn' => (hNw n hn').both) (fun q hq => ?_) (fun i z hz => ?_) rfl (fun _ => hval)
  · obtain ⟨n, hn'⟩ := hq
    have h1 : (q, n) ∈ N := look_some hn'
    have h2 := halive _ h1
    obtain ⟨y, hy⟩ := Option.isSome_iff_exists.1 h2
    have h3 := hf _ _ hy
    by_cases hu : ∃ p ∈ upd, p.1 = q
    · obtain ⟨x, _, hx2⟩ := aget_setAll_mem upd st.objs q hu
      exact Option.isSome_iff_exists.2 ⟨x, hx2⟩
    · dsimp only
      rw [aget_setAll_not _ _ _ (fun p hp e => hu ⟨p, hp, e⟩)]
      exact Option.isSome_iff_exists.2 ⟨y, h3⟩
  · rcases hget i z hz with h | ⟨h1, h2, h | ⟨h3, h4⟩⟩
    · right
      refine ⟨?_, (hNw i ⟨_, h, rfl⟩).ne⟩
      rcases List.mem_append.1 h with h | h
      · exact r3 _ h
      · exact s2 _ h
    · right
      obtain ⟨y, h5, h6, _⟩ := hbxst i z h
      exact ⟨s1 _ h, hS.ids i _ h5⟩
    · left
      refine ⟨fun ht => ?_, h4, hm2not i h1⟩
      rcases hTiff i ht with h | ⟨y, hy⟩
      · exact h2 h
      · exact h3 y hy
end
end Go.Proofs.YtnllccjmbijjlaaGreat.Vm

/-
  One operation of the small machine against the real one.
-/
namespace Go.Proofs.YtnllccjmbijjlaaGreat.Vm
open Classical

structure CtxOk (P : Program) (C : Ctx) : Prop where
  T : TOk P C
  G : ∀ f sg, C.G f = some sg → Spec P f sg
  alt : ∀ f q, C.alt f = some q → Spec P f q.1 ∧ Spec P f q.2.1
theorem CtxOk.put {P : Program} {C : Ctx} (h : CtxOk P C) {f : Nat} {s : Sig} (hs : Spec P f s) : CtxOk P (C.put f s) :=
  ⟨h.T, fun k sg hk => by
    have hk' : (bif Nat.beq f k then some s else C.G k) = some sg := hk
    cases hb : Nat.beq f k with
    | true => rw [hb] at hk'; injection hk' with e; rw [← e, ← Nat.eq_of_beq_eq_true hb]; exact hs
    | false => rw [hb] at hk'; exact h.G k sg hk', h.alt⟩

section
variable {P : Program} {C : Ctx} {V0 : Nat → Value} {O0 O : Own} {w0 w : World} {m : Nat → Value} {st : St} {a : Act} {o : Oper}

theorem len1 {xs : List A} (h : xs.length = 1) : ∃ x, xs = [x] := List.length_eq_one_iff.1 h
theorem len2 {xs : List A} (h : xs.length = 2) : ∃ x y, xs = [x, y] := by
  match xs, h with
  | [x, y], _ => exact ⟨x, y, rfl⟩
theorem len3 {xs : List A} (h : xs.length = 3) : ∃ x y z, xs = [x, y, z] := by
  match xs, h with
  | [x, y, z], _ => exact ⟨x, y, z, rfl⟩

theorem not_ok {δ : Dl} (h : AllT δ.ok) (e : δ = .no) : False := by rw [e] at h; exact not_AllT_no h

theorem slice_good {t : Nat} {x : Operand} {lo hi : Option Operand} (hC : TOk P C) (hS : Sim V0 O0 w0 O m st a w) (ho : o.op = .slice t x lo hi none) {fet : Fet} (hf : Fet' st.objs fet) {x' : A} {lo' hi' : Option A} (hx : TRel O st.objs m w (a.eval x) x')
    (hlo : ORl O st.objs m w (lo.map a.eval) lo') (hhi : ORl O st.objs m w (hi.map a.eval) hi') (hok : AllT (sliceX C fet t x' lo' hi').ok) : Good P V0 O0 w0 (apply st o (sliceX C fet t x' lo' hi')) o a w := by
  cases x' with
  | str s => exact (slice_str hC ho rfl hx hlo hhi hok).good hS
  | sl l => exact (slice_sl hC ho rfl hx hlo hhi hok).good hS
  | own q => exact sliceOwn_good hC hS ho rfl hf hx hlo hhi hok
  | _ =>
    exfalso
    unfold sliceX at hok
    obtain ⟨ti, ht, he⟩ := tiOf_ok hok
    rw [he] at hok
    exact not_AllT_no hok

theorem a1_ok {k : A → Dl} {v : List A} (h : AllT (a1 k v).ok) : ∃ x, v = [x] := by
  match v, h with
  | [x], _ => exact ⟨x, rfl⟩
  | [], h => exact (not_AllT_no h).elim
  | _ :: _ :: _, h => exact (not_AllT_no h).elim
theorem a2_ok {k : A → A → Dl} {v : List A} (h : AllT (a2 k v).ok) : ∃ x y, v = [x, y] := by
  match v, h with
  | [x, y], _ => exact ⟨x, y, rfl⟩
  | [], h => exact (not_AllT_no h).elim
  | [_], h => exact (not_AllT_no h).elim
  | _ :: _ :: _ :: _, h => exact (not_AllT_no h).elim
theorem a3_ok {k : A → A → A → Dl} {v : List A} (h : AllT (a3 k v).ok) : ∃ x y z, v = [x, y, z] := by
  match v, h with
  | [x, y, z], _ => exact ⟨x, y, z, rfl⟩
  | [], h => exact (not_AllT_no h).elim
  | [_], h => exact (not_AllT_no h).elim
  | [_, _], h => exact (not_AllT_no h).elim
  | _ :: _ :: _ :: _ :: _, h => exact (not_AllT_no h).elim

set_option maxHeartbeats 1000000 in
theorem op_sound (hCx : CtxOk P C) (hS : Sim V0 O0 w0 O m st a w) {fet : Fet} (hf : Fet' st.objs fet) {xs : List A} (hl : xs.length = o.op.operands.size) (hx : ∀ j, j < xs.length → TRel O st.objs m w (a.eval (o.op.operands.getD j (.tmp 0))) (xs.getD j .undef))
    (hids : ∀ x ∈ xs, ∀ i ∈ x.ids, i ∈ st.ids ∨ (aget st.objs i).isSome)
    (hok : AllT (opX C o xs fet).ok) (hfr : ∀ p ∈ (opX C o xs fet).new, st.fresh p.1 = true) (hnd : nodup ((opX C o xs fet).new.map (·.1)) = true) : Good P V0 O0 w0 (apply st o (opX C o xs fet)) o a w := by
  have hC := hCx.T
  have hF : FOk O st.objs m w fet := fun q x h => ⟨hf q x h, hS.objs q x (hf q x h)⟩
  obtain ⟨dst, op, ty, pos, after, guard⟩ := o
  cases op with
  | move x =>
    obtain ⟨x', rfl⟩ := len1 hl
    exact (move_pure (o := ⟨dst, .move x, ty, pos, after, guard⟩) (.inl rfl) (hx 0 (by simp))).good hS
  | assign x =>
    obtain ⟨x', rfl⟩ := len1 hl
    exact (move_pure (o := ⟨dst, .assign x, ty, pos, after, guard⟩) (.inr rfl) (hx 0 (by simp))).good hS
  | pick c x y =>
    obtain ⟨c', x', y', rfl⟩ := len3 hl
    exact (pick_pure rfl (hx 0 (by simp)) (hx 1 (by simp)) (hx 2 (by simp)) hok).good hS
  | alloc t =>
    obtain rfl : xs = [] := List.eq_nil_of_length_eq_zero hl
    obtain ⟨d, hd, he⟩ := optX_ok (show AllT (optX dst fun d => allocX C d t).ok from hok)
    have e1 : opX C ⟨dst, .alloc t, ty, pos, after, guard⟩ [] fet = allocX C d t := he
    rw [e1] at hok hfr hnd ⊢
    exact allocX_good hC hS hd rfl hok hfr hnd
  | box t x =>
    obtain ⟨x', rfl⟩ := len1 hl
    obtain ⟨d, hd, he⟩ := optX_ok (show AllT (optX dst fun d => boxX C d t x').ok from hok)
    have e1 : opX C ⟨dst, .box t x, ty, pos, after, guard⟩ [x'] fet = boxX C d t x' := he
    rw [e1] at hok hfr hnd ⊢
    exact boxOp_good hC hS hd rfl (hx 0 (by simp)) (hids x' (by simp)) hok hfr hnd
  | build t ps =>
    have hps : xs.length = ps.size := by
      rw [hl]; simp [Op.operands]
    have e1 : opX C ⟨dst, .build t ps, ty, pos, after, guard⟩ xs fet = buildX C t ((ps.toList.map (fun (p : Nat × Operand) => p.1)).zip xs) := rfl
    rw [e1] at hok ⊢
    refine (build_pure (o := ⟨dst, .build t ps, ty, pos, after, guard⟩) (ps := ps) (xs := (ps.toList.map (fun (p : Nat × Operand) => p.1)).zip xs) hC rfl (by simp [hps]) (fun j x p hxj hpj => ?_) hok).good hS
    have hj : j < ps.size := (Array.getElem?_eq_some_iff.1 hpj).1
    have hjx : j < xs.length := by omega
    rw [List.getElem?_zip_eq_some] at hxj
    obtain ⟨h1, h2⟩ := hxj
    have := hx j hjx
    have e1 : (Op.build t ps).operands.getD j (.tmp 0) = p.2 := by
      simp only [Op.operands]
      rw [Array.getD_eq_getD_getElem?]
      simp [hpj]
    have e2 : xs.getD j .undef = x.2 := by rw [List.getD_eq_getElem?_getD, h2]; rfl
    refine ⟨?_, ?_⟩
    · simp [hpj] at h1; exact h1
    · rw [← e1, ← e2]; exact this
  | buildSlice t n ps =>
    obtain ⟨d, hd, he⟩ := optX_ok (show AllT (optX dst fun d => buildSliceX C fet d t n ((ps.toList.map (·.1)).zip xs)).ok from hok)
    have e1 : opX C ⟨dst, .buildSlice t n ps, ty, pos, after, guard⟩ xs fet = buildSliceX C fet d t n ((ps.toList.map (·.1)).zip xs) := he
    rw [e1] at hok hfr ⊢
    have hps : xs.length = ps.size := by
      rw [hl]; simp [Op.operands]
    refine buildSlice_good (o := ⟨dst, .buildSlice t n ps, ty, pos, after, guard⟩) (ps := ps) (xs := (ps.toList.map (·.1)).zip xs) hC hS hd rfl hf (by simp [hps]) (fun j x p hxj hpj => ?_) hok hfr
    have hj : j < ps.size := (Array.getElem?_eq_some_iff.1 hpj).1
    have hjx : j < xs.length := by omega
    rw [List.getElem?_zip_eq_some] at hxj
    obtain ⟨h1, h2⟩ := hxj
    have := hx j hjx
    have e1 : (Op.buildSlice t n ps).operands.getD j (.tmp 0) = p.2 := by
      simp only [Op.operands]
      rw [Array.getD_eq_getD_getElem?]
      simp [hpj]
    have e2 : xs.getD j .undef = x.2 := by rw [List.getD_eq_getElem?_getD, h2]; rfl
    refine ⟨?_, ?_⟩
    · simp [hpj] at h1; exact h1
    · rw [← e1, ← e2]; exact this
  | load t x =>
    obtain ⟨x', rfl⟩ := len1 hl
    exact (load_pure hC hF rfl (hx 0 (by simp)) hok).good hS
  | store t x y =>
    obtain ⟨x', y', rfl⟩ := len2 hl
    cases dst with
    | some d => exact (not_AllT_no hok).elim
    | none =>
      have e1 : opX C ⟨none, .store t x y, ty, pos, after, guard⟩ [x', y'] fet = storeX C fet t x' y' := rfl
      rw [e1] at hok hfr hnd ⊢
      cases x' with
      | ptr q off => exact storeBox_good hC hS rfl rfl hf (hx 0 (by simp)) (hx 1 (by simp)) (hids y' (by simp)) hok hfr hnd
      | oelt q i off => exact storeRow_good hC hS rfl rfl hf (hx 0 (by simp)) (hx 1 (by simp)) hok
      | _ =>
        exfalso
        unfold storeX at hok
        obtain ⟨ti, ht, he⟩ := tiOf_ok hok
        rw [he] at hok
        exact not_AllT_no hok
  | nilCheck x =>
    obtain ⟨x', rfl⟩ := len1 hl
    exact (nilCheck_pure hF rfl (hx 0 (by simp)) hok).good hS
  | binOp op t x y t' =>
    obtain ⟨x', y', rfl⟩ := len2 hl
    exact (bin_pure hC hF rfl (hx 0 (by simp)) (hx 1 (by simp)) hok).good hS
  | unOp op t x =>
    obtain ⟨x', rfl⟩ := len1 hl
    exact (un_pure rfl (hx 0 (by simp)) hok).good hS
  | convert s t x =>
    obtain ⟨x', rfl⟩ := len1 hl
    exact conv_good (o := ⟨dst, .convert s t x, ty, pos, after, guard⟩) hC hS rfl hf (hx 0 (by simp)) hok hfr
  | makeSlice t l c =>
    obtain ⟨l', c', rfl⟩ := len2 hl
    obtain ⟨d, hd, he⟩ := optX_ok (show AllT (optX dst fun d => makeX C d t l' c').ok from hok)
    have e1 : opX C ⟨dst, .makeSlice t l c, ty, pos, after, guard⟩ [l', c'] fet = makeX C d t l' c' := he
    rw [e1] at hok hfr ⊢
    exact make_good hC hS hd rfl (hx 0 (by simp)) (hx 1 (by simp)) hok hfr
  | slice t x lo hi mx =>
    have hok' : AllT (slX C fet t lo hi mx xs).ok := hok
    show Good P V0 O0 w0 (apply st _ (slX C fet t lo hi mx xs)) _ a w
    cases mx with
    | some _ => exfalso; cases lo <;> cases hi <;> exact not_AllT_no hok'
    | none =>
      cases lo with
      | none =>
        cases hi with
        | none =>
          obtain ⟨x', rfl⟩ := len1 (by simpa [Op.operands] using hl)
          exact slice_good (o := ⟨dst, .slice t x none none none, ty, pos, after, guard⟩) (lo := none) (hi := none) (lo' := none) (hi' := none) hC hS rfl hf (hx 0 (by simp)) trivial trivial hok'
        | some h =>
          obtain ⟨x', h', rfl⟩ := len2 (by simpa [Op.operands] using hl)
          exact slice_good (o := ⟨dst, .slice t x none (some h) none, ty, pos, after, guard⟩) (lo := none) (hi := some h) (lo' := none) (hi' := some h') hC hS rfl hf (hx 0 (by simp)) trivial (hx 1 (by simp)) hok'
      | some l =>
        cases hi with
        | none =>
          obtain ⟨x', l', rfl⟩ := len2 (by simpa [Op.operands] using hl)
          exact slice_good (o := ⟨dst, .slice t x (some l) none none, ty, pos, after, guard⟩) (lo := some l) (hi := none) (lo' := some l') (hi' := none) hC hS rfl hf (hx 0 (by simp)) (hx 1 (by simp)) trivial hok'
        | some h =>
          obtain ⟨x', l', h', rfl⟩ := len3 (by simpa [Op.operands] using hl)
          exact slice_good (o := ⟨dst, .slice t x (some l) (some h) none, ty, pos, after, guard⟩) (lo := some l) (hi := some h) (lo' := some l') (hi' := some h') hC hS rfl hf (hx 0 (by simp)) (hx 1 (by simp)) (hx 2 (by simp)) hok'
  | fieldAddr t x f =>
    obtain ⟨x', rfl⟩ := len1 hl
    exact (fieldAddr_pure hC hF rfl (hx 0 (by simp)) hok).good hS
  | field t x f =>
    obtain ⟨x', rfl⟩ := len1 hl
    exact (field_pure hC rfl (hx 0 (by simp)) hok).good hS
  | indexAddr t x i =>
    obtain ⟨x', i', rfl⟩ := len2 hl
    exact (indexAddr_pure hC hF rfl (hx 0 (by simp)) (hx 1 (by simp)) hok).good hS
  | index t x i =>
    obtain ⟨x', i', rfl⟩ := len2 hl
    exact (index_pure hC rfl (hx 0 (by simp)) (hx 1 (by simp)) hok).good hS
  | extract x i =>
    obtain ⟨x', rfl⟩ := len1 hl
    exact (extract_pure rfl (hx 0 (by simp)) hok).good hS
  | makeMap t r =>
    obtain ⟨d, hd, he⟩ := optX_ok (show AllT (optX dst fun d => makeMapX C d t xs).ok from hok)
    have e1 : opX C ⟨dst, .makeMap t r, ty, pos, after, guard⟩ xs fet = makeMapX C d t xs := he
    rw [e1] at hok hfr ⊢
    exact makeMap_good hC hS hd rfl (by rw [hl]; rfl) hok hfr
  | lookup t x i c =>
    obtain ⟨x', i', rfl⟩ := len2 hl
    exact (lookup_pure hC hF rfl (hx 0 (by simp)) (hx 1 (by simp)) hok).good hS
  | mapUpdate t x i y =>
    obtain ⟨x', i', y', rfl⟩ := len3 hl
    cases dst with
    | some d => exact (not_AllT_no hok).elim
    | none => exact update_good (o := ⟨none, .mapUpdate t x i y, ty, pos, after, guard⟩) hC hS rfl (.inl rfl) hf (hx 0 (by simp)) (hx 1 (by simp)) (hx 2 (by simp)) hok
  | insert t x i y =>
    obtain ⟨x', i', y', rfl⟩ := len3 hl
    cases dst with
    | some d => exact (not_AllT_no hok).elim
    | none => exact update_good (o := ⟨none, .insert t x i y, ty, pos, after, guard⟩) hC hS rfl (.inr rfl) hf (hx 0 (by simp)) (hx 1 (by simp)) (hx 2 (by simp)) hok
  | call c =>
    obtain ⟨callee, args, ts⟩ := c
    cases callee with
    | value fo =>
      cases fo with
      | func f =>
        have hl' : xs.length = 1 + args.size := by rw [hl]; simp [Op.operands, Call.operands]
        obtain ⟨x0, xs', rfl⟩ : ∃ x0 xs', xs = x0 :: xs' := by
          cases xs with
          | nil => simp at hl'; omega
          | cons x0 xs' => exact ⟨x0, xs', rfl⟩
        have e1 : opX C ⟨dst, .call ⟨.value (.func f), args, ts⟩, ty, pos, after, guard⟩ (x0 :: xs') fet = callX C fet (dst.getD 0) f xs' := rfl
        rw [e1] at hok hfr hnd ⊢
        cases hsg : C.G f with
        | none => exfalso; unfold callX at hok; rw [hsg] at hok; exact not_AllT_no hok
        | some sg =>
          refine call_good hS rfl rfl hsg (hCx.G f sg hsg) hf (by simp at hl'; show xs'.length = args.size; omega) (fun j hj => ?_) hok hfr hnd
          have := hx (j + 1) (by simpa using hj)
          have e2 : (Op.call ⟨.value (.func f), args, ts⟩).operands.getD (j + 1) (.tmp 0) = args.getD j (.tmp 0) := by
            simp only [Op.operands, Call.operands]
            rw [Array.getD_eq_getD_getElem?, Array.getD_eq_getD_getElem?, Array.getElem?_append_right (by simp)]
            simp
          rw [e2] at this
          simpa using this
      | _ => exfalso; exact not_ok hok rfl
    | builtin b =>
      have hok' : AllT (blX C ⟨dst, .call ⟨.builtin b, args, ts⟩, ty, pos, after, guard⟩ fet ts.toList b xs).ok := hok
      cases b with
      | len =>
        obtain ⟨x', rfl⟩ := a1_ok (show AllT (a1 _ xs).ok from hok')
        have hargs : ∃ x, args = #[x] := by
          have : args.size = 1 := by simpa [Op.operands, Call.operands] using hl.symm
          exact ⟨args[0], by apply Array.ext (by simp [this]); intro i h1 h2; have : i = 0 := by omega
                             subst this; rfl⟩
        obtain ⟨x, rfl⟩ := hargs
        obtain ⟨t, ht, he⟩ := optX_ok (show AllT (optX (one? ts.toList) fun t => lenX C fet t x').ok from hok')
        have e1 : opX C ⟨dst, .call ⟨.builtin .len, #[x], ts⟩, ty, pos, after, guard⟩ [x'] fet = lenX C fet t x' := he
        rw [e1] at hok ⊢
        exact (len_pure hC hF rfl rfl rfl (one?_some ht) (hx 0 (by simp)) hok).good hS
      | append =>
        obtain ⟨x', y', rfl⟩ := a2_ok (show AllT (a2 _ xs).ok from hok')
        have hargs : ∃ x y, args = #[x, y] := by
          have : args.size = 2 := by simpa [Op.operands, Call.operands] using hl.symm
          refine ⟨args[0], args[1], ?_⟩
          apply Array.ext (by simp [this])
          intro i h1 h2
          have : i = 0 ∨ i = 1 := by omega
          rcases this with rfl | rfl <;> rfl
        obtain ⟨x, y, rfl⟩ := hargs
        have e0 : opX C ⟨dst, .call ⟨.builtin .append, #[x, y], ts⟩, ty, pos, after, guard⟩ [x', y'] fet = appX C ⟨dst, .call ⟨.builtin .append, #[x, y], ts⟩, ty, pos, after, guard⟩ fet ts.toList x' y' := rfl
        rw [e0] at hok hfr ⊢
        clear hok' e0
        generalize hts : ts.toList = tl at hok hfr ⊢
        unfold appX at hok hfr ⊢
        split at hok
        · rename_i t u
          dsimp only at hfr ⊢
          obtain ⟨tu, htu, he⟩ := tiOf_ok hok
          rw [he] at hok hfr ⊢
          obtain ⟨d, hd, he⟩ := optX_ok hok
          rw [he] at hok hfr ⊢
          obtain ⟨h1, h2⟩ := hok.cons
          exact append_good hC hS hd rfl rfl rfl hts htu h1 hf (hx 0 (by simp)) (hx 1 (by simp)) h2 hfr
        · exact (not_AllT_no hok).elim
      | delete =>
        obtain ⟨x', y', rfl⟩ := a2_ok (show AllT (a2 _ xs).ok from hok')
        have hargs : ∃ x y, args = #[x, y] := by
          have : args.size = 2 := by simpa [Op.operands, Call.operands] using hl.symm
          refine ⟨args[0], args[1], ?_⟩
          apply Array.ext (by simp [this])
          intro i h1 h2
          have : i = 0 ∨ i = 1 := by omega
          rcases this with rfl | rfl <;> rfl
        obtain ⟨x, y, rfl⟩ := hargs
        have e0 : opX C ⟨dst, .call ⟨.builtin .delete, #[x, y], ts⟩, ty, pos, after, guard⟩ [x', y'] fet = (match ts.toList with | t :: _ => deleteX C fet t x' y' | [] => .no) := rfl
        rw [e0] at hok ⊢
        clear hok' e0
        generalize hts : ts.toList = tl at hok ⊢
        cases tl with
        | nil => exact (not_AllT_no hok).elim
        | cons t r => exact delete_good (o := ⟨dst, .call ⟨.builtin .delete, #[x, y], ts⟩, ty, pos, after, guard⟩) hC hS rfl rfl rfl hts hf (hx 0 (by simp)) (hx 1 (by simp)) hok
      | _ => exfalso; exact not_AllT_no hok'
    | invoke r mth => exfalso; exact not_ok hok rfl
  | _ => exfalso; exact not_ok hok rfl
end
end Go.Proofs.YtnllccjmbijjlaaGreat.Vm

/-
  A region's operations, one behind the other; code.
-/
namespace Go.Proofs.YtnllccjmbijjlaaGreat.Vm
open Classical

section
variable {P : Program} {C : Ctx} {V0 : Nat → Value} {O0 O : Own} {w0 w : World} {m : Nat → Value} {st : St} {a : Act} {o : Oper}

theorem fetch_ok (objs : List (Nat × Obj)) : ∀ (l : List Nat) (q : Nat) (x : Obj), aget (fetch objs l) q = some x → aget objs q = some x := by
  intro l
  induction l with
  | nil => intro q x h; cases h
  | cons n r ih =>
    intro q x h
    simp only [fetch] at h
    cases hn : aget objs n with
    | none => rw [hn] at h; exact ih q x h
    | some y =>
      rw [hn] at h
      dsimp only at h
      rw [aget_cons] at h
      by_cases hq : n = q
      · rw [if_pos hq] at h; injection h with h; subst h; rw [← hq]; exact hn
      · rw [if_neg hq] at h; exact ih q x h
theorem aget_append (a b : List (Nat × Obj)) (q : Nat) : aget (a ++ b) q = match aget a q with | some x => some x | none => aget b q := by
  induction a with
  | nil => rfl
  | cons p r ih =>
    obtain ⟨k, x⟩ := p
    rw [List.cons_append, aget_cons, aget_cons, ih]
    by_cases h : k = q <;> simp [h]
theorem fetchAll_ok (st : St) (vs : List A) : Fet' st.objs (fetchAll st vs) := by
  intro q x h
  unfold fetchAll at h
  dsimp only at h
  rw [aget_append] at h
  split at h
  · rename_i y hy; injection h with h; subst h; exact fetch_ok _ _ _ _ hy
  · exact fetch_ok _ _ _ _ h

theorem strip_rel {v : Value} {x : A} (h : TRel O st.objs m w v x) (hok : AllT x.strip.1) : TRel O st.objs m w v x.strip.2 := by
  cases x with
  | cnd g y =>
    have := h.1 hok.cons.1
    cases y <;> first | trivial | exact this | exact this.elim
  | _ => exact h
theorem strips_spec : ∀ (xs : List A) (f : Nat → Value), (∀ j, j < xs.length → TRel O st.objs m w (f j) (xs.getD j .undef)) → AllT (strips xs).1 →
    (strips xs).2.length = xs.length ∧ ∀ j, j < xs.length → TRel O st.objs m w (f j) ((strips xs).2.getD j .undef) := by
  intro xs
  induction xs with
  | nil => intro f _ _; exact ⟨rfl, fun j hj => by simp at hj⟩
  | cons x xs ih =>
    intro f h hok
    simp only [strips] at hok ⊢
    obtain ⟨h1, h2⟩ := hok.append
    obtain ⟨g1, g2⟩ := ih (fun j => f (j + 1)) (fun j hj => by simpa using h (j + 1) (by simpa using hj)) h2
    refine ⟨by simp [g1], fun j hj => ?_⟩
    cases j with
    | zero => exact strip_rel (h 0 (by simp)) h1
    | succ j => simpa using g2 j (by simpa using hj)
theorem stripsFor_spec {op : Op} {xs : List A} {f : Nat → Value} (h : ∀ j, j < xs.length → TRel O st.objs m w (f j) (xs.getD j .undef)) (hok : AllT (stripsFor op xs).1) :
    (stripsFor op xs).2.length = xs.length ∧ ∀ j, j < xs.length → TRel O st.objs m w (f j) ((stripsFor op xs).2.getD j .undef) := by
  cases op with
  | pick _ _ _ => exact ⟨rfl, h⟩
  | _ => exact strips_spec xs f h hok

theorem strip_ids {v : Value} {x : A} {i : Nat} (ht : TRel O st.objs m w v x) (hok : AllT x.strip.1) (h : i ∈ x.strip.2.ids) : i ∈ x.ids := by
  cases x with
  | cnd g y =>
    have h1 := ht.1 hok.cons.1
    cases y <;> first | exact h | exact h1.elim
  | _ => exact h
theorem strips_ids : ∀ (xs : List A) (f : Nat → Value), (∀ j, j < xs.length → TRel O st.objs m w (f j) (xs.getD j .undef)) → AllT (strips xs).1 → ∀ x ∈ (strips xs).2, ∀ i ∈ x.ids, ∃ y ∈ xs, i ∈ y.ids := by
  intro xs
  induction xs with
  | nil => intro f _ _ x hx; simp [strips] at hx
  | cons z xs ih =>
    intro f h hok x hx i hi
    simp only [strips] at hok hx
    obtain ⟨h1, h2⟩ := hok.append
    rcases List.mem_cons.1 hx with rfl | hx
    · exact ⟨z, List.mem_cons_self, strip_ids (h 0 (by simp)) h1 hi⟩
    · obtain ⟨y, hy, hi'⟩ := ih (fun j => f (j + 1)) (fun j hj => by simpa using h (j + 1) (by simpa using hj)) h2 x hx i hi
      exact ⟨y, List.mem_cons_of_mem _ hy, hi'⟩
theorem stripsFor_ids {op : Op} {xs : List A} {f : Nat → Value} (h : ∀ j, j < xs.length → TRel O st.objs m w (f j) (xs.getD j .undef)) (hok : AllT (stripsFor op xs).1) : ∀ x ∈ (stripsFor op xs).2, ∀ i ∈ x.ids, ∃ y ∈ xs, i ∈ y.ids := by
  cases op with
  | pick _ _ _ => exact fun x hx i hi => ⟨x, hx, hi⟩
  | _ => exact strips_ids xs f h hok

/-- is the operation wanted? -/
theorem guard_spec {ops : Array Oper} {gd : Option (Nat × Bool)} (hS : Sim V0 O0 w0 O m st a w) (hgd : o.guard = gd) :
    (guardOf ops.toList st.tmps gd = some none → Region.wanted o (yielded ops a.tmps) = true) ∧
    ∀ g, guardOf ops.toList st.tmps gd = some (some g) → Region.wanted o (yielded ops a.tmps) = g := by
  cases gd with
  | none =>
    refine ⟨fun _ => by unfold Region.wanted; rw [hgd], fun g h => by simp [guardOf] at h⟩
  | some p =>
    obtain ⟨j, want⟩ := p
    unfold Region.wanted
    rw [hgd]
    dsimp only
    have key : ∀ oj t, ops[j]? = some oj → oj.dst = some t → yielded ops a.tmps j = match a.tmps[t]? with | some (.bool b) => some b | _ => none := by
      intro oj t h1 h2
      unfold yielded
      have : (ops[j]?).bind (·.dst) = some t := by rw [h1]; exact h2
      rw [this]
      show (match a.tmps[t]? with | some (.bool b) => some b | _ => none) = _
      cases a.tmps[t]? with
      | none => rfl
      | some v => cases v <;> rfl
    unfold guardOf
    have hop : ops.toList[j]? = ops[j]? := by simp
    dsimp only
    rw [hop]
    cases hj : ops[j]? with
    | none => exact ⟨fun h => by simp at h, fun g h => by simp at h⟩
    | some oj =>
      dsimp only
      cases hd : oj.dst with
      | none => exact ⟨fun h => by simp at h, fun g h => by simp at h⟩
      | some t =>
        dsimp only
        have ht := hS.tmps t
        rw [key oj t hj hd]
        cases hv : st.tmps.getD t .undef with
        | bool b =>
          refine ⟨fun h => by simp at h, fun g h => ?_⟩
          simp only [Option.some.injEq] at h
          have htl : t < st.tmps.length := by
            rcases Nat.lt_or_ge t st.tmps.length with h | h
            · exact h
            · rw [List.getD_eq_getElem?_getD, List.getElem?_eq_none h] at hv; cases hv
          have := ht htl
          rw [hv] at this
          have := this.bool
          have hts : t < a.tmps.size := by rw [hS.size]; exact htl
          rw [getD_eq hts, this, ← h]
          cases want <;> cases b <;> rfl
        | cnd g0 y =>
          cases y with
          | bool b =>
            refine ⟨fun h => by simp at h, fun g h => ?_⟩
            simp only [Option.some.injEq] at h
            have htl : t < st.tmps.length := by
              rcases Nat.lt_or_ge t st.tmps.length with h | h
              · exact h
              · rw [List.getD_eq_getElem?_getD, List.getElem?_eq_none h] at hv; cases hv
            have := ht htl
            rw [hv] at this
            have hts : t < a.tmps.size := by rw [hS.size]; exact htl
            rw [getD_eq hts, ← h]
            cases g0 with
            | true =>
              have h1 : VRel O w (a.tmps.getD t undef) (.bool b) := this.1 rfl
              generalize a.tmps.getD t undef = z at h1
              cases h1
              cases want <;> cases b <;> rfl
            | false =>
              rw [this.2 rfl]; simp [undef]
          | _ => exact ⟨fun h => by simp at h, fun g h => by simp at h⟩
        | _ => exact ⟨fun h => by simp at h, fun g h => by simp at h⟩

theorem const_ids (v : Value) : (ofConst v).ids = [] := by
  have hc : ∀ u : Value, (cellConst u).ids1 = [] := by intro u; unfold cellConst; split <;> rfl
  have hc2 : ∀ u : Value, (cellConst u).ids = [] := by intro u; unfold cellConst; split <;> rfl
  unfold ofConst
  split
  · rename_i vs
    cases vs.toList.all Value.oneCell' with
    | false => rfl
    | true =>
      show (vs.toList.map cellConst).flatMap A.ids1 = []
      rw [List.flatMap_eq_nil_iff]
      intro x hx
      obtain ⟨u, _, rfl⟩ := List.mem_map.1 hx
      exact hc u
  · exact hc2 v

theorem mergeA_spec {a b : A} (h : mergeAOk a b = true) : mergeA true a b = b ∧ mergeA false a b = a := by
  cases a <;> cases b <;> first | exact ⟨rfl, rfl⟩ | exact (Bool.false_ne_true h).elim | skip
  case int.int k x k' y =>
    have e : k = k' := by cases k <;> cases k' <;> first | rfl | cases h
    subst e; exact ⟨rfl, rfl⟩
  case sl.sl l l' =>
    obtain ⟨t, xs⟩ := l
    obtain ⟨t', xs'⟩ := l'
    unfold mergeAOk Sl.cast at h
    unfold mergeA Sl.cast
    dsimp only at h ⊢
    cases hd : decEq t' t with
    | isTrue e => subst e; exact ⟨rfl, rfl⟩
    | isFalse e => rw [hd] at h; cases h
  case own.own q q' =>
    have e : q = q' := Nat.eq_of_beq_eq_true h
    subst e; exact ⟨rfl, rfl⟩
theorem zipM_spec : ∀ {aa bs : List A}, okM aa bs = true → zipM true aa bs = bs ∧ zipM false aa bs = aa
  | [], [], _ => ⟨rfl, rfl⟩
  | a :: aa, b :: bs, h => by
    unfold okM at h
    obtain ⟨h1, h2⟩ := Bool.and_eq_true_iff.1 h
    obtain ⟨i1, i2⟩ := mergeA_spec h1
    obtain ⟨j1, j2⟩ := zipM_spec h2
    exact ⟨by unfold zipM; rw [i1, j1], by unfold zipM; rw [i2, j2]⟩
  | [], _ :: _, h => by cases h
  | _ :: _, [], h => by cases h
theorem mergeO_spec {x : Option Obj} {y : Obj} (h : mergeOOk x y = true) : mergeO true x y = y ∧ ∃ z, x = some z ∧ mergeO false x y = z := by
  cases x with
  | none => cases h
  | some x =>
    cases x with
    | box cs =>
      cases y with
      | box ds =>
        obtain ⟨h1, h2⟩ := zipM_spec (show okM cs ds = true from h)
        exact ⟨congrArg Obj.box h1, .box cs, rfl, congrArg Obj.box h2⟩
      | _ => cases h
    | _ => cases h
theorem _root_.Go.Proofs.YtnllccjmbijjlaaGreat.Vm.Sim.sameObjs {objs' : List (Nat × Obj)} (hS : Sim V0 O0 w0 O m st a w) (h : ∀ n, aget objs' n = aget st.objs n) : Sim V0 O0 w0 O m { st with objs := objs' } a w := by
  have he : Exts st.objs m objs' m (fun _ => False) := fun o x hx => .inr ⟨x, by rw [← h]; exact hx, rfl, rfl⟩
  have hp : Pres O w O w := fun b k u h1 h2 => ⟨h1, h2⟩
  refine ⟨hS.defers, hS.size, fun t ht => (hS.tmps t ht).step hp he (fun _ _ => id), fun o x hx => ?_, hS.frame, hS.own, fun o x hx => hS.ids o x (by rw [← h]; exact hx), hS.less, fun o ho hx => hS.root o ho (by rw [← h]; exact hx), hS.junk⟩
  have h0 := hS.objs o x (by rw [← h]; exact hx)
  cases x with
  | box cs =>
    obtain ⟨b, base, h1, h2⟩ := h0
    refine ⟨b, base, h1, fun j hj => ?_⟩
    obtain ⟨g1, g2, u, g3, g4⟩ := h2 j hj
    exact ⟨g1, g2, u, g3, g4.step hp he (fun _ _ => id)⟩
  | arr e f l => exact h0
  | mp l => exact h0
/-- one operation, its guard heeded -/
theorem step_sound (hC : CtxOk P C) (hS : Sim V0 O0 w0 O m st a w) {ops : Array Oper} (hok : AllT (stepX C ops.toList o st).ok) (next : Act → World → Prop) (Q : Exit → Act → World → Prop)
    (hn : ∀ O' m' a' w', Sim V0 O0 w0 O' m' (apply st o (stepX C ops.toList o st)) a' w' → next a' w') :
    if Region.wanted o (yielded ops a.tmps) then o.wp P a w next Q else next (a.put o.dst undef) w := by
  have hx0 : ∀ j, j < (o.op.operands.toList.map (evalA st.tmps)).length → TRel O st.objs m w (a.eval (o.op.operands.getD j (.tmp 0))) ((o.op.operands.toList.map (evalA st.tmps)).getD j .undef) := by
    intro j hj
    have hj' : j < o.op.operands.size := by simpa using hj
    have e1 : o.op.operands.getD j (.tmp 0) = o.op.operands[j] := by rw [Array.getD_eq_getD_getElem?, Array.getElem?_eq_getElem hj']; rfl
    have e2 : (o.op.operands.toList.map (evalA st.tmps)).getD j .undef = evalA st.tmps o.op.operands[j] := by simp [List.getD_eq_getElem?_getD, hj']
    rw [e1, e2]; exact eval_rel hS _
  have hid0 : ∀ y ∈ o.op.operands.toList.map (evalA st.tmps), ∀ i ∈ y.ids, i ∈ st.ids := by
    intro y hy i hi
    obtain ⟨x, _, rfl⟩ := List.mem_map.1 hy
    cases x with
    | tmp t =>
      rcases Nat.lt_or_ge t st.tmps.length with h | h
      · exact mem_ids_tmps h hi
      · have : evalA st.tmps (.tmp t) = .undef := by simp [evalA, List.getD_eq_getElem?_getD, List.getElem?_eq_none h]
        rw [this] at hi; cases hi
    | const v => have : evalA st.tmps (.const v) = ofConst v := rfl
                 rw [this, const_ids] at hi; cases hi
    | global g => cases hi
    | func f => cases hi
  obtain ⟨hg1, hg2⟩ := guard_spec (ops := ops) (o := o) hS rfl
  unfold stepX at hok hn
  cases hgo : guardOf ops.toList st.tmps o.guard with
  | none => rw [hgo] at hok; exact (not_AllT_no hok).elim
  | some r =>
    cases r with
    | none =>
      rw [hgo] at hok hn
      rw [hg1 hgo, if_pos rfl]
      dsimp only at hok hn
      obtain ⟨hokA, hokB⟩ := hok.append
      obtain ⟨hok1, hok2⟩ := hokA.append
      obtain ⟨hB1, hB2⟩ := hokB.cons
      have hB2 := hB2.cons.1
      obtain ⟨hl, hx⟩ := stripsFor_spec hx0 hok1
      have hid := stripsFor_ids hx0 hok1
      have hg := op_sound hC hS (fetchAll_ok st _) (by rw [hl]; simp) (fun j hj => hx j (by rw [← hl]; exact hj)) (fun x hx' i hi => by
        obtain ⟨y, hy, hi'⟩ := hid x hx' i hi
        exact .inl (hid0 y hy i hi')) hok2 (fun p hp => (List.all_eq_true.1 hB1) p hp) hB2
      exact hg next Q hn
    | some g =>
      rw [hgo] at hok hn
      rw [hg2 g hgo]
      dsimp only at hok hn
      obtain ⟨hokA, hokB⟩ := hok.append
      obtain ⟨hv, hokB⟩ := hokB.cons
      obtain ⟨h1, hokB⟩ := hokB.cons
      obtain ⟨h3, hokB⟩ := hokB.cons
      obtain ⟨hdst, hmg⟩ := hokB.cons
      generalize hxs : (stripsFor o.op (o.op.operands.toList.map (evalA st.tmps))) = sf at *
      generalize hδ : opX C o sf.2 (fetchAll st sf.2) = δ at *
      have hfet := fetchAll_ok st sf.2
      generalize hfe : fetchAll st sf.2 = fet at *
      have e1 : δ.new = [] := by simpa using h1
      have e3 : δ.del = [] := by simpa using h3
      have hm2 : ∀ p ∈ δ.upd, mergeOOk (aget fet p.1) p.2 = true := fun p hp => hmg _ (List.mem_map.2 ⟨p, hp, rfl⟩)
      cases g with
      | false =>
        rw [if_neg (by simp)]
        refine hn O m _ _ ?_
        have hS1 := hS.put o.dst (x := .cnd false δ.val) ⟨fun h => by (cases h), fun _ => rfl⟩
        refine hS1.sameObjs (fun n => ?_)
        show aget (setAll st.objs (δ.upd.map (fun p => (p.1, mergeO false (aget fet p.1) p.2)))) n = aget st.objs n
        by_cases hx : ∃ p ∈ δ.upd.map (fun p => (p.1, mergeO false (aget fet p.1) p.2)), p.1 = n
        · obtain ⟨x, hx1, hx2⟩ := aget_setAll_mem _ st.objs n hx
          obtain ⟨p, hp, he⟩ := List.mem_map.1 hx1
          injection he with he1 he2
          obtain ⟨_, z, hz, hz2⟩ := mergeO_spec (hm2 p hp)
          rw [hx2, ← he2, hz2, ← he1, hfet _ _ hz]
        · exact aget_setAll_not _ _ _ (fun p hp hk => hx ⟨p, hp, hk⟩)
      | true =>
        rw [if_pos rfl]
        have hokA' : AllT (sf.1 ++ δ.ok) := by
          intro b hb
          have := hokA (b || !true) (List.mem_map.2 ⟨b, hb, rfl⟩)
          simpa using this
        obtain ⟨hok1, hok2⟩ := hokA'.append
        rw [← hxs] at hok1
        obtain ⟨hl, hx⟩ := stripsFor_spec hx0 hok1
        have hid := stripsFor_ids hx0 hok1
        rw [hxs] at hl hx hid
        have hg := op_sound (xs := sf.2) (fet := fet) hC hS hfet (by rw [hl]; simp) (fun j hj => hx j (by rw [← hl]; exact hj)) (fun x hx' i hi => by
          obtain ⟨y, hy, hi'⟩ := hid x hx' i hi
          exact .inl (hid0 y hy i hi')) (by rw [hδ]; exact hok2) (fun p hp => by rw [hδ, e1] at hp; cases hp) (by rw [hδ, e1]; rfl)
        rw [hδ] at hg
        refine hg next Q (fun O' m' a' w' h => hn O' m' a' w' ?_)
        have eu : δ.upd.map (fun p => (p.1, mergeO true (aget fet p.1) p.2)) = δ.upd := by
          conv => rhs; rw [← List.map_id δ.upd]
          exact List.map_congr_left fun p hp => by rw [(mergeO_spec (hm2 p hp)).1]; rfl
        have ea : apply st o δ = { tmps := put st.tmps o.dst δ.val, objs := setAll st.objs δ.upd } := by
          unfold apply; rw [e1, e3]; rfl
        rw [ea] at h
        have eb : ∀ ok, apply st o { ok := ok, val := .cnd true δ.val, upd := δ.upd.map (fun p => (p.1, mergeO true (aget fet p.1) p.2)) } = { tmps := put st.tmps o.dst (.cnd true δ.val), objs := setAll st.objs δ.upd } := by
          intro ok; unfold apply; dsimp only; rw [eu]; rfl
        rw [eb]
        -- the value is there
        refine ⟨h.defers, by have := h.size; dsimp only at this ⊢; rw [put_length] at this ⊢; exact this, fun t ht => ?_, h.objs, h.frame, h.own, h.ids, h.less, h.root, h.junk⟩
        have ht' : t < st.tmps.length := by
          have ht2 : t < (put st.tmps o.dst (.cnd true δ.val)).length := ht
          rw [put_length] at ht2; exact ht2
        have := h.tmps t (by show t < (put st.tmps o.dst δ.val).length; rw [put_length]; exact ht')
        dsimp only at this ⊢
        rw [put_getD _ _ _ _ ht'] at this
        rw [put_getD _ _ _ _ ht']
        by_cases hd : o.dst = some t
        · rw [if_pos hd] at this ⊢
          exact ⟨fun _ => this.toT1 hv, fun h => by (cases h)⟩
        · rw [if_neg hd] at this ⊢; exact this
end
end Go.Proofs.YtnllccjmbijjlaaGreat.Vm

/-
  Places where ways meet: what is not read any more is let go, objects are named anew, rows are closed.
-/
namespace Go.Proofs.YtnllccjmbijjlaaGreat.Vm
open Classical

section
variable {P : Program} {C : Ctx} {V0 : Nat → Value} {O0 O : Own} {w0 w : World} {m : Nat → Value} {st : St} {a : Act}

theorem aget_filter (p : Nat → Bool) (l : List (Nat × Obj)) (k : Nat) : aget (l.filter (fun q => p q.1)) k = if p k then aget l k else none := by
  induction l with
  | nil => simp [aget]
  | cons q r ih =>
    obtain ⟨n, x⟩ := q
    by_cases hp : p n = true
    · rw [List.filter_cons_of_pos (by simpa using hp), aget_cons, aget_cons, ih]
      by_cases hk : n = k
      · subst hk; simp [hp]
      · simp [hk]
    · rw [List.filter_cons_of_neg (by simpa using hp), aget_cons, ih]
      by_cases hk : n = k
      · subst hk; simp [hp]
      · simp [hk]
theorem aget_map (g : Obj → Obj) (l : List (Nat × Obj)) (k : Nat) : aget (l.map (fun q => (q.1, g q.2))) k = (aget l k).map g := by
  induction l with
  | nil => rfl
  | cons q r ih =>
    obtain ⟨n, x⟩ := q
    rw [List.map_cons, aget_cons, aget_cons, ih]
    by_cases hk : n = k <;> simp [hk]

theorem drop_length (keep : List Nat) : ∀ (l : List A) (i : Nat), (drop keep l i).length = l.length := by
  intro l
  induction l with
  | nil => intro i; rfl
  | cons x r ih => intro i; simp [drop, ih]
theorem drop_getD (keep : List Nat) : ∀ (l : List A) (i t : Nat), (drop keep l i).getD t .undef = .undef ∨ (drop keep l i).getD t .undef = l.getD t .undef := by
  intro l
  induction l with
  | nil => intro i t; exact .inl (by simp [drop])
  | cons x r ih =>
    intro i t
    cases t with
    | zero =>
      simp only [drop, List.getD_cons_zero]
      cases has keep i with
      | true => exact .inr rfl
      | false => exact .inl rfl
    | succ t => simpa [drop] using ih (i + 1) t

/-- slots and objects are let go -/
theorem Sim.dropped (hS : Sim V0 O0 w0 O m st a w) (keep objs : List Nat) : Sim V0 O0 w0 O m { tmps := drop keep st.tmps 0, objs := st.objs.filter (fun p => has objs p.1) } a w := by
  have hag : ∀ o x, aget (st.objs.filter (fun p => has objs p.1)) o = some x → aget st.objs o = some x := by
    intro o x h
    rw [aget_filter (has objs)] at h
    split at h
    · exact h
    · cases h
  have hE : Exts st.objs m (st.objs.filter (fun p => has objs p.1)) m (fun _ => False) := fun o x h => .inr ⟨x, hag o x h, rfl, rfl⟩
  have hp : Pres O w O w := fun _ _ _ h hc => ⟨h, hc⟩
  refine ⟨hS.defers, by rw [hS.size]; exact (drop_length _ _ _).symm, fun t ht => ?_, fun o x h => ?_, hS.frame, hS.own, fun o x h => hS.ids o x (hag o x h), hS.less, fun o hr ho => (by obtain ⟨x, hx⟩ := Option.isSome_iff_exists.1 ho; exact hS.root o hr (by rw [hag o x hx]; rfl)), hS.junk⟩
  · have ht' : t < st.tmps.length := by
      have : t < (drop keep st.tmps 0).length := ht
      rwa [drop_length] at this
    show TRel O _ m w _ ((drop keep st.tmps 0).getD t .undef)
    rcases drop_getD keep st.tmps 0 t with h | h
    · rw [h]; trivial
    · rw [h]; exact (hS.tmps t ht').step hp hE (fun _ _ h => h)
  · exact (hS.objs o x (hag o x h)).step (T := fun _ => False) (Moves.refl O _ w) ⟨fun _ _ _ h => h, fun _ _ _ _ h _ => h⟩ hE id rfl (fun _ _ h => h)

/-! ### names anew -/
def rho (f t o : Nat) : Nat := if o = f then t else o
theorem rho_eq (f t o : Nat) : (bif Nat.beq o f then t else o) = rho f t o := by
  rw [nbeq]; unfold rho; by_cases h : o = f <;> simp [h]
def ren1 (f t : Nat) : A → A
  | .ptr o off => .ptr (rho f t o) off
  | .own o => .own (rho f t o)
  | .oelt o i off => .oelt (rho f t o) i off
  | c => c
theorem renA_agg (f t : Nat) (cs : List A) : renA f t (.agg cs) = .agg (cs.map (ren1 f t)) := by
  show A.agg (cs.map _) = _
  congr 1
  refine List.map_congr_left fun c _ => ?_
  cases c <;> first | rfl | (simp only [ren1, rho_eq])
theorem renA_1 (f t : Nat) (c : A) : (∃ cs, c = .agg cs) ∨ renA f t c = ren1 f t c := by
  cases c <;> first | exact .inl ⟨_, rfl⟩ | exact .inr rfl | (right; simp only [ren1, renA, rho_eq])

structure Ren (O : Own) (objs : List (Nat × Obj)) (m : Nat → Value) (f t : Nat) (O' : Own) (objs' : List (Nat × Obj)) (m' : Nat → Value) : Prop where
  here : ∀ x', aget objs' t = some x' → ∃ x, aget objs f = some x ∧ x.shp = x'.shp ∧ m' t = m f
  there : ∀ o x', o ≠ t → aget objs' o = some x' → o ≠ f ∧ ∃ x, aget objs o = some x ∧ x.shp = x'.shp ∧ m' o = m o
  own : ∀ b k, O' b k = (O b k).map (rho f t)
theorem Ren.pres {O' : Own} {objs objs' : List (Nat × Obj)} {m' : Nat → Value} {f t : Nat} (h : Ren O objs m f t O' objs' m') : Pres O w O' w := by
  intro b k u hn hc
  exact ⟨by rw [h.own, hn]; rfl, hc⟩

theorem CRel.ren {O' : Own} {objs objs' : List (Nat × Obj)} {m' : Nat → Value} {f t : Nat} (h : Ren O objs m f t O' objs' m') {v : Value} {c : A} (hn : ∀ i ∈ c.ids1, i = t → f = t) (hc : CRel O objs m w v c) :
    CRel O' objs' m' w v (ren1 f t c) := by
  have key : ∀ o, (o = t → f = t) → ∀ x', aget objs' (rho f t o) = some x' → ∃ x, aget objs o = some x ∧ x.shp = x'.shp ∧ m' (rho f t o) = m o := by
    intro o ho x' hx
    unfold rho at hx ⊢
    by_cases hf : o = f
    · rw [if_pos hf] at hx ⊢; rw [hf]; exact h.here x' hx
    · rw [if_neg hf] at hx ⊢
      exact (h.there o x' (fun e => hf (by rw [e, ho e])) hx).2
  cases c with
  | ptr o off =>
    simp only [CRel, ren1] at *
    refine ⟨hc.1, ?_⟩
    have hc := hc.2
    cases hx : aget objs' (rho f t o) with
    | none => simp
    | some x' =>
      obtain ⟨x, h1, h2, h3⟩ := key o (hn o (by simp [A.ids1])) x' hx
      rw [h1] at hc; simp only [Option.map_some, h2] at hc; simp only [Option.map_some, h3]; exact hc
  | own o =>
    simp only [CRel, ren1] at *
    refine ⟨hc.1, ?_⟩
    have hc := hc.2
    cases hx : aget objs' (rho f t o) with
    | none => simp
    | some x' =>
      obtain ⟨x, h1, h2, h3⟩ := key o (hn o (by simp [A.ids1])) x' hx
      rw [h1] at hc; simp only [Option.map_some, h2] at hc; simp only [Option.map_some, h3]; exact hc
  | oelt o i off =>
    simp only [CRel, ren1] at *
    refine ⟨hc.1, ?_⟩
    have hc := hc.2
    cases hx : aget objs' (rho f t o) with
    | none => simp
    | some x' =>
      obtain ⟨x, h1, h2, h3⟩ := key o (hn o (by simp [A.ids1])) x' hx
      rw [h1] at hc; simp only [Option.map_some, h2] at hc; simp only [Option.map_some, h3]; exact hc
  | elt cs =>
    obtain ⟨b, off, hv, hc⟩ := hc
    refine ⟨b, off, hv, fun j hj => ?_⟩
    obtain ⟨h1, u, h2, h3⟩ := hc j hj
    obtain ⟨h4, h5⟩ := h.pres _ _ _ h1 h2
    exact ⟨h4, u, h5, h3.pres h.pres⟩
  | fn f => exact VRel.pres h.pres hc
  | ump _ => exact hc
  | undef => exact hc
  | nils => exact hc
  | bool b => exact VRel.pres h.pres hc
  | int k n => exact VRel.pres h.pres hc
  | str s => exact VRel.pres h.pres hc
  | sl l => exact VRel.pres h.pres hc
  | nilp => exact VRel.pres h.pres hc
  | usl _ _ => exact hc
  | agg _ => exact hc
  | tup _ => exact hc
  | box _ => exact hc
  | cnd _ _ => exact hc

theorem Ren.exts {O' : Own} {objs objs' : List (Nat × Obj)} {m' : Nat → Value} {f t : Nat} (h : Ren O objs m f t O' objs' m') : Exts objs m objs' m' (fun o => o = t ∧ f ≠ t) := by
  intro o x' hx
  by_cases ho : o = t
  · subst ho
    by_cases hf : f = o
    · right
      obtain ⟨x, h1, h2, h3⟩ := h.here x' hx
      rw [hf] at h1 h3
      exact ⟨x, h1, h2, h3⟩
    · exact .inl ⟨rfl, hf⟩
  · exact .inr (h.there o x' ho hx).2

theorem TRel.ren {O' : Own} {objs objs' : List (Nat × Obj)} {m' : Nat → Value} {f t : Nat} (h : Ren O objs m f t O' objs' m') {v : Value} {c : A} (hn : ∀ i ∈ c.ids, i = t → f = t) (hc : TRel O objs m w v c) :
    TRel O' objs' m' w v (renA f t c) := by
  cases c with
  | agg cs =>
    rw [renA_agg]
    obtain ⟨vs, h1, h2, h3⟩ := hc
    refine ⟨vs, h1, by simpa using h2, fun j hj => ?_⟩
    have hj' : j < cs.length := by simpa using hj
    have e : (cs.map (ren1 f t)).getD j .undef = ren1 f t (cs.getD j .undef) := by
      simp [List.getD_eq_getElem?_getD, hj']
    rw [e]
    exact (h3 j hj').ren h (fun i hi => hn i (mem_flat (f := A.ids1) hj' hi))
  | tup l => exact TRel.step h.pres h.exts (fun o ho hN => hN.2 (hn o ho hN.1)) hc
  | cnd g c => exact TRel.step h.pres h.exts (fun o ho hN => hN.2 (hn o ho hN.1)) hc
  | undef => trivial
  | ptr o off =>
    have e : renA f t (.ptr o off) = ren1 f t (.ptr o off) := by simp only [ren1, renA, rho_eq]
    rw [e]; exact CRel.ren (w := w) (m := m) (c := .ptr o off) h hn hc
  | own o =>
    have e : renA f t (.own o) = ren1 f t (.own o) := by simp only [ren1, renA, rho_eq]
    rw [e]; exact CRel.ren (w := w) (m := m) (c := .own o) h hn hc
  | oelt o i off =>
    have e : renA f t (.oelt o i off) = ren1 f t (.oelt o i off) := by simp only [ren1, renA, rho_eq]
    rw [e]; exact CRel.ren (w := w) (m := m) (c := .oelt o i off) h hn hc
  | bool b => exact CRel.ren (w := w) (m := m) (c := .bool b) h hn hc
  | int k n => exact CRel.ren (w := w) (m := m) (c := .int k n) h hn hc
  | str s => exact CRel.ren (w := w) (m := m) (c := .str s) h hn hc
  | sl l => exact CRel.ren (w := w) (m := m) (c := .sl l) h hn hc
  | nils => exact CRel.ren (w := w) (m := m) (c := .nils) h hn hc
  | nilp => exact CRel.ren (w := w) (m := m) (c := .nilp) h hn hc
  | elt cs => exact CRel.ren (w := w) (m := m) (c := .elt cs) h hn hc
  | fn g => exact CRel.ren (w := w) (m := m) (c := .fn g) h hn hc
  | ump _ => exact hc
  | usl _ _ => exact hc
  | box _ => exact hc

theorem CRel.renA {O' : Own} {objs objs' : List (Nat × Obj)} {m' : Nat → Value} {f t : Nat} (h : Ren O objs m f t O' objs' m') {v : Value} {c : A} (hn : ∀ i ∈ c.ids1, i = t → f = t) (hc : CRel O objs m w v c) :
    CRel O' objs' m' w v (Vm.renA f t c) := by
  rcases renA_1 f t c with ⟨cs, rfl⟩ | e
  · exact hc.elim
  · rw [e]; exact hc.ren h hn

theorem ORel.ren {O' : Own} {objs objs' : List (Nat × Obj)} {m' : Nat → Value} {f t : Nat} (h : Ren O objs m f t O' objs' m') {o : Nat} {x : Obj} (hm : m' (rho f t o) = m o) (hn : ∀ i ∈ x.ids, i = t → f = t) (hx : ORel O objs m w o x) :
    ORel O' objs' m' w (rho f t o) (renO f t x) := by
  cases x with
  | box cs =>
    obtain ⟨b, base, h1, h2⟩ := hx
    refine ⟨b, base, by rw [hm]; exact h1, fun j hj => ?_⟩
    have hj' : j < cs.length := by simpa using hj
    obtain ⟨h3, h4, u, h5, h6⟩ := h2 j hj'
    refine ⟨by rw [h.own, h3]; rfl, h4, u, h5, ?_⟩
    have e : (cs.map (Vm.renA f t)).getD j .undef = Vm.renA f t (cs.getD j .undef) := by
      simp [List.getD_eq_getElem?_getD, hj']
    rw [e]
    exact h6.renA h (fun i hi => hn i (mem_flat (f := A.ids1) hj' hi))
  | arr e frz l =>
    obtain ⟨h0, hx⟩ := hx
    refine ⟨h0, ?_⟩
    rcases hx with ⟨h1, h2, h3⟩ | ⟨h1, g, cap, cur, h2, h3, h4, h5, h6, h7, h8, h9⟩
    · exact .inl ⟨h1, h2, by rw [hm]; exact h3⟩
    · refine .inr ⟨h1, g, cap, cur, by rw [hm]; exact h2, h3, h4, h5, h6, fun i j hi hj => ?_, fun k hk hge => ?_, fun k hk => ?_⟩
      · obtain ⟨u, h10, h11⟩ := h7 i j hi hj
        exact ⟨u, h10, h11.pres h.pres⟩
      · rw [h.own, h8 k hk hge]; rfl
      · rw [h.own, h9 k hk]; cases frz <;> rfl
  | mp l =>
    obtain ⟨r, es, ck, h1, h2, h3, h4, h5⟩ := (show MRel O w o (m o) l from hx)
    refine (⟨r, es, ck, by rw [hm]; exact h1, h2, by rw [h.own, h3]; rfl, h4, fun i p hi => ?_⟩ : MRel O' w (rho f t o) (m' (rho f t o)) l)
    obtain ⟨e, k1, k2, k3⟩ := h5 i p hi
    exact ⟨e, k1, k2.pres h.pres, k3.pres h.pres⟩

theorem Sim.renamed (hS : Sim V0 O0 w0 O m st a w) {f t : Nat} {x : Obj} (hf : aget st.objs f = some x) (ht : f = t ∨ Fresh st t) :
    ∃ O' m', Sim V0 O0 w0 O' m' { tmps := st.tmps.map (renA f t), objs := (aset (adel st.objs f) t x).map (fun p => (p.1, renO f t p.2)) } a w := by
  have hag : ∀ o, aget ((aset (adel st.objs f) t x).map (fun p => (p.1, renO f t p.2))) o = (if o = t then some x else if o = f then none else aget st.objs o).map (renO f t) := by
    intro o
    rw [aget_map, aget_aset, aget_adel]
  have hshp : ∀ y, (renO f t y).shp = y.shp := by intro y; cases y <;> rfl
  have h255 : f ≠ 255 := hS.ids f x hf
  have hR : Ren O st.objs m f t (fun b k => (O b k).map (rho f t)) ((aset (adel st.objs f) t x).map (fun p => (p.1, renO f t p.2))) (fun o => if o = t then m f else m o) := by
    refine ⟨fun x' hx => ?_, fun o x' ho hx => ?_, fun _ _ => rfl⟩
    · rw [hag, if_pos rfl] at hx
      simp only [Option.map_some, Option.some.injEq] at hx
      exact ⟨x, hf, by rw [← hx, hshp], if_pos rfl⟩
    · rw [hag, if_neg ho] at hx
      by_cases hof : o = f
      · rw [if_pos hof] at hx; cases hx
      · rw [if_neg hof] at hx
        cases hy : aget st.objs o with
        | none => rw [hy] at hx; cases hx
        | some y =>
          rw [hy] at hx
          simp only [Option.map_some, Option.some.injEq] at hx
          exact ⟨hof, y, rfl, by rw [← hx, hshp], if_neg ho⟩
  have hids : ∀ i ∈ st.ids, i = t → f = t := by
    intro i hi he
    rcases ht with h | h
    · exact h
    · exact absurd (he ▸ hi) h.ids
  have hmr : ∀ o, (o = t → f = t) → (fun o => if o = t then m f else m o) (rho f t o) = m o := by
    intro o ho
    unfold rho
    by_cases h1 : o = f
    · rw [if_pos h1, h1]; exact if_pos rfl
    · rw [if_neg h1]; exact if_neg (fun e => h1 (by rw [e, ho e]))
  refine ⟨(fun b k => (O b k).map (rho f t)), (fun o => if o = t then m f else m o), hS.defers, by rw [hS.size]; simp, fun i hi => ?_, fun o y hy => ?_, hS.frame, fun b k o hb ho hne => ?_, fun o y hy => ?_, fun b k hb h => hS.less b k hb (fun e => h (by show (O b k).map _ = none; rw [e]; rfl)), fun o hr ho => ?_, fun b k hb h => by show (O b k).map (rho f t) = _; rw [hS.junk b k hb h]; exact congrArg some (if_neg (fun e => h255 e.symm))⟩
  · have hi' : i < st.tmps.length := by simpa using hi
    have e : (st.tmps.map (renA f t)).getD i .undef = renA f t (st.tmps.getD i .undef) := by
      simp [List.getD_eq_getElem?_getD, hi']
    show TRel _ _ _ _ _ ((st.tmps.map (renA f t)).getD i .undef)
    rw [e]
    exact (hS.tmps i hi').ren hR (fun j hj => hids j (mem_ids_tmps hi' hj))
  · have hy' := hy
    dsimp only at hy
    rw [hag] at hy
    by_cases h1 : o = t
    · rw [if_pos h1] at hy
      simp only [Option.map_some, Option.some.injEq] at hy
      subst hy
      have := (hS.objs f x hf).ren hR (hmr f (fun e => e)) (fun i hi => hids i (mem_ids_objs hf hi))
      have e : rho f t f = t := if_pos rfl
      rw [e] at this; rw [h1]; exact this
    · rw [if_neg h1] at hy
      by_cases h2 : o = f
      · rw [if_pos h2] at hy; cases hy
      · rw [if_neg h2] at hy
        cases hz : aget st.objs o with
        | none => rw [hz] at hy; cases hy
        | some z =>
          rw [hz] at hy
          simp only [Option.map_some, Option.some.injEq] at hy
          subst hy
          have := (hS.objs o z hz).ren hR (hmr o (fun e => absurd e h1)) (fun i hi => hids i (mem_ids_objs hz hi))
          have e : rho f t o = o := if_neg h2
          rw [e] at this; exact this
  · cases hq : O b k with
    | none =>
      have : (O b k).map (rho f t) = some o := ho
      rw [hq] at this; cases this
    | some o1 =>
      have : (O b k).map (rho f t) = some o := ho
      rw [hq] at this
      simp only [Option.map_some, Option.some.injEq] at this
      refine hS.own b k o1 hb hq (fun e => hne ?_)
      rw [← this, e]; exact if_neg (fun e => h255 e.symm)
  · dsimp only at hy
    rw [hag] at hy
    by_cases h1 : o = t
    · rw [h1]
      rcases ht with h | h
      · rw [← h]; exact h255
      · exact h.ne
    · rw [if_neg h1] at hy
      by_cases h2 : o = f
      · rw [h2]; exact h255
      · rw [if_neg h2] at hy
        cases hz : aget st.objs o with
        | none => rw [hz] at hy; cases hy
        | some z => exact hS.ids o z hz
  · dsimp only at ho ⊢
    rw [hag] at ho
    by_cases h1 : o = t
    · rw [if_pos h1]
      rcases ht with h | h
      · rw [h1, ← h]; exact hS.root f (by rw [h, ← h1]; exact hr) (by rw [hf]; rfl)
      · rw [h1, h.root] at hr; cases hr
    · rw [if_neg h1] at ho ⊢
      by_cases h2 : o = f
      · rw [if_pos h2] at ho; cases ho
      · rw [if_neg h2] at ho
        refine hS.root o hr ?_
        cases hz : aget st.objs o with
        | none => rw [hz] at ho; cases ho
        | some z => rfl

theorem rens_sound : ∀ (l : List (Nat × Nat)) {O : Own} {m : Nat → Value} {st : St}, Sim V0 O0 w0 O m st a w → (rens st l).1 = true → ∃ O' m', Sim V0 O0 w0 O' m' (rens st l).2 a w := by
  intro l
  induction l with
  | nil => intro O m st hS _; exact ⟨O, m, hS⟩
  | cons p r ih =>
    intro O m st hS h
    obtain ⟨f, t⟩ := p
    simp only [rens] at h ⊢
    cases hx : aget st.objs f with
    | none => rw [hx] at h; exact ih hS h
    | some x =>
      rw [hx] at h
      dsimp only at h ⊢
      rw [Bool.and_eq_true, nbeq] at h
      obtain ⟨O1, m1, hS1⟩ := hS.renamed (t := t) hx (by
        by_cases hft : f = t
        · exact .inl hft
        · have h1 := h.1
          rw [show decide (f = t) = false by simpa using hft] at h1
          exact .inr (fresh_not h1))
      exact ih hS1 h.2
theorem frzs_sound : ∀ (l : List Nat) {O : Own} {st : St}, Sim V0 O0 w0 O m st a w → ∃ O', Sim V0 O0 w0 O' m { st with objs := frzs st.objs l } a w := by
  intro l
  induction l with
  | nil => intro O st hS; exact ⟨O, hS⟩
  | cons n r ih =>
    intro O st hS
    simp only [frzs]
    cases hx : aget st.objs n with
    | none => exact ih hS
    | some x =>
      cases x with
      | mp _ => exact ih hS
      | box cs => exact ih hS
      | arr e f l =>
        obtain ⟨O1, hS1, _⟩ := hS.freeze1 hx
        exact ih hS1

theorem put_self {t : Nat} {v : Value} (hs : a.tmps.getD t undef = v) (hlt : t < a.tmps.size) : a.put (some t) v = a := by
  have : a.tmps.setIfInBounds t v = a.tmps := by
    apply Array.ext_getElem?
    intro i
    rw [Array.getElem?_setIfInBounds]
    by_cases hi : t = i
    · subst hi
      rw [if_pos rfl, if_pos hlt, getD_eq hlt, hs]
    · rw [if_neg hi]
  simp only [Act.put, this]
theorem isNils_eq {x : A} (h : isNils x = true) : x = .nils := by cases x <;> first | rfl | cases h
/-- slots that hold what a row's handle is -/
theorem setOwn_sim {id : Nat} : ∀ (ts : List Nat) {O : Own} {m : Nat → Value} {st : St}, Sim V0 O0 w0 O m st a w → (∀ t ∈ ts, t < st.tmps.length) → (∀ t ∈ ts, CRel O st.objs m w (a.tmps.getD t undef) (.own id)) →
    Sim V0 O0 w0 O m { st with tmps := setOwn id ts st.tmps } a w := by
  intro ts
  induction ts with
  | nil => intro O m st hS _ _; exact hS
  | cons t r ih =>
    intro O m st hS hl hc
    have hlt := hl t List.mem_cons_self
    have h1 := hS.put (some t) (x := .own id) (v := a.tmps.getD t undef) ((hc t List.mem_cons_self).toT)
    rw [put_self rfl (by rw [hS.size]; exact hlt)] at h1
    exact ih (st := { st with tmps := st.tmps.set t (.own id) }) h1 (fun q hq => by simpa using hl q (List.mem_cons_of_mem _ hq)) (fun q hq => hc q (List.mem_cons_of_mem _ hq))
theorem owns_sound : ∀ (l : List (List Nat × Nat × Ty × Nat)) {O : Own} {m : Nat → Value} {st : St}, Sim V0 O0 w0 O m st a w → (owns l st).1 = true → ∃ O' m', Sim V0 O0 w0 O' m' (owns l st).2 a w := by
  intro l
  induction l with
  | nil => intro O m st hS _; exact ⟨O, m, hS⟩
  | cons p r ih =>
    intro O m st hS h
    obtain ⟨ts, e, ty, id⟩ := p
    unfold owns at h ⊢
    cases hany : ts.any (fun t => isNils (st.tmps.getD t .undef)) with
    | false => rw [hany] at h; exact ih hS h
    | true =>
      rw [hany] at h
      simp only [cond_true] at h ⊢
      rw [Bool.and_eq_true, Bool.and_eq_true] at h
      obtain ⟨⟨h1, h2⟩, h3⟩ := h
      have hall : ∀ t ∈ ts, st.tmps.getD t .undef = .nils ∧ t < st.tmps.length := by
        intro t ht
        have := List.all_eq_true.1 h1 t ht
        rw [Bool.and_eq_true, Nat.blt_eq] at this
        exact ⟨isNils_eq this.1, this.2⟩
      have hval : ∀ t ∈ ts, a.tmps.getD t undef = .slice none 0 0 := by
        intro t ht
        have hv := hS.tmps t (hall t ht).2
        rw [(hall t ht).1] at hv
        exact hv
      cases ts with
      | nil => cases hany
      | cons t ts =>
        have hlt := (hall t List.mem_cons_self).2
        obtain ⟨O', m', hS'⟩ := nilRow_sim hS (d := t) (e := e) (t := ty) (frz := false) (del := []) (fresh_not h2)
        rw [put_self (hval t List.mem_cons_self) (by rw [hS.size]; exact hlt)] at hS'
        have hslot := hS'.tmps t (by simpa using hlt)
        have e0 : (st.tmps.set t (.own id)).getD t .undef = .own id := by simp [List.getD_eq_getElem?_getD, hlt]
        rw [e0, hval t List.mem_cons_self] at hslot
        have hfin := setOwn_sim (a := a) ts hS' (fun q hq => by simpa using (hall q (List.mem_cons_of_mem _ hq)).2) (fun q hq => by
          rw [hval q (List.mem_cons_of_mem _ hq)]; exact hslot)
        exact ih hfin h3
/-- a row is closed where it stands -/
theorem pzs_sound : ∀ (l : List (Option Nat × Nat × Ty)) {O : Own} {st : St}, Sim V0 O0 w0 O m st a w → ∃ O', Sim V0 O0 w0 O' m (pzs l st) a w := by
  intro l
  induction l with
  | nil => intro O st hS; exact ⟨O, hS⟩
  | cons p r ih =>
    intro O st hS
    obtain ⟨b, j, ty⟩ := p
    cases b with
    | none =>
      unfold pzs
      cases hx : st.tmps.getD j .undef with
      | nils =>
        dsimp only
        have hlt : j < st.tmps.length := by
          rcases Nat.lt_or_ge j st.tmps.length with h | h
          · exact h
          · rw [List.getD_eq_getElem?_getD, List.getElem?_eq_none h] at hx; cases hx
        have hc := hS.tmps j hlt
        rw [hx] at hc
        have hc : a.tmps.getD j undef = .slice none 0 0 := hc
        have h2 := hS.put (some j) (x := .sl ⟨ty, []⟩) (v := a.tmps.getD j undef) (by rw [hc]; exact VRel.nil ty)
        rw [put_self rfl (by rw [hS.size]; exact hlt)] at h2
        exact ih h2
      | own o =>
        dsimp only
        cases ho : aget st.objs o with
        | none => exact ih hS
        | some y =>
          cases y with
          | box _ => exact ih hS
          | mp _ => exact ih hS
          | arr e f l =>
            dsimp only
            obtain ⟨O1, hS1, hp1, _, hv1, _⟩ := hS.freeze1 ho
            have hlt : j < st.tmps.length := by
              rcases Nat.lt_or_ge j st.tmps.length with h | h
              · exact h
              · rw [List.getD_eq_getElem?_getD, List.getElem?_eq_none h] at hx; cases hx
            have hc := hS.tmps j hlt
            rw [hx] at hc
            have hc : CRel O st.objs m w (a.tmps.getD j undef) (.own o) := hc
            have hc2 := hc.2
            rw [ho] at hc2
            have hm : a.tmps.getD j undef = m o := hc2
            have h2 := hS1.put (some j) (x := .sl l) (v := a.tmps.getD j undef) (by rw [hm]; exact hv1)
            rw [put_self rfl (by rw [hS.size]; exact hlt)] at h2
            exact ih h2
      | _ => exact ih hS
    | some b =>
      unfold pzs
      cases hb : aget st.objs b with
      | none => exact ih hS
      | some y =>
        cases y with
        | arr _ _ _ => exact ih hS
        | mp _ => exact ih hS
        | box cs =>
          dsimp only
          cases hx : cs.getD j .undef with
          | own o =>
            dsimp only
            cases ho : aget st.objs o with
            | none => exact ih hS
            | some y =>
              cases y with
              | box _ => exact ih hS
              | mp _ => exact ih hS
              | arr e f l =>
                dsimp only
                obtain ⟨O1, hS1, hp1, _, hv1, _⟩ := hS.freeze1 ho
                have hbo : b ≠ o := fun h => by rw [h, ho] at hb; cases hb
                have hb1 : aget (aset st.objs o (.arr e true l)) b = some (.box cs) := by rw [aget_aset, if_neg hbo]; exact hb
                have ho1 : aget (aset st.objs o (.arr e true l)) o = some (.arr e true l) := by rw [aget_aset, if_pos rfl]
                have hjl : j < cs.length := by
                  rcases Nat.lt_or_ge j cs.length with h | h
                  · exact h
                  · rw [List.getD_eq_getElem?_getD, List.getElem?_eq_none h] at hx; cases hx
                have hE : Exts (aset st.objs o (.arr e true l)) m (aset (aset st.objs o (.arr e true l)) b (.box (cs.set j (.sl l)))) m (fun _ => False) := by
                  intro q z hz
                  rw [aget_aset] at hz
                  by_cases hq : q = b
                  · rw [if_pos hq] at hz; injection hz with hz; subst hz
                    exact .inr ⟨.box cs, by rw [hq]; exact hb1, rfl, rfl⟩
                  · rw [if_neg hq] at hz; exact .inr ⟨z, hz, rfl, rfl⟩
                have h2 := hS1.next (st' := { st with objs := aset (aset st.objs o (.arr e true l)) b (.box (cs.set j (.sl l))) }) (d := none) (v := undef) (x := .undef) (T := fun _ => False) (Nw := fun _ => False) (Moves.refl O1 _ w) ⟨fun _ _ _ h => h, fun _ _ _ _ h _ => h⟩ (fun _ _ _ h => h) hE (fun _ h => h.elim) (fun _ h => h.elim)
                  (fun q z hz => by
                    rw [aget_aset] at hz
                    by_cases hq : q = b
                    · rw [if_pos hq] at hz; injection hz with hz; subst hz
                      right
                      obtain ⟨bk, base, g1, g2⟩ := hS1.objs b _ hb1
                      rw [hq]
                      refine ⟨⟨bk, base, g1, fun i hi => ?_⟩, hS.ids b _ hb⟩
                      rw [List.length_set] at hi
                      obtain ⟨k1, k2, u, k3, k4⟩ := g2 i hi
                      refine ⟨k1, k2, u, k3, ?_⟩
                      by_cases hij : j = i
                      · subst hij
                        have e1 : (cs.set j (.sl l)).getD j .undef = .sl l := by simp [List.getD_eq_getElem?_getD, hjl]
                        rw [e1]
                        rw [hx] at k4
                        have k5 := k4.2
                        rw [ho1] at k5
                        have hm : u = m o := k5
                        rw [hm]; exact hv1
                      · have e1 : (cs.set j (.sl l)).getD i .undef = cs.getD i .undef := by
                          simp only [List.getD_eq_getElem?_getD, List.getElem?_set]; rw [if_neg hij]
                        rw [e1]
                        exact k4.step (fun _ _ _ h hc => ⟨h, hc⟩) hE (fun _ _ h => h)
                    · rw [if_neg hq] at hz; exact .inl ⟨fun h => h, hz, rfl⟩) rfl (fun h => absurd rfl h)
                exact ih h2
          | _ => exact ih hS
theorem norm_sound (hS : Sim V0 O0 w0 O m st a w) {key : Nat} (h : (norm C key st).1 = true) : ∃ O' m', Sim V0 O0 w0 O' m' (norm C key st).2 a w := by
  unfold norm at h ⊢
  cases hn : C.nrm key with
  | none => exact ⟨O, m, hS⟩
  | some n =>
    rw [hn] at h
    dsimp only at h ⊢
    rw [Bool.and_eq_true] at h
    obtain ⟨O4, hS4⟩ := pzs_sound n.pz hS
    obtain ⟨O1, m1, hS1⟩ := rens_sound n.ren (hS4.dropped n.keep (reached (drop n.keep (pzs n.pz st).tmps 0) (pzs n.pz st).objs)) h.1
    obtain ⟨O3, m3, hS3⟩ := owns_sound n.nw hS1 h.2
    obtain ⟨O2, hS2⟩ := frzs_sound n.frz hS3
    exact ⟨O2, m3, hS2⟩
theorem meetAt_sound {ρ : Type} (hS : Sim V0 O0 w0 O m st a w) {key : Nat} {K : St → Option ρ} {r : ρ} (h : meetAt C key st K = some r) : ∃ O' m' st', Sim V0 O0 w0 O' m' st' a w ∧ K st' = some r := by
  unfold meetAt at h
  cases hn : (norm C key st).1 with
  | false =>
    have h' : (bif (norm C key st).1 then K (norm C key st).2 else none) = some r := h
    rw [hn] at h'; cases h'
  | true =>
    have h' : (bif (norm C key st).1 then K (norm C key st).2 else none) = some r := h
    rw [hn] at h'
    obtain ⟨O1, m1, hS1⟩ := norm_sound hS hn
    exact ⟨O1, m1, _, hS1, h'⟩
theorem meet_sound {ρ : Type} (hS : Sim V0 O0 w0 O m st a w) {kind : Nat} {c : Code} {K : St → Option ρ} {r : ρ} (h : meet C kind c st K = some r) : ∃ O' m' st', Sim V0 O0 w0 O' m' st' a w ∧ K st' = some r := by
  unfold meet at h
  cases hn : firstRegion c with
  | none => rw [hn] at h; exact ⟨O, m, st, hS, h⟩
  | some n => rw [hn] at h; exact meetAt_sound hS h
end
end Go.Proofs.YtnllccjmbijjlaaGreat.Vm

/-
  Code: what the small machine answers the real one does.
-/
namespace Go.Proofs.YtnllccjmbijjlaaGreat.Vm
open Classical

section
variable {P : Program} {C : Ctx} {V0 : Nat → Value} {O0 O : Own} {w0 w : World} {m : Nat → Value} {st : St} {a : Act}

theorem altOf_some {C : Ctx} {o : Oper} {f : Nat} {q : Alt} (h : altOf C o = some (f, q)) : C.alt f = some q := by
  unfold altOf at h
  split at h
  · rename_i g _ _ _ _
    cases ha : C.alt g with
    | none => rw [ha] at h; cases h
    | some q' => rw [ha] at h; injection h with h; injection h with h1 h2; rw [← h1, ← h2]; exact ha
  · cases h
theorem ops_sound {ρ : Type} (hC : CtxOk P C) {ops : Array Oper} {Q : Exit → Act → World → Prop} {v : ρ} {K : St → Option ρ} (hK : ∀ O' m' st' a' w', Sim V0 O0 w0 O' m' st' a' w' → K st' = some v → Q .normal a' w') :
    ∀ (l : List Oper) {O : Own} {m : Nat → Value} {st : St} {a : Act} {w : World}, Sim V0 O0 w0 O m st a w → opsA C ops.toList l st K = some v → wpList P ops Q l a w := by
  intro l
  induction l with
  | nil => intro O m st a w hS h; exact hK _ _ _ _ _ hS h
  | cons o r ih =>
    intro O m st a w hS h
    have one : ∀ C' : Ctx, CtxOk P C' → allT (stepX C' ops.toList o st).ok (opsA C ops.toList r (apply st o (stepX C' ops.toList o st)) K) = some v → wpList P ops Q (o :: r) a w := by
      intro C' hC' h
      obtain ⟨h1, h2⟩ := allT_some h
      refine wpList_step fun k hk => ?_
      exact step_sound hC' hS h1 k Q fun O' m' a' w' hS' => hk _ _ (ih hS' h2)
    unfold opsA at h
    cases ha : altOf C o with
    | none => rw [ha] at h; exact one C hC h
    | some q =>
      obtain ⟨f, q⟩ := q
      rw [ha] at h
      dsimp only at h
      obtain ⟨h1, h2⟩ := hC.alt f q (altOf_some ha)
      cases hb : altB o st q with
      | true => rw [hb] at h; exact one _ (hC.put h1) h
      | false => rw [hb] at h; exact one _ (hC.put h2) h

/-- what holds where the code has been left -/
def Post {ρ : Type} (V0 : Nat → Value) (O0 : Own) (w0 : World) (fin : St → Option ρ) (K : Ex → St → Option ρ) (v : ρ) : Exit → Act → World → Prop
  | .normal, a, w => ∃ O m st, Sim V0 O0 w0 O m st a w ∧ K .normal st = some v
  | .exit id, a, w => ∃ O m st, Sim V0 O0 w0 O m st a w ∧ K (.exit id) st = some v
  | .ret, a, w => ∃ O m st, Sim V0 O0 w0 O m st a w ∧ fin st = some v
  | _, _, _ => False

theorem cond_eval (hS : Sim V0 O0 w0 O m st a w) {c : Operand} {t : Bool} (h : evalA st.tmps c = .bool t ∨ evalA st.tmps c = .cnd true (.bool t)) : a.eval c = .bool t := by
  have := eval_rel hS c
  rcases h with h | h
  · rw [h] at this; exact this.bool
  · rw [h] at this
    have h1 : VRel O w (a.eval c) (.bool t) := this.1 rfl
    generalize a.eval c = z at h1 ⊢
    cases h1; rfl

theorem code_sound {ρ : Type} (hC : CtxOk P C) (N : Nat) {fin : St → Option ρ} {v : ρ}
    (hdraw : ∀ (id : Nat) (ops : Array Oper) {O : Own} {m : Nat → Value} {st : St} {a : Act} {w : World} (K : Ex → St → Option ρ), Sim V0 O0 w0 O m st a w → drawOk C ops.toList st = true → opsX C ops.toList ops.toList st (fun st' => K .normal st') = some v →
      (Code.region id ops true).wp P (Post V0 O0 w0 fin K v) a w) :
    ∀ (c : Code) {O : Own} {m : Nat → Value} {st : St} {a : Act} {w : World} {K : Ex → St → Option ρ}, Sim V0 O0 w0 O m st a w → exec C N fin c st K = some v → c.wp P (Post V0 O0 w0 fin K v) a w := by
  intro c
  induction c with
  | skip => intro O m st a w K hS h; exact wp_skip ⟨O, m, st, hS, h⟩
  | label l => intro O m st a w K hS h; exact wp_label ⟨O, m, st, hS, h⟩
  | ret => intro O m st a w K hS h; exact wp_ret ⟨O, m, st, hS, h⟩
  | exit id =>
    intro O m st a w K hS h
    obtain ⟨O', m', st', hS', h'⟩ := meetAt_sound hS (show meetAt C (4 * id + 3) st (fun st' => K (.exit id) st') = some v from h)
    exact wp_exit ⟨O', m', st', hS', h'⟩
  | region id ops d =>
    intro O m st a w K hS h
    cases d with
    | false =>
      refine wp_region_list (ops_sound hC (K := fun st' => K .normal st') (fun O' m' st' a' w' hS' h' => ⟨O', m', st', hS', h'⟩) ops.toList hS h)
    | true =>
      have h' : (bif drawOk C ops.toList st then opsX C ops.toList ops.toList st (fun st' => K .normal st') else none) = some v := h
      cases hd : drawOk C ops.toList st with
      | false => rw [hd] at h'; cases h'
      | true => rw [hd] at h'; exact hdraw id ops K hS hd h'
  | seq x y ihx ihy =>
    intro O m st a w K hS h
    refine wp_seq (wp_mono (ihx (K := fun | .normal, st' => meet C 1 y st' fun st'' => exec C N fin y st'' K | .exit id, st' => K (.exit id) st') hS h) fun e a' w' hq => ?_)
    cases e with
    | normal =>
      obtain ⟨O1, m1, st1, hS1, h1⟩ := hq
      obtain ⟨O2, m2, st2, hS2, h2⟩ := meet_sound hS1 h1
      exact ihy hS2 h2
    | exit id => exact hq
    | ret => exact hq
    | goto l => exact hq
    | panic ch => exact hq
    | outgrown => exact hq
  | cond c x y ihx ihy =>
    intro O m st a w K hS h
    have key : ∀ t : Bool, (evalA st.tmps c = .bool t ∨ evalA st.tmps c = .cnd true (.bool t)) → (bif t then exec C N fin x st K else exec C N fin y st K) = some v → (Code.cond c x y).wp P (Post V0 O0 w0 fin K v) a w := by
      intro t ht h'
      refine wp_cond (cond_eval hS ht) ?_
      cases t with
      | true => exact ihx hS h'
      | false => exact ihy hS h'
    simp only [exec] at h
    cases he : evalA st.tmps c with
    | bool t => rw [he] at h; exact key t (.inl he) h
    | cnd g y' =>
      rw [he] at h
      cases y' with
      | bool t =>
        cases g with
        | false => cases h
        | true => exact key t (.inr he) h
      | _ => cases h
    | _ => rw [he] at h; cases h
  | block id c ih =>
    intro O m st a w K hS h
    refine wp_block (wp_mono (ih (K := fun | .exit j, st' => bif Nat.beq j id then K .normal st' else K (.exit j) st' | .normal, st' => K .normal st') hS h) fun e a' w' hq => ?_)
    cases e with
    | normal => exact hq
    | exit j =>
      obtain ⟨O1, m1, st1, hS1, h1⟩ := hq
      dsimp only at h1
      show if j = id then _ else _
      rw [nbeq] at h1
      by_cases hj : j = id
      · rw [if_pos hj]
        simp only [hj, decide_true, cond_true] at h1
        exact ⟨O1, m1, st1, hS1, h1⟩
      · rw [if_neg hj]
        rw [show decide (j = id) = false by simpa using hj] at h1
        exact ⟨O1, m1, st1, hS1, h1⟩
    | ret => exact hq
    | goto l => exact hq
    | panic ch => exact hq
    | outgrown => exact hq
  | loop c ih =>
    intro O m st a w K hS h
    obtain ⟨O1, m1, st1, hS1, h1⟩ := meet_sound hS (show meet C 2 c st (fun st' => rounds (meet C 2 c) (exec C N fin c) N st' K) = some v from h)
    refine wp_loop_rounds N ?_
    have key : ∀ (n : Nat) {O : Own} {m : Nat → Value} {st : St} {a : Act} {w : World}, Sim V0 O0 w0 O m st a w → rounds (meet C 2 c) (exec C N fin c) n st K = some v → Code.rounds P c (Post V0 O0 w0 fin K v) n a w := by
      intro n
      induction n with
      | zero => intro O m st a w _ h; cases h
      | succ n ihn =>
        intro O m st a w hS h
        refine wp_mono (ih (K := fun | .normal, st' => meet C 2 c st' fun st'' => rounds (meet C 2 c) (exec C N fin c) n st'' K | .exit id, st' => K (.exit id) st') hS h) fun e a' w' hq => ?_
        cases e with
        | normal =>
          obtain ⟨O2, m2, st2, hS2, h2⟩ := hq
          obtain ⟨O3, m3, st3, hS3, h3⟩ := meet_sound hS2 h2
          exact ihn hS3 h3
        | exit id => exact hq
        | ret => exact hq
        | goto l => exact hq
        | panic ch => exact hq
        | outgrown => exact hq
    exact key N hS1 h1
  | _ => intro O m st a w K hS h; cases h
end
end Go.Proofs.YtnllccjmbijjlaaGreat.Vm

/-
  A function: what the small machine answers its call returns.
-/
namespace Go.Proofs.YtnllccjmbijjlaaGreat.Vm
open Classical

def maskS : Sh → Sh
  | .box ks => .box ks
  | .map kt vt => .map kt vt
  | _ => .cell false .bool
def maskA : Sh → Nat → A
  | .box _, i => .ptr (256 * i) 0
  | .map _ _, i => .own (256 * i)
  | _, _ => .bool true
def maskV : List Sh → Nat → List A
  | [], _ => []
  | s :: ss, i => maskA s i :: maskV ss (i + 1)
def unbox : A → A
  | .box cs => .agg cs
  | a => a
def entrySt (pars : List Sh) (xs : List A) (n : Nat) : St := { tmps := (backs 0 256 pars xs 0).2.1 ++ List.replicate (n - pars.length) .undef, objs := setAll [] (backs 0 256 pars xs 0).2.2 }
/-- a result: a slot, or what lies where a slot points -/
def outX (C : Ctx) (st : St) (q : Nat × Option Nat) : List Bool × A :=
  match q.2 with
  | none => ([Nat.blt q.1 st.tmps.length], st.tmps.getD q.1 .undef)
  | some ty => match loadX C st.objs ty (st.tmps.getD q.1 .undef) with
    | δ => (Nat.blt q.1 st.tmps.length :: δ.ok, δ.val)
def outsOf (C : Ctx) (outs : List (Nat × Option Nat)) (st : St) : List A := outs.map (fun q => (outX C st q).2)
def finish (C : Ctx) (pars ress : List Sh) (outs : List (Nat × Option Nat)) (st : St) : Option (List A) :=
  allT ((handArgs st.objs ress (outsOf C outs st)).1 ++ (handArgs st.objs (pars.map maskS) (maskV pars 0)).1 ++
      [nodup ((namesAs st.objs 256000 256 ress (outsOf C outs st) ++ namesAs st.objs 0 256 (pars.map maskS) (maskV pars 0)).map (·.1))] ++ outs.flatMap (fun q => (outX C st q).1))
    (some ((handArgs st.objs ress (outsOf C outs st)).2.1 ++ (boxIx pars 0).map (fun i => unbox ((handArgs st.objs (pars.map maskS) (maskV pars 0)).2.1.getD i .undef))))
/-- a function's run; fin: what is made of the state at its end -/
def runK {ρ : Type} (C : Ctx) (N : Nat) (pars : List Sh) (n : Nat) (code : Code) (fin : St → Option ρ) (xs : List A) : Option ρ :=
  allT ((backs 0 256 pars xs 0).1 ++ [nodup ((backs 0 256 pars xs 0).2.2.map (·.1)), !(has ((backs 0 256 pars xs 0).2.2.map (·.1)) 255)])
    (exec C N fin code (entrySt pars xs n) fun
      | .normal, st => fin st
      | .exit _, _ => none)

section
variable {P : Program} {C : Ctx} {V0 : Nat → Value} {O0 O : Own} {w0 w : World} {m : Nat → Value} {st : St} {a : Act}

theorem backCells_keys {id : Nat} : ∀ (ks : List (Bool × CK)) (cs : List A) (j0 : Nat), ∀ p ∈ (backCells id ks cs j0).2.2, ∃ x, p.1 = id + x ∧ x < j0 + ks.length := by
  intro ks
  induction ks with
  | nil => intro cs j0 p hp; simp [backCells] at hp
  | cons k ks ih =>
    intro cs j0 p hp
    have step : p ∈ (backCells id ks cs (j0 + 1)).2.2 → ∃ x, p.1 = id + x ∧ x < j0 + (k :: ks).length := by
      intro h
      obtain ⟨x, h1, h2⟩ := ih cs (j0 + 1) p h
      exact ⟨x, h1, by simp only [List.length_cons]; omega⟩
    obtain ⟨u, k⟩ := k
    cases u with
    | false => exact step hp
    | true =>
      cases k with
      | sl e sz =>
        simp only [backCells] at hp
        rcases List.mem_cons.1 hp with rfl | hp
        · exact ⟨j0, rfl, by simp⟩
        · exact step hp
      | _ => simp [backCells] at hp
theorem back_keys {id : Nat} {s : Sh} {x : A} (hok : AllT (back id s x).1) : ∀ p ∈ (back id s x).2.2, ∃ i, p.1 = id + i ∧ i < 255 := by
  intro p hp
  cases s with
  | cell u k =>
    obtain ⟨i, h1, h2⟩ := backCells_keys _ _ _ p hp
    exact ⟨i, h1, by simp at h2; omega⟩
  | agg ks =>
    simp only [back] at hok hp
    have := Nat.le_of_ble_eq_true hok.cons.1
    obtain ⟨i, h1, h2⟩ := backCells_keys _ _ _ p hp
    exact ⟨1 + i, by omega, by omega⟩
  | box ks =>
    simp only [back] at hok hp
    have := Nat.le_of_ble_eq_true hok.cons.1
    rcases List.mem_cons.1 hp with rfl | hp
    · exact ⟨0, rfl, by omega⟩
    · obtain ⟨i, h1, h2⟩ := backCells_keys _ _ _ p hp
      exact ⟨1 + i, by omega, by omega⟩
  | map kt vt =>
    obtain rfl : p = (id, .mp x.toM) := by simpa [back] using hp
    exact ⟨0, rfl, by omega⟩
theorem backsH_val {f : Nat → Value} : ∀ (ss : List Sh) (rs : List A) (j0 : Nat), AllT (backs 0 256 ss rs j0).1 → ∀ p ∈ backsH w f 0 256 ss rs j0, p.2 = handleOf w (f (p.1 / 256)) (p.1 % 256) := by
  intro ss
  induction ss with
  | nil => intro rs j0 _ p hp; simp [backsH] at hp
  | cons s ss ih =>
    intro rs j0 hok p hp
    simp only [backs] at hok
    obtain ⟨h1, h2⟩ := hok.append
    simp only [backsH] at hp
    rcases List.mem_append.1 hp with hp | hp
    · obtain ⟨q, hq, rfl⟩ := List.mem_map.1 hp
      obtain ⟨i, h3, h4⟩ := back_keys h1 q hq
      dsimp only
      rw [h3]
      have e1 : (0 + 256 * j0 + i) / 256 = j0 := by omega
      have e2 : (0 + 256 * j0 + i) % 256 = i := by omega
      rw [e1, e2, Nat.add_sub_cancel_left]
    · exact ih rs (j0 + 1) h2 p hp

/-- the start -/
theorem entry_sim {pars : List Sh} {xs : List A} {n : Nat} {vs : Array Value} (hv : vs.size = xs.length) (hl : xs.length = pars.length) (h : ∀ j, j < xs.length → IR O w (256 * j) (vs.getD j undef) (xs.getD j .undef))
    (hok : AllT (backs 0 256 pars xs 0).1) (hnd : nodup ((backs 0 256 pars xs 0).2.2.map (·.1)) = true) (h255 : has ((backs 0 256 pars xs 0).2.2.map (·.1)) 255 = false) :
    Sim (fun o => vs.getD (o / 256) undef) O w O (fun o => handleOf w (vs.getD (o / 256) undef) (o % 256)) (entrySt pars xs n) { tmps := vs ++ Array.replicate (n - vs.size) undef, defers := [] } w := by
  have hmem : ∀ o x, aget (setAll [] (backs 0 256 pars xs 0).2.2) o = some x → (o, x) ∈ (backs 0 256 pars xs 0).2.2 := by
    intro o x hx
    rcases mem_setAll _ (aget_mem hx) with h | h
    · exact h
    · cases h
  have hget : ∀ p ∈ (backs 0 256 pars xs 0).2.2, aget (setAll [] (backs 0 256 pars xs 0).2.2) p.1 = some p.2 := fun p hp => aget_new (objs := []) (upd := []) (del := []) hnd (o := p.1) (x := p.2) hp
  obtain ⟨r1, r2, r3⟩ := backs_spec (Oc := O) (O' := O) (w := w) (objs' := setAll [] (backs 0 256 pars xs 0).2.2) (m' := fun o => handleOf w (vs.getD (o / 256) undef) (o % 256)) (cid := 0) (cst := 256) (id := 0) (stride := 256) (f := fun j => vs.getD j undef) (rs := xs)
    (fun _ _ _ h hc => ⟨h, hc⟩) (fun _ _ h => h) pars 0 (fun j hj => by rw [Nat.zero_add, Nat.zero_add]; exact h j (by rw [hl]; exact hj)) (fun j _ b k i _ hb => hb) hok hget
    (fun p hp => (backsH_val pars xs 0 hok p hp).symm)
  refine ⟨rfl, ?_, fun t ht => ?_, fun o x hx => r3 _ (hmem o x hx), Moves.refl O _ w, fun b k o _ ho hne => ⟨o, ho, hne⟩, fun o x hx e => ?_, fun b k _ h => h, fun o hr _ => ?_, fun b k _ h => h⟩
  · simp [entrySt, r1, hv, hl]
  · show TRel O _ _ w (((vs ++ Array.replicate (n - vs.size) undef).getD t undef)) (((backs 0 256 pars xs 0).2.1 ++ List.replicate (n - pars.length) A.undef).getD t .undef)
    rcases Nat.lt_or_ge t pars.length with htl | htl
    · have e1 : ((backs 0 256 pars xs 0).2.1 ++ List.replicate (n - pars.length) A.undef).getD t .undef = (backs 0 256 pars xs 0).2.1.getD t .undef := by
        simp [List.getD_eq_getElem?_getD, List.getElem?_append_left, r1, htl]
      have e2 : (vs ++ Array.replicate (n - vs.size) undef).getD t undef = vs.getD t undef := by
        have : t < vs.size := by rw [hv, hl]; exact htl
        simp [Array.getD_eq_getD_getElem?, Array.getElem?_append_left, this]
      rw [e1, e2]
      have := (r2 t htl).1
      rw [Nat.zero_add] at this; exact this
    · have e1 : ((backs 0 256 pars xs 0).2.1 ++ List.replicate (n - pars.length) A.undef).getD t .undef = .undef := by
        rw [List.getD_eq_getElem?_getD, List.getElem?_append_right (by rw [r1]; exact htl), List.getElem?_replicate]
        split <;> rfl
      rw [e1]; trivial
  · subst e
    have := hmem _ x hx
    have h' : has ((backs 0 256 pars xs 0).2.2.map (·.1)) 255 = true := has_mem.2 (List.mem_map.2 ⟨_, this, rfl⟩)
    rw [h'] at h255; cases h255
  · unfold rootId at hr
    rw [Bool.and_eq_true] at hr
    have := Nat.eq_of_beq_eq_true hr.2
    rw [this]; rfl

theorem handArgs_box {fet : Fet} : ∀ (ss : List Sh) (xs : List A), AllT (handArgs fet ss xs).1 → ∀ i s, ss[i]? = some s → isBoxSh s = true → rebox (unbox ((handArgs fet ss xs).2.1.getD i .undef)) = (handArgs fet ss xs).2.1.getD i .undef := by
  intro ss
  induction ss with
  | nil => intro xs _ i s h; simp at h
  | cons s ss ih =>
    intro xs hok i s' h hb
    cases xs with
    | nil => have := hok false (by simp [handArgs]); cases this
    | cons x xs =>
      simp only [handArgs] at hok ⊢
      obtain ⟨h1, h2⟩ := hok.append
      cases i with
      | zero =>
        simp at h; subst h
        cases s with
        | cell _ _ => cases hb
        | agg _ => cases hb
        | map kt vt =>
          cases x with
          | own q =>
            unfold handArg at h1 ⊢
            dsimp only at h1 ⊢
            cases hg : aget fet q with
            | none => rw [hg] at h1; have := h1 false (by simp); cases this
            | some y =>
              cases y with
              | mp l => rfl
              | _ => rw [hg] at h1; have := h1 false (by simp); cases this
          | _ => have := h1 false (by simp [handArg]); cases this
        | box ks =>
        cases x with
        | ptr q off =>
          unfold handArg at h1 ⊢
          dsimp only at h1 ⊢
          cases hb : box? fet q with
          | none => rw [hb] at h1; have := h1 false (by simp); cases this
          | some cs => rfl
        | _ => have := h1 false (by simp [handArg]); cases this
      | succ i => simpa using ih xs h2 i s' (by simpa using h) hb
theorem boxIx_spec : ∀ (ss : List Sh) (i0 j i : Nat), (boxIx ss i0)[j]? = some i → ∃ r s, i = i0 + r ∧ ss[r]? = some s ∧ isBoxSh s = true := by
  intro ss
  induction ss with
  | nil => intro i0 j i h; simp [boxIx] at h
  | cons s ss ih =>
    intro i0 j i h
    have step : ∀ j' : Nat, (boxIx ss (i0 + 1))[j']? = some i → ∃ r s', i = i0 + r ∧ (s :: ss)[r]? = some s' ∧ isBoxSh s' = true := by
      intro j' h'
      obtain ⟨r, s', h1, h2, h3⟩ := ih (i0 + 1) j' i h'
      exact ⟨r + 1, s', by omega, by simpa using h2, h3⟩
    simp only [boxIx] at h
    cases s with
    | box ks =>
      simp only [isBoxSh, cond_true] at h
      cases j with
      | zero => simp at h; exact ⟨0, _, by omega, rfl, rfl⟩
      | succ j => exact step j (by simpa using h)
    | map kt vt =>
      simp only [isBoxSh, cond_true] at h
      cases j with
      | zero => simp at h; exact ⟨0, _, by omega, rfl, rfl⟩
      | succ j => exact step j (by simpa using h)
    | cell u k => simp only [isBoxSh, cond_false] at h; exact step j h
    | agg ks => simp only [isBoxSh, cond_false] at h; exact step j h
theorem maskV_length : ∀ (ss : List Sh) (i0 : Nat), (maskV ss i0).length = ss.length := by
  intro ss
  induction ss with
  | nil => intro i0; rfl
  | cons s ss ih => intro i0; simp [maskV, ih]
theorem maskV_getD : ∀ (ss : List Sh) (i0 j : Nat), j < ss.length → (maskV ss i0).getD j .undef = maskA (ss.getD j (.agg [])) (i0 + j) := by
  intro ss
  induction ss with
  | nil => intro i0 j h; simp at h
  | cons s ss ih =>
    intro i0 j h
    cases j with
    | zero =>
      simp only [maskV, List.getD_cons_zero, Nat.add_zero]
    | succ j =>
      have := ih (i0 + 1) j (by simpa using h)
      rw [show i0 + 1 + j = i0 + (j + 1) from by omega] at this
      simpa [maskV] using this
end
end Go.Proofs.YtnllccjmbijjlaaGreat.Vm
