/- DERIVED. Rows of the call's own whose elements are a text and a number, laid open as cells; copy for elements of any size. Conditions: those that each lemma names. -/
import Derived.Laws.CopyRow
import Derived.Lib.Overlaps
import Derived.Test.YtmgjccpolkhhhaaPAllx0
namespace Go.Proofs.Ytmgjccpolkhhhaa.In
open Go.RowKit Go.Proofs.Ytmgjccpolkhhhaa.PAll Go.Proofs.YtmgjccpolkhhhaaW.PrintWords Go.Proofs.YtmgjccpolkhhhaaW.PrintLast Go.Proofs.Ytmgjccpolkhhhaa.Hl
set_option linter.unusedSimpArgs false
set_option linter.unusedVariables false
def cellsP (x : S46) : List Value := [.string x.f0, .int .i64 x.f1]
def rowP (xs : List S46) : List Value := xs.flatMap cellsP
theorem rowP_len (xs : List S46) : (rowP xs).length = xs.length * 2 := by
  induction xs with
  | nil => rfl
  | cons x t ih => simp only [rowP, List.flatMap_cons, List.length_append, List.length_cons] at *; rw [ih]; simp [cellsP]; omega
theorem rowP_app (a b : List S46) : rowP (a ++ b) = rowP a ++ rowP b := by simp [rowP]
theorem rowP_one (xs : List S46) : ∀ v ∈ rowP xs, v.oneCell' = true := by
  intro v hv
  simp only [rowP, List.mem_flatMap, cellsP, List.mem_cons, List.not_mem_nil, or_false] at hv
  obtain ⟨x, _, rfl | rfl⟩ := hv <;> rfl
theorem rowP_take : ∀ (xs : List S46) (i : Nat), (rowP xs).take (i * 2) = rowP (xs.take i)
  | [], i => by simp [rowP]
  | x :: t, 0 => by simp [rowP]
  | x :: t, i + 1 => by
    have h := rowP_take t i
    rw [show (i + 1) * 2 = i * 2 + 1 + 1 by omega]
    simp only [rowP, List.flatMap_cons, cellsP, List.take_succ_cons, List.cons_append, List.nil_append] at *
    rw [h]
theorem rowP_drop : ∀ (xs : List S46) (i : Nat), (rowP xs).drop (i * 2) = rowP (xs.drop i)
  | [], i => by simp [rowP]
  | x :: t, 0 => by simp [rowP]
  | x :: t, i + 1 => by
    have h := rowP_drop t i
    rw [show (i + 1) * 2 = i * 2 + 1 + 1 by omega]
    simp only [rowP, List.flatMap_cons, cellsP, List.drop_succ_cons, List.cons_append, List.nil_append] at *
    rw [h]
theorem reps_row {R : S46 → List Value → Prop} (hR : ∀ p c, R p c → c = cellsP p) : ∀ (xs : List S46) (cs : List Value), Reps R 2 xs cs → cs = rowP xs
  | [], cs, h => by
    have := h.1
    simp at this
    rw [this]; rfl
  | x :: t, cs, h => by
    have hl := h.1
    have h0 := hR _ _ (h.2 0 x rfl)
    have ht := reps_row hR t (cs.drop 2) ⟨by rw [List.length_drop, hl, List.length_cons]; omega, fun j p hj => by
      have := h.2 (j + 1) p (by simpa using hj)
      rw [List.drop_drop, show 2 + j * 2 = (j + 1) * 2 by omega]
      exact this⟩
    rw [Nat.zero_mul, List.drop_zero] at h0
    rw [← List.take_append_drop 2 cs, h0, ht]
    rfl
theorem row_reps {R : S46 → List Value → Prop} (hR : ∀ p, R p (cellsP p)) (xs : List S46) : Reps R 2 xs (rowP xs) := by
  refine ⟨rowP_len xs, fun j p hj => ?_⟩
  rw [rowP_drop]
  have hlt : j < xs.length := (List.getElem?_eq_some_iff.1 hj).1
  rw [List.drop_eq_getElem_cons hlt, (List.getElem?_eq_some_iff.1 hj).2]
  show R p ((cellsP p ++ rowP (xs.drop (j + 1))).take 2)
  exact hR p
/-- An own row of parts, laid open. -/
theorem R_cells {w : World} {base : Nat} {ok : Nat → Prop} {S : Value} {xs : List S46} (h : Kd.R k46 46 w base ok S xs) : (S = .slice none 0 0 ∧ xs = []) ∨ ∃ g c cur, S = .slice (some ⟨g, 0, none⟩) xs.length c ∧ ok g ∧ base ≤ g ∧ w.heap[g]? = some (.cells cur 46 (0, 0)) ∧ xs.length ≤ c ∧ c ≤ maxLen ∧ cur.size = c * 2 ∧ cur.toList.take (xs.length * 2) = rowP xs := by
  obtain ⟨h0, inner, ⟨h1, h2⟩, hr⟩ := h
  have hi := reps_row (fun p c hp => k46_openM hp) xs inner hr
  rcases h2 with ⟨e, hn⟩ | ⟨g, c, cur, e, hg, hh, hc, hm, hs, ht⟩
  · exact .inl ⟨e, List.eq_nil_of_length_eq_zero hn⟩
  · refine .inr ⟨g, c, cur, e, h0 g (by rw [e]; rfl), hg, hh, hc, hm, hs, ?_⟩
    rw [← hi]; exact ht
theorem cells_R {w : World} {base : Nat} {ok : Nat → Prop} {g c : Nat} {cur : Array Value} {xs : List S46} (hok : ok g) (hg : base ≤ g) (hh : w.heap[g]? = some (.cells cur 46 (0, 0))) (hc : xs.length ≤ c) (hm : c ≤ maxLen) (hs : cur.size = c * 2) (ht : cur.toList.take (xs.length * 2) = rowP xs) : Kd.R k46 46 w base ok (.slice (some ⟨g, 0, none⟩) xs.length c) xs := by
  refine ⟨fun k hk => ?_, rowP xs, ⟨rowP_len xs, .inr ⟨g, c, cur, rfl, hg, hh, hc, hm, hs, ht⟩⟩, row_reps (fun p => k46_mkM _ _ _ p) xs⟩
  have : g = k := by simpa [Value.ownBlock] using hk
  exact this ▸ hok
/-- copy into a row that lies open, for elements of any size. -/
theorem run_copy_rows (P : Program) (w : World) (dT sT ty elem : TypeId) (sz g o dLen dCap : Nat) (a : Addr) (sLen sCap : Nat) (cur : Array Value) (t : TypeId) (cs : List Value)
    (hu : P.underlying dT = some (.slice elem)) (hs : (P.info? elem).map (·.size) = some sz)
    (hg : w.heap[g]? = some (.cells cur t (0, 0))) (hn : cs.length = Nat.min sLen dLen * sz)
    (hsrc : ∀ j v, cs[j]? = some v → w.cell? (a.add j) = some v) (hfit : o + cs.length ≤ cur.size) (h1 : ∀ v ∈ cs, v.oneCell' = true) :
    (Builtin.copy_ #[dT, sT] ty #[.slice (some ⟨g, o, none⟩) dLen dCap, .slice (some a) sLen sCap]).run P w =
      .ok (goInt (Nat.min sLen dLen)) (w.setRow g (cur.toList.take o ++ cs ++ cur.toList.drop (o + cs.length)).toArray) := by
  have hl := run_loadCells_list (P := P) w a cs hsrc
  have hst := run_storeCells_at P g o t cs 0 cur w hg (by simpa using hfit) h1
  cases hq : P.info? elem with
  | none => simp [hq] at hs
  | some i =>
    have hi : i.size = sz := by simpa [hq] using hs
    rw [hn] at hl
    simp [Builtin.copy_, run_underlying hu, Builtin.lenOf, Builtin.firstCells, sizeOf, typeInfo, hq, hi, hl, hst]
theorem wp_copyI {P : Program} (w : World) {o : Oper} {a : Act} {K : Act → World → Prop} {Q : Exit → Act → World → Prop} (d s : Operand) (t t' : TypeId)
    (ho : o.op = .call { callee := .builtin .copy, args := #[d, s], argTypes := #[t, t'] }) (v u : Value) (hd : a.eval d = v) (hs : a.eval s = u) {v' : Value} {w' : World}
    (hr : (Builtin.copy_ #[t, t'] o.type #[v, u]).run P w = .ok v' w') (h : K (a.put o.dst v') w') : o.wp P a w K Q := by
  unfold Oper.wp execOp
  simp only [ho, resolve, invoke, builtin, Sem.run_bind, Sem.run_pure, Result.andThen_ok, List.map_toArray, List.map_cons, List.map_nil, hd, hs, hr]
  exact h
theorem wpList_copyI {P : Program} (w : World) {ops : Array Oper} {rest : List Oper} {o : Oper} {a : Act} {Q : Exit → Act → World → Prop} (hgd : o.guard = none) (d s : Operand) (t t' : TypeId)
    (ho : o.op = .call { callee := .builtin .copy, args := #[d, s], argTypes := #[t, t'] }) (v u : Value) (hd : a.eval d = v) (hs : a.eval s = u) {v' : Value} {w' : World}
    (hr : (Builtin.copy_ #[t, t'] o.type #[v, u]).run P w = .ok v' w') (h : wpList P ops Q rest (a.put o.dst v') w') : wpList P ops Q (o :: rest) a w :=
  wpList_plain hgd fun _ hK => wp_copyI w d s t t' ho v u hd hs hr (hK _ _ h)
theorem step_copyI {P : Program} {ops : Array Oper} {o : Oper} {a : Act} {w : World} {K : Act → World → Prop} {Q : Exit → Act → World → Prop} {E : Prop}
    (hg : o.guard = none) (d x : Operand) (dT sT : TypeId) (hop : o.op = Op.call { callee := Callee.builtin Builtin.copy, args := #[d, x], argTypes := #[dT, sT] })
    (v u : Value) (hd : a.eval d = v) (hx : a.eval x = u) {v' : Value} {w' : World} (hr : (Builtin.copy_ #[dT, sT] o.type #[v, u]).run P w = .ok v' w') (hK : K (a.put o.dst v') w') :
    if Region.wanted o (yielded ops a.tmps) = true then Oper.wp P o a w K Q else E := by
  have hw : Region.wanted o (yielded ops a.tmps) = true := by simp [Region.wanted, hg]
  rw [if_pos hw]
  unfold Oper.wp
  simp [execOp, hop, resolve, invoke, builtin, hd, hx, hr, Result.andThen]
  exact hK
/-- Cells of a row are read one by one. -/
theorem row_cell {w : World} {g t : Nat} {cur : Array Value} (hh : w.heap[g]? = some (.cells cur t (0, 0))) (o : Nat) (cs : List Value) (h : (cur.toList.drop o).take cs.length = cs) : ∀ j v, cs[j]? = some v → w.cell? ((⟨g, o, none⟩ : Addr).add j) = some v := by
  intro j v hj
  have hadd : (⟨g, o, none⟩ : Addr).add j = ⟨g, o + j, none⟩ := by unfold Addr.add; split <;> simp_all
  rw [hadd]
  have hlt : j < cs.length := (List.getElem?_eq_some_iff.1 hj).1
  have this : ((cur.toList.drop o).take cs.length)[j]? = some v := by rw [h]; exact hj
  rw [List.getElem?_take, if_pos hlt, List.getElem?_drop] at this
  simp [World.cell?, hh]
  simpa using this
end Go.Proofs.Ytmgjccpolkhhhaa.In
