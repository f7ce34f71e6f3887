/- DERIVED. Rows of the call's own whose elements are a text and a number, laid open as cells; copy for elements of any size. Conditions: those that each lemma names. DERIVED. slices.Insert of one part into a row of the call's own. Conditions: those that each lemma names. DERIVED. slices.Delete of one part out of a row of the call's own. Conditions: those that each lemma names. DERIVED. Calls through a variable that holds a closure: what it has captured is handed over behind the arguments. Conditions: those that each lemma names. DERIVED. What the second closure of Split does. Conditions: those that each lemma names. -/
import Derived.Laws.CopyRow
import Derived.Lib.Overlaps
import Derived.Test.YtmgjccpolkhhhaaPAllx0
import Derived.Shelf.RegionOpenPlain
import Derived.WalkKit
import Derived.Lib.Walk
import Derived.Lib.SliceRun
import Derived.Lib.JoinLaws
import Derived.Lib.AppendZeros
import Derived.Lib.AppendZerosOnto
import Derived.Laws.Externs
import Derived.Laws.CopyOwn
import Derived.Laws.NewBlocks
namespace Go.Proofs.Ytmgjccpolkhhhaa.In
open Go.RowKit Go.Proofs.Ytmgjccpolkhhhaa.PAll Go.Proofs.YtmgjccpolkhhhaaW.PrintWords Go.Proofs.YtmgjccpolkhhhaaW.PrintLast Go.Proofs.Ytmgjccpolkhhhaa.Hl
set_option linter.unusedSimpArgs false
set_option linter.unusedVariables false
def cellsP (x : S46) : List Value := [.string x.f0, .int .i64 x.f1]
def rowP (xs : List S46) : List Value := xs.flatMap cellsP
theorem rowP_len (xs : List S46) : (rowP xs).length = xs.length * 2 := by
  induction xs with
  | nil => rfl
  | cons x t ih => simp only [rowP, List.flatMap_cons, List.length_append, List.length_cons] at *; rw [ih]; simp [cellsP]; omega
theorem rowP_app (a b : List S46) : rowP (a ++ b) = rowP a ++ rowP b := by simp [rowP]
theorem rowP_one (xs : List S46) : ∀ v ∈ rowP xs, v.oneCell' = true := by
  intro v hv
  simp only [rowP, List.mem_flatMap, cellsP, List.mem_cons, List.not_mem_nil, or_false] at hv
  obtain ⟨x, _, rfl | rfl⟩ := hv <;> rfl
theorem rowP_take : ∀ (xs : List S46) (i : Nat), (rowP xs).take (i * 2) = rowP (xs.take i)
  | [], i => by simp [rowP]
  | x :: t, 0 => by simp [rowP]
  | x :: t, i + 1 => by
    have h := rowP_take t i
    rw [show (i + 1) * 2 = i * 2 + 1 + 1 by omega]
    simp only [rowP, List.flatMap_cons, cellsP, List.take_succ_cons, List.cons_append, List.nil_append] at *
    rw [h]
theorem rowP_drop : ∀ (xs : List S46) (i : Nat), (rowP xs).drop (i * 2) = rowP (xs.drop i)
  | [], i => by simp [rowP]
  | x :: t, 0 => by simp [rowP]
  | x :: t, i + 1 => by
    have h := rowP_drop t i
    rw [show (i + 1) * 2 = i * 2 + 1 + 1 by omega]
    simp only [rowP, List.flatMap_cons, cellsP, List.drop_succ_cons, List.cons_append, List.nil_append] at *
    rw [h]
theorem reps_row {R : S46 → List Value → Prop} (hR : ∀ p c, R p c → c = cellsP p) : ∀ (xs : List S46) (cs : List Value), Reps R 2 xs cs → cs = rowP xs
  | [], cs, h => by
    have := h.1
    simp at this
    rw [this]; rfl
  | x :: t, cs, h => by
    have hl := h.1
    have h0 := hR _ _ (h.2 0 x rfl)
    have ht := reps_row hR t (cs.drop 2) ⟨by rw [List.length_drop, hl, List.length_cons]; omega, fun j p hj => by
      have := h.2 (j + 1) p (by simpa using hj)
      rw [List.drop_drop, show 2 + j * 2 = (j + 1) * 2 by omega]
      exact this⟩
    rw [Nat.zero_mul, List.drop_zero] at h0
    rw [← List.take_append_drop 2 cs, h0, ht]
    rfl
theorem row_reps {R : S46 → List Value → Prop} (hR : ∀ p, R p (cellsP p)) (xs : List S46) : Reps R 2 xs (rowP xs) := by
  refine ⟨rowP_len xs, fun j p hj => ?_⟩
  rw [rowP_drop]
  have hlt : j < xs.length := (List.getElem?_eq_some_iff.1 hj).1
  rw [List.drop_eq_getElem_cons hlt, (List.getElem?_eq_some_iff.1 hj).2]
  show R p ((cellsP p ++ rowP (xs.drop (j + 1))).take 2)
  exact hR p
/-- An own row of parts, laid open. -/
theorem R_cells {w : World} {base : Nat} {ok : Nat → Prop} {S : Value} {xs : List S46} (h : Kd.R k46 46 w base ok S xs) : (S = .slice none 0 0 ∧ xs = []) ∨ ∃ g c cur, S = .slice (some ⟨g, 0, none⟩) xs.length c ∧ ok g ∧ base ≤ g ∧ w.heap[g]? = some (.cells cur 46 (0, 0)) ∧ xs.length ≤ c ∧ c ≤ maxLen ∧ cur.size = c * 2 ∧ cur.toList.take (xs.length * 2) = rowP xs := by
  obtain ⟨h0, inner, ⟨h1, h2⟩, hr⟩ := h
  have hi := reps_row (fun p c hp => k46_openM hp) xs inner hr
  rcases h2 with ⟨e, hn⟩ | ⟨g, c, cur, e, hg, hh, hc, hm, hs, ht⟩
  · exact .inl ⟨e, List.eq_nil_of_length_eq_zero hn⟩
  · refine .inr ⟨g, c, cur, e, h0 g (by rw [e]; rfl), hg, hh, hc, hm, hs, ?_⟩
    rw [← hi]; exact ht
theorem cells_R {w : World} {base : Nat} {ok : Nat → Prop} {g c : Nat} {cur : Array Value} {xs : List S46} (hok : ok g) (hg : base ≤ g) (hh : w.heap[g]? = some (.cells cur 46 (0, 0))) (hc : xs.length ≤ c) (hm : c ≤ maxLen) (hs : cur.size = c * 2) (ht : cur.toList.take (xs.length * 2) = rowP xs) : Kd.R k46 46 w base ok (.slice (some ⟨g, 0, none⟩) xs.length c) xs := by
  refine ⟨fun k hk => ?_, rowP xs, ⟨rowP_len xs, .inr ⟨g, c, cur, rfl, hg, hh, hc, hm, hs, ht⟩⟩, row_reps (fun p => k46_mkM _ _ _ p) xs⟩
  have : g = k := by simpa [Value.ownBlock] using hk
  exact this ▸ hok
/-- copy into a row that lies open, for elements of any size. -/
theorem run_copy_rows (P : Program) (w : World) (dT sT ty elem : TypeId) (sz g o dLen dCap : Nat) (a : Addr) (sLen sCap : Nat) (cur : Array Value) (t : TypeId) (cs : List Value)
    (hu : P.underlying dT = some (.slice elem)) (hs : (P.info? elem).map (·.size) = some sz)
    (hg : w.heap[g]? = some (.cells cur t (0, 0))) (hn : cs.length = Nat.min sLen dLen * sz)
    (hsrc : ∀ j v, cs[j]? = some v → w.cell? (a.add j) = some v) (hfit : o + cs.length ≤ cur.size) (h1 : ∀ v ∈ cs, v.oneCell' = true) :
    (Builtin.copy_ #[dT, sT] ty #[.slice (some ⟨g, o, none⟩) dLen dCap, .slice (some a) sLen sCap]).run P w =
      .ok (goInt (Nat.min sLen dLen)) (w.setRow g (cur.toList.take o ++ cs ++ cur.toList.drop (o + cs.length)).toArray) := by
  have hl := run_loadCells_list (P := P) w a cs hsrc
  have hst := run_storeCells_at P g o t cs 0 cur w hg (by simpa using hfit) h1
  cases hq : P.info? elem with
  | none => simp [hq] at hs
  | some i =>
    have hi : i.size = sz := by simpa [hq] using hs
    rw [hn] at hl
    simp [Builtin.copy_, run_underlying hu, Builtin.lenOf, Builtin.firstCells, sizeOf, typeInfo, hq, hi, hl, hst]
theorem wp_copyI {P : Program} (w : World) {o : Oper} {a : Act} {K : Act → World → Prop} {Q : Exit → Act → World → Prop} (d s : Operand) (t t' : TypeId)
    (ho : o.op = .call { callee := .builtin .copy, args := #[d, s], argTypes := #[t, t'] }) (v u : Value) (hd : a.eval d = v) (hs : a.eval s = u) {v' : Value} {w' : World}
    (hr : (Builtin.copy_ #[t, t'] o.type #[v, u]).run P w = .ok v' w') (h : K (a.put o.dst v') w') : o.wp P a w K Q := by
  unfold Oper.wp execOp
  simp only [ho, resolve, invoke, builtin, Sem.run_bind, Sem.run_pure, Result.andThen_ok, List.map_toArray, List.map_cons, List.map_nil, hd, hs, hr]
  exact h
theorem wpList_copyI {P : Program} (w : World) {ops : Array Oper} {rest : List Oper} {o : Oper} {a : Act} {Q : Exit → Act → World → Prop} (hgd : o.guard = none) (d s : Operand) (t t' : TypeId)
    (ho : o.op = .call { callee := .builtin .copy, args := #[d, s], argTypes := #[t, t'] }) (v u : Value) (hd : a.eval d = v) (hs : a.eval s = u) {v' : Value} {w' : World}
    (hr : (Builtin.copy_ #[t, t'] o.type #[v, u]).run P w = .ok v' w') (h : wpList P ops Q rest (a.put o.dst v') w') : wpList P ops Q (o :: rest) a w :=
  wpList_plain hgd fun _ hK => wp_copyI w d s t t' ho v u hd hs hr (hK _ _ h)
theorem step_copyI {P : Program} {ops : Array Oper} {o : Oper} {a : Act} {w : World} {K : Act → World → Prop} {Q : Exit → Act → World → Prop} {E : Prop}
    (hg : o.guard = none) (d x : Operand) (dT sT : TypeId) (hop : o.op = Op.call { callee := Callee.builtin Builtin.copy, args := #[d, x], argTypes := #[dT, sT] })
    (v u : Value) (hd : a.eval d = v) (hx : a.eval x = u) {v' : Value} {w' : World} (hr : (Builtin.copy_ #[dT, sT] o.type #[v, u]).run P w = .ok v' w') (hK : K (a.put o.dst v') w') :
    if Region.wanted o (yielded ops a.tmps) = true then Oper.wp P o a w K Q else E := by
  have hw : Region.wanted o (yielded ops a.tmps) = true := by simp [Region.wanted, hg]
  rw [if_pos hw]
  unfold Oper.wp
  simp [execOp, hop, resolve, invoke, builtin, hd, hx, hr, Result.andThen]
  exact hK
/-- Cells of a row are read one by one. -/
theorem row_cell {w : World} {g t : Nat} {cur : Array Value} (hh : w.heap[g]? = some (.cells cur t (0, 0))) (o : Nat) (cs : List Value) (h : (cur.toList.drop o).take cs.length = cs) : ∀ j v, cs[j]? = some v → w.cell? ((⟨g, o, none⟩ : Addr).add j) = some v := by
  intro j v hj
  have hadd : (⟨g, o, none⟩ : Addr).add j = ⟨g, o + j, none⟩ := by unfold Addr.add; split <;> simp_all
  rw [hadd]
  have hlt : j < cs.length := (List.getElem?_eq_some_iff.1 hj).1
  have this : ((cur.toList.drop o).take cs.length)[j]? = some v := by rw [h]; exact hj
  rw [List.getElem?_take, if_pos hlt, List.getElem?_drop] at this
  simp [World.cell?, hh]
  simpa using this
end Go.Proofs.Ytmgjccpolkhhhaa.In
namespace Go.Proofs.Ytmgjccpolkhhhaa.Is
open Go.Shelf Go.RowKit Go.Lib Go.Proofs.Ytmgjccpolkhhhaa.PAll Go.Proofs.YtmgjccpolkhhhaaW.PrintWords Go.Proofs.YtmgjccpolkhhhaaW.PrintLast Go.Proofs.Ytmgjccpolkhhhaa.Hl Go.Proofs.Ytmgjccpolkhhhaa.In
set_option linter.unusedSimpArgs false
set_option linter.unusedVariables false
set_option maxHeartbeats 4000000 in
set_option maxRecDepth 100000 in
/-- At the end. -/
theorem insert_end (w : World) (base : Nat) (S : Value) (xs : List S46) (n c : Nat) (A : Option Addr) (hSv : S = .slice A n c) (hS : Kd.R k46 46 w base (fun _ => True) S xs) (vb vc : Nat) (p : S46) (hv : Kd.C k46 w (some ⟨vb, 0, none⟩) 1 [p]) (hn : n = xs.length) (hl : xs.length ≤ 1000) (hb : base ≤ w.heap.size) :
    Calls Try.prog 37 #[S, .int .i64 (n : Int), .slice (some ⟨vb, 0, none⟩) 1 vc] w fun e w' => ∃ v', e = .returned v' ∧ Kd.R k46 46 w' base (fun _ => True) v' (xs ++ [p]) ∧ Below base w w' := by
  subst hSv
  have HS := Aside0.mk hS
  have HV := Aside0.mk hv
  have HN := Aside0.mk (show (n + 1) * 24 ≤ 140737488355328 by omega)
  have HX := Aside0.mk hn
  have HBB := Aside0.mk hb
  have hnc : n ≤ c := (Kd.R_reads' hS).2.1
  have hc63 : (c : Int) ≤ 9223372036854775807 := by
    rcases R_cells hS with ⟨h1, _⟩ | ⟨g, c', cur, h1, _, _, _, _, h2, _⟩
    · injection h1 with _ _ h3; omega
    · injection h1 with _ _ h3; unfold maxLen at h2; omega
  have q1 : ((n : Int) == (n : Int)) = true := by simp
  clear hS hv hn hl hb
  cases A with
  | none =>
    obtain ⟨rfl, rfl⟩ : n = 0 ∧ c = 0 := by
      rcases R_cells HS.out with ⟨h1, _⟩ | ⟨g, c', cur, h1, _⟩
      · injection h1 with _ h2 h3; exact ⟨h2, h3⟩
      · injection h1 with h2; cases h2
    go_enter Try.func37, Try.ntmps37
    go_wp2_with (first | ((with_reducible refine gate_builtin (b := .append) (xs := #[.tmp 23, .tmp 24]) rfl ?_); at_builtin; refine Kd.R_append_rows k46 (Rr := k46.K w) (w0 := w) base rfl (.tmp 23) (.tmp 24) 22 46 (.agg #[(.string ⟨#[]⟩), (.int .i64 0)]) 24 rfl Try.underlying22 info46 rfl (by decide) (by omega) _ xs [p] _ _ _ (fun _ => True) (fun _ => False) rfl rfl ?aO ?aR (fun x cs h => by rw [k46_open h]; exact k46_mkM _ _ _ _) (fun _ h => h.elim) (fun _ _ => trivial) ?aB ?aS ?aL ?_; (case aR => exact HV.out); (case aB => exact Below.refl _ _); (case aO => exact HS.out); (case aS => exact HBB.out); (case aL => rw [← HX.out]; exact HN.out); intro v1 w1 h1_ h2_ h3_ h4_; clear h3_ h4_; have H1 := Aside0.mk h1_; have H2 := Aside0.mk h2_; clear h1_ h2_))
    go_ret
    exact ⟨_, rfl, H1.out, H2.out⟩
  | some a =>
    by_cases hcn : c = n
    · subst hcn
      go_enter Try.func37, Try.ntmps37
      go_wp2_with (first | ((with_reducible refine gate_builtin (b := .append) (xs := #[.tmp 23, .tmp 24]) rfl ?_); at_builtin; refine Kd.R_append_rows k46 (Rr := k46.K w) (w0 := w) base rfl (.tmp 23) (.tmp 24) 22 46 (.agg #[(.string ⟨#[]⟩), (.int .i64 0)]) 24 rfl Try.underlying22 info46 rfl (by decide) (by omega) _ xs [p] _ _ _ (fun _ => True) (fun _ => False) rfl rfl ?aO ?aR (fun x cs h => by rw [k46_open h]; exact k46_mkM _ _ _ _) (fun _ h => h.elim) (fun _ _ => trivial) ?aB ?aS ?aL ?_; (case aR => exact HV.out); (case aB => exact Below.refl _ _); (case aO => exact HS.out); (case aS => exact HBB.out); (case aL => rw [← HX.out]; exact HN.out); intro v1 w1 h1_ h2_ h3_ h4_; clear h3_ h4_; have H1 := Aside0.mk h1_; have H2 := Aside0.mk h2_; clear h1_ h2_))
      go_ret
      exact ⟨_, rfl, H1.out, H2.out⟩
    · have hcn1 : ¬ (c = n) := hcn
      go_enter Try.func37, Try.ntmps37
      go_wp2_with (first | ((with_reducible refine gate_builtin (b := .append) (xs := #[.tmp 23, .tmp 24]) rfl ?_); at_builtin; refine Kd.R_append_rows k46 (Rr := k46.K w) (w0 := w) base rfl (.tmp 23) (.tmp 24) 22 46 (.agg #[(.string ⟨#[]⟩), (.int .i64 0)]) 24 rfl Try.underlying22 info46 rfl (by decide) (by omega) _ xs [p] _ _ _ (fun _ => True) (fun _ => False) rfl rfl ?aO ?aR (fun x cs h => by rw [k46_open h]; exact k46_mkM _ _ _ _) (fun _ h => h.elim) (fun _ _ => trivial) ?aB ?aS ?aL ?_; (case aR => exact HV.out); (case aB => exact Below.refl _ _); (case aO => exact HS.out); (case aS => exact HBB.out); (case aL => rw [← HX.out]; exact HN.out); intro v1 w1 h1_ h2_ h3_ h4_; clear h3_ h4_; have H1 := Aside0.mk h1_; have H2 := Aside0.mk h2_; clear h1_ h2_))
      go_ret
      exact ⟨_, rfl, H1.out, H2.out⟩
theorem max63 : maxLen = 9223372036854775807 := by decide
theorem max_int {c : Nat} (hcm : c ≤ maxLen) : (c : Int) ≤ 9223372036854775807 := by rw [max63] at hcm; omega
theorem size46 (w : World) : (Go.sizeOf 46).run Try.prog w = .ok 2 w := by
  obtain ⟨i0, hi0, h0, h1, h2⟩ := info_parts info46
  simp [sizeOf, typeInfo, hi0, h1]
theorem cut_row {cur : Array Value} {xs : List S46} (ht : cur.toList.take (xs.length * 2) = rowP xs) (i : Nat) (hi : i ≤ xs.length) : (cur.toList.drop (i * 2)).take (rowP (xs.drop i)).length = rowP (xs.drop i) := by
  rw [← rowP_drop, ← ht, List.length_drop, List.length_take, List.drop_take]
  congr 1
  have := congrArg List.length ht
  rw [List.length_take, rowP_len] at this
  omega
set_option maxHeartbeats 4000000 in
set_option maxRecDepth 100000 in
/-- There is room behind the row, and the place is one of the row's. -/
theorem insert_shift (w : World) (base g c n i : Nat) (xs : List S46) (cur : Array Value) (hg : base ≤ g) (hh : w.heap[g]? = some (.cells cur 46 (0, 0))) (hn : n = xs.length) (hroom : n + 1 ≤ c) (hcm : c ≤ maxLen) (hs : cur.size = c * 2) (ht : cur.toList.take (n * 2) = rowP xs) (hi : i < n) (vb vc : Nat) (p : S46) (vcur : Array Value) (hvh : w.heap[vb]? = some (.cells vcur 46 (0, 0))) (hv : vcur.toList.take 2 = cellsP p) (hne : vb ≠ g) (hl : n ≤ 1000) :
    Calls Try.prog 37 #[.slice (some ⟨g, 0, none⟩) n c, .int .i64 (i : Int), .slice (some ⟨vb, 0, none⟩) 1 vc] w fun e w' => ∃ v', e = .returned v' ∧ Kd.R k46 46 w' base (fun _ => True) v' (xs.take i ++ p :: xs.drop i) ∧ Below base w w' := by
  have HC63 := Aside0.mk (max_int hcm)
  have HCM := Aside0.mk hcm
  clear hcm
  have hsz : (Try.prog.info? 46).map (·.size) = some 2 := by
    obtain ⟨i0, hi0, h0, h1, h2⟩ := info_parts info46
    rw [hi0]; simp [h1]
  have hov : ∀ lb cb, (callFunc 56 #[.slice (some ⟨vb, 0, none⟩) 1 vc, .slice (some ⟨g, (i + 1) * 2, none⟩) lb cb]).run Try.prog w = .ok (.value (.bool false)) w := fun lb cb => by
    rw [run_callFunc_extern Try.func56 (by kernel_rfl) (by kernel_rfl) (by kernel_rfl) (e := Extern.SlicesOverlaps.overlaps #[22, 22] #[4]) (by kernel_rfl),
      Lib.run_overlaps_apart w 22 4 46 Try.underlying22 2 size46 ⟨vb, 0, none⟩ ⟨g, (i + 1) * 2, none⟩ 1 vc lb cb hne 46 46 vcur.size cur.size (by simp [World.shape?, hvh]) (by simp [World.shape?, hh]) (by omega) (by simp [World.frozen?, hvh]) (by simp [World.frozen?, hvh])]
    rfl
  have hlr : (rowP (xs.drop i)).length = (n - i) * 2 := by rw [rowP_len, List.length_drop, hn]
  have hci := cut_row (by rw [← hn]; exact ht) i (by omega)
  obtain ⟨cur1, hc1⟩ : ∃ cur1, cur1 = (cur.toList.take ((i + 1) * 2) ++ rowP (xs.drop i) ++ cur.toList.drop ((i + 1) * 2 + (rowP (xs.drop i)).length)).toArray := ⟨_, rfl⟩
  have hcp1 : ∀ ty dc sc, (Builtin.copy_ #[22, 22] ty #[.slice (some ⟨g, (i + 1) * 2, none⟩) (n - i) dc, .slice (some ⟨g, i * 2, none⟩) (n + 1 - i) sc]).run Try.prog w.drew = .ok (goInt (Nat.min (n + 1 - i) (n - i))) (w.drew.setRow g cur1) := fun ty dc sc => by
    rw [hc1]
    exact run_copy_rows Try.prog w.drew 22 22 ty 46 2 g ((i + 1) * 2) (n - i) dc ⟨g, i * 2, none⟩ (n + 1 - i) sc cur 46 (rowP (xs.drop i)) Try.underlying22 hsz hh
      (by rw [hlr]; simp only [Nat.min_def]; split <;> omega) (row_cell (w := w.drew) hh (i * 2) _ hci) (by rw [hlr, hs]; omega) (rowP_one _)
  obtain ⟨cur2, hc2⟩ : ∃ cur2, cur2 = (cur1.toList.take (i * 2) ++ cellsP p ++ cur1.toList.drop (i * 2 + 2)).toArray := ⟨_, rfl⟩
  have hs1 : cur1.size = c * 2 := by
    rw [hc1, List.size_toArray, List.length_append, List.length_append, List.length_take, List.length_drop, hlr, Array.length_toList, hs]; omega
  have hcp2 : ∀ (W : World), W.heap[g]? = some (.cells cur1 46 (0, 0)) → W.heap[vb]? = some (.cells vcur 46 (0, 0)) → ∀ ty dc, (Builtin.copy_ #[22, 22] ty #[.slice (some ⟨g, i * 2, none⟩) (n + 1 - i) dc, .slice (some ⟨vb, 0, none⟩) 1 vc]).run Try.prog W = .ok (goInt (Nat.min 1 (n + 1 - i))) (W.setRow g cur2) := fun W h1 h2 ty dc => by
    rw [hc2]
    exact run_copy_rows Try.prog W 22 22 ty 46 2 g (i * 2) (n + 1 - i) dc ⟨vb, 0, none⟩ 1 vc cur1 46 (cellsP p) Try.underlying22 hsz h1
      (by show 2 = _; simp only [Nat.min_def]; split <;> omega) (row_cell h2 0 _ (by rw [List.drop_zero]; exact hv)) (by show _ + 2 ≤ _; rw [hs1]; omega) (fun v hv => rowP_one [p] v (by simpa [rowP] using hv))
  have hres : cur2.toList.take ((n + 1) * 2) = rowP (xs.take i ++ p :: xs.drop i) := by
    have l1 : (cur.toList.take ((i + 1) * 2)).length = i * 2 + 2 := by rw [List.length_take, Array.length_toList, hs]; omega
    have e1 : cur1.toList.take (i * 2) = rowP (xs.take i) := by
      rw [hc1, List.toList_toArray, List.append_assoc, List.take_append_of_le_length (by rw [l1]; omega), List.take_take, Nat.min_eq_left (by omega), ← rowP_take, ← ht, List.take_take, Nat.min_eq_left (by omega)]
    have e2 : cur1.toList.drop (i * 2 + 2) = rowP (xs.drop i) ++ cur.toList.drop ((i + 1) * 2 + (rowP (xs.drop i)).length) := by
      rw [hc1, List.toList_toArray, List.append_assoc, ← l1, List.drop_left]
    have e3 : (rowP (xs.take i) ++ cellsP p ++ rowP (xs.drop i)).length = (n + 1) * 2 := by
      rw [List.length_append, List.length_append, hlr, rowP_len, List.length_take]; show _ + 2 + _ = _; omega
    have e4 : rowP (xs.take i ++ p :: xs.drop i) = rowP (xs.take i) ++ cellsP p ++ rowP (xs.drop i) := by simp [rowP]
    rw [hc2, List.toList_toArray, e1, e2, ← List.append_assoc, ← e3, List.take_left, e4]
  have hs2 : cur2.size = c * 2 := by
    rw [hc2, List.size_toArray, List.length_append, List.length_append, List.length_take, List.length_drop, Array.length_toList, hs1]; show _ + 2 + _ = _; omega
  have HRES := Aside0.mk hres
  have HS2 := Aside0.mk hs2
  have HLEN := Aside0.mk (show (xs.take i ++ p :: xs.drop i).length = n + 1 by rw [List.length_append, List.length_cons, List.length_take, List.length_drop]; omega)
  have HH := Aside0.mk hh
  have HVH := Aside0.mk hvh
  have hb1 : (0 : Int) ≤ (i : Int) + 1 := by omega
  have htn : ((i : Int) + 1).toNat = i + 1 := by omega
  have htm : ((n : Int) + 1).toNat = n + 1 := by omega
  have hb2 : ¬ (c = i + 1) := by omega
  have hb4 : ¬ (c = i) := by omega
  have hz2 : ¬ ((i : Int) = (n : Int)) := by omega
  have hb3 : (i : Int) ≤ (n : Int) + 1 := by omega
  have hb5 : (i : Int) + 1 ≤ (n : Int) + 1 := by omega
  have hb6 : i ≤ n + 1 := by omega
  have hb7 : i + 1 ≤ n + 1 := by omega
  obtain ⟨hw2, hw3, hw1⟩ : wrap64 ((i : Int) + 1) = (i : Int) + 1 ∧ wrap64 ((n : Int) + 1) = (n : Int) + 1 ∧ IntKind.i64.wrap ((i : Int) + 1) = (i : Int) + 1 := ⟨Go.IntWalk.wrap64_in _ (by omega), Go.IntWalk.wrap64_in _ (by omega), by rw [IntKind.wrap_i64]; omega⟩
  have mixed : Try.prog.follows Departure.mixedOrders = true := by kernel_rfl
  have HC1 := Aside0.mk hcp1
  have HC2 := Aside0.mk hcp2
  have HG := Aside0.mk hg
  have hc63 := HC63.out
  clear hcp1 hcp2 hres hs2 hh hvh hc1 hc2 hs1 hci hlr hs ht hv hg hsz hl hn
  go_enter Try.func37, Try.ntmps37
  go_wp2_with (simp only [hov])
  have hcp1 := HC1.out
  go_region_law_o (go_loud (refine step_copyI rfl _ _ 22 22 rfl (.slice (some ⟨g, (i + 1) * 2, none⟩) (n - i) (c - (i + 1))) (.slice (some ⟨g, i * 2, none⟩) (n + 1 - i) (c - i)) (by simp [Act.eval, Act.put]) (by simp [Act.eval, Act.put]) (hcp1 3 (c - (i + 1)) (c - i)) ?_))
  clear hcp1
  have hcp := HC2.out (w.drew.setRow g cur1) (setRow_heap _ g cur cur1 46 (0, 0) HH.out) ((setRow_other _ g vb _ hne).trans HVH.out)
  have HE := Aside0.mk (show Kd.R k46 46 ((w.drew.setRow g cur1).setRow g cur2) base (fun _ => True) (.slice (some ⟨g, 0, none⟩) (n + 1) c) (xs.take i ++ p :: xs.drop i) by
    have hR := cells_R (ok := fun _ => True) (w := (w.drew.setRow g cur1).setRow g cur2) (xs := xs.take i ++ p :: xs.drop i) (c := c) trivial HG.out (setRow_heap _ g cur1 cur2 46 (0, 0) (setRow_heap _ g cur cur1 46 (0, 0) HH.out)) (by rw [HLEN.out]; exact hroom) HCM.out HS2.out (by rw [HLEN.out]; exact HRES.out)
    rw [HLEN.out] at hR
    exact hR)
  have HBL := Aside0.mk (show Below base w ((w.drew.setRow g cur1).setRow g cur2) from below_setRow (below_setRow (below_drew1 (Below.refl _ _)) HG.out _) HG.out _)
  go_wp2_with (at_builtin; refine wpList_copyI _ rfl _ _ 22 22 rfl _ _ rfl rfl (hcp _ _) ?_)
  go_ret
  exact ⟨_, rfl, HE.out, HBL.out⟩
set_option maxHeartbeats 4000000 in
set_option maxRecDepth 100000 in
/-- There is no room behind the row, and the place is one of the row's. -/
theorem insert_grow (w : World) (base g c n i : Nat) (xs : List S46) (cur : Array Value) (hg : base ≤ g) (hh : w.heap[g]? = some (.cells cur 46 (0, 0))) (hn : n = xs.length) (hnc : n ≤ c) (hroom : c < n + 1) (ht : cur.toList.take (n * 2) = rowP xs) (hs : cur.size = c * 2) (hi : i < n) (vb vc : Nat) (p : S46) (vcur : Array Value) (hvh : w.heap[vb]? = some (.cells vcur 46 (0, 0))) (hv : vcur.toList.take 2 = cellsP p) (hl : n ≤ 1000) (hbs : base ≤ w.heap.size) :
    Calls Try.prog 37 #[.slice (some ⟨g, 0, none⟩) n c, .int .i64 (i : Int), .slice (some ⟨vb, 0, none⟩) 1 vc] w fun e w' => ∃ v', e = .returned v' ∧ Kd.R k46 46 w' base (fun _ => True) v' (xs.take i ++ p :: xs.drop i) ∧ Below base w w' := by
  obtain ⟨i0, hi0, hz0, hzs, hzb⟩ := info_parts info46
  have hsz : (Try.prog.info? 46).map (·.size) = some 2 := by rw [hi0]; simp [hzs]
  have hgl : g < w.heap.size := (Array.getElem?_eq_some_iff.1 hh).1
  have hvl : vb < w.heap.size := (Array.getElem?_eq_some_iff.1 hvh).1
  have hlr : (rowP (xs.drop i)).length = (n - i) * 2 := by rw [rowP_len, List.length_drop, hn]
  have hlt : (rowP (xs.take i)).length = i * 2 := by rw [rowP_len, List.length_take]; omega
  have hci := cut_row (by rw [← hn]; exact ht) i (by omega)
  have hold : (Builtin.firstCells i0.size i (.slice (some ⟨g, 0, none⟩) i c)).run Try.prog w.drew = .ok (rowP (xs.take i)).toArray w.drew := by
    rw [hzs]
    exact run_firstCells_some w.drew 2 i ⟨g, 0, none⟩ i c (rowP (xs.take i)) hlt (row_cell (w := w.drew) hh 0 _ (by rw [List.drop_zero, hlt, ← rowP_take, ← ht, List.take_take, Nat.min_eq_left (by omega)]))
  obtain ⟨G, hG⟩ : ∃ G, G = grownCap w (n + 1) c 46 := ⟨_, rfl⟩
  obtain ⟨ROW, hROW⟩ : ∃ ROW : Array Value, ROW = (rowP (xs.take i)).toArray ++ Builtin.zeroCells (Value.agg #[(.string ⟨#[]⟩), (.int .i64 0)]).cells (n + 1 - i) ++ Builtin.zeroCells (Value.agg #[(.string ⟨#[]⟩), (.int .i64 0)]).cells (G - (n + 1)) := ⟨_, rfl⟩
  obtain ⟨Wa, hWa⟩ : ∃ Wa, Wa = w.drew.alloc (.cells ROW 46) := ⟨_, rfl⟩
  have hik : i + (n + 1 - i) = n + 1 := by omega
  have hkk : (n : Int) + 1 - (i : Int) = ((n + 1 - i : Nat) : Int) := by omega
  have hrz : ∀ ty, (Builtin.append_ #[22, 3] ty #[.slice (some ⟨g, 0, none⟩) i c, .int .i64 ((n : Int) + 1 - (i : Int))]).run Try.prog w = .ok (.slice (some ⟨w.heap.size, 0, none⟩) (n + 1) G) Wa := fun ty => by
    have h := Lib.run_append_grow_zeros w 22 3 ty 46 i0 _ .i64 .i64 Try.underlying22 Try.underlying3 hi0 hz0 (some ⟨g, 0, none⟩) i c (rowP (xs.take i)) hold (n + 1 - i) (by omega) (by omega) (by omega) (by omega) (by rw [hzb]; omega) (by rw [hzb, hik]; exact growslice_fits hroom (by omega))
    rw [hik, ← hG, ← hROW, ← hWa] at h
    rw [hkk]
    exact h
  have hGn : n + 1 ≤ G := by rw [hG]; exact grownCap_ge w _ _ _
  have hGm : G ≤ maxLen := by rw [hG]; exact grownCap_le_maxLen w _ _ _ (by rw [max63]; omega)
  have HGM := Aside0.mk hGm
  have HC63 := Aside0.mk (max_int hGm)
  clear hGm
  have hRs : ROW.size = G * 2 := by
    rw [hROW, Array.size_append, Array.size_append, List.size_toArray, hlt]
    simp [Builtin.zeroCells, Value.cells]
    omega
  obtain ⟨ROW1, hR1⟩ : ∃ R1, R1 = (ROW.toList.take (i * 2) ++ cellsP p ++ ROW.toList.drop (i * 2 + 2)).toArray := ⟨_, rfl⟩
  have hR1s : ROW1.size = G * 2 := by
    rw [hR1, List.size_toArray, List.length_append, List.length_append, List.length_take, List.length_drop, Array.length_toList, hRs]; show _ + 2 + _ = _; omega
  obtain ⟨ROW2, hR2⟩ : ∃ R2, R2 = (ROW1.toList.take ((i + 1) * 2) ++ rowP (xs.drop i) ++ ROW1.toList.drop ((i + 1) * 2 + (rowP (xs.drop i)).length)).toArray := ⟨_, rfl⟩
  have hR2s : ROW2.size = G * 2 := by
    rw [hR2, List.size_toArray, List.length_append, List.length_append, List.length_take, List.length_drop, Array.length_toList, hR1s, hlr]; omega
  have hres : ROW2.toList.take ((n + 1) * 2) = rowP (xs.take i ++ p :: xs.drop i) := by
    have l1 : (ROW.toList.take (i * 2)).length = i * 2 := by rw [List.length_take, Array.length_toList, hRs]; omega
    have e0 : ROW.toList.take (i * 2) = rowP (xs.take i) := by
      rw [hROW, Array.toList_append, Array.toList_append, List.toList_toArray, List.append_assoc, ← hlt, List.take_left]
    have e1 : ROW1.toList.take ((i + 1) * 2) = rowP (xs.take i) ++ cellsP p := by
      have : (rowP (xs.take i) ++ cellsP p).length = (i + 1) * 2 := by rw [List.length_append, hlt]; show _ + 2 = _; omega
      rw [hR1, List.toList_toArray, e0, ← this, List.take_left]
    have e3 : (rowP (xs.take i) ++ cellsP p ++ rowP (xs.drop i)).length = (n + 1) * 2 := by
      rw [List.length_append, List.length_append, hlr, hlt]; show _ + 2 + _ = _; omega
    have e4 : rowP (xs.take i ++ p :: xs.drop i) = rowP (xs.take i) ++ cellsP p ++ rowP (xs.drop i) := by simp [rowP]
    rw [hR2, List.toList_toArray, e1, ← e3, List.take_left, e4]
  have aN : Wa.heap[w.heap.size]? = some (.cells ROW 46 (0, 0)) := by rw [hWa]; exact heap_alloc_new w.drew _
  have aV : Wa.heap[vb]? = some (.cells vcur 46 (0, 0)) := by rw [hWa]; exact (heap_alloc_old w.drew _ (show vb < w.drew.heap.size from hvl)).trans hvh
  have aG : Wa.heap[g]? = some (.cells cur 46 (0, 0)) := by rw [hWa]; exact (heap_alloc_old w.drew _ (show g < w.drew.heap.size from hgl)).trans hh
  have aB : Below base w Wa := by rw [hWa]; exact (below_drew1 (Below.refl base w)).alloc hbs _
  obtain ⟨W2, hW2⟩ : ∃ W2, W2 = Wa.setRow w.heap.size ROW1 := ⟨_, rfl⟩
  have hcpA : ∀ ty dc, (Builtin.copy_ #[22, 22] ty #[.slice (some ⟨w.heap.size, i * 2, none⟩) (n + 1 - i) dc, .slice (some ⟨vb, 0, none⟩) 1 vc]).run Try.prog Wa = .ok (goInt (Nat.min 1 (n + 1 - i))) W2 := fun ty dc => by
    rw [hW2, hR1]
    exact run_copy_rows Try.prog Wa 22 22 ty 46 2 w.heap.size (i * 2) (n + 1 - i) dc ⟨vb, 0, none⟩ 1 vc ROW 46 (cellsP p) Try.underlying22 hsz aN
      (by show 2 = _; simp only [Nat.min_def]; split <;> omega) (row_cell aV 0 _ (by rw [List.drop_zero]; exact hv)) (by show _ + 2 ≤ _; rw [hRs]; omega) (fun v hv => rowP_one [p] v (by simpa [rowP] using hv))
  have bN : W2.heap[w.heap.size]? = some (.cells ROW1 46 (0, 0)) := by rw [hW2]; exact setRow_heap _ _ _ _ _ _ aN
  have bG : W2.heap[g]? = some (.cells cur 46 (0, 0)) := by rw [hW2, setRow_other _ _ g _ (by omega)]; exact aG
  have bB : Below base w W2 := by rw [hW2]; exact below_setRow aB hbs _
  have hcpB : ∀ ty dc sc, (Builtin.copy_ #[22, 22] ty #[.slice (some ⟨w.heap.size, (i + 1) * 2, none⟩) (n - i) dc, .slice (some ⟨g, i * 2, none⟩) (n - i) sc]).run Try.prog W2.drew = .ok (goInt (Nat.min (n - i) (n - i))) (W2.drew.setRow w.heap.size ROW2) := fun ty dc sc => by
    rw [hR2]
    exact run_copy_rows Try.prog W2.drew 22 22 ty 46 2 w.heap.size ((i + 1) * 2) (n - i) dc ⟨g, i * 2, none⟩ (n - i) sc ROW1 46 (rowP (xs.drop i)) Try.underlying22 hsz bN
      (by rw [hlr]; simp [Nat.min_def]) (row_cell (w := W2.drew) bG (i * 2) _ hci) (by rw [hlr, hR1s]; omega) (rowP_one _)
  have hlen : (xs.take i ++ p :: xs.drop i).length = n + 1 := by rw [List.length_append, List.length_cons, List.length_take, List.length_drop]; omega
  have HE := Aside0.mk (show Kd.R k46 46 (W2.drew.setRow w.heap.size ROW2) base (fun _ => True) (.slice (some ⟨w.heap.size, 0, none⟩) (n + 1) G) (xs.take i ++ p :: xs.drop i) by
    have hR := cells_R (ok := fun _ => True) (w := W2.drew.setRow w.heap.size ROW2) (xs := xs.take i ++ p :: xs.drop i) (c := G) trivial hbs (setRow_heap _ _ ROW1 ROW2 46 (0, 0) bN) (by rw [hlen]; exact hGn) HGM.out hR2s (by rw [hlen]; exact hres)
    rw [hlen] at hR
    exact hR)
  have HBL := Aside0.mk (show Below base w (W2.drew.setRow w.heap.size ROW2) from below_setRow (below_drew1 bB) hbs _)
  have hGi : ¬ (G = i) := by omega
  have hGim : ¬ (G = i + 1) := by omega
  have hb1 : (0 : Int) ≤ (i : Int) + 1 := by omega
  have htn : ((i : Int) + 1).toNat = i + 1 := by omega
  have htm : ((n : Int) + 1).toNat = n + 1 := by omega
  have hb4 : ¬ (c = i) := by omega
  have hz2 : ¬ ((i : Int) = (n : Int)) := by omega
  have hz3 : (c : Int) < (n : Int) + 1 := by omega
  have hb3 : (i : Int) ≤ (n : Int) + 1 := by omega
  have hb5 : (i : Int) + 1 ≤ (n : Int) + 1 := by omega
  have hb6 : i ≤ n + 1 := by omega
  have hb7 : i + 1 ≤ n + 1 := by omega
  have hb8 : (i : Int) ≤ (n : Int) := by omega
  have hb9 : (i : Int) ≤ (c : Int) := by omega
  obtain ⟨hw2, hw3, hw1, hw4, hw5⟩ : wrap64 ((i : Int) + 1) = (i : Int) + 1 ∧ wrap64 ((n : Int) + 1) = (n : Int) + 1 ∧ IntKind.i64.wrap ((i : Int) + 1) = (i : Int) + 1 ∧ wrap64 ((n : Int) + 1 - (i : Int)) = (n : Int) + 1 - (i : Int) ∧ True := ⟨Go.IntWalk.wrap64_in _ (by omega), Go.IntWalk.wrap64_in _ (by omega), by rw [IntKind.wrap_i64]; omega, Go.IntWalk.wrap64_in _ (by omega), trivial⟩
  have mixed : Try.prog.follows Departure.mixedOrders = true := by kernel_rfl
  have hc63 := HC63.out
  have HA := Aside0.mk hcpA
  have HB2 := Aside0.mk hcpB
  clear hgl hvl hold hROW hWa hik hkk hRs hR1 hR1s hR2 hR2s hres aN aV aG aB hW2 bN bG bB hlen hG hci hlr hlt ht hv hs hh hvh hg hbs hn hsz hzs hzb hz0 hi0 hcpA hcpB
  go_enter Try.func37, Try.ntmps37
  have hcpA := HA.out
  go_wp2_with (first
    | (at_builtin; refine Lib.wpList_append_run _ rfl _ _ _ _ rfl _ _ rfl rfl _ _ (hrz _) ?_)
    | (at_builtin; refine wpList_copyI _ rfl _ _ 22 22 rfl _ _ rfl rfl (hcpA _ _) ?_))
  have hcpB := HB2.out
  go_region_law_o (refine step_copyI rfl _ _ 22 22 rfl (.slice (some ⟨w.heap.size, (i + 1) * 2, none⟩) (n - i) (G - (i + 1))) (.slice (some ⟨g, i * 2, none⟩) (n - i) (c - i)) (by simp [Act.eval, Act.put]) (by simp [Act.eval, Act.put]) (hcpB 3 (G - (i + 1)) (c - i)) ?_)
  go_wp2
  go_ret
  exact ⟨_, rfl, HE.out, HBL.out⟩
/-- slices.Insert of one part into a row of the call's own. -/
theorem insert_part (w : World) (base base' : Nat) (S V : Value) (xs : List S46) (p : S46) (hS : Kd.R k46 46 w base (fun _ => True) S xs) (hV : Kd.R k46 46 w base' (fun _ => True) V [p]) (hne : V.ownBlock ≠ S.ownBlock) (i : Nat) (hi : i ≤ xs.length) (hl : xs.length ≤ 1000) (hb : base ≤ w.heap.size) :
    Calls Try.prog 37 #[S, .int .i64 (i : Int), V] w fun e w' => ∃ v', e = .returned v' ∧ Kd.R k46 46 w' base (fun _ => True) v' (xs.take i ++ p :: xs.drop i) ∧ Below base w w' := by
  rcases R_cells hV with ⟨_, h⟩ | ⟨vb, vc, vcur, rfl, _, _, hvh, hv1, hvm, hvs, hvt⟩
  · cases h
  have hvt' : vcur.toList.take 2 = cellsP p := by have := hvt; simpa [rowP] using this
  by_cases hin : i = xs.length
  · subst hin
    obtain ⟨A, c, hSe, _, _⟩ := Kd.R_reads hS
    have := insert_end w base S xs xs.length c A hSe hS vb vc p (Kd.R_reads' hV).2.2 rfl hl hb
    rw [List.take_length, List.drop_length]
    exact this
  · rcases R_cells hS with ⟨_, h⟩ | ⟨g, c, cur, rfl, _, hg, hh, hc, hm, hs, ht⟩
    · subst h; simp at hi; simp [hi] at hin
    · have hgv : vb ≠ g := by
        intro e; apply hne; rw [e]; rfl
      by_cases hroom : xs.length + 1 ≤ c
      · exact insert_shift w base g c xs.length i xs cur hg hh rfl hroom hm hs ht (by omega) vb vc p vcur hvh hvt' hgv hl
      · exact insert_grow w base g c xs.length i xs cur hg hh rfl hc (by omega) ht hs (by omega) vb vc p vcur hvh hvt' hl hb
end Go.Proofs.Ytmgjccpolkhhhaa.Is
namespace Go.Proofs.Ytmgjccpolkhhhaa.Id
open Go.Shelf Go.RowKit Go.Lib Go.Proofs.Ytmgjccpolkhhhaa.PAll Go.Proofs.YtmgjccpolkhhhaaW.PrintWords Go.Proofs.YtmgjccpolkhhhaaW.PrintLast Go.Proofs.Ytmgjccpolkhhhaa.Hl Go.Proofs.Ytmgjccpolkhhhaa.In Go.Proofs.Ytmgjccpolkhhhaa.Is
set_option linter.unusedSimpArgs false
set_option linter.unusedVariables false
/-- append where there is room, out of any place, for elements of any size. -/
theorem run_append_room (P : Program) (w : World) (t ty elem : TypeId) (sz g sLen sCap : Nat) (a : Addr) (m mc : Nat) (cur : Array Value) (tt : TypeId) (cs : List Value)
    (hu : P.underlying t = some (.slice elem)) (hs : (P.info? elem).map (·.size) = some sz)
    (hg : w.heap[g]? = some (.cells cur tt (0, 0))) (hn : cs.length = m * sz)
    (hsrc : ∀ j v, cs[j]? = some v → w.cell? (a.add j) = some v) (hroom : sLen + m ≤ sCap) (hfit : sLen * sz + cs.length ≤ cur.size) (h1 : ∀ v ∈ cs, v.oneCell' = true) :
    (Builtin.append_ #[t, t] ty #[.slice (some ⟨g, 0, none⟩) sLen sCap, .slice (some a) m mc]).run P w =
      .ok (.slice (some ⟨g, 0, none⟩) (sLen + m) sCap) (w.setRow g (cur.toList.take (sLen * sz) ++ cs ++ cur.toList.drop (sLen * sz + cs.length)).toArray) := by
  have hl := run_loadCells_list (P := P) w a cs hsrc
  have hst := run_storeCells_at P g (sLen * sz) tt cs 0 cur w hg (by simpa using hfit) h1
  have hadd : (⟨g, 0, none⟩ : Addr).add (sLen * sz) = ⟨g, sLen * sz, none⟩ := by unfold Addr.add; split <;> simp_all
  cases hq : P.info? elem with
  | none => simp [hq] at hs
  | some i =>
    have hi : i.size = sz := by simpa [hq] using hs
    rw [hn] at hl
    simp [Builtin.append_, run_underlying hu, Builtin.lenOf, Builtin.firstCells, sizeOf, typeInfo, hq, hi, hroom, hl, hadd, hst]
theorem run_clear_rows (P : Program) (w : World) (t ty elem : TypeId) (z : Value) (g o m mc : Nat) (cur : Array Value) (tt : TypeId)
    (hu : P.underlying t = some (.slice elem)) (hz : ∀ w, (Go.zeroValue elem).run P w = .ok z w) (hm : m ≠ 0)
    (hg : w.heap[g]? = some (.cells cur tt (0, 0))) (hfit : o + (Builtin.zeroCells z.cells m).size ≤ cur.size) (h1 : ∀ v ∈ (Builtin.zeroCells z.cells m).toList, v.oneCell' = true) :
    (Builtin.clear_ #[t] ty #[.slice (some ⟨g, o, none⟩) m mc]).run P w =
      .ok (.tuple #[]) (w.setRow g (cur.toList.take o ++ (Builtin.zeroCells z.cells m).toList ++ cur.toList.drop (o + (Builtin.zeroCells z.cells m).size)).toArray) := by
  have hst := run_storeCells_at P g o tt (Builtin.zeroCells z.cells m).toList 0 cur w hg (by simpa using hfit) h1
  obtain ⟨k, rfl⟩ : ∃ k, m = k + 1 := ⟨m - 1, by omega⟩
  simp [Builtin.clear_, run_underlying hu, hz, hst]
theorem wp_builtin1 {P : Program} (w : World) {o : Oper} {a : Act} {K : Act → World → Prop} {Q : Exit → Act → World → Prop} (x : Operand) (t : TypeId)
    (ho : o.op = .call { callee := .builtin .clear, args := #[x], argTypes := #[t] }) (v : Value) (hx : a.eval x = v) {v' : Value} {w' : World}
    (hr : (Builtin.clear_ #[t] o.type #[v]).run P w = .ok v' w') (h : K (a.put o.dst v') w') : o.wp P a w K Q := by
  unfold Oper.wp execOp
  simp only [ho, resolve, invoke, builtin, Sem.run_bind, Sem.run_pure, Result.andThen_ok, List.map_toArray, List.map_cons, List.map_nil, hx, hr]
  exact h
theorem wpList_clearI {P : Program} (w : World) {ops : Array Oper} {rest : List Oper} {o : Oper} {a : Act} {Q : Exit → Act → World → Prop} (hgd : o.guard = none) (x : Operand) (t : TypeId)
    (ho : o.op = .call { callee := .builtin .clear, args := #[x], argTypes := #[t] }) (v : Value) (hx : a.eval x = v) {v' : Value} {w' : World}
    (hr : (Builtin.clear_ #[t] o.type #[v]).run P w = .ok v' w') (h : wpList P ops Q rest (a.put o.dst v') w') : wpList P ops Q (o :: rest) a w :=
  wpList_plain hgd fun _ hK => wp_builtin1 w x t ho v hx hr (hK _ _ h)
theorem step_appendI {P : Program} {ops : Array Oper} {o : Oper} {a : Act} {w : World} {K : Act → World → Prop} {Q : Exit → Act → World → Prop} {E : Prop}
    (hg : o.guard = none) (d x : Operand) (dT sT : TypeId) (hop : o.op = Op.call { callee := Callee.builtin Builtin.append, args := #[d, x], argTypes := #[dT, sT] })
    (v u : Value) (hd : a.eval d = v) (hx : a.eval x = u) {v' : Value} {w' : World} (hr : (Builtin.append_ #[dT, sT] o.type #[v, u]).run P w = .ok v' w') (hK : K (a.put o.dst v') w') :
    if Region.wanted o (yielded ops a.tmps) = true then Oper.wp P o a w K Q else E := by
  have hw : Region.wanted o (yielded ops a.tmps) = true := by simp [Region.wanted, hg]
  rw [if_pos hw]
  unfold Oper.wp
  simp [execOp, hop, resolve, invoke, builtin, hd, hx, hr, Result.andThen]
  exact hK
theorem zero46 (w : World) : (Go.zeroValue 46).run Try.prog w = .ok (.agg #[(.string ⟨#[]⟩), (.int .i64 0)]) w := by
  obtain ⟨i0, hi0, h0, h1, h2⟩ := info_parts info46
  simp [zeroValue, typeInfo, hi0, h0]
theorem zero_cells1 : Builtin.zeroCells (Value.agg #[(.string ⟨#[]⟩), (.int .i64 0)]).cells 1 = #[.string ⟨#[]⟩, .int .i64 0] := by kernel_rfl
set_option maxHeartbeats 4000000 in
set_option maxRecDepth 100000 in
theorem delete_cells (w : World) (base g c i m n : Nat) (xs : List S46) (cur : Array Value) (hg : base ≤ g) (hh : w.heap[g]? = some (.cells cur 46 (0, 0))) (hn : n = xs.length) (him : n = i + 1 + m) (hnc : n ≤ c) (hcm : c ≤ maxLen) (hs : cur.size = c * 2) (ht : cur.toList.take (n * 2) = rowP xs) (hl : n ≤ 1000) :
    Calls Try.prog 40 #[.slice (some ⟨g, 0, none⟩) n c, .int .i64 (i : Int), .int .i64 ((i : Int) + 1)] w fun e w' => ∃ v', e = .returned v' ∧ Kd.R k46 46 w' base (fun _ => True) v' (xs.take i ++ xs.drop (i + 1)) ∧ Below base w w' := by
  obtain ⟨i0, hi0, hz0, hzs, hzb⟩ := info_parts info46
  have hsz : (Try.prog.info? 46).map (·.size) = some 2 := by rw [hi0]; simp [hzs]
  have hlr : (rowP (xs.drop (i + 1))).length = m * 2 := by rw [rowP_len, List.length_drop]; omega
  have hlt : (rowP (xs.take i)).length = i * 2 := by rw [rowP_len, List.length_take]; omega
  have hci := cut_row (by rw [← hn]; exact ht) (i + 1) (by omega)
  obtain ⟨cur1, hc1⟩ : ∃ cur1, cur1 = (cur.toList.take (i * 2) ++ rowP (xs.drop (i + 1)) ++ cur.toList.drop (i * 2 + (rowP (xs.drop (i + 1))).length)).toArray := ⟨_, rfl⟩
  have hs1 : cur1.size = c * 2 := by
    rw [hc1, List.size_toArray, List.length_append, List.length_append, List.length_take, List.length_drop, hlr, Array.length_toList, hs]; omega
  obtain ⟨o, ho⟩ : ∃ o, o = (if c = i + 1 then 0 else (i + 1) * 2) := ⟨_, rfl⟩
  have hap : ∀ ty mc, (Builtin.append_ #[22, 22] ty #[.slice (some ⟨g, 0, none⟩) i c, .slice (some ⟨g, o, none⟩) m mc]).run Try.prog w.drew = .ok (.slice (some ⟨g, 0, none⟩) (i + m) c) (w.drew.setRow g cur1) := fun ty mc => by
    rw [hc1]
    refine run_append_room Try.prog w.drew 22 ty 46 2 g i c ⟨g, o, none⟩ m mc cur 46 (rowP (xs.drop (i + 1))) Try.underlying22 hsz hh hlr ?_ (by omega) (by rw [hlr, hs]; omega) (rowP_one _)
    by_cases hc : c = i + 1
    · have hm0 : (rowP (xs.drop (i + 1))) = [] := List.eq_nil_of_length_eq_zero (by rw [hlr]; omega)
      rw [hm0]; intro j v hj; simp at hj
    · rw [ho, if_neg hc]
      exact row_cell (w := w.drew) hh ((i + 1) * 2) _ hci
  obtain ⟨Z, hZ⟩ : ∃ Z : Array Value, Z = #[.string ⟨#[]⟩, .int .i64 0] := ⟨_, rfl⟩
  have hZs : Z.size = 2 := by rw [hZ]; rfl
  obtain ⟨cur2, hc2⟩ : ∃ cur2, cur2 = (cur1.toList.take ((i + m) * 2) ++ Z.toList ++ cur1.toList.drop ((i + m) * 2 + Z.size)).toArray := ⟨_, rfl⟩
  have hs2 : cur2.size = c * 2 := by
    rw [hc2, List.size_toArray, List.length_append, List.length_append, List.length_take, List.length_drop, Array.length_toList, Array.length_toList, hs1, hZs]; omega
  have hcl : ∀ ty mc, (Builtin.clear_ #[22] ty #[.slice (some ⟨g, (i + m) * 2, none⟩) 1 mc]).run Try.prog (w.drew.setRow g cur1) = .ok (.tuple #[]) ((w.drew.setRow g cur1).setRow g cur2) := fun ty mc => by
    have z := run_clear_rows Try.prog (w.drew.setRow g cur1) 22 ty 46 _ g ((i + m) * 2) 1 mc cur1 46 Try.underlying22 zero46 (by decide) (setRow_heap _ g cur cur1 46 (0, 0) hh) (by rw [zero_cells1, hs1]; show _ + 2 ≤ _; omega) (by rw [zero_cells1]; intro v hv; simp at hv; rcases hv with rfl | rfl <;> rfl)
    rw [zero_cells1, ← hZ, ← hc2] at z
    exact z
  have hres : cur2.toList.take ((i + m) * 2) = rowP (xs.take i ++ xs.drop (i + 1)) := by
    have l1 : (cur.toList.take (i * 2)).length = i * 2 := by rw [List.length_take, Array.length_toList, hs]; omega
    have e1 : cur.toList.take (i * 2) = rowP (xs.take i) := by rw [← rowP_take, ← ht, List.take_take, Nat.min_eq_left (by omega)]
    have e2 : cur1.toList.take ((i + m) * 2) = rowP (xs.take i) ++ rowP (xs.drop (i + 1)) := by
      have e3 : (rowP (xs.take i) ++ rowP (xs.drop (i + 1))).length = (i + m) * 2 := by rw [List.length_append, hlr, hlt]; omega
      rw [hc1, List.toList_toArray, e1, ← e3, List.take_left]
    have e4 : (cur1.toList.take ((i + m) * 2)).length = (i + m) * 2 := by rw [List.length_take, Array.length_toList, hs1]; omega
    have e5 := List.take_left (l₁ := cur1.toList.take ((i + m) * 2)) (l₂ := Z.toList ++ cur1.toList.drop ((i + m) * 2 + Z.size))
    rw [e4] at e5
    rw [hc2, List.toList_toArray, List.append_assoc, e5, e2, rowP_app]
  have hlen : (xs.take i ++ xs.drop (i + 1)).length = i + m := by rw [List.length_append, List.length_take, List.length_drop]; omega
  have HE := Aside0.mk (show Kd.R k46 46 ((w.drew.setRow g cur1).setRow g cur2) base (fun _ => True) (.slice (some ⟨g, 0, none⟩) (i + m) c) (xs.take i ++ xs.drop (i + 1)) by
    have hR := cells_R (ok := fun _ => True) (w := (w.drew.setRow g cur1).setRow g cur2) (xs := xs.take i ++ xs.drop (i + 1)) (c := c) trivial hg (setRow_heap _ g cur1 cur2 46 (0, 0) (setRow_heap _ g cur cur1 46 (0, 0) hh)) (by rw [hlen]; omega) hcm hs2 (by rw [hlen]; exact hres)
    rw [hlen] at hR
    exact hR)
  have HBL := Aside0.mk (show Below base w ((w.drew.setRow g cur1).setRow g cur2) from below_setRow (below_setRow (below_drew1 (Below.refl _ _)) hg _) hg _)
  have HC63 := Aside0.mk (max_int hcm)
  have HA := Aside0.mk hap
  have HCL := Aside0.mk hcl
  have b1 : (0 : Int) ≤ (i : Int) + 1 := by omega
  have b2 : (i : Int) ≤ (i : Int) + 1 := by omega
  have b3 : (i : Int) + 1 ≤ (n : Int) := by omega
  have b4 : (n : Int) ≤ (c : Int) := by omega
  have b5 : ((i : Int) + 1).toNat = i + 1 := by omega
  have b6 : ¬ ((i : Int) = (i : Int) + 1) := by omega
  have b7 : (i : Int) ≤ (c : Int) := by omega
  have b8 : ¬ (n = i) := by omega
  have b9 : ¬ (c = i + m) := by omega
  have b10 : n - (i + 1) = m := by omega
  have b11 : n - (i + m) = 1 := by omega
  have b12 : (i : Int) + (m : Int) ≤ (n : Int) := by omega
  have b13 : i + m ≤ n := by omega
  have b14 : (i : Int) ≤ (n : Int) := by omega
  have mixed : Try.prog.follows Departure.mixedOrders = true := by kernel_rfl
  have hc63 := HC63.out
  by_cases hc : c = i + 1
  · rw [if_pos hc] at ho
    obtain rfl : m = 0 := by omega
    obtain rfl : c = n := by omega
    have e0 : (c = i + 1) = True := eq_true (by omega)
    have e1 : c - (i + 1) = 0 := by omega
    have e2 : c - i = 1 := by omega
    clear hs2 hres hlen hcl hZs hc2 hZ hap hs1 hc1 hci hlt hlr hsz hzb hzs hz0 hi0 ht hs hcm hh hg hl
    clear b4 b7 b9 b10 b11 b12 b13 hnc hc hn him
    subst ho
    go_enter Try.func40, Try.ntmps40
    go_upto_region 5 with (fail)
    have hap := HA.out
    go_region_law_o (refine step_appendI rfl _ _ 22 22 rfl (.slice (some ⟨g, 0, none⟩) i c) (.slice (some ⟨g, 0, none⟩) 0 0) (by simp [Act.eval, Act.put]) (by simp [Act.eval, Act.put]) (hap 22 0) ?_)
    clear hap
    have hcl := HCL.out
    simp only [Nat.add_zero] at hcl
    go_wp2_with (at_builtin; refine wpList_clearI _ rfl _ 22 rfl _ rfl (hcl _ _) ?_)
    go_ret
    exact ⟨_, rfl, HE.out, HBL.out⟩
  · rw [if_neg hc] at ho
    clear hs2 hres hlen hcl hZs hc2 hZ hap hs1 hc1 hci hlt hlr hsz hzb hzs hz0 hi0 ht hs hcm hh hg hl hn him
    subst ho
    go_enter Try.func40, Try.ntmps40
    go_upto_region 5 with (fail)
    have hap := HA.out
    go_region_law_o (refine step_appendI rfl _ _ 22 22 rfl (.slice (some ⟨g, 0, none⟩) i c) (.slice (some ⟨g, (i + 1) * 2, none⟩) m (c - (i + 1))) (by simp [Act.eval, Act.put]) (by simp [Act.eval, Act.put]) (hap 22 (c - (i + 1))) ?_)
    clear hap
    have hcl := HCL.out
    go_wp2_with (at_builtin; refine wpList_clearI _ rfl _ 22 rfl _ rfl (hcl _ _) ?_)
    go_ret
    exact ⟨_, rfl, HE.out, HBL.out⟩
/-- slices.Delete of one part out of a row of the call's own. -/
theorem delete_part (w : World) (base : Nat) (S : Value) (xs : List S46) (hS : Kd.R k46 46 w base (fun _ => True) S xs) (i : Nat) (hi : i < xs.length) (hl : xs.length ≤ 1000) :
    Calls Try.prog 40 #[S, .int .i64 (i : Int), .int .i64 ((i : Int) + 1)] w fun e w' => ∃ v', e = .returned v' ∧ Kd.R k46 46 w' base (fun _ => True) v' (xs.take i ++ xs.drop (i + 1)) ∧ Below base w w' := by
  rcases R_cells hS with ⟨_, h⟩ | ⟨g, c, cur, rfl, _, hg, hh, hc, hm, hs, ht⟩
  · subst h; simp at hi
  · exact delete_cells w base g c i (xs.length - (i + 1)) xs.length xs cur hg hh rfl (by omega) hc hm hs ht hl
end Go.Proofs.Ytmgjccpolkhhhaa.Id
namespace Go.Proofs.Ytmgjccpolkhhhaa.Ic
open Go.Shelf Go.RowKit Go.Lib Go.Proofs.Ytmgjccpolkhhhaa.PAll Go.Proofs.YtmgjccpolkhhhaaW.PrintWords Go.Proofs.YtmgjccpolkhhhaaW.PrintLast Go.Proofs.Ytmgjccpolkhhhaa.Hl Go.Proofs.Ytmgjccpolkhhhaa.In Go.Proofs.Ytmgjccpolkhhhaa.Is Go.Proofs.Ytmgjccpolkhhhaa.Id
set_option linter.unusedSimpArgs false
set_option linter.unusedVariables false
variable {P : Program} {ops : Array Oper} {Q : Exit → Act → World → Prop} {rest : List Oper}
theorem run_closure {oi : Oper} {a : Act} {w : World} {t : Tmp} {f : FuncId} {fn : Func} {xa : Array Operand} {ts : Array TypeId} (hf : P.funcs[f]? = some fn) (hname : (fn.name == "runtime.NumGoroutine") = false) (hb : fn.body.isSome = true) (args cap : Array Value)
    (hop : oi.op = .call { callee := .value (.tmp t), args := xa, argTypes := ts }) (hargs : xa.map a.eval = args) (hv : a.eval (.tmp t) = .func (.func f) #[] cap) : (execOp a.eval oi).run P w = .ok (.enter f (args ++ cap)) w := by
  have he := enters_ hf hname hb (args ++ cap) w
  unfold execOp
  simp [hop, resolve, Deferred.ofValue, invoke, hv, hargs, he]
/-- A call of a closure, in a plain region. -/
theorem goesLC {oi : Oper} {a : Act} {w : World} (N : Option Tmp) (hd : oi.dst = N) (hg : oi.guard = none) {t : Tmp} {f : FuncId} {fn : Func} {xa : Array Operand} {ts : Array TypeId} (hf : P.funcs[f]? = some fn) (hname : (fn.name == "runtime.NumGoroutine") = false) (hb : fn.body.isSome = true) (args cap : Array Value)
    (hop : oi.op = .call { callee := .value (.tmp t), args := xa, argTypes := ts }) (hargs : xa.map a.eval = args) (hv : a.eval (.tmp t) = .func (.func f) #[] cap)
    (h : Calls P f (args ++ cap) w fun e w' => ∃ v, e = .returned v ∧ wpList P ops Q rest (a.put N v) w') : wpList P ops Q (oi :: rest) a w := by
  refine wpList_plain hg fun K hK => ?_
  have hrun := run_closure (P := P) (w := w) hf hname hb args cap hop hargs hv
  unfold Oper.wp
  rw [hrun, Oper.upon_enter]
  refine h.mono fun e w'' hh => ?_
  obtain ⟨v, rfl, hk⟩ := hh
  subst hd
  exact hK _ _ hk
/-- The same, in a region that draws its order. -/
theorem goesC {oi : Oper} {N : Option Tmp} {a : Act} {w : World} {K : Act → World → Prop} {t : Tmp} {f : FuncId} {fn : Func} {xa : Array Operand} {ts : Array TypeId} (hf : P.funcs[f]? = some fn) (hname : (fn.name == "runtime.NumGoroutine") = false) (hb : fn.body.isSome = true) (args cap : Array Value)
    (hw : Region.wanted oi (yielded ops a.tmps) = true) (hN : oi.dst = N) (hop : oi.op = .call { callee := .value (.tmp t), args := xa, argTypes := ts }) (hargs : xa.map a.eval = args) (hv : a.eval (.tmp t) = .func (.func f) #[] cap)
    (h : Calls P f (args ++ cap) w fun e w' => ∃ v, e = .returned v ∧ K (a.put N v) w') : if Region.wanted oi (yielded ops a.tmps) = true then Oper.wp P oi a w K Q else K (a.put N undef) w :=
  call_ f (args ++ cap) hw hN (run_closure (P := P) (w := w) hf hname hb args cap hop hargs hv) h
end Go.Proofs.Ytmgjccpolkhhhaa.Ic
namespace Go.Proofs.Ytmgjccpolkhhhaa.Ie
open Go.Shelf Go.RowKit Go.Lib Go.Proofs.Ytmgjccpolkhhhaa.PAll Go.Proofs.YtmgjccpolkhhhaaW.PrintWords Go.Proofs.YtmgjccpolkhhhaaW.PrintLast Go.Proofs.Ytmgjccpolkhhhaa.Hl Go.Proofs.Ytmgjccpolkhhhaa.In Go.Proofs.Ytmgjccpolkhhhaa.Is Go.Proofs.Ytmgjccpolkhhhaa.Id
set_option linter.unusedSimpArgs false
set_option linter.unusedVariables false
set_option maxHeartbeats 4000000 in
set_option maxRecDepth 100000 in
theorem split2 (w : World) (base : Nat) (S : Value) (xs : List S46) (A : Option Addr) (n c : Nat) (hSe : S = .slice A n c) (hn : n = xs.length) (hS : Kd.R k46 46 w base (fun _ => True) S xs) (gi ga i : Nat) (at_ : ByteArray) (hi : w.cell? ⟨gi, 0, none⟩ = some (.int .i64 (i : Int))) (ha : w.cell? ⟨ga, 0, none⟩ = some (.string at_)) (h1 : 1 ≤ i) (hin : i ≤ n) (hl : n ≤ 1000) (hb : base ≤ w.heap.size) :
    Calls Try.prog 36 #[S, .pointer (some ⟨gi, 0, none⟩), .pointer (some ⟨ga, 0, none⟩)] w fun e w' => ∃ v', e = .returned v' ∧ Kd.R k46 46 w' base (fun _ => True) v' (xs.take i ++ (⟨at_, (rd_T46 xs ((i : Int) - 1)).f1⟩ : S46) :: xs.drop i) ∧ Below base w w' := by
  subst hSe
  have HS := Aside0.mk hS
  have hlt := Kd.R_lt hS
  obtain ⟨ad, e, hx0, hx1⟩ := at_T46 (Kd.R_reads' hS).2.2 ((i : Int) - 1) (by omega) (by omega)
  subst e
  rw [show ((i : Int) - 1).toNat = i - 1 by omega] at hx0 hx1
  have q3 : ((1 : Int) ≤ (i : Int)) = True := eq_true (by omega)
  have q4 : (1 ≤ i) = True := eq_true h1
  have q1 : (0 ≤ (i : Int) - 1) = True := eq_true (by omega)
  have q2 : ((i : Int) - 1 < (n : Int)) = True := eq_true (by omega)
  have hu46 := Try.underlying46
  have mixed : Try.prog.follows Departure.mixedOrders = true := by kernel_rfl
  have HI := Aside0.mk (insert_part ((w.alloc (.cells #[.string at_, .int .i64 (rd_T46 xs ((i : Int) - 1)).f1] 46)).drew) base 0 (.slice (some ad) n c) (.slice (some ⟨w.heap.size, 0, none⟩) 1 1) xs ⟨at_, (rd_T46 xs ((i : Int) - 1)).f1⟩ (Kd.R_drew (Kd.R_alloc hS _)) (cells_R (xs := [⟨at_, (rd_T46 xs ((i : Int) - 1)).f1⟩]) trivial (Nat.zero_le _) (heap_alloc_new w _) (by simp) (by decide) rfl rfl) (by intro e; have := hlt w.heap.size (by rw [← e]; rfl); omega) i (by omega) (by omega) (by simp; omega))
  have HBA := Aside0.mk (show Below base w ((w.alloc (.cells #[.string at_, .int .i64 (rd_T46 xs ((i : Int) - 1)).f1] 46)).drew) from below_drew1 ((Below.refl base w).alloc hb _))
  have hbA : Below w.heap.size w (w.alloc (.cells #[.string at_, .int .i64 (rd_T46 xs ((i : Int) - 1)).f1] 46)) := (Below.refl _ _).alloc (Nat.le_refl _) _
  have hi2 := (hbA.cell (World.block_lt_of_cell? w _ hi)).trans hi
  have ha2 := (hbA.cell (World.block_lt_of_cell? w _ ha)).trans ha
  clear hbA
  have HN := Aside0.mk hn
  have HH := Aside0.mk (show i ≤ xs.length ∧ xs.length ≤ 1000 by omega)
  obtain ⟨hw1, hw2⟩ : wrap64 ((i : Int) - 1) = (i : Int) - 1 ∧ IntKind.i64.wrap ((i : Int) - 1) = (i : Int) - 1 := ⟨Go.IntWalk.wrap64_in _ (by omega), by rw [IntKind.wrap_i64]; omega⟩
  clear hS hn hlt
  go_enter Try.func36, Try.ntmps36
  go_upto_region 1 with (fail)
  go_region_law_o (refine goes_ Try.func37 (by kernel_rfl) rfl #[.slice (some ad) n c, .int .i64 (i : Int), .slice (some ⟨w.heap.size, 0, none⟩) 1 1] (by rfl) rfl rfl (by (try simp only [List.map_toArray, List.map_cons, List.map_nil]); first | done | rfl) ?_; refine HI.out.mono ?_; rintro e w' ⟨v', rfl, hR, hB⟩; refine ⟨_, rfl, ?_⟩; have HR := Aside0.mk hR; have HB := Aside0.mk (HBA.out.trans hB); clear hR hB)
  all_goals (try go_wp2)
  all_goals go_ret
  all_goals exact ⟨_, rfl, HR.out, HB.out⟩
end Go.Proofs.Ytmgjccpolkhhhaa.Ie
