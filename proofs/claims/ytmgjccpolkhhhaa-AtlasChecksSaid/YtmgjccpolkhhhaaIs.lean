/- DERIVED. slices.Insert of one part into a row of the call's own. Conditions: those that each lemma names. -/
import Derived.Shelf.RegionOpenPlain
import Derived.WalkKit
import Derived.Lib.Walk
import Derived.Lib.SliceRun
import Derived.Lib.JoinLaws
import Derived.Lib.AppendZeros
import Derived.Lib.AppendZerosOnto
import Derived.Lib.Overlaps
import Derived.Laws.Externs
import Derived.Laws.CopyOwn
import Derived.Laws.NewBlocks
import Derived.Test.YtmgjccpolkhhhaaIn
namespace Go.Proofs.Ytmgjccpolkhhhaa.Is
open Go.Shelf Go.RowKit Go.Lib Go.Proofs.Ytmgjccpolkhhhaa.PAll Go.Proofs.YtmgjccpolkhhhaaW.PrintWords Go.Proofs.YtmgjccpolkhhhaaW.PrintLast Go.Proofs.Ytmgjccpolkhhhaa.Hl Go.Proofs.Ytmgjccpolkhhhaa.In
set_option linter.unusedSimpArgs false
set_option linter.unusedVariables false
set_option maxHeartbeats 4000000 in
set_option maxRecDepth 100000 in
/-- At the end. -/
theorem insert_end (w : World) (base : Nat) (S : Value) (xs : List S46) (n c : Nat) (A : Option Addr) (hSv : S = .slice A n c) (hS : Kd.R k46 46 w base (fun _ => True) S xs) (vb vc : Nat) (p : S46) (hv : Kd.C k46 w (some ⟨vb, 0, none⟩) 1 [p]) (hn : n = xs.length) (hl : xs.length ≤ 1000) (hb : base ≤ w.heap.size) :
    Calls Try.prog 37 #[S, .int .i64 (n : Int), .slice (some ⟨vb, 0, none⟩) 1 vc] w fun e w' => ∃ v', e = .returned v' ∧ Kd.R k46 46 w' base (fun _ => True) v' (xs ++ [p]) ∧ Below base w w' := by
  subst hSv
  have HS := Aside0.mk hS
  have HV := Aside0.mk hv
  have HN := Aside0.mk (show (n + 1) * 24 ≤ 140737488355328 by omega)
  have HX := Aside0.mk hn
  have HBB := Aside0.mk hb
  have hnc : n ≤ c := (Kd.R_reads' hS).2.1
  have hc63 : (c : Int) ≤ 9223372036854775807 := by
    rcases R_cells hS with ⟨h1, _⟩ | ⟨g, c', cur, h1, _, _, _, _, h2, _⟩
    · injection h1 with _ _ h3; omega
    · injection h1 with _ _ h3; unfold maxLen at h2; omega
  have q1 : ((n : Int) == (n : Int)) = true := by simp
  clear hS hv hn hl hb
  cases A with
  | none =>
    obtain ⟨rfl, rfl⟩ : n = 0 ∧ c = 0 := by
      rcases R_cells HS.out with ⟨h1, _⟩ | ⟨g, c', cur, h1, _⟩
      · injection h1 with _ h2 h3; exact ⟨h2, h3⟩
      · injection h1 with h2; cases h2
    go_enter Try.func37, Try.ntmps37
    go_wp2_with (first | ((with_reducible refine gate_builtin (b := .append) (xs := #[.tmp 23, .tmp 24]) rfl ?_); at_builtin; refine Kd.R_append_rows k46 (Rr := k46.K w) (w0 := w) base rfl (.tmp 23) (.tmp 24) 22 46 (.agg #[(.string ⟨#[]⟩), (.int .i64 0)]) 24 rfl Try.underlying22 info46 rfl (by decide) (by omega) _ xs [p] _ _ _ (fun _ => True) (fun _ => False) rfl rfl ?aO ?aR (fun x cs h => by rw [k46_open h]; exact k46_mkM _ _ _ _) (fun _ h => h.elim) (fun _ _ => trivial) ?aB ?aS ?aL ?_; (case aR => exact HV.out); (case aB => exact Below.refl _ _); (case aO => exact HS.out); (case aS => exact HBB.out); (case aL => rw [← HX.out]; exact HN.out); intro v1 w1 h1_ h2_ h3_ h4_; clear h3_ h4_; have H1 := Aside0.mk h1_; have H2 := Aside0.mk h2_; clear h1_ h2_))
    go_ret
    exact ⟨_, rfl, H1.out, H2.out⟩
  | some a =>
    by_cases hcn : c = n
    · subst hcn
      go_enter Try.func37, Try.ntmps37
      go_wp2_with (first | ((with_reducible refine gate_builtin (b := .append) (xs := #[.tmp 23, .tmp 24]) rfl ?_); at_builtin; refine Kd.R_append_rows k46 (Rr := k46.K w) (w0 := w) base rfl (.tmp 23) (.tmp 24) 22 46 (.agg #[(.string ⟨#[]⟩), (.int .i64 0)]) 24 rfl Try.underlying22 info46 rfl (by decide) (by omega) _ xs [p] _ _ _ (fun _ => True) (fun _ => False) rfl rfl ?aO ?aR (fun x cs h => by rw [k46_open h]; exact k46_mkM _ _ _ _) (fun _ h => h.elim) (fun _ _ => trivial) ?aB ?aS ?aL ?_; (case aR => exact HV.out); (case aB => exact Below.refl _ _); (case aO => exact HS.out); (case aS => exact HBB.out); (case aL => rw [← HX.out]; exact HN.out); intro v1 w1 h1_ h2_ h3_ h4_; clear h3_ h4_; have H1 := Aside0.mk h1_; have H2 := Aside0.mk h2_; clear h1_ h2_))
      go_ret
      exact ⟨_, rfl, H1.out, H2.out⟩
    · have hcn1 : ¬ (c = n) := hcn
      go_enter Try.func37, Try.ntmps37
      go_wp2_with (first | ((with_reducible refine gate_builtin (b := .append) (xs := #[.tmp 23, .tmp 24]) rfl ?_); at_builtin; refine Kd.R_append_rows k46 (Rr := k46.K w) (w0 := w) base rfl (.tmp 23) (.tmp 24) 22 46 (.agg #[(.string ⟨#[]⟩), (.int .i64 0)]) 24 rfl Try.underlying22 info46 rfl (by decide) (by omega) _ xs [p] _ _ _ (fun _ => True) (fun _ => False) rfl rfl ?aO ?aR (fun x cs h => by rw [k46_open h]; exact k46_mkM _ _ _ _) (fun _ h => h.elim) (fun _ _ => trivial) ?aB ?aS ?aL ?_; (case aR => exact HV.out); (case aB => exact Below.refl _ _); (case aO => exact HS.out); (case aS => exact HBB.out); (case aL => rw [← HX.out]; exact HN.out); intro v1 w1 h1_ h2_ h3_ h4_; clear h3_ h4_; have H1 := Aside0.mk h1_; have H2 := Aside0.mk h2_; clear h1_ h2_))
      go_ret
      exact ⟨_, rfl, H1.out, H2.out⟩
theorem max63 : maxLen = 9223372036854775807 := by decide
theorem max_int {c : Nat} (hcm : c ≤ maxLen) : (c : Int) ≤ 9223372036854775807 := by rw [max63] at hcm; omega
theorem size46 (w : World) : (Go.sizeOf 46).run Try.prog w = .ok 2 w := by
  obtain ⟨i0, hi0, h0, h1, h2⟩ := info_parts info46
  simp [sizeOf, typeInfo, hi0, h1]
theorem cut_row {cur : Array Value} {xs : List S46} (ht : cur.toList.take (xs.length * 2) = rowP xs) (i : Nat) (hi : i ≤ xs.length) : (cur.toList.drop (i * 2)).take (rowP (xs.drop i)).length = rowP (xs.drop i) := by
  rw [← rowP_drop, ← ht, List.length_drop, List.length_take, List.drop_take]
  congr 1
  have := congrArg List.length ht
  rw [List.length_take, rowP_len] at this
  omega
set_option maxHeartbeats 4000000 in
set_option maxRecDepth 100000 in
/-- There is room behind the row, and the place is one of the row's. -/
theorem insert_shift (w : World) (base g c n i : Nat) (xs : List S46) (cur : Array Value) (hg : base ≤ g) (hh : w.heap[g]? = some (.cells cur 46 (0, 0))) (hn : n = xs.length) (hroom : n + 1 ≤ c) (hcm : c ≤ maxLen) (hs : cur.size = c * 2) (ht : cur.toList.take (n * 2) = rowP xs) (hi : i < n) (vb vc : Nat) (p : S46) (vcur : Array Value) (hvh : w.heap[vb]? = some (.cells vcur 46 (0, 0))) (hv : vcur.toList.take 2 = cellsP p) (hne : vb ≠ g) (hl : n ≤ 1000) :
    Calls Try.prog 37 #[.slice (some ⟨g, 0, none⟩) n c, .int .i64 (i : Int), .slice (some ⟨vb, 0, none⟩) 1 vc] w fun e w' => ∃ v', e = .returned v' ∧ Kd.R k46 46 w' base (fun _ => True) v' (xs.take i ++ p :: xs.drop i) ∧ Below base w w' := by
  have HC63 := Aside0.mk (max_int hcm)
  have HCM := Aside0.mk hcm
  clear hcm
  have hsz : (Try.prog.info? 46).map (·.size) = some 2 := by
    obtain ⟨i0, hi0, h0, h1, h2⟩ := info_parts info46
    rw [hi0]; simp [h1]
  have hov : ∀ lb cb, (callFunc 56 #[.slice (some ⟨vb, 0, none⟩) 1 vc, .slice (some ⟨g, (i + 1) * 2, none⟩) lb cb]).run Try.prog w = .ok (.value (.bool false)) w := fun lb cb => by
    rw [run_callFunc_extern Try.func56 (by kernel_rfl) (by kernel_rfl) (by kernel_rfl) (e := Extern.SlicesOverlaps.overlaps #[22, 22] #[4]) (by kernel_rfl),
      Lib.run_overlaps_apart w 22 4 46 Try.underlying22 2 size46 ⟨vb, 0, none⟩ ⟨g, (i + 1) * 2, none⟩ 1 vc lb cb hne 46 46 vcur.size cur.size (by simp [World.shape?, hvh]) (by simp [World.shape?, hh]) (by omega) (by simp [World.frozen?, hvh]) (by simp [World.frozen?, hvh])]
    rfl
  have hlr : (rowP (xs.drop i)).length = (n - i) * 2 := by rw [rowP_len, List.length_drop, hn]
  have hci := cut_row (by rw [← hn]; exact ht) i (by omega)
  obtain ⟨cur1, hc1⟩ : ∃ cur1, cur1 = (cur.toList.take ((i + 1) * 2) ++ rowP (xs.drop i) ++ cur.toList.drop ((i + 1) * 2 + (rowP (xs.drop i)).length)).toArray := ⟨_, rfl⟩
  have hcp1 : ∀ ty dc sc, (Builtin.copy_ #[22, 22] ty #[.slice (some ⟨g, (i + 1) * 2, none⟩) (n - i) dc, .slice (some ⟨g, i * 2, none⟩) (n + 1 - i) sc]).run Try.prog w.drew = .ok (goInt (Nat.min (n + 1 - i) (n - i))) (w.drew.setRow g cur1) := fun ty dc sc => by
    rw [hc1]
    exact run_copy_rows Try.prog w.drew 22 22 ty 46 2 g ((i + 1) * 2) (n - i) dc ⟨g, i * 2, none⟩ (n + 1 - i) sc cur 46 (rowP (xs.drop i)) Try.underlying22 hsz hh
      (by rw [hlr]; simp only [Nat.min_def]; split <;> omega) (row_cell (w := w.drew) hh (i * 2) _ hci) (by rw [hlr, hs]; omega) (rowP_one _)
  obtain ⟨cur2, hc2⟩ : ∃ cur2, cur2 = (cur1.toList.take (i * 2) ++ cellsP p ++ cur1.toList.drop (i * 2 + 2)).toArray := ⟨_, rfl⟩
  have hs1 : cur1.size = c * 2 := by
    rw [hc1, List.size_toArray, List.length_append, List.length_append, List.length_take, List.length_drop, hlr, Array.length_toList, hs]; omega
  have hcp2 : ∀ (W : World), W.heap[g]? = some (.cells cur1 46 (0, 0)) → W.heap[vb]? = some (.cells vcur 46 (0, 0)) → ∀ ty dc, (Builtin.copy_ #[22, 22] ty #[.slice (some ⟨g, i * 2, none⟩) (n + 1 - i) dc, .slice (some ⟨vb, 0, none⟩) 1 vc]).run Try.prog W = .ok (goInt (Nat.min 1 (n + 1 - i))) (W.setRow g cur2) := fun W h1 h2 ty dc => by
    rw [hc2]
    exact run_copy_rows Try.prog W 22 22 ty 46 2 g (i * 2) (n + 1 - i) dc ⟨vb, 0, none⟩ 1 vc cur1 46 (cellsP p) Try.underlying22 hsz h1
      (by show 2 = _; simp only [Nat.min_def]; split <;> omega) (row_cell h2 0 _ (by rw [List.drop_zero]; exact hv)) (by show _ + 2 ≤ _; rw [hs1]; omega) (fun v hv => rowP_one [p] v (by simpa [rowP] using hv))
  have hres : cur2.toList.take ((n + 1) * 2) = rowP (xs.take i ++ p :: xs.drop i) := by
    have l1 : (cur.toList.take ((i + 1) * 2)).length = i * 2 + 2 := by rw [List.length_take, Array.length_toList, hs]; omega
    have e1 : cur1.toList.take (i * 2) = rowP (xs.take i) := by
      rw [hc1, List.toList_toArray, List.append_assoc, List.take_append_of_le_length (by rw [l1]; omega), List.take_take, Nat.min_eq_left (by omega), ← rowP_take, ← ht, List.take_take, Nat.min_eq_left (by omega)]
    have e2 : cur1.toList.drop (i * 2 + 2) = rowP (xs.drop i) ++ cur.toList.drop ((i + 1) * 2 + (rowP (xs.drop i)).length) := by
      rw [hc1, List.toList_toArray, List.append_assoc, ← l1, List.drop_left]
    have e3 : (rowP (xs.take i) ++ cellsP p ++ rowP (xs.drop i)).length = (n + 1) * 2 := by
      rw [List.length_append, List.length_append, hlr, rowP_len, List.length_take]; show _ + 2 + _ = _; omega
    have e4 : rowP (xs.take i ++ p :: xs.drop i) = rowP (xs.take i) ++ cellsP p ++ rowP (xs.drop i) := by simp [rowP]
    rw [hc2, List.toList_toArray, e1, e2, ← List.append_assoc, ← e3, List.take_left, e4]
  have hs2 : cur2.size = c * 2 := by
    rw [hc2, List.size_toArray, List.length_append, List.length_append, List.length_take, List.length_drop, Array.length_toList, hs1]; show _ + 2 + _ = _; omega
  have HRES := Aside0.mk hres
  have HS2 := Aside0.mk hs2
  have HLEN := Aside0.mk (show (xs.take i ++ p :: xs.drop i).length = n + 1 by rw [List.length_append, List.length_cons, List.length_take, List.length_drop]; omega)
  have HH := Aside0.mk hh
  have HVH := Aside0.mk hvh
  have hb1 : (0 : Int) ≤ (i : Int) + 1 := by omega
  have htn : ((i : Int) + 1).toNat = i + 1 := by omega
  have htm : ((n : Int) + 1).toNat = n + 1 := by omega
  have hb2 : ¬ (c = i + 1) := by omega
  have hb4 : ¬ (c = i) := by omega
  have hz2 : ¬ ((i : Int) = (n : Int)) := by omega
  have hb3 : (i : Int) ≤ (n : Int) + 1 := by omega
  have hb5 : (i : Int) + 1 ≤ (n : Int) + 1 := by omega
  have hb6 : i ≤ n + 1 := by omega
  have hb7 : i + 1 ≤ n + 1 := by omega
  obtain ⟨hw2, hw3, hw1⟩ : wrap64 ((i : Int) + 1) = (i : Int) + 1 ∧ wrap64 ((n : Int) + 1) = (n : Int) + 1 ∧ IntKind.i64.wrap ((i : Int) + 1) = (i : Int) + 1 := ⟨Go.IntWalk.wrap64_in _ (by omega), Go.IntWalk.wrap64_in _ (by omega), by rw [IntKind.wrap_i64]; omega⟩
  have mixed : Try.prog.follows Departure.mixedOrders = true := by kernel_rfl
  have HC1 := Aside0.mk hcp1
  have HC2 := Aside0.mk hcp2
  have HG := Aside0.mk hg
  have hc63 := HC63.out
  clear hcp1 hcp2 hres hs2 hh hvh hc1 hc2 hs1 hci hlr hs ht hv hg hsz hl hn
  go_enter Try.func37, Try.ntmps37
  go_wp2_with (simp only [hov])
  have hcp1 := HC1.out
  go_region_law_o (go_loud (refine step_copyI rfl _ _ 22 22 rfl (.slice (some ⟨g, (i + 1) * 2, none⟩) (n - i) (c - (i + 1))) (.slice (some ⟨g, i * 2, none⟩) (n + 1 - i) (c - i)) (by simp [Act.eval, Act.put]) (by simp [Act.eval, Act.put]) (hcp1 3 (c - (i + 1)) (c - i)) ?_))
  clear hcp1
  have hcp := HC2.out (w.drew.setRow g cur1) (setRow_heap _ g cur cur1 46 (0, 0) HH.out) ((setRow_other _ g vb _ hne).trans HVH.out)
  have HE := Aside0.mk (show Kd.R k46 46 ((w.drew.setRow g cur1).setRow g cur2) base (fun _ => True) (.slice (some ⟨g, 0, none⟩) (n + 1) c) (xs.take i ++ p :: xs.drop i) by
    have hR := cells_R (ok := fun _ => True) (w := (w.drew.setRow g cur1).setRow g cur2) (xs := xs.take i ++ p :: xs.drop i) (c := c) trivial HG.out (setRow_heap _ g cur1 cur2 46 (0, 0) (setRow_heap _ g cur cur1 46 (0, 0) HH.out)) (by rw [HLEN.out]; exact hroom) HCM.out HS2.out (by rw [HLEN.out]; exact HRES.out)
    rw [HLEN.out] at hR
    exact hR)
  have HBL := Aside0.mk (show Below base w ((w.drew.setRow g cur1).setRow g cur2) from below_setRow (below_setRow (below_drew1 (Below.refl _ _)) HG.out _) HG.out _)
  go_wp2_with (at_builtin; refine wpList_copyI _ rfl _ _ 22 22 rfl _ _ rfl rfl (hcp _ _) ?_)
  go_ret
  exact ⟨_, rfl, HE.out, HBL.out⟩
set_option maxHeartbeats 4000000 in
set_option maxRecDepth 100000 in
/-- There is no room behind the row, and the place is one of the row's. -/
theorem insert_grow (w : World) (base g c n i : Nat) (xs : List S46) (cur : Array Value) (hg : base ≤ g) (hh : w.heap[g]? = some (.cells cur 46 (0, 0))) (hn : n = xs.length) (hnc : n ≤ c) (hroom : c < n + 1) (ht : cur.toList.take (n * 2) = rowP xs) (hs : cur.size = c * 2) (hi : i < n) (vb vc : Nat) (p : S46) (vcur : Array Value) (hvh : w.heap[vb]? = some (.cells vcur 46 (0, 0))) (hv : vcur.toList.take 2 = cellsP p) (hl : n ≤ 1000) (hbs : base ≤ w.heap.size) :
    Calls Try.prog 37 #[.slice (some ⟨g, 0, none⟩) n c, .int .i64 (i : Int), .slice (some ⟨vb, 0, none⟩) 1 vc] w fun e w' => ∃ v', e = .returned v' ∧ Kd.R k46 46 w' base (fun _ => True) v' (xs.take i ++ p :: xs.drop i) ∧ Below base w w' := by
  obtain ⟨i0, hi0, hz0, hzs, hzb⟩ := info_parts info46
  have hsz : (Try.prog.info? 46).map (·.size) = some 2 := by rw [hi0]; simp [hzs]
  have hgl : g < w.heap.size := (Array.getElem?_eq_some_iff.1 hh).1
  have hvl : vb < w.heap.size := (Array.getElem?_eq_some_iff.1 hvh).1
  have hlr : (rowP (xs.drop i)).length = (n - i) * 2 := by rw [rowP_len, List.length_drop, hn]
  have hlt : (rowP (xs.take i)).length = i * 2 := by rw [rowP_len, List.length_take]; omega
  have hci := cut_row (by rw [← hn]; exact ht) i (by omega)
  have hold : (Builtin.firstCells i0.size i (.slice (some ⟨g, 0, none⟩) i c)).run Try.prog w.drew = .ok (rowP (xs.take i)).toArray w.drew := by
    rw [hzs]
    exact run_firstCells_some w.drew 2 i ⟨g, 0, none⟩ i c (rowP (xs.take i)) hlt (row_cell (w := w.drew) hh 0 _ (by rw [List.drop_zero, hlt, ← rowP_take, ← ht, List.take_take, Nat.min_eq_left (by omega)]))
  obtain ⟨G, hG⟩ : ∃ G, G = grownCap w (n + 1) c 46 := ⟨_, rfl⟩
  obtain ⟨ROW, hROW⟩ : ∃ ROW : Array Value, ROW = (rowP (xs.take i)).toArray ++ Builtin.zeroCells (Value.agg #[(.string ⟨#[]⟩), (.int .i64 0)]).cells (n + 1 - i) ++ Builtin.zeroCells (Value.agg #[(.string ⟨#[]⟩), (.int .i64 0)]).cells (G - (n + 1)) := ⟨_, rfl⟩
  obtain ⟨Wa, hWa⟩ : ∃ Wa, Wa = w.drew.alloc (.cells ROW 46) := ⟨_, rfl⟩
  have hik : i + (n + 1 - i) = n + 1 := by omega
  have hkk : (n : Int) + 1 - (i : Int) = ((n + 1 - i : Nat) : Int) := by omega
  have hrz : ∀ ty, (Builtin.append_ #[22, 3] ty #[.slice (some ⟨g, 0, none⟩) i c, .int .i64 ((n : Int) + 1 - (i : Int))]).run Try.prog w = .ok (.slice (some ⟨w.heap.size, 0, none⟩) (n + 1) G) Wa := fun ty => by
    have h := Lib.run_append_grow_zeros w 22 3 ty 46 i0 _ .i64 .i64 Try.underlying22 Try.underlying3 hi0 hz0 (some ⟨g, 0, none⟩) i c (rowP (xs.take i)) hold (n + 1 - i) (by omega) (by omega) (by omega) (by omega) (by rw [hzb]; omega) (by rw [hzb, hik]; exact growslice_fits hroom (by omega))
    rw [hik, ← hG, ← hROW, ← hWa] at h
    rw [hkk]
    exact h
  have hGn : n + 1 ≤ G := by rw [hG]; exact grownCap_ge w _ _ _
  have hGm : G ≤ maxLen := by rw [hG]; exact grownCap_le_maxLen w _ _ _ (by rw [max63]; omega)
  have HGM := Aside0.mk hGm
  have HC63 := Aside0.mk (max_int hGm)
  clear hGm
  have hRs : ROW.size = G * 2 := by
    rw [hROW, Array.size_append, Array.size_append, List.size_toArray, hlt]
    simp [Builtin.zeroCells, Value.cells]
    omega
  obtain ⟨ROW1, hR1⟩ : ∃ R1, R1 = (ROW.toList.take (i * 2) ++ cellsP p ++ ROW.toList.drop (i * 2 + 2)).toArray := ⟨_, rfl⟩
  have hR1s : ROW1.size = G * 2 := by
    rw [hR1, List.size_toArray, List.length_append, List.length_append, List.length_take, List.length_drop, Array.length_toList, hRs]; show _ + 2 + _ = _; omega
  obtain ⟨ROW2, hR2⟩ : ∃ R2, R2 = (ROW1.toList.take ((i + 1) * 2) ++ rowP (xs.drop i) ++ ROW1.toList.drop ((i + 1) * 2 + (rowP (xs.drop i)).length)).toArray := ⟨_, rfl⟩
  have hR2s : ROW2.size = G * 2 := by
    rw [hR2, List.size_toArray, List.length_append, List.length_append, List.length_take, List.length_drop, Array.length_toList, hR1s, hlr]; omega
  have hres : ROW2.toList.take ((n + 1) * 2) = rowP (xs.take i ++ p :: xs.drop i) := by
    have l1 : (ROW.toList.take (i * 2)).length = i * 2 := by rw [List.length_take, Array.length_toList, hRs]; omega
    have e0 : ROW.toList.take (i * 2) = rowP (xs.take i) := by
      rw [hROW, Array.toList_append, Array.toList_append, List.toList_toArray, List.append_assoc, ← hlt, List.take_left]
    have e1 : ROW1.toList.take ((i + 1) * 2) = rowP (xs.take i) ++ cellsP p := by
      have : (rowP (xs.take i) ++ cellsP p).length = (i + 1) * 2 := by rw [List.length_append, hlt]; show _ + 2 = _; omega
      rw [hR1, List.toList_toArray, e0, ← this, List.take_left]
    have e3 : (rowP (xs.take i) ++ cellsP p ++ rowP (xs.drop i)).length = (n + 1) * 2 := by
      rw [List.length_append, List.length_append, hlr, hlt]; show _ + 2 + _ = _; omega
    have e4 : rowP (xs.take i ++ p :: xs.drop i) = rowP (xs.take i) ++ cellsP p ++ rowP (xs.drop i) := by simp [rowP]
    rw [hR2, List.toList_toArray, e1, ← e3, List.take_left, e4]
  have aN : Wa.heap[w.heap.size]? = some (.cells ROW 46 (0, 0)) := by rw [hWa]; exact heap_alloc_new w.drew _
  have aV : Wa.heap[vb]? = some (.cells vcur 46 (0, 0)) := by rw [hWa]; exact (heap_alloc_old w.drew _ (show vb < w.drew.heap.size from hvl)).trans hvh
  have aG : Wa.heap[g]? = some (.cells cur 46 (0, 0)) := by rw [hWa]; exact (heap_alloc_old w.drew _ (show g < w.drew.heap.size from hgl)).trans hh
  have aB : Below base w Wa := by rw [hWa]; exact (below_drew1 (Below.refl base w)).alloc hbs _
  obtain ⟨W2, hW2⟩ : ∃ W2, W2 = Wa.setRow w.heap.size ROW1 := ⟨_, rfl⟩
  have hcpA : ∀ ty dc, (Builtin.copy_ #[22, 22] ty #[.slice (some ⟨w.heap.size, i * 2, none⟩) (n + 1 - i) dc, .slice (some ⟨vb, 0, none⟩) 1 vc]).run Try.prog Wa = .ok (goInt (Nat.min 1 (n + 1 - i))) W2 := fun ty dc => by
    rw [hW2, hR1]
    exact run_copy_rows Try.prog Wa 22 22 ty 46 2 w.heap.size (i * 2) (n + 1 - i) dc ⟨vb, 0, none⟩ 1 vc ROW 46 (cellsP p) Try.underlying22 hsz aN
      (by show 2 = _; simp only [Nat.min_def]; split <;> omega) (row_cell aV 0 _ (by rw [List.drop_zero]; exact hv)) (by show _ + 2 ≤ _; rw [hRs]; omega) (fun v hv => rowP_one [p] v (by simpa [rowP] using hv))
  have bN : W2.heap[w.heap.size]? = some (.cells ROW1 46 (0, 0)) := by rw [hW2]; exact setRow_heap _ _ _ _ _ _ aN
  have bG : W2.heap[g]? = some (.cells cur 46 (0, 0)) := by rw [hW2, setRow_other _ _ g _ (by omega)]; exact aG
  have bB : Below base w W2 := by rw [hW2]; exact below_setRow aB hbs _
  have hcpB : ∀ ty dc sc, (Builtin.copy_ #[22, 22] ty #[.slice (some ⟨w.heap.size, (i + 1) * 2, none⟩) (n - i) dc, .slice (some ⟨g, i * 2, none⟩) (n - i) sc]).run Try.prog W2.drew = .ok (goInt (Nat.min (n - i) (n - i))) (W2.drew.setRow w.heap.size ROW2) := fun ty dc sc => by
    rw [hR2]
    exact run_copy_rows Try.prog W2.drew 22 22 ty 46 2 w.heap.size ((i + 1) * 2) (n - i) dc ⟨g, i * 2, none⟩ (n - i) sc ROW1 46 (rowP (xs.drop i)) Try.underlying22 hsz bN
      (by rw [hlr]; simp [Nat.min_def]) (row_cell (w := W2.drew) bG (i * 2) _ hci) (by rw [hlr, hR1s]; omega) (rowP_one _)
  have hlen : (xs.take i ++ p :: xs.drop i).length = n + 1 := by rw [List.length_append, List.length_cons, List.length_take, List.length_drop]; omega
  have HE := Aside0.mk (show Kd.R k46 46 (W2.drew.setRow w.heap.size ROW2) base (fun _ => True) (.slice (some ⟨w.heap.size, 0, none⟩) (n + 1) G) (xs.take i ++ p :: xs.drop i) by
    have hR := cells_R (ok := fun _ => True) (w := W2.drew.setRow w.heap.size ROW2) (xs := xs.take i ++ p :: xs.drop i) (c := G) trivial hbs (setRow_heap _ _ ROW1 ROW2 46 (0, 0) bN) (by rw [hlen]; exact hGn) HGM.out hR2s (by rw [hlen]; exact hres)
    rw [hlen] at hR
    exact hR)
  have HBL := Aside0.mk (show Below base w (W2.drew.setRow w.heap.size ROW2) from below_setRow (below_drew1 bB) hbs _)
  have hGi : ¬ (G = i) := by omega
  have hGim : ¬ (G = i + 1) := by omega
  have hb1 : (0 : Int) ≤ (i : Int) + 1 := by omega
  have htn : ((i : Int) + 1).toNat = i + 1 := by omega
  have htm : ((n : Int) + 1).toNat = n + 1 := by omega
  have hb4 : ¬ (c = i) := by omega
  have hz2 : ¬ ((i : Int) = (n : Int)) := by omega
  have hz3 : (c : Int) < (n : Int) + 1 := by omega
  have hb3 : (i : Int) ≤ (n : Int) + 1 := by omega
  have hb5 : (i : Int) + 1 ≤ (n : Int) + 1 := by omega
  have hb6 : i ≤ n + 1 := by omega
  have hb7 : i + 1 ≤ n + 1 := by omega
  have hb8 : (i : Int) ≤ (n : Int) := by omega
  have hb9 : (i : Int) ≤ (c : Int) := by omega
  obtain ⟨hw2, hw3, hw1, hw4, hw5⟩ : wrap64 ((i : Int) + 1) = (i : Int) + 1 ∧ wrap64 ((n : Int) + 1) = (n : Int) + 1 ∧ IntKind.i64.wrap ((i : Int) + 1) = (i : Int) + 1 ∧ wrap64 ((n : Int) + 1 - (i : Int)) = (n : Int) + 1 - (i : Int) ∧ True := ⟨Go.IntWalk.wrap64_in _ (by omega), Go.IntWalk.wrap64_in _ (by omega), by rw [IntKind.wrap_i64]; omega, Go.IntWalk.wrap64_in _ (by omega), trivial⟩
  have mixed : Try.prog.follows Departure.mixedOrders = true := by kernel_rfl
  have hc63 := HC63.out
  have HA := Aside0.mk hcpA
  have HB2 := Aside0.mk hcpB
  clear hgl hvl hold hROW hWa hik hkk hRs hR1 hR1s hR2 hR2s hres aN aV aG aB hW2 bN bG bB hlen hG hci hlr hlt ht hv hs hh hvh hg hbs hn hsz hzs hzb hz0 hi0 hcpA hcpB
  go_enter Try.func37, Try.ntmps37
  have hcpA := HA.out
  go_wp2_with (first
    | (at_builtin; refine Lib.wpList_append_run _ rfl _ _ _ _ rfl _ _ rfl rfl _ _ (hrz _) ?_)
    | (at_builtin; refine wpList_copyI _ rfl _ _ 22 22 rfl _ _ rfl rfl (hcpA _ _) ?_))
  have hcpB := HB2.out
  go_region_law_o (refine step_copyI rfl _ _ 22 22 rfl (.slice (some ⟨w.heap.size, (i + 1) * 2, none⟩) (n - i) (G - (i + 1))) (.slice (some ⟨g, i * 2, none⟩) (n - i) (c - i)) (by simp [Act.eval, Act.put]) (by simp [Act.eval, Act.put]) (hcpB 3 (G - (i + 1)) (c - i)) ?_)
  go_wp2
  go_ret
  exact ⟨_, rfl, HE.out, HBL.out⟩
/-- slices.Insert of one part into a row of the call's own. -/
theorem insert_part (w : World) (base base' : Nat) (S V : Value) (xs : List S46) (p : S46) (hS : Kd.R k46 46 w base (fun _ => True) S xs) (hV : Kd.R k46 46 w base' (fun _ => True) V [p]) (hne : V.ownBlock ≠ S.ownBlock) (i : Nat) (hi : i ≤ xs.length) (hl : xs.length ≤ 1000) (hb : base ≤ w.heap.size) :
    Calls Try.prog 37 #[S, .int .i64 (i : Int), V] w fun e w' => ∃ v', e = .returned v' ∧ Kd.R k46 46 w' base (fun _ => True) v' (xs.take i ++ p :: xs.drop i) ∧ Below base w w' := by
  rcases R_cells hV with ⟨_, h⟩ | ⟨vb, vc, vcur, rfl, _, _, hvh, hv1, hvm, hvs, hvt⟩
  · cases h
  have hvt' : vcur.toList.take 2 = cellsP p := by have := hvt; simpa [rowP] using this
  by_cases hin : i = xs.length
  · subst hin
    obtain ⟨A, c, hSe, _, _⟩ := Kd.R_reads hS
    have := insert_end w base S xs xs.length c A hSe hS vb vc p (Kd.R_reads' hV).2.2 rfl hl hb
    rw [List.take_length, List.drop_length]
    exact this
  · rcases R_cells hS with ⟨_, h⟩ | ⟨g, c, cur, rfl, _, hg, hh, hc, hm, hs, ht⟩
    · subst h; simp at hi; simp [hi] at hin
    · have hgv : vb ≠ g := by
        intro e; apply hne; rw [e]; rfl
      by_cases hroom : xs.length + 1 ≤ c
      · exact insert_shift w base g c xs.length i xs cur hg hh rfl hroom hm hs ht (by omega) vb vc p vcur hvh hvt' hgv hl
      · exact insert_grow w base g c xs.length i xs cur hg hh rfl hc (by omega) ht hs (by omega) vb vc p vcur hvh hvt' hl hb
end Go.Proofs.Ytmgjccpolkhhhaa.Is
