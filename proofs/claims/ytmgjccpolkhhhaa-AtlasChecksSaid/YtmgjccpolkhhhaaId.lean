/- DERIVED. slices.Delete of one part out of a row of the call's own. Conditions: those that each lemma names. -/
import Derived.Test.YtmgjccpolkhhhaaIs
namespace Go.Proofs.Ytmgjccpolkhhhaa.Id
open Go.Shelf Go.RowKit Go.Lib Go.Proofs.Ytmgjccpolkhhhaa.PAll Go.Proofs.YtmgjccpolkhhhaaW.PrintWords Go.Proofs.YtmgjccpolkhhhaaW.PrintLast Go.Proofs.Ytmgjccpolkhhhaa.Hl Go.Proofs.Ytmgjccpolkhhhaa.In Go.Proofs.Ytmgjccpolkhhhaa.Is
set_option linter.unusedSimpArgs false
set_option linter.unusedVariables false
/-- append where there is room, out of any place, for elements of any size. -/
theorem run_append_room (P : Program) (w : World) (t ty elem : TypeId) (sz g sLen sCap : Nat) (a : Addr) (m mc : Nat) (cur : Array Value) (tt : TypeId) (cs : List Value)
    (hu : P.underlying t = some (.slice elem)) (hs : (P.info? elem).map (·.size) = some sz)
    (hg : w.heap[g]? = some (.cells cur tt (0, 0))) (hn : cs.length = m * sz)
    (hsrc : ∀ j v, cs[j]? = some v → w.cell? (a.add j) = some v) (hroom : sLen + m ≤ sCap) (hfit : sLen * sz + cs.length ≤ cur.size) (h1 : ∀ v ∈ cs, v.oneCell' = true) :
    (Builtin.append_ #[t, t] ty #[.slice (some ⟨g, 0, none⟩) sLen sCap, .slice (some a) m mc]).run P w =
      .ok (.slice (some ⟨g, 0, none⟩) (sLen + m) sCap) (w.setRow g (cur.toList.take (sLen * sz) ++ cs ++ cur.toList.drop (sLen * sz + cs.length)).toArray) := by
  have hl := run_loadCells_list (P := P) w a cs hsrc
  have hst := run_storeCells_at P g (sLen * sz) tt cs 0 cur w hg (by simpa using hfit) h1
  have hadd : (⟨g, 0, none⟩ : Addr).add (sLen * sz) = ⟨g, sLen * sz, none⟩ := by unfold Addr.add; split <;> simp_all
  cases hq : P.info? elem with
  | none => simp [hq] at hs
  | some i =>
    have hi : i.size = sz := by simpa [hq] using hs
    rw [hn] at hl
    simp [Builtin.append_, run_underlying hu, Builtin.lenOf, Builtin.firstCells, sizeOf, typeInfo, hq, hi, hroom, hl, hadd, hst]
theorem run_clear_rows (P : Program) (w : World) (t ty elem : TypeId) (z : Value) (g o m mc : Nat) (cur : Array Value) (tt : TypeId)
    (hu : P.underlying t = some (.slice elem)) (hz : ∀ w, (Go.zeroValue elem).run P w = .ok z w) (hm : m ≠ 0)
    (hg : w.heap[g]? = some (.cells cur tt (0, 0))) (hfit : o + (Builtin.zeroCells z.cells m).size ≤ cur.size) (h1 : ∀ v ∈ (Builtin.zeroCells z.cells m).toList, v.oneCell' = true) :
    (Builtin.clear_ #[t] ty #[.slice (some ⟨g, o, none⟩) m mc]).run P w =
      .ok (.tuple #[]) (w.setRow g (cur.toList.take o ++ (Builtin.zeroCells z.cells m).toList ++ cur.toList.drop (o + (Builtin.zeroCells z.cells m).size)).toArray) := by
  have hst := run_storeCells_at P g o tt (Builtin.zeroCells z.cells m).toList 0 cur w hg (by simpa using hfit) h1
  obtain ⟨k, rfl⟩ : ∃ k, m = k + 1 := ⟨m - 1, by omega⟩
  simp [Builtin.clear_, run_underlying hu, hz, hst]
theorem wp_builtin1 {P : Program} (w : World) {o : Oper} {a : Act} {K : Act → World → Prop} {Q : Exit → Act → World → Prop} (x : Operand) (t : TypeId)
    (ho : o.op = .call { callee := .builtin .clear, args := #[x], argTypes := #[t] }) (v : Value) (hx : a.eval x = v) {v' : Value} {w' : World}
    (hr : (Builtin.clear_ #[t] o.type #[v]).run P w = .ok v' w') (h : K (a.put o.dst v') w') : o.wp P a w K Q := by
  unfold Oper.wp execOp
  simp only [ho, resolve, invoke, builtin, Sem.run_bind, Sem.run_pure, Result.andThen_ok, List.map_toArray, List.map_cons, List.map_nil, hx, hr]
  exact h
theorem wpList_clearI {P : Program} (w : World) {ops : Array Oper} {rest : List Oper} {o : Oper} {a : Act} {Q : Exit → Act → World → Prop} (hgd : o.guard = none) (x : Operand) (t : TypeId)
    (ho : o.op = .call { callee := .builtin .clear, args := #[x], argTypes := #[t] }) (v : Value) (hx : a.eval x = v) {v' : Value} {w' : World}
    (hr : (Builtin.clear_ #[t] o.type #[v]).run P w = .ok v' w') (h : wpList P ops Q rest (a.put o.dst v') w') : wpList P ops Q (o :: rest) a w :=
  wpList_plain hgd fun _ hK => wp_builtin1 w x t ho v hx hr (hK _ _ h)
theorem step_appendI {P : Program} {ops : Array Oper} {o : Oper} {a : Act} {w : World} {K : Act → World → Prop} {Q : Exit → Act → World → Prop} {E : Prop}
    (hg : o.guard = none) (d x : Operand) (dT sT : TypeId) (hop : o.op = Op.call { callee := Callee.builtin Builtin.append, args := #[d, x], argTypes := #[dT, sT] })
    (v u : Value) (hd : a.eval d = v) (hx : a.eval x = u) {v' : Value} {w' : World} (hr : (Builtin.append_ #[dT, sT] o.type #[v, u]).run P w = .ok v' w') (hK : K (a.put o.dst v') w') :
    if Region.wanted o (yielded ops a.tmps) = true then Oper.wp P o a w K Q else E := by
  have hw : Region.wanted o (yielded ops a.tmps) = true := by simp [Region.wanted, hg]
  rw [if_pos hw]
  unfold Oper.wp
  simp [execOp, hop, resolve, invoke, builtin, hd, hx, hr, Result.andThen]
  exact hK
theorem zero46 (w : World) : (Go.zeroValue 46).run Try.prog w = .ok (.agg #[(.string ⟨#[]⟩), (.int .i64 0)]) w := by
  obtain ⟨i0, hi0, h0, h1, h2⟩ := info_parts info46
  simp [zeroValue, typeInfo, hi0, h0]
theorem zero_cells1 : Builtin.zeroCells (Value.agg #[(.string ⟨#[]⟩), (.int .i64 0)]).cells 1 = #[.string ⟨#[]⟩, .int .i64 0] := by kernel_rfl
set_option maxHeartbeats 4000000 in
set_option maxRecDepth 100000 in
theorem delete_cells (w : World) (base g c i m n : Nat) (xs : List S46) (cur : Array Value) (hg : base ≤ g) (hh : w.heap[g]? = some (.cells cur 46 (0, 0))) (hn : n = xs.length) (him : n = i + 1 + m) (hnc : n ≤ c) (hcm : c ≤ maxLen) (hs : cur.size = c * 2) (ht : cur.toList.take (n * 2) = rowP xs) (hl : n ≤ 1000) :
    Calls Try.prog 40 #[.slice (some ⟨g, 0, none⟩) n c, .int .i64 (i : Int), .int .i64 ((i : Int) + 1)] w fun e w' => ∃ v', e = .returned v' ∧ Kd.R k46 46 w' base (fun _ => True) v' (xs.take i ++ xs.drop (i + 1)) ∧ Below base w w' := by
  obtain ⟨i0, hi0, hz0, hzs, hzb⟩ := info_parts info46
  have hsz : (Try.prog.info? 46).map (·.size) = some 2 := by rw [hi0]; simp [hzs]
  have hlr : (rowP (xs.drop (i + 1))).length = m * 2 := by rw [rowP_len, List.length_drop]; omega
  have hlt : (rowP (xs.take i)).length = i * 2 := by rw [rowP_len, List.length_take]; omega
  have hci := cut_row (by rw [← hn]; exact ht) (i + 1) (by omega)
  obtain ⟨cur1, hc1⟩ : ∃ cur1, cur1 = (cur.toList.take (i * 2) ++ rowP (xs.drop (i + 1)) ++ cur.toList.drop (i * 2 + (rowP (xs.drop (i + 1))).length)).toArray := ⟨_, rfl⟩
  have hs1 : cur1.size = c * 2 := by
    rw [hc1, List.size_toArray, List.length_append, List.length_append, List.length_take, List.length_drop, hlr, Array.length_toList, hs]; omega
  obtain ⟨o, ho⟩ : ∃ o, o = (if c = i + 1 then 0 else (i + 1) * 2) := ⟨_, rfl⟩
  have hap : ∀ ty mc, (Builtin.append_ #[22, 22] ty #[.slice (some ⟨g, 0, none⟩) i c, .slice (some ⟨g, o, none⟩) m mc]).run Try.prog w.drew = .ok (.slice (some ⟨g, 0, none⟩) (i + m) c) (w.drew.setRow g cur1) := fun ty mc => by
    rw [hc1]
    refine run_append_room Try.prog w.drew 22 ty 46 2 g i c ⟨g, o, none⟩ m mc cur 46 (rowP (xs.drop (i + 1))) Try.underlying22 hsz hh hlr ?_ (by omega) (by rw [hlr, hs]; omega) (rowP_one _)
    by_cases hc : c = i + 1
    · have hm0 : (rowP (xs.drop (i + 1))) = [] := List.eq_nil_of_length_eq_zero (by rw [hlr]; omega)
      rw [hm0]; intro j v hj; simp at hj
    · rw [ho, if_neg hc]
      exact row_cell (w := w.drew) hh ((i + 1) * 2) _ hci
  obtain ⟨Z, hZ⟩ : ∃ Z : Array Value, Z = #[.string ⟨#[]⟩, .int .i64 0] := ⟨_, rfl⟩
  have hZs : Z.size = 2 := by rw [hZ]; rfl
  obtain ⟨cur2, hc2⟩ : ∃ cur2, cur2 = (cur1.toList.take ((i + m) * 2) ++ Z.toList ++ cur1.toList.drop ((i + m) * 2 + Z.size)).toArray := ⟨_, rfl⟩
  have hs2 : cur2.size = c * 2 := by
    rw [hc2, List.size_toArray, List.length_append, List.length_append, List.length_take, List.length_drop, Array.length_toList, Array.length_toList, hs1, hZs]; omega
  have hcl : ∀ ty mc, (Builtin.clear_ #[22] ty #[.slice (some ⟨g, (i + m) * 2, none⟩) 1 mc]).run Try.prog (w.drew.setRow g cur1) = .ok (.tuple #[]) ((w.drew.setRow g cur1).setRow g cur2) := fun ty mc => by
    have z := run_clear_rows Try.prog (w.drew.setRow g cur1) 22 ty 46 _ g ((i + m) * 2) 1 mc cur1 46 Try.underlying22 zero46 (by decide) (setRow_heap _ g cur cur1 46 (0, 0) hh) (by rw [zero_cells1, hs1]; show _ + 2 ≤ _; omega) (by rw [zero_cells1]; intro v hv; simp at hv; rcases hv with rfl | rfl <;> rfl)
    rw [zero_cells1, ← hZ, ← hc2] at z
    exact z
  have hres : cur2.toList.take ((i + m) * 2) = rowP (xs.take i ++ xs.drop (i + 1)) := by
    have l1 : (cur.toList.take (i * 2)).length = i * 2 := by rw [List.length_take, Array.length_toList, hs]; omega
    have e1 : cur.toList.take (i * 2) = rowP (xs.take i) := by rw [← rowP_take, ← ht, List.take_take, Nat.min_eq_left (by omega)]
    have e2 : cur1.toList.take ((i + m) * 2) = rowP (xs.take i) ++ rowP (xs.drop (i + 1)) := by
      have e3 : (rowP (xs.take i) ++ rowP (xs.drop (i + 1))).length = (i + m) * 2 := by rw [List.length_append, hlr, hlt]; omega
      rw [hc1, List.toList_toArray, e1, ← e3, List.take_left]
    have e4 : (cur1.toList.take ((i + m) * 2)).length = (i + m) * 2 := by rw [List.length_take, Array.length_toList, hs1]; omega
    have e5 := List.take_left (l₁ := cur1.toList.take ((i + m) * 2)) (l₂ := Z.toList ++ cur1.toList.drop ((i + m) * 2 + Z.size))
    rw [e4] at e5
    rw [hc2, List.toList_toArray, List.append_assoc, e5, e2, rowP_app]
  have hlen : (xs.take i ++ xs.drop (i + 1)).length = i + m := by rw [List.length_append, List.length_take, List.length_drop]; omega
  have HE := Aside0.mk (show Kd.R k46 46 ((w.drew.setRow g cur1).setRow g cur2) base (fun _ => True) (.slice (some ⟨g, 0, none⟩) (i + m) c) (xs.take i ++ xs.drop (i + 1)) by
    have hR := cells_R (ok := fun _ => True) (w := (w.drew.setRow g cur1).setRow g cur2) (xs := xs.take i ++ xs.drop (i + 1)) (c := c) trivial hg (setRow_heap _ g cur1 cur2 46 (0, 0) (setRow_heap _ g cur cur1 46 (0, 0) hh)) (by rw [hlen]; omega) hcm hs2 (by rw [hlen]; exact hres)
    rw [hlen] at hR
    exact hR)
  have HBL := Aside0.mk (show Below base w ((w.drew.setRow g cur1).setRow g cur2) from below_setRow (below_setRow (below_drew1 (Below.refl _ _)) hg _) hg _)
  have HC63 := Aside0.mk (max_int hcm)
  have HA := Aside0.mk hap
  have HCL := Aside0.mk hcl
  have b1 : (0 : Int) ≤ (i : Int) + 1 := by omega
  have b2 : (i : Int) ≤ (i : Int) + 1 := by omega
  have b3 : (i : Int) + 1 ≤ (n : Int) := by omega
  have b4 : (n : Int) ≤ (c : Int) := by omega
  have b5 : ((i : Int) + 1).toNat = i + 1 := by omega
  have b6 : ¬ ((i : Int) = (i : Int) + 1) := by omega
  have b7 : (i : Int) ≤ (c : Int) := by omega
  have b8 : ¬ (n = i) := by omega
  have b9 : ¬ (c = i + m) := by omega
  have b10 : n - (i + 1) = m := by omega
  have b11 : n - (i + m) = 1 := by omega
  have b12 : (i : Int) + (m : Int) ≤ (n : Int) := by omega
  have b13 : i + m ≤ n := by omega
  have b14 : (i : Int) ≤ (n : Int) := by omega
  have mixed : Try.prog.follows Departure.mixedOrders = true := by kernel_rfl
  have hc63 := HC63.out
  by_cases hc : c = i + 1
  · rw [if_pos hc] at ho
    obtain rfl : m = 0 := by omega
    obtain rfl : c = n := by omega
    have e0 : (c = i + 1) = True := eq_true (by omega)
    have e1 : c - (i + 1) = 0 := by omega
    have e2 : c - i = 1 := by omega
    clear hs2 hres hlen hcl hZs hc2 hZ hap hs1 hc1 hci hlt hlr hsz hzb hzs hz0 hi0 ht hs hcm hh hg hl
    clear b4 b7 b9 b10 b11 b12 b13 hnc hc hn him
    subst ho
    go_enter Try.func40, Try.ntmps40
    go_upto_region 5 with (fail)
    have hap := HA.out
    go_region_law_o (refine step_appendI rfl _ _ 22 22 rfl (.slice (some ⟨g, 0, none⟩) i c) (.slice (some ⟨g, 0, none⟩) 0 0) (by simp [Act.eval, Act.put]) (by simp [Act.eval, Act.put]) (hap 22 0) ?_)
    clear hap
    have hcl := HCL.out
    simp only [Nat.add_zero] at hcl
    go_wp2_with (at_builtin; refine wpList_clearI _ rfl _ 22 rfl _ rfl (hcl _ _) ?_)
    go_ret
    exact ⟨_, rfl, HE.out, HBL.out⟩
  · rw [if_neg hc] at ho
    clear hs2 hres hlen hcl hZs hc2 hZ hap hs1 hc1 hci hlt hlr hsz hzb hzs hz0 hi0 ht hs hcm hh hg hl hn him
    subst ho
    go_enter Try.func40, Try.ntmps40
    go_upto_region 5 with (fail)
    have hap := HA.out
    go_region_law_o (refine step_appendI rfl _ _ 22 22 rfl (.slice (some ⟨g, 0, none⟩) i c) (.slice (some ⟨g, (i + 1) * 2, none⟩) m (c - (i + 1))) (by simp [Act.eval, Act.put]) (by simp [Act.eval, Act.put]) (hap 22 (c - (i + 1))) ?_)
    clear hap
    have hcl := HCL.out
    go_wp2_with (at_builtin; refine wpList_clearI _ rfl _ 22 rfl _ rfl (hcl _ _) ?_)
    go_ret
    exact ⟨_, rfl, HE.out, HBL.out⟩
/-- slices.Delete of one part out of a row of the call's own. -/
theorem delete_part (w : World) (base : Nat) (S : Value) (xs : List S46) (hS : Kd.R k46 46 w base (fun _ => True) S xs) (i : Nat) (hi : i < xs.length) (hl : xs.length ≤ 1000) :
    Calls Try.prog 40 #[S, .int .i64 (i : Int), .int .i64 ((i : Int) + 1)] w fun e w' => ∃ v', e = .returned v' ∧ Kd.R k46 46 w' base (fun _ => True) v' (xs.take i ++ xs.drop (i + 1)) ∧ Below base w w' := by
  rcases R_cells hS with ⟨_, h⟩ | ⟨g, c, cur, rfl, _, hg, hh, hc, hm, hs, ht⟩
  · subst h; simp at hi
  · exact delete_cells w base g c i (xs.length - (i + 1)) xs.length xs cur hg hh rfl (by omega) hc hm hs ht hl
end Go.Proofs.Ytmgjccpolkhhhaa.Id
