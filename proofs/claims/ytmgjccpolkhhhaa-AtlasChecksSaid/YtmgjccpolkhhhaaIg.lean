/- DERIVED. What the closures of Split, Merge and Move do. Conditions: those that each lemma names. -/
import Derived.Test.YtmgjccpolkhhhaaIf
import Derived.Test.YtmgjccpolkhhhaaPAllx5
import Derived.Test.YtmgjccpolkhhhaaPAllx5
import Derived.Test.YtmgjccpolkhhhaaPAllx4
namespace Go.Proofs.Ytmgjccpolkhhhaa.Ig
open Go.Shelf Go.RowKit Go.Lib Go.Proofs.Ytmgjccpolkhhhaa.PAll Go.Proofs.YtmgjccpolkhhhaaW.PrintWords Go.Proofs.YtmgjccpolkhhhaaW.PrintLast Go.Proofs.Ytmgjccpolkhhhaa.Hl Go.Proofs.Ytmgjccpolkhhhaa.Ic Go.Proofs.Ytmgjccpolkhhhaa.In Go.Proofs.Ytmgjccpolkhhhaa.Is Go.Proofs.Ytmgjccpolkhhhaa.Id Go.Proofs.Ytmgjccpolkhhhaa.If
set_option linter.unusedSimpArgs false
set_option linter.unusedVariables false
theorem turned_of {g : Nat} {w w1 w2 : World} (hb : Below w.heap.size w w1) (h2 : Below w1.heap.size w1 w2) (v : Value) : Turned g w (w2.setCell ⟨g, 0, none⟩ v) := by
  have h := below_step hb h2
  exact ⟨h.os, h.tape, h.output, by have := h.size; simpa [World.setCell] using this, fun k hk hne => (Below.heap_setCell _ _ _ _ hne).trans (h.block k hk)⟩
theorem turned_drewN {g : Nat} {w w2 : World} (h : Turned g w w2) (n : Nat) : Turned g w (w2.drewN n) := ⟨h.os, h.tape, h.output, h.size, h.block⟩
def mayS (a : ByteArray) (is : Bool) (n : Nat) : Bool := decide (¬ a.toList = []) && decide ((a.size : Int) ≤ 100) && !is && decide ((n : Int) < 8)
set_option maxHeartbeats 4000000 in
set_option maxRecDepth 100000 in
theorem may_split (w : World) (ep : Int) (A : Option Addr) (c : Nat) (ps : List S46) (hC : Kd.C k46 w A ps.length ps) (hc : ps.length ≤ c) (k : Nat) (a : ByteArray) (i : Int) (is : Bool) (hseek : atlas_seek.f k ep ps a = some (i, is)) (ga gi : Nat) (ha : w.heap[ga]? = some (.cells #[.string a] 9 (0, 0))) (hi : w.heap[gi]? = some (.cells #[.int .i64 0] 3 (0, 0))) :
    Calls Try.prog 35 #[.agg #[.int .i64 ep, .slice A ps.length c], .pointer (some ⟨ga, 0, none⟩), .pointer (some ⟨gi, 0, none⟩)] w fun e w' => e = .returned (.bool (mayS a is ps.length)) ∧ Turned gi w w' ∧ w'.heap[gi]? = some (.cells #[.int .i64 i] 3 (0, 0)) := by
  have hu24 := Try.underlying24
  have HC := Aside0.mk hC
  have HA := Aside0.mk ha
  have HI := Aside0.mk hi
  have HS := Aside0.mk hseek
  have hne : ga ≠ gi := blk_ne ha hi (by decide)
  clear hC ha hi hseek
  go_enter Try.func35, Try.ntmps35
  go_wp2_with (first | ((with_reducible refine gate_dst (N := 3) rfl ?_); refine box_event ?hg (N := 3) ?hd (cs := #[.int .i64 ep, .slice A ps.length c]) (t := 24) ?hr ?_; (case hd => rfl); (case hg => rfl); (case hr => first | (go_simp; done) | (go_simp; rfl)); intro g3 hg w1 hbox hb; have L3 := Aside0.mk (show w.heap.size ≤ g3 by omega); have BX3 := Aside0.mk hbox; have HB1 := Aside0.mk hb; have HA1 := Aside0.mk (blk_below HA.out hb); have HI1 := Aside0.mk (blk_below HI.out hb); clear hb hbox hg; have hc3_0 : w1.cell? ⟨g3, 0, none⟩ = some (.int .i64 ep) := (blk_cell BX3.out 0).trans rfl; have hc3_1 : w1.cell? ⟨g3, 1, none⟩ = some (.slice A ps.length c) := (blk_cell BX3.out 1).trans rfl; have hca : w1.cell? ⟨ga, 0, none⟩ = some (.string a) := (blk_cell HA1.out 0).trans rfl) | ((with_reducible refine gate_callee (f := 29) rfl ?_); refine goesL_ (some 9) rfl rfl Try.func29 (by kernel_rfl) rfl #[.agg #[.int .i64 ep, .slice A ps.length c], .string a] rfl (by (try simp only [List.map_toArray, List.map_cons, List.map_nil]); first | done | rfl) ?_; (with_reducible refine (atlas_seek.calls k ep _ _ ps a i is _ ?side1 ?side2 HS.out).mono ?_); (case side1 => exact Kd.C_below HC.out HB1.out); (case side2 => exact hc); rintro e w3 ⟨rfl, hb⟩; refine ⟨_, rfl, ?_⟩; have HB3 := Aside0.mk hb; have BX3c := Aside0.mk (blk_below BX3.out hb); have HA3 := Aside0.mk (blk_below HA1.out hb); have HI3 := Aside0.mk (blk_below HI1.out hb); clear hc3_0 hc3_1 hca hb; have hc3_0 : w3.cell? ⟨g3, 0, none⟩ = some (.int .i64 ep) := (blk_cell BX3c.out 0).trans rfl; have hc3_1 : w3.cell? ⟨g3, 1, none⟩ = some (.slice A ps.length c) := (blk_cell BX3c.out 1).trans rfl; have hca : w3.cell? ⟨ga, 0, none⟩ = some (.string a) := (blk_cell HA3.out 0).trans rfl; have hci : w3.cell? ⟨gi, 0, none⟩ = some (.int .i64 0) := (blk_cell HI3.out 0).trans rfl; have hfi := blk_frozen HI3.out 0; have hg3 : g3 ≠ gi := by have := L3.out; have := blk_lt HI.out; omega))
  all_goals go_ret
  all_goals refine ⟨?_, turned_of HB1.out HB3.out _, blk_put HI3.out 0 _ rfl⟩
  all_goals (congr 2; first | (simp [mayS, *]; done) | (simp [mayS, *]; intros; omega) | (rename_i hz; simp only [mayS, hz]; simp))
def mayM (ps : List S46) (is : Bool) (i : Int) : Bool := is && decide (0 < i) && decide ((rd_T46 ps i).f1 = (rd_T46 ps (i - 1)).f1)
set_option maxHeartbeats 4000000 in
set_option maxRecDepth 100000 in
theorem may_merge (w0 w : World) (hw : Below w0.heap.size w0 w) (ep : Int) (A : Option Addr) (c : Nat) (ps : List S46) (hC : Kd.C k46 w0 A ps.length ps) (hc : ps.length ≤ c) (k : Nat) (a : ByteArray) (i : Int) (is : Bool) (hseek : atlas_seek.f k ep ps a = some (i, is)) (ga gi : Nat) (ha : w.heap[ga]? = some (.cells #[.string a] 9 (0, 0))) (hi : w.heap[gi]? = some (.cells #[.int .i64 0] 3 (0, 0))) (hgi : w0.heap.size ≤ gi) (hin : is = true → 0 < i → i < ps.length) (hl : ps.length ≤ 8) :
    Calls Try.prog 38 #[.agg #[.int .i64 ep, .slice A ps.length c], .pointer (some ⟨ga, 0, none⟩), .pointer (some ⟨gi, 0, none⟩)] w fun e w' => e = .returned (.bool (mayM ps is i)) ∧ Turned gi w w' ∧ w'.heap[gi]? = some (.cells #[.int .i64 i] 3 (0, 0)) := by
  have hu24 := Try.underlying24
  have hu46 := Try.underlying46
  have HC := Aside0.mk hC
  have HA := Aside0.mk ha
  have HI := Aside0.mk hi
  have HS := Aside0.mk hseek
  have HW := Aside0.mk hw
  have mixed : Try.prog.follows Departure.mixedOrders = true := by kernel_rfl
  have hne : ga ≠ gi := blk_ne ha hi (by decide)
  by_cases hd : is = true ∧ 0 < i
  · obtain ⟨his, hi0⟩ := hd
    have hi1 := hin his hi0
    obtain ⟨ad, e, hx0, hx1⟩ := at_T46 hC i (by omega) hi1
    obtain ⟨ad', e', hy0, hy1⟩ := at_T46 hC (i - 1) (by omega) (by omega)
    obtain rfl : ad = ad' := by rw [e] at e'; exact Option.some.inj e'
    subst his
    have HE := Aside0.mk e
    have HX := Aside0.mk (⟨hx1, hy1⟩ : _ ∧ _)
    have q1 : decide (0 < i) = true := decide_eq_true hi0
    have q2 : (0 ≤ i) = True := eq_true (by omega)
    have q3 : (i < (ps.length : Int)) = True := eq_true hi1
    have q4 : (1 ≤ i) = True := eq_true (by omega)
    have q5 : (i - 1 < (ps.length : Int)) = True := eq_true (by omega)
    have q6 : (0 ≤ i - 1) = True := eq_true (by omega)
    obtain ⟨q7, q8⟩ : wrap64 (i - 1) = i - 1 ∧ IntKind.i64.wrap (i - 1) = i - 1 := ⟨Go.IntWalk.wrap64_in _ (by omega), by rw [IntKind.wrap_i64]; omega⟩
    clear hC ha hi hseek hw hx0 hx1 hy0 hy1 hin e' e hi0 hi1
    go_enter Try.func38, Try.ntmps38
    go_upto_region 3 with (first | ((with_reducible refine gate_dst (N := 3) rfl ?_); refine box_event ?hg (N := 3) ?hd (cs := #[.int .i64 ep, .slice A ps.length c]) (t := 24) ?hr ?_; (case hd => rfl); (case hg => rfl); (case hr => first | (go_simp; done) | (go_simp; rfl)); intro g3 hg w1 hbox hb; have L3 := Aside0.mk (show w.heap.size ≤ g3 by omega); have BX3 := Aside0.mk hbox; have HB1 := Aside0.mk hb; have HA1 := Aside0.mk (blk_below HA.out hb); have HI1 := Aside0.mk (blk_below HI.out hb); clear hb hbox hg; have hc3_0 : w1.cell? ⟨g3, 0, none⟩ = some (.int .i64 ep) := (blk_cell BX3.out 0).trans rfl; have hc3_1 : w1.cell? ⟨g3, 1, none⟩ = some (.slice A ps.length c) := (blk_cell BX3.out 1).trans rfl; have hca : w1.cell? ⟨ga, 0, none⟩ = some (.string a) := (blk_cell HA1.out 0).trans rfl) | ((with_reducible refine gate_callee (f := 29) rfl ?_); refine goesL_ (some 9) rfl rfl Try.func29 (by kernel_rfl) rfl #[.agg #[.int .i64 ep, .slice A ps.length c], .string a] rfl (by (try simp only [List.map_toArray, List.map_cons, List.map_nil]); first | done | rfl) ?_; (with_reducible refine (atlas_seek.calls k ep _ _ ps a i true _ ?side1 ?side2 HS.out).mono ?_); (case side1 => exact Kd.C_below HC.out (below_step HW.out HB1.out)); (case side2 => exact hc); rintro e w3 ⟨rfl, hb⟩; refine ⟨_, rfl, ?_⟩; have HB3 := Aside0.mk hb; have BX3c := Aside0.mk (blk_below BX3.out hb); have HA3 := Aside0.mk (blk_below HA1.out hb); have HI3 := Aside0.mk (blk_below HI1.out hb); clear hc3_0 hc3_1 hca hb; have hc3_0 : w3.cell? ⟨g3, 0, none⟩ = some (.int .i64 ep) := (blk_cell BX3c.out 0).trans rfl; have hc3_1 : w3.cell? ⟨g3, 1, none⟩ = some (.slice A ps.length c) := (blk_cell BX3c.out 1).trans rfl; have hca : w3.cell? ⟨ga, 0, none⟩ = some (.string a) := (blk_cell HA3.out 0).trans rfl; have hci : w3.cell? ⟨gi, 0, none⟩ = some (.int .i64 0) := (blk_cell HI3.out 0).trans rfl; have hfi := blk_frozen HI3.out 0; have hg3 : g3 ≠ gi := by have := L3.out; have := blk_lt HI.out; omega))
    have e := HE.out
    clear HE
    subst e
    have HBB := Aside0.mk ((below_step (below_step HW.out HB1.out) HB3.out).setCell (p := ⟨gi, 0, none⟩) hgi (.int .i64 i))
    have hz1 := (HBB.out.cell (World.block_lt_of_cell? w0 _ HX.out.1)).trans HX.out.1
    have hz2 := (HBB.out.cell (World.block_lt_of_cell? w0 _ HX.out.2)).trans HX.out.2
    rw [show (i - 1).toNat = i.toNat - 1 by omega] at hz2
    have hzi : (w3.setCell ⟨gi, 0, none⟩ (.int .i64 i)).cell? ⟨gi, 0, none⟩ = some (.int .i64 i) := World.cell?_setCell_same _ _ _ hci
    go_quiet (fail)
    go_wp2
    go_ret
    refine ⟨?_, turned_drewN (turned_of HB1.out HB3.out _) _, blk_drewN (blk_put HI3.out 0 _ rfl) _⟩
    congr 2
    first | (simp [mayM, *]; done) | (unfold mayM; rw [q1]; simp; rfl)
  · have hd' : is = false ∨ (is = true ∧ ¬ 0 < i) := by cases is <;> simp_all
    have q0 : mayM ps is i = false := by rcases hd' with h | ⟨h1, h2⟩ <;> simp [mayM, *]
    have HM := Aside0.mk q0
    clear q0 hd hin
    rcases hd' with his | ⟨his, hi0⟩
    · subst his
      clear hC ha hi hseek hw
      go_enter Try.func38, Try.ntmps38
      go_upto_region 3 with (first | ((with_reducible refine gate_dst (N := 3) rfl ?_); refine box_event ?hg (N := 3) ?hd (cs := #[.int .i64 ep, .slice A ps.length c]) (t := 24) ?hr ?_; (case hd => rfl); (case hg => rfl); (case hr => first | (go_simp; done) | (go_simp; rfl)); intro g3 hg w1 hbox hb; have L3 := Aside0.mk (show w.heap.size ≤ g3 by omega); have BX3 := Aside0.mk hbox; have HB1 := Aside0.mk hb; have HA1 := Aside0.mk (blk_below HA.out hb); have HI1 := Aside0.mk (blk_below HI.out hb); clear hb hbox hg; have hc3_0 : w1.cell? ⟨g3, 0, none⟩ = some (.int .i64 ep) := (blk_cell BX3.out 0).trans rfl; have hc3_1 : w1.cell? ⟨g3, 1, none⟩ = some (.slice A ps.length c) := (blk_cell BX3.out 1).trans rfl; have hca : w1.cell? ⟨ga, 0, none⟩ = some (.string a) := (blk_cell HA1.out 0).trans rfl) | ((with_reducible refine gate_callee (f := 29) rfl ?_); refine goesL_ (some 9) rfl rfl Try.func29 (by kernel_rfl) rfl #[.agg #[.int .i64 ep, .slice A ps.length c], .string a] rfl (by (try simp only [List.map_toArray, List.map_cons, List.map_nil]); first | done | rfl) ?_; (with_reducible refine (atlas_seek.calls k ep _ _ ps a i false _ ?side1 ?side2 HS.out).mono ?_); (case side1 => exact Kd.C_below HC.out (below_step HW.out HB1.out)); (case side2 => exact hc); rintro e w3 ⟨rfl, hb⟩; refine ⟨_, rfl, ?_⟩; have HB3 := Aside0.mk hb; have BX3c := Aside0.mk (blk_below BX3.out hb); have HA3 := Aside0.mk (blk_below HA1.out hb); have HI3 := Aside0.mk (blk_below HI1.out hb); clear hc3_0 hc3_1 hca hb; have hc3_0 : w3.cell? ⟨g3, 0, none⟩ = some (.int .i64 ep) := (blk_cell BX3c.out 0).trans rfl; have hc3_1 : w3.cell? ⟨g3, 1, none⟩ = some (.slice A ps.length c) := (blk_cell BX3c.out 1).trans rfl; have hca : w3.cell? ⟨ga, 0, none⟩ = some (.string a) := (blk_cell HA3.out 0).trans rfl; have hci : w3.cell? ⟨gi, 0, none⟩ = some (.int .i64 0) := (blk_cell HI3.out 0).trans rfl; have hfi := blk_frozen HI3.out 0; have hg3 : g3 ≠ gi := by have := L3.out; have := blk_lt HI.out; omega))
      have hzi : (w3.setCell ⟨gi, 0, none⟩ (.int .i64 i)).cell? ⟨gi, 0, none⟩ = some (.int .i64 i) := World.cell?_setCell_same _ _ _ hci
      go_quiet (fail)
      go_wp2
      go_ret
      exact ⟨by rw [HM.out]; rfl, turned_drewN (turned_of HB1.out HB3.out _) _, blk_drewN (blk_put HI3.out 0 _ rfl) _⟩
    · subst his
      have q1 : decide (0 < i) = false := decide_eq_false hi0
      clear hC ha hi hseek hw hi0
      go_enter Try.func38, Try.ntmps38
      go_upto_region 3 with (first | ((with_reducible refine gate_dst (N := 3) rfl ?_); refine box_event ?hg (N := 3) ?hd (cs := #[.int .i64 ep, .slice A ps.length c]) (t := 24) ?hr ?_; (case hd => rfl); (case hg => rfl); (case hr => first | (go_simp; done) | (go_simp; rfl)); intro g3 hg w1 hbox hb; have L3 := Aside0.mk (show w.heap.size ≤ g3 by omega); have BX3 := Aside0.mk hbox; have HB1 := Aside0.mk hb; have HA1 := Aside0.mk (blk_below HA.out hb); have HI1 := Aside0.mk (blk_below HI.out hb); clear hb hbox hg; have hc3_0 : w1.cell? ⟨g3, 0, none⟩ = some (.int .i64 ep) := (blk_cell BX3.out 0).trans rfl; have hc3_1 : w1.cell? ⟨g3, 1, none⟩ = some (.slice A ps.length c) := (blk_cell BX3.out 1).trans rfl; have hca : w1.cell? ⟨ga, 0, none⟩ = some (.string a) := (blk_cell HA1.out 0).trans rfl) | ((with_reducible refine gate_callee (f := 29) rfl ?_); refine goesL_ (some 9) rfl rfl Try.func29 (by kernel_rfl) rfl #[.agg #[.int .i64 ep, .slice A ps.length c], .string a] rfl (by (try simp only [List.map_toArray, List.map_cons, List.map_nil]); first | done | rfl) ?_; (with_reducible refine (atlas_seek.calls k ep _ _ ps a i true _ ?side1 ?side2 HS.out).mono ?_); (case side1 => exact Kd.C_below HC.out (below_step HW.out HB1.out)); (case side2 => exact hc); rintro e w3 ⟨rfl, hb⟩; refine ⟨_, rfl, ?_⟩; have HB3 := Aside0.mk hb; have BX3c := Aside0.mk (blk_below BX3.out hb); have HA3 := Aside0.mk (blk_below HA1.out hb); have HI3 := Aside0.mk (blk_below HI1.out hb); clear hc3_0 hc3_1 hca hb; have hc3_0 : w3.cell? ⟨g3, 0, none⟩ = some (.int .i64 ep) := (blk_cell BX3c.out 0).trans rfl; have hc3_1 : w3.cell? ⟨g3, 1, none⟩ = some (.slice A ps.length c) := (blk_cell BX3c.out 1).trans rfl; have hca : w3.cell? ⟨ga, 0, none⟩ = some (.string a) := (blk_cell HA3.out 0).trans rfl; have hci : w3.cell? ⟨gi, 0, none⟩ = some (.int .i64 0) := (blk_cell HI3.out 0).trans rfl; have hfi := blk_frozen HI3.out 0; have hg3 : g3 ≠ gi := by have := L3.out; have := blk_lt HI.out; omega))
      have hzi : (w3.setCell ⟨gi, 0, none⟩ (.int .i64 i)).cell? ⟨gi, 0, none⟩ = some (.int .i64 i) := World.cell?_setCell_same _ _ _ hci
      go_quiet (fail)
      go_wp2
      go_ret
      exact ⟨by rw [HM.out]; rfl, turned_drewN (turned_of HB1.out HB3.out _) _, blk_drewN (blk_put HI3.out 0 _ rfl) _⟩
set_option maxHeartbeats 4000000 in
set_option maxRecDepth 100000 in
theorem merge2 (w : World) (base : Nat) (v : Value) (xs : List S46) (hS : Kd.R k46 46 w base (fun _ => True) v xs) (gi i : Nat) (hi : w.heap[gi]? = some (.cells #[.int .i64 (i : Int)] 3 (0, 0))) (hin : i < xs.length) (hl : xs.length ≤ 8) :
    Calls Try.prog 39 #[v, .pointer (some ⟨gi, 0, none⟩)] w fun e w' => ∃ v', e = .returned v' ∧ Kd.R k46 46 w' base (fun _ => True) v' (xs.take i ++ xs.drop (i + 1)) ∧ Below base w w' := by
  have HI := Aside0.mk (delete_part w base v xs hS i hin (by omega))
  obtain ⟨A, c, rfl⟩ := Kd.R_slice hS
  have hci : w.cell? ⟨gi, 0, none⟩ = some (.int .i64 (i : Int)) := (blk_cell hi 0).trans rfl
  obtain ⟨q7, q8⟩ : wrap64 ((i : Int) + 1) = (i : Int) + 1 ∧ IntKind.i64.wrap ((i : Int) + 1) = (i : Int) + 1 := ⟨Go.IntWalk.wrap64_in _ (by omega), by rw [IntKind.wrap_i64]; omega⟩
  clear hS hin hl hi
  go_enter Try.func39, Try.ntmps39
  go_wp2_with (first | ((with_reducible refine gate_callee (f := 40) rfl ?_); refine goesL_ (some 8) rfl rfl Try.func40 (by kernel_rfl) rfl #[.slice A xs.length c, .int .i64 (i : Int), .int .i64 ((i : Int) + 1)] rfl (by (try simp only [List.map_toArray, List.map_cons, List.map_nil]); first | done | rfl) ?_; (with_reducible refine HI.out.mono ?_); rintro e w3 ⟨v', rfl, hR, hB⟩; refine ⟨_, rfl, ?_⟩; have HR := Aside0.mk hR; have HB := Aside0.mk hB; clear hR hB))
  go_ret
  exact ⟨_, rfl, HR.out, HB.out⟩
theorem rowP_set : ∀ (xs : List S46) (i : Nat) (n : Int), i < xs.length → (rowP xs).set (i * 2 + 1) (.int .i64 n) = rowP (xs.set i ⟨(rd_T46 xs i).f0, n⟩)
  | [], i, n, h => by simp at h
  | x :: t, 0, n, h => by simp [rowP, cellsP, rd_T46]
  | x :: t, i + 1, n, h => by
    have ih := rowP_set t i n (by simpa using h)
    have e : rd_T46 (x :: t) ((i + 1 : Nat) : Int) = rd_T46 t (i : Int) := by
      unfold rd_T46
      rw [show ((i + 1 : Nat) : Int).toNat = i + 1 by omega, show ((i : Nat) : Int).toNat = i by omega]
      rfl
    rw [e, show (i + 1) * 2 + 1 = i * 2 + 1 + 1 + 1 by omega]
    simp only [rowP, List.flatMap_cons, cellsP, List.set_cons_succ, List.cons_append, List.nil_append] at *
    rw [ih]
theorem take_set_lt {α : Type} (l : List α) (i n : Nat) (v : α) (h : i < n) : (l.set i v).take n = (l.take n).set i v := by
  rw [List.take_set]
set_option maxHeartbeats 4000000 in
set_option maxRecDepth 100000 in
theorem move2 (w : World) (base : Nat) (v : Value) (xs : List S46) (hS : Kd.R k46 46 w base (fun _ => True) v xs) (gn gi i : Nat) (n : Int) (hn : w.heap[gn]? = some (.cells #[.int .i64 n] 3 (0, 0))) (hi : w.heap[gi]? = some (.cells #[.int .i64 (i : Int)] 3 (0, 0))) (hin : i < xs.length) (hl : xs.length ≤ 8) (hb : base ≤ w.heap.size) :
    Calls Try.prog 42 #[v, .pointer (some ⟨gn, 0, none⟩), .pointer (some ⟨gi, 0, none⟩)] w fun e w' => ∃ v', e = .returned v' ∧ Kd.R k46 46 w' base (fun _ => True) v' (xs.set i ⟨(rd_T46 xs i).f0, n⟩) ∧ Below base w w' := by
  rcases R_cells hS with ⟨_, h⟩ | ⟨g, c, cur, rfl, _, hg, hh, hc, hm, hs, ht⟩
  · subst h; simp at hin
  · have hx := row_cell hh 0 (rowP xs) (by rw [List.drop_zero, rowP_len]; exact ht) (i * 2 + 1) (.int .i64 (rd_T46 xs i).f1) (by
      rw [show rowP xs = rowP (xs.take i) ++ rowP (xs.drop i) by rw [← rowP_app, List.take_append_drop], List.getElem?_append_right (by rw [rowP_len, List.length_take]; omega), rowP_len, List.length_take, Nat.min_eq_left (by omega), show i * 2 + 1 - i * 2 = 1 by omega, List.drop_eq_getElem_cons hin]
      have e1 : rd_T46 xs (i : Int) = xs[i] := by simp [rd_T46, List.getD_eq_getElem?_getD, List.getElem?_eq_getElem hin]
      rw [e1]
      rfl)
    rw [add_plain] at hx
    have hcn : w.cell? ⟨gn, 0, none⟩ = some (.int .i64 n) := (blk_cell hn 0).trans rfl
    have hci : w.cell? ⟨gi, 0, none⟩ = some (.int .i64 (i : Int)) := (blk_cell hi 0).trans rfl
    have hf := blk_frozen hh (i * 2 + 1)
    have q2 : (0 ≤ (i : Int)) = True := eq_true (by omega)
    have q3 : ((i : Int) < (xs.length : Int)) = True := eq_true (by omega)
    have q4 : (i < xs.length) = True := eq_true (by omega)
    have hu46 := Try.underlying46
    have HR := Aside0.mk (⟨hg, hh, hc, hm, hs, ht, hin⟩ : base ≤ g ∧ w.heap[g]? = some (.cells cur 46 (0, 0)) ∧ xs.length ≤ c ∧ c ≤ maxLen ∧ cur.size = c * 2 ∧ cur.toList.take (xs.length * 2) = rowP xs ∧ i < xs.length)
    clear hS hg hh hc hm hs ht hin hn hi
    go_enter Try.func42, Try.ntmps42
    go_wp2
    go_ret
    obtain ⟨hg, hh, hc, hm, hs, ht, hin⟩ := HR.out
    refine ⟨_, rfl, ?_, (Below.refl _ _).setCell hg _⟩
    have hl' : (xs.set i ⟨(rd_T46 xs i).f0, n⟩).length = xs.length := List.length_set
    have := cells_R (w := w.setCell ⟨g, i * 2 + 1, none⟩ (.int .i64 n)) (base := base) (ok := fun _ => True) (xs := xs.set i ⟨(rd_T46 xs i).f0, n⟩) (c := c) trivial hg (blk_set hh (i * 2 + 1) (.int .i64 n)) (by rw [hl']; exact hc) hm (by simpa using hs) (by rw [hl', ← rowP_set xs i n hin, ← ht, Array.toList_setIfInBounds, take_set_lt _ _ _ _ (by omega)])
    rw [hl'] at this
    exact this
theorem ret_bool {a b : Bool} (h : a = b) : Ending.returned (.bool a) = .returned (.bool b) := by rw [h]
def nodeB (n : Int) : Bool := decide (n ≥ 1) && decide (n ≤ 4)
theorem node_same (n : Int) (w : World) : Calls Try.prog 30 #[.int .i64 n] w fun e w' => e = .returned (.bool (nodeB n)) ∧ w' = w := by
  go_enter Try.func30, Try.ntmps30
  go_wp2
  all_goals go_ret
  all_goals exact ⟨by congr 2; simp [nodeB, *]; try omega, rfl⟩
theorem node_at (n : Int) (b : Bool) (h : nodeB n = b) (w : World) : Calls Try.prog 30 #[.int .i64 n] w fun e w' => e = .returned (.bool b) ∧ w' = w := h ▸ node_same n w
def mayV (ps : List S46) (n i : Int) : Bool := nodeB n && decide (¬ (rd_T46 ps i).f1 = n)
set_option maxHeartbeats 4000000 in
set_option maxRecDepth 100000 in
theorem may_move (w0 w : World) (hw : Below w0.heap.size w0 w) (ep : Int) (A : Option Addr) (c : Nat) (ps : List S46) (hC : Kd.C k46 w0 A ps.length ps) (hc : ps.length ≤ c) (k : Nat) (a : ByteArray) (n i : Int) (hfind : atlas_Find.f k ep ps a = some (i, true)) (ga gi gn : Nat) (ha : w.heap[ga]? = some (.cells #[.string a] 9 (0, 0))) (hi : w.heap[gi]? = some (.cells #[.int .i64 0] 3 (0, 0))) (hn : w.heap[gn]? = some (.cells #[.int .i64 n] 3 (0, 0))) (hni : gn ≠ gi) (hgi : w0.heap.size ≤ gi) (hi0 : 0 ≤ i) (hi1 : i < ps.length) (hl : ps.length ≤ 8) :
    Calls Try.prog 41 #[.agg #[.int .i64 ep, .slice A ps.length c], .pointer (some ⟨ga, 0, none⟩), .pointer (some ⟨gi, 0, none⟩), .pointer (some ⟨gn, 0, none⟩)] w fun e w' => e = .returned (.bool (mayV ps n i)) ∧ Turned gi w w' ∧ w'.heap[gi]? = some (.cells #[.int .i64 i] 3 (0, 0)) := by
  have hu24 := Try.underlying24
  have hu46 := Try.underlying46
  have HC := Aside0.mk hC
  have HA := Aside0.mk ha
  have HI := Aside0.mk hi
  have HN := Aside0.mk hn
  have HS := Aside0.mk hfind
  have HW := Aside0.mk hw
  have mixed : Try.prog.follows Departure.mixedOrders = true := by kernel_rfl
  have hne : ga ≠ gi := blk_ne ha hi (by decide)
  obtain ⟨ad, e, hx0, hx1⟩ := at_T46 hC i (by omega) hi1
  have HE := Aside0.mk e
  have HX := Aside0.mk hx1
  have q2 : (0 ≤ i) = True := eq_true (by omega)
  have q3 : (i < (ps.length : Int)) = True := eq_true hi1
  clear hC ha hi hn hfind hw hx0 hx1 e hi0 hi1
  go_enter Try.func41, Try.ntmps41
  go_upto_region 2 with (first | ((with_reducible refine gate_dst (N := 4) rfl ?_); refine box_event ?hg (N := 4) ?hd (cs := #[.int .i64 ep, .slice A ps.length c]) (t := 24) ?hr ?_; (case hd => rfl); (case hg => rfl); (case hr => first | (go_simp; done) | (go_simp; rfl)); intro g3 hg w1 hbox hb; have L3 := Aside0.mk (show w.heap.size ≤ g3 by omega); have BX3 := Aside0.mk hbox; have HB1 := Aside0.mk hb; have HA1 := Aside0.mk (blk_below HA.out hb); have HI1 := Aside0.mk (blk_below HI.out hb); have HN1 := Aside0.mk (blk_below HN.out hb); clear hb hbox hg; have hc3_0 : w1.cell? ⟨g3, 0, none⟩ = some (.int .i64 ep) := (blk_cell BX3.out 0).trans rfl; have hc3_1 : w1.cell? ⟨g3, 1, none⟩ = some (.slice A ps.length c) := (blk_cell BX3.out 1).trans rfl; have hca : w1.cell? ⟨ga, 0, none⟩ = some (.string a) := (blk_cell HA1.out 0).trans rfl) | ((with_reducible refine gate_callee (f := 11) rfl ?_); refine goesL_ (some 9) rfl rfl Try.func11 (by kernel_rfl) rfl #[.agg #[.int .i64 ep, .slice A ps.length c], .string a] rfl (by (try simp only [List.map_toArray, List.map_cons, List.map_nil]); first | done | rfl) ?_; (with_reducible refine (atlas_Find.calls k ep _ _ ps a i true _ ?side1 ?side2 HS.out).mono ?_); (case side1 => exact Kd.C_below HC.out (below_step HW.out HB1.out)); (case side2 => exact hc); rintro e w3 ⟨rfl, hb⟩; refine ⟨_, rfl, ?_⟩; have HB3 := Aside0.mk hb; have BX3c := Aside0.mk (blk_below BX3.out hb); have HA3 := Aside0.mk (blk_below HA1.out hb); have HI3 := Aside0.mk (blk_below HI1.out hb); have HN3 := Aside0.mk (blk_below HN1.out hb); clear hc3_0 hc3_1 hca hb; have hc3_0 : w3.cell? ⟨g3, 0, none⟩ = some (.int .i64 ep) := (blk_cell BX3c.out 0).trans rfl; have hc3_1 : w3.cell? ⟨g3, 1, none⟩ = some (.slice A ps.length c) := (blk_cell BX3c.out 1).trans rfl; have hca : w3.cell? ⟨ga, 0, none⟩ = some (.string a) := (blk_cell HA3.out 0).trans rfl; have hci : w3.cell? ⟨gi, 0, none⟩ = some (.int .i64 0) := (blk_cell HI3.out 0).trans rfl; have hfi := blk_frozen HI3.out 0; have hg3 : g3 ≠ gi := by have := L3.out; have := blk_lt HI.out; omega))
  have e := HE.out
  clear HE
  subst e
  have HBB := Aside0.mk ((below_step (below_step HW.out HB1.out) HB3.out).setCell (p := ⟨gi, 0, none⟩) hgi (.int .i64 i))
  have hz1 := (HBB.out.cell (World.block_lt_of_cell? w0 _ HX.out)).trans HX.out
  have hzi : (w3.setCell ⟨gi, 0, none⟩ (.int .i64 i)).cell? ⟨gi, 0, none⟩ = some (.int .i64 i) := World.cell?_setCell_same _ _ _ hci
  have hcn : w3.cell? ⟨gn, 0, none⟩ = some (.int .i64 n) := (blk_cell HN3.out 0).trans rfl
  cases hb : nodeB n with
  | true =>
    go_quiet ((go_at_call 30; exact Calls.quiet_of_same (node_at n _ hb _)))
    go_wp2
    go_ret
    exact ⟨ret_bool (a := ((rd_T46 ps i).f1 != n)) (by unfold mayV; rw [hb, Bool.eq_iff_iff]; simp), turned_drewN (turned_of HB1.out HB3.out _) _, blk_drewN (blk_put HI3.out 0 _ rfl) _⟩
  | false =>
    go_quiet ((go_at_call 30; exact Calls.quiet_of_same (node_at n _ hb _)))
    go_wp2
    go_ret
    exact ⟨ret_bool (a := false) (by unfold mayV; rw [hb]; rfl), turned_drewN (turned_of HB1.out HB3.out _) _, blk_drewN (blk_put HI3.out 0 _ rfl) _⟩
end Go.Proofs.Ytmgjccpolkhhhaa.Ig
