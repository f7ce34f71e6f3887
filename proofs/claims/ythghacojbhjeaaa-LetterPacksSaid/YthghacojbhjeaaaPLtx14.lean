-- Written by a program of this session for this claim (mp.py, over the kit's print); Lean checks it.
import Derived.Test.YthghacojbhjeaaaPLtx0
import Derived.Test.YthghacojbhjeaaaPLtx7
import Derived.Test.YthghacojbhjeaaaPLtx12
import Derived.Test.YthghacojbhjeaaaPLtx13
namespace Go.Proofs.Ythghacojbhjeaaa.PLt
open Go.RowKit Go.Proofs.YthghacojbhjeaaaW.PrintWords Go.Proofs.YthghacojbhjeaaaW.PrintLast Go.Proofs.YthghacojbhjeaaaW.PrintMore Go.Proofs.Ythghacojbhjeaaa.Fv Go.Proofs.Ythghacojbhjeaaa.Hl
attribute [local go_sem] max2_int min2_int max_two min_two max_three min_three max_four min_four str_gtr str_leq str_geq cell_set2   -- for this text's walks alone
set_option linter.unusedVariables false
set_option linter.unusedSimpArgs false

/-! ### shelfmarkref13_Pack: its contract -/
set_option maxHeartbeats 8000000 in
set_option maxRecDepth 100000 in
theorem shelfmarkref13_Pack.calls (k : Nat) (a0_0 : Int) (a0_1 : Int) (a0_2 : Int) (a0_3 : Int) (a0_4 : Int) (a0_5 : Int) (a0_6 : Int) (a0_7 : ByteArray) (a0_8 : ByteArray) (A0_9 : Option Addr) (c0_9 : Nat) (l0_9 : List (S39)) (A0_10 : Option Addr) (c0_10 : Nat) (l0_10 : List (S41)) (a0_11 : Int) (a0_12 : Bool) (a0_13 : ByteArray) (r1 : ByteArray) (r2 : Int) (w : World) (hr0_9 : Kd.C k39 w A0_9 l0_9.length l0_9) (hc0_9 : l0_9.length ≤ c0_9) (hr0_10 : Kd.C k41 w A0_10 l0_10.length l0_10) (hc0_10 : l0_10.length ≤ c0_10) (h : shelfmarkref13_Pack.f k a0_0 a0_1 a0_2 a0_3 a0_4 a0_5 a0_6 a0_7 a0_8 l0_9 l0_10 a0_11 a0_12 a0_13 = some (r1, r2)) :
  Calls Try.prog 13 #[.agg #[.int .i64 a0_0, .int .i64 a0_1, .int .i64 a0_2, .int .i64 a0_3, .int .i64 a0_4, .int .i64 a0_5, .int .i64 a0_6, .string a0_7, .string a0_8, .slice A0_9 l0_9.length c0_9, .slice A0_10 l0_10.length c0_10, .int .i64 a0_11, .bool a0_12, .string a0_13]] w fun e w' => e = .returned (.tuple #[.string r1, .int .i64 r2]) ∧ Below w.heap.size w w' := by
 have hu27 := Try.underlying27
 have HR0_9 := Aside0.mk hr0_9
 have HC0_9 := Aside0.mk hc0_9
 clear hr0_9 hc0_9
 have HR0_10 := Aside0.mk hr0_10
 have HC0_10 := Aside0.mk hc0_10
 clear hr0_10 hc0_10
 have HB := Aside0.mk (Below.refl w.heap.size w)
 have H : (if a0_0 < 0 then (shelfmarkref13_Pack.j0 k true a0_0 a0_1 a0_2 a0_3 a0_4 a0_5 a0_6 a0_7 a0_8 l0_9 l0_10 a0_11 a0_12 a0_13) else (shelfmarkref13_Pack.j0 k (decide (a0_0 > 255)) a0_0 a0_1 a0_2 a0_3 a0_4 a0_5 a0_6 a0_7 a0_8 l0_9 l0_10 a0_11 a0_12 a0_13)) = some (r1, r2) := h
 clear h
 have HC2 := Aside0.mk H
 clear H
 go_enter Try.func13, Try.ntmps13
 go_upto_region 1 with (first | ((with_reducible refine gate_dst (N := 1) rfl ?_); (try (refine gate_guard (by rfl) ?_; dsimp only)); refine box_event ?hg (N := 1) ?hd (cs := #[.int .i64 a0_0, .int .i64 a0_1, .int .i64 a0_2, .int .i64 a0_3, .int .i64 a0_4, .int .i64 a0_5, .int .i64 a0_6, .string a0_7, .string a0_8, .slice A0_9 l0_9.length c0_9, .slice A0_10 l0_10.length c0_10, .int .i64 a0_11, .bool a0_12, .string a0_13]) (t := 27) ?hr ?_; (case hd => rfl); (case hg => rfl); (case hr => first | (go_simp; done) | (go_simp; rfl)); intro gb263 hg w3 hbox hb; have n0_ := Aside0.mk (below_step (hL HB.out) hb); have n1_ := Aside0.mk (hbox); have n2_ := Above.mk ((by rw [hg]; exact (below_size (hL HB.out)) : w.heap.size ≤ gb263)); have n3_ := Above.mk ((by rw [hg]; exact (below_size (hL HB.out)) : w.heap.size ≤ gb263)); clear HB; have HB := n0_; have BK263 := n1_; have GW263 := n2_; have GE263 := n3_; clear n0_ n1_ n2_ n3_; clear hb hbox hg))
 (try simp only [Act.put, sT, sZ, sS])
 go_cut [20] (fun v20 wc => ∃ (kq : Nat) (x20_1 : Bool), v20 = .bool x20_1 ∧ Aside0 (shelfmarkref13_Pack.j0 kq x20_1 a0_0 a0_1 a0_2 a0_3 a0_4 a0_5 a0_6 a0_7 a0_8 l0_9 l0_10 a0_11 a0_12 a0_13 = some (r1, r2)) ∧ Aside0 (kq ≤ k) ∧ Aside0 (wc.heap[gb263]? = some (.cells #[.int .i64 a0_0, .int .i64 a0_1, .int .i64 a0_2, .int .i64 a0_3, .int .i64 a0_4, .int .i64 a0_5, .int .i64 a0_6, .string a0_7, .string a0_8, (.slice A0_9 l0_9.length c0_9), (.slice A0_10 l0_10.length c0_10), .int .i64 a0_11, .bool a0_12, .string a0_13] 27 (0, 0))) ∧ Aside0 (Below w.heap.size w wc))
 case first =>
  have H := HC2.out
  clear HC2
  by_cases c4 : a0_0 < 0
  ·rw [if_pos c4] at H
   have c4b0 : decide (a0_0 < 0) = true := decide_eq_true c4
   clear c4
   (first | rw [c4b0] | (simp only [i64_w, i32_w]; rw [c4b0]) | skip)
   have H' := Aside0.mk H
   clear H
   have hcz5_0 : w3.cell? ⟨gb263, 0, none⟩ = some (.int .i64 a0_0) := (blk_cell BK263.out 0).trans rfl
   have hcz5_1 : w3.cell? ⟨gb263, 1, none⟩ = some (.int .i64 a0_1) := (blk_cell BK263.out 1).trans rfl
   have hcz5_2 : w3.cell? ⟨gb263, 2, none⟩ = some (.int .i64 a0_2) := (blk_cell BK263.out 2).trans rfl
   have hcz5_3 : w3.cell? ⟨gb263, 3, none⟩ = some (.int .i64 a0_3) := (blk_cell BK263.out 3).trans rfl
   have hcz5_4 : w3.cell? ⟨gb263, 4, none⟩ = some (.int .i64 a0_4) := (blk_cell BK263.out 4).trans rfl
   have hcz5_5 : w3.cell? ⟨gb263, 5, none⟩ = some (.int .i64 a0_5) := (blk_cell BK263.out 5).trans rfl
   have hcz5_6 : w3.cell? ⟨gb263, 6, none⟩ = some (.int .i64 a0_6) := (blk_cell BK263.out 6).trans rfl
   have hcz5_7 : w3.cell? ⟨gb263, 7, none⟩ = some (.string a0_7) := (blk_cell BK263.out 7).trans rfl
   have hcz5_8 : w3.cell? ⟨gb263, 8, none⟩ = some (.string a0_8) := (blk_cell BK263.out 8).trans rfl
   have hcz5_9 : w3.cell? ⟨gb263, 9, none⟩ = some (.slice A0_9 l0_9.length c0_9) := (blk_cell BK263.out 9).trans rfl
   have hcz5_10 : w3.cell? ⟨gb263, 10, none⟩ = some (.slice A0_10 l0_10.length c0_10) := (blk_cell BK263.out 10).trans rfl
   have hcz5_11 : w3.cell? ⟨gb263, 11, none⟩ = some (.int .i64 a0_11) := (blk_cell BK263.out 11).trans rfl
   have hcz5_12 : w3.cell? ⟨gb263, 12, none⟩ = some (.bool a0_12) := (blk_cell BK263.out 12).trans rfl
   have hcz5_13 : w3.cell? ⟨gb263, 13, none⟩ = some (.string a0_13) := (blk_cell BK263.out 13).trans rfl
   have hfz5_0 := blk_frozen BK263.out 0
   have hfz5_1 := blk_frozen BK263.out 1
   have hfz5_2 := blk_frozen BK263.out 2
   have hfz5_3 := blk_frozen BK263.out 3
   have hfz5_4 := blk_frozen BK263.out 4
   have hfz5_5 := blk_frozen BK263.out 5
   have hfz5_6 := blk_frozen BK263.out 6
   have hfz5_7 := blk_frozen BK263.out 7
   have hfz5_8 := blk_frozen BK263.out 8
   have hfz5_9 := blk_frozen BK263.out 9
   have hfz5_10 := blk_frozen BK263.out 10
   have hfz5_11 := blk_frozen BK263.out 11
   have hfz5_12 := blk_frozen BK263.out 12
   have hfz5_13 := blk_frozen BK263.out 13
   go_wp2
   go_meet
   case rel => exact ⟨_, (true), (by first | rfl | (simp; done) | (simp [*]; done) | (simp [ne_nil_bytes]; done) | (simp [eq_nil_bytes]; done)), H', ⟨by first | omega | exact Nat.le_refl _⟩, ⟨by exact bL BK263.out⟩, ⟨hL HB.out⟩⟩
  rw [if_neg c4] at H
  have c4b0 : decide (a0_0 < 0) = false := decide_eq_false c4
  clear c4
  (first | rw [c4b0] | (simp only [i64_w, i32_w]; rw [c4b0]) | skip)
  have H' := Aside0.mk H
  clear H
  have hcz6_0 : w3.cell? ⟨gb263, 0, none⟩ = some (.int .i64 a0_0) := (blk_cell BK263.out 0).trans rfl
  have hcz6_1 : w3.cell? ⟨gb263, 1, none⟩ = some (.int .i64 a0_1) := (blk_cell BK263.out 1).trans rfl
  have hcz6_2 : w3.cell? ⟨gb263, 2, none⟩ = some (.int .i64 a0_2) := (blk_cell BK263.out 2).trans rfl
  have hcz6_3 : w3.cell? ⟨gb263, 3, none⟩ = some (.int .i64 a0_3) := (blk_cell BK263.out 3).trans rfl
  have hcz6_4 : w3.cell? ⟨gb263, 4, none⟩ = some (.int .i64 a0_4) := (blk_cell BK263.out 4).trans rfl
  have hcz6_5 : w3.cell? ⟨gb263, 5, none⟩ = some (.int .i64 a0_5) := (blk_cell BK263.out 5).trans rfl
  have hcz6_6 : w3.cell? ⟨gb263, 6, none⟩ = some (.int .i64 a0_6) := (blk_cell BK263.out 6).trans rfl
  have hcz6_7 : w3.cell? ⟨gb263, 7, none⟩ = some (.string a0_7) := (blk_cell BK263.out 7).trans rfl
  have hcz6_8 : w3.cell? ⟨gb263, 8, none⟩ = some (.string a0_8) := (blk_cell BK263.out 8).trans rfl
  have hcz6_9 : w3.cell? ⟨gb263, 9, none⟩ = some (.slice A0_9 l0_9.length c0_9) := (blk_cell BK263.out 9).trans rfl
  have hcz6_10 : w3.cell? ⟨gb263, 10, none⟩ = some (.slice A0_10 l0_10.length c0_10) := (blk_cell BK263.out 10).trans rfl
  have hcz6_11 : w3.cell? ⟨gb263, 11, none⟩ = some (.int .i64 a0_11) := (blk_cell BK263.out 11).trans rfl
  have hcz6_12 : w3.cell? ⟨gb263, 12, none⟩ = some (.bool a0_12) := (blk_cell BK263.out 12).trans rfl
  have hcz6_13 : w3.cell? ⟨gb263, 13, none⟩ = some (.string a0_13) := (blk_cell BK263.out 13).trans rfl
  have hfz6_0 := blk_frozen BK263.out 0
  have hfz6_1 := blk_frozen BK263.out 1
  have hfz6_2 := blk_frozen BK263.out 2
  have hfz6_3 := blk_frozen BK263.out 3
  have hfz6_4 := blk_frozen BK263.out 4
  have hfz6_5 := blk_frozen BK263.out 5
  have hfz6_6 := blk_frozen BK263.out 6
  have hfz6_7 := blk_frozen BK263.out 7
  have hfz6_8 := blk_frozen BK263.out 8
  have hfz6_9 := blk_frozen BK263.out 9
  have hfz6_10 := blk_frozen BK263.out 10
  have hfz6_11 := blk_frozen BK263.out 11
  have hfz6_12 := blk_frozen BK263.out 12
  have hfz6_13 := blk_frozen BK263.out 13
  go_wp2
  go_meet
  case rel => exact ⟨_, (decide (a0_0 > 255)), (by first | rfl | (simp; done) | (simp [*]; done) | (simp [ne_nil_bytes]; done) | (simp [eq_nil_bytes]; done)), H', ⟨by first | omega | exact Nat.le_refl _⟩, ⟨by exact bL BK263.out⟩, ⟨hL HB.out⟩⟩
 as_aux_lemma =>
  clear HC2
  (try clear c1); (try clear p2); (try clear c4); (try clear c4b0); (try clear c4b0z); (try clear hcz5_0 hcz5_1 hcz5_10 hcz5_11 hcz5_12 hcz5_13 hcz5_2 hcz5_3 hcz5_4 hcz5_5 hcz5_6 hcz5_7 hcz5_8 hcz5_9); (try clear hcz6_0 hcz6_1 hcz6_10 hcz6_11 hcz6_12 hcz6_13 hcz6_2 hcz6_3 hcz6_4 hcz6_5 hcz6_6 hcz6_7 hcz6_8 hcz6_9); (try clear hfz5_0 hfz5_1 hfz5_10 hfz5_11 hfz5_12 hfz5_13 hfz5_2 hfz5_3 hfz5_4 hfz5_5 hfz5_6 hfz5_7 hfz5_8 hfz5_9); (try clear hfz6_0 hfz6_1 hfz6_10 hfz6_11 hfz6_12 hfz6_13 hfz6_2 hfz6_3 hfz6_4 hfz6_5 hfz6_6 hfz6_7 hfz6_8 hfz6_9)
  obtain ⟨kq, x20_1, rfl, HA, HJ1, BK263, HB⟩ := hcut
  rcases kq with _ | kj1
  ·exact absurd HA.out (by simp [shelfmarkref13_Pack.j0])
  have H := HA.out
  clear HA
  simp only [shelfmarkref13_Pack.j0] at H
  by_cases c7 : x20_1 = true
  ·subst c7
   have H1 : (some ((⟨#[]⟩ : ByteArray), 1)) = some (r1, r2) := by rw [if_pos rfl] at H; exact H
   clear H
   have H := H1
   clear H1
   simp only [Option.some.injEq, Prod.mk.injEq] at H
   obtain ⟨rfl, rfl⟩ := H
   go_wp2
   go_ret2
   exact ⟨by first | rfl | (simp [errW_none, errW_some] <;> rfl) | (simp [*, errW_none, errW_some] <;> rfl), hL HB.out⟩
  replace c7 := Bool.eq_false_iff.mpr c7
  subst c7
  have H1 : ((shelfmarkref13_numbers.f a0_0 a0_1 a0_2 a0_3 a0_4 a0_5 a0_6 a0_7 a0_8 l0_9 l0_10 a0_11 a0_12 a0_13).bind fun t264 => (shelfmarkref13_Pack.l0 kj1 t264 0 a0_0 a0_1 a0_2 a0_3 a0_4 a0_5 a0_6 a0_7 a0_8 l0_9 l0_10 a0_11 a0_12 a0_13)) = some (r1, r2) := by rw [if_neg (show ¬ (false = true) by decide)] at H; exact H
  clear H
  have H := H1
  clear H1
  replace H := Option.bind_eq_some_iff.mp H
  obtain ⟨t264, A80, H⟩ := H
  replace H : (shelfmarkref13_Pack.l0 kj1 t264 0 a0_0 a0_1 a0_2 a0_3 a0_4 a0_5 a0_6 a0_7 a0_8 l0_9 l0_10 a0_11 a0_12 a0_13) = some (r1, r2) := H
  have A8 := Aside0.mk A80
  clear A80
  have H' := Aside0.mk H
  clear H
  have hcz9_0 : wc.cell? ⟨gb263, 0, none⟩ = some (.int .i64 a0_0) := (blk_cell BK263.out 0).trans rfl
  have hcz9_1 : wc.cell? ⟨gb263, 1, none⟩ = some (.int .i64 a0_1) := (blk_cell BK263.out 1).trans rfl
  have hcz9_2 : wc.cell? ⟨gb263, 2, none⟩ = some (.int .i64 a0_2) := (blk_cell BK263.out 2).trans rfl
  have hcz9_3 : wc.cell? ⟨gb263, 3, none⟩ = some (.int .i64 a0_3) := (blk_cell BK263.out 3).trans rfl
  have hcz9_4 : wc.cell? ⟨gb263, 4, none⟩ = some (.int .i64 a0_4) := (blk_cell BK263.out 4).trans rfl
  have hcz9_5 : wc.cell? ⟨gb263, 5, none⟩ = some (.int .i64 a0_5) := (blk_cell BK263.out 5).trans rfl
  have hcz9_6 : wc.cell? ⟨gb263, 6, none⟩ = some (.int .i64 a0_6) := (blk_cell BK263.out 6).trans rfl
  have hcz9_7 : wc.cell? ⟨gb263, 7, none⟩ = some (.string a0_7) := (blk_cell BK263.out 7).trans rfl
  have hcz9_8 : wc.cell? ⟨gb263, 8, none⟩ = some (.string a0_8) := (blk_cell BK263.out 8).trans rfl
  have hcz9_9 : wc.cell? ⟨gb263, 9, none⟩ = some (.slice A0_9 l0_9.length c0_9) := (blk_cell BK263.out 9).trans rfl
  have hcz9_10 : wc.cell? ⟨gb263, 10, none⟩ = some (.slice A0_10 l0_10.length c0_10) := (blk_cell BK263.out 10).trans rfl
  have hcz9_11 : wc.cell? ⟨gb263, 11, none⟩ = some (.int .i64 a0_11) := (blk_cell BK263.out 11).trans rfl
  have hcz9_12 : wc.cell? ⟨gb263, 12, none⟩ = some (.bool a0_12) := (blk_cell BK263.out 12).trans rfl
  have hcz9_13 : wc.cell? ⟨gb263, 13, none⟩ = some (.string a0_13) := (blk_cell BK263.out 13).trans rfl
  have hfz9_0 := blk_frozen BK263.out 0
  have hfz9_1 := blk_frozen BK263.out 1
  have hfz9_2 := blk_frozen BK263.out 2
  have hfz9_3 := blk_frozen BK263.out 3
  have hfz9_4 := blk_frozen BK263.out 4
  have hfz9_5 := blk_frozen BK263.out 5
  have hfz9_6 := blk_frozen BK263.out 6
  have hfz9_7 := blk_frozen BK263.out 7
  have hfz9_8 := blk_frozen BK263.out 8
  have hfz9_9 := blk_frozen BK263.out 9
  have hfz9_10 := blk_frozen BK263.out 10
  have hfz9_11 := blk_frozen BK263.out 11
  have hfz9_12 := blk_frozen BK263.out 12
  have hfz9_13 := blk_frozen BK263.out 13
  go_wp2_with (first | ((with_reducible refine gate_callee (f := 28) rfl ?_); refine goesL_ (some 22) rfl rfl Try.func28 (by as_aux_lemma => kernel_rfl) rfl #[.agg #[.int .i64 a0_0, .int .i64 a0_1, .int .i64 a0_2, .int .i64 a0_3, .int .i64 a0_4, .int .i64 a0_5, .int .i64 a0_6, .string a0_7, .string a0_8, .slice A0_9 l0_9.length c0_9, .slice A0_10 l0_10.length c0_10, .int .i64 a0_11, .bool a0_12, .string a0_13]] rfl (by (try simp only [List.map_toArray, List.map_cons, List.map_nil]); first | done | rfl | (simp only [List.length_drop, List.length_take]; rfl)) ?_; (with_reducible refine (shelfmarkref13_numbers.calls a0_0 a0_1 a0_2 a0_3 a0_4 a0_5 a0_6 a0_7 a0_8 _ _ l0_9 _ _ l0_10 a0_11 a0_12 a0_13 t264 _ ?side1 ?side2 ?side3 ?side4 A8.out).mono ?_); (case side1 => repeat (first | exact (Kd.C_below HR0_9.out HB.out) | (with_reducible refine Kd.C_alloc ?_ _) | (with_reducible refine Kd.C_drewN ?_ _) | (with_reducible refine Kd.C_drew ?_))); (case side2 => exact HC0_9.out); (case side3 => repeat (first | exact (Kd.C_below HR0_10.out HB.out) | (with_reducible refine Kd.C_alloc ?_ _) | (with_reducible refine Kd.C_drewN ?_ _) | (with_reducible refine Kd.C_drew ?_))); (case side4 => exact HC0_10.out); rintro e w10 ⟨v265, rfl, ho0, hb⟩; refine ⟨_, rfl, ?_⟩; have n0_ := Aside0.mk (Kd.R_lower ho0 (below_size (hL HB.out))); have n1_ := Aside0.mk (blk_below (bL BK263.out) hb); have n2_ := Aside0.mk (below_step (hL HB.out) hb); clear BK263; clear HB; have HO266 := n0_; have BK263 := n1_; have HB := n2_; clear n0_ n1_ n2_; (try clear hb); (try clear hb2); (try clear hk); (try clear hi); (try clear ho0)))
  go_loopg [5] kj1 (fun kq v5 w' => ∃ (x5_2 : Int), v5 = .int .i64 x5_2 ∧ Aside0 (shelfmarkref13_Pack.l0 kq t264 x5_2 a0_0 a0_1 a0_2 a0_3 a0_4 a0_5 a0_6 a0_7 a0_8 l0_9 l0_10 a0_11 a0_12 a0_13 = some (r1, r2)) ∧ Aside0 (kq ≤ kj1) ∧ Aside0 (Kd.R (Kd.int .i64) 3 w' w.heap.size (fun _ => True) v265 t264) ∧ Aside0 (w'.heap[gb263]? = some (.cells #[.int .i64 a0_0, .int .i64 a0_1, .int .i64 a0_2, .int .i64 a0_3, .int .i64 a0_4, .int .i64 a0_5, .int .i64 a0_6, .string a0_7, .string a0_8, (.slice A0_9 l0_9.length c0_9), (.slice A0_10 l0_10.length c0_10), .int .i64 a0_11, .bool a0_12, .string a0_13] 27 (0, 0))) ∧ Aside0 (Below w.heap.size w w'))
  case atStart => exact ⟨(0), (by first | rfl | (simp; done) | (simp [*]; done) | (simp [ne_nil_bytes]; done) | (simp [eq_nil_bytes]; done)), H', ⟨Nat.le_refl _⟩, ⟨by exact rL HO266.out⟩, ⟨by exact bL BK263.out⟩, ⟨hL HB.out⟩⟩
  as_aux_lemma =>
   clear H'
   (try clear c1); (try clear c2); (try clear p2 p2); (try clear c4); (try clear c4b0); (try clear c4b0z); (try clear c7); (try clear hcz5_0 hcz5_1 hcz5_10 hcz5_11 hcz5_12 hcz5_13 hcz5_2 hcz5_3 hcz5_4 hcz5_5 hcz5_6 hcz5_7 hcz5_8 hcz5_9); (try clear hcz6_0 hcz6_1 hcz6_10 hcz6_11 hcz6_12 hcz6_13 hcz6_2 hcz6_3 hcz6_4 hcz6_5 hcz6_6 hcz6_7 hcz6_8 hcz6_9); (try clear hcz9_0 hcz9_1 hcz9_10 hcz9_11 hcz9_12 hcz9_13 hcz9_2 hcz9_3 hcz9_4 hcz9_5 hcz9_6 hcz9_7 hcz9_8 hcz9_9); (try clear hfz5_0 hfz5_1 hfz5_10 hfz5_11 hfz5_12 hfz5_13 hfz5_2 hfz5_3 hfz5_4 hfz5_5 hfz5_6 hfz5_7 hfz5_8 hfz5_9); (try clear hfz6_0 hfz6_1 hfz6_10 hfz6_11 hfz6_12 hfz6_13 hfz6_2 hfz6_3 hfz6_4 hfz6_5 hfz6_6 hfz6_7 hfz6_8 hfz6_9); (try clear hfz9_0 hfz9_1 hfz9_10 hfz9_11 hfz9_12 hfz9_13 hfz9_2 hfz9_3 hfz9_4 hfz9_5 hfz9_6 hfz9_7 hfz9_8 hfz9_9)
   obtain ⟨x5_2, rfl, HA, HK2, HO_4, BK263, HB⟩ := hrel
   rcases gk with _ | k2
   ·exact absurd HA.out (by simp [shelfmarkref13_Pack.l0])
   have H := HA.out
   clear HA
   simp only [shelfmarkref13_Pack.l0] at H
   by_cases c11 : x5_2 < (t264.length : Int)
   ·rw [if_pos c11] at H
    have c11b0 : decide (x5_2 < (t264.length : Int)) = true := decide_eq_true c11
    clear c11
    by_cases c12 : 0 ≤ x5_2
    rotate_left
    ·rw [if_neg c12] at H
     exact absurd H (by simp)
    rw [if_pos c12] at H
    have c12b0 : decide (0 ≤ x5_2) = true := decide_eq_true c12
    clear c12
    replace H := Option.bind_eq_some_iff.mp H
    obtain ⟨t268, A130, H⟩ := H
    replace H : (if t268 = true then (shelfmarkref13_Pack.l0 k2 t264 (wrap64 (x5_2 + 1)) a0_0 a0_1 a0_2 a0_3 a0_4 a0_5 a0_6 a0_7 a0_8 l0_9 l0_10 a0_11 a0_12 a0_13) else (some ((⟨#[]⟩ : ByteArray), 1))) = some (r1, r2) := H
    have A13 := Aside0.mk A130
    clear A130
    by_cases c14 : t268 = true
    rotate_left
    ·replace c14 := Bool.eq_false_iff.mpr c14
     subst c14
     have H1 : (some ((⟨#[]⟩ : ByteArray), 1)) = some (r1, r2) := by rw [if_neg (show ¬ (false = true) by decide)] at H; exact H
     clear H
     have H := H1
     clear H1
     simp only [Option.some.injEq, Prod.mk.injEq] at H
     obtain ⟨rfl, rfl⟩ := H
     obtain ⟨Ao16, co16, eo16⟩ := Kd.R_slice HO_4.out
     subst eo16
     have p267 : 0 ≤ (x5_2 : Int) := of_decide_eq_true (by first | (with_reducible assumption) | assumption)
     have q267 : x5_2 < (t264.length : Int) := of_decide_eq_true (by first | (with_reducible assumption) | assumption)
     obtain ⟨ad267, e267, hx267_0⟩ := Kd.at_int (Kd.R_reads' HO_4.out).2.2 x5_2 p267 q267
     cases e267
     replace p267 := eq_true p267
     replace q267 := eq_true q267
     go_wp2_with (first | ((with_reducible refine gate_callee (f := 35) rfl ?_); refine goesL_ (some 33) rfl rfl Try.func35 (by as_aux_lemma => kernel_rfl) rfl #[.int .i64 (rd t264 x5_2)] rfl (by (try simp only [List.map_toArray, List.map_cons, List.map_nil]); first | done | rfl | (simp only [List.length_drop, List.length_take]; rfl)) ?_; (with_reducible refine (shelfmarkref13_number.calls (rd t264 x5_2) false _ A13.out).mono ?_); rintro e w' ⟨rfl, ⟨nd, rfl⟩⟩; refine ⟨_, rfl, ?_⟩))
     go_ret2
     exact ⟨by first | rfl | (simp [errW_none, errW_some] <;> rfl) | (simp [*, errW_none, errW_some] <;> rfl), hL HB.out⟩
    subst c14
    have H1 : (shelfmarkref13_Pack.l0 k2 t264 (wrap64 (x5_2 + 1)) a0_0 a0_1 a0_2 a0_3 a0_4 a0_5 a0_6 a0_7 a0_8 l0_9 l0_10 a0_11 a0_12 a0_13) = some (r1, r2) := by rw [if_pos rfl] at H; exact H
    clear H
    have H := H1
    clear H1
    have H' := Aside0.mk H
    clear H
    obtain ⟨Ao15, co15, eo15⟩ := Kd.R_slice HO_4.out
    subst eo15
    have p267 : 0 ≤ (x5_2 : Int) := of_decide_eq_true (by first | (with_reducible assumption) | assumption)
    have q267 : x5_2 < (t264.length : Int) := of_decide_eq_true (by first | (with_reducible assumption) | assumption)
    obtain ⟨ad267, e267, hx267_0⟩ := Kd.at_int (Kd.R_reads' HO_4.out).2.2 x5_2 p267 q267
    cases e267
    replace p267 := eq_true p267
    replace q267 := eq_true q267
    go_wp2_with (first | ((with_reducible refine gate_callee (f := 35) rfl ?_); refine goesL_ (some 33) rfl rfl Try.func35 (by as_aux_lemma => kernel_rfl) rfl #[.int .i64 (rd t264 x5_2)] rfl (by (try simp only [List.map_toArray, List.map_cons, List.map_nil]); first | done | rfl | (simp only [List.length_drop, List.length_take]; rfl)) ?_; (with_reducible refine (shelfmarkref13_number.calls (rd t264 x5_2) true _ A13.out).mono ?_); rintro e w' ⟨rfl, ⟨nd, rfl⟩⟩; refine ⟨_, rfl, ?_⟩))
    go_roundg k2
    case measure => have := HJ1.out; have := HK2.out; omega
    case rel => exact ⟨(wrap64 (x5_2 + 1)), (by first | rfl | (simp; done) | (simp [*]; done) | (simp [ne_nil_bytes]; done) | (simp [eq_nil_bytes]; done)), H', ⟨by have := HJ1.out; have := HK2.out; omega⟩, ⟨by exact rL HO_4.out⟩, ⟨by exact bL BK263.out⟩, ⟨hL HB.out⟩⟩
   rw [if_neg c11] at H
   have c11b0 : decide (x5_2 < (t264.length : Int)) = false := decide_eq_false c11
   clear c11
   have H' := Aside0.mk H
   clear H
   obtain ⟨Ao17, co17, eo17⟩ := Kd.R_slice HO_4.out
   subst eo17
   go_wp2
   go_loopg [6] k2 (fun kq v6 w' => ∃ (x6_3 : Int), v6 = .int .i64 x6_3 ∧ Aside0 (shelfmarkref13_Pack.l1 kq t264 x6_3 a0_0 a0_1 a0_2 a0_3 a0_4 a0_5 a0_6 a0_7 a0_8 l0_9 l0_10 a0_11 a0_12 a0_13 = some (r1, r2)) ∧ Aside0 (kq ≤ k2) ∧ Aside0 (Kd.R (Kd.int .i64) 3 w' w.heap.size (fun _ => True) (.slice Ao17 t264.length co17) t264) ∧ Aside0 (w'.heap[gb263]? = some (.cells #[.int .i64 a0_0, .int .i64 a0_1, .int .i64 a0_2, .int .i64 a0_3, .int .i64 a0_4, .int .i64 a0_5, .int .i64 a0_6, .string a0_7, .string a0_8, (.slice A0_9 l0_9.length c0_9), (.slice A0_10 l0_10.length c0_10), .int .i64 a0_11, .bool a0_12, .string a0_13] 27 (0, 0))) ∧ Aside0 (Below w.heap.size w w'))
   case atStart => exact ⟨(0), (by first | rfl | (simp; done) | (simp [*]; done) | (simp [ne_nil_bytes]; done) | (simp [eq_nil_bytes]; done)), H', ⟨Nat.le_refl _⟩, ⟨by exact rL HO_4.out⟩, ⟨by exact bL BK263.out⟩, ⟨hL HB.out⟩⟩
   as_aux_lemma =>
    clear H'
    (try clear c1); (try clear c2); (try clear p2 p2); (try clear q2); (try clear hx2); (try clear c3); (try clear c4); (try clear c4b0); (try clear c4b0z); (try clear p6); (try clear c7); (try clear c11); (try clear c11b0); (try clear c11b0z); (try clear c12); (try clear c12b0); (try clear c12b0z); (try clear c13); (try clear c14); (try clear hcz5_0 hcz5_1 hcz5_10 hcz5_11 hcz5_12 hcz5_13 hcz5_2 hcz5_3 hcz5_4 hcz5_5 hcz5_6 hcz5_7 hcz5_8 hcz5_9); (try clear hcz6_0 hcz6_1 hcz6_10 hcz6_11 hcz6_12 hcz6_13 hcz6_2 hcz6_3 hcz6_4 hcz6_5 hcz6_6 hcz6_7 hcz6_8 hcz6_9); (try clear hcz9_0 hcz9_1 hcz9_10 hcz9_11 hcz9_12 hcz9_13 hcz9_2 hcz9_3 hcz9_4 hcz9_5 hcz9_6 hcz9_7 hcz9_8 hcz9_9); (try clear hfz5_0 hfz5_1 hfz5_10 hfz5_11 hfz5_12 hfz5_13 hfz5_2 hfz5_3 hfz5_4 hfz5_5 hfz5_6 hfz5_7 hfz5_8 hfz5_9); (try clear hfz6_0 hfz6_1 hfz6_10 hfz6_11 hfz6_12 hfz6_13 hfz6_2 hfz6_3 hfz6_4 hfz6_5 hfz6_6 hfz6_7 hfz6_8 hfz6_9); (try clear hfz9_0 hfz9_1 hfz9_10 hfz9_11 hfz9_12 hfz9_13 hfz9_2 hfz9_3 hfz9_4 hfz9_5 hfz9_6 hfz9_7 hfz9_8 hfz9_9); (try clear hx267_0); (try clear p267); (try clear q267)
    obtain ⟨x6_3, rfl, HA, HK3, HO_4, BK263, HB⟩ := hrel
    rcases gk with _ | k3
    ·exact absurd HA.out (by simp [shelfmarkref13_Pack.l1])
    have H := HA.out
    clear HA
    simp only [shelfmarkref13_Pack.l1] at H
    by_cases c18 : x6_3 < (l0_10.length : Int)
    ·rw [if_pos c18] at H
     have c18b0 : decide (x6_3 < (l0_10.length : Int)) = true := decide_eq_true c18
     clear c18
     by_cases c19 : 0 ≤ x6_3
     rotate_left
     ·rw [if_neg c19] at H
      exact absurd H (by simp)
     rw [if_pos c19] at H
     have c19b0 : decide (0 ≤ x6_3) = true := decide_eq_true c19
     clear c19
     replace H := Option.bind_eq_some_iff.mp H
     obtain ⟨t270, A200, H⟩ := H
     replace H : (if t270 = true then (shelfmarkref13_Pack.l1 k3 t264 (wrap64 (x6_3 + 1)) a0_0 a0_1 a0_2 a0_3 a0_4 a0_5 a0_6 a0_7 a0_8 l0_9 l0_10 a0_11 a0_12 a0_13) else (some ((⟨#[]⟩ : ByteArray), 1))) = some (r1, r2) := H
     have A20 := Aside0.mk A200
     clear A200
     by_cases c21 : t270 = true
     rotate_left
     ·replace c21 := Bool.eq_false_iff.mpr c21
      subst c21
      have H1 : (some ((⟨#[]⟩ : ByteArray), 1)) = some (r1, r2) := by rw [if_neg (show ¬ (false = true) by decide)] at H; exact H
      clear H
      have H := H1
      clear H1
      simp only [Option.some.injEq, Prod.mk.injEq] at H
      obtain ⟨rfl, rfl⟩ := H
      have hcz23_0 : wr.cell? ⟨gb263, 0, none⟩ = some (.int .i64 a0_0) := (blk_cell BK263.out 0).trans rfl
      have hcz23_1 : wr.cell? ⟨gb263, 1, none⟩ = some (.int .i64 a0_1) := (blk_cell BK263.out 1).trans rfl
      have hcz23_2 : wr.cell? ⟨gb263, 2, none⟩ = some (.int .i64 a0_2) := (blk_cell BK263.out 2).trans rfl
      have hcz23_3 : wr.cell? ⟨gb263, 3, none⟩ = some (.int .i64 a0_3) := (blk_cell BK263.out 3).trans rfl
      have hcz23_4 : wr.cell? ⟨gb263, 4, none⟩ = some (.int .i64 a0_4) := (blk_cell BK263.out 4).trans rfl
      have hcz23_5 : wr.cell? ⟨gb263, 5, none⟩ = some (.int .i64 a0_5) := (blk_cell BK263.out 5).trans rfl
      have hcz23_6 : wr.cell? ⟨gb263, 6, none⟩ = some (.int .i64 a0_6) := (blk_cell BK263.out 6).trans rfl
      have hcz23_7 : wr.cell? ⟨gb263, 7, none⟩ = some (.string a0_7) := (blk_cell BK263.out 7).trans rfl
      have hcz23_8 : wr.cell? ⟨gb263, 8, none⟩ = some (.string a0_8) := (blk_cell BK263.out 8).trans rfl
      have hcz23_9 : wr.cell? ⟨gb263, 9, none⟩ = some (.slice A0_9 l0_9.length c0_9) := (blk_cell BK263.out 9).trans rfl
      have hcz23_10 : wr.cell? ⟨gb263, 10, none⟩ = some (.slice A0_10 l0_10.length c0_10) := (blk_cell BK263.out 10).trans rfl
      have hcz23_11 : wr.cell? ⟨gb263, 11, none⟩ = some (.int .i64 a0_11) := (blk_cell BK263.out 11).trans rfl
      have hcz23_12 : wr.cell? ⟨gb263, 12, none⟩ = some (.bool a0_12) := (blk_cell BK263.out 12).trans rfl
      have hcz23_13 : wr.cell? ⟨gb263, 13, none⟩ = some (.string a0_13) := (blk_cell BK263.out 13).trans rfl
      have hfz23_0 := blk_frozen BK263.out 0
      have hfz23_1 := blk_frozen BK263.out 1
      have hfz23_2 := blk_frozen BK263.out 2
      have hfz23_3 := blk_frozen BK263.out 3
      have hfz23_4 := blk_frozen BK263.out 4
      have hfz23_5 := blk_frozen BK263.out 5
      have hfz23_6 := blk_frozen BK263.out 6
      have hfz23_7 := blk_frozen BK263.out 7
      have hfz23_8 := blk_frozen BK263.out 8
      have hfz23_9 := blk_frozen BK263.out 9
      have hfz23_10 := blk_frozen BK263.out 10
      have hfz23_11 := blk_frozen BK263.out 11
      have hfz23_12 := blk_frozen BK263.out 12
      have hfz23_13 := blk_frozen BK263.out 13
      have p269 : 0 ≤ (x6_3 : Int) := of_decide_eq_true (by first | (with_reducible assumption) | assumption)
      have q269 : x6_3 < (l0_10.length : Int) := of_decide_eq_true (by first | (with_reducible assumption) | assumption)
      obtain ⟨ad269, e269, hx269_0, hx269_1, hx269_2⟩ := at_T41 HR0_10.out x6_3 p269 q269
      cases e269
      replace hx269_0 := (HB.out.cell (World.block_lt_of_cell? w _ hx269_0)).trans hx269_0
      replace hx269_1 := (HB.out.cell (World.block_lt_of_cell? w _ hx269_1)).trans hx269_1
      replace hx269_2 := (HB.out.cell (World.block_lt_of_cell? w _ hx269_2)).trans hx269_2
      replace p269 := eq_true p269
      replace q269 := eq_true q269
      go_wp2_with (first | ((with_reducible refine gate_callee (f := 35) rfl ?_); refine goesL_ (some 48) rfl rfl Try.func35 (by as_aux_lemma => kernel_rfl) rfl #[.int .i64 ((rd_T41 l0_10 x6_3).f1)] rfl (by (try simp only [List.map_toArray, List.map_cons, List.map_nil]); first | done | rfl | (simp only [List.length_drop, List.length_take]; rfl)) ?_; (with_reducible refine (shelfmarkref13_number.calls ((rd_T41 l0_10 x6_3).f1) false _ A20.out).mono ?_); rintro e w' ⟨rfl, ⟨nd, rfl⟩⟩; refine ⟨_, rfl, ?_⟩))
      go_ret2
      exact ⟨by first | rfl | (simp [errW_none, errW_some] <;> rfl) | (simp [*, errW_none, errW_some] <;> rfl), hL HB.out⟩
     subst c21
     have H1 : (shelfmarkref13_Pack.l1 k3 t264 (wrap64 (x6_3 + 1)) a0_0 a0_1 a0_2 a0_3 a0_4 a0_5 a0_6 a0_7 a0_8 l0_9 l0_10 a0_11 a0_12 a0_13) = some (r1, r2) := by rw [if_pos rfl] at H; exact H
     clear H
     have H := H1
     clear H1
     have H' := Aside0.mk H
     clear H
     have hcz22_0 : wr.cell? ⟨gb263, 0, none⟩ = some (.int .i64 a0_0) := (blk_cell BK263.out 0).trans rfl
     have hcz22_1 : wr.cell? ⟨gb263, 1, none⟩ = some (.int .i64 a0_1) := (blk_cell BK263.out 1).trans rfl
     have hcz22_2 : wr.cell? ⟨gb263, 2, none⟩ = some (.int .i64 a0_2) := (blk_cell BK263.out 2).trans rfl
     have hcz22_3 : wr.cell? ⟨gb263, 3, none⟩ = some (.int .i64 a0_3) := (blk_cell BK263.out 3).trans rfl
     have hcz22_4 : wr.cell? ⟨gb263, 4, none⟩ = some (.int .i64 a0_4) := (blk_cell BK263.out 4).trans rfl
     have hcz22_5 : wr.cell? ⟨gb263, 5, none⟩ = some (.int .i64 a0_5) := (blk_cell BK263.out 5).trans rfl
     have hcz22_6 : wr.cell? ⟨gb263, 6, none⟩ = some (.int .i64 a0_6) := (blk_cell BK263.out 6).trans rfl
     have hcz22_7 : wr.cell? ⟨gb263, 7, none⟩ = some (.string a0_7) := (blk_cell BK263.out 7).trans rfl
     have hcz22_8 : wr.cell? ⟨gb263, 8, none⟩ = some (.string a0_8) := (blk_cell BK263.out 8).trans rfl
     have hcz22_9 : wr.cell? ⟨gb263, 9, none⟩ = some (.slice A0_9 l0_9.length c0_9) := (blk_cell BK263.out 9).trans rfl
     have hcz22_10 : wr.cell? ⟨gb263, 10, none⟩ = some (.slice A0_10 l0_10.length c0_10) := (blk_cell BK263.out 10).trans rfl
     have hcz22_11 : wr.cell? ⟨gb263, 11, none⟩ = some (.int .i64 a0_11) := (blk_cell BK263.out 11).trans rfl
     have hcz22_12 : wr.cell? ⟨gb263, 12, none⟩ = some (.bool a0_12) := (blk_cell BK263.out 12).trans rfl
     have hcz22_13 : wr.cell? ⟨gb263, 13, none⟩ = some (.string a0_13) := (blk_cell BK263.out 13).trans rfl
     have hfz22_0 := blk_frozen BK263.out 0
     have hfz22_1 := blk_frozen BK263.out 1
     have hfz22_2 := blk_frozen BK263.out 2
     have hfz22_3 := blk_frozen BK263.out 3
     have hfz22_4 := blk_frozen BK263.out 4
     have hfz22_5 := blk_frozen BK263.out 5
     have hfz22_6 := blk_frozen BK263.out 6
     have hfz22_7 := blk_frozen BK263.out 7
     have hfz22_8 := blk_frozen BK263.out 8
     have hfz22_9 := blk_frozen BK263.out 9
     have hfz22_10 := blk_frozen BK263.out 10
     have hfz22_11 := blk_frozen BK263.out 11
     have hfz22_12 := blk_frozen BK263.out 12
     have hfz22_13 := blk_frozen BK263.out 13
     have p269 : 0 ≤ (x6_3 : Int) := of_decide_eq_true (by first | (with_reducible assumption) | assumption)
     have q269 : x6_3 < (l0_10.length : Int) := of_decide_eq_true (by first | (with_reducible assumption) | assumption)
     obtain ⟨ad269, e269, hx269_0, hx269_1, hx269_2⟩ := at_T41 HR0_10.out x6_3 p269 q269
     cases e269
     replace hx269_0 := (HB.out.cell (World.block_lt_of_cell? w _ hx269_0)).trans hx269_0
     replace hx269_1 := (HB.out.cell (World.block_lt_of_cell? w _ hx269_1)).trans hx269_1
     replace hx269_2 := (HB.out.cell (World.block_lt_of_cell? w _ hx269_2)).trans hx269_2
     replace p269 := eq_true p269
     replace q269 := eq_true q269
     go_wp2_with (first | ((with_reducible refine gate_callee (f := 35) rfl ?_); refine goesL_ (some 48) rfl rfl Try.func35 (by as_aux_lemma => kernel_rfl) rfl #[.int .i64 ((rd_T41 l0_10 x6_3).f1)] rfl (by (try simp only [List.map_toArray, List.map_cons, List.map_nil]); first | done | rfl | (simp only [List.length_drop, List.length_take]; rfl)) ?_; (with_reducible refine (shelfmarkref13_number.calls ((rd_T41 l0_10 x6_3).f1) true _ A20.out).mono ?_); rintro e w' ⟨rfl, ⟨nd, rfl⟩⟩; refine ⟨_, rfl, ?_⟩))
     go_roundg k3
     case measure => have := HJ1.out; have := HK2.out; have := HK3.out; omega
     case rel => exact ⟨(wrap64 (x6_3 + 1)), (by first | rfl | (simp; done) | (simp [*]; done) | (simp [ne_nil_bytes]; done) | (simp [eq_nil_bytes]; done)), H', ⟨by have := HJ1.out; have := HK2.out; have := HK3.out; omega⟩, ⟨by exact rL HO_4.out⟩, ⟨by exact bL BK263.out⟩, ⟨hL HB.out⟩⟩
    rw [if_neg c18] at H
    have c18b0 : decide (x6_3 < (l0_10.length : Int)) = false := decide_eq_false c18
    clear c18
    have HC24 := Aside0.mk H
    clear H
    have hcz25_0 : wr.cell? ⟨gb263, 0, none⟩ = some (.int .i64 a0_0) := (blk_cell BK263.out 0).trans rfl
    have hcz25_1 : wr.cell? ⟨gb263, 1, none⟩ = some (.int .i64 a0_1) := (blk_cell BK263.out 1).trans rfl
    have hcz25_2 : wr.cell? ⟨gb263, 2, none⟩ = some (.int .i64 a0_2) := (blk_cell BK263.out 2).trans rfl
    have hcz25_3 : wr.cell? ⟨gb263, 3, none⟩ = some (.int .i64 a0_3) := (blk_cell BK263.out 3).trans rfl
    have hcz25_4 : wr.cell? ⟨gb263, 4, none⟩ = some (.int .i64 a0_4) := (blk_cell BK263.out 4).trans rfl
    have hcz25_5 : wr.cell? ⟨gb263, 5, none⟩ = some (.int .i64 a0_5) := (blk_cell BK263.out 5).trans rfl
    have hcz25_6 : wr.cell? ⟨gb263, 6, none⟩ = some (.int .i64 a0_6) := (blk_cell BK263.out 6).trans rfl
    have hcz25_7 : wr.cell? ⟨gb263, 7, none⟩ = some (.string a0_7) := (blk_cell BK263.out 7).trans rfl
    have hcz25_8 : wr.cell? ⟨gb263, 8, none⟩ = some (.string a0_8) := (blk_cell BK263.out 8).trans rfl
    have hcz25_9 : wr.cell? ⟨gb263, 9, none⟩ = some (.slice A0_9 l0_9.length c0_9) := (blk_cell BK263.out 9).trans rfl
    have hcz25_10 : wr.cell? ⟨gb263, 10, none⟩ = some (.slice A0_10 l0_10.length c0_10) := (blk_cell BK263.out 10).trans rfl
    have hcz25_11 : wr.cell? ⟨gb263, 11, none⟩ = some (.int .i64 a0_11) := (blk_cell BK263.out 11).trans rfl
    have hcz25_12 : wr.cell? ⟨gb263, 12, none⟩ = some (.bool a0_12) := (blk_cell BK263.out 12).trans rfl
    have hcz25_13 : wr.cell? ⟨gb263, 13, none⟩ = some (.string a0_13) := (blk_cell BK263.out 13).trans rfl
    have hfz25_0 := blk_frozen BK263.out 0
    have hfz25_1 := blk_frozen BK263.out 1
    have hfz25_2 := blk_frozen BK263.out 2
    have hfz25_3 := blk_frozen BK263.out 3
    have hfz25_4 := blk_frozen BK263.out 4
    have hfz25_5 := blk_frozen BK263.out 5
    have hfz25_6 := blk_frozen BK263.out 6
    have hfz25_7 := blk_frozen BK263.out 7
    have hfz25_8 := blk_frozen BK263.out 8
    have hfz25_9 := blk_frozen BK263.out 9
    have hfz25_10 := blk_frozen BK263.out 10
    have hfz25_11 := blk_frozen BK263.out 11
    have hfz25_12 := blk_frozen BK263.out 12
    have hfz25_13 := blk_frozen BK263.out 13
    go_upto_region 14 with (fail)
    go_cut [59] (fun v59 wc => ∃ (kq : Nat) (x59_23 : Bool), v59 = .bool x59_23 ∧ Aside0 (shelfmarkref13_Pack.j3 kq t264 x59_23 a0_0 a0_1 a0_2 a0_3 a0_4 a0_5 a0_6 a0_7 a0_8 l0_9 l0_10 a0_11 a0_12 a0_13 = some (r1, r2)) ∧ Aside0 (kq ≤ k3) ∧ Aside0 (Kd.R (Kd.int .i64) 3 wc w.heap.size (fun _ => True) (.slice Ao17 t264.length co17) t264) ∧ Aside0 (wc.heap[gb263]? = some (.cells #[.int .i64 a0_0, .int .i64 a0_1, .int .i64 a0_2, .int .i64 a0_3, .int .i64 a0_4, .int .i64 a0_5, .int .i64 a0_6, .string a0_7, .string a0_8, (.slice A0_9 l0_9.length c0_9), (.slice A0_10 l0_10.length c0_10), .int .i64 a0_11, .bool a0_12, .string a0_13] 27 (0, 0))) ∧ Aside0 (Below w.heap.size w wc))
    case first =>
     have H := HC24.out
     clear HC24
     by_cases c26 : (l0_9.length : Int) > 256
     ·rw [if_pos c26] at H
      have c26b0 : decide (256 < (l0_9.length : Int)) = true := decide_eq_true c26
      have c26b1 : decide (256 < l0_9.length) = true := decide_eq_true (by omega)
      clear c26
      (first | rw [c26b0] | (simp only [i64_w, i32_w]; rw [c26b0]) | skip)
      have H' := Aside0.mk H
      clear H
      have hcz27_0 : wr.cell? ⟨gb263, 0, none⟩ = some (.int .i64 a0_0) := (blk_cell BK263.out 0).trans rfl
      have hcz27_1 : wr.cell? ⟨gb263, 1, none⟩ = some (.int .i64 a0_1) := (blk_cell BK263.out 1).trans rfl
      have hcz27_2 : wr.cell? ⟨gb263, 2, none⟩ = some (.int .i64 a0_2) := (blk_cell BK263.out 2).trans rfl
      have hcz27_3 : wr.cell? ⟨gb263, 3, none⟩ = some (.int .i64 a0_3) := (blk_cell BK263.out 3).trans rfl
      have hcz27_4 : wr.cell? ⟨gb263, 4, none⟩ = some (.int .i64 a0_4) := (blk_cell BK263.out 4).trans rfl
      have hcz27_5 : wr.cell? ⟨gb263, 5, none⟩ = some (.int .i64 a0_5) := (blk_cell BK263.out 5).trans rfl
      have hcz27_6 : wr.cell? ⟨gb263, 6, none⟩ = some (.int .i64 a0_6) := (blk_cell BK263.out 6).trans rfl
      have hcz27_7 : wr.cell? ⟨gb263, 7, none⟩ = some (.string a0_7) := (blk_cell BK263.out 7).trans rfl
      have hcz27_8 : wr.cell? ⟨gb263, 8, none⟩ = some (.string a0_8) := (blk_cell BK263.out 8).trans rfl
      have hcz27_9 : wr.cell? ⟨gb263, 9, none⟩ = some (.slice A0_9 l0_9.length c0_9) := (blk_cell BK263.out 9).trans rfl
      have hcz27_10 : wr.cell? ⟨gb263, 10, none⟩ = some (.slice A0_10 l0_10.length c0_10) := (blk_cell BK263.out 10).trans rfl
      have hcz27_11 : wr.cell? ⟨gb263, 11, none⟩ = some (.int .i64 a0_11) := (blk_cell BK263.out 11).trans rfl
      have hcz27_12 : wr.cell? ⟨gb263, 12, none⟩ = some (.bool a0_12) := (blk_cell BK263.out 12).trans rfl
      have hcz27_13 : wr.cell? ⟨gb263, 13, none⟩ = some (.string a0_13) := (blk_cell BK263.out 13).trans rfl
      have hfz27_0 := blk_frozen BK263.out 0
      have hfz27_1 := blk_frozen BK263.out 1
      have hfz27_2 := blk_frozen BK263.out 2
      have hfz27_3 := blk_frozen BK263.out 3
      have hfz27_4 := blk_frozen BK263.out 4
      have hfz27_5 := blk_frozen BK263.out 5
      have hfz27_6 := blk_frozen BK263.out 6
      have hfz27_7 := blk_frozen BK263.out 7
      have hfz27_8 := blk_frozen BK263.out 8
      have hfz27_9 := blk_frozen BK263.out 9
      have hfz27_10 := blk_frozen BK263.out 10
      have hfz27_11 := blk_frozen BK263.out 11
      have hfz27_12 := blk_frozen BK263.out 12
      have hfz27_13 := blk_frozen BK263.out 13
      go_wp2
      go_meet
      case rel => exact ⟨_, (true), (by first | rfl | (simp; done) | (simp [*]; done) | (simp [ne_nil_bytes]; done) | (simp [eq_nil_bytes]; done)), H', ⟨by have := HJ1.out; have := HK2.out; have := HK3.out; first | omega | exact Nat.le_refl _⟩, ⟨by exact rL HO_4.out⟩, ⟨by exact bL BK263.out⟩, ⟨hL HB.out⟩⟩
     rw [if_neg c26] at H
     have c26b0 : decide (256 < (l0_9.length : Int)) = false := decide_eq_false c26
     have c26b1 : decide (256 < l0_9.length) = false := decide_eq_false (by omega)
     clear c26
     (first | rw [c26b0] | (simp only [i64_w, i32_w]; rw [c26b0]) | skip)
     have H' := Aside0.mk H
     clear H
     have hcz28_0 : wr.cell? ⟨gb263, 0, none⟩ = some (.int .i64 a0_0) := (blk_cell BK263.out 0).trans rfl
     have hcz28_1 : wr.cell? ⟨gb263, 1, none⟩ = some (.int .i64 a0_1) := (blk_cell BK263.out 1).trans rfl
     have hcz28_2 : wr.cell? ⟨gb263, 2, none⟩ = some (.int .i64 a0_2) := (blk_cell BK263.out 2).trans rfl
     have hcz28_3 : wr.cell? ⟨gb263, 3, none⟩ = some (.int .i64 a0_3) := (blk_cell BK263.out 3).trans rfl
     have hcz28_4 : wr.cell? ⟨gb263, 4, none⟩ = some (.int .i64 a0_4) := (blk_cell BK263.out 4).trans rfl
     have hcz28_5 : wr.cell? ⟨gb263, 5, none⟩ = some (.int .i64 a0_5) := (blk_cell BK263.out 5).trans rfl
     have hcz28_6 : wr.cell? ⟨gb263, 6, none⟩ = some (.int .i64 a0_6) := (blk_cell BK263.out 6).trans rfl
     have hcz28_7 : wr.cell? ⟨gb263, 7, none⟩ = some (.string a0_7) := (blk_cell BK263.out 7).trans rfl
     have hcz28_8 : wr.cell? ⟨gb263, 8, none⟩ = some (.string a0_8) := (blk_cell BK263.out 8).trans rfl
     have hcz28_9 : wr.cell? ⟨gb263, 9, none⟩ = some (.slice A0_9 l0_9.length c0_9) := (blk_cell BK263.out 9).trans rfl
     have hcz28_10 : wr.cell? ⟨gb263, 10, none⟩ = some (.slice A0_10 l0_10.length c0_10) := (blk_cell BK263.out 10).trans rfl
     have hcz28_11 : wr.cell? ⟨gb263, 11, none⟩ = some (.int .i64 a0_11) := (blk_cell BK263.out 11).trans rfl
     have hcz28_12 : wr.cell? ⟨gb263, 12, none⟩ = some (.bool a0_12) := (blk_cell BK263.out 12).trans rfl
     have hcz28_13 : wr.cell? ⟨gb263, 13, none⟩ = some (.string a0_13) := (blk_cell BK263.out 13).trans rfl
     have hfz28_0 := blk_frozen BK263.out 0
     have hfz28_1 := blk_frozen BK263.out 1
     have hfz28_2 := blk_frozen BK263.out 2
     have hfz28_3 := blk_frozen BK263.out 3
     have hfz28_4 := blk_frozen BK263.out 4
     have hfz28_5 := blk_frozen BK263.out 5
     have hfz28_6 := blk_frozen BK263.out 6
     have hfz28_7 := blk_frozen BK263.out 7
     have hfz28_8 := blk_frozen BK263.out 8
     have hfz28_9 := blk_frozen BK263.out 9
     have hfz28_10 := blk_frozen BK263.out 10
     have hfz28_11 := blk_frozen BK263.out 11
     have hfz28_12 := blk_frozen BK263.out 12
     have hfz28_13 := blk_frozen BK263.out 13
     go_wp2
     go_meet
     case rel => exact ⟨_, (decide ((l0_10.length : Int) > 256)), (by first | rfl | (simp; done) | (simp [*]; done) | (simp [ne_nil_bytes]; done) | (simp [eq_nil_bytes]; done)), H', ⟨by have := HJ1.out; have := HK2.out; have := HK3.out; first | omega | exact Nat.le_refl _⟩, ⟨by exact rL HO_4.out⟩, ⟨by exact bL BK263.out⟩, ⟨hL HB.out⟩⟩
    as_aux_lemma =>
     clear HC24
     (try clear c1); (try clear c2); (try clear p2 p2); (try clear q2 q2); (try clear hx2); (try clear c3); (try clear c4); (try clear c4b0); (try clear c4b0z); (try clear p6 p6); (try clear c7); (try clear c11); (try clear c11b0); (try clear c11b0z); (try clear c12); (try clear c12b0); (try clear c12b0z); (try clear c13); (try clear c14); (try clear c18); (try clear c18b0); (try clear c18b0z); (try clear c19); (try clear c19b0); (try clear c19b0z); (try clear c21); (try clear c26); (try clear c26b0); (try clear c26b0z); (try clear c26b1); (try clear c26b1z); (try clear p26); (try clear q26); (try clear hx26); (try clear c28); (try clear hcz22_0 hcz22_1 hcz22_10 hcz22_11 hcz22_12 hcz22_13 hcz22_2 hcz22_3 hcz22_4 hcz22_5 hcz22_6 hcz22_7 hcz22_8 hcz22_9); (try clear hcz23_0 hcz23_1 hcz23_10 hcz23_11 hcz23_12 hcz23_13 hcz23_2 hcz23_3 hcz23_4 hcz23_5 hcz23_6 hcz23_7 hcz23_8 hcz23_9); (try clear hcz25_0 hcz25_1 hcz25_10 hcz25_11 hcz25_12 hcz25_13 hcz25_2 hcz25_3 hcz25_4 hcz25_5 hcz25_6 hcz25_7 hcz25_8 hcz25_9); (try clear hcz27_0 hcz27_1 hcz27_10 hcz27_11 hcz27_12 hcz27_13 hcz27_2 hcz27_3 hcz27_4 hcz27_5 hcz27_6 hcz27_7 hcz27_8 hcz27_9); (try clear hcz28_0 hcz28_1 hcz28_10 hcz28_11 hcz28_12 hcz28_13 hcz28_2 hcz28_3 hcz28_4 hcz28_5 hcz28_6 hcz28_7 hcz28_8 hcz28_9); (try clear hcz5_0 hcz5_1 hcz5_10 hcz5_11 hcz5_12 hcz5_13 hcz5_2 hcz5_3 hcz5_4 hcz5_5 hcz5_6 hcz5_7 hcz5_8 hcz5_9); (try clear hcz6_0 hcz6_1 hcz6_10 hcz6_11 hcz6_12 hcz6_13 hcz6_2 hcz6_3 hcz6_4 hcz6_5 hcz6_6 hcz6_7 hcz6_8 hcz6_9); (try clear hcz9_0 hcz9_1 hcz9_10 hcz9_11 hcz9_12 hcz9_13 hcz9_2 hcz9_3 hcz9_4 hcz9_5 hcz9_6 hcz9_7 hcz9_8 hcz9_9); (try clear hfz22_0 hfz22_1 hfz22_10 hfz22_11 hfz22_12 hfz22_13 hfz22_2 hfz22_3 hfz22_4 hfz22_5 hfz22_6 hfz22_7 hfz22_8 hfz22_9); (try clear hfz23_0 hfz23_1 hfz23_10 hfz23_11 hfz23_12 hfz23_13 hfz23_2 hfz23_3 hfz23_4 hfz23_5 hfz23_6 hfz23_7 hfz23_8 hfz23_9); (try clear hfz25_0 hfz25_1 hfz25_10 hfz25_11 hfz25_12 hfz25_13 hfz25_2 hfz25_3 hfz25_4 hfz25_5 hfz25_6 hfz25_7 hfz25_8 hfz25_9); (try clear hfz27_0 hfz27_1 hfz27_10 hfz27_11 hfz27_12 hfz27_13 hfz27_2 hfz27_3 hfz27_4 hfz27_5 hfz27_6 hfz27_7 hfz27_8 hfz27_9); (try clear hfz28_0 hfz28_1 hfz28_10 hfz28_11 hfz28_12 hfz28_13 hfz28_2 hfz28_3 hfz28_4 hfz28_5 hfz28_6 hfz28_7 hfz28_8 hfz28_9); (try clear hfz5_0 hfz5_1 hfz5_10 hfz5_11 hfz5_12 hfz5_13 hfz5_2 hfz5_3 hfz5_4 hfz5_5 hfz5_6 hfz5_7 hfz5_8 hfz5_9); (try clear hfz6_0 hfz6_1 hfz6_10 hfz6_11 hfz6_12 hfz6_13 hfz6_2 hfz6_3 hfz6_4 hfz6_5 hfz6_6 hfz6_7 hfz6_8 hfz6_9); (try clear hfz9_0 hfz9_1 hfz9_10 hfz9_11 hfz9_12 hfz9_13 hfz9_2 hfz9_3 hfz9_4 hfz9_5 hfz9_6 hfz9_7 hfz9_8 hfz9_9); (try clear hx267_0); (try clear hx269_0); (try clear hx269_1); (try clear hx269_2); (try clear p267); (try clear p269); (try clear q267); (try clear q269)
     obtain ⟨kq, x59_23, rfl, HA, HJ23, HO_4, BK263, HB⟩ := hcut
     rcases kq with _ | kj23
     ·exact absurd HA.out (by simp [shelfmarkref13_Pack.j3])
     have H := HA.out
     clear HA
     simp only [shelfmarkref13_Pack.j3] at H
     by_cases c29 : x59_23 = true
     ·subst c29
      have H1 : (some ((⟨#[]⟩ : ByteArray), 4)) = some (r1, r2) := by rw [if_pos rfl] at H; exact H
      clear H
      have H := H1
      clear H1
      simp only [Option.some.injEq, Prod.mk.injEq] at H
      obtain ⟨rfl, rfl⟩ := H
      go_wp2
      go_ret2
      exact ⟨by first | rfl | (simp [errW_none, errW_some] <;> rfl) | (simp [*, errW_none, errW_some] <;> rfl), hL HB.out⟩
     replace c29 := Bool.eq_false_iff.mpr c29
     subst c29
     have H1 : ((shelfmarkref01_Num.f kj23 a0_0).bind fun t271 => (shelfmarkref13_Pack.l2 kj23 t264 t271 0 a0_0 a0_1 a0_2 a0_3 a0_4 a0_5 a0_6 a0_7 a0_8 l0_9 l0_10 a0_11 a0_12 a0_13)) = some (r1, r2) := by rw [if_neg (show ¬ (false = true) by decide)] at H; exact H
     clear H
     have H := H1
     clear H1
     replace H := Option.bind_eq_some_iff.mp H
     obtain ⟨t271, A300, H⟩ := H
     replace H : (shelfmarkref13_Pack.l2 kj23 t264 t271 0 a0_0 a0_1 a0_2 a0_3 a0_4 a0_5 a0_6 a0_7 a0_8 l0_9 l0_10 a0_11 a0_12 a0_13) = some (r1, r2) := H
     have A30 := Aside0.mk A300
     clear A300
     have H' := Aside0.mk H
     clear H
     have hcz31_0 : wc.cell? ⟨gb263, 0, none⟩ = some (.int .i64 a0_0) := (blk_cell BK263.out 0).trans rfl
     have hcz31_1 : wc.cell? ⟨gb263, 1, none⟩ = some (.int .i64 a0_1) := (blk_cell BK263.out 1).trans rfl
     have hcz31_2 : wc.cell? ⟨gb263, 2, none⟩ = some (.int .i64 a0_2) := (blk_cell BK263.out 2).trans rfl
     have hcz31_3 : wc.cell? ⟨gb263, 3, none⟩ = some (.int .i64 a0_3) := (blk_cell BK263.out 3).trans rfl
     have hcz31_4 : wc.cell? ⟨gb263, 4, none⟩ = some (.int .i64 a0_4) := (blk_cell BK263.out 4).trans rfl
     have hcz31_5 : wc.cell? ⟨gb263, 5, none⟩ = some (.int .i64 a0_5) := (blk_cell BK263.out 5).trans rfl
     have hcz31_6 : wc.cell? ⟨gb263, 6, none⟩ = some (.int .i64 a0_6) := (blk_cell BK263.out 6).trans rfl
     have hcz31_7 : wc.cell? ⟨gb263, 7, none⟩ = some (.string a0_7) := (blk_cell BK263.out 7).trans rfl
     have hcz31_8 : wc.cell? ⟨gb263, 8, none⟩ = some (.string a0_8) := (blk_cell BK263.out 8).trans rfl
     have hcz31_9 : wc.cell? ⟨gb263, 9, none⟩ = some (.slice A0_9 l0_9.length c0_9) := (blk_cell BK263.out 9).trans rfl
     have hcz31_10 : wc.cell? ⟨gb263, 10, none⟩ = some (.slice A0_10 l0_10.length c0_10) := (blk_cell BK263.out 10).trans rfl
     have hcz31_11 : wc.cell? ⟨gb263, 11, none⟩ = some (.int .i64 a0_11) := (blk_cell BK263.out 11).trans rfl
     have hcz31_12 : wc.cell? ⟨gb263, 12, none⟩ = some (.bool a0_12) := (blk_cell BK263.out 12).trans rfl
     have hcz31_13 : wc.cell? ⟨gb263, 13, none⟩ = some (.string a0_13) := (blk_cell BK263.out 13).trans rfl
     have hfz31_0 := blk_frozen BK263.out 0
     have hfz31_1 := blk_frozen BK263.out 1
     have hfz31_2 := blk_frozen BK263.out 2
     have hfz31_3 := blk_frozen BK263.out 3
     have hfz31_4 := blk_frozen BK263.out 4
     have hfz31_5 := blk_frozen BK263.out 5
     have hfz31_6 := blk_frozen BK263.out 6
     have hfz31_7 := blk_frozen BK263.out 7
     have hfz31_8 := blk_frozen BK263.out 8
     have hfz31_9 := blk_frozen BK263.out 9
     have hfz31_10 := blk_frozen BK263.out 10
     have hfz31_11 := blk_frozen BK263.out 11
     have hfz31_12 := blk_frozen BK263.out 12
     have hfz31_13 := blk_frozen BK263.out 13
     go_wp2_with (first | ((with_reducible refine gate_callee (f := 36) rfl ?_); refine goesL_ (some 62) rfl rfl Try.func36 (by as_aux_lemma => kernel_rfl) rfl #[.int .i64 a0_0] rfl (by (try simp only [List.map_toArray, List.map_cons, List.map_nil]); first | done | rfl | (simp only [List.length_drop, List.length_take]; rfl)) ?_; (with_reducible refine (shelfmarkref01_Num.calls kj23 a0_0 t271 _ A30.out).mono ?_); rintro e w32 ⟨v272, rfl, ho0, hb⟩; refine ⟨_, rfl, ?_⟩; have n0_ := Aside0.mk (Kd.R_below (rL HO_4.out) hb); have n1_ := Aside0.mk (Kd.R_lower ho0 (below_size (hL HB.out))); have n2_ := Aside0.mk (blk_below (bL BK263.out) hb); have n3_ := Aside0.mk (below_step (hL HB.out) hb); clear HO_4; clear BK263; clear HB; have HO_4 := n0_; have HO273 := n1_; have BK263 := n2_; have HB := n3_; clear n0_ n1_ n2_ n3_; (try clear hb); (try clear hb2); (try clear hk); (try clear hi); (try clear ho0)))
     go_loopg [7, 8] kj23 (fun kq v7 v8 w' => ∃ (x7_5 : List Int) (x8_5 : Int), v8 = .int .i64 x8_5 ∧ Aside0 (shelfmarkref13_Pack.l2 kq t264 x7_5 x8_5 a0_0 a0_1 a0_2 a0_3 a0_4 a0_5 a0_6 a0_7 a0_8 l0_9 l0_10 a0_11 a0_12 a0_13 = some (r1, r2)) ∧ Aside0 (kq ≤ kj23) ∧ Aside0 (Kd.R (Kd.int .i64) 3 w' w.heap.size (fun _ => True) (.slice Ao17 t264.length co17) t264) ∧ Aside0 (Kd.R (Kd.int .u8) 5 w' w.heap.size (fun _ => True) v7 x7_5) ∧ Aside0 (w'.heap[gb263]? = some (.cells #[.int .i64 a0_0, .int .i64 a0_1, .int .i64 a0_2, .int .i64 a0_3, .int .i64 a0_4, .int .i64 a0_5, .int .i64 a0_6, .string a0_7, .string a0_8, (.slice A0_9 l0_9.length c0_9), (.slice A0_10 l0_10.length c0_10), .int .i64 a0_11, .bool a0_12, .string a0_13] 27 (0, 0))) ∧ Aside0 (Below w.heap.size w w'))
     case atStart => exact ⟨(t271), (0), (by first | rfl | (simp; done) | (simp [*]; done) | (simp [ne_nil_bytes]; done) | (simp [eq_nil_bytes]; done)), H', ⟨Nat.le_refl _⟩, ⟨by exact rL HO_4.out⟩, ⟨by exact rL HO273.out⟩, ⟨by exact bL BK263.out⟩, ⟨hL HB.out⟩⟩
     as_aux_lemma =>
      clear H'
      (try clear c1); (try clear c2); (try clear p2 p2); (try clear q2 q2); (try clear hx2); (try clear c3); (try clear c4); (try clear c4b0); (try clear c4b0z); (try clear p6 p6); (try clear c7); (try clear c11); (try clear c11b0); (try clear c11b0z); (try clear c12); (try clear c12b0); (try clear c12b0z); (try clear c13); (try clear c14); (try clear c18); (try clear c18b0); (try clear c18b0z); (try clear c19); (try clear c19b0); (try clear c19b0z); (try clear c21); (try clear c26); (try clear c26b0); (try clear c26b0z); (try clear c26b1); (try clear c26b1z); (try clear p26 p26); (try clear q26 q26); (try clear hx26); (try clear c28); (try clear c29); (try clear hcz22_0 hcz22_1 hcz22_10 hcz22_11 hcz22_12 hcz22_13 hcz22_2 hcz22_3 hcz22_4 hcz22_5 hcz22_6 hcz22_7 hcz22_8 hcz22_9); (try clear hcz23_0 hcz23_1 hcz23_10 hcz23_11 hcz23_12 hcz23_13 hcz23_2 hcz23_3 hcz23_4 hcz23_5 hcz23_6 hcz23_7 hcz23_8 hcz23_9); (try clear hcz25_0 hcz25_1 hcz25_10 hcz25_11 hcz25_12 hcz25_13 hcz25_2 hcz25_3 hcz25_4 hcz25_5 hcz25_6 hcz25_7 hcz25_8 hcz25_9); (try clear hcz27_0 hcz27_1 hcz27_10 hcz27_11 hcz27_12 hcz27_13 hcz27_2 hcz27_3 hcz27_4 hcz27_5 hcz27_6 hcz27_7 hcz27_8 hcz27_9); (try clear hcz28_0 hcz28_1 hcz28_10 hcz28_11 hcz28_12 hcz28_13 hcz28_2 hcz28_3 hcz28_4 hcz28_5 hcz28_6 hcz28_7 hcz28_8 hcz28_9); (try clear hcz31_0 hcz31_1 hcz31_10 hcz31_11 hcz31_12 hcz31_13 hcz31_2 hcz31_3 hcz31_4 hcz31_5 hcz31_6 hcz31_7 hcz31_8 hcz31_9); (try clear hcz5_0 hcz5_1 hcz5_10 hcz5_11 hcz5_12 hcz5_13 hcz5_2 hcz5_3 hcz5_4 hcz5_5 hcz5_6 hcz5_7 hcz5_8 hcz5_9); (try clear hcz6_0 hcz6_1 hcz6_10 hcz6_11 hcz6_12 hcz6_13 hcz6_2 hcz6_3 hcz6_4 hcz6_5 hcz6_6 hcz6_7 hcz6_8 hcz6_9); (try clear hcz9_0 hcz9_1 hcz9_10 hcz9_11 hcz9_12 hcz9_13 hcz9_2 hcz9_3 hcz9_4 hcz9_5 hcz9_6 hcz9_7 hcz9_8 hcz9_9); (try clear hfz22_0 hfz22_1 hfz22_10 hfz22_11 hfz22_12 hfz22_13 hfz22_2 hfz22_3 hfz22_4 hfz22_5 hfz22_6 hfz22_7 hfz22_8 hfz22_9); (try clear hfz23_0 hfz23_1 hfz23_10 hfz23_11 hfz23_12 hfz23_13 hfz23_2 hfz23_3 hfz23_4 hfz23_5 hfz23_6 hfz23_7 hfz23_8 hfz23_9); (try clear hfz25_0 hfz25_1 hfz25_10 hfz25_11 hfz25_12 hfz25_13 hfz25_2 hfz25_3 hfz25_4 hfz25_5 hfz25_6 hfz25_7 hfz25_8 hfz25_9); (try clear hfz27_0 hfz27_1 hfz27_10 hfz27_11 hfz27_12 hfz27_13 hfz27_2 hfz27_3 hfz27_4 hfz27_5 hfz27_6 hfz27_7 hfz27_8 hfz27_9); (try clear hfz28_0 hfz28_1 hfz28_10 hfz28_11 hfz28_12 hfz28_13 hfz28_2 hfz28_3 hfz28_4 hfz28_5 hfz28_6 hfz28_7 hfz28_8 hfz28_9); (try clear hfz31_0 hfz31_1 hfz31_10 hfz31_11 hfz31_12 hfz31_13 hfz31_2 hfz31_3 hfz31_4 hfz31_5 hfz31_6 hfz31_7 hfz31_8 hfz31_9); (try clear hfz5_0 hfz5_1 hfz5_10 hfz5_11 hfz5_12 hfz5_13 hfz5_2 hfz5_3 hfz5_4 hfz5_5 hfz5_6 hfz5_7 hfz5_8 hfz5_9); (try clear hfz6_0 hfz6_1 hfz6_10 hfz6_11 hfz6_12 hfz6_13 hfz6_2 hfz6_3 hfz6_4 hfz6_5 hfz6_6 hfz6_7 hfz6_8 hfz6_9); (try clear hfz9_0 hfz9_1 hfz9_10 hfz9_11 hfz9_12 hfz9_13 hfz9_2 hfz9_3 hfz9_4 hfz9_5 hfz9_6 hfz9_7 hfz9_8 hfz9_9); (try clear hx267_0); (try clear hx269_0); (try clear hx269_1); (try clear hx269_2); (try clear p267); (try clear p269); (try clear q267); (try clear q269)
      obtain ⟨x7_5, x8_5, rfl, HA, HK5, HO_4, HO_7, BK263, HB⟩ := hrel
      rcases gk with _ | k5
      ·exact absurd HA.out (by simp [shelfmarkref13_Pack.l2])
      have H := HA.out
      clear HA
      simp only [shelfmarkref13_Pack.l2] at H
      by_cases c33 : x8_5 < (t264.length : Int)
      ·rw [if_pos c33] at H
       have c33b0 : decide (x8_5 < (t264.length : Int)) = true := decide_eq_true c33
       clear c33
       by_cases c34 : 0 ≤ x8_5
       rotate_left
       ·rw [if_neg c34] at H
        exact absurd H (by simp)
       rw [if_pos c34] at H
       have c34b0 : decide (0 ≤ x8_5) = true := decide_eq_true c34
       clear c34
       replace H := Option.bind_eq_some_iff.mp H
       obtain ⟨t275, A350, H⟩ := H
       replace H : (if x7_5.length + t275.length < 140737488355328 then (shelfmarkref13_Pack.l2 k5 t264 (x7_5 ++ t275) (wrap64 (x8_5 + 1)) a0_0 a0_1 a0_2 a0_3 a0_4 a0_5 a0_6 a0_7 a0_8 l0_9 l0_10 a0_11 a0_12 a0_13) else (none)) = some (r1, r2) := H
       have A35 := Aside0.mk A350
       clear A350
       by_cases c36 : x7_5.length + t275.length < 140737488355328
       rotate_left
       ·rw [if_neg c36] at H
        exact absurd H (by simp)
       rw [if_pos c36] at H
       have LMc36 := Aside0.mk c36
       clear c36
       obtain ⟨y278, hy278⟩ : ∃ y_ : List Int, y_ = (x7_5 ++ t275) := ⟨_, rfl⟩
       replace H : (shelfmarkref13_Pack.l2 k5 t264 y278 (wrap64 (x8_5 + 1)) a0_0 a0_1 a0_2 a0_3 a0_4 a0_5 a0_6 a0_7 a0_8 l0_9 l0_10 a0_11 a0_12 a0_13) = some (r1, r2) := by first | (rw [hy278]; with_reducible exact H) | (have H2_ := (Option.bind_some _ _).symm.trans H; rw [hy278]; with_reducible exact H2_) | (have H2_ := (Option.bind_some _ _).symm.trans H; with_reducible exact H2_) | with_reducible exact H | (rw [hy278]; exact H) | exact H
       have Ny278 := Aside0.mk hy278
       clear hy278
       have H' := Aside0.mk H
       clear H
       have p274 : 0 ≤ (x8_5 : Int) := of_decide_eq_true (by first | (with_reducible assumption) | assumption)
       have q274 : x8_5 < (t264.length : Int) := of_decide_eq_true (by first | (with_reducible assumption) | assumption)
       obtain ⟨ad274, e274, hx274_0⟩ := Kd.at_int (Kd.R_reads' HO_4.out).2.2 x8_5 p274 q274
       cases e274
       replace p274 := eq_true p274
       replace q274 := eq_true q274
       go_wp2_with (first | ((with_reducible refine gate_callee (f := 36) rfl ?_); refine goesL_ (some 74) rfl rfl Try.func36 (by as_aux_lemma => kernel_rfl) rfl #[.int .i64 (rd t264 x8_5)] rfl (by (try simp only [List.map_toArray, List.map_cons, List.map_nil]); first | done | rfl | (simp only [List.length_drop, List.length_take]; rfl)) ?_; (with_reducible refine (shelfmarkref01_Num.calls k5 (rd t264 x8_5) t275 _ A35.out).mono ?_); rintro e w37 ⟨v276, rfl, ho0, hb⟩; refine ⟨_, rfl, ?_⟩; have n0_ := Aside0.mk (Kd.R_below (rL HO_4.out) hb); have n1_ := Aside0.mk (Kd.R_elder' (rL HO_7.out) (Kd.R_base ho0) hb); have n2_ := Aside0.mk (Kd.R_lower (Kd.R_new' ho0 (Kd.R_lt (rL HO_7.out))) (below_size (hL HB.out))); have n3_ := Aside0.mk (blk_below (bL BK263.out) hb); have n4_ := Aside0.mk (below_step (hL HB.out) hb); clear HO_4; clear HO_7; clear BK263; clear HB; have HO_4 := n0_; have HO_7 := n1_; have HO277 := n2_; have BK263 := n3_; have HB := n4_; clear n0_ n1_ n2_ n3_ n4_; (try clear hb); (try clear hb2); (try clear hk); (try clear hi); (try clear ho0); obtain ⟨Ao39, co39, eo39⟩ := Kd.R_slice HO277.out; subst eo39) | ((with_reducible refine gate_builtin (b := .append) (xs := #[.tmp 69, .tmp 74]) rfl ?_); (try (refine gate_guard (by rfl) ?_; dsimp only)); at_builtin; refine Kd.R_append_rows (Kd.int .u8) (w0 := w) w.heap.size rfl (.tmp 69) (.tmp 74) 43 5 (.int .u8 0) 1 rfl Try.underlying43 info5 rfl (by decide) (by omega) u7 x7_5 t275 _ _ _ (fun k_ => some k_ ≠ (.slice Ao39 t275.length co39 : Value).ownBlock) (fun _ => False) rfl rfl ?aO ?aR (fun _ _ h => h) (fun _ h => h.elim) ?aF ?aB ?aS ?aL ?_; (case aR => repeat (first | exact (Kd.R_reads' HO277.out).2.2 | (with_reducible refine Kd.C_alloc ?_ _) | (with_reducible refine Kd.C_drewN ?_ _) | (with_reducible refine Kd.C_drew ?_))); (case aB => exact (hL HB.out)); (case aF => exact (fun k_ hk => Kd.fresh' (Kd.R_lt (rL HO277.out)) k_ hk)); (case aO => exact (by (with_reducible repeat (first | apply Kd.R_alloc | apply Kd.R_drewN | apply Kd.R_drew)); exact Kd.R_mono HO_7.out (fun _ hk => hk.2))); (case aS => exact (below_size (hL HB.out))); (case aL => have := LMc36.out; omega); intro v279 w38 ho hb hg hat; rw [← Ny278.out] at ho; have n0_ := Aside0.mk (Kd.R_over' (rL HO_4.out) (Kd.R_typed (rL HO_7.out)) (by decide) hg); have n1_ := Aside0.mk (blk_grown (g := gb263) (o := .cells #[.int .i64 a0_0, .int .i64 a0_1, .int .i64 a0_2, .int .i64 a0_3, .int .i64 a0_4, .int .i64 a0_5, .int .i64 a0_6, .string a0_7, .string a0_8, .slice A0_9 l0_9.length c0_9, .slice A0_10 l0_10.length c0_10, .int .i64 a0_11, .bool a0_12, .string a0_13] 27 (0, 0)) (bL BK263.out) hg (Kd.R_ne HO_7.out BK263.out (by decide))); have n2_ := Aside0.mk (Kd.R_after (ok := (fun _ => True)) (rL HO277.out) hg hat); have n3_ := Aside0.mk (hb); have n4_ := Aside0.mk (ho); clear HO_4; clear BK263; clear HO277; clear HB; clear HO_7; have HO_4 := n0_; have BK263 := n1_; have HO277 := n2_; have HB := n3_; have HO280 := n4_; clear n0_ n1_ n2_ n3_ n4_; clear ho hb hg hat))
       go_roundg k5
       case measure => have := HJ1.out; have := HK2.out; have := HK3.out; have := HJ23.out; have := HK5.out; omega
       case rel => exact ⟨(y278), (wrap64 (x8_5 + 1)), (by first | rfl | (simp; done) | (simp [*]; done) | (simp [ne_nil_bytes]; done) | (simp [eq_nil_bytes]; done)), H', ⟨by have := HJ1.out; have := HK2.out; have := HK3.out; have := HJ23.out; have := HK5.out; omega⟩, ⟨by exact rL HO_4.out⟩, ⟨by (with_reducible repeat (first | apply Kd.R_alloc | apply Kd.R_drewN | apply Kd.R_drew)); exact Kd.R_mono HO280.out (fun _ hk => trivial)⟩, ⟨by exact bL BK263.out⟩, ⟨hL HB.out⟩⟩
      rw [if_neg c33] at H
      have c33b0 : decide (x8_5 < (t264.length : Int)) = false := decide_eq_false c33
      clear c33
      replace H := Option.bind_eq_some_iff.mp H
      obtain ⟨t281, A400, H⟩ := H
      replace H : (if x7_5.length + t281.length < 140737488355328 then (shelfmarkref13_Pack.l3 k5 (x7_5 ++ t281) (([a0_7, a0_8, a0_13] : List ByteArray)) 0 a0_0 a0_1 a0_2 a0_3 a0_4 a0_5 a0_6 a0_7 a0_8 l0_9 l0_10 a0_11 a0_12 a0_13) else (none)) = some (r1, r2) := H
      have A40 := Aside0.mk A400
      clear A400
      by_cases c41 : x7_5.length + t281.length < 140737488355328
      rotate_left
      ·rw [if_neg c41] at H
       exact absurd H (by simp)
      rw [if_pos c41] at H
      have LMc41 := Aside0.mk c41
      clear c41
      obtain ⟨y284, hy284⟩ : ∃ y_ : List Int, y_ = (x7_5 ++ t281) := ⟨_, rfl⟩
      replace H : (shelfmarkref13_Pack.l3 k5 y284 (([a0_7, a0_8, a0_13] : List ByteArray)) 0 a0_0 a0_1 a0_2 a0_3 a0_4 a0_5 a0_6 a0_7 a0_8 l0_9 l0_10 a0_11 a0_12 a0_13) = some (r1, r2) := by first | (rw [hy284]; with_reducible exact H) | (have H2_ := (Option.bind_some _ _).symm.trans H; rw [hy284]; with_reducible exact H2_) | (have H2_ := (Option.bind_some _ _).symm.trans H; with_reducible exact H2_) | with_reducible exact H | (rw [hy284]; exact H) | exact H
      have Ny284 := Aside0.mk hy284
      clear hy284
      obtain ⟨y287, hy287⟩ : ∃ y_ : List ByteArray, y_ = (([a0_7, a0_8, a0_13] : List ByteArray)) := ⟨_, rfl⟩
      replace H : (shelfmarkref13_Pack.l3 k5 y284 y287 0 a0_0 a0_1 a0_2 a0_3 a0_4 a0_5 a0_6 a0_7 a0_8 l0_9 l0_10 a0_11 a0_12 a0_13) = some (r1, r2) := by first | (rw [hy287]; with_reducible exact H) | (have H2_ := (Option.bind_some _ _).symm.trans H; rw [hy287]; with_reducible exact H2_) | (have H2_ := (Option.bind_some _ _).symm.trans H; with_reducible exact H2_) | with_reducible exact H | (rw [hy287]; exact H) | exact H
      have Ny287 := Aside0.mk hy287
      clear hy287
      have H' := Aside0.mk H
      clear H
      have hcz42_0 : wr.cell? ⟨gb263, 0, none⟩ = some (.int .i64 a0_0) := (blk_cell BK263.out 0).trans rfl
      have hcz42_1 : wr.cell? ⟨gb263, 1, none⟩ = some (.int .i64 a0_1) := (blk_cell BK263.out 1).trans rfl
      have hcz42_2 : wr.cell? ⟨gb263, 2, none⟩ = some (.int .i64 a0_2) := (blk_cell BK263.out 2).trans rfl
      have hcz42_3 : wr.cell? ⟨gb263, 3, none⟩ = some (.int .i64 a0_3) := (blk_cell BK263.out 3).trans rfl
      have hcz42_4 : wr.cell? ⟨gb263, 4, none⟩ = some (.int .i64 a0_4) := (blk_cell BK263.out 4).trans rfl
      have hcz42_5 : wr.cell? ⟨gb263, 5, none⟩ = some (.int .i64 a0_5) := (blk_cell BK263.out 5).trans rfl
      have hcz42_6 : wr.cell? ⟨gb263, 6, none⟩ = some (.int .i64 a0_6) := (blk_cell BK263.out 6).trans rfl
      have hcz42_7 : wr.cell? ⟨gb263, 7, none⟩ = some (.string a0_7) := (blk_cell BK263.out 7).trans rfl
      have hcz42_8 : wr.cell? ⟨gb263, 8, none⟩ = some (.string a0_8) := (blk_cell BK263.out 8).trans rfl
      have hcz42_9 : wr.cell? ⟨gb263, 9, none⟩ = some (.slice A0_9 l0_9.length c0_9) := (blk_cell BK263.out 9).trans rfl
      have hcz42_10 : wr.cell? ⟨gb263, 10, none⟩ = some (.slice A0_10 l0_10.length c0_10) := (blk_cell BK263.out 10).trans rfl
      have hcz42_11 : wr.cell? ⟨gb263, 11, none⟩ = some (.int .i64 a0_11) := (blk_cell BK263.out 11).trans rfl
      have hcz42_12 : wr.cell? ⟨gb263, 12, none⟩ = some (.bool a0_12) := (blk_cell BK263.out 12).trans rfl
      have hcz42_13 : wr.cell? ⟨gb263, 13, none⟩ = some (.string a0_13) := (blk_cell BK263.out 13).trans rfl
      have hfz42_0 := blk_frozen BK263.out 0
      have hfz42_1 := blk_frozen BK263.out 1
      have hfz42_2 := blk_frozen BK263.out 2
      have hfz42_3 := blk_frozen BK263.out 3
      have hfz42_4 := blk_frozen BK263.out 4
      have hfz42_5 := blk_frozen BK263.out 5
      have hfz42_6 := blk_frozen BK263.out 6
      have hfz42_7 := blk_frozen BK263.out 7
      have hfz42_8 := blk_frozen BK263.out 8
      have hfz42_9 := blk_frozen BK263.out 9
      have hfz42_10 := blk_frozen BK263.out 10
      have hfz42_11 := blk_frozen BK263.out 11
      have hfz42_12 := blk_frozen BK263.out 12
      have hfz42_13 := blk_frozen BK263.out 13
      go_wp2_with (first | ((with_reducible refine gate_callee (f := 37) rfl ?_); refine goesL_ (some 79) rfl rfl Try.func37 (by as_aux_lemma => kernel_rfl) rfl #[.bool a0_12] rfl (by (try simp only [List.map_toArray, List.map_cons, List.map_nil]); first | done | rfl | (simp only [List.length_drop, List.length_take]; rfl)) ?_; (with_reducible refine (shelfmarkref13_flag.calls a0_12 t281 _ A40.out).mono ?_); rintro e w43 ⟨v282, rfl, ho0, hb⟩; refine ⟨_, rfl, ?_⟩; have n0_ := Aside0.mk (Kd.R_below (rL HO_4.out) hb); have n1_ := Aside0.mk (Kd.R_elder' (rL HO_7.out) (Kd.R_base ho0) hb); have n2_ := Aside0.mk (Kd.R_lower (Kd.R_new' ho0 (Kd.R_lt (rL HO_7.out))) (below_size (hL HB.out))); have n3_ := Aside0.mk (blk_below (bL BK263.out) hb); have n4_ := Aside0.mk (below_step (hL HB.out) hb); clear HO_4; clear HO_7; clear BK263; clear HB; have HO_4 := n0_; have HO_7 := n1_; have HO283 := n2_; have BK263 := n3_; have HB := n4_; clear n0_ n1_ n2_ n3_ n4_; (try clear hb); (try clear hb2); (try clear hk); (try clear hi); (try clear ho0); obtain ⟨Ao45, co45, eo45⟩ := Kd.R_slice HO283.out; subst eo45) | ((with_reducible refine gate_builtin (b := .append) (xs := #[.tmp 76, .tmp 79]) rfl ?_); (try (refine gate_guard (by rfl) ?_; dsimp only)); at_builtin; refine Kd.R_append_rows (Kd.int .u8) (w0 := w) w.heap.size rfl (.tmp 76) (.tmp 79) 43 5 (.int .u8 0) 1 rfl Try.underlying43 info5 rfl (by decide) (by omega) u7 x7_5 t281 _ _ _ (fun k_ => some k_ ≠ (.slice Ao45 t281.length co45 : Value).ownBlock) (fun _ => False) rfl rfl ?aO ?aR (fun _ _ h => h) (fun _ h => h.elim) ?aF ?aB ?aS ?aL ?_; (case aR => repeat (first | exact (Kd.R_reads' HO283.out).2.2 | (with_reducible refine Kd.C_alloc ?_ _) | (with_reducible refine Kd.C_drewN ?_ _) | (with_reducible refine Kd.C_drew ?_))); (case aB => exact (hL HB.out)); (case aF => exact (fun k_ hk => Kd.fresh' (Kd.R_lt (rL HO283.out)) k_ hk)); (case aO => exact (by (with_reducible repeat (first | apply Kd.R_alloc | apply Kd.R_drewN | apply Kd.R_drew)); exact Kd.R_mono HO_7.out (fun _ hk => hk.2))); (case aS => exact (below_size (hL HB.out))); (case aL => have := LMc41.out; omega); intro v285 w44 ho hb hg hat; rw [← Ny284.out] at ho; have n0_ := Aside0.mk (Kd.R_over' (rL HO_4.out) (Kd.R_typed (rL HO_7.out)) (by decide) hg); have n1_ := Aside0.mk (blk_grown (g := gb263) (o := .cells #[.int .i64 a0_0, .int .i64 a0_1, .int .i64 a0_2, .int .i64 a0_3, .int .i64 a0_4, .int .i64 a0_5, .int .i64 a0_6, .string a0_7, .string a0_8, .slice A0_9 l0_9.length c0_9, .slice A0_10 l0_10.length c0_10, .int .i64 a0_11, .bool a0_12, .string a0_13] 27 (0, 0)) (bL BK263.out) hg (Kd.R_ne HO_7.out BK263.out (by decide))); have n2_ := Aside0.mk (Kd.R_after (ok := (fun _ => True)) (rL HO283.out) hg hat); have n3_ := Aside0.mk (hb); have n4_ := Aside0.mk (ho); clear HO_4; clear BK263; clear HO283; clear HB; clear HO_7; have HO_4 := n0_; have BK263 := n1_; have HO283 := n2_; have HB := n3_; have HO286 := n4_; clear n0_ n1_ n2_ n3_ n4_; clear ho hb hg hat; have hcz46_0 : w44.cell? ⟨gb263, 0, none⟩ = some (.int .i64 a0_0) := (blk_cell BK263.out 0).trans rfl; have hcz46_1 : w44.cell? ⟨gb263, 1, none⟩ = some (.int .i64 a0_1) := (blk_cell BK263.out 1).trans rfl; have hcz46_2 : w44.cell? ⟨gb263, 2, none⟩ = some (.int .i64 a0_2) := (blk_cell BK263.out 2).trans rfl; have hcz46_3 : w44.cell? ⟨gb263, 3, none⟩ = some (.int .i64 a0_3) := (blk_cell BK263.out 3).trans rfl; have hcz46_4 : w44.cell? ⟨gb263, 4, none⟩ = some (.int .i64 a0_4) := (blk_cell BK263.out 4).trans rfl; have hcz46_5 : w44.cell? ⟨gb263, 5, none⟩ = some (.int .i64 a0_5) := (blk_cell BK263.out 5).trans rfl; have hcz46_6 : w44.cell? ⟨gb263, 6, none⟩ = some (.int .i64 a0_6) := (blk_cell BK263.out 6).trans rfl; have hcz46_7 : w44.cell? ⟨gb263, 7, none⟩ = some (.string a0_7) := (blk_cell BK263.out 7).trans rfl; have hcz46_8 : w44.cell? ⟨gb263, 8, none⟩ = some (.string a0_8) := (blk_cell BK263.out 8).trans rfl; have hcz46_9 : w44.cell? ⟨gb263, 9, none⟩ = some (.slice A0_9 l0_9.length c0_9) := (blk_cell BK263.out 9).trans rfl; have hcz46_10 : w44.cell? ⟨gb263, 10, none⟩ = some (.slice A0_10 l0_10.length c0_10) := (blk_cell BK263.out 10).trans rfl; have hcz46_11 : w44.cell? ⟨gb263, 11, none⟩ = some (.int .i64 a0_11) := (blk_cell BK263.out 11).trans rfl; have hcz46_12 : w44.cell? ⟨gb263, 12, none⟩ = some (.bool a0_12) := (blk_cell BK263.out 12).trans rfl; have hcz46_13 : w44.cell? ⟨gb263, 13, none⟩ = some (.string a0_13) := (blk_cell BK263.out 13).trans rfl; have hfz46_0 := blk_frozen BK263.out 0; have hfz46_1 := blk_frozen BK263.out 1; have hfz46_2 := blk_frozen BK263.out 2; have hfz46_3 := blk_frozen BK263.out 3; have hfz46_4 := blk_frozen BK263.out 4; have hfz46_5 := blk_frozen BK263.out 5; have hfz46_6 := blk_frozen BK263.out 6; have hfz46_7 := blk_frozen BK263.out 7; have hfz46_8 := blk_frozen BK263.out 8; have hfz46_9 := blk_frozen BK263.out 9; have hfz46_10 := blk_frozen BK263.out 10; have hfz46_11 := blk_frozen BK263.out 11; have hfz46_12 := blk_frozen BK263.out 12; have hfz46_13 := blk_frozen BK263.out 13) | ((with_reducible refine gate_dst (N := 87) rfl ?_); (try (refine gate_guard (by rfl) ?_; dsimp only)); refine Kd.R_lit Kd.string _ 9 ?hg (N := 87) ?hd (xs := ([a0_7, a0_8, a0_13] : List ByteArray)) (inner := [.string a0_7, .string a0_8, .string a0_13]) (ok := fun _ => True) (okp := fun _ => True) ?hr ?hp (fun _ hk => hk) trivial (Below.refl _ _) (Nat.le_refl _) (by simp) ?_; (case hd => rfl); (case hg => rfl); (case hr => first | (go_simp; done) | (go_simp; rfl)); (case hp => exact (Reps.one (show Kd.M Kd.string _ _ _ a0_7 [.string a0_7] from rfl) (Reps.one (show Kd.M Kd.string _ _ _ a0_8 [.string a0_8] from rfl) (Reps.one (show Kd.M Kd.string _ _ _ a0_13 [.string a0_13] from rfl) (Reps.none _ _))))); intro v288 w47 ho48 hb hg_ hnew_; clear hg_ hnew_; (first | rw [← Ny287.out] at ho48 | (simp only [Int.reduceToNat] at ho48; rw [← Ny287.out] at ho48)); have n0_ := Aside0.mk (Kd.R_below (rL HO_4.out) hb); have n1_ := Aside0.mk (Kd.R_below (rL HO283.out) hb); have n2_ := Aside0.mk (Kd.R_below (rL HO286.out) hb); have n3_ := Aside0.mk (Kd.R_lower ho48 (below_size (hL HB.out))); have n4_ := Aside0.mk (blk_below (bL BK263.out) hb); have n5_ := Aside0.mk (below_step (hL HB.out) hb); clear HO_4; clear HO283; clear HO286; clear BK263; clear HB; have HO_4 := n0_; have HO283 := n1_; have HO286 := n2_; have HO289 := n3_; have BK263 := n4_; have HB := n5_; clear n0_ n1_ n2_ n3_ n4_ n5_; clear hb ho48))
      go_loopg [7, 10] k5 (fun kq v7 v10 w' => ∃ (x7_6 : List Int) (x10_6 : Int), v10 = .int .i64 x10_6 ∧ Aside0 (shelfmarkref13_Pack.l3 kq x7_6 y287 x10_6 a0_0 a0_1 a0_2 a0_3 a0_4 a0_5 a0_6 a0_7 a0_8 l0_9 l0_10 a0_11 a0_12 a0_13 = some (r1, r2)) ∧ Aside0 (kq ≤ k5) ∧ Aside0 (Kd.R (Kd.int .u8) 5 w' w.heap.size (fun _ => True) v7 x7_6) ∧ Aside0 (Kd.R Kd.string 9 w' w.heap.size (fun _ => True) v288 y287) ∧ Aside0 (w'.heap[gb263]? = some (.cells #[.int .i64 a0_0, .int .i64 a0_1, .int .i64 a0_2, .int .i64 a0_3, .int .i64 a0_4, .int .i64 a0_5, .int .i64 a0_6, .string a0_7, .string a0_8, (.slice A0_9 l0_9.length c0_9), (.slice A0_10 l0_10.length c0_10), .int .i64 a0_11, .bool a0_12, .string a0_13] 27 (0, 0))) ∧ Aside0 (Below w.heap.size w w'))
      case atStart => exact ⟨(y284), (0), (by first | rfl | (simp; done) | (simp [*]; done) | (simp [ne_nil_bytes]; done) | (simp [eq_nil_bytes]; done)), H', ⟨Nat.le_refl _⟩, ⟨by (with_reducible repeat (first | apply Kd.R_alloc | apply Kd.R_drewN | apply Kd.R_drew)); exact Kd.R_mono HO286.out (fun _ hk => trivial)⟩, ⟨by exact rL HO289.out⟩, ⟨by exact bL BK263.out⟩, ⟨hL HB.out⟩⟩
      as_aux_lemma =>
       clear H'
       (try clear c1); (try clear c2); (try clear p2 p2); (try clear q2 q2); (try clear hx2); (try clear c3); (try clear c4); (try clear c4b0); (try clear c4b0z); (try clear p6 p6); (try clear c7); (try clear c11); (try clear c11b0); (try clear c11b0z); (try clear c12); (try clear c12b0); (try clear c12b0z); (try clear c13); (try clear c14); (try clear c18); (try clear c18b0); (try clear c18b0z); (try clear c19); (try clear c19b0); (try clear c19b0z); (try clear c21); (try clear c26); (try clear c26b0); (try clear c26b0z); (try clear c26b1); (try clear c26b1z); (try clear p26 p26); (try clear q26 q26); (try clear hx26); (try clear p27); (try clear q27); (try clear hx27); (try clear c28); (try clear c29); (try clear c33); (try clear c33b0); (try clear c33b0z); (try clear c34); (try clear c34b0); (try clear c34b0z); (try clear c36); (try clear c37); (try clear c41); (try clear hcz22_0 hcz22_1 hcz22_10 hcz22_11 hcz22_12 hcz22_13 hcz22_2 hcz22_3 hcz22_4 hcz22_5 hcz22_6 hcz22_7 hcz22_8 hcz22_9); (try clear hcz23_0 hcz23_1 hcz23_10 hcz23_11 hcz23_12 hcz23_13 hcz23_2 hcz23_3 hcz23_4 hcz23_5 hcz23_6 hcz23_7 hcz23_8 hcz23_9); (try clear hcz25_0 hcz25_1 hcz25_10 hcz25_11 hcz25_12 hcz25_13 hcz25_2 hcz25_3 hcz25_4 hcz25_5 hcz25_6 hcz25_7 hcz25_8 hcz25_9); (try clear hcz27_0 hcz27_1 hcz27_10 hcz27_11 hcz27_12 hcz27_13 hcz27_2 hcz27_3 hcz27_4 hcz27_5 hcz27_6 hcz27_7 hcz27_8 hcz27_9); (try clear hcz28_0 hcz28_1 hcz28_10 hcz28_11 hcz28_12 hcz28_13 hcz28_2 hcz28_3 hcz28_4 hcz28_5 hcz28_6 hcz28_7 hcz28_8 hcz28_9); (try clear hcz31_0 hcz31_1 hcz31_10 hcz31_11 hcz31_12 hcz31_13 hcz31_2 hcz31_3 hcz31_4 hcz31_5 hcz31_6 hcz31_7 hcz31_8 hcz31_9); (try clear hcz42_0 hcz42_1 hcz42_10 hcz42_11 hcz42_12 hcz42_13 hcz42_2 hcz42_3 hcz42_4 hcz42_5 hcz42_6 hcz42_7 hcz42_8 hcz42_9); (try clear hcz46_0 hcz46_1 hcz46_10 hcz46_11 hcz46_12 hcz46_13 hcz46_2 hcz46_3 hcz46_4 hcz46_5 hcz46_6 hcz46_7 hcz46_8 hcz46_9); (try clear hcz5_0 hcz5_1 hcz5_10 hcz5_11 hcz5_12 hcz5_13 hcz5_2 hcz5_3 hcz5_4 hcz5_5 hcz5_6 hcz5_7 hcz5_8 hcz5_9); (try clear hcz6_0 hcz6_1 hcz6_10 hcz6_11 hcz6_12 hcz6_13 hcz6_2 hcz6_3 hcz6_4 hcz6_5 hcz6_6 hcz6_7 hcz6_8 hcz6_9); (try clear hcz9_0 hcz9_1 hcz9_10 hcz9_11 hcz9_12 hcz9_13 hcz9_2 hcz9_3 hcz9_4 hcz9_5 hcz9_6 hcz9_7 hcz9_8 hcz9_9); (try clear hfz22_0 hfz22_1 hfz22_10 hfz22_11 hfz22_12 hfz22_13 hfz22_2 hfz22_3 hfz22_4 hfz22_5 hfz22_6 hfz22_7 hfz22_8 hfz22_9); (try clear hfz23_0 hfz23_1 hfz23_10 hfz23_11 hfz23_12 hfz23_13 hfz23_2 hfz23_3 hfz23_4 hfz23_5 hfz23_6 hfz23_7 hfz23_8 hfz23_9); (try clear hfz25_0 hfz25_1 hfz25_10 hfz25_11 hfz25_12 hfz25_13 hfz25_2 hfz25_3 hfz25_4 hfz25_5 hfz25_6 hfz25_7 hfz25_8 hfz25_9); (try clear hfz27_0 hfz27_1 hfz27_10 hfz27_11 hfz27_12 hfz27_13 hfz27_2 hfz27_3 hfz27_4 hfz27_5 hfz27_6 hfz27_7 hfz27_8 hfz27_9); (try clear hfz28_0 hfz28_1 hfz28_10 hfz28_11 hfz28_12 hfz28_13 hfz28_2 hfz28_3 hfz28_4 hfz28_5 hfz28_6 hfz28_7 hfz28_8 hfz28_9); (try clear hfz31_0 hfz31_1 hfz31_10 hfz31_11 hfz31_12 hfz31_13 hfz31_2 hfz31_3 hfz31_4 hfz31_5 hfz31_6 hfz31_7 hfz31_8 hfz31_9); (try clear hfz42_0 hfz42_1 hfz42_10 hfz42_11 hfz42_12 hfz42_13 hfz42_2 hfz42_3 hfz42_4 hfz42_5 hfz42_6 hfz42_7 hfz42_8 hfz42_9); (try clear hfz46_0 hfz46_1 hfz46_10 hfz46_11 hfz46_12 hfz46_13 hfz46_2 hfz46_3 hfz46_4 hfz46_5 hfz46_6 hfz46_7 hfz46_8 hfz46_9); (try clear hfz5_0 hfz5_1 hfz5_10 hfz5_11 hfz5_12 hfz5_13 hfz5_2 hfz5_3 hfz5_4 hfz5_5 hfz5_6 hfz5_7 hfz5_8 hfz5_9); (try clear hfz6_0 hfz6_1 hfz6_10 hfz6_11 hfz6_12 hfz6_13 hfz6_2 hfz6_3 hfz6_4 hfz6_5 hfz6_6 hfz6_7 hfz6_8 hfz6_9); (try clear hfz9_0 hfz9_1 hfz9_10 hfz9_11 hfz9_12 hfz9_13 hfz9_2 hfz9_3 hfz9_4 hfz9_5 hfz9_6 hfz9_7 hfz9_8 hfz9_9); (try clear hx267_0); (try clear hx269_0); (try clear hx269_1); (try clear hx269_2); (try clear hx274_0); (try clear p267); (try clear p269); (try clear p274); (try clear q267); (try clear q269); (try clear q274)
       obtain ⟨x7_6, x10_6, rfl, HA, HK6, HO_7, HO_9, BK263, HB⟩ := hrel
       rcases gk with _ | k6
       ·exact absurd HA.out (by simp [shelfmarkref13_Pack.l3])
       have H := HA.out
       clear HA
       simp only [shelfmarkref13_Pack.l3] at H
       by_cases c49 : x10_6 < (y287.length : Int)
       ·rw [if_pos c49] at H
        have c49b0 : decide (x10_6 < (y287.length : Int)) = true := decide_eq_true c49
        clear c49
        by_cases c50 : 0 ≤ x10_6
        rotate_left
        ·rw [if_neg c50] at H
         exact absurd H (by simp)
        rw [if_pos c50] at H
        have c50b0 : decide (0 ≤ x10_6) = true := decide_eq_true c50
        clear c50
        by_cases c51 : ((rdOf ByteArray.empty y287 x10_6).size : Int) > 65536
        ·rw [if_pos c51] at H
         have c51b0 : decide (65536 < ((rdOf ByteArray.empty y287 x10_6).size : Int)) = true := decide_eq_true c51
         have c51b1 : decide (65536 < (rdOf ByteArray.empty y287 x10_6).size) = true := decide_eq_true (by omega)
         clear c51
         simp only [Option.some.injEq, Prod.mk.injEq] at H
         obtain ⟨rfl, rfl⟩ := H
         obtain ⟨Ao52, co52, eo52⟩ := Kd.R_slice HO_9.out
         subst eo52
         have p290 : 0 ≤ (x10_6 : Int) := of_decide_eq_true (by first | (with_reducible assumption) | assumption)
         have q290 : x10_6 < (y287.length : Int) := of_decide_eq_true (by first | (with_reducible assumption) | assumption)
         obtain ⟨ad290, e290, hx290_0⟩ := Kd.at_string (Kd.R_reads' HO_9.out).2.2 x10_6 p290 q290
         cases e290
         replace p290 := eq_true p290
         replace q290 := eq_true q290
         go_wp2
         go_ret2
         exact ⟨by first | rfl | (simp [errW_none, errW_some] <;> rfl) | (simp [*, errW_none, errW_some] <;> rfl), hL HB.out⟩
        rw [if_neg c51] at H
        have c51b0 : decide (65536 < ((rdOf ByteArray.empty y287 x10_6).size : Int)) = false := decide_eq_false c51
        have c51b1 : decide (65536 < (rdOf ByteArray.empty y287 x10_6).size) = false := decide_eq_false (by omega)
        clear c51
        replace H := Option.bind_eq_some_iff.mp H
        obtain ⟨t292, A530, H⟩ := H
        replace H : (if x7_6.length + t292.length < 140737488355328 then (shelfmarkref13_Pack.l3 k6 (x7_6 ++ t292) y287 (wrap64 (x10_6 + 1)) a0_0 a0_1 a0_2 a0_3 a0_4 a0_5 a0_6 a0_7 a0_8 l0_9 l0_10 a0_11 a0_12 a0_13) else (none)) = some (r1, r2) := H
        have A53 := Aside0.mk A530
        clear A530
        by_cases c54 : x7_6.length + t292.length < 140737488355328
        rotate_left
        ·rw [if_neg c54] at H
         exact absurd H (by simp)
        rw [if_pos c54] at H
        have LMc54 := Aside0.mk c54
        clear c54
        obtain ⟨y295, hy295⟩ : ∃ y_ : List Int, y_ = (x7_6 ++ t292) := ⟨_, rfl⟩
        replace H : (shelfmarkref13_Pack.l3 k6 y295 y287 (wrap64 (x10_6 + 1)) a0_0 a0_1 a0_2 a0_3 a0_4 a0_5 a0_6 a0_7 a0_8 l0_9 l0_10 a0_11 a0_12 a0_13) = some (r1, r2) := by first | (rw [hy295]; with_reducible exact H) | (have H2_ := (Option.bind_some _ _).symm.trans H; rw [hy295]; with_reducible exact H2_) | (have H2_ := (Option.bind_some _ _).symm.trans H; with_reducible exact H2_) | with_reducible exact H | (rw [hy295]; exact H) | exact H
        have Ny295 := Aside0.mk hy295
        clear hy295
        have H' := Aside0.mk H
        clear H
        obtain ⟨Ao55, co55, eo55⟩ := Kd.R_slice HO_9.out
        subst eo55
        have p290 : 0 ≤ (x10_6 : Int) := of_decide_eq_true (by first | (with_reducible assumption) | assumption)
        have q290 : x10_6 < (y287.length : Int) := of_decide_eq_true (by first | (with_reducible assumption) | assumption)
        obtain ⟨ad290, e290, hx290_0⟩ := Kd.at_string (Kd.R_reads' HO_9.out).2.2 x10_6 p290 q290
        cases e290
        replace p290 := eq_true p290
        replace q290 := eq_true q290
        have p291 : 0 ≤ (x10_6 : Int) := of_decide_eq_true (by first | (with_reducible assumption) | assumption)
        have q291 : x10_6 < (y287.length : Int) := of_decide_eq_true (by first | (with_reducible assumption) | assumption)
        obtain ⟨ad291, e291, hx291_0⟩ := Kd.at_string (Kd.R_reads' HO_9.out).2.2 x10_6 p291 q291
        obtain rfl : ad290 = ad291 := (by injection e291)
        replace p291 := eq_true p291
        replace q291 := eq_true q291
        go_wp2_with (first | ((with_reducible refine gate_callee (f := 38) rfl ?_); refine goesL_ (some 105) rfl rfl Try.func38 (by as_aux_lemma => kernel_rfl) rfl #[.string (rdOf ByteArray.empty y287 x10_6)] rfl (by (try simp only [List.map_toArray, List.map_cons, List.map_nil]); first | done | rfl | (simp only [List.length_drop, List.length_take]; rfl)) ?_; (with_reducible refine (shelfmarkref01_Text.calls k6 (rdOf ByteArray.empty y287 x10_6) t292 _ A53.out).mono ?_); rintro e w56 ⟨v293, rfl, ho0, hb⟩; refine ⟨_, rfl, ?_⟩; have n0_ := Aside0.mk (Kd.R_elder' (rL HO_7.out) (Kd.R_base ho0) hb); have n1_ := Aside0.mk (Kd.R_below (rL HO_9.out) hb); have n2_ := Aside0.mk (Kd.R_lower (Kd.R_new' ho0 (Kd.R_lt (rL HO_7.out))) (below_size (hL HB.out))); have n3_ := Aside0.mk (blk_below (bL BK263.out) hb); have n4_ := Aside0.mk (below_step (hL HB.out) hb); clear HO_7; clear HO_9; clear BK263; clear HB; have HO_7 := n0_; have HO_9 := n1_; have HO294 := n2_; have BK263 := n3_; have HB := n4_; clear n0_ n1_ n2_ n3_ n4_; (try clear hb); (try clear hb2); (try clear hk); (try clear hi); (try clear ho0); obtain ⟨Ao58, co58, eo58⟩ := Kd.R_slice HO294.out; subst eo58) | ((with_reducible refine gate_builtin (b := .append) (xs := #[.tmp 100, .tmp 105]) rfl ?_); (try (refine gate_guard (by rfl) ?_; dsimp only)); at_builtin; refine Kd.R_append_rows (Kd.int .u8) (w0 := w) w.heap.size rfl (.tmp 100) (.tmp 105) 43 5 (.int .u8 0) 1 rfl Try.underlying43 info5 rfl (by decide) (by omega) u7 x7_6 t292 _ _ _ (fun k_ => some k_ ≠ (.slice Ao58 t292.length co58 : Value).ownBlock) (fun _ => False) rfl rfl ?aO ?aR (fun _ _ h => h) (fun _ h => h.elim) ?aF ?aB ?aS ?aL ?_; (case aR => repeat (first | exact (Kd.R_reads' HO294.out).2.2 | (with_reducible refine Kd.C_alloc ?_ _) | (with_reducible refine Kd.C_drewN ?_ _) | (with_reducible refine Kd.C_drew ?_))); (case aB => exact (hL HB.out)); (case aF => exact (fun k_ hk => Kd.fresh' (Kd.R_lt (rL HO294.out)) k_ hk)); (case aO => exact (by (with_reducible repeat (first | apply Kd.R_alloc | apply Kd.R_drewN | apply Kd.R_drew)); exact Kd.R_mono HO_7.out (fun _ hk => hk.2))); (case aS => exact (below_size (hL HB.out))); (case aL => have := LMc54.out; omega); intro v296 w57 ho hb hg hat; rw [← Ny295.out] at ho; have n0_ := Aside0.mk (Kd.R_over' (rL HO_9.out) (Kd.R_typed (rL HO_7.out)) (by decide) hg); have n1_ := Aside0.mk (blk_grown (g := gb263) (o := .cells #[.int .i64 a0_0, .int .i64 a0_1, .int .i64 a0_2, .int .i64 a0_3, .int .i64 a0_4, .int .i64 a0_5, .int .i64 a0_6, .string a0_7, .string a0_8, .slice A0_9 l0_9.length c0_9, .slice A0_10 l0_10.length c0_10, .int .i64 a0_11, .bool a0_12, .string a0_13] 27 (0, 0)) (bL BK263.out) hg (Kd.R_ne HO_7.out BK263.out (by decide))); have n2_ := Aside0.mk (Kd.R_after (ok := (fun _ => True)) (rL HO294.out) hg hat); have n3_ := Aside0.mk (hb); have n4_ := Aside0.mk (ho); clear HO_9; clear BK263; clear HO294; clear HB; clear HO_7; have HO_9 := n0_; have BK263 := n1_; have HO294 := n2_; have HB := n3_; have HO297 := n4_; clear n0_ n1_ n2_ n3_ n4_; clear ho hb hg hat))
        go_roundg k6
        case measure => have := HJ1.out; have := HK2.out; have := HK3.out; have := HJ23.out; have := HK5.out; have := HK6.out; omega
        case rel => exact ⟨(y295), (wrap64 (x10_6 + 1)), (by first | rfl | (simp; done) | (simp [*]; done) | (simp [ne_nil_bytes]; done) | (simp [eq_nil_bytes]; done)), H', ⟨by have := HJ1.out; have := HK2.out; have := HK3.out; have := HJ23.out; have := HK5.out; have := HK6.out; omega⟩, ⟨by (with_reducible repeat (first | apply Kd.R_alloc | apply Kd.R_drewN | apply Kd.R_drew)); exact Kd.R_mono HO297.out (fun _ hk => trivial)⟩, ⟨by exact rL HO_9.out⟩, ⟨by exact bL BK263.out⟩, ⟨hL HB.out⟩⟩
       rw [if_neg c49] at H
       have c49b0 : decide (x10_6 < (y287.length : Int)) = false := decide_eq_false c49
       clear c49
       replace H := Option.bind_eq_some_iff.mp H
       obtain ⟨t298, A590, H⟩ := H
       replace H : (if x7_6.length + t298.length < 140737488355328 then (shelfmarkref13_Pack.l4 k6 (x7_6 ++ t298) 0 a0_0 a0_1 a0_2 a0_3 a0_4 a0_5 a0_6 a0_7 a0_8 l0_9 l0_10 a0_11 a0_12 a0_13) else (none)) = some (r1, r2) := H
       have A59 := Aside0.mk A590
       clear A590
       by_cases c60 : x7_6.length + t298.length < 140737488355328
       rotate_left
       ·rw [if_neg c60] at H
        exact absurd H (by simp)
       rw [if_pos c60] at H
       have LMc60 := Aside0.mk c60
       clear c60
       obtain ⟨y301, hy301⟩ : ∃ y_ : List Int, y_ = (x7_6 ++ t298) := ⟨_, rfl⟩
       replace H : (shelfmarkref13_Pack.l4 k6 y301 0 a0_0 a0_1 a0_2 a0_3 a0_4 a0_5 a0_6 a0_7 a0_8 l0_9 l0_10 a0_11 a0_12 a0_13) = some (r1, r2) := by first | (rw [hy301]; with_reducible exact H) | (have H2_ := (Option.bind_some _ _).symm.trans H; rw [hy301]; with_reducible exact H2_) | (have H2_ := (Option.bind_some _ _).symm.trans H; with_reducible exact H2_) | with_reducible exact H | (rw [hy301]; exact H) | exact H
       have Ny301 := Aside0.mk hy301
       clear hy301
       have H' := Aside0.mk H
       clear H
       obtain ⟨Ao61, co61, eo61⟩ := Kd.R_slice HO_9.out
       subst eo61
       have hcz62_0 : wr.cell? ⟨gb263, 0, none⟩ = some (.int .i64 a0_0) := (blk_cell BK263.out 0).trans rfl
       have hcz62_1 : wr.cell? ⟨gb263, 1, none⟩ = some (.int .i64 a0_1) := (blk_cell BK263.out 1).trans rfl
       have hcz62_2 : wr.cell? ⟨gb263, 2, none⟩ = some (.int .i64 a0_2) := (blk_cell BK263.out 2).trans rfl
       have hcz62_3 : wr.cell? ⟨gb263, 3, none⟩ = some (.int .i64 a0_3) := (blk_cell BK263.out 3).trans rfl
       have hcz62_4 : wr.cell? ⟨gb263, 4, none⟩ = some (.int .i64 a0_4) := (blk_cell BK263.out 4).trans rfl
       have hcz62_5 : wr.cell? ⟨gb263, 5, none⟩ = some (.int .i64 a0_5) := (blk_cell BK263.out 5).trans rfl
       have hcz62_6 : wr.cell? ⟨gb263, 6, none⟩ = some (.int .i64 a0_6) := (blk_cell BK263.out 6).trans rfl
       have hcz62_7 : wr.cell? ⟨gb263, 7, none⟩ = some (.string a0_7) := (blk_cell BK263.out 7).trans rfl
       have hcz62_8 : wr.cell? ⟨gb263, 8, none⟩ = some (.string a0_8) := (blk_cell BK263.out 8).trans rfl
       have hcz62_9 : wr.cell? ⟨gb263, 9, none⟩ = some (.slice A0_9 l0_9.length c0_9) := (blk_cell BK263.out 9).trans rfl
       have hcz62_10 : wr.cell? ⟨gb263, 10, none⟩ = some (.slice A0_10 l0_10.length c0_10) := (blk_cell BK263.out 10).trans rfl
       have hcz62_11 : wr.cell? ⟨gb263, 11, none⟩ = some (.int .i64 a0_11) := (blk_cell BK263.out 11).trans rfl
       have hcz62_12 : wr.cell? ⟨gb263, 12, none⟩ = some (.bool a0_12) := (blk_cell BK263.out 12).trans rfl
       have hcz62_13 : wr.cell? ⟨gb263, 13, none⟩ = some (.string a0_13) := (blk_cell BK263.out 13).trans rfl
       have hfz62_0 := blk_frozen BK263.out 0
       have hfz62_1 := blk_frozen BK263.out 1
       have hfz62_2 := blk_frozen BK263.out 2
       have hfz62_3 := blk_frozen BK263.out 3
       have hfz62_4 := blk_frozen BK263.out 4
       have hfz62_5 := blk_frozen BK263.out 5
       have hfz62_6 := blk_frozen BK263.out 6
       have hfz62_7 := blk_frozen BK263.out 7
       have hfz62_8 := blk_frozen BK263.out 8
       have hfz62_9 := blk_frozen BK263.out 9
       have hfz62_10 := blk_frozen BK263.out 10
       have hfz62_11 := blk_frozen BK263.out 11
       have hfz62_12 := blk_frozen BK263.out 12
       have hfz62_13 := blk_frozen BK263.out 13
       go_wp2_with (first | ((with_reducible refine gate_callee (f := 36) rfl ?_); refine goesL_ (some 111) rfl rfl Try.func36 (by as_aux_lemma => kernel_rfl) rfl #[.int .i64 (l0_9.length : Int)] rfl (by (try simp only [List.map_toArray, List.map_cons, List.map_nil]); first | done | rfl | (simp only [List.length_drop, List.length_take]; rfl)) ?_; (with_reducible refine (shelfmarkref01_Num.calls k6 (l0_9.length : Int) t298 _ A59.out).mono ?_); rintro e w63 ⟨v299, rfl, ho0, hb⟩; refine ⟨_, rfl, ?_⟩; have n0_ := Aside0.mk (Kd.R_elder' (rL HO_7.out) (Kd.R_base ho0) hb); have n1_ := Aside0.mk (Kd.R_below (rL HO_9.out) hb); have n2_ := Aside0.mk (Kd.R_lower (Kd.R_new' ho0 (Kd.R_lt (rL HO_7.out))) (below_size (hL HB.out))); have n3_ := Aside0.mk (blk_below (bL BK263.out) hb); have n4_ := Aside0.mk (below_step (hL HB.out) hb); clear HO_7; clear HO_9; clear BK263; clear HB; have HO_7 := n0_; have HO_9 := n1_; have HO300 := n2_; have BK263 := n3_; have HB := n4_; clear n0_ n1_ n2_ n3_ n4_; (try clear hb); (try clear hb2); (try clear hk); (try clear hi); (try clear ho0); obtain ⟨Ao65, co65, eo65⟩ := Kd.R_slice HO300.out; subst eo65) | ((with_reducible refine gate_builtin (b := .append) (xs := #[.tmp 107, .tmp 111]) rfl ?_); (try (refine gate_guard (by rfl) ?_; dsimp only)); at_builtin; refine Kd.R_append_rows (Kd.int .u8) (w0 := w) w.heap.size rfl (.tmp 107) (.tmp 111) 43 5 (.int .u8 0) 1 rfl Try.underlying43 info5 rfl (by decide) (by omega) u7 x7_6 t298 _ _ _ (fun k_ => some k_ ≠ (.slice Ao65 t298.length co65 : Value).ownBlock) (fun _ => False) rfl rfl ?aO ?aR (fun _ _ h => h) (fun _ h => h.elim) ?aF ?aB ?aS ?aL ?_; (case aR => repeat (first | exact (Kd.R_reads' HO300.out).2.2 | (with_reducible refine Kd.C_alloc ?_ _) | (with_reducible refine Kd.C_drewN ?_ _) | (with_reducible refine Kd.C_drew ?_))); (case aB => exact (hL HB.out)); (case aF => exact (fun k_ hk => Kd.fresh' (Kd.R_lt (rL HO300.out)) k_ hk)); (case aO => exact (by (with_reducible repeat (first | apply Kd.R_alloc | apply Kd.R_drewN | apply Kd.R_drew)); exact Kd.R_mono HO_7.out (fun _ hk => hk.2))); (case aS => exact (below_size (hL HB.out))); (case aL => have := LMc60.out; omega); intro v302 w64 ho hb hg hat; rw [← Ny301.out] at ho; have n0_ := Aside0.mk (Kd.R_over' (rL HO_9.out) (Kd.R_typed (rL HO_7.out)) (by decide) hg); have n1_ := Aside0.mk (blk_grown (g := gb263) (o := .cells #[.int .i64 a0_0, .int .i64 a0_1, .int .i64 a0_2, .int .i64 a0_3, .int .i64 a0_4, .int .i64 a0_5, .int .i64 a0_6, .string a0_7, .string a0_8, .slice A0_9 l0_9.length c0_9, .slice A0_10 l0_10.length c0_10, .int .i64 a0_11, .bool a0_12, .string a0_13] 27 (0, 0)) (bL BK263.out) hg (Kd.R_ne HO_7.out BK263.out (by decide))); have n2_ := Aside0.mk (Kd.R_after (ok := (fun _ => True)) (rL HO300.out) hg hat); have n3_ := Aside0.mk (hb); have n4_ := Aside0.mk (ho); clear HO_9; clear BK263; clear HO300; clear HB; clear HO_7; have HO_9 := n0_; have BK263 := n1_; have HO300 := n2_; have HB := n3_; have HO303 := n4_; clear n0_ n1_ n2_ n3_ n4_; clear ho hb hg hat))
       go_loopg [7, 11] k6 (fun kq v7 v11 w' => ∃ (x7_7 : List Int) (x11_7 : Int), v11 = .int .i64 x11_7 ∧ Aside0 (shelfmarkref13_Pack.l4 kq x7_7 x11_7 a0_0 a0_1 a0_2 a0_3 a0_4 a0_5 a0_6 a0_7 a0_8 l0_9 l0_10 a0_11 a0_12 a0_13 = some (r1, r2)) ∧ Aside0 (kq ≤ k6) ∧ Aside0 (Kd.R (Kd.int .u8) 5 w' w.heap.size (fun _ => True) v7 x7_7) ∧ Aside0 (w'.heap[gb263]? = some (.cells #[.int .i64 a0_0, .int .i64 a0_1, .int .i64 a0_2, .int .i64 a0_3, .int .i64 a0_4, .int .i64 a0_5, .int .i64 a0_6, .string a0_7, .string a0_8, (.slice A0_9 l0_9.length c0_9), (.slice A0_10 l0_10.length c0_10), .int .i64 a0_11, .bool a0_12, .string a0_13] 27 (0, 0))) ∧ Aside0 (Below w.heap.size w w'))
       case atStart => exact ⟨(y301), (0), (by first | rfl | (simp; done) | (simp [*]; done) | (simp [ne_nil_bytes]; done) | (simp [eq_nil_bytes]; done)), H', ⟨Nat.le_refl _⟩, ⟨by (with_reducible repeat (first | apply Kd.R_alloc | apply Kd.R_drewN | apply Kd.R_drew)); exact Kd.R_mono HO303.out (fun _ hk => trivial)⟩, ⟨by exact bL BK263.out⟩, ⟨hL HB.out⟩⟩
       as_aux_lemma =>
        clear H'
        (try clear c1); (try clear c2); (try clear p2 p2); (try clear q2 q2); (try clear hx2); (try clear c3); (try clear c4); (try clear c4b0); (try clear c4b0z); (try clear c5); (try clear c6); (try clear p6 p6); (try clear c7); (try clear c11); (try clear c11b0); (try clear c11b0z); (try clear c12); (try clear c12b0); (try clear c12b0z); (try clear c13); (try clear c14); (try clear c18); (try clear c18b0); (try clear c18b0z); (try clear c19); (try clear c19b0); (try clear c19b0z); (try clear c21); (try clear c26); (try clear c26b0); (try clear c26b0z); (try clear c26b1); (try clear c26b1z); (try clear p26 p26); (try clear q26 q26); (try clear hx26); (try clear p27 p27); (try clear q27 q27); (try clear hx27); (try clear c28); (try clear c29); (try clear p29); (try clear q29); (try clear hx29); (try clear c33); (try clear c33b0); (try clear c33b0z); (try clear c34); (try clear c34b0); (try clear c34b0z); (try clear c36); (try clear c37); (try clear c38); (try clear c41); (try clear c49); (try clear c49b0); (try clear c49b0z); (try clear c50); (try clear c50b0); (try clear c50b0z); (try clear c51); (try clear c51b0); (try clear c51b0z); (try clear c51b1); (try clear c51b1z); (try clear c54); (try clear c60); (try clear p64); (try clear hcz22_0 hcz22_1 hcz22_10 hcz22_11 hcz22_12 hcz22_13 hcz22_2 hcz22_3 hcz22_4 hcz22_5 hcz22_6 hcz22_7 hcz22_8 hcz22_9); (try clear hcz23_0 hcz23_1 hcz23_10 hcz23_11 hcz23_12 hcz23_13 hcz23_2 hcz23_3 hcz23_4 hcz23_5 hcz23_6 hcz23_7 hcz23_8 hcz23_9); (try clear hcz25_0 hcz25_1 hcz25_10 hcz25_11 hcz25_12 hcz25_13 hcz25_2 hcz25_3 hcz25_4 hcz25_5 hcz25_6 hcz25_7 hcz25_8 hcz25_9); (try clear hcz27_0 hcz27_1 hcz27_10 hcz27_11 hcz27_12 hcz27_13 hcz27_2 hcz27_3 hcz27_4 hcz27_5 hcz27_6 hcz27_7 hcz27_8 hcz27_9); (try clear hcz28_0 hcz28_1 hcz28_10 hcz28_11 hcz28_12 hcz28_13 hcz28_2 hcz28_3 hcz28_4 hcz28_5 hcz28_6 hcz28_7 hcz28_8 hcz28_9); (try clear hcz31_0 hcz31_1 hcz31_10 hcz31_11 hcz31_12 hcz31_13 hcz31_2 hcz31_3 hcz31_4 hcz31_5 hcz31_6 hcz31_7 hcz31_8 hcz31_9); (try clear hcz42_0 hcz42_1 hcz42_10 hcz42_11 hcz42_12 hcz42_13 hcz42_2 hcz42_3 hcz42_4 hcz42_5 hcz42_6 hcz42_7 hcz42_8 hcz42_9); (try clear hcz46_0 hcz46_1 hcz46_10 hcz46_11 hcz46_12 hcz46_13 hcz46_2 hcz46_3 hcz46_4 hcz46_5 hcz46_6 hcz46_7 hcz46_8 hcz46_9); (try clear hcz5_0 hcz5_1 hcz5_10 hcz5_11 hcz5_12 hcz5_13 hcz5_2 hcz5_3 hcz5_4 hcz5_5 hcz5_6 hcz5_7 hcz5_8 hcz5_9); (try clear hcz62_0 hcz62_1 hcz62_10 hcz62_11 hcz62_12 hcz62_13 hcz62_2 hcz62_3 hcz62_4 hcz62_5 hcz62_6 hcz62_7 hcz62_8 hcz62_9); (try clear hcz6_0 hcz6_1 hcz6_10 hcz6_11 hcz6_12 hcz6_13 hcz6_2 hcz6_3 hcz6_4 hcz6_5 hcz6_6 hcz6_7 hcz6_8 hcz6_9); (try clear hcz9_0 hcz9_1 hcz9_10 hcz9_11 hcz9_12 hcz9_13 hcz9_2 hcz9_3 hcz9_4 hcz9_5 hcz9_6 hcz9_7 hcz9_8 hcz9_9); (try clear hfz22_0 hfz22_1 hfz22_10 hfz22_11 hfz22_12 hfz22_13 hfz22_2 hfz22_3 hfz22_4 hfz22_5 hfz22_6 hfz22_7 hfz22_8 hfz22_9); (try clear hfz23_0 hfz23_1 hfz23_10 hfz23_11 hfz23_12 hfz23_13 hfz23_2 hfz23_3 hfz23_4 hfz23_5 hfz23_6 hfz23_7 hfz23_8 hfz23_9); (try clear hfz25_0 hfz25_1 hfz25_10 hfz25_11 hfz25_12 hfz25_13 hfz25_2 hfz25_3 hfz25_4 hfz25_5 hfz25_6 hfz25_7 hfz25_8 hfz25_9); (try clear hfz27_0 hfz27_1 hfz27_10 hfz27_11 hfz27_12 hfz27_13 hfz27_2 hfz27_3 hfz27_4 hfz27_5 hfz27_6 hfz27_7 hfz27_8 hfz27_9); (try clear hfz28_0 hfz28_1 hfz28_10 hfz28_11 hfz28_12 hfz28_13 hfz28_2 hfz28_3 hfz28_4 hfz28_5 hfz28_6 hfz28_7 hfz28_8 hfz28_9); (try clear hfz31_0 hfz31_1 hfz31_10 hfz31_11 hfz31_12 hfz31_13 hfz31_2 hfz31_3 hfz31_4 hfz31_5 hfz31_6 hfz31_7 hfz31_8 hfz31_9); (try clear hfz42_0 hfz42_1 hfz42_10 hfz42_11 hfz42_12 hfz42_13 hfz42_2 hfz42_3 hfz42_4 hfz42_5 hfz42_6 hfz42_7 hfz42_8 hfz42_9); (try clear hfz46_0 hfz46_1 hfz46_10 hfz46_11 hfz46_12 hfz46_13 hfz46_2 hfz46_3 hfz46_4 hfz46_5 hfz46_6 hfz46_7 hfz46_8 hfz46_9); (try clear hfz5_0 hfz5_1 hfz5_10 hfz5_11 hfz5_12 hfz5_13 hfz5_2 hfz5_3 hfz5_4 hfz5_5 hfz5_6 hfz5_7 hfz5_8 hfz5_9); (try clear hfz62_0 hfz62_1 hfz62_10 hfz62_11 hfz62_12 hfz62_13 hfz62_2 hfz62_3 hfz62_4 hfz62_5 hfz62_6 hfz62_7 hfz62_8 hfz62_9); (try clear hfz6_0 hfz6_1 hfz6_10 hfz6_11 hfz6_12 hfz6_13 hfz6_2 hfz6_3 hfz6_4 hfz6_5 hfz6_6 hfz6_7 hfz6_8 hfz6_9); (try clear hfz9_0 hfz9_1 hfz9_10 hfz9_11 hfz9_12 hfz9_13 hfz9_2 hfz9_3 hfz9_4 hfz9_5 hfz9_6 hfz9_7 hfz9_8 hfz9_9); (try clear hx267_0); (try clear hx269_0); (try clear hx269_1); (try clear hx269_2); (try clear hx274_0); (try clear hx290_0); (try clear hx291_0); (try clear p267); (try clear p269); (try clear p274); (try clear p290); (try clear p291); (try clear q267); (try clear q269); (try clear q274); (try clear q290); (try clear q291)
        obtain ⟨x7_7, x11_7, rfl, HA, HK7, HO_7, BK263, HB⟩ := hrel
        rcases gk with _ | k7
        ·exact absurd HA.out (by simp [shelfmarkref13_Pack.l4])
        have H := HA.out
        clear HA
        simp only [shelfmarkref13_Pack.l4] at H
        by_cases c66 : x11_7 < (l0_9.length : Int)
        ·rw [if_pos c66] at H
         have c66b0 : decide (x11_7 < (l0_9.length : Int)) = true := decide_eq_true c66
         clear c66
         have HC67 := Aside0.mk H
         clear H
         have hcz68_0 : wr.cell? ⟨gb263, 0, none⟩ = some (.int .i64 a0_0) := (blk_cell BK263.out 0).trans rfl
         have hcz68_1 : wr.cell? ⟨gb263, 1, none⟩ = some (.int .i64 a0_1) := (blk_cell BK263.out 1).trans rfl
         have hcz68_2 : wr.cell? ⟨gb263, 2, none⟩ = some (.int .i64 a0_2) := (blk_cell BK263.out 2).trans rfl
         have hcz68_3 : wr.cell? ⟨gb263, 3, none⟩ = some (.int .i64 a0_3) := (blk_cell BK263.out 3).trans rfl
         have hcz68_4 : wr.cell? ⟨gb263, 4, none⟩ = some (.int .i64 a0_4) := (blk_cell BK263.out 4).trans rfl
         have hcz68_5 : wr.cell? ⟨gb263, 5, none⟩ = some (.int .i64 a0_5) := (blk_cell BK263.out 5).trans rfl
         have hcz68_6 : wr.cell? ⟨gb263, 6, none⟩ = some (.int .i64 a0_6) := (blk_cell BK263.out 6).trans rfl
         have hcz68_7 : wr.cell? ⟨gb263, 7, none⟩ = some (.string a0_7) := (blk_cell BK263.out 7).trans rfl
         have hcz68_8 : wr.cell? ⟨gb263, 8, none⟩ = some (.string a0_8) := (blk_cell BK263.out 8).trans rfl
         have hcz68_9 : wr.cell? ⟨gb263, 9, none⟩ = some (.slice A0_9 l0_9.length c0_9) := (blk_cell BK263.out 9).trans rfl
         have hcz68_10 : wr.cell? ⟨gb263, 10, none⟩ = some (.slice A0_10 l0_10.length c0_10) := (blk_cell BK263.out 10).trans rfl
         have hcz68_11 : wr.cell? ⟨gb263, 11, none⟩ = some (.int .i64 a0_11) := (blk_cell BK263.out 11).trans rfl
         have hcz68_12 : wr.cell? ⟨gb263, 12, none⟩ = some (.bool a0_12) := (blk_cell BK263.out 12).trans rfl
         have hcz68_13 : wr.cell? ⟨gb263, 13, none⟩ = some (.string a0_13) := (blk_cell BK263.out 13).trans rfl
         have hfz68_0 := blk_frozen BK263.out 0
         have hfz68_1 := blk_frozen BK263.out 1
         have hfz68_2 := blk_frozen BK263.out 2
         have hfz68_3 := blk_frozen BK263.out 3
         have hfz68_4 := blk_frozen BK263.out 4
         have hfz68_5 := blk_frozen BK263.out 5
         have hfz68_6 := blk_frozen BK263.out 6
         have hfz68_7 := blk_frozen BK263.out 7
         have hfz68_8 := blk_frozen BK263.out 8
         have hfz68_9 := blk_frozen BK263.out 9
         have hfz68_10 := blk_frozen BK263.out 10
         have hfz68_11 := blk_frozen BK263.out 11
         have hfz68_12 := blk_frozen BK263.out 12
         have hfz68_13 := blk_frozen BK263.out 13
         go_upto_region 33 with (fail)
         go_cut [142] (fun v142 wc => ∃ (kq : Nat) (x142_66 : Bool), v142 = .bool x142_66 ∧ Aside0 (shelfmarkref13_Pack.j7 kq x7_7 x11_7 x142_66 a0_0 a0_1 a0_2 a0_3 a0_4 a0_5 a0_6 a0_7 a0_8 l0_9 l0_10 a0_11 a0_12 a0_13 = some (r1, r2)) ∧ Aside0 (kq ≤ k7) ∧ Aside0 (Kd.R (Kd.int .u8) 5 wc w.heap.size (fun _ => True) u7 x7_7) ∧ Aside0 (wc.heap[gb263]? = some (.cells #[.int .i64 a0_0, .int .i64 a0_1, .int .i64 a0_2, .int .i64 a0_3, .int .i64 a0_4, .int .i64 a0_5, .int .i64 a0_6, .string a0_7, .string a0_8, (.slice A0_9 l0_9.length c0_9), (.slice A0_10 l0_10.length c0_10), .int .i64 a0_11, .bool a0_12, .string a0_13] 27 (0, 0))) ∧ Aside0 (Below w.heap.size w wc))
         case first =>
          have H := HC67.out
          clear HC67
          by_cases c69 : (x7_7.length : Int) > 65536
          ·rw [if_pos c69] at H
           have c69b0 : decide (65536 < (x7_7.length : Int)) = true := decide_eq_true c69
           have c69b1 : decide (65536 < x7_7.length) = true := decide_eq_true (by omega)
           clear c69
           (first | rw [c69b0] | (simp only [i64_w, i32_w]; rw [c69b0]) | skip)
           have H' := Aside0.mk H
           clear H
           obtain ⟨Ao70, co70, eo70⟩ := Kd.R_slice HO_7.out
           subst eo70
           go_wp2
           go_meet
           case rel => exact ⟨_, (true), (by first | rfl | (simp; done) | (simp [*]; done) | (simp [ne_nil_bytes]; done) | (simp [eq_nil_bytes]; done)), H', ⟨by have := HJ1.out; have := HK2.out; have := HK3.out; have := HJ23.out; have := HK5.out; have := HK6.out; have := HK7.out; first | omega | exact Nat.le_refl _⟩, ⟨by exact rL HO_7.out⟩, ⟨by exact bL BK263.out⟩, ⟨hL HB.out⟩⟩
          rw [if_neg c69] at H
          have c69b0 : decide (65536 < (x7_7.length : Int)) = false := decide_eq_false c69
          have c69b1 : decide (65536 < x7_7.length) = false := decide_eq_false (by omega)
          clear c69
          (first | rw [c69b0] | (simp only [i64_w, i32_w]; rw [c69b0]) | skip)
          by_cases c71 : 0 ≤ x11_7
          rotate_left
          ·rw [if_neg c71] at H
           exact absurd H (by simp)
          rw [if_pos c71] at H
          have c71b0 : decide (0 ≤ x11_7) = true := decide_eq_true c71
          clear c71
          by_cases c72 : (((rd_T39 l0_9 x11_7).f0).size : Int) > 65536
          ·rw [if_pos c72] at H
           have c72b0 : decide (65536 < (((rd_T39 l0_9 x11_7).f0).size : Int)) = true := decide_eq_true c72
           have c72b1 : decide (65536 < ((rd_T39 l0_9 x11_7).f0).size) = true := decide_eq_true (by omega)
           clear c72
           have H' := Aside0.mk H
           clear H
           obtain ⟨Ao73, co73, eo73⟩ := Kd.R_slice HO_7.out
           subst eo73
           have hcz74_0 : wr.cell? ⟨gb263, 0, none⟩ = some (.int .i64 a0_0) := (blk_cell BK263.out 0).trans rfl
           have hcz74_1 : wr.cell? ⟨gb263, 1, none⟩ = some (.int .i64 a0_1) := (blk_cell BK263.out 1).trans rfl
           have hcz74_2 : wr.cell? ⟨gb263, 2, none⟩ = some (.int .i64 a0_2) := (blk_cell BK263.out 2).trans rfl
           have hcz74_3 : wr.cell? ⟨gb263, 3, none⟩ = some (.int .i64 a0_3) := (blk_cell BK263.out 3).trans rfl
           have hcz74_4 : wr.cell? ⟨gb263, 4, none⟩ = some (.int .i64 a0_4) := (blk_cell BK263.out 4).trans rfl
           have hcz74_5 : wr.cell? ⟨gb263, 5, none⟩ = some (.int .i64 a0_5) := (blk_cell BK263.out 5).trans rfl
           have hcz74_6 : wr.cell? ⟨gb263, 6, none⟩ = some (.int .i64 a0_6) := (blk_cell BK263.out 6).trans rfl
           have hcz74_7 : wr.cell? ⟨gb263, 7, none⟩ = some (.string a0_7) := (blk_cell BK263.out 7).trans rfl
           have hcz74_8 : wr.cell? ⟨gb263, 8, none⟩ = some (.string a0_8) := (blk_cell BK263.out 8).trans rfl
           have hcz74_9 : wr.cell? ⟨gb263, 9, none⟩ = some (.slice A0_9 l0_9.length c0_9) := (blk_cell BK263.out 9).trans rfl
           have hcz74_10 : wr.cell? ⟨gb263, 10, none⟩ = some (.slice A0_10 l0_10.length c0_10) := (blk_cell BK263.out 10).trans rfl
           have hcz74_11 : wr.cell? ⟨gb263, 11, none⟩ = some (.int .i64 a0_11) := (blk_cell BK263.out 11).trans rfl
           have hcz74_12 : wr.cell? ⟨gb263, 12, none⟩ = some (.bool a0_12) := (blk_cell BK263.out 12).trans rfl
           have hcz74_13 : wr.cell? ⟨gb263, 13, none⟩ = some (.string a0_13) := (blk_cell BK263.out 13).trans rfl
           have hfz74_0 := blk_frozen BK263.out 0
           have hfz74_1 := blk_frozen BK263.out 1
           have hfz74_2 := blk_frozen BK263.out 2
           have hfz74_3 := blk_frozen BK263.out 3
           have hfz74_4 := blk_frozen BK263.out 4
           have hfz74_5 := blk_frozen BK263.out 5
           have hfz74_6 := blk_frozen BK263.out 6
           have hfz74_7 := blk_frozen BK263.out 7
           have hfz74_8 := blk_frozen BK263.out 8
           have hfz74_9 := blk_frozen BK263.out 9
           have hfz74_10 := blk_frozen BK263.out 10
           have hfz74_11 := blk_frozen BK263.out 11
           have hfz74_12 := blk_frozen BK263.out 12
           have hfz74_13 := blk_frozen BK263.out 13
           have p304 : 0 ≤ (x11_7 : Int) := of_decide_eq_true (by first | (with_reducible assumption) | assumption)
           have q304 : x11_7 < (l0_9.length : Int) := of_decide_eq_true (by first | (with_reducible assumption) | assumption)
           obtain ⟨ad304, e304, hx304_0, hx304_1⟩ := at_T39 HR0_9.out x11_7 p304 q304
           cases e304
           replace hx304_0 := (HB.out.cell (World.block_lt_of_cell? w _ hx304_0)).trans hx304_0
           replace hx304_1 := (HB.out.cell (World.block_lt_of_cell? w _ hx304_1)).trans hx304_1
           replace p304 := eq_true p304
           replace q304 := eq_true q304
           go_wp2
           go_meet
           case rel => exact ⟨_, (true), (by first | rfl | (simp; done) | (simp [*]; done) | (simp [ne_nil_bytes]; done) | (simp [eq_nil_bytes]; done)), H', ⟨by have := HJ1.out; have := HK2.out; have := HK3.out; have := HJ23.out; have := HK5.out; have := HK6.out; have := HK7.out; first | omega | exact Nat.le_refl _⟩, ⟨by exact rL HO_7.out⟩, ⟨by exact bL BK263.out⟩, ⟨hL HB.out⟩⟩
          rw [if_neg c72] at H
          have c72b0 : decide (65536 < (((rd_T39 l0_9 x11_7).f0).size : Int)) = false := decide_eq_false c72
          have c72b1 : decide (65536 < ((rd_T39 l0_9 x11_7).f0).size) = false := decide_eq_false (by omega)
          clear c72
          have H' := Aside0.mk H
          clear H
          obtain ⟨Ao75, co75, eo75⟩ := Kd.R_slice HO_7.out
          subst eo75
          have hcz76_0 : wr.cell? ⟨gb263, 0, none⟩ = some (.int .i64 a0_0) := (blk_cell BK263.out 0).trans rfl
          have hcz76_1 : wr.cell? ⟨gb263, 1, none⟩ = some (.int .i64 a0_1) := (blk_cell BK263.out 1).trans rfl
          have hcz76_2 : wr.cell? ⟨gb263, 2, none⟩ = some (.int .i64 a0_2) := (blk_cell BK263.out 2).trans rfl
          have hcz76_3 : wr.cell? ⟨gb263, 3, none⟩ = some (.int .i64 a0_3) := (blk_cell BK263.out 3).trans rfl
          have hcz76_4 : wr.cell? ⟨gb263, 4, none⟩ = some (.int .i64 a0_4) := (blk_cell BK263.out 4).trans rfl
          have hcz76_5 : wr.cell? ⟨gb263, 5, none⟩ = some (.int .i64 a0_5) := (blk_cell BK263.out 5).trans rfl
          have hcz76_6 : wr.cell? ⟨gb263, 6, none⟩ = some (.int .i64 a0_6) := (blk_cell BK263.out 6).trans rfl
          have hcz76_7 : wr.cell? ⟨gb263, 7, none⟩ = some (.string a0_7) := (blk_cell BK263.out 7).trans rfl
          have hcz76_8 : wr.cell? ⟨gb263, 8, none⟩ = some (.string a0_8) := (blk_cell BK263.out 8).trans rfl
          have hcz76_9 : wr.cell? ⟨gb263, 9, none⟩ = some (.slice A0_9 l0_9.length c0_9) := (blk_cell BK263.out 9).trans rfl
          have hcz76_10 : wr.cell? ⟨gb263, 10, none⟩ = some (.slice A0_10 l0_10.length c0_10) := (blk_cell BK263.out 10).trans rfl
          have hcz76_11 : wr.cell? ⟨gb263, 11, none⟩ = some (.int .i64 a0_11) := (blk_cell BK263.out 11).trans rfl
          have hcz76_12 : wr.cell? ⟨gb263, 12, none⟩ = some (.bool a0_12) := (blk_cell BK263.out 12).trans rfl
          have hcz76_13 : wr.cell? ⟨gb263, 13, none⟩ = some (.string a0_13) := (blk_cell BK263.out 13).trans rfl
          have hfz76_0 := blk_frozen BK263.out 0
          have hfz76_1 := blk_frozen BK263.out 1
          have hfz76_2 := blk_frozen BK263.out 2
          have hfz76_3 := blk_frozen BK263.out 3
          have hfz76_4 := blk_frozen BK263.out 4
          have hfz76_5 := blk_frozen BK263.out 5
          have hfz76_6 := blk_frozen BK263.out 6
          have hfz76_7 := blk_frozen BK263.out 7
          have hfz76_8 := blk_frozen BK263.out 8
          have hfz76_9 := blk_frozen BK263.out 9
          have hfz76_10 := blk_frozen BK263.out 10
          have hfz76_11 := blk_frozen BK263.out 11
          have hfz76_12 := blk_frozen BK263.out 12
          have hfz76_13 := blk_frozen BK263.out 13
          have p304 : 0 ≤ (x11_7 : Int) := of_decide_eq_true (by first | (with_reducible assumption) | assumption)
          have q304 : x11_7 < (l0_9.length : Int) := of_decide_eq_true (by first | (with_reducible assumption) | assumption)
          obtain ⟨ad304, e304, hx304_0, hx304_1⟩ := at_T39 HR0_9.out x11_7 p304 q304
          cases e304
          replace hx304_0 := (HB.out.cell (World.block_lt_of_cell? w _ hx304_0)).trans hx304_0
          replace hx304_1 := (HB.out.cell (World.block_lt_of_cell? w _ hx304_1)).trans hx304_1
          replace p304 := eq_true p304
          replace q304 := eq_true q304
          have p305 : 0 ≤ (x11_7 : Int) := of_decide_eq_true (by first | (with_reducible assumption) | assumption)
          have q305 : x11_7 < (l0_9.length : Int) := of_decide_eq_true (by first | (with_reducible assumption) | assumption)
          obtain ⟨ad305, e305, hx305_0, hx305_1⟩ := at_T39 HR0_9.out x11_7 p305 q305
          obtain rfl : ad304 = ad305 := (by injection e305)
          replace hx305_0 := (HB.out.cell (World.block_lt_of_cell? w _ hx305_0)).trans hx305_0
          replace hx305_1 := (HB.out.cell (World.block_lt_of_cell? w _ hx305_1)).trans hx305_1
          replace p305 := eq_true p305
          replace q305 := eq_true q305
          go_wp2
          go_meet
          case rel => exact ⟨_, (decide ((((rd_T39 l0_9 x11_7).f1).size : Int) > 65536)), (by first | rfl | (simp; done) | (simp [*]; done) | (simp [ne_nil_bytes]; done) | (simp [eq_nil_bytes]; done)), H', ⟨by have := HJ1.out; have := HK2.out; have := HK3.out; have := HJ23.out; have := HK5.out; have := HK6.out; have := HK7.out; first | omega | exact Nat.le_refl _⟩, ⟨by exact rL HO_7.out⟩, ⟨by exact bL BK263.out⟩, ⟨hL HB.out⟩⟩
         as_aux_lemma =>
          clear HC67
          (try clear c1); (try clear c2); (try clear p2 p2); (try clear q2 q2); (try clear hx2); (try clear c3); (try clear p3); (try clear q3); (try clear hx3); (try clear c4); (try clear c4b0); (try clear c4b0z); (try clear c5); (try clear c6); (try clear p6 p6); (try clear c7); (try clear c11); (try clear c11b0); (try clear c11b0z); (try clear c12); (try clear c12b0); (try clear c12b0z); (try clear c13); (try clear c14); (try clear c18); (try clear c18b0); (try clear c18b0z); (try clear c19); (try clear c19b0); (try clear c19b0z); (try clear c21); (try clear c26); (try clear c26b0); (try clear c26b0z); (try clear c26b1); (try clear c26b1z); (try clear p26 p26); (try clear q26 q26); (try clear hx26); (try clear p27 p27); (try clear q27 q27); (try clear hx27); (try clear c28); (try clear c29); (try clear p29 p29); (try clear q29 q29); (try clear hx29); (try clear p30); (try clear q30); (try clear hx30); (try clear c33); (try clear c33b0); (try clear c33b0z); (try clear c34); (try clear c34b0); (try clear c34b0z); (try clear c36); (try clear c37); (try clear c38); (try clear c41); (try clear c49); (try clear c49b0); (try clear c49b0z); (try clear c50); (try clear c50b0); (try clear c50b0z); (try clear c51); (try clear c51b0); (try clear c51b0z); (try clear c51b1); (try clear c51b1z); (try clear c54); (try clear c60); (try clear p64 p64); (try clear c66); (try clear c66b0); (try clear c66b0z); (try clear c69); (try clear c69b0); (try clear c69b0z); (try clear c69b1); (try clear c69b1z); (try clear c71); (try clear c71b0); (try clear c71b0z); (try clear c72); (try clear c72b0); (try clear c72b0z); (try clear c72b1); (try clear c72b1z); (try clear hcz22_0 hcz22_1 hcz22_10 hcz22_11 hcz22_12 hcz22_13 hcz22_2 hcz22_3 hcz22_4 hcz22_5 hcz22_6 hcz22_7 hcz22_8 hcz22_9); (try clear hcz23_0 hcz23_1 hcz23_10 hcz23_11 hcz23_12 hcz23_13 hcz23_2 hcz23_3 hcz23_4 hcz23_5 hcz23_6 hcz23_7 hcz23_8 hcz23_9); (try clear hcz25_0 hcz25_1 hcz25_10 hcz25_11 hcz25_12 hcz25_13 hcz25_2 hcz25_3 hcz25_4 hcz25_5 hcz25_6 hcz25_7 hcz25_8 hcz25_9); (try clear hcz27_0 hcz27_1 hcz27_10 hcz27_11 hcz27_12 hcz27_13 hcz27_2 hcz27_3 hcz27_4 hcz27_5 hcz27_6 hcz27_7 hcz27_8 hcz27_9); (try clear hcz28_0 hcz28_1 hcz28_10 hcz28_11 hcz28_12 hcz28_13 hcz28_2 hcz28_3 hcz28_4 hcz28_5 hcz28_6 hcz28_7 hcz28_8 hcz28_9); (try clear hcz31_0 hcz31_1 hcz31_10 hcz31_11 hcz31_12 hcz31_13 hcz31_2 hcz31_3 hcz31_4 hcz31_5 hcz31_6 hcz31_7 hcz31_8 hcz31_9); (try clear hcz42_0 hcz42_1 hcz42_10 hcz42_11 hcz42_12 hcz42_13 hcz42_2 hcz42_3 hcz42_4 hcz42_5 hcz42_6 hcz42_7 hcz42_8 hcz42_9); (try clear hcz46_0 hcz46_1 hcz46_10 hcz46_11 hcz46_12 hcz46_13 hcz46_2 hcz46_3 hcz46_4 hcz46_5 hcz46_6 hcz46_7 hcz46_8 hcz46_9); (try clear hcz5_0 hcz5_1 hcz5_10 hcz5_11 hcz5_12 hcz5_13 hcz5_2 hcz5_3 hcz5_4 hcz5_5 hcz5_6 hcz5_7 hcz5_8 hcz5_9); (try clear hcz62_0 hcz62_1 hcz62_10 hcz62_11 hcz62_12 hcz62_13 hcz62_2 hcz62_3 hcz62_4 hcz62_5 hcz62_6 hcz62_7 hcz62_8 hcz62_9); (try clear hcz68_0 hcz68_1 hcz68_10 hcz68_11 hcz68_12 hcz68_13 hcz68_2 hcz68_3 hcz68_4 hcz68_5 hcz68_6 hcz68_7 hcz68_8 hcz68_9); (try clear hcz6_0 hcz6_1 hcz6_10 hcz6_11 hcz6_12 hcz6_13 hcz6_2 hcz6_3 hcz6_4 hcz6_5 hcz6_6 hcz6_7 hcz6_8 hcz6_9); (try clear hcz74_0 hcz74_1 hcz74_10 hcz74_11 hcz74_12 hcz74_13 hcz74_2 hcz74_3 hcz74_4 hcz74_5 hcz74_6 hcz74_7 hcz74_8 hcz74_9); (try clear hcz76_0 hcz76_1 hcz76_10 hcz76_11 hcz76_12 hcz76_13 hcz76_2 hcz76_3 hcz76_4 hcz76_5 hcz76_6 hcz76_7 hcz76_8 hcz76_9); (try clear hcz9_0 hcz9_1 hcz9_10 hcz9_11 hcz9_12 hcz9_13 hcz9_2 hcz9_3 hcz9_4 hcz9_5 hcz9_6 hcz9_7 hcz9_8 hcz9_9); (try clear hfz22_0 hfz22_1 hfz22_10 hfz22_11 hfz22_12 hfz22_13 hfz22_2 hfz22_3 hfz22_4 hfz22_5 hfz22_6 hfz22_7 hfz22_8 hfz22_9); (try clear hfz23_0 hfz23_1 hfz23_10 hfz23_11 hfz23_12 hfz23_13 hfz23_2 hfz23_3 hfz23_4 hfz23_5 hfz23_6 hfz23_7 hfz23_8 hfz23_9); (try clear hfz25_0 hfz25_1 hfz25_10 hfz25_11 hfz25_12 hfz25_13 hfz25_2 hfz25_3 hfz25_4 hfz25_5 hfz25_6 hfz25_7 hfz25_8 hfz25_9); (try clear hfz27_0 hfz27_1 hfz27_10 hfz27_11 hfz27_12 hfz27_13 hfz27_2 hfz27_3 hfz27_4 hfz27_5 hfz27_6 hfz27_7 hfz27_8 hfz27_9); (try clear hfz28_0 hfz28_1 hfz28_10 hfz28_11 hfz28_12 hfz28_13 hfz28_2 hfz28_3 hfz28_4 hfz28_5 hfz28_6 hfz28_7 hfz28_8 hfz28_9); (try clear hfz31_0 hfz31_1 hfz31_10 hfz31_11 hfz31_12 hfz31_13 hfz31_2 hfz31_3 hfz31_4 hfz31_5 hfz31_6 hfz31_7 hfz31_8 hfz31_9); (try clear hfz42_0 hfz42_1 hfz42_10 hfz42_11 hfz42_12 hfz42_13 hfz42_2 hfz42_3 hfz42_4 hfz42_5 hfz42_6 hfz42_7 hfz42_8 hfz42_9); (try clear hfz46_0 hfz46_1 hfz46_10 hfz46_11 hfz46_12 hfz46_13 hfz46_2 hfz46_3 hfz46_4 hfz46_5 hfz46_6 hfz46_7 hfz46_8 hfz46_9); (try clear hfz5_0 hfz5_1 hfz5_10 hfz5_11 hfz5_12 hfz5_13 hfz5_2 hfz5_3 hfz5_4 hfz5_5 hfz5_6 hfz5_7 hfz5_8 hfz5_9); (try clear hfz62_0 hfz62_1 hfz62_10 hfz62_11 hfz62_12 hfz62_13 hfz62_2 hfz62_3 hfz62_4 hfz62_5 hfz62_6 hfz62_7 hfz62_8 hfz62_9); (try clear hfz68_0 hfz68_1 hfz68_10 hfz68_11 hfz68_12 hfz68_13 hfz68_2 hfz68_3 hfz68_4 hfz68_5 hfz68_6 hfz68_7 hfz68_8 hfz68_9); (try clear hfz6_0 hfz6_1 hfz6_10 hfz6_11 hfz6_12 hfz6_13 hfz6_2 hfz6_3 hfz6_4 hfz6_5 hfz6_6 hfz6_7 hfz6_8 hfz6_9); (try clear hfz74_0 hfz74_1 hfz74_10 hfz74_11 hfz74_12 hfz74_13 hfz74_2 hfz74_3 hfz74_4 hfz74_5 hfz74_6 hfz74_7 hfz74_8 hfz74_9); (try clear hfz76_0 hfz76_1 hfz76_10 hfz76_11 hfz76_12 hfz76_13 hfz76_2 hfz76_3 hfz76_4 hfz76_5 hfz76_6 hfz76_7 hfz76_8 hfz76_9); (try clear hfz9_0 hfz9_1 hfz9_10 hfz9_11 hfz9_12 hfz9_13 hfz9_2 hfz9_3 hfz9_4 hfz9_5 hfz9_6 hfz9_7 hfz9_8 hfz9_9); (try clear hx267_0); (try clear hx269_0); (try clear hx269_1); (try clear hx269_2); (try clear hx274_0); (try clear hx290_0); (try clear hx291_0); (try clear hx304_0); (try clear hx304_1); (try clear hx305_0); (try clear hx305_1); (try clear p267); (try clear p269); (try clear p274); (try clear p290); (try clear p291); (try clear p304); (try clear p305); (try clear q267); (try clear q269); (try clear q274); (try clear q290); (try clear q291); (try clear q304); (try clear q305)
          obtain ⟨kq, x142_66, rfl, HA, HJ66, HO_7, BK263, HB⟩ := hcut
          rcases kq with _ | kj66
          ·exact absurd HA.out (by simp [shelfmarkref13_Pack.j7])
          have H := HA.out
          clear HA
          simp only [shelfmarkref13_Pack.j7] at H
          by_cases c77 : x142_66 = true
          ·subst c77
           have H1 : (some ((⟨#[]⟩ : ByteArray), 4)) = some (r1, r2) := by rw [if_pos rfl] at H; exact H
           clear H
           have H := H1
           clear H1
           simp only [Option.some.injEq, Prod.mk.injEq] at H
           obtain ⟨rfl, rfl⟩ := H
           go_wp2
           go_ret2
           exact ⟨by first | rfl | (simp [errW_none, errW_some] <;> rfl) | (simp [*, errW_none, errW_some] <;> rfl), hL HB.out⟩
          replace c77 := Bool.eq_false_iff.mpr c77
          subst c77
          have H1 : (if 0 ≤ x11_7 then (if x11_7 < (l0_9.length : Int) then ((shelfmarkref01_Text.f kj66 ((rd_T39 l0_9 x11_7).f0)).bind fun t307 => (if x7_7.length + t307.length < 140737488355328 then ((some (x7_7 ++ t307 : List Int)).bind fun y310 => ((shelfmarkref01_Text.f kj66 ((rd_T39 l0_9 x11_7).f1)).bind fun t314 => (if y310.length + t314.length < 140737488355328 then (shelfmarkref13_Pack.l4 kj66 (y310 ++ t314) (wrap64 (x11_7 + 1)) a0_0 a0_1 a0_2 a0_3 a0_4 a0_5 a0_6 a0_7 a0_8 l0_9 l0_10 a0_11 a0_12 a0_13) else (none)))) else (none))) else (none)) else (none)) = some (r1, r2) := by rw [if_neg (show ¬ (false = true) by decide)] at H; exact H
          clear H
          have H := H1
          clear H1
          by_cases c78 : 0 ≤ x11_7
          rotate_left
          ·rw [if_neg c78] at H
           exact absurd H (by simp)
          rw [if_pos c78] at H
          have c78b0 : decide (0 ≤ x11_7) = true := decide_eq_true c78
          clear c78
          by_cases c79 : x11_7 < (l0_9.length : Int)
          rotate_left
          ·rw [if_neg c79] at H
           exact absurd H (by simp)
          rw [if_pos c79] at H
          have c79b0 : decide (x11_7 < (l0_9.length : Int)) = true := decide_eq_true c79
          clear c79
          replace H := Option.bind_eq_some_iff.mp H
          obtain ⟨t307, A800, H⟩ := H
          replace H : (if x7_7.length + t307.length < 140737488355328 then ((some (x7_7 ++ t307 : List Int)).bind fun y310 => ((shelfmarkref01_Text.f kj66 ((rd_T39 l0_9 x11_7).f1)).bind fun t314 => (if y310.length + t314.length < 140737488355328 then (shelfmarkref13_Pack.l4 kj66 (y310 ++ t314) (wrap64 (x11_7 + 1)) a0_0 a0_1 a0_2 a0_3 a0_4 a0_5 a0_6 a0_7 a0_8 l0_9 l0_10 a0_11 a0_12 a0_13) else (none)))) else (none)) = some (r1, r2) := H
          have A80 := Aside0.mk A800
          clear A800
          by_cases c81 : x7_7.length + t307.length < 140737488355328
          rotate_left
          ·rw [if_neg c81] at H
           exact absurd H (by simp)
          rw [if_pos c81] at H
          have LMc81 := Aside0.mk c81
          clear c81
          obtain ⟨y310, hy310⟩ : ∃ y_ : List Int, y_ = (x7_7 ++ t307) := ⟨_, rfl⟩
          replace H : ((shelfmarkref01_Text.f kj66 ((rd_T39 l0_9 x11_7).f1)).bind fun t314 => (if y310.length + t314.length < 140737488355328 then (shelfmarkref13_Pack.l4 kj66 (y310 ++ t314) (wrap64 (x11_7 + 1)) a0_0 a0_1 a0_2 a0_3 a0_4 a0_5 a0_6 a0_7 a0_8 l0_9 l0_10 a0_11 a0_12 a0_13) else (none))) = some (r1, r2) := by first | (rw [hy310]; with_reducible exact H) | (have H2_ := (Option.bind_some _ _).symm.trans H; rw [hy310]; with_reducible exact H2_) | (have H2_ := (Option.bind_some _ _).symm.trans H; with_reducible exact H2_) | with_reducible exact H | (rw [hy310]; exact H) | exact H
          have Ny310 := Aside0.mk hy310
          clear hy310
          replace H := Option.bind_eq_some_iff.mp H
          obtain ⟨t314, A820, H⟩ := H
          replace H : (if y310.length + t314.length < 140737488355328 then (shelfmarkref13_Pack.l4 kj66 (y310 ++ t314) (wrap64 (x11_7 + 1)) a0_0 a0_1 a0_2 a0_3 a0_4 a0_5 a0_6 a0_7 a0_8 l0_9 l0_10 a0_11 a0_12 a0_13) else (none)) = some (r1, r2) := H
          have A82 := Aside0.mk A820
          clear A820
          by_cases c83 : y310.length + t314.length < 140737488355328
          rotate_left
          ·rw [if_neg c83] at H
           exact absurd H (by simp)
          rw [if_pos c83] at H
          have LMc83 := Aside0.mk c83
          clear c83
          obtain ⟨y317, hy317⟩ : ∃ y_ : List Int, y_ = (y310 ++ t314) := ⟨_, rfl⟩
          replace H : (shelfmarkref13_Pack.l4 kj66 y317 (wrap64 (x11_7 + 1)) a0_0 a0_1 a0_2 a0_3 a0_4 a0_5 a0_6 a0_7 a0_8 l0_9 l0_10 a0_11 a0_12 a0_13) = some (r1, r2) := by first | (rw [hy317]; with_reducible exact H) | (have H2_ := (Option.bind_some _ _).symm.trans H; rw [hy317]; with_reducible exact H2_) | (have H2_ := (Option.bind_some _ _).symm.trans H; with_reducible exact H2_) | with_reducible exact H | (rw [hy317]; exact H) | exact H
          have Ny317 := Aside0.mk hy317
          clear hy317
          have H' := Aside0.mk H
          clear H
          have hcz84_0 : wc.cell? ⟨gb263, 0, none⟩ = some (.int .i64 a0_0) := (blk_cell BK263.out 0).trans rfl
          have hcz84_1 : wc.cell? ⟨gb263, 1, none⟩ = some (.int .i64 a0_1) := (blk_cell BK263.out 1).trans rfl
          have hcz84_2 : wc.cell? ⟨gb263, 2, none⟩ = some (.int .i64 a0_2) := (blk_cell BK263.out 2).trans rfl
          have hcz84_3 : wc.cell? ⟨gb263, 3, none⟩ = some (.int .i64 a0_3) := (blk_cell BK263.out 3).trans rfl
          have hcz84_4 : wc.cell? ⟨gb263, 4, none⟩ = some (.int .i64 a0_4) := (blk_cell BK263.out 4).trans rfl
          have hcz84_5 : wc.cell? ⟨gb263, 5, none⟩ = some (.int .i64 a0_5) := (blk_cell BK263.out 5).trans rfl
          have hcz84_6 : wc.cell? ⟨gb263, 6, none⟩ = some (.int .i64 a0_6) := (blk_cell BK263.out 6).trans rfl
          have hcz84_7 : wc.cell? ⟨gb263, 7, none⟩ = some (.string a0_7) := (blk_cell BK263.out 7).trans rfl
          have hcz84_8 : wc.cell? ⟨gb263, 8, none⟩ = some (.string a0_8) := (blk_cell BK263.out 8).trans rfl
          have hcz84_9 : wc.cell? ⟨gb263, 9, none⟩ = some (.slice A0_9 l0_9.length c0_9) := (blk_cell BK263.out 9).trans rfl
          have hcz84_10 : wc.cell? ⟨gb263, 10, none⟩ = some (.slice A0_10 l0_10.length c0_10) := (blk_cell BK263.out 10).trans rfl
          have hcz84_11 : wc.cell? ⟨gb263, 11, none⟩ = some (.int .i64 a0_11) := (blk_cell BK263.out 11).trans rfl
          have hcz84_12 : wc.cell? ⟨gb263, 12, none⟩ = some (.bool a0_12) := (blk_cell BK263.out 12).trans rfl
          have hcz84_13 : wc.cell? ⟨gb263, 13, none⟩ = some (.string a0_13) := (blk_cell BK263.out 13).trans rfl
          have hfz84_0 := blk_frozen BK263.out 0
          have hfz84_1 := blk_frozen BK263.out 1
          have hfz84_2 := blk_frozen BK263.out 2
          have hfz84_3 := blk_frozen BK263.out 3
          have hfz84_4 := blk_frozen BK263.out 4
          have hfz84_5 := blk_frozen BK263.out 5
          have hfz84_6 := blk_frozen BK263.out 6
          have hfz84_7 := blk_frozen BK263.out 7
          have hfz84_8 := blk_frozen BK263.out 8
          have hfz84_9 := blk_frozen BK263.out 9
          have hfz84_10 := blk_frozen BK263.out 10
          have hfz84_11 := blk_frozen BK263.out 11
          have hfz84_12 := blk_frozen BK263.out 12
          have hfz84_13 := blk_frozen BK263.out 13
          have p306 : 0 ≤ (x11_7 : Int) := of_decide_eq_true (by first | (with_reducible assumption) | assumption)
          have q306 : x11_7 < (l0_9.length : Int) := of_decide_eq_true (by first | (with_reducible assumption) | assumption)
          obtain ⟨ad306, e306, hx306_0, hx306_1⟩ := at_T39 HR0_9.out x11_7 p306 q306
          cases e306
          replace hx306_0 := (HB.out.cell (World.block_lt_of_cell? w _ hx306_0)).trans hx306_0
          replace hx306_1 := (HB.out.cell (World.block_lt_of_cell? w _ hx306_1)).trans hx306_1
          replace p306 := eq_true p306
          replace q306 := eq_true q306
          go_wp2_with (first | ((with_reducible refine gate_callee (f := 38) rfl ?_); refine goesL_ (some 150) rfl rfl Try.func38 (by as_aux_lemma => kernel_rfl) rfl #[.string ((rd_T39 l0_9 x11_7).f0)] rfl (by (try simp only [List.map_toArray, List.map_cons, List.map_nil]); first | done | rfl | (simp only [List.length_drop, List.length_take]; rfl)) ?_; (with_reducible refine (shelfmarkref01_Text.calls kj66 ((rd_T39 l0_9 x11_7).f0) t307 _ A80.out).mono ?_); rintro e w85 ⟨v308, rfl, ho0, hb⟩; refine ⟨_, rfl, ?_⟩; have n0_ := Aside0.mk (Kd.R_elder' (rL HO_7.out) (Kd.R_base ho0) hb); have n1_ := Aside0.mk (Kd.R_lower (Kd.R_new' ho0 (Kd.R_lt (rL HO_7.out))) (below_size (hL HB.out))); have n2_ := Aside0.mk (blk_below (bL BK263.out) hb); have n3_ := Aside0.mk (below_step (hL HB.out) hb); clear HO_7; clear BK263; clear HB; have HO_7 := n0_; have HO309 := n1_; have BK263 := n2_; have HB := n3_; clear n0_ n1_ n2_ n3_; (try clear hb); (try clear hb2); (try clear hk); (try clear hi); (try clear ho0); obtain ⟨Ao87, co87, eo87⟩ := Kd.R_slice HO309.out; subst eo87) | ((with_reducible refine gate_builtin (b := .append) (xs := #[.tmp 143, .tmp 150]) rfl ?_); (try (refine gate_guard (by rfl) ?_; dsimp only)); at_builtin; refine Kd.R_append_rows (Kd.int .u8) (w0 := w) w.heap.size rfl (.tmp 143) (.tmp 150) 43 5 (.int .u8 0) 1 rfl Try.underlying43 info5 rfl (by decide) (by omega) u7 x7_7 t307 _ _ _ (fun k_ => some k_ ≠ (.slice Ao87 t307.length co87 : Value).ownBlock) (fun _ => False) rfl rfl ?aO ?aR (fun _ _ h => h) (fun _ h => h.elim) ?aF ?aB ?aS ?aL ?_; (case aR => repeat (first | exact (Kd.R_reads' HO309.out).2.2 | (with_reducible refine Kd.C_alloc ?_ _) | (with_reducible refine Kd.C_drewN ?_ _) | (with_reducible refine Kd.C_drew ?_))); (case aB => exact (hL HB.out)); (case aF => exact (fun k_ hk => Kd.fresh' (Kd.R_lt (rL HO309.out)) k_ hk)); (case aO => exact (by (with_reducible repeat (first | apply Kd.R_alloc | apply Kd.R_drewN | apply Kd.R_drew)); exact Kd.R_mono HO_7.out (fun _ hk => hk.2))); (case aS => exact (below_size (hL HB.out))); (case aL => have := LMc81.out; omega); intro v311 w86 ho hb hg hat; rw [← Ny310.out] at ho; have n0_ := Aside0.mk (blk_grown (g := gb263) (o := .cells #[.int .i64 a0_0, .int .i64 a0_1, .int .i64 a0_2, .int .i64 a0_3, .int .i64 a0_4, .int .i64 a0_5, .int .i64 a0_6, .string a0_7, .string a0_8, .slice (some ad306) l0_9.length c0_9, .slice A0_10 l0_10.length c0_10, .int .i64 a0_11, .bool a0_12, .string a0_13] 27 (0, 0)) (bL BK263.out) hg (Kd.R_ne HO_7.out BK263.out (by decide))); have n1_ := Aside0.mk (Kd.R_after (ok := (fun _ => True)) (rL HO309.out) hg hat); have n2_ := Aside0.mk (hb); have n3_ := Aside0.mk (ho); clear BK263; clear HO309; clear HB; clear HO_7; have BK263 := n0_; have HO309 := n1_; have HB := n2_; have HO312 := n3_; clear n0_ n1_ n2_ n3_; clear ho hb hg hat; have hcz88_0 : w86.cell? ⟨gb263, 0, none⟩ = some (.int .i64 a0_0) := (blk_cell BK263.out 0).trans rfl; have hcz88_1 : w86.cell? ⟨gb263, 1, none⟩ = some (.int .i64 a0_1) := (blk_cell BK263.out 1).trans rfl; have hcz88_2 : w86.cell? ⟨gb263, 2, none⟩ = some (.int .i64 a0_2) := (blk_cell BK263.out 2).trans rfl; have hcz88_3 : w86.cell? ⟨gb263, 3, none⟩ = some (.int .i64 a0_3) := (blk_cell BK263.out 3).trans rfl; have hcz88_4 : w86.cell? ⟨gb263, 4, none⟩ = some (.int .i64 a0_4) := (blk_cell BK263.out 4).trans rfl; have hcz88_5 : w86.cell? ⟨gb263, 5, none⟩ = some (.int .i64 a0_5) := (blk_cell BK263.out 5).trans rfl; have hcz88_6 : w86.cell? ⟨gb263, 6, none⟩ = some (.int .i64 a0_6) := (blk_cell BK263.out 6).trans rfl; have hcz88_7 : w86.cell? ⟨gb263, 7, none⟩ = some (.string a0_7) := (blk_cell BK263.out 7).trans rfl; have hcz88_8 : w86.cell? ⟨gb263, 8, none⟩ = some (.string a0_8) := (blk_cell BK263.out 8).trans rfl; have hcz88_9 : w86.cell? ⟨gb263, 9, none⟩ = some (.slice (some ad306) l0_9.length c0_9) := (blk_cell BK263.out 9).trans rfl; have hcz88_10 : w86.cell? ⟨gb263, 10, none⟩ = some (.slice A0_10 l0_10.length c0_10) := (blk_cell BK263.out 10).trans rfl; have hcz88_11 : w86.cell? ⟨gb263, 11, none⟩ = some (.int .i64 a0_11) := (blk_cell BK263.out 11).trans rfl; have hcz88_12 : w86.cell? ⟨gb263, 12, none⟩ = some (.bool a0_12) := (blk_cell BK263.out 12).trans rfl; have hcz88_13 : w86.cell? ⟨gb263, 13, none⟩ = some (.string a0_13) := (blk_cell BK263.out 13).trans rfl; have hfz88_0 := blk_frozen BK263.out 0; have hfz88_1 := blk_frozen BK263.out 1; have hfz88_2 := blk_frozen BK263.out 2; have hfz88_3 := blk_frozen BK263.out 3; have hfz88_4 := blk_frozen BK263.out 4; have hfz88_5 := blk_frozen BK263.out 5; have hfz88_6 := blk_frozen BK263.out 6; have hfz88_7 := blk_frozen BK263.out 7; have hfz88_8 := blk_frozen BK263.out 8; have hfz88_9 := blk_frozen BK263.out 9; have hfz88_10 := blk_frozen BK263.out 10; have hfz88_11 := blk_frozen BK263.out 11; have hfz88_12 := blk_frozen BK263.out 12; have hfz88_13 := blk_frozen BK263.out 13; have p313 : 0 ≤ (x11_7 : Int) := of_decide_eq_true (by first | (with_reducible assumption) | assumption); have q313 : x11_7 < (l0_9.length : Int) := of_decide_eq_true (by first | (with_reducible assumption) | assumption); obtain ⟨ad313, e313, hx313_0, hx313_1⟩ := at_T39 HR0_9.out x11_7 p313 q313; obtain rfl : ad306 = ad313 := (by injection e313); replace hx313_0 := (HB.out.cell (World.block_lt_of_cell? w _ hx313_0)).trans hx313_0; replace hx313_1 := (HB.out.cell (World.block_lt_of_cell? w _ hx313_1)).trans hx313_1; replace p313 := eq_true p313; replace q313 := eq_true q313) | ((with_reducible refine gate_callee (f := 38) rfl ?_); refine goesL_ (some 159) rfl rfl Try.func38 (by as_aux_lemma => kernel_rfl) rfl #[.string ((rd_T39 l0_9 x11_7).f1)] rfl (by (try simp only [List.map_toArray, List.map_cons, List.map_nil]); first | done | rfl | (simp only [List.length_drop, List.length_take]; rfl)) ?_; (with_reducible refine (shelfmarkref01_Text.calls kj66 ((rd_T39 l0_9 x11_7).f1) t314 _ A82.out).mono ?_); rintro e w89 ⟨v315, rfl, ho0, hb⟩; refine ⟨_, rfl, ?_⟩; have n0_ := Aside0.mk (Kd.R_elder' (rL HO309.out) (Kd.R_base ho0) hb); have n1_ := Aside0.mk (Kd.R_elder' (rL HO312.out) (Kd.R_base ho0) hb); have n2_ := Aside0.mk (Kd.R_lower (Kd.R_new' (Kd.R_new' ho0 (Kd.R_lt (rL HO309.out))) (Kd.R_lt (rL HO312.out))) (below_size (hL HB.out))); have n3_ := Aside0.mk (blk_below (bL BK263.out) hb); have n4_ := Aside0.mk (below_step (hL HB.out) hb); clear HO309; clear HO312; clear BK263; clear HB; have HO309 := n0_; have HO312 := n1_; have HO316 := n2_; have BK263 := n3_; have HB := n4_; clear n0_ n1_ n2_ n3_ n4_; (try clear hb); (try clear hb2); (try clear hk); (try clear hi); (try clear ho0); obtain ⟨Ao91, co91, eo91⟩ := Kd.R_slice HO316.out; subst eo91) | ((with_reducible refine gate_builtin (b := .append) (xs := #[.tmp 152, .tmp 159]) rfl ?_); (try (refine gate_guard (by rfl) ?_; dsimp only)); at_builtin; refine Kd.R_append_rows (Kd.int .u8) (w0 := w) w.heap.size rfl (.tmp 152) (.tmp 159) 43 5 (.int .u8 0) 1 rfl Try.underlying43 info5 rfl (by decide) (by omega) v311 y310 t314 _ _ _ (fun k_ => some k_ ≠ (.slice Ao87 t307.length co87 : Value).ownBlock ∧ some k_ ≠ (.slice Ao91 t314.length co91 : Value).ownBlock) (fun _ => False) rfl rfl ?aO ?aR (fun _ _ h => h) (fun _ h => h.elim) ?aF ?aB ?aS ?aL ?_; (case aR => repeat (first | exact (Kd.R_reads' HO316.out).2.2 | (with_reducible refine Kd.C_alloc ?_ _) | (with_reducible refine Kd.C_drewN ?_ _) | (with_reducible refine Kd.C_drew ?_))); (case aB => exact (hL HB.out)); (case aF => exact (fun k_ hk => ⟨Kd.fresh' (Kd.R_lt (rL HO309.out)) k_ hk, Kd.fresh' (Kd.R_lt (rL HO316.out)) k_ hk⟩)); (case aO => exact (rL HO312.out)); (case aS => exact (below_size (hL HB.out))); (case aL => have := LMc83.out; omega); intro v318 w90 ho hb hg hat; rw [← Ny317.out] at ho; have n0_ := Aside0.mk (blk_grown (g := gb263) (o := .cells #[.int .i64 a0_0, .int .i64 a0_1, .int .i64 a0_2, .int .i64 a0_3, .int .i64 a0_4, .int .i64 a0_5, .int .i64 a0_6, .string a0_7, .string a0_8, .slice (some ad306) l0_9.length c0_9, .slice A0_10 l0_10.length c0_10, .int .i64 a0_11, .bool a0_12, .string a0_13] 27 (0, 0)) (bL BK263.out) hg (Kd.R_ne HO312.out BK263.out (by decide))); have n1_ := Aside0.mk (Kd.R_after (ok := (fun k_ => some k_ ≠ (.slice Ao91 t314.length co91 : Value).ownBlock)) (by (with_reducible repeat (first | apply Kd.R_alloc | apply Kd.R_drewN | apply Kd.R_drew)); exact Kd.R_mono HO309.out (fun _ hk => ⟨hk.2, hk.1.2⟩)) hg hat); have n2_ := Aside0.mk (Kd.R_after (ok := (fun k_ => some k_ ≠ (.slice Ao87 t307.length co87 : Value).ownBlock)) (by (with_reducible repeat (first | apply Kd.R_alloc | apply Kd.R_drewN | apply Kd.R_drew)); exact Kd.R_mono HO316.out (fun _ hk => ⟨hk.1.2, hk.2⟩)) hg hat); have n3_ := Aside0.mk (hb); have n4_ := Aside0.mk (ho); clear BK263; clear HO309; clear HO316; clear HB; clear HO312; have BK263 := n0_; have HO309 := n1_; have HO316 := n2_; have HB := n3_; have HO319 := n4_; clear n0_ n1_ n2_ n3_ n4_; clear ho hb hg hat))
          go_roundg kj66
          case measure => have := HJ1.out; have := HK2.out; have := HK3.out; have := HJ23.out; have := HK5.out; have := HK6.out; have := HK7.out; have := HJ66.out; omega
          case rel => exact ⟨(y317), (wrap64 (x11_7 + 1)), (by first | rfl | (simp; done) | (simp [*]; done) | (simp [ne_nil_bytes]; done) | (simp [eq_nil_bytes]; done)), H', ⟨by have := HJ1.out; have := HK2.out; have := HK3.out; have := HJ23.out; have := HK5.out; have := HK6.out; have := HK7.out; have := HJ66.out; omega⟩, ⟨by (with_reducible repeat (first | apply Kd.R_alloc | apply Kd.R_drewN | apply Kd.R_drew)); exact Kd.R_mono HO319.out (fun _ hk => trivial)⟩, ⟨by exact bL BK263.out⟩, ⟨hL HB.out⟩⟩
        rw [if_neg c66] at H
        have c66b0 : decide (x11_7 < (l0_9.length : Int)) = false := decide_eq_false c66
        clear c66
        replace H := Option.bind_eq_some_iff.mp H
        obtain ⟨t320, A920, H⟩ := H
        replace H : (if x7_7.length + t320.length < 140737488355328 then (shelfmarkref13_Pack.l5 k7 (x7_7 ++ t320) 0 a0_0 a0_1 a0_2 a0_3 a0_4 a0_5 a0_6 a0_7 a0_8 l0_9 l0_10 a0_11 a0_12 a0_13) else (none)) = some (r1, r2) := H
        have A92 := Aside0.mk A920
        clear A920
        by_cases c93 : x7_7.length + t320.length < 140737488355328
        rotate_left
        ·rw [if_neg c93] at H
         exact absurd H (by simp)
        rw [if_pos c93] at H
        have LMc93 := Aside0.mk c93
        clear c93
        obtain ⟨y323, hy323⟩ : ∃ y_ : List Int, y_ = (x7_7 ++ t320) := ⟨_, rfl⟩
        replace H : (shelfmarkref13_Pack.l5 k7 y323 0 a0_0 a0_1 a0_2 a0_3 a0_4 a0_5 a0_6 a0_7 a0_8 l0_9 l0_10 a0_11 a0_12 a0_13) = some (r1, r2) := by first | (rw [hy323]; with_reducible exact H) | (have H2_ := (Option.bind_some _ _).symm.trans H; rw [hy323]; with_reducible exact H2_) | (have H2_ := (Option.bind_some _ _).symm.trans H; with_reducible exact H2_) | with_reducible exact H | (rw [hy323]; exact H) | exact H
        have Ny323 := Aside0.mk hy323
        clear hy323
        have H' := Aside0.mk H
        clear H
        have hcz94_0 : wr.cell? ⟨gb263, 0, none⟩ = some (.int .i64 a0_0) := (blk_cell BK263.out 0).trans rfl
        have hcz94_1 : wr.cell? ⟨gb263, 1, none⟩ = some (.int .i64 a0_1) := (blk_cell BK263.out 1).trans rfl
        have hcz94_2 : wr.cell? ⟨gb263, 2, none⟩ = some (.int .i64 a0_2) := (blk_cell BK263.out 2).trans rfl
        have hcz94_3 : wr.cell? ⟨gb263, 3, none⟩ = some (.int .i64 a0_3) := (blk_cell BK263.out 3).trans rfl
        have hcz94_4 : wr.cell? ⟨gb263, 4, none⟩ = some (.int .i64 a0_4) := (blk_cell BK263.out 4).trans rfl
        have hcz94_5 : wr.cell? ⟨gb263, 5, none⟩ = some (.int .i64 a0_5) := (blk_cell BK263.out 5).trans rfl
        have hcz94_6 : wr.cell? ⟨gb263, 6, none⟩ = some (.int .i64 a0_6) := (blk_cell BK263.out 6).trans rfl
        have hcz94_7 : wr.cell? ⟨gb263, 7, none⟩ = some (.string a0_7) := (blk_cell BK263.out 7).trans rfl
        have hcz94_8 : wr.cell? ⟨gb263, 8, none⟩ = some (.string a0_8) := (blk_cell BK263.out 8).trans rfl
        have hcz94_9 : wr.cell? ⟨gb263, 9, none⟩ = some (.slice A0_9 l0_9.length c0_9) := (blk_cell BK263.out 9).trans rfl
        have hcz94_10 : wr.cell? ⟨gb263, 10, none⟩ = some (.slice A0_10 l0_10.length c0_10) := (blk_cell BK263.out 10).trans rfl
        have hcz94_11 : wr.cell? ⟨gb263, 11, none⟩ = some (.int .i64 a0_11) := (blk_cell BK263.out 11).trans rfl
        have hcz94_12 : wr.cell? ⟨gb263, 12, none⟩ = some (.bool a0_12) := (blk_cell BK263.out 12).trans rfl
        have hcz94_13 : wr.cell? ⟨gb263, 13, none⟩ = some (.string a0_13) := (blk_cell BK263.out 13).trans rfl
        have hfz94_0 := blk_frozen BK263.out 0
        have hfz94_1 := blk_frozen BK263.out 1
        have hfz94_2 := blk_frozen BK263.out 2
        have hfz94_3 := blk_frozen BK263.out 3
        have hfz94_4 := blk_frozen BK263.out 4
        have hfz94_5 := blk_frozen BK263.out 5
        have hfz94_6 := blk_frozen BK263.out 6
        have hfz94_7 := blk_frozen BK263.out 7
        have hfz94_8 := blk_frozen BK263.out 8
        have hfz94_9 := blk_frozen BK263.out 9
        have hfz94_10 := blk_frozen BK263.out 10
        have hfz94_11 := blk_frozen BK263.out 11
        have hfz94_12 := blk_frozen BK263.out 12
        have hfz94_13 := blk_frozen BK263.out 13
        go_wp2_with (first | ((with_reducible refine gate_callee (f := 36) rfl ?_); refine goesL_ (some 165) rfl rfl Try.func36 (by as_aux_lemma => kernel_rfl) rfl #[.int .i64 (l0_10.length : Int)] rfl (by (try simp only [List.map_toArray, List.map_cons, List.map_nil]); first | done | rfl | (simp only [List.length_drop, List.length_take]; rfl)) ?_; (with_reducible refine (shelfmarkref01_Num.calls k7 (l0_10.length : Int) t320 _ A92.out).mono ?_); rintro e w95 ⟨v321, rfl, ho0, hb⟩; refine ⟨_, rfl, ?_⟩; have n0_ := Aside0.mk (Kd.R_elder' (rL HO_7.out) (Kd.R_base ho0) hb); have n1_ := Aside0.mk (Kd.R_lower (Kd.R_new' ho0 (Kd.R_lt (rL HO_7.out))) (below_size (hL HB.out))); have n2_ := Aside0.mk (blk_below (bL BK263.out) hb); have n3_ := Aside0.mk (below_step (hL HB.out) hb); clear HO_7; clear BK263; clear HB; have HO_7 := n0_; have HO322 := n1_; have BK263 := n2_; have HB := n3_; clear n0_ n1_ n2_ n3_; (try clear hb); (try clear hb2); (try clear hk); (try clear hi); (try clear ho0); obtain ⟨Ao97, co97, eo97⟩ := Kd.R_slice HO322.out; subst eo97) | ((with_reducible refine gate_builtin (b := .append) (xs := #[.tmp 161, .tmp 165]) rfl ?_); (try (refine gate_guard (by rfl) ?_; dsimp only)); at_builtin; refine Kd.R_append_rows (Kd.int .u8) (w0 := w) w.heap.size rfl (.tmp 161) (.tmp 165) 43 5 (.int .u8 0) 1 rfl Try.underlying43 info5 rfl (by decide) (by omega) u7 x7_7 t320 _ _ _ (fun k_ => some k_ ≠ (.slice Ao97 t320.length co97 : Value).ownBlock) (fun _ => False) rfl rfl ?aO ?aR (fun _ _ h => h) (fun _ h => h.elim) ?aF ?aB ?aS ?aL ?_; (case aR => repeat (first | exact (Kd.R_reads' HO322.out).2.2 | (with_reducible refine Kd.C_alloc ?_ _) | (with_reducible refine Kd.C_drewN ?_ _) | (with_reducible refine Kd.C_drew ?_))); (case aB => exact (hL HB.out)); (case aF => exact (fun k_ hk => Kd.fresh' (Kd.R_lt (rL HO322.out)) k_ hk)); (case aO => exact (by (with_reducible repeat (first | apply Kd.R_alloc | apply Kd.R_drewN | apply Kd.R_drew)); exact Kd.R_mono HO_7.out (fun _ hk => hk.2))); (case aS => exact (below_size (hL HB.out))); (case aL => have := LMc93.out; omega); intro v324 w96 ho hb hg hat; rw [← Ny323.out] at ho; have n0_ := Aside0.mk (blk_grown (g := gb263) (o := .cells #[.int .i64 a0_0, .int .i64 a0_1, .int .i64 a0_2, .int .i64 a0_3, .int .i64 a0_4, .int .i64 a0_5, .int .i64 a0_6, .string a0_7, .string a0_8, .slice A0_9 l0_9.length c0_9, .slice A0_10 l0_10.length c0_10, .int .i64 a0_11, .bool a0_12, .string a0_13] 27 (0, 0)) (bL BK263.out) hg (Kd.R_ne HO_7.out BK263.out (by decide))); have n1_ := Aside0.mk (Kd.R_after (ok := (fun _ => True)) (rL HO322.out) hg hat); have n2_ := Aside0.mk (hb); have n3_ := Aside0.mk (ho); clear BK263; clear HO322; clear HB; clear HO_7; have BK263 := n0_; have HO322 := n1_; have HB := n2_; have HO325 := n3_; clear n0_ n1_ n2_ n3_; clear ho hb hg hat))
        go_loopg [7, 12] k7 (fun kq v7 v12 w' => ∃ (x7_8 : List Int) (x12_8 : Int), v12 = .int .i64 x12_8 ∧ Aside0 (shelfmarkref13_Pack.l5 kq x7_8 x12_8 a0_0 a0_1 a0_2 a0_3 a0_4 a0_5 a0_6 a0_7 a0_8 l0_9 l0_10 a0_11 a0_12 a0_13 = some (r1, r2)) ∧ Aside0 (kq ≤ k7) ∧ Aside0 (Kd.R (Kd.int .u8) 5 w' w.heap.size (fun _ => True) v7 x7_8) ∧ Aside0 (w'.heap[gb263]? = some (.cells #[.int .i64 a0_0, .int .i64 a0_1, .int .i64 a0_2, .int .i64 a0_3, .int .i64 a0_4, .int .i64 a0_5, .int .i64 a0_6, .string a0_7, .string a0_8, (.slice A0_9 l0_9.length c0_9), (.slice A0_10 l0_10.length c0_10), .int .i64 a0_11, .bool a0_12, .string a0_13] 27 (0, 0))) ∧ Aside0 (Below w.heap.size w w'))
        case atStart => exact ⟨(y323), (0), (by first | rfl | (simp; done) | (simp [*]; done) | (simp [ne_nil_bytes]; done) | (simp [eq_nil_bytes]; done)), H', ⟨Nat.le_refl _⟩, ⟨by (with_reducible repeat (first | apply Kd.R_alloc | apply Kd.R_drewN | apply Kd.R_drew)); exact Kd.R_mono HO325.out (fun _ hk => trivial)⟩, ⟨by exact bL BK263.out⟩, ⟨hL HB.out⟩⟩
        as_aux_lemma =>
         clear H'
         (try clear p2 p2); (try clear q2 q2); (try clear hx2); (try clear c3); (try clear p3); (try clear q3); (try clear hx3); (try clear c6); (try clear p6 p6); (try clear c7); (try clear c8); (try clear c9); (try clear p26 p26); (try clear q26 q26); (try clear hx26); (try clear p27 p27); (try clear q27 q27); (try clear hx27); (try clear p29 p29); (try clear q29 q29); (try clear hx29); (try clear p30); (try clear q30); (try clear hx30); (try clear p31); (try clear q31); (try clear hx31); (try clear c36); (try clear c38); (try clear p64 p64); (try clear c66); (try clear c66b0); (try clear c66b0z); (try clear c77); (try clear c78); (try clear c78b0); (try clear c78b0z); (try clear c79); (try clear c79b0); (try clear c79b0z); (try clear c81); (try clear c83); (try clear c93); (try clear hcz23_0 hcz23_1 hcz23_10 hcz23_11 hcz23_12 hcz23_13 hcz23_2 hcz23_3 hcz23_4 hcz23_5 hcz23_6 hcz23_7 hcz23_8 hcz23_9); (try clear hcz25_0 hcz25_1 hcz25_10 hcz25_11 hcz25_12 hcz25_13 hcz25_2 hcz25_3 hcz25_4 hcz25_5 hcz25_6 hcz25_7 hcz25_8 hcz25_9); (try clear hcz27_0 hcz27_1 hcz27_10 hcz27_11 hcz27_12 hcz27_13 hcz27_2 hcz27_3 hcz27_4 hcz27_5 hcz27_6 hcz27_7 hcz27_8 hcz27_9); (try clear hcz28_0 hcz28_1 hcz28_10 hcz28_11 hcz28_12 hcz28_13 hcz28_2 hcz28_3 hcz28_4 hcz28_5 hcz28_6 hcz28_7 hcz28_8 hcz28_9); (try clear hcz31_0 hcz31_1 hcz31_10 hcz31_11 hcz31_12 hcz31_13 hcz31_2 hcz31_3 hcz31_4 hcz31_5 hcz31_6 hcz31_7 hcz31_8 hcz31_9); (try clear hcz42_0 hcz42_1 hcz42_10 hcz42_11 hcz42_12 hcz42_13 hcz42_2 hcz42_3 hcz42_4 hcz42_5 hcz42_6 hcz42_7 hcz42_8 hcz42_9); (try clear hcz46_0 hcz46_1 hcz46_10 hcz46_11 hcz46_12 hcz46_13 hcz46_2 hcz46_3 hcz46_4 hcz46_5 hcz46_6 hcz46_7 hcz46_8 hcz46_9); (try clear hcz5_0 hcz5_1 hcz5_10 hcz5_11 hcz5_12 hcz5_13 hcz5_2 hcz5_3 hcz5_4 hcz5_5 hcz5_6 hcz5_7 hcz5_8 hcz5_9); (try clear hcz62_0 hcz62_1 hcz62_10 hcz62_11 hcz62_12 hcz62_13 hcz62_2 hcz62_3 hcz62_4 hcz62_5 hcz62_6 hcz62_7 hcz62_8 hcz62_9); (try clear hcz68_0 hcz68_1 hcz68_10 hcz68_11 hcz68_12 hcz68_13 hcz68_2 hcz68_3 hcz68_4 hcz68_5 hcz68_6 hcz68_7 hcz68_8 hcz68_9); (try clear hcz6_0 hcz6_1 hcz6_10 hcz6_11 hcz6_12 hcz6_13 hcz6_2 hcz6_3 hcz6_4 hcz6_5 hcz6_6 hcz6_7 hcz6_8 hcz6_9); (try clear hcz74_0 hcz74_1 hcz74_10 hcz74_11 hcz74_12 hcz74_13 hcz74_2 hcz74_3 hcz74_4 hcz74_5 hcz74_6 hcz74_7 hcz74_8 hcz74_9); (try clear hcz76_0 hcz76_1 hcz76_10 hcz76_11 hcz76_12 hcz76_13 hcz76_2 hcz76_3 hcz76_4 hcz76_5 hcz76_6 hcz76_7 hcz76_8 hcz76_9); (try clear hcz84_0 hcz84_1 hcz84_10 hcz84_11 hcz84_12 hcz84_13 hcz84_2 hcz84_3 hcz84_4 hcz84_5 hcz84_6 hcz84_7 hcz84_8 hcz84_9); (try clear hcz88_0 hcz88_1 hcz88_10 hcz88_11 hcz88_12 hcz88_13 hcz88_2 hcz88_3 hcz88_4 hcz88_5 hcz88_6 hcz88_7 hcz88_8 hcz88_9); (try clear hcz94_0 hcz94_1 hcz94_10 hcz94_11 hcz94_12 hcz94_13 hcz94_2 hcz94_3 hcz94_4 hcz94_5 hcz94_6 hcz94_7 hcz94_8 hcz94_9); (try clear hcz9_0 hcz9_1 hcz9_10 hcz9_11 hcz9_12 hcz9_13 hcz9_2 hcz9_3 hcz9_4 hcz9_5 hcz9_6 hcz9_7 hcz9_8 hcz9_9); (try clear hfz22_0 hfz22_1 hfz22_10 hfz22_11 hfz22_12 hfz22_13 hfz22_2 hfz22_3 hfz22_4 hfz22_5 hfz22_6 hfz22_7 hfz22_8 hfz22_9); (try clear hfz23_0 hfz23_1 hfz23_10 hfz23_11 hfz23_12 hfz23_13 hfz23_2 hfz23_3 hfz23_4 hfz23_5 hfz23_6 hfz23_7 hfz23_8 hfz23_9); (try clear hfz25_0 hfz25_1 hfz25_10 hfz25_11 hfz25_12 hfz25_13 hfz25_2 hfz25_3 hfz25_4 hfz25_5 hfz25_6 hfz25_7 hfz25_8 hfz25_9); (try clear hfz27_0 hfz27_1 hfz27_10 hfz27_11 hfz27_12 hfz27_13 hfz27_2 hfz27_3 hfz27_4 hfz27_5 hfz27_6 hfz27_7 hfz27_8 hfz27_9); (try clear hfz28_0 hfz28_1 hfz28_10 hfz28_11 hfz28_12 hfz28_13 hfz28_2 hfz28_3 hfz28_4 hfz28_5 hfz28_6 hfz28_7 hfz28_8 hfz28_9); (try clear hfz31_0 hfz31_1 hfz31_10 hfz31_11 hfz31_12 hfz31_13 hfz31_2 hfz31_3 hfz31_4 hfz31_5 hfz31_6 hfz31_7 hfz31_8 hfz31_9); (try clear hfz42_0 hfz42_1 hfz42_10 hfz42_11 hfz42_12 hfz42_13 hfz42_2 hfz42_3 hfz42_4 hfz42_5 hfz42_6 hfz42_7 hfz42_8 hfz42_9); (try clear hfz46_0 hfz46_1 hfz46_10 hfz46_11 hfz46_12 hfz46_13 hfz46_2 hfz46_3 hfz46_4 hfz46_5 hfz46_6 hfz46_7 hfz46_8 hfz46_9); (try clear hfz5_0 hfz5_1 hfz5_10 hfz5_11 hfz5_12 hfz5_13 hfz5_2 hfz5_3 hfz5_4 hfz5_5 hfz5_6 hfz5_7 hfz5_8 hfz5_9); (try clear hfz62_0 hfz62_1 hfz62_10 hfz62_11 hfz62_12 hfz62_13 hfz62_2 hfz62_3 hfz62_4 hfz62_5 hfz62_6 hfz62_7 hfz62_8 hfz62_9); (try clear hfz68_0 hfz68_1 hfz68_10 hfz68_11 hfz68_12 hfz68_13 hfz68_2 hfz68_3 hfz68_4 hfz68_5 hfz68_6 hfz68_7 hfz68_8 hfz68_9); (try clear hfz6_0 hfz6_1 hfz6_10 hfz6_11 hfz6_12 hfz6_13 hfz6_2 hfz6_3 hfz6_4 hfz6_5 hfz6_6 hfz6_7 hfz6_8 hfz6_9); (try clear hfz74_0 hfz74_1 hfz74_10 hfz74_11 hfz74_12 hfz74_13 hfz74_2 hfz74_3 hfz74_4 hfz74_5 hfz74_6 hfz74_7 hfz74_8 hfz74_9); (try clear hfz76_0 hfz76_1 hfz76_10 hfz76_11 hfz76_12 hfz76_13 hfz76_2 hfz76_3 hfz76_4 hfz76_5 hfz76_6 hfz76_7 hfz76_8 hfz76_9); (try clear hfz84_0 hfz84_1 hfz84_10 hfz84_11 hfz84_12 hfz84_13 hfz84_2 hfz84_3 hfz84_4 hfz84_5 hfz84_6 hfz84_7 hfz84_8 hfz84_9); (try clear hfz88_0 hfz88_1 hfz88_10 hfz88_11 hfz88_12 hfz88_13 hfz88_2 hfz88_3 hfz88_4 hfz88_5 hfz88_6 hfz88_7 hfz88_8 hfz88_9); (try clear hfz94_0 hfz94_1 hfz94_10 hfz94_11 hfz94_12 hfz94_13 hfz94_2 hfz94_3 hfz94_4 hfz94_5 hfz94_6 hfz94_7 hfz94_8 hfz94_9); (try clear hfz9_0 hfz9_1 hfz9_10 hfz9_11 hfz9_12 hfz9_13 hfz9_2 hfz9_3 hfz9_4 hfz9_5 hfz9_6 hfz9_7 hfz9_8 hfz9_9); (try clear hx267_0); (try clear hx269_0); (try clear hx269_1); (try clear hx269_2); (try clear hx274_0); (try clear hx290_0); (try clear hx291_0); (try clear hx304_0); (try clear hx304_1); (try clear hx305_0); (try clear hx305_1); (try clear hx306_0); (try clear hx306_1); (try clear hx313_0); (try clear hx313_1); (try clear p267); (try clear p269); (try clear p274); (try clear p290); (try clear p291); (try clear p304); (try clear p305); (try clear p306); (try clear p313); (try clear q267); (try clear q269); (try clear q274); (try clear q290); (try clear q291); (try clear q304); (try clear q305); (try clear q306); (try clear q313)
         obtain ⟨x7_8, x12_8, rfl, HA, HK8, HO_7, BK263, HB⟩ := hrel
         rcases gk with _ | k8
         ·exact absurd HA.out (by simp [shelfmarkref13_Pack.l5])
         have H := HA.out
         clear HA
         simp only [shelfmarkref13_Pack.l5] at H
         by_cases c98 : x12_8 < (l0_10.length : Int)
         rotate_left
         ·rw [if_neg c98] at H
          have c98b0 : decide (x12_8 < (l0_10.length : Int)) = false := decide_eq_false c98
          clear c98
          by_cases c127 : (x7_8.length : Int) > 65536
          ·rw [if_pos c127] at H
           have c127b0 : decide (65536 < (x7_8.length : Int)) = true := decide_eq_true c127
           have c127b1 : decide (65536 < x7_8.length) = true := decide_eq_true (by omega)
           clear c127
           simp only [Option.some.injEq, Prod.mk.injEq] at H
           obtain ⟨rfl, rfl⟩ := H
           have hcz128_0 : wr.cell? ⟨gb263, 0, none⟩ = some (.int .i64 a0_0) := (blk_cell BK263.out 0).trans rfl
           have hcz128_1 : wr.cell? ⟨gb263, 1, none⟩ = some (.int .i64 a0_1) := (blk_cell BK263.out 1).trans rfl
           have hcz128_2 : wr.cell? ⟨gb263, 2, none⟩ = some (.int .i64 a0_2) := (blk_cell BK263.out 2).trans rfl
           have hcz128_3 : wr.cell? ⟨gb263, 3, none⟩ = some (.int .i64 a0_3) := (blk_cell BK263.out 3).trans rfl
           have hcz128_4 : wr.cell? ⟨gb263, 4, none⟩ = some (.int .i64 a0_4) := (blk_cell BK263.out 4).trans rfl
           have hcz128_5 : wr.cell? ⟨gb263, 5, none⟩ = some (.int .i64 a0_5) := (blk_cell BK263.out 5).trans rfl
           have hcz128_6 : wr.cell? ⟨gb263, 6, none⟩ = some (.int .i64 a0_6) := (blk_cell BK263.out 6).trans rfl
           have hcz128_7 : wr.cell? ⟨gb263, 7, none⟩ = some (.string a0_7) := (blk_cell BK263.out 7).trans rfl
           have hcz128_8 : wr.cell? ⟨gb263, 8, none⟩ = some (.string a0_8) := (blk_cell BK263.out 8).trans rfl
           have hcz128_9 : wr.cell? ⟨gb263, 9, none⟩ = some (.slice A0_9 l0_9.length c0_9) := (blk_cell BK263.out 9).trans rfl
           have hcz128_10 : wr.cell? ⟨gb263, 10, none⟩ = some (.slice A0_10 l0_10.length c0_10) := (blk_cell BK263.out 10).trans rfl
           have hcz128_11 : wr.cell? ⟨gb263, 11, none⟩ = some (.int .i64 a0_11) := (blk_cell BK263.out 11).trans rfl
           have hcz128_12 : wr.cell? ⟨gb263, 12, none⟩ = some (.bool a0_12) := (blk_cell BK263.out 12).trans rfl
           have hcz128_13 : wr.cell? ⟨gb263, 13, none⟩ = some (.string a0_13) := (blk_cell BK263.out 13).trans rfl
           have hfz128_0 := blk_frozen BK263.out 0
           have hfz128_1 := blk_frozen BK263.out 1
           have hfz128_2 := blk_frozen BK263.out 2
           have hfz128_3 := blk_frozen BK263.out 3
           have hfz128_4 := blk_frozen BK263.out 4
           have hfz128_5 := blk_frozen BK263.out 5
           have hfz128_6 := blk_frozen BK263.out 6
           have hfz128_7 := blk_frozen BK263.out 7
           have hfz128_8 := blk_frozen BK263.out 8
           have hfz128_9 := blk_frozen BK263.out 9
           have hfz128_10 := blk_frozen BK263.out 10
           have hfz128_11 := blk_frozen BK263.out 11
           have hfz128_12 := blk_frozen BK263.out 12
           have hfz128_13 := blk_frozen BK263.out 13
           obtain ⟨Ao129, co129, eo129⟩ := Kd.R_slice HO_7.out
           subst eo129
           go_wp2
           go_ret2
           exact ⟨by first | rfl | (simp [errW_none, errW_some] <;> rfl) | (simp [*, errW_none, errW_some] <;> rfl), hL HB.out⟩
          rw [if_neg c127] at H
          have c127b0 : decide (65536 < (x7_8.length : Int)) = false := decide_eq_false c127
          have c127b1 : decide (65536 < x7_8.length) = false := decide_eq_false (by omega)
          clear c127
          simp only [Option.some.injEq, Prod.mk.injEq] at H
          obtain ⟨rfl, rfl⟩ := H
          have hcz130_0 : wr.cell? ⟨gb263, 0, none⟩ = some (.int .i64 a0_0) := (blk_cell BK263.out 0).trans rfl
          have hcz130_1 : wr.cell? ⟨gb263, 1, none⟩ = some (.int .i64 a0_1) := (blk_cell BK263.out 1).trans rfl
          have hcz130_2 : wr.cell? ⟨gb263, 2, none⟩ = some (.int .i64 a0_2) := (blk_cell BK263.out 2).trans rfl
          have hcz130_3 : wr.cell? ⟨gb263, 3, none⟩ = some (.int .i64 a0_3) := (blk_cell BK263.out 3).trans rfl
          have hcz130_4 : wr.cell? ⟨gb263, 4, none⟩ = some (.int .i64 a0_4) := (blk_cell BK263.out 4).trans rfl
          have hcz130_5 : wr.cell? ⟨gb263, 5, none⟩ = some (.int .i64 a0_5) := (blk_cell BK263.out 5).trans rfl
          have hcz130_6 : wr.cell? ⟨gb263, 6, none⟩ = some (.int .i64 a0_6) := (blk_cell BK263.out 6).trans rfl
          have hcz130_7 : wr.cell? ⟨gb263, 7, none⟩ = some (.string a0_7) := (blk_cell BK263.out 7).trans rfl
          have hcz130_8 : wr.cell? ⟨gb263, 8, none⟩ = some (.string a0_8) := (blk_cell BK263.out 8).trans rfl
          have hcz130_9 : wr.cell? ⟨gb263, 9, none⟩ = some (.slice A0_9 l0_9.length c0_9) := (blk_cell BK263.out 9).trans rfl
          have hcz130_10 : wr.cell? ⟨gb263, 10, none⟩ = some (.slice A0_10 l0_10.length c0_10) := (blk_cell BK263.out 10).trans rfl
          have hcz130_11 : wr.cell? ⟨gb263, 11, none⟩ = some (.int .i64 a0_11) := (blk_cell BK263.out 11).trans rfl
          have hcz130_12 : wr.cell? ⟨gb263, 12, none⟩ = some (.bool a0_12) := (blk_cell BK263.out 12).trans rfl
          have hcz130_13 : wr.cell? ⟨gb263, 13, none⟩ = some (.string a0_13) := (blk_cell BK263.out 13).trans rfl
          have hfz130_0 := blk_frozen BK263.out 0
          have hfz130_1 := blk_frozen BK263.out 1
          have hfz130_2 := blk_frozen BK263.out 2
          have hfz130_3 := blk_frozen BK263.out 3
          have hfz130_4 := blk_frozen BK263.out 4
          have hfz130_5 := blk_frozen BK263.out 5
          have hfz130_6 := blk_frozen BK263.out 6
          have hfz130_7 := blk_frozen BK263.out 7
          have hfz130_8 := blk_frozen BK263.out 8
          have hfz130_9 := blk_frozen BK263.out 9
          have hfz130_10 := blk_frozen BK263.out 10
          have hfz130_11 := blk_frozen BK263.out 11
          have hfz130_12 := blk_frozen BK263.out 12
          have hfz130_13 := blk_frozen BK263.out 13
          obtain ⟨Ao131, co131, eo131⟩ := Kd.R_slice HO_7.out
          subst eo131
          have hcv132 := own_string (P := Try.prog) Try.underlying43 Try.underlying5 Try.underlying9 (Kd.own_of_R HO_7.out)
          go_wp2
          go_ret2
          exact ⟨by first | rfl | (simp [errW_none, errW_some] <;> rfl) | (simp [*, errW_none, errW_some] <;> rfl), hL HB.out⟩
         rw [if_pos c98] at H
         have c98b0 : decide (x12_8 < (l0_10.length : Int)) = true := decide_eq_true c98
         clear c98
         have HC99 := Aside0.mk H
         clear H
         have hcz100_0 : wr.cell? ⟨gb263, 0, none⟩ = some (.int .i64 a0_0) := (blk_cell BK263.out 0).trans rfl
         have hcz100_1 : wr.cell? ⟨gb263, 1, none⟩ = some (.int .i64 a0_1) := (blk_cell BK263.out 1).trans rfl
         have hcz100_2 : wr.cell? ⟨gb263, 2, none⟩ = some (.int .i64 a0_2) := (blk_cell BK263.out 2).trans rfl
         have hcz100_3 : wr.cell? ⟨gb263, 3, none⟩ = some (.int .i64 a0_3) := (blk_cell BK263.out 3).trans rfl
         have hcz100_4 : wr.cell? ⟨gb263, 4, none⟩ = some (.int .i64 a0_4) := (blk_cell BK263.out 4).trans rfl
         have hcz100_5 : wr.cell? ⟨gb263, 5, none⟩ = some (.int .i64 a0_5) := (blk_cell BK263.out 5).trans rfl
         have hcz100_6 : wr.cell? ⟨gb263, 6, none⟩ = some (.int .i64 a0_6) := (blk_cell BK263.out 6).trans rfl
         have hcz100_7 : wr.cell? ⟨gb263, 7, none⟩ = some (.string a0_7) := (blk_cell BK263.out 7).trans rfl
         have hcz100_8 : wr.cell? ⟨gb263, 8, none⟩ = some (.string a0_8) := (blk_cell BK263.out 8).trans rfl
         have hcz100_9 : wr.cell? ⟨gb263, 9, none⟩ = some (.slice A0_9 l0_9.length c0_9) := (blk_cell BK263.out 9).trans rfl
         have hcz100_10 : wr.cell? ⟨gb263, 10, none⟩ = some (.slice A0_10 l0_10.length c0_10) := (blk_cell BK263.out 10).trans rfl
         have hcz100_11 : wr.cell? ⟨gb263, 11, none⟩ = some (.int .i64 a0_11) := (blk_cell BK263.out 11).trans rfl
         have hcz100_12 : wr.cell? ⟨gb263, 12, none⟩ = some (.bool a0_12) := (blk_cell BK263.out 12).trans rfl
         have hcz100_13 : wr.cell? ⟨gb263, 13, none⟩ = some (.string a0_13) := (blk_cell BK263.out 13).trans rfl
         have hfz100_0 := blk_frozen BK263.out 0
         have hfz100_1 := blk_frozen BK263.out 1
         have hfz100_2 := blk_frozen BK263.out 2
         have hfz100_3 := blk_frozen BK263.out 3
         have hfz100_4 := blk_frozen BK263.out 4
         have hfz100_5 := blk_frozen BK263.out 5
         have hfz100_6 := blk_frozen BK263.out 6
         have hfz100_7 := blk_frozen BK263.out 7
         have hfz100_8 := blk_frozen BK263.out 8
         have hfz100_9 := blk_frozen BK263.out 9
         have hfz100_10 := blk_frozen BK263.out 10
         have hfz100_11 := blk_frozen BK263.out 11
         have hfz100_12 := blk_frozen BK263.out 12
         have hfz100_13 := blk_frozen BK263.out 13
         go_upto_region 41 with (fail)
         go_cut [186] (fun v186 wc => ∃ (kq : Nat) (x186_98 : Bool), v186 = .bool x186_98 ∧ Aside0 (shelfmarkref13_Pack.j9 kq x7_8 x12_8 x186_98 a0_0 a0_1 a0_2 a0_3 a0_4 a0_5 a0_6 a0_7 a0_8 l0_9 l0_10 a0_11 a0_12 a0_13 = some (r1, r2)) ∧ Aside0 (kq ≤ k8) ∧ Aside0 (Kd.R (Kd.int .u8) 5 wc w.heap.size (fun _ => True) u7 x7_8) ∧ Aside0 (wc.heap[gb263]? = some (.cells #[.int .i64 a0_0, .int .i64 a0_1, .int .i64 a0_2, .int .i64 a0_3, .int .i64 a0_4, .int .i64 a0_5, .int .i64 a0_6, .string a0_7, .string a0_8, (.slice A0_9 l0_9.length c0_9), (.slice A0_10 l0_10.length c0_10), .int .i64 a0_11, .bool a0_12, .string a0_13] 27 (0, 0))) ∧ Aside0 (Below w.heap.size w wc))
         case first =>
          have H := HC99.out
          clear HC99
          by_cases c101 : (x7_8.length : Int) > 65536
          ·rw [if_pos c101] at H
           have c101b0 : decide (65536 < (x7_8.length : Int)) = true := decide_eq_true c101
           have c101b1 : decide (65536 < x7_8.length) = true := decide_eq_true (by omega)
           clear c101
           (first | rw [c101b0] | (simp only [i64_w, i32_w]; rw [c101b0]) | skip)
           have H' := Aside0.mk H
           clear H
           obtain ⟨Ao102, co102, eo102⟩ := Kd.R_slice HO_7.out
           subst eo102
           go_wp2
           go_meet
           case rel => exact ⟨_, (true), (by first | rfl | (simp; done) | (simp [*]; done) | (simp [ne_nil_bytes]; done) | (simp [eq_nil_bytes]; done)), H', ⟨by have := HJ1.out; have := HK2.out; have := HK3.out; have := HJ23.out; have := HK5.out; have := HK6.out; have := HK7.out; have := HK8.out; first | omega | exact Nat.le_refl _⟩, ⟨by exact rL HO_7.out⟩, ⟨by exact bL BK263.out⟩, ⟨hL HB.out⟩⟩
          rw [if_neg c101] at H
          have c101b0 : decide (65536 < (x7_8.length : Int)) = false := decide_eq_false c101
          have c101b1 : decide (65536 < x7_8.length) = false := decide_eq_false (by omega)
          clear c101
          (first | rw [c101b0] | (simp only [i64_w, i32_w]; rw [c101b0]) | skip)
          by_cases c103 : 0 ≤ x12_8
          rotate_left
          ·rw [if_neg c103] at H
           exact absurd H (by simp)
          rw [if_pos c103] at H
          have c103b0 : decide (0 ≤ x12_8) = true := decide_eq_true c103
          clear c103
          have H' := Aside0.mk H
          clear H
          obtain ⟨Ao104, co104, eo104⟩ := Kd.R_slice HO_7.out
          subst eo104
          have hcz105_0 : wr.cell? ⟨gb263, 0, none⟩ = some (.int .i64 a0_0) := (blk_cell BK263.out 0).trans rfl
          have hcz105_1 : wr.cell? ⟨gb263, 1, none⟩ = some (.int .i64 a0_1) := (blk_cell BK263.out 1).trans rfl
          have hcz105_2 : wr.cell? ⟨gb263, 2, none⟩ = some (.int .i64 a0_2) := (blk_cell BK263.out 2).trans rfl
          have hcz105_3 : wr.cell? ⟨gb263, 3, none⟩ = some (.int .i64 a0_3) := (blk_cell BK263.out 3).trans rfl
          have hcz105_4 : wr.cell? ⟨gb263, 4, none⟩ = some (.int .i64 a0_4) := (blk_cell BK263.out 4).trans rfl
          have hcz105_5 : wr.cell? ⟨gb263, 5, none⟩ = some (.int .i64 a0_5) := (blk_cell BK263.out 5).trans rfl
          have hcz105_6 : wr.cell? ⟨gb263, 6, none⟩ = some (.int .i64 a0_6) := (blk_cell BK263.out 6).trans rfl
          have hcz105_7 : wr.cell? ⟨gb263, 7, none⟩ = some (.string a0_7) := (blk_cell BK263.out 7).trans rfl
          have hcz105_8 : wr.cell? ⟨gb263, 8, none⟩ = some (.string a0_8) := (blk_cell BK263.out 8).trans rfl
          have hcz105_9 : wr.cell? ⟨gb263, 9, none⟩ = some (.slice A0_9 l0_9.length c0_9) := (blk_cell BK263.out 9).trans rfl
          have hcz105_10 : wr.cell? ⟨gb263, 10, none⟩ = some (.slice A0_10 l0_10.length c0_10) := (blk_cell BK263.out 10).trans rfl
          have hcz105_11 : wr.cell? ⟨gb263, 11, none⟩ = some (.int .i64 a0_11) := (blk_cell BK263.out 11).trans rfl
          have hcz105_12 : wr.cell? ⟨gb263, 12, none⟩ = some (.bool a0_12) := (blk_cell BK263.out 12).trans rfl
          have hcz105_13 : wr.cell? ⟨gb263, 13, none⟩ = some (.string a0_13) := (blk_cell BK263.out 13).trans rfl
          have hfz105_0 := blk_frozen BK263.out 0
          have hfz105_1 := blk_frozen BK263.out 1
          have hfz105_2 := blk_frozen BK263.out 2
          have hfz105_3 := blk_frozen BK263.out 3
          have hfz105_4 := blk_frozen BK263.out 4
          have hfz105_5 := blk_frozen BK263.out 5
          have hfz105_6 := blk_frozen BK263.out 6
          have hfz105_7 := blk_frozen BK263.out 7
          have hfz105_8 := blk_frozen BK263.out 8
          have hfz105_9 := blk_frozen BK263.out 9
          have hfz105_10 := blk_frozen BK263.out 10
          have hfz105_11 := blk_frozen BK263.out 11
          have hfz105_12 := blk_frozen BK263.out 12
          have hfz105_13 := blk_frozen BK263.out 13
          have p326 : 0 ≤ (x12_8 : Int) := of_decide_eq_true (by first | (with_reducible assumption) | assumption)
          have q326 : x12_8 < (l0_10.length : Int) := of_decide_eq_true (by first | (with_reducible assumption) | assumption)
          obtain ⟨ad326, e326, hx326_0, hx326_1, hx326_2⟩ := at_T41 HR0_10.out x12_8 p326 q326
          cases e326
          replace hx326_0 := (HB.out.cell (World.block_lt_of_cell? w _ hx326_0)).trans hx326_0
          replace hx326_1 := (HB.out.cell (World.block_lt_of_cell? w _ hx326_1)).trans hx326_1
          replace hx326_2 := (HB.out.cell (World.block_lt_of_cell? w _ hx326_2)).trans hx326_2
          replace p326 := eq_true p326
          replace q326 := eq_true q326
          go_wp2
          go_meet
          case rel => exact ⟨_, (decide ((((rd_T41 l0_10 x12_8).f0).size : Int) > 65536)), (by first | rfl | (simp; done) | (simp [*]; done) | (simp [ne_nil_bytes]; done) | (simp [eq_nil_bytes]; done)), H', ⟨by have := HJ1.out; have := HK2.out; have := HK3.out; have := HJ23.out; have := HK5.out; have := HK6.out; have := HK7.out; have := HK8.out; first | omega | exact Nat.le_refl _⟩, ⟨by exact rL HO_7.out⟩, ⟨by exact bL BK263.out⟩, ⟨hL HB.out⟩⟩
         as_aux_lemma =>
          clear HC99
          (try clear c1); (try clear p2 p2); (try clear q2 q2); (try clear hx2); (try clear p3); (try clear q3); (try clear hx3); (try clear p6 p6); (try clear c9); (try clear c10); (try clear p26 p26); (try clear q26 q26); (try clear hx26); (try clear p27 p27); (try clear q27 q27); (try clear hx27); (try clear p29 p29); (try clear q29 q29); (try clear hx29); (try clear p30); (try clear q30); (try clear hx30); (try clear p31); (try clear q31); (try clear hx31); (try clear p32); (try clear q32); (try clear hx32); (try clear p64 p64); (try clear c98); (try clear c98b0); (try clear c98b0z); (try clear c101); (try clear c101b0); (try clear c101b0z); (try clear c101b1); (try clear c101b1z); (try clear c103); (try clear c103b0); (try clear c103b0z); (try clear hcz100_0 hcz100_1 hcz100_10 hcz100_11 hcz100_12 hcz100_13 hcz100_2 hcz100_3 hcz100_4 hcz100_5 hcz100_6 hcz100_7 hcz100_8 hcz100_9); (try clear hcz105_0 hcz105_1 hcz105_10 hcz105_11 hcz105_12 hcz105_13 hcz105_2 hcz105_3 hcz105_4 hcz105_5 hcz105_6 hcz105_7 hcz105_8 hcz105_9); (try clear hcz28_3 hcz28_4 hcz28_5 hcz28_6 hcz28_7 hcz28_8 hcz28_9); (try clear hcz31_0 hcz31_1 hcz31_10 hcz31_11 hcz31_12 hcz31_13 hcz31_2 hcz31_3 hcz31_4 hcz31_5 hcz31_6 hcz31_7 hcz31_8 hcz31_9); (try clear hcz42_0 hcz42_1 hcz42_10 hcz42_11 hcz42_12 hcz42_13 hcz42_2 hcz42_3 hcz42_4 hcz42_5 hcz42_6 hcz42_7 hcz42_8 hcz42_9); (try clear hcz46_0 hcz46_1 hcz46_10 hcz46_11 hcz46_12 hcz46_13 hcz46_2 hcz46_3 hcz46_4 hcz46_5 hcz46_6 hcz46_7 hcz46_8 hcz46_9); (try clear hcz5_0 hcz5_1 hcz5_10 hcz5_11 hcz5_12 hcz5_13 hcz5_2 hcz5_3 hcz5_4 hcz5_5 hcz5_6 hcz5_7 hcz5_8 hcz5_9); (try clear hcz62_0 hcz62_1 hcz62_10 hcz62_11 hcz62_12 hcz62_13 hcz62_2 hcz62_3 hcz62_4 hcz62_5 hcz62_6 hcz62_7 hcz62_8 hcz62_9); (try clear hcz68_0 hcz68_1 hcz68_10 hcz68_11 hcz68_12 hcz68_13 hcz68_2 hcz68_3 hcz68_4 hcz68_5 hcz68_6 hcz68_7 hcz68_8 hcz68_9); (try clear hcz6_0 hcz6_1 hcz6_10 hcz6_11 hcz6_12 hcz6_13 hcz6_2 hcz6_3 hcz6_4 hcz6_5 hcz6_6 hcz6_7 hcz6_8 hcz6_9); (try clear hcz74_0 hcz74_1 hcz74_10 hcz74_11 hcz74_12 hcz74_13 hcz74_2 hcz74_3 hcz74_4 hcz74_5 hcz74_6 hcz74_7 hcz74_8 hcz74_9); (try clear hcz76_0 hcz76_1 hcz76_10 hcz76_11 hcz76_12 hcz76_13 hcz76_2 hcz76_3 hcz76_4 hcz76_5 hcz76_6 hcz76_7 hcz76_8 hcz76_9); (try clear hcz84_0 hcz84_1 hcz84_10 hcz84_11 hcz84_12 hcz84_13 hcz84_2 hcz84_3 hcz84_4 hcz84_5 hcz84_6 hcz84_7 hcz84_8 hcz84_9); (try clear hcz88_0 hcz88_1 hcz88_10 hcz88_11 hcz88_12 hcz88_13 hcz88_2 hcz88_3 hcz88_4 hcz88_5 hcz88_6 hcz88_7 hcz88_8 hcz88_9); (try clear hcz94_0 hcz94_1 hcz94_10 hcz94_11 hcz94_12 hcz94_13 hcz94_2 hcz94_3 hcz94_4 hcz94_5 hcz94_6 hcz94_7 hcz94_8 hcz94_9); (try clear hcz9_0 hcz9_1 hcz9_10 hcz9_11 hcz9_12 hcz9_13 hcz9_2 hcz9_3 hcz9_4 hcz9_5 hcz9_6 hcz9_7 hcz9_8 hcz9_9); (try clear hfz100_0 hfz100_1 hfz100_10 hfz100_11 hfz100_12 hfz100_13 hfz100_2 hfz100_3 hfz100_4 hfz100_5 hfz100_6 hfz100_7 hfz100_8 hfz100_9); (try clear hfz105_0 hfz105_1 hfz105_10 hfz105_11 hfz105_12 hfz105_13 hfz105_2 hfz105_3 hfz105_4 hfz105_5 hfz105_6 hfz105_7 hfz105_8 hfz105_9); (try clear hfz22_0 hfz22_1 hfz22_10 hfz22_11 hfz22_12 hfz22_13 hfz22_2 hfz22_3 hfz22_4 hfz22_5 hfz22_6 hfz22_7 hfz22_8 hfz22_9); (try clear hfz23_0 hfz23_1 hfz23_10 hfz23_11 hfz23_12 hfz23_13 hfz23_2 hfz23_3 hfz23_4 hfz23_5 hfz23_6 hfz23_7 hfz23_8 hfz23_9); (try clear hfz25_0 hfz25_1 hfz25_10 hfz25_11 hfz25_12 hfz25_13 hfz25_2 hfz25_3 hfz25_4 hfz25_5 hfz25_6 hfz25_7 hfz25_8 hfz25_9); (try clear hfz27_0 hfz27_1 hfz27_10 hfz27_11 hfz27_12 hfz27_13 hfz27_2 hfz27_3 hfz27_4 hfz27_5 hfz27_6 hfz27_7 hfz27_8 hfz27_9); (try clear hfz28_0 hfz28_1 hfz28_10 hfz28_11 hfz28_12 hfz28_13 hfz28_2 hfz28_3 hfz28_4 hfz28_5 hfz28_6 hfz28_7 hfz28_8 hfz28_9); (try clear hfz31_0 hfz31_1 hfz31_10 hfz31_11 hfz31_12 hfz31_13 hfz31_2 hfz31_3 hfz31_4 hfz31_5 hfz31_6 hfz31_7 hfz31_8 hfz31_9); (try clear hfz42_0 hfz42_1 hfz42_10 hfz42_11 hfz42_12 hfz42_13 hfz42_2 hfz42_3 hfz42_4 hfz42_5 hfz42_6 hfz42_7 hfz42_8 hfz42_9); (try clear hfz46_0 hfz46_1 hfz46_10 hfz46_11 hfz46_12 hfz46_13 hfz46_2 hfz46_3 hfz46_4 hfz46_5 hfz46_6 hfz46_7 hfz46_8 hfz46_9); (try clear hfz5_0 hfz5_1 hfz5_10 hfz5_11 hfz5_12 hfz5_13 hfz5_2 hfz5_3 hfz5_4 hfz5_5 hfz5_6 hfz5_7 hfz5_8 hfz5_9); (try clear hfz62_0 hfz62_1 hfz62_10 hfz62_11 hfz62_12 hfz62_13 hfz62_2 hfz62_3 hfz62_4 hfz62_5 hfz62_6 hfz62_7 hfz62_8 hfz62_9); (try clear hfz68_0 hfz68_1 hfz68_10 hfz68_11 hfz68_12 hfz68_13 hfz68_2 hfz68_3 hfz68_4 hfz68_5 hfz68_6 hfz68_7 hfz68_8 hfz68_9); (try clear hfz6_0 hfz6_1 hfz6_10 hfz6_11 hfz6_12 hfz6_13 hfz6_2 hfz6_3 hfz6_4 hfz6_5 hfz6_6 hfz6_7 hfz6_8 hfz6_9); (try clear hfz74_0 hfz74_1 hfz74_10 hfz74_11 hfz74_12 hfz74_13 hfz74_2 hfz74_3 hfz74_4 hfz74_5 hfz74_6 hfz74_7 hfz74_8 hfz74_9); (try clear hfz76_0 hfz76_1 hfz76_10 hfz76_11 hfz76_12 hfz76_13 hfz76_2 hfz76_3 hfz76_4 hfz76_5 hfz76_6 hfz76_7 hfz76_8 hfz76_9); (try clear hfz84_0 hfz84_1 hfz84_10 hfz84_11 hfz84_12 hfz84_13 hfz84_2 hfz84_3 hfz84_4 hfz84_5 hfz84_6 hfz84_7 hfz84_8 hfz84_9); (try clear hfz88_0 hfz88_1 hfz88_10 hfz88_11 hfz88_12 hfz88_13 hfz88_2 hfz88_3 hfz88_4 hfz88_5 hfz88_6 hfz88_7 hfz88_8 hfz88_9); (try clear hfz94_0 hfz94_1 hfz94_10 hfz94_11 hfz94_12 hfz94_13 hfz94_2 hfz94_3 hfz94_4 hfz94_5 hfz94_6 hfz94_7 hfz94_8 hfz94_9); (try clear hfz9_0 hfz9_1 hfz9_10 hfz9_11 hfz9_12 hfz9_13 hfz9_2 hfz9_3 hfz9_4 hfz9_5 hfz9_6 hfz9_7 hfz9_8 hfz9_9); (try clear hx267_0); (try clear hx269_0); (try clear hx269_1); (try clear hx269_2); (try clear hx274_0); (try clear hx290_0); (try clear hx291_0); (try clear hx304_0); (try clear hx304_1); (try clear hx305_0); (try clear hx305_1); (try clear hx306_0); (try clear hx306_1); (try clear hx313_0); (try clear hx313_1); (try clear hx326_0); (try clear hx326_1); (try clear hx326_2); (try clear p267); (try clear p269); (try clear p274); (try clear p290); (try clear p291); (try clear p304); (try clear p305); (try clear p306); (try clear p313); (try clear p326); (try clear q267); (try clear q269); (try clear q274); (try clear q290); (try clear q291); (try clear q304); (try clear q305); (try clear q306); (try clear q313); (try clear q326)
          obtain ⟨kq, x186_98, rfl, HA, HJ98, HO_7, BK263, HB⟩ := hcut
          rcases kq with _ | kj98
          ·exact absurd HA.out (by simp [shelfmarkref13_Pack.j9])
          have H := HA.out
          clear HA
          simp only [shelfmarkref13_Pack.j9] at H
          by_cases c106 : x186_98 = true
          ·subst c106
           have H1 : (some ((⟨#[]⟩ : ByteArray), 4)) = some (r1, r2) := by rw [if_pos rfl] at H; exact H
           clear H
           have H := H1
           clear H1
           simp only [Option.some.injEq, Prod.mk.injEq] at H
           obtain ⟨rfl, rfl⟩ := H
           go_wp2
           go_ret2
           exact ⟨by first | rfl | (simp [errW_none, errW_some] <;> rfl) | (simp [*, errW_none, errW_some] <;> rfl), hL HB.out⟩
          replace c106 := Bool.eq_false_iff.mpr c106
          subst c106
          have H1 : (if 0 ≤ x12_8 then (if x12_8 < (l0_10.length : Int) then ((shelfmarkref01_Text.f kj98 ((rd_T41 l0_10 x12_8).f0)).bind fun t328 => (if x7_8.length + t328.length < 140737488355328 then ((some (x7_8 ++ t328 : List Int)).bind fun y331 => ((shelfmarkref01_Num.f kj98 ((rd_T41 l0_10 x12_8).f1)).bind fun t335 => (if y331.length + t335.length < 140737488355328 then ((some (y331 ++ t335 : List Int)).bind fun y338 => ((shelfmarkref13_flag.f ((rd_T41 l0_10 x12_8).f2)).bind fun t342 => (if y338.length + t342.length < 140737488355328 then (shelfmarkref13_Pack.l5 kj98 (y338 ++ t342) (wrap64 (x12_8 + 1)) a0_0 a0_1 a0_2 a0_3 a0_4 a0_5 a0_6 a0_7 a0_8 l0_9 l0_10 a0_11 a0_12 a0_13) else (none)))) else (none)))) else (none))) else (none)) else (none)) = some (r1, r2) := by rw [if_neg (show ¬ (false = true) by decide)] at H; exact H
          clear H
          have H := H1
          clear H1
          by_cases c107 : 0 ≤ x12_8
          rotate_left
          ·rw [if_neg c107] at H
           exact absurd H (by simp)
          rw [if_pos c107] at H
          have c107b0 : decide (0 ≤ x12_8) = true := decide_eq_true c107
          clear c107
          by_cases c108 : x12_8 < (l0_10.length : Int)
          rotate_left
          ·rw [if_neg c108] at H
           exact absurd H (by simp)
          rw [if_pos c108] at H
          have c108b0 : decide (x12_8 < (l0_10.length : Int)) = true := decide_eq_true c108
          clear c108
          replace H := Option.bind_eq_some_iff.mp H
          obtain ⟨t328, A1090, H⟩ := H
          replace H : (if x7_8.length + t328.length < 140737488355328 then ((some (x7_8 ++ t328 : List Int)).bind fun y331 => ((shelfmarkref01_Num.f kj98 ((rd_T41 l0_10 x12_8).f1)).bind fun t335 => (if y331.length + t335.length < 140737488355328 then ((some (y331 ++ t335 : List Int)).bind fun y338 => ((shelfmarkref13_flag.f ((rd_T41 l0_10 x12_8).f2)).bind fun t342 => (if y338.length + t342.length < 140737488355328 then (shelfmarkref13_Pack.l5 kj98 (y338 ++ t342) (wrap64 (x12_8 + 1)) a0_0 a0_1 a0_2 a0_3 a0_4 a0_5 a0_6 a0_7 a0_8 l0_9 l0_10 a0_11 a0_12 a0_13) else (none)))) else (none)))) else (none)) = some (r1, r2) := H
          have A109 := Aside0.mk A1090
          clear A1090
          by_cases c110 : x7_8.length + t328.length < 140737488355328
          rotate_left
          ·rw [if_neg c110] at H
           exact absurd H (by simp)
          rw [if_pos c110] at H
          have LMc110 := Aside0.mk c110
          clear c110
          obtain ⟨y331, hy331⟩ : ∃ y_ : List Int, y_ = (x7_8 ++ t328) := ⟨_, rfl⟩
          replace H : ((shelfmarkref01_Num.f kj98 ((rd_T41 l0_10 x12_8).f1)).bind fun t335 => (if y331.length + t335.length < 140737488355328 then ((some (y331 ++ t335 : List Int)).bind fun y338 => ((shelfmarkref13_flag.f ((rd_T41 l0_10 x12_8).f2)).bind fun t342 => (if y338.length + t342.length < 140737488355328 then (shelfmarkref13_Pack.l5 kj98 (y338 ++ t342) (wrap64 (x12_8 + 1)) a0_0 a0_1 a0_2 a0_3 a0_4 a0_5 a0_6 a0_7 a0_8 l0_9 l0_10 a0_11 a0_12 a0_13) else (none)))) else (none))) = some (r1, r2) := by first | (rw [hy331]; with_reducible exact H) | (have H2_ := (Option.bind_some _ _).symm.trans H; rw [hy331]; with_reducible exact H2_) | (have H2_ := (Option.bind_some _ _).symm.trans H; with_reducible exact H2_) | with_reducible exact H | (rw [hy331]; exact H) | exact H
          have Ny331 := Aside0.mk hy331
          clear hy331
          replace H := Option.bind_eq_some_iff.mp H
          obtain ⟨t335, A1110, H⟩ := H
          replace H : (if y331.length + t335.length < 140737488355328 then ((some (y331 ++ t335 : List Int)).bind fun y338 => ((shelfmarkref13_flag.f ((rd_T41 l0_10 x12_8).f2)).bind fun t342 => (if y338.length + t342.length < 140737488355328 then (shelfmarkref13_Pack.l5 kj98 (y338 ++ t342) (wrap64 (x12_8 + 1)) a0_0 a0_1 a0_2 a0_3 a0_4 a0_5 a0_6 a0_7 a0_8 l0_9 l0_10 a0_11 a0_12 a0_13) else (none)))) else (none)) = some (r1, r2) := H
          have A111 := Aside0.mk A1110
          clear A1110
          by_cases c112 : y331.length + t335.length < 140737488355328
          rotate_left
          ·rw [if_neg c112] at H
           exact absurd H (by simp)
          rw [if_pos c112] at H
          have LMc112 := Aside0.mk c112
          clear c112
          obtain ⟨y338, hy338⟩ : ∃ y_ : List Int, y_ = (y331 ++ t335) := ⟨_, rfl⟩
          replace H : ((shelfmarkref13_flag.f ((rd_T41 l0_10 x12_8).f2)).bind fun t342 => (if y338.length + t342.length < 140737488355328 then (shelfmarkref13_Pack.l5 kj98 (y338 ++ t342) (wrap64 (x12_8 + 1)) a0_0 a0_1 a0_2 a0_3 a0_4 a0_5 a0_6 a0_7 a0_8 l0_9 l0_10 a0_11 a0_12 a0_13) else (none))) = some (r1, r2) := by first | (rw [hy338]; with_reducible exact H) | (have H2_ := (Option.bind_some _ _).symm.trans H; rw [hy338]; with_reducible exact H2_) | (have H2_ := (Option.bind_some _ _).symm.trans H; with_reducible exact H2_) | with_reducible exact H | (rw [hy338]; exact H) | exact H
          have Ny338 := Aside0.mk hy338
          clear hy338
          replace H := Option.bind_eq_some_iff.mp H
          obtain ⟨t342, A1130, H⟩ := H
          replace H : (if y338.length + t342.length < 140737488355328 then (shelfmarkref13_Pack.l5 kj98 (y338 ++ t342) (wrap64 (x12_8 + 1)) a0_0 a0_1 a0_2 a0_3 a0_4 a0_5 a0_6 a0_7 a0_8 l0_9 l0_10 a0_11 a0_12 a0_13) else (none)) = some (r1, r2) := H
          have A113 := Aside0.mk A1130
          clear A1130
          by_cases c114 : y338.length + t342.length < 140737488355328
          rotate_left
          ·rw [if_neg c114] at H
           exact absurd H (by simp)
          rw [if_pos c114] at H
          have LMc114 := Aside0.mk c114
          clear c114
          obtain ⟨y345, hy345⟩ : ∃ y_ : List Int, y_ = (y338 ++ t342) := ⟨_, rfl⟩
          replace H : (shelfmarkref13_Pack.l5 kj98 y345 (wrap64 (x12_8 + 1)) a0_0 a0_1 a0_2 a0_3 a0_4 a0_5 a0_6 a0_7 a0_8 l0_9 l0_10 a0_11 a0_12 a0_13) = some (r1, r2) := by first | (rw [hy345]; with_reducible exact H) | (have H2_ := (Option.bind_some _ _).symm.trans H; rw [hy345]; with_reducible exact H2_) | (have H2_ := (Option.bind_some _ _).symm.trans H; with_reducible exact H2_) | with_reducible exact H | (rw [hy345]; exact H) | exact H
          have Ny345 := Aside0.mk hy345
          clear hy345
          have H' := Aside0.mk H
          clear H
          have hcz115_0 : wc.cell? ⟨gb263, 0, none⟩ = some (.int .i64 a0_0) := (blk_cell BK263.out 0).trans rfl
          have hcz115_1 : wc.cell? ⟨gb263, 1, none⟩ = some (.int .i64 a0_1) := (blk_cell BK263.out 1).trans rfl
          have hcz115_2 : wc.cell? ⟨gb263, 2, none⟩ = some (.int .i64 a0_2) := (blk_cell BK263.out 2).trans rfl
          have hcz115_3 : wc.cell? ⟨gb263, 3, none⟩ = some (.int .i64 a0_3) := (blk_cell BK263.out 3).trans rfl
          have hcz115_4 : wc.cell? ⟨gb263, 4, none⟩ = some (.int .i64 a0_4) := (blk_cell BK263.out 4).trans rfl
          have hcz115_5 : wc.cell? ⟨gb263, 5, none⟩ = some (.int .i64 a0_5) := (blk_cell BK263.out 5).trans rfl
          have hcz115_6 : wc.cell? ⟨gb263, 6, none⟩ = some (.int .i64 a0_6) := (blk_cell BK263.out 6).trans rfl
          have hcz115_7 : wc.cell? ⟨gb263, 7, none⟩ = some (.string a0_7) := (blk_cell BK263.out 7).trans rfl
          have hcz115_8 : wc.cell? ⟨gb263, 8, none⟩ = some (.string a0_8) := (blk_cell BK263.out 8).trans rfl
          have hcz115_9 : wc.cell? ⟨gb263, 9, none⟩ = some (.slice A0_9 l0_9.length c0_9) := (blk_cell BK263.out 9).trans rfl
          have hcz115_10 : wc.cell? ⟨gb263, 10, none⟩ = some (.slice A0_10 l0_10.length c0_10) := (blk_cell BK263.out 10).trans rfl
          have hcz115_11 : wc.cell? ⟨gb263, 11, none⟩ = some (.int .i64 a0_11) := (blk_cell BK263.out 11).trans rfl
          have hcz115_12 : wc.cell? ⟨gb263, 12, none⟩ = some (.bool a0_12) := (blk_cell BK263.out 12).trans rfl
          have hcz115_13 : wc.cell? ⟨gb263, 13, none⟩ = some (.string a0_13) := (blk_cell BK263.out 13).trans rfl
          have hfz115_0 := blk_frozen BK263.out 0
          have hfz115_1 := blk_frozen BK263.out 1
          have hfz115_2 := blk_frozen BK263.out 2
          have hfz115_3 := blk_frozen BK263.out 3
          have hfz115_4 := blk_frozen BK263.out 4
          have hfz115_5 := blk_frozen BK263.out 5
          have hfz115_6 := blk_frozen BK263.out 6
          have hfz115_7 := blk_frozen BK263.out 7
          have hfz115_8 := blk_frozen BK263.out 8
          have hfz115_9 := blk_frozen BK263.out 9
          have hfz115_10 := blk_frozen BK263.out 10
          have hfz115_11 := blk_frozen BK263.out 11
          have hfz115_12 := blk_frozen BK263.out 12
          have hfz115_13 := blk_frozen BK263.out 13
          have p327 : 0 ≤ (x12_8 : Int) := of_decide_eq_true (by first | (with_reducible assumption) | assumption)
          have q327 : x12_8 < (l0_10.length : Int) := of_decide_eq_true (by first | (with_reducible assumption) | assumption)
          obtain ⟨ad327, e327, hx327_0, hx327_1, hx327_2⟩ := at_T41 HR0_10.out x12_8 p327 q327
          cases e327
          replace hx327_0 := (HB.out.cell (World.block_lt_of_cell? w _ hx327_0)).trans hx327_0
          replace hx327_1 := (HB.out.cell (World.block_lt_of_cell? w _ hx327_1)).trans hx327_1
          replace hx327_2 := (HB.out.cell (World.block_lt_of_cell? w _ hx327_2)).trans hx327_2
          replace p327 := eq_true p327
          replace q327 := eq_true q327
          go_wp2_with (first | ((with_reducible refine gate_callee (f := 38) rfl ?_); refine goesL_ (some 194) rfl rfl Try.func38 (by as_aux_lemma => kernel_rfl) rfl #[.string ((rd_T41 l0_10 x12_8).f0)] rfl (by (try simp only [List.map_toArray, List.map_cons, List.map_nil]); first | done | rfl | (simp only [List.length_drop, List.length_take]; rfl)) ?_; (with_reducible refine (shelfmarkref01_Text.calls kj98 ((rd_T41 l0_10 x12_8).f0) t328 _ A109.out).mono ?_); rintro e w116 ⟨v329, rfl, ho0, hb⟩; refine ⟨_, rfl, ?_⟩; have n0_ := Aside0.mk (Kd.R_elder' (rL HO_7.out) (Kd.R_base ho0) hb); have n1_ := Aside0.mk (Kd.R_lower (Kd.R_new' ho0 (Kd.R_lt (rL HO_7.out))) (below_size (hL HB.out))); have n2_ := Aside0.mk (blk_below (bL BK263.out) hb); have n3_ := Aside0.mk (below_step (hL HB.out) hb); clear HO_7; clear BK263; clear HB; have HO_7 := n0_; have HO330 := n1_; have BK263 := n2_; have HB := n3_; clear n0_ n1_ n2_ n3_; (try clear hb); (try clear hb2); (try clear hk); (try clear hi); (try clear ho0); obtain ⟨Ao118, co118, eo118⟩ := Kd.R_slice HO330.out; subst eo118) | ((with_reducible refine gate_builtin (b := .append) (xs := #[.tmp 187, .tmp 194]) rfl ?_); (try (refine gate_guard (by rfl) ?_; dsimp only)); at_builtin; refine Kd.R_append_rows (Kd.int .u8) (w0 := w) w.heap.size rfl (.tmp 187) (.tmp 194) 43 5 (.int .u8 0) 1 rfl Try.underlying43 info5 rfl (by decide) (by omega) u7 x7_8 t328 _ _ _ (fun k_ => some k_ ≠ (.slice Ao118 t328.length co118 : Value).ownBlock) (fun _ => False) rfl rfl ?aO ?aR (fun _ _ h => h) (fun _ h => h.elim) ?aF ?aB ?aS ?aL ?_; (case aR => repeat (first | exact (Kd.R_reads' HO330.out).2.2 | (with_reducible refine Kd.C_alloc ?_ _) | (with_reducible refine Kd.C_drewN ?_ _) | (with_reducible refine Kd.C_drew ?_))); (case aB => exact (hL HB.out)); (case aF => exact (fun k_ hk => Kd.fresh' (Kd.R_lt (rL HO330.out)) k_ hk)); (case aO => exact (by (with_reducible repeat (first | apply Kd.R_alloc | apply Kd.R_drewN | apply Kd.R_drew)); exact Kd.R_mono HO_7.out (fun _ hk => hk.2))); (case aS => exact (below_size (hL HB.out))); (case aL => have := LMc110.out; omega); intro v332 w117 ho hb hg hat; rw [← Ny331.out] at ho; have n0_ := Aside0.mk (blk_grown (g := gb263) (o := .cells #[.int .i64 a0_0, .int .i64 a0_1, .int .i64 a0_2, .int .i64 a0_3, .int .i64 a0_4, .int .i64 a0_5, .int .i64 a0_6, .string a0_7, .string a0_8, .slice A0_9 l0_9.length c0_9, .slice (some ad327) l0_10.length c0_10, .int .i64 a0_11, .bool a0_12, .string a0_13] 27 (0, 0)) (bL BK263.out) hg (Kd.R_ne HO_7.out BK263.out (by decide))); have n1_ := Aside0.mk (Kd.R_after (ok := (fun _ => True)) (rL HO330.out) hg hat); have n2_ := Aside0.mk (hb); have n3_ := Aside0.mk (ho); clear BK263; clear HO330; clear HB; clear HO_7; have BK263 := n0_; have HO330 := n1_; have HB := n2_; have HO333 := n3_; clear n0_ n1_ n2_ n3_; clear ho hb hg hat; have hcz119_0 : w117.cell? ⟨gb263, 0, none⟩ = some (.int .i64 a0_0) := (blk_cell BK263.out 0).trans rfl; have hcz119_1 : w117.cell? ⟨gb263, 1, none⟩ = some (.int .i64 a0_1) := (blk_cell BK263.out 1).trans rfl; have hcz119_2 : w117.cell? ⟨gb263, 2, none⟩ = some (.int .i64 a0_2) := (blk_cell BK263.out 2).trans rfl; have hcz119_3 : w117.cell? ⟨gb263, 3, none⟩ = some (.int .i64 a0_3) := (blk_cell BK263.out 3).trans rfl; have hcz119_4 : w117.cell? ⟨gb263, 4, none⟩ = some (.int .i64 a0_4) := (blk_cell BK263.out 4).trans rfl; have hcz119_5 : w117.cell? ⟨gb263, 5, none⟩ = some (.int .i64 a0_5) := (blk_cell BK263.out 5).trans rfl; have hcz119_6 : w117.cell? ⟨gb263, 6, none⟩ = some (.int .i64 a0_6) := (blk_cell BK263.out 6).trans rfl; have hcz119_7 : w117.cell? ⟨gb263, 7, none⟩ = some (.string a0_7) := (blk_cell BK263.out 7).trans rfl; have hcz119_8 : w117.cell? ⟨gb263, 8, none⟩ = some (.string a0_8) := (blk_cell BK263.out 8).trans rfl; have hcz119_9 : w117.cell? ⟨gb263, 9, none⟩ = some (.slice A0_9 l0_9.length c0_9) := (blk_cell BK263.out 9).trans rfl; have hcz119_10 : w117.cell? ⟨gb263, 10, none⟩ = some (.slice (some ad327) l0_10.length c0_10) := (blk_cell BK263.out 10).trans rfl; have hcz119_11 : w117.cell? ⟨gb263, 11, none⟩ = some (.int .i64 a0_11) := (blk_cell BK263.out 11).trans rfl; have hcz119_12 : w117.cell? ⟨gb263, 12, none⟩ = some (.bool a0_12) := (blk_cell BK263.out 12).trans rfl; have hcz119_13 : w117.cell? ⟨gb263, 13, none⟩ = some (.string a0_13) := (blk_cell BK263.out 13).trans rfl; have hfz119_0 := blk_frozen BK263.out 0; have hfz119_1 := blk_frozen BK263.out 1; have hfz119_2 := blk_frozen BK263.out 2; have hfz119_3 := blk_frozen BK263.out 3; have hfz119_4 := blk_frozen BK263.out 4; have hfz119_5 := blk_frozen BK263.out 5; have hfz119_6 := blk_frozen BK263.out 6; have hfz119_7 := blk_frozen BK263.out 7; have hfz119_8 := blk_frozen BK263.out 8; have hfz119_9 := blk_frozen BK263.out 9; have hfz119_10 := blk_frozen BK263.out 10; have hfz119_11 := blk_frozen BK263.out 11; have hfz119_12 := blk_frozen BK263.out 12; have hfz119_13 := blk_frozen BK263.out 13; have p334 : 0 ≤ (x12_8 : Int) := of_decide_eq_true (by first | (with_reducible assumption) | assumption); have q334 : x12_8 < (l0_10.length : Int) := of_decide_eq_true (by first | (with_reducible assumption) | assumption); obtain ⟨ad334, e334, hx334_0, hx334_1, hx334_2⟩ := at_T41 HR0_10.out x12_8 p334 q334; obtain rfl : ad327 = ad334 := (by injection e334); replace hx334_0 := (HB.out.cell (World.block_lt_of_cell? w _ hx334_0)).trans hx334_0; replace hx334_1 := (HB.out.cell (World.block_lt_of_cell? w _ hx334_1)).trans hx334_1; replace hx334_2 := (HB.out.cell (World.block_lt_of_cell? w _ hx334_2)).trans hx334_2; replace p334 := eq_true p334; replace q334 := eq_true q334) | ((with_reducible refine gate_callee (f := 36) rfl ?_); refine goesL_ (some 203) rfl rfl Try.func36 (by as_aux_lemma => kernel_rfl) rfl #[.int .i64 ((rd_T41 l0_10 x12_8).f1)] rfl (by (try simp only [List.map_toArray, List.map_cons, List.map_nil]); first | done | rfl | (simp only [List.length_drop, List.length_take]; rfl)) ?_; (with_reducible refine (shelfmarkref01_Num.calls kj98 ((rd_T41 l0_10 x12_8).f1) t335 _ A111.out).mono ?_); rintro e w120 ⟨v336, rfl, ho0, hb⟩; refine ⟨_, rfl, ?_⟩; have n0_ := Aside0.mk (Kd.R_elder' (rL HO330.out) (Kd.R_base ho0) hb); have n1_ := Aside0.mk (Kd.R_elder' (rL HO333.out) (Kd.R_base ho0) hb); have n2_ := Aside0.mk (Kd.R_lower (Kd.R_new' (Kd.R_new' ho0 (Kd.R_lt (rL HO330.out))) (Kd.R_lt (rL HO333.out))) (below_size (hL HB.out))); have n3_ := Aside0.mk (blk_below (bL BK263.out) hb); have n4_ := Aside0.mk (below_step (hL HB.out) hb); clear HO330; clear HO333; clear BK263; clear HB; have HO330 := n0_; have HO333 := n1_; have HO337 := n2_; have BK263 := n3_; have HB := n4_; clear n0_ n1_ n2_ n3_ n4_; (try clear hb); (try clear hb2); (try clear hk); (try clear hi); (try clear ho0); obtain ⟨Ao122, co122, eo122⟩ := Kd.R_slice HO337.out; subst eo122) | ((with_reducible refine gate_builtin (b := .append) (xs := #[.tmp 196, .tmp 203]) rfl ?_); (try (refine gate_guard (by rfl) ?_; dsimp only)); at_builtin; refine Kd.R_append_rows (Kd.int .u8) (w0 := w) w.heap.size rfl (.tmp 196) (.tmp 203) 43 5 (.int .u8 0) 1 rfl Try.underlying43 info5 rfl (by decide) (by omega) v332 y331 t335 _ _ _ (fun k_ => some k_ ≠ (.slice Ao118 t328.length co118 : Value).ownBlock ∧ some k_ ≠ (.slice Ao122 t335.length co122 : Value).ownBlock) (fun _ => False) rfl rfl ?aO ?aR (fun _ _ h => h) (fun _ h => h.elim) ?aF ?aB ?aS ?aL ?_; (case aR => repeat (first | exact (Kd.R_reads' HO337.out).2.2 | (with_reducible refine Kd.C_alloc ?_ _) | (with_reducible refine Kd.C_drewN ?_ _) | (with_reducible refine Kd.C_drew ?_))); (case aB => exact (hL HB.out)); (case aF => exact (fun k_ hk => ⟨Kd.fresh' (Kd.R_lt (rL HO330.out)) k_ hk, Kd.fresh' (Kd.R_lt (rL HO337.out)) k_ hk⟩)); (case aO => exact (rL HO333.out)); (case aS => exact (below_size (hL HB.out))); (case aL => have := LMc112.out; omega); intro v339 w121 ho hb hg hat; rw [← Ny338.out] at ho; have n0_ := Aside0.mk (blk_grown (g := gb263) (o := .cells #[.int .i64 a0_0, .int .i64 a0_1, .int .i64 a0_2, .int .i64 a0_3, .int .i64 a0_4, .int .i64 a0_5, .int .i64 a0_6, .string a0_7, .string a0_8, .slice A0_9 l0_9.length c0_9, .slice (some ad327) l0_10.length c0_10, .int .i64 a0_11, .bool a0_12, .string a0_13] 27 (0, 0)) (bL BK263.out) hg (Kd.R_ne HO333.out BK263.out (by decide))); have n1_ := Aside0.mk (Kd.R_after (ok := (fun k_ => some k_ ≠ (.slice Ao122 t335.length co122 : Value).ownBlock)) (by (with_reducible repeat (first | apply Kd.R_alloc | apply Kd.R_drewN | apply Kd.R_drew)); exact Kd.R_mono HO330.out (fun _ hk => ⟨hk.2, hk.1.2⟩)) hg hat); have n2_ := Aside0.mk (Kd.R_after (ok := (fun k_ => some k_ ≠ (.slice Ao118 t328.length co118 : Value).ownBlock)) (by (with_reducible repeat (first | apply Kd.R_alloc | apply Kd.R_drewN | apply Kd.R_drew)); exact Kd.R_mono HO337.out (fun _ hk => ⟨hk.1.2, hk.2⟩)) hg hat); have n3_ := Aside0.mk (hb); have n4_ := Aside0.mk (ho); clear BK263; clear HO330; clear HO337; clear HB; clear HO333; have BK263 := n0_; have HO330 := n1_; have HO337 := n2_; have HB := n3_; have HO340 := n4_; clear n0_ n1_ n2_ n3_ n4_; clear ho hb hg hat; have hcz123_0 : w121.cell? ⟨gb263, 0, none⟩ = some (.int .i64 a0_0) := (blk_cell BK263.out 0).trans rfl; have hcz123_1 : w121.cell? ⟨gb263, 1, none⟩ = some (.int .i64 a0_1) := (blk_cell BK263.out 1).trans rfl; have hcz123_2 : w121.cell? ⟨gb263, 2, none⟩ = some (.int .i64 a0_2) := (blk_cell BK263.out 2).trans rfl; have hcz123_3 : w121.cell? ⟨gb263, 3, none⟩ = some (.int .i64 a0_3) := (blk_cell BK263.out 3).trans rfl; have hcz123_4 : w121.cell? ⟨gb263, 4, none⟩ = some (.int .i64 a0_4) := (blk_cell BK263.out 4).trans rfl; have hcz123_5 : w121.cell? ⟨gb263, 5, none⟩ = some (.int .i64 a0_5) := (blk_cell BK263.out 5).trans rfl; have hcz123_6 : w121.cell? ⟨gb263, 6, none⟩ = some (.int .i64 a0_6) := (blk_cell BK263.out 6).trans rfl; have hcz123_7 : w121.cell? ⟨gb263, 7, none⟩ = some (.string a0_7) := (blk_cell BK263.out 7).trans rfl; have hcz123_8 : w121.cell? ⟨gb263, 8, none⟩ = some (.string a0_8) := (blk_cell BK263.out 8).trans rfl; have hcz123_9 : w121.cell? ⟨gb263, 9, none⟩ = some (.slice A0_9 l0_9.length c0_9) := (blk_cell BK263.out 9).trans rfl; have hcz123_10 : w121.cell? ⟨gb263, 10, none⟩ = some (.slice (some ad327) l0_10.length c0_10) := (blk_cell BK263.out 10).trans rfl; have hcz123_11 : w121.cell? ⟨gb263, 11, none⟩ = some (.int .i64 a0_11) := (blk_cell BK263.out 11).trans rfl; have hcz123_12 : w121.cell? ⟨gb263, 12, none⟩ = some (.bool a0_12) := (blk_cell BK263.out 12).trans rfl; have hcz123_13 : w121.cell? ⟨gb263, 13, none⟩ = some (.string a0_13) := (blk_cell BK263.out 13).trans rfl; have hfz123_0 := blk_frozen BK263.out 0; have hfz123_1 := blk_frozen BK263.out 1; have hfz123_2 := blk_frozen BK263.out 2; have hfz123_3 := blk_frozen BK263.out 3; have hfz123_4 := blk_frozen BK263.out 4; have hfz123_5 := blk_frozen BK263.out 5; have hfz123_6 := blk_frozen BK263.out 6; have hfz123_7 := blk_frozen BK263.out 7; have hfz123_8 := blk_frozen BK263.out 8; have hfz123_9 := blk_frozen BK263.out 9; have hfz123_10 := blk_frozen BK263.out 10; have hfz123_11 := blk_frozen BK263.out 11; have hfz123_12 := blk_frozen BK263.out 12; have hfz123_13 := blk_frozen BK263.out 13; have p341 : 0 ≤ (x12_8 : Int) := of_decide_eq_true (by first | (with_reducible assumption) | assumption); have q341 : x12_8 < (l0_10.length : Int) := of_decide_eq_true (by first | (with_reducible assumption) | assumption); obtain ⟨ad341, e341, hx341_0, hx341_1, hx341_2⟩ := at_T41 HR0_10.out x12_8 p341 q341; obtain rfl : ad327 = ad341 := (by injection e341); replace hx341_0 := (HB.out.cell (World.block_lt_of_cell? w _ hx341_0)).trans hx341_0; replace hx341_1 := (HB.out.cell (World.block_lt_of_cell? w _ hx341_1)).trans hx341_1; replace hx341_2 := (HB.out.cell (World.block_lt_of_cell? w _ hx341_2)).trans hx341_2; replace p341 := eq_true p341; replace q341 := eq_true q341) | ((with_reducible refine gate_callee (f := 37) rfl ?_); refine goesL_ (some 212) rfl rfl Try.func37 (by as_aux_lemma => kernel_rfl) rfl #[.bool ((rd_T41 l0_10 x12_8).f2)] rfl (by (try simp only [List.map_toArray, List.map_cons, List.map_nil]); first | done | rfl | (simp only [List.length_drop, List.length_take]; rfl)) ?_; (with_reducible refine (shelfmarkref13_flag.calls ((rd_T41 l0_10 x12_8).f2) t342 _ A113.out).mono ?_); rintro e w124 ⟨v343, rfl, ho0, hb⟩; refine ⟨_, rfl, ?_⟩; have n0_ := Aside0.mk (Kd.R_elder' (rL HO330.out) (Kd.R_base ho0) hb); have n1_ := Aside0.mk (Kd.R_elder' (rL HO337.out) (Kd.R_base ho0) hb); have n2_ := Aside0.mk (Kd.R_elder' (rL HO340.out) (Kd.R_base ho0) hb); have n3_ := Aside0.mk (Kd.R_lower (Kd.R_new' (Kd.R_new' (Kd.R_new' ho0 (Kd.R_lt (rL HO330.out))) (Kd.R_lt (rL HO337.out))) (Kd.R_lt (rL HO340.out))) (below_size (hL HB.out))); have n4_ := Aside0.mk (blk_below (bL BK263.out) hb); have n5_ := Aside0.mk (below_step (hL HB.out) hb); clear HO330; clear HO337; clear HO340; clear BK263; clear HB; have HO330 := n0_; have HO337 := n1_; have HO340 := n2_; have HO344 := n3_; have BK263 := n4_; have HB := n5_; clear n0_ n1_ n2_ n3_ n4_ n5_; (try clear hb); (try clear hb2); (try clear hk); (try clear hi); (try clear ho0); obtain ⟨Ao126, co126, eo126⟩ := Kd.R_slice HO344.out; subst eo126) | ((with_reducible refine gate_builtin (b := .append) (xs := #[.tmp 205, .tmp 212]) rfl ?_); (try (refine gate_guard (by rfl) ?_; dsimp only)); at_builtin; refine Kd.R_append_rows (Kd.int .u8) (w0 := w) w.heap.size rfl (.tmp 205) (.tmp 212) 43 5 (.int .u8 0) 1 rfl Try.underlying43 info5 rfl (by decide) (by omega) v339 y338 t342 _ _ _ (fun k_ => some k_ ≠ (.slice Ao118 t328.length co118 : Value).ownBlock ∧ some k_ ≠ (.slice Ao122 t335.length co122 : Value).ownBlock ∧ some k_ ≠ (.slice Ao126 t342.length co126 : Value).ownBlock) (fun _ => False) rfl rfl ?aO ?aR (fun _ _ h => h) (fun _ h => h.elim) ?aF ?aB ?aS ?aL ?_; (case aR => repeat (first | exact (Kd.R_reads' HO344.out).2.2 | (with_reducible refine Kd.C_alloc ?_ _) | (with_reducible refine Kd.C_drewN ?_ _) | (with_reducible refine Kd.C_drew ?_))); (case aB => exact (hL HB.out)); (case aF => exact (fun k_ hk => ⟨Kd.fresh' (Kd.R_lt (rL HO330.out)) k_ hk, Kd.fresh' (Kd.R_lt (rL HO337.out)) k_ hk, Kd.fresh' (Kd.R_lt (rL HO344.out)) k_ hk⟩)); (case aO => exact (by (with_reducible repeat (first | apply Kd.R_alloc | apply Kd.R_drewN | apply Kd.R_drew)); exact Kd.R_mono HO340.out (fun _ hk => ⟨hk.1.1, ⟨hk.1.2, hk.2⟩⟩))); (case aS => exact (below_size (hL HB.out))); (case aL => have := LMc114.out; omega); intro v346 w125 ho hb hg hat; rw [← Ny345.out] at ho; have n0_ := Aside0.mk (blk_grown (g := gb263) (o := .cells #[.int .i64 a0_0, .int .i64 a0_1, .int .i64 a0_2, .int .i64 a0_3, .int .i64 a0_4, .int .i64 a0_5, .int .i64 a0_6, .string a0_7, .string a0_8, .slice A0_9 l0_9.length c0_9, .slice (some ad327) l0_10.length c0_10, .int .i64 a0_11, .bool a0_12, .string a0_13] 27 (0, 0)) (bL BK263.out) hg (Kd.R_ne HO340.out BK263.out (by decide))); have n1_ := Aside0.mk (Kd.R_after (ok := (fun k_ => some k_ ≠ (.slice Ao122 t335.length co122 : Value).ownBlock ∧ some k_ ≠ (.slice Ao126 t342.length co126 : Value).ownBlock)) (by (with_reducible repeat (first | apply Kd.R_alloc | apply Kd.R_drewN | apply Kd.R_drew)); exact Kd.R_mono HO330.out (fun _ hk => ⟨⟨hk.1.1, hk.2⟩, hk.1.2⟩)) hg hat); have n2_ := Aside0.mk (Kd.R_after (ok := (fun k_ => some k_ ≠ (.slice Ao118 t328.length co118 : Value).ownBlock ∧ some k_ ≠ (.slice Ao126 t342.length co126 : Value).ownBlock)) (by (with_reducible repeat (first | apply Kd.R_alloc | apply Kd.R_drewN | apply Kd.R_drew)); exact Kd.R_mono HO337.out (fun _ hk => ⟨⟨hk.1.1, hk.2⟩, hk.1.2⟩)) hg hat); have n3_ := Aside0.mk (Kd.R_after (ok := (fun k_ => some k_ ≠ (.slice Ao118 t328.length co118 : Value).ownBlock ∧ some k_ ≠ (.slice Ao122 t335.length co122 : Value).ownBlock)) (by (with_reducible repeat (first | apply Kd.R_alloc | apply Kd.R_drewN | apply Kd.R_drew)); exact Kd.R_mono HO344.out (fun _ hk => ⟨⟨hk.1.1.2, hk.1.2⟩, hk.2⟩)) hg hat); have n4_ := Aside0.mk (hb); have n5_ := Aside0.mk (ho); clear BK263; clear HO330; clear HO337; clear HO344; clear HB; clear HO340; have BK263 := n0_; have HO330 := n1_; have HO337 := n2_; have HO344 := n3_; have HB := n4_; have HO347 := n5_; clear n0_ n1_ n2_ n3_ n4_ n5_; clear ho hb hg hat))
          go_roundg kj98
          case measure => have := HJ1.out; have := HK2.out; have := HK3.out; have := HJ23.out; have := HK5.out; have := HK6.out; have := HK7.out; have := HK8.out; have := HJ98.out; omega
          case rel => exact ⟨(y345), (wrap64 (x12_8 + 1)), (by first | rfl | (simp; done) | (simp [*]; done) | (simp [ne_nil_bytes]; done) | (simp [eq_nil_bytes]; done)), H', ⟨by have := HJ1.out; have := HK2.out; have := HK3.out; have := HJ23.out; have := HK5.out; have := HK6.out; have := HK7.out; have := HK8.out; have := HJ98.out; omega⟩, ⟨by (with_reducible repeat (first | apply Kd.R_alloc | apply Kd.R_drewN | apply Kd.R_drew)); exact Kd.R_mono HO347.out (fun _ hk => trivial)⟩, ⟨by exact bL BK263.out⟩, ⟨hL HB.out⟩⟩

end Go.Proofs.Ythghacojbhjeaaa.PLt
