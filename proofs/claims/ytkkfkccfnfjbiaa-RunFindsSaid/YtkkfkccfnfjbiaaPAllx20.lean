-- Written by a program of this session for this claim (mp.py, over the kit's print); Lean checks it.
import Derived.Test.YtkkfkccfnfjbiaaPAllx0
import Derived.Test.YtkkfkccfnfjbiaaPAllx1
import Derived.Test.YtkkfkccfnfjbiaaPAllx9
import Derived.Test.YtkkfkccfnfjbiaaPAllx13
import Derived.Test.YtkkfkccfnfjbiaaPAllx14
import Derived.Test.YtkkfkccfnfjbiaaPAllx15
import Derived.Test.YtkkfkccfnfjbiaaPAllx16
import Derived.Test.YtkkfkccfnfjbiaaPAllx17
import Derived.Test.YtkkfkccfnfjbiaaPAllx18
import Derived.Test.YtkkfkccfnfjbiaaPAllx19
namespace Go.Proofs.Ytkkfkccfnfjbiaa.PAll
open Go.RowKit Go.Proofs.YtkkfkccfnfjbiaaW.PrintWords Go.Proofs.YtkkfkccfnfjbiaaW.PrintLast Go.Proofs.YtkkfkccfnfjbiaaW.PrintMore Go.Proofs.Ytkkfkccfnfjbiaa.Fv Go.Proofs.Ytkkfkccfnfjbiaa.Hl
attribute [local go_sem] max2_int min2_int max_two min_two max_three min_three max_four min_four str_gtr str_leq str_geq cell_set2   -- for this text's walks alone
set_option linter.unusedVariables false
set_option linter.unusedSimpArgs false

attribute [local go_sem high] eqA37
/-! ### shelfmarklaw09_RunFinds: function 4 -/
def shelfmarklaw09_RunFinds.j0 : Nat → List (S37) → ByteArray → Bool → ByteArray → ByteArray → Option (Bool)
 | 0, _, _, _, _, _ => none
 | k + 1, x0, x1, x32, x338000, x338001 => if x32 = true then (some true) else ((run_Find.f k x0 x1).bind fun bt340 => ((shelfmarkref09_Find.f k x0 x1).bind fun bt345 => (if (bt340.1.toList == bt345.1.toList && (bt340.2.1.toList == bt345.2.1.toList && (bt340.2.2.1 == bt345.2.2.1))) = true then (if (bt340.2.2.2 == bt345.2.2.2) = true then ((run_Slice.f k x0 x338000 x338001).bind fun t350 => ((shelfmarkref09_Slice.f k x0 x338000 x338001).bind fun t353 => ((shelfmarkref09_Same.f k t350 t353).bind fun t356 => (if t356 = true then ((run_Live.f k x0).bind fun t357 => ((shelfmarkref09_Live.f k x0).bind fun t360 => ((shelfmarkref09_SamePairs.f k t357 t360).bind fun t363 => (some t363)))) else (some false))))) else (some false)) else (some false))))
def shelfmarklaw09_RunFinds.f (k : Nat) (l0 : List (S37)) (a1 : ByteArray) (a2_0 : ByteArray) (a2_1 : ByteArray) : Option (Bool) := (shelfmarklaw09_awake.f k).bind fun t338 => (if t338 = true then ((shelfmarkref09_Light.f k l0 60).bind fun t339 => (if t339 = true then (if (a1.size : Int) > 1000 then (shelfmarklaw09_RunFinds.j0 k l0 a1 true a2_0 a2_1) else (if (a2_0.size : Int) > 1000 then (shelfmarklaw09_RunFinds.j0 k l0 a1 true a2_0 a2_1) else (shelfmarklaw09_RunFinds.j0 k l0 a1 (decide ((a2_1.size : Int) > 1000)) a2_0 a2_1))) else (shelfmarklaw09_RunFinds.j0 k l0 a1 true a2_0 a2_1))) else (some false))
theorem shelfmarklaw09_RunFinds.mono_l : ∀ k, (∀ y0 y1 y2 y3 y4, LeO (shelfmarklaw09_RunFinds.j0 k y0 y1 y2 y3 y4) (shelfmarklaw09_RunFinds.j0 (k + 1) y0 y1 y2 y3 y4))
 | 0 => fun _ _ _ _ _ r h => by simp [shelfmarklaw09_RunFinds.j0] at h
 | k + 1 => by
  have ih0 := shelfmarklaw09_RunFinds.mono_l k
  ·intro y0 y1 y2 y3 y4
   unfold shelfmarklaw09_RunFinds.j0
   repeat' first
   | (with_reducible exact ih0 _ _ _ _ _)
   | (with_reducible exact run_Find.mono _ _ _)
   | (with_reducible exact run_Live.mono _ _)
   | (with_reducible exact run_Slice.mono _ _ _ _)
   | (with_reducible exact shelfmarklaw09_awake.mono _)
   | (with_reducible exact shelfmarkref09_Find.mono _ _ _)
   | (with_reducible exact shelfmarkref09_Light.mono _ _ _)
   | (with_reducible exact shelfmarkref09_Live.mono _ _)
   | (with_reducible exact shelfmarkref09_Same.mono _ _ _)
   | (with_reducible exact shelfmarkref09_SamePairs.mono _ _ _)
   | (with_reducible exact shelfmarkref09_Slice.mono _ _ _ _)
   | (with_reducible exact LeO.refl _)
   | (with_reducible exact LeO.none _)
   | (with_reducible refine LeO.ite ?_ ?_)
   | (with_reducible refine LeO.bind ?_ (fun _ => ?_))
   | exact ih0 _ _ _ _ _
   | exact run_Find.mono _ _ _
   | exact run_Live.mono _ _
   | exact run_Slice.mono _ _ _ _
   | exact shelfmarklaw09_awake.mono _
   | exact shelfmarkref09_Find.mono _ _ _
   | exact shelfmarkref09_Light.mono _ _ _
   | exact shelfmarkref09_Live.mono _ _
   | exact shelfmarkref09_Same.mono _ _ _
   | exact shelfmarkref09_SamePairs.mono _ _ _
   | exact shelfmarkref09_Slice.mono _ _ _ _
   | exact LeO.none _
   | refine LeO.ite ?_ ?_
   | refine LeO.bind ?_ (fun _ => ?_)
theorem shelfmarklaw09_RunFinds.mono : ∀ a0 a1 a2 a3 k, LeO (shelfmarklaw09_RunFinds.f k a0 a1 a2 a3) (shelfmarklaw09_RunFinds.f (k + 1) a0 a1 a2 a3) := by
 intro a0 a1 a2 a3 k
 have ih0 := shelfmarklaw09_RunFinds.mono_l k
 unfold shelfmarklaw09_RunFinds.f
 repeat' first
   | (with_reducible exact ih0 _ _ _ _ _)
   | (with_reducible exact run_Find.mono _ _ _)
   | (with_reducible exact run_Live.mono _ _)
   | (with_reducible exact run_Slice.mono _ _ _ _)
   | (with_reducible exact shelfmarklaw09_awake.mono _)
   | (with_reducible exact shelfmarkref09_Find.mono _ _ _)
   | (with_reducible exact shelfmarkref09_Light.mono _ _ _)
   | (with_reducible exact shelfmarkref09_Live.mono _ _)
   | (with_reducible exact shelfmarkref09_Same.mono _ _ _)
   | (with_reducible exact shelfmarkref09_SamePairs.mono _ _ _)
   | (with_reducible exact shelfmarkref09_Slice.mono _ _ _ _)
   | (with_reducible exact LeO.refl _)
   | (with_reducible exact LeO.none _)
   | (with_reducible refine LeO.ite ?_ ?_)
   | (with_reducible refine LeO.bind ?_ (fun _ => ?_))
   | exact ih0 _ _ _ _ _
   | exact run_Find.mono _ _ _
   | exact run_Live.mono _ _
   | exact run_Slice.mono _ _ _ _
   | exact shelfmarklaw09_awake.mono _
   | exact shelfmarkref09_Find.mono _ _ _
   | exact shelfmarkref09_Light.mono _ _ _
   | exact shelfmarkref09_Live.mono _ _
   | exact shelfmarkref09_Same.mono _ _ _
   | exact shelfmarkref09_SamePairs.mono _ _ _
   | exact shelfmarkref09_Slice.mono _ _ _ _
   | exact LeO.none _
   | refine LeO.ite ?_ ?_
   | refine LeO.bind ?_ (fun _ => ?_)
def shelfmarklaw09_RunFinds.T7 : Bool × List (List Nat × List Nat) := (true, [([], []), ([], []), ([0, 1], [0, 1]), ([2], [2]), ([3], [3]), ([3], [3]), ([4, 5, 3], [3, 4, 5]), ([3, 6], [3, 6]), ([7, 3], [7]), ([8], [8]), ([8], [8]), ([9, 10, 8, 8], [8, 9, 10]), ([8], [8]), ([8], [8]), ([12, 13, 11, 8], [8, 12, 13]), ([11, 14, 14, 8], [8, 11, 14]), ([8, 15], [8, 15]), ([16, 15], [16]), ([17], [17]), ([18, 17, 17], [17, 18]), ([17], [17]), ([20, 19, 17], [17, 20]), ([19, 21, 21, 17], [17, 19, 21]), ([17, 22], [17, 22]), ([23, 22, 0, 1, 2, 3, 4, 5, 6, 7, 8, 9, 10, 11, 12, 13, 14, 15, 16, 17, 18, 19, 20, 21, 22, 23], [23])])
def shelfmarklaw09_RunFinds.B7 : List Nat := [0, 0, 3, 7, 15, 15, 63, 127, 255, 511, 511, 2047, 511, 511, 16383, 32767, 65535, 131071, 262143, 524287, 262143, 2097151, 4194303, 8388607, 16777215]
theorem shelfmarklaw09_RunFinds.tab7 : rtab .any (opsOf Try.f4 7) = shelfmarklaw09_RunFinds.T7 := by kernel_rfl
theorem shelfmarklaw09_RunFinds.bits7 : waitsOk shelfmarklaw09_RunFinds.T7.2 shelfmarklaw09_RunFinds.B7 = true := by kernel_rfl
set_option maxHeartbeats 8000000 in
set_option maxRecDepth 100000 in
theorem shelfmarklaw09_RunFinds.calls (k : Nat) (A0 : Option Addr) (c0 : Nat) (l0 : List (S37)) (a1 : ByteArray) (a2_0 : ByteArray) (a2_1 : ByteArray) (r : Bool) (w : World) (hr0 : Kd.C k37 w A0 l0.length l0) (hc0 : l0.length ≤ c0) (h : shelfmarklaw09_RunFinds.f k l0 a1 a2_0 a2_1 = some r) (hlaw : r = true) :
  Calls Try.prog 4 #[.slice A0 l0.length c0, .string a1, .agg #[.string a2_0, .string a2_1]] w fun e w' => e = .returned (.bool r) ∧ Below w.heap.size w w' := by
 have HLAW := Aside0.mk hlaw
 clear hlaw
 have hu34 := Try.underlying34
 have hu37 := Try.underlying37
 have HR0 := Aside0.mk hr0
 have HC0 := Aside0.mk hc0
 clear hr0 hc0
 have HB := Aside0.mk (Below.refl w.heap.size w)
 have H : ((shelfmarklaw09_awake.f k).bind fun t338 => (if t338 = true then ((shelfmarkref09_Light.f k l0 60).bind fun t339 => (if t339 = true then (if (a1.size : Int) > 1000 then (shelfmarklaw09_RunFinds.j0 k l0 a1 true a2_0 a2_1) else (if (a2_0.size : Int) > 1000 then (shelfmarklaw09_RunFinds.j0 k l0 a1 true a2_0 a2_1) else (shelfmarklaw09_RunFinds.j0 k l0 a1 (decide ((a2_1.size : Int) > 1000)) a2_0 a2_1))) else (shelfmarklaw09_RunFinds.j0 k l0 a1 true a2_0 a2_1))) else (some false))) = some r := h
 clear h
 replace H := Option.bind_eq_some_iff.mp H
 obtain ⟨t338, A40, H⟩ := H
 replace H : (if t338 = true then ((shelfmarkref09_Light.f k l0 60).bind fun t339 => (if t339 = true then (if (a1.size : Int) > 1000 then (shelfmarklaw09_RunFinds.j0 k l0 a1 true a2_0 a2_1) else (if (a2_0.size : Int) > 1000 then (shelfmarklaw09_RunFinds.j0 k l0 a1 true a2_0 a2_1) else (shelfmarklaw09_RunFinds.j0 k l0 a1 (decide ((a2_1.size : Int) > 1000)) a2_0 a2_1))) else (shelfmarklaw09_RunFinds.j0 k l0 a1 true a2_0 a2_1))) else (some false)) = some r := H
 have A4 := Aside0.mk A40
 clear A40
 by_cases c5 : t338 = true
 rotate_left
 ·replace c5 := Bool.eq_false_iff.mpr c5
  subst c5
  have H1 : (some false) = some r := by rw [if_neg (show ¬ (false = true) by decide)] at H; exact H
  clear H
  have H := H1
  clear H1
  obtain rfl := Option.some.inj H
  exact absurd HLAW.out (by decide)
 subst c5
 have H1 : ((shelfmarkref09_Light.f k l0 60).bind fun t339 => (if t339 = true then (if (a1.size : Int) > 1000 then (shelfmarklaw09_RunFinds.j0 k l0 a1 true a2_0 a2_1) else (if (a2_0.size : Int) > 1000 then (shelfmarklaw09_RunFinds.j0 k l0 a1 true a2_0 a2_1) else (shelfmarklaw09_RunFinds.j0 k l0 a1 (decide ((a2_1.size : Int) > 1000)) a2_0 a2_1))) else (shelfmarklaw09_RunFinds.j0 k l0 a1 true a2_0 a2_1))) = some r := by rw [if_pos rfl] at H; exact H
 clear H
 have H := H1
 clear H1
 have HC6 := Aside0.mk H
 clear H
 go_enter Try.func4, Try.ntmps4
 go_upto_region 3 with (first | ((with_reducible refine gate_dst (N := 5) rfl ?_); (try (refine gate_guard (by rfl) ?_; dsimp only)); refine box_event ?hg (N := 5) ?hd (cs := #[.string a2_0, .string a2_1]) (t := 34) ?hr ?_; (case hd => rfl); (case hg => rfl); (case hr => first | (go_simp; done) | (go_simp; rfl)); intro gb337 hg w7 hbox hb; have n0_ := Aside0.mk (below_step (hL HB.out) hb); have n1_ := Aside0.mk (hbox); have n2_ := Above.mk ((by rw [hg]; exact (below_size (hL HB.out)) : w.heap.size ≤ gb337)); have n3_ := Above.mk ((by rw [hg]; exact (below_size (hL HB.out)) : w.heap.size ≤ gb337)); clear HB; have HB := n0_; have BK337 := n1_; have GW337 := n2_; have GE337 := n3_; clear n0_ n1_ n2_ n3_; clear hb hbox hg) | ((with_reducible refine gate_callee (f := 9) rfl ?_); refine goesL_ (some 11) rfl rfl Try.func9 (by kernel_rfl) rfl #[] rfl (by (try simp only [List.map_toArray, List.map_cons, List.map_nil]); first | done | rfl | (simp only [List.length_drop, List.length_take]; rfl)) ?_; (with_reducible refine (shelfmarklaw09_awake.calls k  true _ A4.out).mono ?_); rintro e w8 ⟨rfl, hb⟩; refine ⟨_, rfl, ?_⟩; have n0_ := Aside0.mk (blk_below (bL BK337.out) hb); have n1_ := Aside0.mk (below_step (hL HB.out) hb); clear BK337; clear HB; have BK337 := n0_; have HB := n1_; clear n0_ n1_; (try clear hb); (try clear hb2); (try clear hk); (try clear hi)))
 (try simp only [Act.put, sT, sZ, sS])
 go_cut [32] (fun v32 wc => ∃ (kq : Nat) (x32_5 : Bool), v32 = .bool x32_5 ∧ Aside0 (shelfmarklaw09_RunFinds.j0 kq l0 a1 x32_5 a2_0 a2_1 = some r) ∧ Aside0 (kq ≤ k) ∧ Aside0 (wc.heap[gb337]? = some (.cells #[.string a2_0, .string a2_1] 34 (0, 0))) ∧ Aside0 (Below w.heap.size w wc))
 case first =>
  have H := HC6.out
  clear HC6
  replace H := Option.bind_eq_some_iff.mp H
  obtain ⟨t339, A90, H⟩ := H
  replace H : (if t339 = true then (if (a1.size : Int) > 1000 then (shelfmarklaw09_RunFinds.j0 k l0 a1 true a2_0 a2_1) else (if (a2_0.size : Int) > 1000 then (shelfmarklaw09_RunFinds.j0 k l0 a1 true a2_0 a2_1) else (shelfmarklaw09_RunFinds.j0 k l0 a1 (decide ((a2_1.size : Int) > 1000)) a2_0 a2_1))) else (shelfmarklaw09_RunFinds.j0 k l0 a1 true a2_0 a2_1)) = some r := H
  have A9 := Aside0.mk A90
  clear A90
  by_cases c10 : t339 = true
  rotate_left
  ·replace c10 := Bool.eq_false_iff.mpr c10
   subst c10
   have H1 : (shelfmarklaw09_RunFinds.j0 k l0 a1 true a2_0 a2_1) = some r := by rw [if_neg (show ¬ (false = true) by decide)] at H; exact H
   clear H
   have H := H1
   clear H1
   have H' := Aside0.mk H
   clear H
   go_wp2_with (first | ((with_reducible refine gate_callee (f := 15) rfl ?_); refine goesL_ (some 14) rfl rfl Try.func15 (by kernel_rfl) rfl #[.slice A0 l0.length c0, .int .i64 60] rfl (by (try simp only [List.map_toArray, List.map_cons, List.map_nil]); first | done | rfl | (simp only [List.length_drop, List.length_take]; rfl)) ?_; (with_reducible refine (shelfmarkref09_Light.calls k _ _ l0 60 false _ ?side1 ?side2 A9.out).mono ?_); (case side1 => repeat (first | exact (Kd.C_below HR0.out HB.out) | (with_reducible refine Kd.C_alloc ?_ _) | (with_reducible refine Kd.C_drewN ?_ _) | (with_reducible refine Kd.C_drew ?_))); (case side2 => exact HC0.out); rintro e w18 ⟨rfl, hb⟩; refine ⟨_, rfl, ?_⟩; have n0_ := Aside0.mk (blk_below (bL BK337.out) hb); have n1_ := Aside0.mk (below_step (hL HB.out) hb); clear BK337; clear HB; have BK337 := n0_; have HB := n1_; clear n0_ n1_; (try clear hb); (try clear hb2); (try clear hk); (try clear hi)))
   go_meet
   case rel => exact ⟨_, (true), (by first | rfl | (simp; done) | (simp [*]; done) | (simp [ne_nil_bytes]; done) | (simp [eq_nil_bytes]; done)), H', ⟨by first | omega | exact Nat.le_refl _⟩, ⟨by exact bL BK337.out⟩, ⟨hL HB.out⟩⟩
  subst c10
  have H1 : (if (a1.size : Int) > 1000 then (shelfmarklaw09_RunFinds.j0 k l0 a1 true a2_0 a2_1) else (if (a2_0.size : Int) > 1000 then (shelfmarklaw09_RunFinds.j0 k l0 a1 true a2_0 a2_1) else (shelfmarklaw09_RunFinds.j0 k l0 a1 (decide ((a2_1.size : Int) > 1000)) a2_0 a2_1))) = some r := by rw [if_pos rfl] at H; exact H
  clear H
  have H := H1
  clear H1
  by_cases c11 : (a1.size : Int) > 1000
  ·rw [if_pos c11] at H
   have c11b0 : decide (1000 < (a1.size : Int)) = true := decide_eq_true c11
   have c11b1 : decide (1000 < a1.size) = true := decide_eq_true (by omega)
   clear c11
   (first | rw [c11b0] | (simp only [i64_w, i32_w]; rw [c11b0]) | skip)
   have H' := Aside0.mk H
   clear H
   go_wp2_with (first | ((with_reducible refine gate_callee (f := 15) rfl ?_); refine goesL_ (some 14) rfl rfl Try.func15 (by kernel_rfl) rfl #[.slice A0 l0.length c0, .int .i64 60] rfl (by (try simp only [List.map_toArray, List.map_cons, List.map_nil]); first | done | rfl | (simp only [List.length_drop, List.length_take]; rfl)) ?_; (with_reducible refine (shelfmarkref09_Light.calls k _ _ l0 60 true _ ?side1 ?side2 A9.out).mono ?_); (case side1 => repeat (first | exact (Kd.C_below HR0.out HB.out) | (with_reducible refine Kd.C_alloc ?_ _) | (with_reducible refine Kd.C_drewN ?_ _) | (with_reducible refine Kd.C_drew ?_))); (case side2 => exact HC0.out); rintro e w12 ⟨rfl, hb⟩; refine ⟨_, rfl, ?_⟩; have n0_ := Aside0.mk (blk_below (bL BK337.out) hb); have n1_ := Aside0.mk (below_step (hL HB.out) hb); clear BK337; clear HB; have BK337 := n0_; have HB := n1_; clear n0_ n1_; (try clear hb); (try clear hb2); (try clear hk); (try clear hi)))
   go_meet
   case rel => exact ⟨_, (true), (by first | rfl | (simp; done) | (simp [*]; done) | (simp [ne_nil_bytes]; done) | (simp [eq_nil_bytes]; done)), H', ⟨by first | omega | exact Nat.le_refl _⟩, ⟨by exact bL BK337.out⟩, ⟨hL HB.out⟩⟩
  rw [if_neg c11] at H
  have c11b0 : decide (1000 < (a1.size : Int)) = false := decide_eq_false c11
  have c11b1 : decide (1000 < a1.size) = false := decide_eq_false (by omega)
  clear c11
  (first | rw [c11b0] | (simp only [i64_w, i32_w]; rw [c11b0]) | skip)
  by_cases c13 : (a2_0.size : Int) > 1000
  ·rw [if_pos c13] at H
   have c13b0 : decide (1000 < (a2_0.size : Int)) = true := decide_eq_true c13
   have c13b1 : decide (1000 < a2_0.size) = true := decide_eq_true (by omega)
   clear c13
   have H' := Aside0.mk H
   clear H
   go_wp2_with (first | ((with_reducible refine gate_callee (f := 15) rfl ?_); refine goesL_ (some 14) rfl rfl Try.func15 (by kernel_rfl) rfl #[.slice A0 l0.length c0, .int .i64 60] rfl (by (try simp only [List.map_toArray, List.map_cons, List.map_nil]); first | done | rfl | (simp only [List.length_drop, List.length_take]; rfl)) ?_; (with_reducible refine (shelfmarkref09_Light.calls k _ _ l0 60 true _ ?side1 ?side2 A9.out).mono ?_); (case side1 => repeat (first | exact (Kd.C_below HR0.out HB.out) | (with_reducible refine Kd.C_alloc ?_ _) | (with_reducible refine Kd.C_drewN ?_ _) | (with_reducible refine Kd.C_drew ?_))); (case side2 => exact HC0.out); rintro e w14 ⟨rfl, hb⟩; refine ⟨_, rfl, ?_⟩; have n0_ := Aside0.mk (blk_below (bL BK337.out) hb); have n1_ := Aside0.mk (below_step (hL HB.out) hb); clear BK337; clear HB; have BK337 := n0_; have HB := n1_; clear n0_ n1_; (try clear hb); (try clear hb2); (try clear hk); (try clear hi); have hcz15_0 : w14.cell? ⟨gb337, 0, none⟩ = some (.string a2_0) := (blk_cell BK337.out 0).trans rfl; have hcz15_1 : w14.cell? ⟨gb337, 1, none⟩ = some (.string a2_1) := (blk_cell BK337.out 1).trans rfl; have hfz15_0 := blk_frozen BK337.out 0; have hfz15_1 := blk_frozen BK337.out 1))
   go_meet
   case rel => exact ⟨_, (true), (by first | rfl | (simp; done) | (simp [*]; done) | (simp [ne_nil_bytes]; done) | (simp [eq_nil_bytes]; done)), H', ⟨by first | omega | exact Nat.le_refl _⟩, ⟨by exact bL BK337.out⟩, ⟨hL HB.out⟩⟩
  rw [if_neg c13] at H
  have c13b0 : decide (1000 < (a2_0.size : Int)) = false := decide_eq_false c13
  have c13b1 : decide (1000 < a2_0.size) = false := decide_eq_false (by omega)
  clear c13
  have H' := Aside0.mk H
  clear H
  go_wp2_with (first | ((with_reducible refine gate_callee (f := 15) rfl ?_); refine goesL_ (some 14) rfl rfl Try.func15 (by kernel_rfl) rfl #[.slice A0 l0.length c0, .int .i64 60] rfl (by (try simp only [List.map_toArray, List.map_cons, List.map_nil]); first | done | rfl | (simp only [List.length_drop, List.length_take]; rfl)) ?_; (with_reducible refine (shelfmarkref09_Light.calls k _ _ l0 60 true _ ?side1 ?side2 A9.out).mono ?_); (case side1 => repeat (first | exact (Kd.C_below HR0.out HB.out) | (with_reducible refine Kd.C_alloc ?_ _) | (with_reducible refine Kd.C_drewN ?_ _) | (with_reducible refine Kd.C_drew ?_))); (case side2 => exact HC0.out); rintro e w16 ⟨rfl, hb⟩; refine ⟨_, rfl, ?_⟩; have n0_ := Aside0.mk (blk_below (bL BK337.out) hb); have n1_ := Aside0.mk (below_step (hL HB.out) hb); clear BK337; clear HB; have BK337 := n0_; have HB := n1_; clear n0_ n1_; (try clear hb); (try clear hb2); (try clear hk); (try clear hi); have hcz17_0 : w16.cell? ⟨gb337, 0, none⟩ = some (.string a2_0) := (blk_cell BK337.out 0).trans rfl; have hcz17_1 : w16.cell? ⟨gb337, 1, none⟩ = some (.string a2_1) := (blk_cell BK337.out 1).trans rfl; have hfz17_0 := blk_frozen BK337.out 0; have hfz17_1 := blk_frozen BK337.out 1))
  go_meet
  case rel => exact ⟨_, (decide ((a2_1.size : Int) > 1000)), (by first | rfl | (simp; done) | (simp [*]; done) | (simp [ne_nil_bytes]; done) | (simp [eq_nil_bytes]; done)), H', ⟨by first | omega | exact Nat.le_refl _⟩, ⟨by exact bL BK337.out⟩, ⟨hL HB.out⟩⟩
 clear HC6
 try clear c1
 try clear p2
 try clear c4
 try clear c5
 try clear c9
 try clear c10
 try clear c11
 try clear c11b0
 try clear c11b0z
 try clear c11b1
 try clear c11b1z
 try clear c13
 try clear c13b0
 try clear c13b0z
 try clear c13b1
 try clear c13b1z
 try clear c15
 try clear hcz15_0
 try clear hcz15_1
 try clear hcz17_0
 try clear hcz17_1
 try clear hfz15_0
 try clear hfz15_1
 try clear hfz17_0
 try clear hfz17_1
 obtain ⟨kq, x32_5, rfl, HA, HJ5, BK337, HB⟩ := hcut
 rcases kq with _ | kj5
 ·exact absurd HA.out (by simp [shelfmarklaw09_RunFinds.j0])
 have H := HA.out
 clear HA
 simp only [shelfmarklaw09_RunFinds.j0] at H
 by_cases c19 : x32_5 = true
 ·subst c19
  have H1 : (some true) = some r := by rw [if_pos rfl] at H; exact H
  clear H
  have H := H1
  clear H1
  obtain rfl := Option.some.inj H
  simp only [Option.some.injEq, Prod.mk.injEq] at H
  obtain ⟨rfl⟩ := H
  go_wp2
  go_ret
  exact ⟨by first | rfl | (simp [errW_none, errW_some] <;> rfl) | (simp [*, errW_none, errW_some] <;> rfl), hL HB.out⟩
 replace c19 := Bool.eq_false_iff.mpr c19
 subst c19
 have H1 : ((run_Find.f kj5 l0 a1).bind fun bt340 => ((shelfmarkref09_Find.f kj5 l0 a1).bind fun bt345 => (if (bt340.1.toList == bt345.1.toList && (bt340.2.1.toList == bt345.2.1.toList && (bt340.2.2.1 == bt345.2.2.1))) = true then (if (bt340.2.2.2 == bt345.2.2.2) = true then ((run_Slice.f kj5 l0 a2_0 a2_1).bind fun t350 => ((shelfmarkref09_Slice.f kj5 l0 a2_0 a2_1).bind fun t353 => ((shelfmarkref09_Same.f kj5 t350 t353).bind fun t356 => (if t356 = true then ((run_Live.f kj5 l0).bind fun t357 => ((shelfmarkref09_Live.f kj5 l0).bind fun t360 => ((shelfmarkref09_SamePairs.f kj5 t357 t360).bind fun t363 => (some t363)))) else (some false))))) else (some false)) else (some false)))) = some r := by rw [if_neg (show ¬ (false = true) by decide)] at H; exact H
 clear H
 have H := H1
 clear H1
 replace H := Option.bind_eq_some_iff.mp H
 obtain ⟨⟨t340, t341, t342, t343⟩, A200, H⟩ := H
 replace H : ((shelfmarkref09_Find.f kj5 l0 a1).bind fun bt345 => (if (t340.toList == bt345.1.toList && (t341.toList == bt345.2.1.toList && (t342 == bt345.2.2.1))) = true then (if (t343 == bt345.2.2.2) = true then ((run_Slice.f kj5 l0 a2_0 a2_1).bind fun t350 => ((shelfmarkref09_Slice.f kj5 l0 a2_0 a2_1).bind fun t353 => ((shelfmarkref09_Same.f kj5 t350 t353).bind fun t356 => (if t356 = true then ((run_Live.f kj5 l0).bind fun t357 => ((shelfmarkref09_Live.f kj5 l0).bind fun t360 => ((shelfmarkref09_SamePairs.f kj5 t357 t360).bind fun t363 => (some t363)))) else (some false))))) else (some false)) else (some false))) = some r := H
 have A20 := Aside0.mk A200
 clear A200
 replace H := Option.bind_eq_some_iff.mp H
 obtain ⟨⟨t345, t346, t347, t348⟩, A210, H⟩ := H
 replace H : (if (t340.toList == t345.toList && (t341.toList == t346.toList && (t342 == t347))) = true then (if (t343 == t348) = true then ((run_Slice.f kj5 l0 a2_0 a2_1).bind fun t350 => ((shelfmarkref09_Slice.f kj5 l0 a2_0 a2_1).bind fun t353 => ((shelfmarkref09_Same.f kj5 t350 t353).bind fun t356 => (if t356 = true then ((run_Live.f kj5 l0).bind fun t357 => ((shelfmarkref09_Live.f kj5 l0).bind fun t360 => ((shelfmarkref09_SamePairs.f kj5 t357 t360).bind fun t363 => (some t363)))) else (some false))))) else (some false)) else (some false)) = some r := H
 have A21 := Aside0.mk A210
 clear A210
 by_cases c22 : (t340.toList == t345.toList && (t341.toList == t346.toList && (t342 == t347))) = true
 rotate_left
 ·rw [if_neg c22] at H
  have c22b0 : (t340.toList == t345.toList && (t341.toList == t346.toList && (t342 == t347))) = false := by simpa using c22
  (try (have c22b1 : decide (t340.toList = t345.toList && (t341.toList == t346.toList && (t342 == t347))) = false := by simpa using c22))
  (try (have c22b2 : (t340.toList == t345.toList && (t341.toList == t346.toList && (t342 == t347))) = false := by simpa using c22))
  (try (have c22b3 : ¬ (t340.toList = t345.toList && (t341.toList == t346.toList && (t342 == t347))) := by simpa using c22))
  clear c22
  obtain rfl := Option.some.inj H
  exact absurd HLAW.out (by decide)
 rw [if_pos c22] at H
 have c22b0 : (t340.toList == t345.toList && (t341.toList == t346.toList && (t342 == t347))) = true := c22
 (try (have c22b1 : decide (t340.toList = t345.toList && (t341.toList == t346.toList && (t342 == t347))) = true := by simpa using c22))
 (try (have c22b2 : (t340.toList == t345.toList && (t341.toList == t346.toList && (t342 == t347))) = true := by simpa using c22))
 clear c22
 by_cases c23 : (t343 == t348) = true
 rotate_left
 ·rw [if_neg c23] at H
  have c23b0 : (t343 == t348) = false := by simpa using c23
  (try (have c23b1 : decide (t343 = t348) = false := by simpa using c23))
  (try (have c23b2 : (t343 == t348) = false := by simpa using c23))
  (try (have c23b3 : ¬ (t343 = t348) := by simpa using c23))
  clear c23
  obtain rfl := Option.some.inj H
  exact absurd HLAW.out (by decide)
 rw [if_pos c23] at H
 have c23b0 : (t343 == t348) = true := c23
 (try (have c23b1 : decide (t343 = t348) = true := by simpa using c23))
 (try (have c23b2 : (t343 == t348) = true := by simpa using c23))
 clear c23
 replace H := Option.bind_eq_some_iff.mp H
 obtain ⟨t350, A240, H⟩ := H
 replace H : ((shelfmarkref09_Slice.f kj5 l0 a2_0 a2_1).bind fun t353 => ((shelfmarkref09_Same.f kj5 t350 t353).bind fun t356 => (if t356 = true then ((run_Live.f kj5 l0).bind fun t357 => ((shelfmarkref09_Live.f kj5 l0).bind fun t360 => ((shelfmarkref09_SamePairs.f kj5 t357 t360).bind fun t363 => (some t363)))) else (some false)))) = some r := H
 have A24 := Aside0.mk A240
 clear A240
 replace H := Option.bind_eq_some_iff.mp H
 obtain ⟨t353, A250, H⟩ := H
 replace H : ((shelfmarkref09_Same.f kj5 t350 t353).bind fun t356 => (if t356 = true then ((run_Live.f kj5 l0).bind fun t357 => ((shelfmarkref09_Live.f kj5 l0).bind fun t360 => ((shelfmarkref09_SamePairs.f kj5 t357 t360).bind fun t363 => (some t363)))) else (some false))) = some r := H
 have A25 := Aside0.mk A250
 clear A250
 replace H := Option.bind_eq_some_iff.mp H
 obtain ⟨t356, A260, H⟩ := H
 replace H : (if t356 = true then ((run_Live.f kj5 l0).bind fun t357 => ((shelfmarkref09_Live.f kj5 l0).bind fun t360 => ((shelfmarkref09_SamePairs.f kj5 t357 t360).bind fun t363 => (some t363)))) else (some false)) = some r := H
 have A26 := Aside0.mk A260
 clear A260
 by_cases c27 : t356 = true
 rotate_left
 ·replace c27 := Bool.eq_false_iff.mpr c27
  subst c27
  have H1 : (some false) = some r := by rw [if_neg (show ¬ (false = true) by decide)] at H; exact H
  clear H
  have H := H1
  clear H1
  obtain rfl := Option.some.inj H
  exact absurd HLAW.out (by decide)
 subst c27
 have H1 : ((run_Live.f kj5 l0).bind fun t357 => ((shelfmarkref09_Live.f kj5 l0).bind fun t360 => ((shelfmarkref09_SamePairs.f kj5 t357 t360).bind fun t363 => (some t363)))) = some r := by rw [if_pos rfl] at H; exact H
 clear H
 have H := H1
 clear H1
 replace H := Option.bind_eq_some_iff.mp H
 obtain ⟨t357, A280, H⟩ := H
 replace H : ((shelfmarkref09_Live.f kj5 l0).bind fun t360 => ((shelfmarkref09_SamePairs.f kj5 t357 t360).bind fun t363 => (some t363))) = some r := H
 have A28 := Aside0.mk A280
 clear A280
 replace H := Option.bind_eq_some_iff.mp H
 obtain ⟨t360, A290, H⟩ := H
 replace H : ((shelfmarkref09_SamePairs.f kj5 t357 t360).bind fun t363 => (some t363)) = some r := H
 have A29 := Aside0.mk A290
 clear A290
 replace H := Option.bind_eq_some_iff.mp H
 obtain ⟨t363, A300, H⟩ := H
 replace H : (some t363) = some r := H
 have A30 := Aside0.mk A300
 clear A300
 obtain rfl := Option.some.inj H
 simp only [Option.some.injEq, Prod.mk.injEq] at H
 obtain ⟨rfl⟩ := H
 try go_wp2_with (first | ((with_reducible refine gate_callee (f := 16) rfl ?_); refine goesL_ (some 36) rfl rfl Try.func16 (by kernel_rfl) rfl #[.slice A0 l0.length c0, .string a1] rfl (by (try simp only [List.map_toArray, List.map_cons, List.map_nil]); first | done | rfl | (simp only [List.length_drop, List.length_take]; rfl)) ?_; (with_reducible refine (run_Find.calls kj5 _ _ l0 a1 t340 t341 t342 t343 _ ?side1 ?side2 A20.out).mono ?_); (case side1 => repeat (first | exact (Kd.C_below HR0.out HB.out) | (with_reducible refine Kd.C_alloc ?_ _) | (with_reducible refine Kd.C_drewN ?_ _) | (with_reducible refine Kd.C_drew ?_))); (case side2 => exact HC0.out); rintro e w31 ⟨rfl, hb⟩; refine ⟨_, rfl, ?_⟩; have n0_ := Aside0.mk (blk_below (bL BK337.out) hb); have n1_ := Aside0.mk (below_step (hL HB.out) hb); clear BK337; clear HB; have BK337 := n0_; have HB := n1_; clear n0_ n1_; (try clear hb); (try clear hb2); (try clear hk); (try clear hi)) | ((with_reducible refine gate_dst (N := 7) rfl ?_); (try (refine gate_guard (by rfl) ?_; dsimp only)); refine box_event ?hg (N := 7) ?hd (cs := #[.string (⟨#[]⟩ : ByteArray), .string (⟨#[]⟩ : ByteArray), .bool false]) (t := 37) ?hr ?_; (case hd => rfl); (case hg => rfl); (case hr => first | (go_simp; done) | (go_simp; rfl)); intro gb344 hg w32 hbox hb; have n0_ := Aside0.mk (blk_below (bL BK337.out) hb); have n1_ := Aside0.mk (below_step (hL HB.out) hb); have n2_ := Aside0.mk (hbox); have n3_ := Above.mk ((by rw [hg]; exact (below_size (hL HB.out)) : w.heap.size ≤ gb344)); have n4_ := Above.mk ((by rw [hg]; exact (below_size (hL HB.out)) : w.heap.size ≤ gb344)); have n5_ := Aside0.mk ((by rw [hg]; exact Nat.ne_of_lt (blk_lt (g := gb337) (o := .cells #[.string a2_0, .string a2_1] 34 (0, 0)) (bL BK337.out)) : gb337 ≠ gb344)); have n6_ := Aside0.mk ((by rw [hg]; exact Nat.ne_of_gt (blk_lt (g := gb337) (o := .cells #[.string a2_0, .string a2_1] 34 (0, 0)) (bL BK337.out)) : gb344 ≠ gb337)); clear BK337; clear HB; have BK337 := n0_; have HB := n1_; have BK344 := n2_; have GW344 := n3_; have GE344 := n4_; have NB337_344 := n5_; have NB344_337 := n6_; clear n0_ n1_ n2_ n3_ n4_ n5_ n6_; clear hb hbox hg; have hnb33 := NB344_337.out; have hnc33 := NB337_344.out; have hcz34_0 : w32.cell? ⟨gb344, 0, none⟩ = some (.string (⟨#[]⟩ : ByteArray)) := (blk_cell BK344.out 0).trans rfl; have hcz34_1 : w32.cell? ⟨gb344, 1, none⟩ = some (.string (⟨#[]⟩ : ByteArray)) := (blk_cell BK344.out 1).trans rfl; have hcz34_2 : w32.cell? ⟨gb344, 2, none⟩ = some (.bool false) := (blk_cell BK344.out 2).trans rfl; have hfz34_0 := blk_frozen BK344.out 0; have hfz34_1 := blk_frozen BK344.out 1; have hfz34_2 := blk_frozen BK344.out 2) | ((with_reducible refine gate_callee (f := 17) rfl ?_); refine goesL_ (some 42) rfl rfl Try.func17 (by kernel_rfl) rfl #[.slice A0 l0.length c0, .string a1] rfl (by (try simp only [List.map_toArray, List.map_cons, List.map_nil]); first | done | rfl | (simp only [List.length_drop, List.length_take]; rfl)) ?_; (with_reducible refine (shelfmarkref09_Find.calls kj5 _ _ l0 a1 t345 t346 t347 t348 _ ?side1 ?side2 A21.out).mono ?_); (case side1 => exact Kd.C_below HR0.out (hL HB.out)); (case side2 => exact HC0.out); rintro e w35 ⟨rfl, hb⟩; refine ⟨_, rfl, ?_⟩; have n0_ := Aside0.mk (blk_below (g := gb337) (o := .cells #[.string a2_0, .string a2_1] 34 (0, 0)) (by (with_reducible repeat (first | refine blk_drewN ?_ _ | refine blk_drew ?_ | refine blk_alloc ?_ _)); refine blk_far ?_ NB337_344.out _; (with_reducible repeat (first | refine blk_drewN ?_ _ | refine blk_drew ?_ | refine blk_alloc ?_ _)); refine blk_far ?_ NB337_344.out _; (with_reducible repeat (first | refine blk_drewN ?_ _ | refine blk_drew ?_ | refine blk_alloc ?_ _)); refine blk_far ?_ NB337_344.out _; exact bL BK337.out) hb); have n1_ := Aside0.mk (blk_below (g := gb344) (o := .cells #[.string t340, .string t341, .bool t342] 37 (0, 0)) (by (with_reducible repeat (first | refine blk_drewN ?_ _ | refine blk_drew ?_ | refine blk_alloc ?_ _)); refine blk_put (cs := #[.string t340, .string t341, .bool false]) ?_ 2 _ rfl; (with_reducible repeat (first | refine blk_drewN ?_ _ | refine blk_drew ?_ | refine blk_alloc ?_ _)); refine blk_put (cs := #[.string t340, .string (⟨#[]⟩ : ByteArray), .bool false]) ?_ 1 _ rfl; (with_reducible repeat (first | refine blk_drewN ?_ _ | refine blk_drew ?_ | refine blk_alloc ?_ _)); refine blk_put (cs := #[.string (⟨#[]⟩ : ByteArray), .string (⟨#[]⟩ : ByteArray), .bool false]) ?_ 0 _ rfl; exact bL BK344.out) hb); have n2_ := Aside0.mk (below_step (hL HB.out) hb); clear BK337; clear BK344; clear HB; have BK337 := n0_; have BK344 := n1_; have HB := n2_; clear n0_ n1_ n2_; (try clear hb); (try clear hb2); (try clear hk); (try clear hi)) | ((with_reducible refine gate_dst (N := 9) rfl ?_); (try (refine gate_guard (by rfl) ?_; dsimp only)); refine box_event ?hg (N := 9) ?hd (cs := #[.string (⟨#[]⟩ : ByteArray), .string (⟨#[]⟩ : ByteArray), .bool false]) (t := 37) ?hr ?_; (case hd => rfl); (case hg => rfl); (case hr => first | (go_simp; done) | (go_simp; rfl)); intro gb349 hg w36 hbox hb; have n0_ := Aside0.mk (blk_below (bL BK337.out) hb); have n1_ := Aside0.mk (blk_below (bL BK344.out) hb); have n2_ := Aside0.mk (below_step (hL HB.out) hb); have n3_ := Aside0.mk (hbox); have n4_ := Above.mk ((by rw [hg]; exact (below_size (hL HB.out)) : w.heap.size ≤ gb349)); have n5_ := Above.mk ((by rw [hg]; exact (below_size (hL HB.out)) : w.heap.size ≤ gb349)); have n6_ := Aside0.mk ((by rw [hg]; exact Nat.ne_of_lt (blk_lt (g := gb337) (o := .cells #[.string a2_0, .string a2_1] 34 (0, 0)) (bL BK337.out)) : gb337 ≠ gb349)); have n7_ := Aside0.mk ((by rw [hg]; exact Nat.ne_of_gt (blk_lt (g := gb337) (o := .cells #[.string a2_0, .string a2_1] 34 (0, 0)) (bL BK337.out)) : gb349 ≠ gb337)); have n8_ := Aside0.mk ((by rw [hg]; exact Nat.ne_of_lt (blk_lt (g := gb344) (o := .cells #[.string t340, .string t341, .bool t342] 37 (0, 0)) (bL BK344.out)) : gb344 ≠ gb349)); have n9_ := Aside0.mk ((by rw [hg]; exact Nat.ne_of_gt (blk_lt (g := gb344) (o := .cells #[.string t340, .string t341, .bool t342] 37 (0, 0)) (bL BK344.out)) : gb349 ≠ gb344)); clear BK337; clear BK344; clear HB; have BK337 := n0_; have BK344 := n1_; have HB := n2_; have BK349 := n3_; have GW349 := n4_; have GE349 := n5_; have NB337_349 := n6_; have NB349_337 := n7_; have NB344_349 := n8_; have NB349_344 := n9_; clear n0_ n1_ n2_ n3_ n4_ n5_ n6_ n7_ n8_ n9_; clear hb hbox hg; have hnb37 := NB349_337.out; have hnc37 := NB337_349.out; have hnb38 := NB349_344.out; have hnc38 := NB344_349.out; have hcz39_0 : w36.cell? ⟨gb349, 0, none⟩ = some (.string (⟨#[]⟩ : ByteArray)) := (blk_cell BK349.out 0).trans rfl; have hcz39_1 : w36.cell? ⟨gb349, 1, none⟩ = some (.string (⟨#[]⟩ : ByteArray)) := (blk_cell BK349.out 1).trans rfl; have hcz39_2 : w36.cell? ⟨gb349, 2, none⟩ = some (.bool false) := (blk_cell BK349.out 2).trans rfl; have hfz39_0 := blk_frozen BK349.out 0; have hfz39_1 := blk_frozen BK349.out 1; have hfz39_2 := blk_frozen BK349.out 2))
 have n0_ : Aside0 ((((w36.setCell ⟨gb349, 0, none⟩ (.string t345)).setCell ⟨gb349, 1, none⟩ (.string t346)).setCell ⟨gb349, 2, none⟩ (.bool t347)).heap[gb337]? = some (.cells #[.string a2_0, .string a2_1] 34 (0, 0))) := ⟨by (with_reducible repeat (first | refine blk_drewN ?_ _ | refine blk_drew ?_ | refine blk_alloc ?_ _)); refine blk_far ?_ NB337_349.out _; (with_reducible repeat (first | refine blk_drewN ?_ _ | refine blk_drew ?_ | refine blk_alloc ?_ _)); refine blk_far ?_ NB337_349.out _; (with_reducible repeat (first | refine blk_drewN ?_ _ | refine blk_drew ?_ | refine blk_alloc ?_ _)); refine blk_far ?_ NB337_349.out _; exact bL BK337.out⟩
 have n1_ : Aside0 ((((w36.setCell ⟨gb349, 0, none⟩ (.string t345)).setCell ⟨gb349, 1, none⟩ (.string t346)).setCell ⟨gb349, 2, none⟩ (.bool t347)).heap[gb344]? = some (.cells #[.string t340, .string t341, .bool t342] 37 (0, 0))) := ⟨by (with_reducible repeat (first | refine blk_drewN ?_ _ | refine blk_drew ?_ | refine blk_alloc ?_ _)); refine blk_far ?_ NB344_349.out _; (with_reducible repeat (first | refine blk_drewN ?_ _ | refine blk_drew ?_ | refine blk_alloc ?_ _)); refine blk_far ?_ NB344_349.out _; (with_reducible repeat (first | refine blk_drewN ?_ _ | refine blk_drew ?_ | refine blk_alloc ?_ _)); refine blk_far ?_ NB344_349.out _; exact bL BK344.out⟩
 have n2_ : Aside0 ((((w36.setCell ⟨gb349, 0, none⟩ (.string t345)).setCell ⟨gb349, 1, none⟩ (.string t346)).setCell ⟨gb349, 2, none⟩ (.bool t347)).heap[gb349]? = some (.cells #[.string t345, .string t346, .bool t347] 37 (0, 0))) := ⟨by (with_reducible repeat (first | refine blk_drewN ?_ _ | refine blk_drew ?_ | refine blk_alloc ?_ _)); refine blk_put (cs := #[.string t345, .string t346, .bool false]) ?_ 2 _ rfl; (with_reducible repeat (first | refine blk_drewN ?_ _ | refine blk_drew ?_ | refine blk_alloc ?_ _)); refine blk_put (cs := #[.string t345, .string (⟨#[]⟩ : ByteArray), .bool false]) ?_ 1 _ rfl; (with_reducible repeat (first | refine blk_drewN ?_ _ | refine blk_drew ?_ | refine blk_alloc ?_ _)); refine blk_put (cs := #[.string (⟨#[]⟩ : ByteArray), .string (⟨#[]⟩ : ByteArray), .bool false]) ?_ 0 _ rfl; exact bL BK349.out⟩
 have n3_ : Aside0 (Below w.heap.size w (((w36.setCell ⟨gb349, 0, none⟩ (.string t345)).setCell ⟨gb349, 1, none⟩ (.string t346)).setCell ⟨gb349, 2, none⟩ (.bool t347))) := ⟨hL HB.out⟩
 (try clear BK337)
 (try clear BK344)
 (try clear BK349)
 (try clear HB)
 generalize (((w36.setCell ⟨gb349, 0, none⟩ (.string t345)).setCell ⟨gb349, 1, none⟩ (.string t346)).setCell ⟨gb349, 2, none⟩ (.bool t347)) = w40 at n0_ n1_ n2_ n3_ ⊢
 have BK337 := n0_
 have BK344 := n1_
 have BK349 := n2_
 have HB := n3_
 clear n0_ n1_ n2_ n3_
 have n0_ := Aside0.mk (blk_drew BK337.out)
 have n1_ := Aside0.mk (blk_drew BK344.out)
 have n2_ := Aside0.mk (blk_drew BK349.out)
 have n3_ := Aside0.mk (below_drew1 HB.out)
 clear BK337
 clear BK344
 clear BK349
 clear HB
 have BK337 := n0_
 have BK344 := n1_
 have BK349 := n2_
 have HB := n3_
 clear n0_ n1_ n2_ n3_
 refine start_ (n := 25) (S := fun w' => w'.cell? ⟨gb344, 0, none⟩ = some (.string t340) ∧ w'.cell? ⟨gb344, 1, none⟩ = some (.string t341) ∧ w'.cell? ⟨gb344, 2, none⟩ = some (.bool t342) ∧ w'.cell? ⟨gb349, 0, none⟩ = some (.string t345) ∧ w'.cell? ⟨gb349, 1, none⟩ = some (.string t346) ∧ w'.cell? ⟨gb349, 2, none⟩ = some (.bool t347) ∧ w'.cell? ⟨gb337, 0, none⟩ = some (.string a2_0) ∧ w'.cell? ⟨gb337, 1, none⟩ = some (.string a2_1)) (ds := []) #[false, false, false, false, false, false, false, false, false, false, false, false, false, false, false, false, false, false, false, false, false, false, false, false, false] (by kernel_rfl) rfl rfl ⟨(blk_cell BK344.out 0).trans rfl, (blk_cell BK344.out 1).trans rfl, (blk_cell BK344.out 2).trans rfl, (blk_cell BK349.out 0).trans rfl, (blk_cell BK349.out 1).trans rfl, (blk_cell BK349.out 2).trans rfl, (blk_cell BK337.out 0).trans rfl, (blk_cell BK337.out 1).trans rfl⟩ (fun hHeld => ?_); refine with_tabW shelfmarklaw09_RunFinds.tab7 shelfmarklaw09_RunFinds.bits7 (fun HT_ HW_ => ?_)
 generalize w40.drew = w41 at BK337 BK344 BK349 HB hHeld ⊢
 refine take_ (i := 0) (N := some 45) (v := ?_) (a' := ?_) #[true, false, false, false, false, false, false, false, false, false, false, false, false, false, false, false, false, false, false, false, false, false, false, false, false] rfl rfl (take_ofW HT_.out HW_.out (by kernel_rfl)) (fun _ _ _ h => h) (Or.inl ⟨by rfl, ?_⟩) hHeld ?_ ?_
 rotate_left
 ·rintro w' ⟨s0, s1, s2, s3, s4, s5, s6, s7⟩
  go_simp
  with_reducible rfl
 rotate_left
 ·simp only [Act.put, sT, sZ, sS, i64_w, i32_w]
  rfl
 refine take_ (i := 1) (N := some 46) (v := ?_) (a' := ?_) #[true, true, false, false, false, false, false, false, false, false, false, false, false, false, false, false, false, false, false, false, false, false, false, false, false] rfl rfl (take_ofW HT_.out HW_.out (by kernel_rfl)) (fun _ _ _ h => h) (Or.inl ⟨by rfl, ?_⟩) hHeld ?_ ?_
 rotate_left
 ·rintro w' ⟨s0, s1, s2, s3, s4, s5, s6, s7⟩
  go_simp
  with_reducible rfl
 rotate_left
 ·simp only [Act.put, sT, sZ, sS, i64_w, i32_w]
  rfl
 refine pure_ (i := 2) (N := some 47) (v := ?_) (a' := ?_) #[true, true, true, false, false, false, false, false, false, false, false, false, false, false, false, false, false, false, false, false, false, false, false, false, false] rfl rfl (any_of HT_.out (by kernel_rfl)) (fun _ _ _ h => h) (Or.inl ⟨by rfl, ?_⟩) ?_ ?_
 rotate_left
 ·intro w'
  go_simp
  with_reducible rfl
 rotate_left
 ·simp only [Act.put, sT, sZ, sS, i64_w, i32_w]
  rfl
 refine pure_ (i := 3) (N := some 48) (v := ?_) (a' := ?_) #[true, true, true, true, false, false, false, false, false, false, false, false, false, false, false, false, false, false, false, false, false, false, false, false, false] rfl rfl (any_of HT_.out (by kernel_rfl)) (fun _ _ _ h => h) (Or.inl ⟨by rfl, ?_⟩) ?_ ?_
 rotate_left
 ·intro w'
  go_simp
  with_reducible rfl
 rotate_left
 ·simp only [Act.put, sT, sZ, sS, i64_w, i32_w]
  rfl
 refine pure_ (i := 4) (N := some 49) (v := ?_) (a' := ?_) #[true, true, true, true, true, false, false, false, false, false, false, false, false, false, false, false, false, false, false, false, false, false, false, false, false] rfl rfl (any_of HT_.out (by kernel_rfl)) (fun _ _ _ h => h) (Or.inl ⟨by rfl, ?_⟩) ?_ ?_
 rotate_left
 ·intro w'
  go_simp
  with_reducible rfl
 rotate_left
 ·simp only [Act.put, sT, sZ, sS, i64_w, i32_w]
  rfl
 refine pure_ (i := 5) (N := some 50) (v := ?_) (a' := ?_) #[true, true, true, true, true, true, false, false, false, false, false, false, false, false, false, false, false, false, false, false, false, false, false, false, false] rfl rfl (any_of HT_.out (by kernel_rfl)) (fun _ _ _ h => h) (Or.inl ⟨by rfl, ?_⟩) ?_ ?_
 rotate_left
 ·intro w'
  go_simp
  with_reducible rfl
 rotate_left
 ·simp only [Act.put, sT, sZ, sS, i64_w, i32_w]
  rfl
 refine pure_ (i := 6) (N := some 51) (v := ?_) (a' := ?_) #[true, true, true, true, true, true, true, false, false, false, false, false, false, false, false, false, false, false, false, false, false, false, false, false, false] rfl rfl (any_of HT_.out (by kernel_rfl)) (fun _ _ _ h => h) (Or.inl ⟨by rfl, ?_⟩) ?_ ?_
 rotate_left
 ·intro w'
  go_simp
  with_reducible rfl
 rotate_left
 ·simp only [Act.put, sT, sZ, sS, i64_w, i32_w]
  rfl
 refine pure_ (i := 7) (N := some 52) (v := ?_) (a' := ?_) #[true, true, true, true, true, true, true, true, false, false, false, false, false, false, false, false, false, false, false, false, false, false, false, false, false] rfl rfl (any_of HT_.out (by kernel_rfl)) (fun _ _ _ h => h) (Or.inl ⟨by rfl, ?_⟩) ?_ ?_
 rotate_left
 ·intro w'
  go_simp
  with_reducible rfl
 rotate_left
 ·simp only [Act.put, sT, sZ, sS, i64_w, i32_w]
  rfl
 refine pure_ (i := 8) (N := some 53) (v := ?_) (a' := ?_) #[true, true, true, true, true, true, true, true, true, false, false, false, false, false, false, false, false, false, false, false, false, false, false, false, false] rfl rfl (any_of HT_.out (by kernel_rfl)) (fun _ _ _ h => h) (Or.inl ⟨by rfl, ?_⟩) ?_ ?_
 rotate_left
 ·intro w'
  go_simp
  with_reducible rfl
 rotate_left
 ·simp only [Act.put, sT, sZ, sS, i64_w, i32_w]
  rfl
 refine pure_ (i := 9) (N := some 54) (v := ?_) (a' := ?_) #[true, true, true, true, true, true, true, true, true, true, false, false, false, false, false, false, false, false, false, false, false, false, false, false, false] rfl rfl (any_of HT_.out (by kernel_rfl)) (fun _ _ _ h => h) (Or.inl ⟨by rfl, ?_⟩) ?_ ?_
 rotate_left
 ·intro w'
  go_simp
  with_reducible rfl
 rotate_left
 ·simp only [Act.put, sT, sZ, sS, i64_w, i32_w]
  rfl
 refine pure_ (i := 12) (N := some 57) (v := ?_) (a' := ?_) #[true, true, true, true, true, true, true, true, true, true, false, false, true, false, false, false, false, false, false, false, false, false, false, false, false] rfl rfl (any_of HT_.out (by kernel_rfl)) (fun _ _ _ h => h) (Or.inl ⟨by rfl, ?_⟩) ?_ ?_
 rotate_left
 ·intro w'
  go_simp
  with_reducible rfl
 rotate_left
 ·simp only [Act.put, sT, sZ, sS, i64_w, i32_w]
  rfl
 refine take_ (i := 10) (N := some 55) (v := ?_) (a' := ?_) #[true, true, true, true, true, true, true, true, true, true, true, false, true, false, false, false, false, false, false, false, false, false, false, false, false] rfl rfl (take_ofW HT_.out HW_.out (by kernel_rfl)) (fun _ _ _ h => h) (Or.inl ⟨by rfl, ?_⟩) hHeld ?_ ?_
 rotate_left
 ·rintro w' ⟨s0, s1, s2, s3, s4, s5, s6, s7⟩
  go_simp
  with_reducible rfl
 rotate_left
 ·simp only [Act.put, sT, sZ, sS, i64_w, i32_w]
  rfl
 refine take_ (i := 13) (N := some 58) (v := ?_) (a' := ?_) #[true, true, true, true, true, true, true, true, true, true, true, false, true, true, false, false, false, false, false, false, false, false, false, false, false] rfl rfl (take_ofW HT_.out HW_.out (by kernel_rfl)) (fun _ _ _ h => h) (Or.inl ⟨by rfl, ?_⟩) hHeld ?_ ?_
 rotate_left
 ·rintro w' ⟨s0, s1, s2, s3, s4, s5, s6, s7⟩
  go_simp
  with_reducible rfl
 rotate_left
 ·simp only [Act.put, sT, sZ, sS, i64_w, i32_w]
  rfl
 refine one_ (i := 11) (N := some 56) #[true, true, true, true, true, true, true, true, true, true, true, true, true, true, false, false, false, false, false, false, false, false, false, false, false] rfl rfl (one_of HT_.out (by kernel_rfl)) (by decide) (fun K hK => ?_)
 refine goes_ Try.func18 (by kernel_rfl) rfl #[.slice A0 l0.length c0, .agg #[.string a2_0, .string a2_1]] (by rfl) rfl rfl (by (try simp only [List.map_toArray, List.map_cons, List.map_nil]); first | done | rfl | (simp only [List.length_drop, List.length_take]; rfl)) ?_
 with_reducible refine (run_Slice.calls kj5 _ _ l0 a2_0 a2_1 t350 _ ?side1 ?side2 A24.out).mono ?_
 (case side1 => repeat (first | exact (Kd.C_below HR0.out HB.out) | (with_reducible refine Kd.C_alloc ?_ _) | (with_reducible refine Kd.C_drewN ?_ _) | (with_reducible refine Kd.C_drew ?_)))
 (case side2 => exact HC0.out)
 rintro e w42 ⟨v351, rfl, ho0, hb⟩
 refine ⟨_, rfl, ?_⟩
 have n0_ := Aside0.mk (Kd.R_lower (Kd.R_newB (Kd.R_newB ho0 (g := gb344) (o := .cells #[.string t340, .string t341, .bool t342] 37 (0, 0)) (bL BK344.out)) (g := gb349) (o := .cells #[.string t345, .string t346, .bool t347] 37 (0, 0)) (bL BK349.out)) (below_size (hL HB.out)))
 have n1_ := Aside0.mk (blk_below (bL BK337.out) hb)
 have n2_ := Aside0.mk (blk_below (bL BK344.out) hb)
 have n3_ := Aside0.mk (blk_below (bL BK349.out) hb)
 have n4_ := Aside0.mk (below_step (hL HB.out) hb)
 clear BK337
 clear BK344
 clear BK349
 clear HB
 have HO352 := n0_
 have BK337 := n1_
 have BK344 := n2_
 have BK349 := n3_
 have HB := n4_
 clear n0_ n1_ n2_ n3_ n4_
 (try clear hb)
 (try clear hb2)
 (try clear hk)
 (try clear hi)
 (try clear ho0)
 refine hK.out _ _ ⟨(blk_cell BK344.out 0).trans rfl, (blk_cell BK344.out 1).trans rfl, (blk_cell BK344.out 2).trans rfl, (blk_cell BK349.out 0).trans rfl, (blk_cell BK349.out 1).trans rfl, (blk_cell BK349.out 2).trans rfl, (blk_cell BK337.out 0).trans rfl, (blk_cell BK337.out 1).trans rfl⟩ (fun hHeld => ?_)
 clear hK K
 refine norm_ (a' := ?_) ?_ ?_
 rotate_left
 ·show Act.put _ (some 56) _ = _
  simp only [Act.put, sT, sZ, sS, i64_w, i32_w]
  rfl
 refine one_ (i := 14) (N := some 59) #[true, true, true, true, true, true, true, true, true, true, true, true, true, true, true, false, false, false, false, false, false, false, false, false, false] rfl rfl (one_of HT_.out (by kernel_rfl)) (by decide) (fun K hK => ?_)
 refine goes_ Try.func19 (by kernel_rfl) rfl #[.slice A0 l0.length c0, .agg #[.string a2_0, .string a2_1]] (by rfl) rfl rfl (by (try simp only [List.map_toArray, List.map_cons, List.map_nil]); first | done | rfl | (simp only [List.length_drop, List.length_take]; rfl)) ?_
 with_reducible refine (shelfmarkref09_Slice.calls kj5 _ _ l0 a2_0 a2_1 t353 _ ?side1 ?side2 A25.out).mono ?_
 (case side1 => repeat (first | exact (Kd.C_below HR0.out HB.out) | (with_reducible refine Kd.C_alloc ?_ _) | (with_reducible refine Kd.C_drewN ?_ _) | (with_reducible refine Kd.C_drew ?_)))
 (case side2 => exact HC0.out)
 rintro e w43 ⟨v354, rfl, ho0, hb⟩
 refine ⟨_, rfl, ?_⟩
 have n0_ := Aside0.mk (Kd.R_elder' (rL HO352.out) (Kd.R_base ho0) hb)
 have n1_ := Aside0.mk (Kd.R_lower (Kd.R_newB (Kd.R_newB (Kd.R_new' ho0 (Kd.R_lt (rL HO352.out))) (g := gb344) (o := .cells #[.string t340, .string t341, .bool t342] 37 (0, 0)) (bL BK344.out)) (g := gb349) (o := .cells #[.string t345, .string t346, .bool t347] 37 (0, 0)) (bL BK349.out)) (below_size (hL HB.out)))
 have n2_ := Aside0.mk (blk_below (bL BK337.out) hb)
 have n3_ := Aside0.mk (blk_below (bL BK344.out) hb)
 have n4_ := Aside0.mk (blk_below (bL BK349.out) hb)
 have n5_ := Aside0.mk (below_step (hL HB.out) hb)
 clear HO352
 clear BK337
 clear BK344
 clear BK349
 clear HB
 have HO352 := n0_
 have HO355 := n1_
 have BK337 := n2_
 have BK344 := n3_
 have BK349 := n4_
 have HB := n5_
 clear n0_ n1_ n2_ n3_ n4_ n5_
 (try clear hb)
 (try clear hb2)
 (try clear hk)
 (try clear hi)
 (try clear ho0)
 obtain ⟨Ao44, co44, eo44⟩ := Kd.R_slice HO352.out
 (first | subst eo44 | (injection eo44 with f1_ f2_ f3_; have f4_ := f1_.symm; have f5_ := f3_.symm; clear f1_ f2_ f3_; subst f4_; subst f5_))
 obtain ⟨Ao45, co45, eo45⟩ := Kd.R_slice HO355.out
 (first | subst eo45 | (injection eo45 with f1_ f2_ f3_; have f4_ := f1_.symm; have f5_ := f3_.symm; clear f1_ f2_ f3_; subst f4_; subst f5_))
 refine hK.out _ _ ⟨(blk_cell BK344.out 0).trans rfl, (blk_cell BK344.out 1).trans rfl, (blk_cell BK344.out 2).trans rfl, (blk_cell BK349.out 0).trans rfl, (blk_cell BK349.out 1).trans rfl, (blk_cell BK349.out 2).trans rfl, (blk_cell BK337.out 0).trans rfl, (blk_cell BK337.out 1).trans rfl⟩ (fun hHeld => ?_)
 clear hK K
 refine norm_ (a' := ?_) ?_ ?_
 rotate_left
 ·show Act.put _ (some 59) _ = _
  simp only [Act.put, sT, sZ, sS, i64_w, i32_w]
  rfl
 refine one_ (i := 15) (N := some 60) #[true, true, true, true, true, true, true, true, true, true, true, true, true, true, true, true, false, false, false, false, false, false, false, false, false] rfl rfl (one_of HT_.out (by kernel_rfl)) (by decide) (fun K hK => ?_)
 refine goes_ Try.func14 (by kernel_rfl) rfl #[.slice Ao44 t350.length co44, .slice Ao45 t353.length co45] (by rfl) rfl rfl (by (try simp only [List.map_toArray, List.map_cons, List.map_nil]); first | done | rfl | (simp only [List.length_drop, List.length_take]; rfl)) ?_
 with_reducible refine (shelfmarkref09_Same.calls kj5 _ _ t350 _ _ t353 true _ ?side1 ?side2 ?side3 ?side4 A26.out).mono ?_
 (case side1 => repeat (first | exact (Kd.R_reads' HO352.out).2.2 | (with_reducible refine Kd.C_alloc ?_ _) | (with_reducible refine Kd.C_drewN ?_ _) | (with_reducible refine Kd.C_drew ?_)))
 (case side2 => exact (Kd.R_reads' HO352.out).2.1)
 (case side3 => repeat (first | exact (Kd.R_reads' HO355.out).2.2 | (with_reducible refine Kd.C_alloc ?_ _) | (with_reducible refine Kd.C_drewN ?_ _) | (with_reducible refine Kd.C_drew ?_)))
 (case side4 => exact (Kd.R_reads' HO355.out).2.1)
 rintro e w' ⟨rfl, ⟨nd, rfl⟩⟩
 refine ⟨_, rfl, ?_⟩
 refine hK.out _ _ ⟨(blk_cell BK344.out 0).trans rfl, (blk_cell BK344.out 1).trans rfl, (blk_cell BK344.out 2).trans rfl, (blk_cell BK349.out 0).trans rfl, (blk_cell BK349.out 1).trans rfl, (blk_cell BK349.out 2).trans rfl, (blk_cell BK337.out 0).trans rfl, (blk_cell BK337.out 1).trans rfl⟩ (fun hHeld => ?_)
 clear hK K
 refine norm_ (a' := ?_) ?_ ?_
 rotate_left
 ·show Act.put _ (some 60) _ = _
  simp only [Act.put, sT, sZ, sS, i64_w, i32_w]
  rfl
 refine pure_ (i := 16) (N := some 61) (v := ?_) (a' := ?_) #[true, true, true, true, true, true, true, true, true, true, true, true, true, true, true, true, true, false, false, false, false, false, false, false, false] rfl rfl (any_of HT_.out (by kernel_rfl)) (fun _ _ _ h => h) (Or.inl ⟨by rfl, ?_⟩) ?_ ?_
 rotate_left
 ·intro w'
  go_simp
  with_reducible rfl
 rotate_left
 ·simp only [Act.put, sT, sZ, sS, i64_w, i32_w]
  rfl
 refine pure_ (i := 17) (N := some 62) (v := ?_) (a' := ?_) #[true, true, true, true, true, true, true, true, true, true, true, true, true, true, true, true, true, true, false, false, false, false, false, false, false] rfl rfl (any_of HT_.out (by kernel_rfl)) (fun _ _ _ h => h) (Or.inl ⟨by rfl, ?_⟩) ?_ ?_
 rotate_left
 ·intro w'
  go_simp
  with_reducible rfl
 rotate_left
 ·simp only [Act.put, sT, sZ, sS, i64_w, i32_w]
  rfl
 refine pure_ (i := 18) (N := some 63) (v := ?_) (a' := ?_) #[true, true, true, true, true, true, true, true, true, true, true, true, true, true, true, true, true, true, true, false, false, false, false, false, false] rfl rfl (any_of HT_.out (by kernel_rfl)) (fun _ _ _ h => h) (Or.inl ⟨by rfl, ?_⟩) ?_ ?_
 rotate_left
 ·intro w'
  go_simp
  with_reducible rfl
 rotate_left
 ·simp only [Act.put, sT, sZ, sS, i64_w, i32_w]
  rfl
 refine pure_ (i := 20) (N := some 65) (v := ?_) (a' := ?_) #[true, true, true, true, true, true, true, true, true, true, true, true, true, true, true, true, true, true, true, false, true, false, false, false, false] rfl rfl (any_of HT_.out (by kernel_rfl)) (fun _ _ _ h => h) (Or.inl ⟨by rfl, ?_⟩) ?_ ?_
 rotate_left
 ·intro w'
  go_simp
  with_reducible rfl
 rotate_left
 ·simp only [Act.put, sT, sZ, sS, i64_w, i32_w]
  rfl
 refine one_ (i := 19) (N := some 64) #[true, true, true, true, true, true, true, true, true, true, true, true, true, true, true, true, true, true, true, true, true, false, false, false, false] rfl rfl (one_of HT_.out (by kernel_rfl)) (by decide) (fun K hK => ?_)
 refine goes_ Try.func21 (by kernel_rfl) rfl #[.slice A0 l0.length c0] (by rfl) rfl rfl (by (try simp only [List.map_toArray, List.map_cons, List.map_nil]); first | done | rfl | (simp only [List.length_drop, List.length_take]; rfl)) ?_
 with_reducible refine (run_Live.calls kj5 _ _ l0 t357 _ ?side1 ?side2 A28.out).mono ?_
 (case side1 => repeat (first | exact (Kd.C_below HR0.out (hL HB.out)) | (with_reducible refine Kd.C_alloc ?_ _) | (with_reducible refine Kd.C_drewN ?_ _) | (with_reducible refine Kd.C_drew ?_)))
 (case side2 => exact HC0.out)
 rintro e w46 ⟨v358, rfl, ho0, hb⟩
 refine ⟨_, rfl, ?_⟩
 have n0_ := Aside0.mk (Kd.R_below (rL HO352.out) hb)
 have n1_ := Aside0.mk (Kd.R_below (rL HO355.out) hb)
 have n2_ := Aside0.mk (Kd.R_lower ho0 (below_size (hL HB.out)))
 have n3_ := Aside0.mk (blk_below (bL BK337.out) hb)
 have n4_ := Aside0.mk (blk_below (bL BK344.out) hb)
 have n5_ := Aside0.mk (blk_below (bL BK349.out) hb)
 have n6_ := Aside0.mk (below_step (hL HB.out) hb)
 clear HO352
 clear HO355
 clear BK337
 clear BK344
 clear BK349
 clear HB
 have HO352 := n0_
 have HO355 := n1_
 have HO359 := n2_
 have BK337 := n3_
 have BK344 := n4_
 have BK349 := n5_
 have HB := n6_
 clear n0_ n1_ n2_ n3_ n4_ n5_ n6_
 (try clear hb)
 (try clear hb2)
 (try clear hk)
 (try clear hi)
 (try clear ho0)
 refine hK.out _ _ ⟨(blk_cell BK344.out 0).trans rfl, (blk_cell BK344.out 1).trans rfl, (blk_cell BK344.out 2).trans rfl, (blk_cell BK349.out 0).trans rfl, (blk_cell BK349.out 1).trans rfl, (blk_cell BK349.out 2).trans rfl, (blk_cell BK337.out 0).trans rfl, (blk_cell BK337.out 1).trans rfl⟩ (fun hHeld => ?_)
 clear hK K
 refine norm_ (a' := ?_) ?_ ?_
 rotate_left
 ·show Act.put _ (some 64) _ = _
  simp only [Act.put, sT, sZ, sS, i64_w, i32_w]
  rfl
 refine one_ (i := 21) (N := some 66) #[true, true, true, true, true, true, true, true, true, true, true, true, true, true, true, true, true, true, true, true, true, true, false, false, false] rfl rfl (one_of HT_.out (by kernel_rfl)) (by decide) (fun K hK => ?_)
 refine goes_ Try.func22 (by kernel_rfl) rfl #[.slice A0 l0.length c0] (by rfl) rfl rfl (by (try simp only [List.map_toArray, List.map_cons, List.map_nil]); first | done | rfl | (simp only [List.length_drop, List.length_take]; rfl)) ?_
 with_reducible refine (shelfmarkref09_Live.calls kj5 _ _ l0 t360 _ ?side1 ?side2 A29.out).mono ?_
 (case side1 => repeat (first | exact (Kd.C_below HR0.out HB.out) | (with_reducible refine Kd.C_alloc ?_ _) | (with_reducible refine Kd.C_drewN ?_ _) | (with_reducible refine Kd.C_drew ?_)))
 (case side2 => exact HC0.out)
 rintro e w47 ⟨v361, rfl, ho0, hb⟩
 refine ⟨_, rfl, ?_⟩
 have n0_ := Aside0.mk (Kd.R_below (rL HO352.out) hb)
 have n1_ := Aside0.mk (Kd.R_below (rL HO355.out) hb)
 have n2_ := Aside0.mk (Kd.R_elder' (rL HO359.out) (Kd.R_base ho0) hb)
 have n3_ := Aside0.mk (Kd.R_lower (Kd.R_new' ho0 (Kd.R_lt (rL HO359.out))) (below_size (hL HB.out)))
 have n4_ := Aside0.mk (blk_below (bL BK337.out) hb)
 have n5_ := Aside0.mk (blk_below (bL BK344.out) hb)
 have n6_ := Aside0.mk (blk_below (bL BK349.out) hb)
 have n7_ := Aside0.mk (below_step (hL HB.out) hb)
 clear HO352
 clear HO355
 clear HO359
 clear BK337
 clear BK344
 clear BK349
 clear HB
 have HO352 := n0_
 have HO355 := n1_
 have HO359 := n2_
 have HO362 := n3_
 have BK337 := n4_
 have BK344 := n5_
 have BK349 := n6_
 have HB := n7_
 clear n0_ n1_ n2_ n3_ n4_ n5_ n6_ n7_
 (try clear hb)
 (try clear hb2)
 (try clear hk)
 (try clear hi)
 (try clear ho0)
 obtain ⟨Ao48, co48, eo48⟩ := Kd.R_slice HO359.out
 (first | subst eo48 | (injection eo48 with f1_ f2_ f3_; have f4_ := f1_.symm; have f5_ := f3_.symm; clear f1_ f2_ f3_; subst f4_; subst f5_))
 obtain ⟨Ao49, co49, eo49⟩ := Kd.R_slice HO362.out
 (first | subst eo49 | (injection eo49 with f1_ f2_ f3_; have f4_ := f1_.symm; have f5_ := f3_.symm; clear f1_ f2_ f3_; subst f4_; subst f5_))
 refine hK.out _ _ ⟨(blk_cell BK344.out 0).trans rfl, (blk_cell BK344.out 1).trans rfl, (blk_cell BK344.out 2).trans rfl, (blk_cell BK349.out 0).trans rfl, (blk_cell BK349.out 1).trans rfl, (blk_cell BK349.out 2).trans rfl, (blk_cell BK337.out 0).trans rfl, (blk_cell BK337.out 1).trans rfl⟩ (fun hHeld => ?_)
 clear hK K
 refine norm_ (a' := ?_) ?_ ?_
 rotate_left
 ·show Act.put _ (some 66) _ = _
  simp only [Act.put, sT, sZ, sS, i64_w, i32_w]
  rfl
 refine one_ (i := 22) (N := some 67) #[true, true, true, true, true, true, true, true, true, true, true, true, true, true, true, true, true, true, true, true, true, true, true, false, false] rfl rfl (one_of HT_.out (by kernel_rfl)) (by decide) (fun K hK => ?_)
 refine goes_ Try.func20 (by kernel_rfl) rfl #[.slice Ao48 t357.length co48, .slice Ao49 t360.length co49] (by rfl) rfl rfl (by (try simp only [List.map_toArray, List.map_cons, List.map_nil]); first | done | rfl | (simp only [List.length_drop, List.length_take]; rfl)) ?_
 with_reducible refine (shelfmarkref09_SamePairs.calls kj5 _ _ t357 _ _ t360 t363 _ ?side1 ?side2 ?side3 ?side4 A30.out).mono ?_
 (case side1 => repeat (first | exact (Kd.R_reads' HO359.out).2.2 | (with_reducible refine Kd.C_alloc ?_ _) | (with_reducible refine Kd.C_drewN ?_ _) | (with_reducible refine Kd.C_drew ?_)))
 (case side2 => exact (Kd.R_reads' HO359.out).2.1)
 (case side3 => repeat (first | exact (Kd.R_reads' HO362.out).2.2 | (with_reducible refine Kd.C_alloc ?_ _) | (with_reducible refine Kd.C_drewN ?_ _) | (with_reducible refine Kd.C_drew ?_)))
 (case side4 => exact (Kd.R_reads' HO362.out).2.1)
 rintro e w' ⟨rfl, ⟨nd, rfl⟩⟩
 refine ⟨_, rfl, ?_⟩
 refine hK.out _ _ ⟨(blk_cell BK344.out 0).trans rfl, (blk_cell BK344.out 1).trans rfl, (blk_cell BK344.out 2).trans rfl, (blk_cell BK349.out 0).trans rfl, (blk_cell BK349.out 1).trans rfl, (blk_cell BK349.out 2).trans rfl, (blk_cell BK337.out 0).trans rfl, (blk_cell BK337.out 1).trans rfl⟩ (fun hHeld => ?_)
 clear hK K
 refine norm_ (a' := ?_) ?_ ?_
 rotate_left
 ·show Act.put _ (some 67) _ = _
  simp only [Act.put, sT, sZ, sS, i64_w, i32_w]
  rfl
 refine pure_ (i := 23) (N := some 68) (v := ?_) (a' := ?_) #[true, true, true, true, true, true, true, true, true, true, true, true, true, true, true, true, true, true, true, true, true, true, true, true, false] rfl rfl (any_of HT_.out (by kernel_rfl)) (fun _ _ _ h => h) (Or.inl ⟨by rfl, ?_⟩) ?_ ?_
 rotate_left
 ·intro w'
  go_simp
  with_reducible rfl
 rotate_left
 ·simp only [Act.put, sT, sZ, sS, i64_w, i32_w]
  rfl
 refine pure_ (i := 24) (N := some 6) (v := ?_) (a' := ?_) #[true, true, true, true, true, true, true, true, true, true, true, true, true, true, true, true, true, true, true, true, true, true, true, true, true] rfl rfl (any_of HT_.out (by kernel_rfl)) (fun _ _ _ h => h) (Or.inl ⟨by rfl, ?_⟩) ?_ ?_
 rotate_left
 ·intro w'
  go_simp
  with_reducible rfl
 rotate_left
 ·simp only [Act.put, sT, sZ, sS, i64_w, i32_w]
  rfl
 refine done_ (done_of HT_.out (by kernel_rfl)) ?_
 try go_wp2
 go_ret
 exact ⟨by first | rfl | (simp [errW_none, errW_some] <;> rfl) | (simp [*, errW_none, errW_some] <;> rfl), hL HB.out⟩

end Go.Proofs.Ytkkfkccfnfjbiaa.PAll
