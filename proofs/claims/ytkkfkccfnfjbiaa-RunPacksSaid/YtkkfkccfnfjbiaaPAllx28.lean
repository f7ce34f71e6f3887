-- Written by a program of this session for this claim (mp.py, over the kit's print); Lean checks it.
import Derived.Test.YtkkfkccfnfjbiaaPAllx0
import Derived.Test.YtkkfkccfnfjbiaaPAllx9
import Derived.Test.YtkkfkccfnfjbiaaPAllx13
import Derived.Test.YtkkfkccfnfjbiaaPAllx15
import Derived.Test.YtkkfkccfnfjbiaaPAllx18
import Derived.Test.YtkkfkccfnfjbiaaPAllx26
import Derived.Test.YtkkfkccfnfjbiaaPAllx27
namespace Go.Proofs.Ytkkfkccfnfjbiaa.PAll
open Go.RowKit Go.Proofs.YtkkfkccfnfjbiaaW.PrintWords Go.Proofs.YtkkfkccfnfjbiaaW.PrintLast Go.Proofs.YtkkfkccfnfjbiaaW.PrintMore Go.Proofs.Ytkkfkccfnfjbiaa.Fv Go.Proofs.Ytkkfkccfnfjbiaa.Hl
attribute [local go_sem] max2_int min2_int max_two min_two max_three min_three max_four min_four str_gtr str_leq str_geq cell_set2   -- for this text's walks alone
set_option linter.unusedVariables false
set_option linter.unusedSimpArgs false

/-! ### shelfmarklaw09_RunPacks: function 5 -/
mutual
def shelfmarklaw09_RunPacks.j0 : Nat → List (S37) → List Int → Bool → Option (Bool)
 | 0, _, _, _ => none
 | k + 1, x0, x1, x26 => if x26 = true then (some true) else ((run_Pack.f k x0).bind fun bt434 => ((shelfmarkref09_Pack.f k x0).bind fun bt438 => ((run_Unpack.f k x1).bind fun bt442 => ((shelfmarkref09_Unpack.f k x1).bind fun bt446 => (if bt434.2 = 0 then ((run_Unpack.f k bt434.1).bind fun bt450 => (if bt450.2 = 0 then ((shelfmarkref09_Same.f k bt450.1 x0).bind fun t454 => (if t454 = true then (shelfmarklaw09_RunPacks.j1 k x1 bt434.1 bt434.2 bt438.1 bt438.2 bt442.1 bt442.2 bt446.1 bt446.2) else (some false))) else (some false))) else (shelfmarklaw09_RunPacks.j1 k x1 bt434.1 bt434.2 bt438.1 bt438.2 bt442.1 bt442.2 bt446.1 bt446.2))))))
def shelfmarklaw09_RunPacks.j1 : Nat → List Int → List Int → Int → List Int → Int → List (S37) → Int → List (S37) → Int → Option (Bool)
 | 0, _, _, _, _, _, _, _, _, _ => none
 | k + 1, x1, x5, x6, x7, x8, x9, x10, x11, x12 => if x10 = 0 then ((run_Pack.f k x9).bind fun bt455 => (if bt455.2 = 0 then (if (strOfNums bt455.1).toList = (strOfNums x1).toList then (if (strOfNums x5).toList = (strOfNums x7).toList then (if x6 = x8 then ((shelfmarkref09_Same.f k x9 x11).bind fun t459 => (if t459 = true then (some (x10 == x12)) else (some false))) else (some false)) else (some false)) else (some false)) else (some false))) else (if (strOfNums x5).toList = (strOfNums x7).toList then (if x6 = x8 then ((shelfmarkref09_Same.f k x9 x11).bind fun t460 => (if t460 = true then (some (x10 == x12)) else (some false))) else (some false)) else (some false))
end
def shelfmarklaw09_RunPacks.f (k : Nat) (l0 : List (S37)) (l1 : List Int) : Option (Bool) := (shelfmarklaw09_awake.f k).bind fun t432 => (if t432 = true then ((shelfmarkref09_Light.f k l0 60).bind fun t433 => (if t433 = true then (shelfmarklaw09_RunPacks.j0 k l0 l1 (decide ((l1.length : Int) > 4000))) else (shelfmarklaw09_RunPacks.j0 k l0 l1 true))) else (some false))
theorem shelfmarklaw09_RunPacks.mono_l : ∀ k, (∀ y0 y1 y2, LeO (shelfmarklaw09_RunPacks.j0 k y0 y1 y2) (shelfmarklaw09_RunPacks.j0 (k + 1) y0 y1 y2)) ∧ (∀ y0 y1 y2 y3 y4 y5 y6 y7 y8, LeO (shelfmarklaw09_RunPacks.j1 k y0 y1 y2 y3 y4 y5 y6 y7 y8) (shelfmarklaw09_RunPacks.j1 (k + 1) y0 y1 y2 y3 y4 y5 y6 y7 y8))
 | 0 => ⟨fun _ _ _ r h => by simp [shelfmarklaw09_RunPacks.j0] at h, fun _ _ _ _ _ _ _ _ _ r h => by simp [shelfmarklaw09_RunPacks.j1] at h⟩
 | k + 1 => by
  obtain ⟨ih0, ih1⟩ := shelfmarklaw09_RunPacks.mono_l k
  refine ⟨?_, ?_⟩
  ·intro y0 y1 y2
   unfold shelfmarklaw09_RunPacks.j0
   repeat' first
   | (with_reducible exact ih0 _ _ _)
   | (with_reducible exact ih1 _ _ _ _ _ _ _ _ _)
   | (with_reducible exact run_Pack.mono _ _)
   | (with_reducible exact run_Unpack.mono _ _)
   | (with_reducible exact shelfmarklaw09_awake.mono _)
   | (with_reducible exact shelfmarkref09_Light.mono _ _ _)
   | (with_reducible exact shelfmarkref09_Pack.mono _ _)
   | (with_reducible exact shelfmarkref09_Same.mono _ _ _)
   | (with_reducible exact shelfmarkref09_Unpack.mono _ _)
   | (with_reducible exact LeO.refl _)
   | (with_reducible exact LeO.none _)
   | (with_reducible refine LeO.ite ?_ ?_)
   | (with_reducible refine LeO.bind ?_ (fun _ => ?_))
   | exact ih0 _ _ _
   | exact ih1 _ _ _ _ _ _ _ _ _
   | exact run_Pack.mono _ _
   | exact run_Unpack.mono _ _
   | exact shelfmarklaw09_awake.mono _
   | exact shelfmarkref09_Light.mono _ _ _
   | exact shelfmarkref09_Pack.mono _ _
   | exact shelfmarkref09_Same.mono _ _ _
   | exact shelfmarkref09_Unpack.mono _ _
   | exact LeO.none _
   | refine LeO.ite ?_ ?_
   | refine LeO.bind ?_ (fun _ => ?_)
  ·intro y0 y1 y2 y3 y4 y5 y6 y7 y8
   unfold shelfmarklaw09_RunPacks.j1
   repeat' first
   | (with_reducible exact ih0 _ _ _)
   | (with_reducible exact ih1 _ _ _ _ _ _ _ _ _)
   | (with_reducible exact run_Pack.mono _ _)
   | (with_reducible exact run_Unpack.mono _ _)
   | (with_reducible exact shelfmarklaw09_awake.mono _)
   | (with_reducible exact shelfmarkref09_Light.mono _ _ _)
   | (with_reducible exact shelfmarkref09_Pack.mono _ _)
   | (with_reducible exact shelfmarkref09_Same.mono _ _ _)
   | (with_reducible exact shelfmarkref09_Unpack.mono _ _)
   | (with_reducible exact LeO.refl _)
   | (with_reducible exact LeO.none _)
   | (with_reducible refine LeO.ite ?_ ?_)
   | (with_reducible refine LeO.bind ?_ (fun _ => ?_))
   | exact ih0 _ _ _
   | exact ih1 _ _ _ _ _ _ _ _ _
   | exact run_Pack.mono _ _
   | exact run_Unpack.mono _ _
   | exact shelfmarklaw09_awake.mono _
   | exact shelfmarkref09_Light.mono _ _ _
   | exact shelfmarkref09_Pack.mono _ _
   | exact shelfmarkref09_Same.mono _ _ _
   | exact shelfmarkref09_Unpack.mono _ _
   | exact LeO.none _
   | refine LeO.ite ?_ ?_
   | refine LeO.bind ?_ (fun _ => ?_)
theorem shelfmarklaw09_RunPacks.mono : ∀ a0 a1 k, LeO (shelfmarklaw09_RunPacks.f k a0 a1) (shelfmarklaw09_RunPacks.f (k + 1) a0 a1) := by
 intro a0 a1 k
 obtain ⟨ih0, ih1⟩ := shelfmarklaw09_RunPacks.mono_l k
 unfold shelfmarklaw09_RunPacks.f
 repeat' first
   | (with_reducible exact ih0 _ _ _)
   | (with_reducible exact ih1 _ _ _ _ _ _ _ _ _)
   | (with_reducible exact run_Pack.mono _ _)
   | (with_reducible exact run_Unpack.mono _ _)
   | (with_reducible exact shelfmarklaw09_awake.mono _)
   | (with_reducible exact shelfmarkref09_Light.mono _ _ _)
   | (with_reducible exact shelfmarkref09_Pack.mono _ _)
   | (with_reducible exact shelfmarkref09_Same.mono _ _ _)
   | (with_reducible exact shelfmarkref09_Unpack.mono _ _)
   | (with_reducible exact LeO.refl _)
   | (with_reducible exact LeO.none _)
   | (with_reducible refine LeO.ite ?_ ?_)
   | (with_reducible refine LeO.bind ?_ (fun _ => ?_))
   | exact ih0 _ _ _
   | exact ih1 _ _ _ _ _ _ _ _ _
   | exact run_Pack.mono _ _
   | exact run_Unpack.mono _ _
   | exact shelfmarklaw09_awake.mono _
   | exact shelfmarkref09_Light.mono _ _ _
   | exact shelfmarkref09_Pack.mono _ _
   | exact shelfmarkref09_Same.mono _ _ _
   | exact shelfmarkref09_Unpack.mono _ _
   | exact LeO.none _
   | refine LeO.ite ?_ ?_
   | refine LeO.bind ?_ (fun _ => ?_)
set_option maxHeartbeats 8000000 in
set_option maxRecDepth 100000 in
theorem shelfmarklaw09_RunPacks.calls (k : Nat) (A0 : Option Addr) (c0 : Nat) (l0 : List (S37)) (A1 : Option Addr) (c1 : Nat) (l1 : List Int) (r : Bool) (w : World) (hr0 : Kd.C k37 w A0 l0.length l0) (hc0 : l0.length ≤ c0) (hr1 : Kd.C (Kd.int .u8) w A1 l1.length l1) (hc1 : l1.length ≤ c1) (h : shelfmarklaw09_RunPacks.f k l0 l1 = some r) (hlaw : r = true) :
  Calls Try.prog 5 #[.slice A0 l0.length c0, .slice A1 l1.length c1] w fun e w' => e = .returned (.bool r) ∧ Below w.heap.size w w' := by
 have HLAW := Aside0.mk hlaw
 clear hlaw
 have HR0 := Aside0.mk hr0
 have HC0 := Aside0.mk hc0
 clear hr0 hc0
 have HR1 := Aside0.mk hr1
 have HC1 := Aside0.mk hc1
 clear hr1 hc1
 have HB := Aside0.mk (Below.refl w.heap.size w)
 have H : ((shelfmarklaw09_awake.f k).bind fun t432 => (if t432 = true then ((shelfmarkref09_Light.f k l0 60).bind fun t433 => (if t433 = true then (shelfmarklaw09_RunPacks.j0 k l0 l1 (decide ((l1.length : Int) > 4000))) else (shelfmarklaw09_RunPacks.j0 k l0 l1 true))) else (some false))) = some r := h
 clear h
 replace H := Option.bind_eq_some_iff.mp H
 obtain ⟨t432, A30, H⟩ := H
 replace H : (if t432 = true then ((shelfmarkref09_Light.f k l0 60).bind fun t433 => (if t433 = true then (shelfmarklaw09_RunPacks.j0 k l0 l1 (decide ((l1.length : Int) > 4000))) else (shelfmarklaw09_RunPacks.j0 k l0 l1 true))) else (some false)) = some r := H
 have A3 := Aside0.mk A30
 clear A30
 by_cases c4 : t432 = true
 rotate_left
 ·replace c4 := Bool.eq_false_iff.mpr c4
  subst c4
  have H1 : (some false) = some r := by rw [if_neg (show ¬ (false = true) by decide)] at H; exact H
  clear H
  have H := H1
  clear H1
  obtain rfl := Option.some.inj H
  exact absurd HLAW.out (by decide)
 subst c4
 have H1 : ((shelfmarkref09_Light.f k l0 60).bind fun t433 => (if t433 = true then (shelfmarklaw09_RunPacks.j0 k l0 l1 (decide ((l1.length : Int) > 4000))) else (shelfmarklaw09_RunPacks.j0 k l0 l1 true))) = some r := by rw [if_pos rfl] at H; exact H
 clear H
 have H := H1
 clear H1
 have HC5 := Aside0.mk H
 clear H
 go_enter Try.func5, Try.ntmps5
 go_upto_region 3 with (first | ((with_reducible refine gate_callee (f := 9) rfl ?_); refine goesL_ (some 17) rfl rfl Try.func9 (by kernel_rfl) rfl #[] rfl (by (try simp only [List.map_toArray, List.map_cons, List.map_nil]); first | done | rfl | (simp only [List.length_drop, List.length_take]; rfl)) ?_; (with_reducible refine (shelfmarklaw09_awake.calls k  true _ A3.out).mono ?_); rintro e w6 ⟨rfl, hb⟩; refine ⟨_, rfl, ?_⟩; have n0_ := Aside0.mk (below_step (hL HB.out) hb); clear HB; have HB := n0_; clear n0_; (try clear hb); (try clear hb2); (try clear hk); (try clear hi)))
 (try simp only [Act.put, sT, sZ, sS])
 go_cut [26] (fun v26 wc => ∃ (kq : Nat) (x26_4 : Bool), v26 = .bool x26_4 ∧ Aside0 (shelfmarklaw09_RunPacks.j0 kq l0 l1 x26_4 = some r) ∧ Aside0 (kq ≤ k) ∧ Aside0 (Below w.heap.size w wc))
 case first =>
  have H := HC5.out
  clear HC5
  replace H := Option.bind_eq_some_iff.mp H
  obtain ⟨t433, A70, H⟩ := H
  replace H : (if t433 = true then (shelfmarklaw09_RunPacks.j0 k l0 l1 (decide ((l1.length : Int) > 4000))) else (shelfmarklaw09_RunPacks.j0 k l0 l1 true)) = some r := H
  have A7 := Aside0.mk A70
  clear A70
  by_cases c8 : t433 = true
  ·subst c8
   have H1 : (shelfmarklaw09_RunPacks.j0 k l0 l1 (decide ((l1.length : Int) > 4000))) = some r := by rw [if_pos rfl] at H; exact H
   clear H
   have H := H1
   clear H1
   have H' := Aside0.mk H
   clear H
   go_wp2_with (first | ((with_reducible refine gate_callee (f := 15) rfl ?_); refine goesL_ (some 20) rfl rfl Try.func15 (by kernel_rfl) rfl #[.slice A0 l0.length c0, .int .i64 60] rfl (by (try simp only [List.map_toArray, List.map_cons, List.map_nil]); first | done | rfl | (simp only [List.length_drop, List.length_take]; rfl)) ?_; (with_reducible refine (shelfmarkref09_Light.calls k _ _ l0 60 true _ ?side1 ?side2 A7.out).mono ?_); (case side1 => repeat (first | exact (Kd.C_below HR0.out HB.out) | (with_reducible refine Kd.C_alloc ?_ _) | (with_reducible refine Kd.C_drewN ?_ _) | (with_reducible refine Kd.C_drew ?_))); (case side2 => exact HC0.out); rintro e w9 ⟨rfl, hb⟩; refine ⟨_, rfl, ?_⟩; have n0_ := Aside0.mk (below_step (hL HB.out) hb); clear HB; have HB := n0_; clear n0_; (try clear hb); (try clear hb2); (try clear hk); (try clear hi)))
   go_meet
   case rel => exact ⟨_, (decide ((l1.length : Int) > 4000)), (by first | rfl | (simp; done) | (simp [*]; done) | (simp [ne_nil_bytes]; done) | (simp [eq_nil_bytes]; done)), H', ⟨by first | omega | exact Nat.le_refl _⟩, ⟨hL HB.out⟩⟩
  replace c8 := Bool.eq_false_iff.mpr c8
  subst c8
  have H1 : (shelfmarklaw09_RunPacks.j0 k l0 l1 true) = some r := by rw [if_neg (show ¬ (false = true) by decide)] at H; exact H
  clear H
  have H := H1
  clear H1
  have H' := Aside0.mk H
  clear H
  go_wp2_with (first | ((with_reducible refine gate_callee (f := 15) rfl ?_); refine goesL_ (some 20) rfl rfl Try.func15 (by kernel_rfl) rfl #[.slice A0 l0.length c0, .int .i64 60] rfl (by (try simp only [List.map_toArray, List.map_cons, List.map_nil]); first | done | rfl | (simp only [List.length_drop, List.length_take]; rfl)) ?_; (with_reducible refine (shelfmarkref09_Light.calls k _ _ l0 60 false _ ?side1 ?side2 A7.out).mono ?_); (case side1 => repeat (first | exact (Kd.C_below HR0.out HB.out) | (with_reducible refine Kd.C_alloc ?_ _) | (with_reducible refine Kd.C_drewN ?_ _) | (with_reducible refine Kd.C_drew ?_))); (case side2 => exact HC0.out); rintro e w10 ⟨rfl, hb⟩; refine ⟨_, rfl, ?_⟩; have n0_ := Aside0.mk (below_step (hL HB.out) hb); clear HB; have HB := n0_; clear n0_; (try clear hb); (try clear hb2); (try clear hk); (try clear hi)))
  go_meet
  case rel => exact ⟨_, (true), (by first | rfl | (simp; done) | (simp [*]; done) | (simp [ne_nil_bytes]; done) | (simp [eq_nil_bytes]; done)), H', ⟨by first | omega | exact Nat.le_refl _⟩, ⟨hL HB.out⟩⟩
 clear HC5
 try clear c1
 try clear p2
 try clear c4
 try clear c5
 try clear c8
 try clear c9
 obtain ⟨kq, x26_4, rfl, HA, HJ4, HB⟩ := hcut
 rcases kq with _ | kj4
 ·exact absurd HA.out (by simp [shelfmarklaw09_RunPacks.j0])
 have H := HA.out
 clear HA
 simp only [shelfmarklaw09_RunPacks.j0] at H
 by_cases c11 : x26_4 = true
 ·subst c11
  have H1 : (some true) = some r := by rw [if_pos rfl] at H; exact H
  clear H
  have H := H1
  clear H1
  obtain rfl := Option.some.inj H
  simp only [Option.some.injEq, Prod.mk.injEq] at H
  obtain ⟨rfl⟩ := H
  go_wp2
  go_ret
  exact ⟨by first | rfl | (simp [errW_none, errW_some] <;> rfl) | (simp [*, errW_none, errW_some] <;> rfl), hL HB.out⟩
 replace c11 := Bool.eq_false_iff.mpr c11
 subst c11
 have H1 : ((run_Pack.f kj4 l0).bind fun bt434 => ((shelfmarkref09_Pack.f kj4 l0).bind fun bt438 => ((run_Unpack.f kj4 l1).bind fun bt442 => ((shelfmarkref09_Unpack.f kj4 l1).bind fun bt446 => (if bt434.2 = 0 then ((run_Unpack.f kj4 bt434.1).bind fun bt450 => (if bt450.2 = 0 then ((shelfmarkref09_Same.f kj4 bt450.1 l0).bind fun t454 => (if t454 = true then (shelfmarklaw09_RunPacks.j1 kj4 l1 bt434.1 bt434.2 bt438.1 bt438.2 bt442.1 bt442.2 bt446.1 bt446.2) else (some false))) else (some false))) else (shelfmarklaw09_RunPacks.j1 kj4 l1 bt434.1 bt434.2 bt438.1 bt438.2 bt442.1 bt442.2 bt446.1 bt446.2)))))) = some r := by rw [if_neg (show ¬ (false = true) by decide)] at H; exact H
 clear H
 have H := H1
 clear H1
 replace H := Option.bind_eq_some_iff.mp H
 obtain ⟨⟨t434, t435⟩, A120, H⟩ := H
 replace H : ((shelfmarkref09_Pack.f kj4 l0).bind fun bt438 => ((run_Unpack.f kj4 l1).bind fun bt442 => ((shelfmarkref09_Unpack.f kj4 l1).bind fun bt446 => (if t435 = 0 then ((run_Unpack.f kj4 t434).bind fun bt450 => (if bt450.2 = 0 then ((shelfmarkref09_Same.f kj4 bt450.1 l0).bind fun t454 => (if t454 = true then (shelfmarklaw09_RunPacks.j1 kj4 l1 t434 t435 bt438.1 bt438.2 bt442.1 bt442.2 bt446.1 bt446.2) else (some false))) else (some false))) else (shelfmarklaw09_RunPacks.j1 kj4 l1 t434 t435 bt438.1 bt438.2 bt442.1 bt442.2 bt446.1 bt446.2))))) = some r := H
 have A12 := Aside0.mk A120
 clear A120
 replace H := Option.bind_eq_some_iff.mp H
 obtain ⟨⟨t438, t439⟩, A130, H⟩ := H
 replace H : ((run_Unpack.f kj4 l1).bind fun bt442 => ((shelfmarkref09_Unpack.f kj4 l1).bind fun bt446 => (if t435 = 0 then ((run_Unpack.f kj4 t434).bind fun bt450 => (if bt450.2 = 0 then ((shelfmarkref09_Same.f kj4 bt450.1 l0).bind fun t454 => (if t454 = true then (shelfmarklaw09_RunPacks.j1 kj4 l1 t434 t435 t438 t439 bt442.1 bt442.2 bt446.1 bt446.2) else (some false))) else (some false))) else (shelfmarklaw09_RunPacks.j1 kj4 l1 t434 t435 t438 t439 bt442.1 bt442.2 bt446.1 bt446.2)))) = some r := H
 have A13 := Aside0.mk A130
 clear A130
 replace H := Option.bind_eq_some_iff.mp H
 obtain ⟨⟨t442, t443⟩, A140, H⟩ := H
 replace H : ((shelfmarkref09_Unpack.f kj4 l1).bind fun bt446 => (if t435 = 0 then ((run_Unpack.f kj4 t434).bind fun bt450 => (if bt450.2 = 0 then ((shelfmarkref09_Same.f kj4 bt450.1 l0).bind fun t454 => (if t454 = true then (shelfmarklaw09_RunPacks.j1 kj4 l1 t434 t435 t438 t439 t442 t443 bt446.1 bt446.2) else (some false))) else (some false))) else (shelfmarklaw09_RunPacks.j1 kj4 l1 t434 t435 t438 t439 t442 t443 bt446.1 bt446.2))) = some r := H
 have A14 := Aside0.mk A140
 clear A140
 replace H := Option.bind_eq_some_iff.mp H
 obtain ⟨⟨t446, t447⟩, A150, H⟩ := H
 replace H : (if t435 = 0 then ((run_Unpack.f kj4 t434).bind fun bt450 => (if bt450.2 = 0 then ((shelfmarkref09_Same.f kj4 bt450.1 l0).bind fun t454 => (if t454 = true then (shelfmarklaw09_RunPacks.j1 kj4 l1 t434 t435 t438 t439 t442 t443 t446 t447) else (some false))) else (some false))) else (shelfmarklaw09_RunPacks.j1 kj4 l1 t434 t435 t438 t439 t442 t443 t446 t447)) = some r := H
 have A15 := Aside0.mk A150
 clear A150
 have HC16 := Aside0.mk H
 clear H
 go_upto_if 48 with (first | ((with_reducible refine gate_callee (f := 23) rfl ?_); refine goesL_ (some 29) rfl rfl Try.func23 (by kernel_rfl) rfl #[.slice A0 l0.length c0] rfl (by (try simp only [List.map_toArray, List.map_cons, List.map_nil]); first | done | rfl | (simp only [List.length_drop, List.length_take]; rfl)) ?_; (with_reducible refine (run_Pack.calls kj4 _ _ l0 t434 t435 _ ?side1 ?side2 A12.out).mono ?_); (case side1 => repeat (first | exact (Kd.C_below HR0.out HB.out) | (with_reducible refine Kd.C_alloc ?_ _) | (with_reducible refine Kd.C_drewN ?_ _) | (with_reducible refine Kd.C_drew ?_))); (case side2 => exact HC0.out); rintro e w17 ⟨v436, rfl, ho0, hb⟩; refine ⟨_, rfl, ?_⟩; have n0_ := Aside0.mk (Kd.R_lower ho0 (below_size (hL HB.out))); have n1_ := Aside0.mk (below_step (hL HB.out) hb); clear HB; have HO437 := n0_; have HB := n1_; clear n0_ n1_; (try clear hb); (try clear hb2); (try clear hk); (try clear hi); (try clear ho0)) | ((with_reducible refine gate_callee (f := 24) rfl ?_); refine goesL_ (some 34) rfl rfl Try.func24 (by kernel_rfl) rfl #[.slice A0 l0.length c0] rfl (by (try simp only [List.map_toArray, List.map_cons, List.map_nil]); first | done | rfl | (simp only [List.length_drop, List.length_take]; rfl)) ?_; (with_reducible refine (shelfmarkref09_Pack.calls kj4 _ _ l0 t438 t439 _ ?side1 ?side2 A13.out).mono ?_); (case side1 => repeat (first | exact (Kd.C_below HR0.out HB.out) | (with_reducible refine Kd.C_alloc ?_ _) | (with_reducible refine Kd.C_drewN ?_ _) | (with_reducible refine Kd.C_drew ?_))); (case side2 => exact HC0.out); rintro e w18 ⟨v440, rfl, ho0, hb⟩; refine ⟨_, rfl, ?_⟩; have n0_ := Aside0.mk (Kd.R_elder' (rL HO437.out) (Kd.R_base ho0) hb); have n1_ := Aside0.mk (Kd.R_lower (Kd.R_new' ho0 (Kd.R_lt (rL HO437.out))) (below_size (hL HB.out))); have n2_ := Aside0.mk (below_step (hL HB.out) hb); clear HO437; clear HB; have HO437 := n0_; have HO441 := n1_; have HB := n2_; clear n0_ n1_ n2_; (try clear hb); (try clear hb2); (try clear hk); (try clear hi); (try clear ho0)) | ((with_reducible refine gate_callee (f := 25) rfl ?_); refine goesL_ (some 39) rfl rfl Try.func25 (by kernel_rfl) rfl #[.slice A1 l1.length c1] rfl (by (try simp only [List.map_toArray, List.map_cons, List.map_nil]); first | done | rfl | (simp only [List.length_drop, List.length_take]; rfl)) ?_; (with_reducible refine (run_Unpack.calls kj4 _ _ l1 t442 t443 _ ?side1 ?side2 A14.out).mono ?_); (case side1 => repeat (first | exact (Kd.C_below HR1.out HB.out) | (with_reducible refine Kd.C_alloc ?_ _) | (with_reducible refine Kd.C_drewN ?_ _) | (with_reducible refine Kd.C_drew ?_))); (case side2 => exact HC1.out); rintro e w19 ⟨v444, rfl, ho0, hb⟩; refine ⟨_, rfl, ?_⟩; have n0_ := Aside0.mk (Kd.R_below (rL HO437.out) hb); have n1_ := Aside0.mk (Kd.R_below (rL HO441.out) hb); have n2_ := Aside0.mk (Kd.R_lower ho0 (below_size (hL HB.out))); have n3_ := Aside0.mk (below_step (hL HB.out) hb); clear HO437; clear HO441; clear HB; have HO437 := n0_; have HO441 := n1_; have HO445 := n2_; have HB := n3_; clear n0_ n1_ n2_ n3_; (try clear hb); (try clear hb2); (try clear hk); (try clear hi); (try clear ho0)) | ((with_reducible refine gate_callee (f := 26) rfl ?_); refine goesL_ (some 44) rfl rfl Try.func26 (by kernel_rfl) rfl #[.slice A1 l1.length c1] rfl (by (try simp only [List.map_toArray, List.map_cons, List.map_nil]); first | done | rfl | (simp only [List.length_drop, List.length_take]; rfl)) ?_; (with_reducible refine (shelfmarkref09_Unpack.calls kj4 _ _ l1 t446 t447 _ ?side1 ?side2 A15.out).mono ?_); (case side1 => repeat (first | exact (Kd.C_below HR1.out HB.out) | (with_reducible refine Kd.C_alloc ?_ _) | (with_reducible refine Kd.C_drewN ?_ _) | (with_reducible refine Kd.C_drew ?_))); (case side2 => exact HC1.out); rintro e w20 ⟨v448, rfl, ho0, hb⟩; refine ⟨_, rfl, ?_⟩; have n0_ := Aside0.mk (Kd.R_below (rL HO437.out) hb); have n1_ := Aside0.mk (Kd.R_below (rL HO441.out) hb); have n2_ := Aside0.mk (Kd.R_elder' (rL HO445.out) (Kd.R_base ho0) hb); have n3_ := Aside0.mk (Kd.R_lower (Kd.R_new' ho0 (Kd.R_lt (rL HO445.out))) (below_size (hL HB.out))); have n4_ := Aside0.mk (below_step (hL HB.out) hb); clear HO437; clear HO441; clear HO445; clear HB; have HO437 := n0_; have HO441 := n1_; have HO445 := n2_; have HO449 := n3_; have HB := n4_; clear n0_ n1_ n2_ n3_ n4_; (try clear hb); (try clear hb2); (try clear hk); (try clear hi); (try clear ho0)))
 (try simp only [Act.put, sT, sZ, sS])
 go_cut [] (fun wc => ∃ (kq : Nat), Aside0 (shelfmarklaw09_RunPacks.j1 kq l1 t434 t435 t438 t439 t442 t443 t446 t447 = some r) ∧ Aside0 (kq ≤ kj4) ∧ Aside0 (Kd.R (Kd.int .u8) 5 wc w.heap.size (fun k_ => some k_ ≠ (v440 : Value).ownBlock) v436 t434) ∧ Aside0 (Kd.R (Kd.int .u8) 5 wc w.heap.size (fun k_ => some k_ ≠ (v436 : Value).ownBlock) v440 t438) ∧ Aside0 (Kd.R k37 37 wc w.heap.size (fun k_ => some k_ ≠ (v448 : Value).ownBlock) v444 t442) ∧ Aside0 (Kd.R k37 37 wc w.heap.size (fun k_ => some k_ ≠ (v444 : Value).ownBlock) v448 t446) ∧ Aside0 (Below w.heap.size w wc))
 case first =>
  have H := HC16.out
  clear HC16
  by_cases c21 : t435 = 0
  rotate_left
  ·rw [if_neg c21] at H
   have c21b0 : (t435 == 0) = false := beq_eq_false_iff_ne.mpr c21
   have c21b1 : (t435 != 0) = true := bne_iff_ne.mpr c21
   (first | rw [c21b0] | (simp only [i64_w, i32_w]; rw [c21b0]) | skip)
   have H' := Aside0.mk H
   clear H
   go_wp2
   go_meet
   case rel => exact ⟨_, H', ⟨by have := HJ4.out; first | omega | exact Nat.le_refl _⟩, ⟨by (with_reducible repeat (first | apply Kd.R_alloc | apply Kd.R_drewN | apply Kd.R_drew)); exact Kd.R_mono HO437.out (fun _ hk => hk.2)⟩, ⟨by (with_reducible repeat (first | apply Kd.R_alloc | apply Kd.R_drewN | apply Kd.R_drew)); exact Kd.R_mono HO441.out (fun _ hk => hk.2)⟩, ⟨by (with_reducible repeat (first | apply Kd.R_alloc | apply Kd.R_drewN | apply Kd.R_drew)); exact Kd.R_mono HO445.out (fun _ hk => hk.2)⟩, ⟨by (with_reducible repeat (first | apply Kd.R_alloc | apply Kd.R_drewN | apply Kd.R_drew)); exact Kd.R_mono HO449.out (fun _ hk => hk.2)⟩, ⟨hL HB.out⟩⟩
  rw [if_pos c21] at H
  have c21b0 : (t435 == 0) = true := beq_iff_eq.mpr c21
  have c21b1 : (t435 != 0) = false := bne_eq_false_iff_eq.mpr c21
  clear c21
  (first | rw [c21b0] | (simp only [i64_w, i32_w]; rw [c21b0]) | skip)
  replace H := Option.bind_eq_some_iff.mp H
  obtain ⟨⟨t450, t451⟩, A220, H⟩ := H
  replace H : (if t451 = 0 then ((shelfmarkref09_Same.f kj4 t450 l0).bind fun t454 => (if t454 = true then (shelfmarklaw09_RunPacks.j1 kj4 l1 t434 t435 t438 t439 t442 t443 t446 t447) else (some false))) else (some false)) = some r := H
  have A22 := Aside0.mk A220
  clear A220
  by_cases c23 : t451 = 0
  rotate_left
  ·rw [if_neg c23] at H
   have c23b0 : (t451 == 0) = false := beq_eq_false_iff_ne.mpr c23
   have c23b1 : (t451 != 0) = true := bne_iff_ne.mpr c23
   obtain rfl := Option.some.inj H
   exact absurd HLAW.out (by decide)
  rw [if_pos c23] at H
  have c23b0 : (t451 == 0) = true := beq_iff_eq.mpr c23
  have c23b1 : (t451 != 0) = false := bne_eq_false_iff_eq.mpr c23
  clear c23
  replace H := Option.bind_eq_some_iff.mp H
  obtain ⟨t454, A240, H⟩ := H
  replace H : (if t454 = true then (shelfmarklaw09_RunPacks.j1 kj4 l1 t434 t435 t438 t439 t442 t443 t446 t447) else (some false)) = some r := H
  have A24 := Aside0.mk A240
  clear A240
  by_cases c25 : t454 = true
  rotate_left
  ·replace c25 := Bool.eq_false_iff.mpr c25
   subst c25
   have H1 : (some false) = some r := by rw [if_neg (show ¬ (false = true) by decide)] at H; exact H
   clear H
   have H := H1
   clear H1
   obtain rfl := Option.some.inj H
   exact absurd HLAW.out (by decide)
  subst c25
  have H1 : (shelfmarklaw09_RunPacks.j1 kj4 l1 t434 t435 t438 t439 t442 t443 t446 t447) = some r := by rw [if_pos rfl] at H; exact H
  clear H
  have H := H1
  clear H1
  have H' := Aside0.mk H
  clear H
  obtain ⟨Ao26, co26, eo26⟩ := Kd.R_slice HO437.out
  subst eo26
  go_wp2_with (first | ((with_reducible refine gate_callee (f := 25) rfl ?_); refine goesL_ (some 51) rfl rfl Try.func25 (by kernel_rfl) rfl #[.slice Ao26 t434.length co26] rfl (by (try simp only [List.map_toArray, List.map_cons, List.map_nil]); first | done | rfl | (simp only [List.length_drop, List.length_take]; rfl)) ?_; (with_reducible refine (run_Unpack.calls kj4 _ _ t434 t450 t451 _ ?side1 ?side2 A22.out).mono ?_); (case side1 => repeat (first | exact (Kd.R_reads' HO437.out).2.2 | (with_reducible refine Kd.C_alloc ?_ _) | (with_reducible refine Kd.C_drewN ?_ _) | (with_reducible refine Kd.C_drew ?_))); (case side2 => exact (Kd.R_reads' HO437.out).2.1); rintro e w27 ⟨v452, rfl, ho0, hb⟩; refine ⟨_, rfl, ?_⟩; have n0_ := Aside0.mk (Kd.R_below (rL HO437.out) hb); have n1_ := Aside0.mk (Kd.R_below (rL HO441.out) hb); have n2_ := Aside0.mk (Kd.R_elder' (rL HO445.out) (Kd.R_base ho0) hb); have n3_ := Aside0.mk (Kd.R_elder' (rL HO449.out) (Kd.R_base ho0) hb); have n4_ := Aside0.mk (Kd.R_lower (Kd.R_new' (Kd.R_new' ho0 (Kd.R_lt (rL HO445.out))) (Kd.R_lt (rL HO449.out))) (below_size (hL HB.out))); have n5_ := Aside0.mk (below_step (hL HB.out) hb); clear HO437; clear HO441; clear HO445; clear HO449; clear HB; have HO437 := n0_; have HO441 := n1_; have HO445 := n2_; have HO449 := n3_; have HO453 := n4_; have HB := n5_; clear n0_ n1_ n2_ n3_ n4_ n5_; (try clear hb); (try clear hb2); (try clear hk); (try clear hi); (try clear ho0); obtain ⟨Ao28, co28, eo28⟩ := Kd.R_slice HO453.out; subst eo28) | (go_at_call 14; (with_reducible refine (shelfmarkref09_Same.calls kj4 _ _ t450 _ _ l0 true _ ?side1 ?side2 ?side3 ?side4 A24.out).mono ?_); (case side1 => repeat (first | exact (Kd.R_reads' HO453.out).2.2 | (with_reducible refine Kd.C_alloc ?_ _) | (with_reducible refine Kd.C_drewN ?_ _) | (with_reducible refine Kd.C_drew ?_))); (case side2 => exact (Kd.R_reads' HO453.out).2.1); (case side3 => repeat (first | exact (Kd.C_below HR0.out HB.out) | (with_reducible refine Kd.C_alloc ?_ _) | (with_reducible refine Kd.C_drewN ?_ _) | (with_reducible refine Kd.C_drew ?_))); (case side4 => exact HC0.out); rintro e w' ⟨rfl, ⟨nd, rfl⟩⟩))
  go_meet
  case rel => exact ⟨_, H', ⟨by have := HJ4.out; first | omega | exact Nat.le_refl _⟩, ⟨by (with_reducible repeat (first | apply Kd.R_alloc | apply Kd.R_drewN | apply Kd.R_drew)); exact Kd.R_mono HO437.out (fun _ hk => hk.2)⟩, ⟨by (with_reducible repeat (first | apply Kd.R_alloc | apply Kd.R_drewN | apply Kd.R_drew)); exact Kd.R_mono HO441.out (fun _ hk => hk.2)⟩, ⟨by (with_reducible repeat (first | apply Kd.R_alloc | apply Kd.R_drewN | apply Kd.R_drew)); exact Kd.R_mono HO445.out (fun _ hk => hk.1.2)⟩, ⟨by (with_reducible repeat (first | apply Kd.R_alloc | apply Kd.R_drewN | apply Kd.R_drew)); exact Kd.R_mono HO449.out (fun _ hk => hk.1.2)⟩, ⟨hL HB.out⟩⟩
 clear HC16
 try clear c1
 try clear c2
 try clear p2
 try clear c4
 try clear c5
 try clear c8
 try clear c9
 try clear c11
 try clear c15
 try clear c21
 try clear c21b0
 try clear c21b0z
 try clear c21b1
 try clear c21b1z
 try clear c23
 try clear c23b0
 try clear c23b0z
 try clear c23b1
 try clear c23b1z
 try clear c24
 try clear c25
 try clear c26
 try clear p2
 obtain ⟨kq, HA, HJ15, HO_5, HO_7, HO_9, HO_11, HB⟩ := hcut
 rcases kq with _ | kj15
 ·exact absurd HA.out (by simp [shelfmarklaw09_RunPacks.j1])
 have H := HA.out
 clear HA
 simp only [shelfmarklaw09_RunPacks.j1] at H
 by_cases c29 : t443 = 0
 rotate_left
 ·rw [if_neg c29] at H
  have c29b0 : (t443 == 0) = false := beq_eq_false_iff_ne.mpr c29
  have c29b1 : (t443 != 0) = true := bne_iff_ne.mpr c29
  by_cases c44 : (strOfNums t434).toList = (strOfNums t438).toList
  rotate_left
  ·rw [if_neg c44] at H
   have c44b0 : ((strOfNums t434).toList == (strOfNums t438).toList) = false := beq_eq_false_iff_ne.mpr c44
   have c44b1 : ((strOfNums t434).toList != (strOfNums t438).toList) = true := bne_iff_ne.mpr c44
   obtain rfl := Option.some.inj H
   exact absurd HLAW.out (by decide)
  rw [if_pos c44] at H
  have c44b0 : ((strOfNums t434).toList == (strOfNums t438).toList) = true := beq_iff_eq.mpr c44
  have c44b1 : ((strOfNums t434).toList != (strOfNums t438).toList) = false := bne_eq_false_iff_eq.mpr c44
  clear c44
  by_cases c45 : t435 = t439
  rotate_left
  ·rw [if_neg c45] at H
   have c45b0 : (t435 == t439) = false := beq_eq_false_iff_ne.mpr c45
   have c45b1 : (t435 != t439) = true := bne_iff_ne.mpr c45
   obtain rfl := Option.some.inj H
   exact absurd HLAW.out (by decide)
  rw [if_pos c45] at H
  have c45b0 : (t435 == t439) = true := beq_iff_eq.mpr c45
  have c45b1 : (t435 != t439) = false := bne_eq_false_iff_eq.mpr c45
  clear c45
  replace H := Option.bind_eq_some_iff.mp H
  obtain ⟨t460, A460, H⟩ := H
  replace H : (if t460 = true then (some (t443 == t447)) else (some false)) = some r := H
  have A46 := Aside0.mk A460
  clear A460
  by_cases c47 : t460 = true
  rotate_left
  ·replace c47 := Bool.eq_false_iff.mpr c47
   subst c47
   have H1 : (some false) = some r := by rw [if_neg (show ¬ (false = true) by decide)] at H; exact H
   clear H
   have H := H1
   clear H1
   obtain rfl := Option.some.inj H
   exact absurd HLAW.out (by decide)
  subst c47
  have H1 : (some (t443 == t447)) = some r := by rw [if_pos rfl] at H; exact H
  clear H
  have H := H1
  clear H1
  obtain rfl := Option.some.inj H
  simp only [Option.some.injEq, Prod.mk.injEq] at H
  obtain ⟨rfl⟩ := H
  have hcv48 := own_string (P := Try.prog) Try.underlying45 Try.underlying5 Try.underlying9 (Kd.own_of_R HO_5.out)
  have hcv49 := own_string (P := Try.prog) Try.underlying45 Try.underlying5 Try.underlying9 (Kd.own_of_R HO_7.out)
  obtain ⟨Ao50, co50, eo50⟩ := Kd.R_slice HO_9.out
  subst eo50
  obtain ⟨Ao51, co51, eo51⟩ := Kd.R_slice HO_11.out
  subst eo51
  go_wp2_with (first | (go_at_call 14; (with_reducible refine (shelfmarkref09_Same.calls kj15 _ _ t442 _ _ t446 true _ ?side1 ?side2 ?side3 ?side4 A46.out).mono ?_); (case side1 => repeat (first | exact (Kd.R_reads' HO_9.out).2.2 | (with_reducible refine Kd.C_alloc ?_ _) | (with_reducible refine Kd.C_drewN ?_ _) | (with_reducible refine Kd.C_drew ?_))); (case side2 => exact (Kd.R_reads' HO_9.out).2.1); (case side3 => repeat (first | exact (Kd.R_reads' HO_11.out).2.2 | (with_reducible refine Kd.C_alloc ?_ _) | (with_reducible refine Kd.C_drewN ?_ _) | (with_reducible refine Kd.C_drew ?_))); (case side4 => exact (Kd.R_reads' HO_11.out).2.1); rintro e w' ⟨rfl, ⟨nd, rfl⟩⟩))
  go_ret
  exact ⟨by first | rfl | (simp [errW_none, errW_some] <;> rfl) | (simp [*, errW_none, errW_some] <;> rfl), hL HB.out⟩
 rw [if_pos c29] at H
 have c29b0 : (t443 == 0) = true := beq_iff_eq.mpr c29
 have c29b1 : (t443 != 0) = false := bne_eq_false_iff_eq.mpr c29
 clear c29
 replace H := Option.bind_eq_some_iff.mp H
 obtain ⟨⟨t455, t456⟩, A300, H⟩ := H
 replace H : (if t456 = 0 then (if (strOfNums t455).toList = (strOfNums l1).toList then (if (strOfNums t434).toList = (strOfNums t438).toList then (if t435 = t439 then ((shelfmarkref09_Same.f kj15 t442 t446).bind fun t459 => (if t459 = true then (some (t443 == t447)) else (some false))) else (some false)) else (some false)) else (some false)) else (some false)) = some r := H
 have A30 := Aside0.mk A300
 clear A300
 by_cases c31 : t456 = 0
 rotate_left
 ·rw [if_neg c31] at H
  have c31b0 : (t456 == 0) = false := beq_eq_false_iff_ne.mpr c31
  have c31b1 : (t456 != 0) = true := bne_iff_ne.mpr c31
  obtain rfl := Option.some.inj H
  exact absurd HLAW.out (by decide)
 rw [if_pos c31] at H
 have c31b0 : (t456 == 0) = true := beq_iff_eq.mpr c31
 have c31b1 : (t456 != 0) = false := bne_eq_false_iff_eq.mpr c31
 clear c31
 by_cases c32 : (strOfNums t455).toList = (strOfNums l1).toList
 rotate_left
 ·rw [if_neg c32] at H
  have c32b0 : ((strOfNums t455).toList == (strOfNums l1).toList) = false := beq_eq_false_iff_ne.mpr c32
  have c32b1 : ((strOfNums t455).toList != (strOfNums l1).toList) = true := bne_iff_ne.mpr c32
  obtain rfl := Option.some.inj H
  exact absurd HLAW.out (by decide)
 rw [if_pos c32] at H
 have c32b0 : ((strOfNums t455).toList == (strOfNums l1).toList) = true := beq_iff_eq.mpr c32
 have c32b1 : ((strOfNums t455).toList != (strOfNums l1).toList) = false := bne_eq_false_iff_eq.mpr c32
 clear c32
 by_cases c33 : (strOfNums t434).toList = (strOfNums t438).toList
 rotate_left
 ·rw [if_neg c33] at H
  have c33b0 : ((strOfNums t434).toList == (strOfNums t438).toList) = false := beq_eq_false_iff_ne.mpr c33
  have c33b1 : ((strOfNums t434).toList != (strOfNums t438).toList) = true := bne_iff_ne.mpr c33
  obtain rfl := Option.some.inj H
  exact absurd HLAW.out (by decide)
 rw [if_pos c33] at H
 have c33b0 : ((strOfNums t434).toList == (strOfNums t438).toList) = true := beq_iff_eq.mpr c33
 have c33b1 : ((strOfNums t434).toList != (strOfNums t438).toList) = false := bne_eq_false_iff_eq.mpr c33
 clear c33
 by_cases c34 : t435 = t439
 rotate_left
 ·rw [if_neg c34] at H
  have c34b0 : (t435 == t439) = false := beq_eq_false_iff_ne.mpr c34
  have c34b1 : (t435 != t439) = true := bne_iff_ne.mpr c34
  obtain rfl := Option.some.inj H
  exact absurd HLAW.out (by decide)
 rw [if_pos c34] at H
 have c34b0 : (t435 == t439) = true := beq_iff_eq.mpr c34
 have c34b1 : (t435 != t439) = false := bne_eq_false_iff_eq.mpr c34
 clear c34
 replace H := Option.bind_eq_some_iff.mp H
 obtain ⟨t459, A350, H⟩ := H
 replace H : (if t459 = true then (some (t443 == t447)) else (some false)) = some r := H
 have A35 := Aside0.mk A350
 clear A350
 by_cases c36 : t459 = true
 rotate_left
 ·replace c36 := Bool.eq_false_iff.mpr c36
  subst c36
  have H1 : (some false) = some r := by rw [if_neg (show ¬ (false = true) by decide)] at H; exact H
  clear H
  have H := H1
  clear H1
  obtain rfl := Option.some.inj H
  exact absurd HLAW.out (by decide)
 subst c36
 have H1 : (some (t443 == t447)) = some r := by rw [if_pos rfl] at H; exact H
 clear H
 have H := H1
 clear H1
 obtain rfl := Option.some.inj H
 simp only [Option.some.injEq, Prod.mk.injEq] at H
 obtain ⟨rfl⟩ := H
 obtain ⟨Ao37, co37, eo37⟩ := Kd.R_slice HO_9.out
 subst eo37
 go_wp2_with (first | ((with_reducible refine gate_callee (f := 23) rfl ?_); refine goesL_ (some 66) rfl rfl Try.func23 (by kernel_rfl) rfl #[.slice Ao37 t442.length co37] rfl (by (try simp only [List.map_toArray, List.map_cons, List.map_nil]); first | done | rfl | (simp only [List.length_drop, List.length_take]; rfl)) ?_; (with_reducible refine (run_Pack.calls kj15 _ _ t442 t455 t456 _ ?side1 ?side2 A30.out).mono ?_); (case side1 => repeat (first | exact (Kd.R_reads' HO_9.out).2.2 | (with_reducible refine Kd.C_alloc ?_ _) | (with_reducible refine Kd.C_drewN ?_ _) | (with_reducible refine Kd.C_drew ?_))); (case side2 => exact (Kd.R_reads' HO_9.out).2.1); rintro e w38 ⟨v457, rfl, ho0, hb⟩; refine ⟨_, rfl, ?_⟩; have n0_ := Aside0.mk (Kd.R_elder' (rL HO_5.out) (Kd.R_base ho0) hb); have n1_ := Aside0.mk (Kd.R_elder' (rL HO_7.out) (Kd.R_base ho0) hb); have n2_ := Aside0.mk (Kd.R_below (rL HO_9.out) hb); have n3_ := Aside0.mk (Kd.R_below (rL HO_11.out) hb); have n4_ := Aside0.mk (Kd.R_lower (Kd.R_new' (Kd.R_new' ho0 (Kd.R_lt (rL HO_5.out))) (Kd.R_lt (rL HO_7.out))) (below_size (hL HB.out))); have n5_ := Aside0.mk (below_step (hL HB.out) hb); clear HO_5; clear HO_7; clear HO_9; clear HO_11; clear HB; have HO_5 := n0_; have HO_7 := n1_; have HO_9 := n2_; have HO_11 := n3_; have HO458 := n4_; have HB := n5_; clear n0_ n1_ n2_ n3_ n4_ n5_; (try clear hb); (try clear hb2); (try clear hk); (try clear hi); (try clear ho0); have hcv39 := own_string (P := Try.prog) Try.underlying45 Try.underlying5 Try.underlying9 (Kd.own_of_R HO458.out); have hcv40 := Kd.C_string (P := Try.prog) (A := A1) (c := c1) Try.underlying45 Try.underlying5 Try.underlying9 (Kd.C_below HR1.out HB.out); have hcv40d := fun n_ : Nat => Kd.C_string (P := Try.prog) (A := A1) (c := c1) Try.underlying45 Try.underlying5 Try.underlying9 (Kd.C_drewN (Kd.C_below HR1.out HB.out) n_); have hcv40r := Kd.C_string (P := Try.prog) (A := A1) (c := c1) Try.underlying45 Try.underlying5 Try.underlying9 (Kd.C_drew (Kd.C_below HR1.out HB.out)); have hcv41 := own_string (P := Try.prog) Try.underlying45 Try.underlying5 Try.underlying9 (Kd.own_of_R HO_5.out); have hcv42 := own_string (P := Try.prog) Try.underlying45 Try.underlying5 Try.underlying9 (Kd.own_of_R HO_7.out); obtain ⟨Ao43, co43, eo43⟩ := Kd.R_slice HO_11.out; subst eo43) | (go_at_call 14; (with_reducible refine (shelfmarkref09_Same.calls kj15 _ _ t442 _ _ t446 true _ ?side1 ?side2 ?side3 ?side4 A35.out).mono ?_); (case side1 => repeat (first | exact (Kd.R_reads' HO_9.out).2.2 | (with_reducible refine Kd.C_alloc ?_ _) | (with_reducible refine Kd.C_drewN ?_ _) | (with_reducible refine Kd.C_drew ?_))); (case side2 => exact (Kd.R_reads' HO_9.out).2.1); (case side3 => repeat (first | exact (Kd.R_reads' HO_11.out).2.2 | (with_reducible refine Kd.C_alloc ?_ _) | (with_reducible refine Kd.C_drewN ?_ _) | (with_reducible refine Kd.C_drew ?_))); (case side4 => exact (Kd.R_reads' HO_11.out).2.1); rintro e w' ⟨rfl, ⟨nd, rfl⟩⟩))
 go_ret
 exact ⟨by first | rfl | (simp [errW_none, errW_some] <;> rfl) | (simp [*, errW_none, errW_some] <;> rfl), hL HB.out⟩

end Go.Proofs.Ytkkfkccfnfjbiaa.PAll
