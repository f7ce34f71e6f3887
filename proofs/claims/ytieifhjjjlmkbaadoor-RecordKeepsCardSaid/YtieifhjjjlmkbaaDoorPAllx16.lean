-- Written by a program of this session for this claim (mp.py, over the kit's print); Lean checks it.
import Derived.Test.YtieifhjjjlmkbaaDoorPAllx0
import Derived.Test.YtieifhjjjlmkbaaDoorPAllx6
import Derived.Test.YtieifhjjjlmkbaaDoorPAllx10
import Derived.Test.YtieifhjjjlmkbaaDoorPAllx13
namespace Go.Proofs.YtieifhjjjlmkbaaDoor.PAll
open Go.RowKit Go.Proofs.YtieifhjjjlmkbaaDoorW.PrintWords Go.Proofs.YtieifhjjjlmkbaaDoorW.PrintLast Go.Proofs.YtieifhjjjlmkbaaDoorW.PrintMore Go.Proofs.YtieifhjjjlmkbaaDoor.Fv Go.Proofs.YtieifhjjjlmkbaaDoor.Hl
attribute [local go_sem] max2_int min2_int max_two min_two max_three min_three max_four min_four str_gtr str_leq str_geq   -- for this text's walks alone
set_option linter.unusedVariables false
set_option linter.unusedSimpArgs false

/-! ### shelfmarklaw04_RecordKeeps: function 5 -/
mutual
def shelfmarklaw04_RecordKeeps.j0 : Nat → List (S41) → Bool → Int → List Int → Option (Bool)
  | 0, _, _, _, _ => none
  | k + 1, x1, x25, x275000, x275001 => if x25 = true then (some true) else ((some (([] : List (S41)) : List (S41))).bind fun y277 => (if y277.length + x1.length < 4398046511104 then ((some (y277 ++ x1 : List (S41))).bind fun y280 => ((record_Shows.f k x275000 x275001 y280).bind fun bt283 => ((shelfmarkref04_Shows.f k x275000 x275001 x1).bind fun bt287 => (shelfmarklaw04_RecordKeeps.l0 k x1 y280 bt283.1 bt283.2 bt287.1 0 x275000 x275001)))) else (none)))
def shelfmarklaw04_RecordKeeps.l0 : Nat → List (S41) → List (S41) → List (S41) → Bool → List (S41) → Int → Int → List Int → Option (Bool)
  | 0, _, _, _, _, _, _, _, _ => none
  | k + 1, x1, x5, x6, x7, x8, x10, x275000, x275001 => if x10 < (x5.length : Int) then (if 0 ≤ x10 then (shelfmarklaw04_RecordKeeps.l0 k x1 (x5.set (x10 : Int).toNat (⟨9, 0, (⟨#[]⟩ : ByteArray)⟩ : S41)) x6 x7 x8 (wrap64 (x10 + 1)) x275000 x275001) else (none)) else (if (x7 != (decide ((x8.length : Int) > 0))) = true then (shelfmarklaw04_RecordKeeps.j2 k x1 true x275000 x275001) else ((shelfmarkref03_Same.f k x6 x8).bind fun t292 => (shelfmarklaw04_RecordKeeps.j2 k x1 (!t292) x275000 x275001)))
def shelfmarklaw04_RecordKeeps.j2 : Nat → List (S41) → Bool → Int → List Int → Option (Bool)
  | 0, _, _, _, _ => none
  | k + 1, x1, x61, x275000, x275001 => if x61 = true then (some false) else ((some (([] : List (S41)) : List (S41))).bind fun y293 => (if y293.length + x1.length < 4398046511104 then ((some (y293 ++ x1 : List (S41))).bind fun y296 => ((record_Shows.f k x275000 x275001 y296).bind fun bt299 => (shelfmarklaw04_RecordKeeps.l1 k x1 y296 bt299.1 0))) else (none)))
def shelfmarklaw04_RecordKeeps.l1 : Nat → List (S41) → List (S41) → List (S41) → Int → Option (Bool)
  | 0, _, _, _, _ => none
  | k + 1, x1, x11, x12, x14 => if x14 < (x12.length : Int) then (if 0 ≤ x14 then (shelfmarklaw04_RecordKeeps.l1 k x1 x11 (x12.set (x14 : Int).toNat (⟨9, 0, (⟨#[]⟩ : ByteArray)⟩ : S41)) (wrap64 (x14 + 1))) else (none)) else ((shelfmarkref03_Same.f k x11 x1).bind fun t304 => (some t304))
end
def shelfmarklaw04_RecordKeeps.f (k : Nat) (a0_0 : Int) (l0_1 : List Int) (l1 : List (S41)) : Option (Bool) := (shelfmarklaw04_awake.f k).bind fun t275 => (if t275 = true then ((shelfmarklaw04_light.f k l1 ([] : List (S41))).bind fun t276 => (if t276 = true then (shelfmarklaw04_RecordKeeps.j0 k l1 (decide ((l0_1.length : Int) > 100)) a0_0 l0_1) else (shelfmarklaw04_RecordKeeps.j0 k l1 true a0_0 l0_1))) else (some false))
theorem shelfmarklaw04_RecordKeeps.mono_l : ∀ k, (∀ y0 y1 y2 y3, LeO (shelfmarklaw04_RecordKeeps.j0 k y0 y1 y2 y3) (shelfmarklaw04_RecordKeeps.j0 (k + 1) y0 y1 y2 y3)) ∧ (∀ y0 y1 y2 y3 y4 y5 y6 y7, LeO (shelfmarklaw04_RecordKeeps.l0 k y0 y1 y2 y3 y4 y5 y6 y7) (shelfmarklaw04_RecordKeeps.l0 (k + 1) y0 y1 y2 y3 y4 y5 y6 y7)) ∧ (∀ y0 y1 y2 y3, LeO (shelfmarklaw04_RecordKeeps.j2 k y0 y1 y2 y3) (shelfmarklaw04_RecordKeeps.j2 (k + 1) y0 y1 y2 y3)) ∧ (∀ y0 y1 y2 y3, LeO (shelfmarklaw04_RecordKeeps.l1 k y0 y1 y2 y3) (shelfmarklaw04_RecordKeeps.l1 (k + 1) y0 y1 y2 y3))
  | 0 => ⟨fun _ _ _ _ r h => by simp [shelfmarklaw04_RecordKeeps.j0] at h, fun _ _ _ _ _ _ _ _ r h => by simp [shelfmarklaw04_RecordKeeps.l0] at h, fun _ _ _ _ r h => by simp [shelfmarklaw04_RecordKeeps.j2] at h, fun _ _ _ _ r h => by simp [shelfmarklaw04_RecordKeeps.l1] at h⟩
  | k + 1 => by
    obtain ⟨ih0, ih1, ih2, ih3⟩ := shelfmarklaw04_RecordKeeps.mono_l k
    refine ⟨?_, ?_, ?_, ?_⟩
    · intro y0 y1 y2 y3
      unfold shelfmarklaw04_RecordKeeps.j0
      repeat' first
      | (with_reducible exact ih0 _ _ _ _)
      | (with_reducible exact ih1 _ _ _ _ _ _ _ _)
      | (with_reducible exact ih2 _ _ _ _)
      | (with_reducible exact ih3 _ _ _ _)
      | (with_reducible exact record_Shows.mono _ _ _ _)
      | (with_reducible exact shelfmarklaw04_awake.mono _)
      | (with_reducible exact shelfmarklaw04_light.mono _ _ _)
      | (with_reducible exact shelfmarkref03_Same.mono _ _ _)
      | (with_reducible exact shelfmarkref04_Shows.mono _ _ _ _)
      | (with_reducible exact LeO.refl _)
      | (with_reducible exact LeO.none _)
      | (with_reducible refine LeO.ite ?_ ?_)
      | (with_reducible refine LeO.bind ?_ (fun _ => ?_))
      | exact ih0 _ _ _ _
      | exact ih1 _ _ _ _ _ _ _ _
      | exact ih2 _ _ _ _
      | exact ih3 _ _ _ _
      | exact record_Shows.mono _ _ _ _
      | exact shelfmarklaw04_awake.mono _
      | exact shelfmarklaw04_light.mono _ _ _
      | exact shelfmarkref03_Same.mono _ _ _
      | exact shelfmarkref04_Shows.mono _ _ _ _
      | exact LeO.none _
      | refine LeO.ite ?_ ?_
      | refine LeO.bind ?_ (fun _ => ?_)
    · intro y0 y1 y2 y3 y4 y5 y6 y7
      unfold shelfmarklaw04_RecordKeeps.l0
      repeat' first
      | (with_reducible exact ih0 _ _ _ _)
      | (with_reducible exact ih1 _ _ _ _ _ _ _ _)
      | (with_reducible exact ih2 _ _ _ _)
      | (with_reducible exact ih3 _ _ _ _)
      | (with_reducible exact record_Shows.mono _ _ _ _)
      | (with_reducible exact shelfmarklaw04_awake.mono _)
      | (with_reducible exact shelfmarklaw04_light.mono _ _ _)
      | (with_reducible exact shelfmarkref03_Same.mono _ _ _)
      | (with_reducible exact shelfmarkref04_Shows.mono _ _ _ _)
      | (with_reducible exact LeO.refl _)
      | (with_reducible exact LeO.none _)
      | (with_reducible refine LeO.ite ?_ ?_)
      | (with_reducible refine LeO.bind ?_ (fun _ => ?_))
      | exact ih0 _ _ _ _
      | exact ih1 _ _ _ _ _ _ _ _
      | exact ih2 _ _ _ _
      | exact ih3 _ _ _ _
      | exact record_Shows.mono _ _ _ _
      | exact shelfmarklaw04_awake.mono _
      | exact shelfmarklaw04_light.mono _ _ _
      | exact shelfmarkref03_Same.mono _ _ _
      | exact shelfmarkref04_Shows.mono _ _ _ _
      | exact LeO.none _
      | refine LeO.ite ?_ ?_
      | refine LeO.bind ?_ (fun _ => ?_)
    · intro y0 y1 y2 y3
      unfold shelfmarklaw04_RecordKeeps.j2
      repeat' first
      | (with_reducible exact ih0 _ _ _ _)
      | (with_reducible exact ih1 _ _ _ _ _ _ _ _)
      | (with_reducible exact ih2 _ _ _ _)
      | (with_reducible exact ih3 _ _ _ _)
      | (with_reducible exact record_Shows.mono _ _ _ _)
      | (with_reducible exact shelfmarklaw04_awake.mono _)
      | (with_reducible exact shelfmarklaw04_light.mono _ _ _)
      | (with_reducible exact shelfmarkref03_Same.mono _ _ _)
      | (with_reducible exact shelfmarkref04_Shows.mono _ _ _ _)
      | (with_reducible exact LeO.refl _)
      | (with_reducible exact LeO.none _)
      | (with_reducible refine LeO.ite ?_ ?_)
      | (with_reducible refine LeO.bind ?_ (fun _ => ?_))
      | exact ih0 _ _ _ _
      | exact ih1 _ _ _ _ _ _ _ _
      | exact ih2 _ _ _ _
      | exact ih3 _ _ _ _
      | exact record_Shows.mono _ _ _ _
      | exact shelfmarklaw04_awake.mono _
      | exact shelfmarklaw04_light.mono _ _ _
      | exact shelfmarkref03_Same.mono _ _ _
      | exact shelfmarkref04_Shows.mono _ _ _ _
      | exact LeO.none _
      | refine LeO.ite ?_ ?_
      | refine LeO.bind ?_ (fun _ => ?_)
    · intro y0 y1 y2 y3
      unfold shelfmarklaw04_RecordKeeps.l1
      repeat' first
      | (with_reducible exact ih0 _ _ _ _)
      | (with_reducible exact ih1 _ _ _ _ _ _ _ _)
      | (with_reducible exact ih2 _ _ _ _)
      | (with_reducible exact ih3 _ _ _ _)
      | (with_reducible exact record_Shows.mono _ _ _ _)
      | (with_reducible exact shelfmarklaw04_awake.mono _)
      | (with_reducible exact shelfmarklaw04_light.mono _ _ _)
      | (with_reducible exact shelfmarkref03_Same.mono _ _ _)
      | (with_reducible exact shelfmarkref04_Shows.mono _ _ _ _)
      | (with_reducible exact LeO.refl _)
      | (with_reducible exact LeO.none _)
      | (with_reducible refine LeO.ite ?_ ?_)
      | (with_reducible refine LeO.bind ?_ (fun _ => ?_))
      | exact ih0 _ _ _ _
      | exact ih1 _ _ _ _ _ _ _ _
      | exact ih2 _ _ _ _
      | exact ih3 _ _ _ _
      | exact record_Shows.mono _ _ _ _
      | exact shelfmarklaw04_awake.mono _
      | exact shelfmarklaw04_light.mono _ _ _
      | exact shelfmarkref03_Same.mono _ _ _
      | exact shelfmarkref04_Shows.mono _ _ _ _
      | exact LeO.none _
      | refine LeO.ite ?_ ?_
      | refine LeO.bind ?_ (fun _ => ?_)
theorem shelfmarklaw04_RecordKeeps.mono : ∀ a0 a1 a2 k, LeO (shelfmarklaw04_RecordKeeps.f k a0 a1 a2) (shelfmarklaw04_RecordKeeps.f (k + 1) a0 a1 a2) := by
  intro a0 a1 a2 k
  obtain ⟨ih0, ih1, ih2, ih3⟩ := shelfmarklaw04_RecordKeeps.mono_l k
  unfold shelfmarklaw04_RecordKeeps.f
  repeat' first
      | (with_reducible exact ih0 _ _ _ _)
      | (with_reducible exact ih1 _ _ _ _ _ _ _ _)
      | (with_reducible exact ih2 _ _ _ _)
      | (with_reducible exact ih3 _ _ _ _)
      | (with_reducible exact record_Shows.mono _ _ _ _)
      | (with_reducible exact shelfmarklaw04_awake.mono _)
      | (with_reducible exact shelfmarklaw04_light.mono _ _ _)
      | (with_reducible exact shelfmarkref03_Same.mono _ _ _)
      | (with_reducible exact shelfmarkref04_Shows.mono _ _ _ _)
      | (with_reducible exact LeO.refl _)
      | (with_reducible exact LeO.none _)
      | (with_reducible refine LeO.ite ?_ ?_)
      | (with_reducible refine LeO.bind ?_ (fun _ => ?_))
      | exact ih0 _ _ _ _
      | exact ih1 _ _ _ _ _ _ _ _
      | exact ih2 _ _ _ _
      | exact ih3 _ _ _ _
      | exact record_Shows.mono _ _ _ _
      | exact shelfmarklaw04_awake.mono _
      | exact shelfmarklaw04_light.mono _ _ _
      | exact shelfmarkref03_Same.mono _ _ _
      | exact shelfmarkref04_Shows.mono _ _ _ _
      | exact LeO.none _
      | refine LeO.ite ?_ ?_
      | refine LeO.bind ?_ (fun _ => ?_)
set_option maxHeartbeats 3000000 in
set_option maxRecDepth 100000 in
theorem shelfmarklaw04_RecordKeeps.calls (k : Nat) (a0_0 : Int) (A0_1 : Option Addr) (c0_1 : Nat) (l0_1 : List Int) (A1 : Option Addr) (c1 : Nat) (l1 : List (S41)) (r : Bool) (w : World) (hr0_1 : Kd.C (Kd.int .i64) w A0_1 l0_1.length l0_1) (hc0_1 : l0_1.length ≤ c0_1) (hr1 : Kd.C k41 w A1 l1.length l1) (hc1 : l1.length ≤ c1) (h : shelfmarklaw04_RecordKeeps.f k a0_0 l0_1 l1 = some r) :
    Calls Tryd.prog 5 #[.agg #[.int .i64 a0_0, .slice A0_1 l0_1.length c0_1], .slice A1 l1.length c1] w fun e w' => e = .returned (.bool r) ∧ Below w.heap.size w w' := by
  have hu24 := Tryd.underlying24
  have hu41 := Tryd.underlying41
  have HR0_1 := Aside0.mk hr0_1
  have HC0_1 := Aside0.mk hc0_1
  clear hr0_1 hc0_1
  have HR1 := Aside0.mk hr1
  have HC1 := Aside0.mk hc1
  clear hr1 hc1
  have HB := Aside0.mk (Below.refl w.heap.size w)
  have H : ((shelfmarklaw04_awake.f k).bind fun t275 => (if t275 = true then ((shelfmarklaw04_light.f k l1 ([] : List (S41))).bind fun t276 => (if t276 = true then (shelfmarklaw04_RecordKeeps.j0 k l1 (decide ((l0_1.length : Int) > 100)) a0_0 l0_1) else (shelfmarklaw04_RecordKeeps.j0 k l1 true a0_0 l0_1))) else (some false))) = some r := h
  clear h
  replace H := Option.bind_eq_some_iff.mp H
  obtain ⟨t275, A30, H⟩ := H
  replace H : (if t275 = true then ((shelfmarklaw04_light.f k l1 ([] : List (S41))).bind fun t276 => (if t276 = true then (shelfmarklaw04_RecordKeeps.j0 k l1 (decide ((l0_1.length : Int) > 100)) a0_0 l0_1) else (shelfmarklaw04_RecordKeeps.j0 k l1 true a0_0 l0_1))) else (some false)) = some r := H
  have A3 := Aside0.mk A30
  clear A30
  by_cases c4 : t275 = true
  · subst c4
    have H1 : ((shelfmarklaw04_light.f k l1 ([] : List (S41))).bind fun t276 => (if t276 = true then (shelfmarklaw04_RecordKeeps.j0 k l1 (decide ((l0_1.length : Int) > 100)) a0_0 l0_1) else (shelfmarklaw04_RecordKeeps.j0 k l1 true a0_0 l0_1))) = some r := by rw [if_pos rfl] at H; exact H
    clear H
    have H := H1
    clear H1
    have HC5 := Aside0.mk H
    clear H
    go_enter Tryd.func5, Tryd.ntmps5
    go_upto_region 3 with (first | ((with_reducible refine gate_dst (N := 2) rfl ?_); (try (refine gate_guard (by rfl) ?_; dsimp only)); refine box_event ?hg (N := 2) ?hd (cs := #[.int .i64 a0_0, .slice A0_1 l0_1.length c0_1]) (t := 24) ?hr ?_; (case hd => rfl); (case hg => rfl); (case hr => first | (go_simp; done) | (go_simp; rfl)); intro gb274 hg w6 hbox hb; have n0_ := Aside0.mk (below_step (by repeat (first | (with_reducible first | exact HB.out | apply below_alloc | apply pw_below_drewN | apply below_drew1) | exact HB.out)) hb); have n1_ := Aside0.mk (hbox); have n2_ := Aside0.mk ((by rw [hg]; exact (below_size (by repeat (first | (with_reducible first | exact HB.out | apply below_alloc | apply pw_below_drewN | apply below_drew1) | exact HB.out))) : w.heap.size ≤ gb274)); have n3_ := Aside0.mk ((by rw [hg]; exact (below_size (by repeat (first | (with_reducible first | exact HB.out | apply below_alloc | apply pw_below_drewN | apply below_drew1) | exact HB.out))) : w.heap.size ≤ gb274)); clear HB; have HB := n0_; have BK274 := n1_; have GW274 := n2_; have GE274 := n3_; clear n0_ n1_ n2_ n3_; clear hb hbox hg) | ((with_reducible refine gate_callee (f := 8) rfl ?_); refine goesL_ (some 15) rfl rfl Tryd.func8 (by kernel_rfl) rfl #[] rfl (by (try simp only [List.map_toArray, List.map_cons, List.map_nil]); first | done | rfl | (simp only [List.length_drop, List.length_take]; rfl)) ?_; (with_reducible refine (shelfmarklaw04_awake.calls k  true _ A3.out).mono ?_); rintro e w7 ⟨rfl, hb⟩; refine ⟨_, rfl, ?_⟩; have n0_ := Aside0.mk (blk_below (g := gb274) (o := .cells #[.int .i64 a0_0, .slice A0_1 l0_1.length c0_1] 24 (0, 0)) (by (with_reducible repeat (first | refine blk_drewN ?_ _ | refine blk_drew ?_ | refine blk_alloc ?_ _)); exact BK274.out) hb); have n1_ := Aside0.mk (below_step (by repeat (first | (with_reducible first | exact HB.out | apply below_alloc | apply pw_below_drewN | apply below_drew1 | refine below_set ?_ GE274.out) | exact HB.out)) hb); clear BK274; clear HB; have BK274 := n0_; have HB := n1_; clear n0_ n1_; (try clear hb); (try clear hb2); (try clear hk); (try clear hi)))
    (try simp only [Act.put, List.setIfInBounds_toArray, List.set_cons_zero, List.set_cons_succ])
    go_cut [25] (fun v25 wc => ∃ (kq : Nat) (x25_4 : Bool), v25 = .bool x25_4 ∧ Aside0 (shelfmarklaw04_RecordKeeps.j0 kq l1 x25_4 a0_0 l0_1 = some r) ∧ Aside0 (kq ≤ k) ∧ Aside0 (wc.heap[gb274]? = some (.cells #[.int .i64 a0_0, (.slice A0_1 l0_1.length c0_1)] 24 (0, 0))) ∧ Aside0 (Below w.heap.size w wc))
    case first =>
      have H := HC5.out
      clear HC5
      replace H := Option.bind_eq_some_iff.mp H
      obtain ⟨t276, A80, H⟩ := H
      replace H : (if t276 = true then (shelfmarklaw04_RecordKeeps.j0 k l1 (decide ((l0_1.length : Int) > 100)) a0_0 l0_1) else (shelfmarklaw04_RecordKeeps.j0 k l1 true a0_0 l0_1)) = some r := H
      have A8 := Aside0.mk A80
      clear A80
      by_cases c9 : t276 = true
      · subst c9
        have H1 : (shelfmarklaw04_RecordKeeps.j0 k l1 (decide ((l0_1.length : Int) > 100)) a0_0 l0_1) = some r := by rw [if_pos rfl] at H; exact H
        clear H
        have H := H1
        clear H1
        have H' := Aside0.mk H
        clear H
        go_wp2_with (first | ((with_reducible refine gate_callee (f := 9) rfl ?_); refine goesL_ (some 18) rfl rfl Tryd.func9 (by kernel_rfl) rfl #[.slice A1 l1.length c1, .slice none 0 0] rfl (by (try simp only [List.map_toArray, List.map_cons, List.map_nil]); first | done | rfl | (simp only [List.length_drop, List.length_take]; rfl)) ?_; (refine (shelfmarklaw04_light.calls k _ _ l1 _ _ ([] : List (S41)) true _ ?side1 ?side2 ?side3 ?side4 A8.out).mono ?_); (case side1 => repeat (first | exact (Kd.C_below HR1.out HB.out) | (with_reducible refine Kd.C_alloc ?_ _) | (with_reducible refine Kd.C_drewN ?_ _) | (with_reducible refine Kd.C_drew ?_))); (case side2 => exact HC1.out); (case side3 => exact Kd.C_nil _ _); (case side4 => exact Nat.le_refl _); rintro e w' ⟨rfl, ⟨nd, rfl⟩⟩; refine ⟨_, rfl, ?_⟩; have hcz10_0 : w7.cell? ⟨gb274, 0, none⟩ = some (.int .i64 a0_0) := (blk_cell BK274.out 0).trans rfl; have hcz10_1 : w7.cell? ⟨gb274, 1, none⟩ = some (.slice A0_1 l0_1.length c0_1) := (blk_cell BK274.out 1).trans rfl; have hfz10_0 := blk_frozen BK274.out 0; have hfz10_1 := blk_frozen BK274.out 1))
        go_meet
        case rel => exact ⟨_, (decide ((l0_1.length : Int) > 100)), (by first | rfl | (simp; done) | (simp [*]; done) | (simp [ne_nil_bytes]; done) | (simp [eq_nil_bytes]; done)), H', ⟨by first | omega | exact Nat.le_refl _⟩, ⟨by (with_reducible repeat (first | refine blk_drewN ?_ _ | refine blk_drew ?_ | refine blk_alloc ?_ _)); exact BK274.out⟩, ⟨by repeat (first | (with_reducible first | exact HB.out | apply below_alloc | apply pw_below_drewN | apply below_drew1 | refine below_set ?_ GE274.out) | exact HB.out)⟩⟩
      · replace c9 := Bool.eq_false_iff.mpr c9
        subst c9
        have H1 : (shelfmarklaw04_RecordKeeps.j0 k l1 true a0_0 l0_1) = some r := by rw [if_neg (show ¬ (false = true) by decide)] at H; exact H
        clear H
        have H := H1
        clear H1
        have H' := Aside0.mk H
        clear H
        go_wp2_with (first | ((with_reducible refine gate_callee (f := 9) rfl ?_); refine goesL_ (some 18) rfl rfl Tryd.func9 (by kernel_rfl) rfl #[.slice A1 l1.length c1, .slice none 0 0] rfl (by (try simp only [List.map_toArray, List.map_cons, List.map_nil]); first | done | rfl | (simp only [List.length_drop, List.length_take]; rfl)) ?_; (refine (shelfmarklaw04_light.calls k _ _ l1 _ _ ([] : List (S41)) false _ ?side1 ?side2 ?side3 ?side4 A8.out).mono ?_); (case side1 => repeat (first | exact (Kd.C_below HR1.out HB.out) | (with_reducible refine Kd.C_alloc ?_ _) | (with_reducible refine Kd.C_drewN ?_ _) | (with_reducible refine Kd.C_drew ?_))); (case side2 => exact HC1.out); (case side3 => exact Kd.C_nil _ _); (case side4 => exact Nat.le_refl _); rintro e w' ⟨rfl, ⟨nd, rfl⟩⟩; refine ⟨_, rfl, ?_⟩))
        go_meet
        case rel => exact ⟨_, (true), (by first | rfl | (simp; done) | (simp [*]; done) | (simp [ne_nil_bytes]; done) | (simp [eq_nil_bytes]; done)), H', ⟨by first | omega | exact Nat.le_refl _⟩, ⟨by (with_reducible repeat (first | refine blk_drewN ?_ _ | refine blk_drew ?_ | refine blk_alloc ?_ _)); exact BK274.out⟩, ⟨by repeat (first | (with_reducible first | exact HB.out | apply below_alloc | apply pw_below_drewN | apply below_drew1 | refine below_set ?_ GE274.out) | exact HB.out)⟩⟩
    case rest =>
      clear HC5
      try clear c1
      try clear p2
      try clear c4
      try clear c5
      try clear c8
      try clear c9
      try clear hcz10_0
      try clear hcz10_1
      try clear hfz10_0
      try clear hfz10_1
      obtain ⟨kq, x25_4, rfl, HA, HJ4, BK274, HB⟩ := hcut
      cases kq with
      | zero => exact absurd HA.out (by simp [shelfmarklaw04_RecordKeeps.j0])
      | succ kj4 =>
        have H := HA.out
        clear HA
        simp only [shelfmarklaw04_RecordKeeps.j0] at H
        by_cases c11 : x25_4 = true
        · subst c11
          have H1 : (some true) = some r := by rw [if_pos rfl] at H; exact H
          clear H
          have H := H1
          clear H1
          obtain rfl := Option.some.inj H
          go_wp2
          go_ret
          exact ⟨by first | rfl | (simp [errW_none, errW_some] <;> rfl) | (simp [*, errW_none, errW_some] <;> rfl), by repeat (first | (with_reducible first | exact HB.out | apply below_alloc | apply pw_below_drewN | apply below_drew1 | refine below_set ?_ GE274.out) | exact HB.out)⟩
        · replace c11 := Bool.eq_false_iff.mpr c11
          subst c11
          have H1 : ((some (([] : List (S41)) : List (S41))).bind fun y277 => (if y277.length + l1.length < 4398046511104 then ((some (y277 ++ l1 : List (S41))).bind fun y280 => ((record_Shows.f kj4 a0_0 l0_1 y280).bind fun bt283 => ((shelfmarkref04_Shows.f kj4 a0_0 l0_1 l1).bind fun bt287 => (shelfmarklaw04_RecordKeeps.l0 kj4 l1 y280 bt283.1 bt283.2 bt287.1 0 a0_0 l0_1)))) else (none))) = some r := by rw [if_neg (show ¬ (false = true) by decide)] at H; exact H
          clear H
          have H := H1
          clear H1
          obtain ⟨y277, hy277⟩ : ∃ y_ : List (S41), y_ = (([] : List (S41))) := ⟨_, rfl⟩
          replace H : (if y277.length + l1.length < 4398046511104 then ((some (y277 ++ l1 : List (S41))).bind fun y280 => ((record_Shows.f kj4 a0_0 l0_1 y280).bind fun bt283 => ((shelfmarkref04_Shows.f kj4 a0_0 l0_1 l1).bind fun bt287 => (shelfmarklaw04_RecordKeeps.l0 kj4 l1 y280 bt283.1 bt283.2 bt287.1 0 a0_0 l0_1)))) else (none)) = some r := by first | (rw [hy277]; with_reducible exact H) | (have H2_ := (Option.bind_some _ _).symm.trans H; rw [hy277]; with_reducible exact H2_) | (have H2_ := (Option.bind_some _ _).symm.trans H; with_reducible exact H2_) | with_reducible exact H | (rw [hy277]; exact H) | exact H
          have Ny277 := Aside0.mk hy277
          clear hy277
          by_cases c12 : y277.length + l1.length < 4398046511104
          · rw [if_pos c12] at H
            have LMc12 := Aside0.mk c12
            clear c12
            obtain ⟨y280, hy280⟩ : ∃ y_ : List (S41), y_ = (y277 ++ l1) := ⟨_, rfl⟩
            replace H : ((record_Shows.f kj4 a0_0 l0_1 y280).bind fun bt283 => ((shelfmarkref04_Shows.f kj4 a0_0 l0_1 l1).bind fun bt287 => (shelfmarklaw04_RecordKeeps.l0 kj4 l1 y280 bt283.1 bt283.2 bt287.1 0 a0_0 l0_1))) = some r := by first | (rw [hy280]; with_reducible exact H) | (have H2_ := (Option.bind_some _ _).symm.trans H; rw [hy280]; with_reducible exact H2_) | (have H2_ := (Option.bind_some _ _).symm.trans H; with_reducible exact H2_) | with_reducible exact H | (rw [hy280]; exact H) | exact H
            have Ny280 := Aside0.mk hy280
            clear hy280
            replace H := Option.bind_eq_some_iff.mp H
            obtain ⟨⟨t283, t286⟩, A130, H⟩ := H
            replace H : ((shelfmarkref04_Shows.f kj4 a0_0 l0_1 l1).bind fun bt287 => (shelfmarklaw04_RecordKeeps.l0 kj4 l1 y280 t283 t286 bt287.1 0 a0_0 l0_1)) = some r := H
            have A13 := Aside0.mk A130
            clear A130
            replace H := Option.bind_eq_some_iff.mp H
            obtain ⟨⟨t287, t290⟩, A140, H⟩ := H
            replace H : (shelfmarklaw04_RecordKeeps.l0 kj4 l1 y280 t283 t286 t287 0 a0_0 l0_1) = some r := H
            have A14 := Aside0.mk A140
            clear A140
            have H' := Aside0.mk H
            clear H
            go_wp2_with (first | ((with_reducible refine gate_dst (N := 26) rfl ?_); (try (refine gate_guard (by rfl) ?_; dsimp only)); refine Kd.R_lit k41 _ 41 ?hg (N := 26) ?hd (xs := ([] : List (S41))) (inner := []) (ok := fun _ => True) (okp := fun _ => True) ?hr ?hp (fun _ hk => hk) trivial (Below.refl _ _) (Nat.le_refl _) (by simp) ?_; (case hd => rfl); (case hg => rfl); (case hr => first | (go_simp; done) | (go_simp; rfl)); (case hp => exact (Reps.none _ _)); intro v278 w15 ho16 hb hg_ hnew_; clear hg_ hnew_; (first | rw [← Ny277.out] at ho16 | (simp only [Int.reduceToNat] at ho16; rw [← Ny277.out] at ho16)); have n0_ := Aside0.mk (Kd.R_lower ho16 (below_size (by repeat (first | (with_reducible first | exact HB.out | apply below_alloc | apply pw_below_drewN | apply below_drew1 | refine below_set ?_ GE274.out) | exact HB.out)))); have n1_ := Aside0.mk (blk_below (g := gb274) (o := .cells #[.int .i64 a0_0, .slice A0_1 l0_1.length c0_1] 24 (0, 0)) (by (with_reducible repeat (first | refine blk_drewN ?_ _ | refine blk_drew ?_ | refine blk_alloc ?_ _)); exact BK274.out) hb); have n2_ := Aside0.mk (below_step (by repeat (first | (with_reducible first | exact HB.out | apply below_alloc | apply pw_below_drewN | apply below_drew1 | refine below_set ?_ GE274.out) | exact HB.out)) hb); clear BK274; clear HB; have HO279 := n0_; have BK274 := n1_; have HB := n2_; clear n0_ n1_ n2_; clear hb ho16) | ((with_reducible refine gate_builtin (b := .append) (xs := #[.tmp 26, .tmp 27]) rfl ?_); (try (refine gate_guard (by rfl) ?_; dsimp only)); at_builtin; refine Kd.R_append_rows k41 (w0 := w) w.heap.size rfl (.tmp 26) (.tmp 27) 25 41 (.agg #[(.int .i64 0), (.int .i64 0), (.string ⟨#[]⟩)]) 32 rfl Tryd.underlying25 info41 rfl (by decide) (by omega) v278 y277 l1 _ _ _ (fun _ => True) (fun _ => False) rfl rfl ?aO ?aR (fun _ _ h => h) (fun _ h => h.elim) ?aF ?aB ?aS ?aL ?_; (case aR => repeat (first | exact (Kd.C_below HR1.out HB.out) | (with_reducible refine Kd.C_alloc ?_ _) | (with_reducible refine Kd.C_drewN ?_ _) | (with_reducible refine Kd.C_drew ?_))); (case aB => exact (by repeat (first | (with_reducible first | exact HB.out | apply below_alloc | apply pw_below_drewN | apply below_drew1 | refine below_set ?_ GE274.out) | exact HB.out))); (case aF => exact (fun _ _ => trivial)); (case aO => exact (by (with_reducible repeat (first | apply Kd.R_alloc | apply Kd.R_drewN | apply Kd.R_drew)); exact HO279.out)); (case aS => exact (below_size (by repeat (first | (with_reducible first | exact HB.out | apply below_alloc | apply pw_below_drewN | apply below_drew1 | refine below_set ?_ GE274.out) | exact HB.out)))); (case aL => have := LMc12.out; omega); intro v281 w17 ho hb hg hat; rw [← Ny280.out] at ho; have n0_ := Aside0.mk (blk_grown (g := gb274) (o := .cells #[.int .i64 a0_0, .slice A0_1 l0_1.length c0_1] 24 (0, 0)) (by (with_reducible repeat (first | refine blk_drewN ?_ _ | refine blk_drew ?_ | refine blk_alloc ?_ _)); exact BK274.out) hg (Kd.R_ne HO279.out BK274.out (by decide))); have n1_ := Aside0.mk (hb); have n2_ := Aside0.mk (ho); clear BK274; clear HB; clear HO279; have BK274 := n0_; have HB := n1_; have HO282 := n2_; clear n0_ n1_ n2_; clear ho hb hg hat; have hcz18_0 : w17.cell? ⟨gb274, 0, none⟩ = some (.int .i64 a0_0) := (blk_cell BK274.out 0).trans rfl; have hcz18_1 : w17.cell? ⟨gb274, 1, none⟩ = some (.slice A0_1 l0_1.length c0_1) := (blk_cell BK274.out 1).trans rfl; have hfz18_0 := blk_frozen BK274.out 0; have hfz18_1 := blk_frozen BK274.out 1; obtain ⟨Ao19, co19, eo19⟩ := Kd.R_slice HO282.out; subst eo19) | ((with_reducible refine gate_callee (f := 10) rfl ?_); refine goesL_ (some 32) rfl rfl Tryd.func10 (by kernel_rfl) rfl #[.agg #[.int .i64 a0_0, .slice A0_1 l0_1.length c0_1], .slice Ao19 y280.length co19] rfl (by (try simp only [List.map_toArray, List.map_cons, List.map_nil]); first | done | rfl | (simp only [List.length_drop, List.length_take]; rfl)) ?_; (with_reducible refine (record_Shows.calls kj4 a0_0 _ _ l0_1 _ _ y280 t283 t286 _ ?side1 ?side2 ?side3 ?side4 A13.out).mono ?_); (case side1 => repeat (first | exact (Kd.C_below HR0_1.out HB.out) | (with_reducible refine Kd.C_alloc ?_ _) | (with_reducible refine Kd.C_drewN ?_ _) | (with_reducible refine Kd.C_drew ?_))); (case side2 => exact HC0_1.out); (case side3 => repeat (first | exact (Kd.R_reads' HO282.out).2.2 | (with_reducible refine Kd.C_alloc ?_ _) | (with_reducible refine Kd.C_drewN ?_ _) | (with_reducible refine Kd.C_drew ?_))); (case side4 => exact (Kd.R_reads' HO282.out).2.1); rintro e w20 ⟨v284, rfl, ho0, hb⟩; refine ⟨_, rfl, ?_⟩; have n0_ := Aside0.mk (Kd.R_elder' (by (with_reducible repeat (first | apply Kd.R_alloc | apply Kd.R_drewN | apply Kd.R_drew)); exact HO282.out) (Kd.R_base ho0) hb); have n1_ := Aside0.mk (Kd.R_lower (Kd.R_new' ho0 (Kd.R_lt (by (with_reducible repeat (first | apply Kd.R_alloc | apply Kd.R_drewN | apply Kd.R_drew)); exact HO282.out))) (below_size (by repeat (first | (with_reducible first | exact HB.out | apply below_alloc | apply pw_below_drewN | apply below_drew1 | refine below_set ?_ GE274.out) | exact HB.out)))); have n2_ := Aside0.mk (blk_below (g := gb274) (o := .cells #[.int .i64 a0_0, .slice A0_1 l0_1.length c0_1] 24 (0, 0)) (by (with_reducible repeat (first | refine blk_drewN ?_ _ | refine blk_drew ?_ | refine blk_alloc ?_ _)); exact BK274.out) hb); have n3_ := Aside0.mk (below_step (by repeat (first | (with_reducible first | exact HB.out | apply below_alloc | apply pw_below_drewN | apply below_drew1 | refine below_set ?_ GE274.out) | exact HB.out)) hb); clear HO282; clear BK274; clear HB; have HO282 := n0_; have HO285 := n1_; have BK274 := n2_; have HB := n3_; clear n0_ n1_ n2_ n3_; (try clear hb); (try clear hb2); (try clear hk); (try clear hi); (try clear ho0); have hcz21_0 : w20.cell? ⟨gb274, 0, none⟩ = some (.int .i64 a0_0) := (blk_cell BK274.out 0).trans rfl; have hcz21_1 : w20.cell? ⟨gb274, 1, none⟩ = some (.slice A0_1 l0_1.length c0_1) := (blk_cell BK274.out 1).trans rfl; have hfz21_0 := blk_frozen BK274.out 0; have hfz21_1 := blk_frozen BK274.out 1) | ((with_reducible refine gate_callee (f := 11) rfl ?_); refine goesL_ (some 38) rfl rfl Tryd.func11 (by kernel_rfl) rfl #[.agg #[.int .i64 a0_0, .slice A0_1 l0_1.length c0_1], .slice A1 l1.length c1] rfl (by (try simp only [List.map_toArray, List.map_cons, List.map_nil]); first | done | rfl | (simp only [List.length_drop, List.length_take]; rfl)) ?_; (with_reducible refine (shelfmarkref04_Shows.calls kj4 a0_0 _ _ l0_1 _ _ l1 t287 t290 _ ?side1 ?side2 ?side3 ?side4 A14.out).mono ?_); (case side1 => repeat (first | exact (Kd.C_below HR0_1.out HB.out) | (with_reducible refine Kd.C_alloc ?_ _) | (with_reducible refine Kd.C_drewN ?_ _) | (with_reducible refine Kd.C_drew ?_))); (case side2 => exact HC0_1.out); (case side3 => repeat (first | exact (Kd.C_below HR1.out HB.out) | (with_reducible refine Kd.C_alloc ?_ _) | (with_reducible refine Kd.C_drewN ?_ _) | (with_reducible refine Kd.C_drew ?_))); (case side4 => exact HC1.out); rintro e w22 ⟨v288, rfl, ho0, hb⟩; refine ⟨_, rfl, ?_⟩; have n0_ := Aside0.mk (Kd.R_elder' (by (with_reducible repeat (first | apply Kd.R_alloc | apply Kd.R_drewN | apply Kd.R_drew)); exact HO282.out) (Kd.R_base ho0) hb); have n1_ := Aside0.mk (Kd.R_elder' (by (with_reducible repeat (first | apply Kd.R_alloc | apply Kd.R_drewN | apply Kd.R_drew)); exact HO285.out) (Kd.R_base ho0) hb); have n2_ := Aside0.mk (Kd.R_lower (Kd.R_new' (Kd.R_new' ho0 (Kd.R_lt (by (with_reducible repeat (first | apply Kd.R_alloc | apply Kd.R_drewN | apply Kd.R_drew)); exact HO282.out))) (Kd.R_lt (by (with_reducible repeat (first | apply Kd.R_alloc | apply Kd.R_drewN | apply Kd.R_drew)); exact HO285.out))) (below_size (by repeat (first | (with_reducible first | exact HB.out | apply below_alloc | apply pw_below_drewN | apply below_drew1 | refine below_set ?_ GE274.out) | exact HB.out)))); have n3_ := Aside0.mk (blk_below (g := gb274) (o := .cells #[.int .i64 a0_0, .slice A0_1 l0_1.length c0_1] 24 (0, 0)) (by (with_reducible repeat (first | refine blk_drewN ?_ _ | refine blk_drew ?_ | refine blk_alloc ?_ _)); exact BK274.out) hb); have n4_ := Aside0.mk (below_step (by repeat (first | (with_reducible first | exact HB.out | apply below_alloc | apply pw_below_drewN | apply below_drew1 | refine below_set ?_ GE274.out) | exact HB.out)) hb); clear HO282; clear HO285; clear BK274; clear HB; have HO282 := n0_; have HO285 := n1_; have HO289 := n2_; have BK274 := n3_; have HB := n4_; clear n0_ n1_ n2_ n3_ n4_; (try clear hb); (try clear hb2); (try clear hk); (try clear hi); (try clear ho0)))
            go_loopg [10] kj4 (fun kq v10 w' => ∃ (x5_2 : List (S41)) (x10_2 : Int), v10 = .int .i64 x10_2 ∧ Aside0 (shelfmarklaw04_RecordKeeps.l0 kq l1 x5_2 t283 t286 t287 x10_2 a0_0 l0_1 = some r) ∧ Aside0 (kq ≤ kj4) ∧ Aside0 (Kd.R k41 41 w' w.heap.size (fun k_ => some k_ ≠ (v284 : Value).ownBlock ∧ some k_ ≠ (v288 : Value).ownBlock) (.slice Ao19 y280.length co19) x5_2) ∧ Aside0 (Kd.R k41 41 w' w.heap.size (fun k_ => some k_ ≠ ((.slice Ao19 y280.length co19) : Value).ownBlock ∧ some k_ ≠ (v288 : Value).ownBlock) v284 t283) ∧ Aside0 (Kd.R k41 41 w' w.heap.size (fun k_ => some k_ ≠ ((.slice Ao19 y280.length co19) : Value).ownBlock ∧ some k_ ≠ (v284 : Value).ownBlock) v288 t287) ∧ Aside0 (w'.heap[gb274]? = some (.cells #[.int .i64 a0_0, (.slice A0_1 l0_1.length c0_1)] 24 (0, 0))) ∧ Aside0 (Below w.heap.size w w'))
            case atStart => exact ⟨(y280), (0), (by first | rfl | (simp; done) | (simp [*]; done) | (simp [ne_nil_bytes]; done) | (simp [eq_nil_bytes]; done)), H', ⟨Nat.le_refl _⟩, ⟨by (with_reducible repeat (first | apply Kd.R_alloc | apply Kd.R_drewN | apply Kd.R_drew)); exact Kd.R_mono HO282.out (fun _ hk => ⟨hk.1.2, hk.2⟩)⟩, ⟨by (with_reducible repeat (first | apply Kd.R_alloc | apply Kd.R_drewN | apply Kd.R_drew)); exact Kd.R_mono HO285.out (fun _ hk => ⟨hk.1.2, hk.2⟩)⟩, ⟨by (with_reducible repeat (first | apply Kd.R_alloc | apply Kd.R_drewN | apply Kd.R_drew)); exact Kd.R_mono HO289.out (fun _ hk => ⟨hk.1.2, hk.2⟩)⟩, ⟨by (with_reducible repeat (first | refine blk_drewN ?_ _ | refine blk_drew ?_ | refine blk_alloc ?_ _)); exact BK274.out⟩, ⟨by repeat (first | (with_reducible first | exact HB.out | apply below_alloc | apply pw_below_drewN | apply below_drew1 | refine below_set ?_ GE274.out) | exact HB.out)⟩⟩
            case round =>
              clear H'
              try clear c1
              try clear p2
              try clear c4
              try clear c5
              try clear c8
              try clear c9
              try clear c10
              try clear c11
              try clear c12
              try clear hcz10_0
              try clear hcz10_1
              try clear hcz18_0
              try clear hcz18_1
              try clear hcz21_0
              try clear hcz21_1
              try clear hfz10_0
              try clear hfz10_1
              try clear hfz18_0
              try clear hfz18_1
              try clear hfz21_0
              try clear hfz21_1
              try clear p2
              obtain ⟨x5_2, x10_2, rfl, HA, HK2, HO_5, HO_6, HO_8, BK274, HB⟩ := hrel
              have hl5_2 := (Kd.R_reads' HO_5.out).1
              rw [hl5_2] at HO_5
              (try simp only [hl5_2])
              (try simp only [hl5_2] at BK274)
              (try simp only [hl5_2] at HO_6)
              (try simp only [hl5_2] at HO_8)
              cases gk with
              | zero => exact absurd HA.out (by simp [shelfmarklaw04_RecordKeeps.l0])
              | succ k2 =>
                have H := HA.out
                clear HA
                simp only [shelfmarklaw04_RecordKeeps.l0] at H
                by_cases c23 : x10_2 < (x5_2.length : Int)
                · rw [if_pos c23] at H
                  have c23b0 : decide (x10_2 < (x5_2.length : Int)) = true := decide_eq_true c23
                  clear c23
                  by_cases c24 : 0 ≤ x10_2
                  · rw [if_pos c24] at H
                    have c24b0 : decide (0 ≤ x10_2) = true := decide_eq_true c24
                    clear c24
                    obtain ⟨y291, hy291⟩ : ∃ y_ : List (S41), y_ = (x5_2.set (x10_2 : Int).toNat (⟨9, 0, (⟨#[]⟩ : ByteArray)⟩ : S41)) := ⟨_, rfl⟩
                    replace H : (shelfmarklaw04_RecordKeeps.l0 k2 l1 y291 t283 t286 t287 (wrap64 (x10_2 + 1)) a0_0 l0_1) = some r := by first | (rw [hy291]; with_reducible exact H) | (have H2_ := (Option.bind_some _ _).symm.trans H; rw [hy291]; with_reducible exact H2_) | (have H2_ := (Option.bind_some _ _).symm.trans H; with_reducible exact H2_) | with_reducible exact H | (rw [hy291]; exact H) | exact H
                    have Ny291 := Aside0.mk hy291
                    clear hy291
                    have H' := Aside0.mk H
                    clear H
                    have p25 : 0 ≤ (x10_2 : Int) := of_decide_eq_true (by first | (with_reducible assumption) | assumption)
                    have q25 : (x10_2 : Int) < ((x5_2.length : Int) : Int) := of_decide_eq_true (by first | (with_reducible assumption) | assumption)
                    obtain ⟨go25, co25, eo25, gb25, gl25, cl25, HG25⟩ := Kd.R_form HO_5.out (by omega)
                    (first | cases eo25 | (injection eo25 with ea_ en_ ec_; (first | subst ea_ | (injection ea_ with ea_; subst ea_)); subst ec_; clear en_))
                    have GB25 := Aside0.mk gb25
                    have GG25 := Aside0.mk HG25
                    clear gb25 gl25 HG25
                    obtain ⟨ce25, hcl25, hM25, hcc25, hfr25⟩ := Kd.R_elem HO_5.out z41 (x10_2 : Int) p25 q25
                    obtain rfl := k41_openM hM25
                    have hx25_0 : wr.cell? ⟨go25, (x10_2 : Int).toNat * 3, none⟩ = some (.int .i64 ((rd_T41 x5_2 x10_2).f0)) := hcc25 0 _ rfl
                    have hx25_1 : wr.cell? ⟨go25, (x10_2 : Int).toNat * 3 + 1, none⟩ = some (.int .i64 ((rd_T41 x5_2 x10_2).f1)) := hcc25 1 _ rfl
                    have hx25_2 : wr.cell? ⟨go25, (x10_2 : Int).toNat * 3 + 2, none⟩ = some (.string ((rd_T41 x5_2 x10_2).f2)) := hcc25 2 _ rfl
                    have hf25_0 : wr.frozen? ⟨go25, (x10_2 : Int).toNat * 3, none⟩ = false := hfr25 0
                    have hf25_1 : wr.frozen? ⟨go25, (x10_2 : Int).toNat * 3 + 1, none⟩ = false := hfr25 1
                    have hf25_2 : wr.frozen? ⟨go25, (x10_2 : Int).toNat * 3 + 2, none⟩ = false := hfr25 2
                    clear hcl25 hcc25 hfr25 hM25
                    replace p25 := eq_true p25
                    replace q25 := eq_true q25
                    have HX26 := Aside0.mk (show Kd.R k41 41 wr w.heap.size (fun k_ => some k_ ≠ (v284 : Value).ownBlock ∧ some k_ ≠ (v288 : Value).ownBlock) (.slice (some ⟨go25, 0, none⟩) x5_2.length co19) x5_2 from (by (with_reducible repeat (first | apply Kd.R_alloc | apply Kd.R_drewN | apply Kd.R_drew)); exact HO_5.out))
                    obtain ⟨ce26, hcl26, hM26, hcc26, hfr26⟩ := Kd.R_elem HX26.out z41 (x10_2 : Int) (of_decide_eq_true (by first | (with_reducible assumption) | assumption)) (by have h_ : (x10_2 : Int) < ((x5_2.length : Int) : Int) := of_decide_eq_true (by first | (with_reducible assumption) | assumption); first | exact h_ | (have e_ := (Kd.R_reads' HO_5.out).1; omega) | simpa using h_)
                    obtain rfl := k41_openM hM26
                    have HP26 := Kd.R_seg HX26.out (x10_2 : Int) (of_decide_eq_true (by first | (with_reducible assumption) | assumption)) (by have h_ : (x10_2 : Int) < ((x5_2.length : Int) : Int) := of_decide_eq_true (by first | (with_reducible assumption) | assumption); first | exact h_ | (have e_ := (Kd.R_reads' HO_5.out).1; omega) | simpa using h_) (seg := [.int .i64 9, .int .i64 0, .string (⟨#[]⟩ : ByteArray)]) (j := 0) hcl26 hcc26 (show 3 ≤ 3 from by decide) (x' := (⟨9, 0, (⟨#[]⟩ : ByteArray)⟩ : S41)) (k41_mkM _ _ _ (⟨9, 0, (⟨#[]⟩ : ByteArray)⟩ : S41) ) (fun _ hk => hk)
                    have hx26_0 := hcc26 0 _ rfl
                    (try simp only [show (k41).sz = 3 from rfl, Nat.mul_one, Nat.add_zero] at hx26_0)
                    have hf26_0 := hfr26 0
                    (try simp only [show (k41).sz = 3 from rfl, Nat.mul_one, Nat.add_zero] at hf26_0)
                    have hx26_1 := hcc26 1 _ rfl
                    (try simp only [show (k41).sz = 3 from rfl, Nat.mul_one, Nat.add_zero] at hx26_1)
                    have hf26_1 := hfr26 1
                    (try simp only [show (k41).sz = 3 from rfl, Nat.mul_one, Nat.add_zero] at hf26_1)
                    have hx26_2 := hcc26 2 _ rfl
                    (try simp only [show (k41).sz = 3 from rfl, Nat.mul_one, Nat.add_zero] at hx26_2)
                    have hf26_2 := hfr26 2
                    (try simp only [show (k41).sz = 3 from rfl, Nat.mul_one, Nat.add_zero] at hf26_2)
                    clear hcl26 hcc26 hfr26 hM26
                    go_wp2_with (first | ((with_reducible refine gate_store (t := 41) (p := 50) rfl ?_); refine store_event (t := 41) (p := 50) (v := ?vo_w27) (w1 := (((wr.setCell ⟨go25, (x10_2 : Int).toNat * 3, none⟩ (.int .i64 9)).setCell ⟨go25, (x10_2 : Int).toNat * 3 + 1, none⟩ (.int .i64 0)).setCell ⟨go25, (x10_2 : Int).toNat * 3 + 2, none⟩ (.string (⟨#[]⟩ : ByteArray)))) ?hg ?ho ?hn ?hr ?_; (case ho => rfl); (case hg => rfl); (case hn => rfl); (case hr => first | (go_simp; done) | (go_simp; rfl)); intro w27 hw; have hg : wr.grownBy w27 (some go25) := (by rw [hw]; exact HP26.2); have hp_ : Kd.R k41 41 w27 w.heap.size (fun k_ => some k_ ≠ (v284 : Value).ownBlock ∧ some k_ ≠ (v288 : Value).ownBlock) (.slice (some ⟨go25, 0, none⟩) x5_2.length co19) y291 := (by rw [hw, Ny291.out]; exact HP26.1); clear HP26; have n0_ := Aside0.mk (hp_); have n1_ := Aside0.mk (Kd.R_after (v := (.slice (some ⟨go25, 0, none⟩) x5_2.length co19)) (v1 := (.slice (some ⟨go25, 0, none⟩) x5_2.length co19)) (ok := (fun k_ => some k_ ≠ (v288 : Value).ownBlock)) (by (with_reducible repeat (first | apply Kd.R_alloc | apply Kd.R_drewN | apply Kd.R_drew)); exact Kd.R_mono HO_6.out (fun _ hk => ⟨hk.2, hk.1⟩)) hg (.inl rfl)); have n2_ := Aside0.mk (Kd.R_after (v := (.slice (some ⟨go25, 0, none⟩) x5_2.length co19)) (v1 := (.slice (some ⟨go25, 0, none⟩) x5_2.length co19)) (ok := (fun k_ => some k_ ≠ (v284 : Value).ownBlock)) (by (with_reducible repeat (first | apply Kd.R_alloc | apply Kd.R_drewN | apply Kd.R_drew)); exact Kd.R_mono HO_8.out (fun _ hk => ⟨hk.2, hk.1⟩)) hg (.inl rfl)); have n3_ := Aside0.mk (blk_grown (g := gb274) (o := .cells #[.int .i64 a0_0, .slice A0_1 l0_1.length c0_1] 24 (0, 0)) (by (with_reducible repeat (first | refine blk_drewN ?_ _ | refine blk_drew ?_ | refine blk_alloc ?_ _)); exact BK274.out) hg (Kd.R_ne HO_5.out BK274.out (by decide))); have n4_ := Aside0.mk ((by rw [hw]; exact below_set (below_set (below_set (HB.out) GB25.out) GB25.out) GB25.out : Below w.heap.size w w27)); clear HO_5; clear HO_6; clear HO_8; clear BK274; clear HB; have HO_5 := n0_; have HO_6 := n1_; have HO_8 := n2_; have BK274 := n3_; have HB := n4_; clear n0_ n1_ n2_ n3_ n4_; clear hg hw hp_))
                    (try simp only [← hl5_2])
                    go_roundg k2
                    case measure => have := HJ4.out; have := HK2.out; omega
                    case rel => exact ⟨(y291), (wrap64 (x10_2 + 1)), (by first | rfl | (simp; done) | (simp [*]; done) | (simp [ne_nil_bytes]; done) | (simp [eq_nil_bytes]; done)), H', ⟨by have := HJ4.out; have := HK2.out; omega⟩, ⟨by (try simp only [hl5_2]); (with_reducible repeat (first | apply Kd.R_alloc | apply Kd.R_drewN | apply Kd.R_drew)); exact HO_5.out⟩, ⟨by (try simp only [hl5_2]); (with_reducible repeat (first | apply Kd.R_alloc | apply Kd.R_drewN | apply Kd.R_drew)); exact Kd.R_mono HO_6.out (fun _ hk => ⟨hk.2, hk.1⟩)⟩, ⟨by (try simp only [hl5_2]); (with_reducible repeat (first | apply Kd.R_alloc | apply Kd.R_drewN | apply Kd.R_drew)); exact Kd.R_mono HO_8.out (fun _ hk => ⟨hk.2, hk.1⟩)⟩, ⟨by (try simp only [hl5_2]); (with_reducible repeat (first | refine blk_drewN ?_ _ | refine blk_drew ?_ | refine blk_alloc ?_ _)); exact BK274.out⟩, ⟨by repeat (first | (with_reducible first | exact HB.out | apply below_alloc | apply pw_below_drewN | apply below_drew1 | refine below_set ?_ GE274.out) | exact HB.out)⟩⟩
                  · rw [if_neg c24] at H
                    exact absurd H (by simp)
                · rw [if_neg c23] at H
                  have c23b0 : decide (x10_2 < (x5_2.length : Int)) = false := decide_eq_false c23
                  clear c23
                  have HC28 := Aside0.mk H
                  clear H
                  go_upto_region 12 with (fail)
                  go_cut [61] (fun v61 wc => ∃ (kq : Nat) (x61_27 : Bool), v61 = .bool x61_27 ∧ Aside0 (shelfmarklaw04_RecordKeeps.j2 kq l1 x61_27 a0_0 l0_1 = some r) ∧ Aside0 (kq ≤ k2) ∧ Aside0 (wc.heap[gb274]? = some (.cells #[.int .i64 a0_0, (.slice A0_1 l0_1.length c0_1)] 24 (0, 0))) ∧ Aside0 (Below w.heap.size w wc))
                  case first =>
                    have H := HC28.out
                    clear HC28
                    by_cases c29 : (t286 != (decide ((t287.length : Int) > 0))) = true
                    · rw [if_pos c29] at H
                      have c29b0 : (t286 != (decide ((t287.length : Int) > 0))) = true := c29
                      (try (have c29b1 : decide (t286 = (decide ((t287.length : Int) > 0))) = false := by simpa using c29))
                      (try (have c29b6 : (t286 = decide (0 < t287.length)) = False := by simpa using c29))
                      (try (have c29b2 : (t286 == (decide ((t287.length : Int) > 0))) = false := by simpa using c29))
                      (try (have c29b3 : ¬ (t286 = (decide ((t287.length : Int) > 0))) := by simpa using c29))
                      clear c29
                      (first | rw [c29b0] | (simp only [i64_w, i32_w]; rw [c29b0]) | skip)
                      have H' := Aside0.mk H
                      clear H
                      obtain ⟨Ao30, co30, eo30⟩ := Kd.R_slice HO_8.out
                      subst eo30
                      go_wp2
                      go_meet
                      case rel => exact ⟨_, (true), (by first | rfl | (simp; done) | (simp [*]; done) | (simp [ne_nil_bytes]; done) | (simp [eq_nil_bytes]; done)), H', ⟨by have := HJ4.out; have := HK2.out; first | omega | exact Nat.le_refl _⟩, ⟨by (try simp only [hl5_2]); (with_reducible repeat (first | refine blk_drewN ?_ _ | refine blk_drew ?_ | refine blk_alloc ?_ _)); exact BK274.out⟩, ⟨by repeat (first | (with_reducible first | exact HB.out | apply below_alloc | apply pw_below_drewN | apply below_drew1 | refine below_set ?_ GE274.out) | exact HB.out)⟩⟩
                    · rw [if_neg c29] at H
                      have c29b0 : (t286 != (decide ((t287.length : Int) > 0))) = false := by simpa using c29
                      (try (have c29b1 : decide (t286 = (decide ((t287.length : Int) > 0))) = true := by simpa using c29))
                      (try (have c29b6 : (t286 = decide (0 < t287.length)) = True := by simpa using c29))
                      (try (have c29b2 : (t286 == (decide ((t287.length : Int) > 0))) = true := by simpa using c29))
                      clear c29
                      (first | rw [c29b0] | (simp only [i64_w, i32_w]; rw [c29b0]) | skip)
                      replace H := Option.bind_eq_some_iff.mp H
                      obtain ⟨t292, A310, H⟩ := H
                      replace H : (shelfmarklaw04_RecordKeeps.j2 k2 l1 (!t292) a0_0 l0_1) = some r := H
                      have A31 := Aside0.mk A310
                      clear A310
                      have H' := Aside0.mk H
                      clear H
                      obtain ⟨Ao32, co32, eo32⟩ := Kd.R_slice HO_8.out
                      subst eo32
                      obtain ⟨Ao33, co33, eo33⟩ := Kd.R_slice HO_6.out
                      subst eo33
                      go_wp2_with (first | (go_at_call 14; (with_reducible refine (shelfmarkref03_Same.calls k2 _ _ t283 _ _ t287 t292 _ ?side1 ?side2 ?side3 ?side4 A31.out).mono ?_); (case side1 => repeat (first | exact (Kd.R_reads' HO_6.out).2.2 | (with_reducible refine Kd.C_alloc ?_ _) | (with_reducible refine Kd.C_drewN ?_ _) | (with_reducible refine Kd.C_drew ?_))); (case side2 => exact (Kd.R_reads' HO_6.out).2.1); (case side3 => repeat (first | exact (Kd.R_reads' HO_8.out).2.2 | (with_reducible refine Kd.C_alloc ?_ _) | (with_reducible refine Kd.C_drewN ?_ _) | (with_reducible refine Kd.C_drew ?_))); (case side4 => exact (Kd.R_reads' HO_8.out).2.1); rintro e w' ⟨rfl, ⟨nd, rfl⟩⟩))
                      go_meet
                      case rel => exact ⟨_, (!t292), (by first | rfl | (simp; done) | (simp [*]; done) | (simp [ne_nil_bytes]; done) | (simp [eq_nil_bytes]; done)), H', ⟨by have := HJ4.out; have := HK2.out; first | omega | exact Nat.le_refl _⟩, ⟨by (try simp only [hl5_2]); (with_reducible repeat (first | refine blk_drewN ?_ _ | refine blk_drew ?_ | refine blk_alloc ?_ _)); exact BK274.out⟩, ⟨by repeat (first | (with_reducible first | exact HB.out | apply below_alloc | apply pw_below_drewN | apply below_drew1 | refine below_set ?_ GE274.out) | exact HB.out)⟩⟩
                  case rest =>
                    clear HC28
                    try clear c1
                    try clear c2
                    try clear p2
                    try clear q2
                    try clear hx2
                    try clear hf2
                    try clear c4
                    try clear c5
                    try clear p6
                    try clear c8
                    try clear c9
                    try clear c10
                    try clear c11
                    try clear c12
                    try clear c23
                    try clear c23b0
                    try clear c23b0z
                    try clear c24
                    try clear c24b0
                    try clear c24b0z
                    try clear c25
                    try clear p25
                    try clear q25
                    try clear hx25
                    try clear hf25
                    try clear c26
                    try clear hx26
                    try clear hf26
                    try clear c29
                    try clear c29b0
                    try clear c29b0z
                    try clear c29b1
                    try clear c29b1z
                    try clear c29b2
                    try clear c29b2z
                    try clear hcz10_0
                    try clear hcz10_1
                    try clear hcz18_0
                    try clear hcz18_1
                    try clear hcz21_0
                    try clear hcz21_1
                    try clear hfz10_0
                    try clear hfz10_1
                    try clear hfz18_0
                    try clear hfz18_1
                    try clear hfz21_0
                    try clear hfz21_1
                    try clear hx25_0
                    try clear hx25_1
                    try clear hx25_2
                    try clear hx26_0
                    try clear hx26_1
                    try clear hx26_2
                    try clear p2
                    try clear p25
                    try clear q25
                    obtain ⟨kq, x61_27, rfl, HA, HJ27, BK274, HB⟩ := hcut
                    cases kq with
                    | zero => exact absurd HA.out (by simp [shelfmarklaw04_RecordKeeps.j2])
                    | succ kj27 =>
                      have H := HA.out
                      clear HA
                      simp only [shelfmarklaw04_RecordKeeps.j2] at H
                      by_cases c34 : x61_27 = true
                      · subst c34
                        have H1 : (some false) = some r := by rw [if_pos rfl] at H; exact H
                        clear H
                        have H := H1
                        clear H1
                        obtain rfl := Option.some.inj H
                        go_wp2
                        go_ret
                        exact ⟨by first | rfl | (simp [errW_none, errW_some] <;> rfl) | (simp [*, errW_none, errW_some] <;> rfl), by repeat (first | (with_reducible first | exact HB.out | apply below_alloc | apply pw_below_drewN | apply below_drew1 | refine below_set ?_ GE274.out) | exact HB.out)⟩
                      · replace c34 := Bool.eq_false_iff.mpr c34
                        subst c34
                        have H1 : ((some (([] : List (S41)) : List (S41))).bind fun y293 => (if y293.length + l1.length < 4398046511104 then ((some (y293 ++ l1 : List (S41))).bind fun y296 => ((record_Shows.f kj27 a0_0 l0_1 y296).bind fun bt299 => (shelfmarklaw04_RecordKeeps.l1 kj27 l1 y296 bt299.1 0))) else (none))) = some r := by rw [if_neg (show ¬ (false = true) by decide)] at H; exact H
                        clear H
                        have H := H1
                        clear H1
                        obtain ⟨y293, hy293⟩ : ∃ y_ : List (S41), y_ = (([] : List (S41))) := ⟨_, rfl⟩
                        replace H : (if y293.length + l1.length < 4398046511104 then ((some (y293 ++ l1 : List (S41))).bind fun y296 => ((record_Shows.f kj27 a0_0 l0_1 y296).bind fun bt299 => (shelfmarklaw04_RecordKeeps.l1 kj27 l1 y296 bt299.1 0))) else (none)) = some r := by first | (rw [hy293]; with_reducible exact H) | (have H2_ := (Option.bind_some _ _).symm.trans H; rw [hy293]; with_reducible exact H2_) | (have H2_ := (Option.bind_some _ _).symm.trans H; with_reducible exact H2_) | with_reducible exact H | (rw [hy293]; exact H) | exact H
                        have Ny293 := Aside0.mk hy293
                        clear hy293
                        by_cases c35 : y293.length + l1.length < 4398046511104
                        · rw [if_pos c35] at H
                          have LMc35 := Aside0.mk c35
                          clear c35
                          obtain ⟨y296, hy296⟩ : ∃ y_ : List (S41), y_ = (y293 ++ l1) := ⟨_, rfl⟩
                          replace H : ((record_Shows.f kj27 a0_0 l0_1 y296).bind fun bt299 => (shelfmarklaw04_RecordKeeps.l1 kj27 l1 y296 bt299.1 0)) = some r := by first | (rw [hy296]; with_reducible exact H) | (have H2_ := (Option.bind_some _ _).symm.trans H; rw [hy296]; with_reducible exact H2_) | (have H2_ := (Option.bind_some _ _).symm.trans H; with_reducible exact H2_) | with_reducible exact H | (rw [hy296]; exact H) | exact H
                          have Ny296 := Aside0.mk hy296
                          clear hy296
                          replace H := Option.bind_eq_some_iff.mp H
                          obtain ⟨⟨t299, t302⟩, A360, H⟩ := H
                          replace H : (shelfmarklaw04_RecordKeeps.l1 kj27 l1 y296 t299 0) = some r := H
                          have A36 := Aside0.mk A360
                          clear A360
                          have H' := Aside0.mk H
                          clear H
                          go_wp2_with (first | ((with_reducible refine gate_dst (N := 62) rfl ?_); (try (refine gate_guard (by rfl) ?_; dsimp only)); refine Kd.R_lit k41 _ 41 ?hg (N := 62) ?hd (xs := ([] : List (S41))) (inner := []) (ok := fun _ => True) (okp := fun _ => True) ?hr ?hp (fun _ hk => hk) trivial (Below.refl _ _) (Nat.le_refl _) (by simp) ?_; (case hd => rfl); (case hg => rfl); (case hr => first | (go_simp; done) | (go_simp; rfl)); (case hp => exact (Reps.none _ _)); intro v294 w37 ho38 hb hg_ hnew_; clear hg_ hnew_; (first | rw [← Ny293.out] at ho38 | (simp only [Int.reduceToNat] at ho38; rw [← Ny293.out] at ho38)); have n0_ := Aside0.mk (Kd.R_lower ho38 (below_size (by repeat (first | (with_reducible first | exact HB.out | apply below_alloc | apply pw_below_drewN | apply below_drew1 | refine below_set ?_ GE274.out) | exact HB.out)))); have n1_ := Aside0.mk (blk_below (g := gb274) (o := .cells #[.int .i64 a0_0, .slice A0_1 l0_1.length c0_1] 24 (0, 0)) (by (with_reducible repeat (first | refine blk_drewN ?_ _ | refine blk_drew ?_ | refine blk_alloc ?_ _)); exact BK274.out) hb); have n2_ := Aside0.mk (below_step (by repeat (first | (with_reducible first | exact HB.out | apply below_alloc | apply pw_below_drewN | apply below_drew1 | refine below_set ?_ GE274.out) | exact HB.out)) hb); clear BK274; clear HB; have HO295 := n0_; have BK274 := n1_; have HB := n2_; clear n0_ n1_ n2_; clear hb ho38) | ((with_reducible refine gate_builtin (b := .append) (xs := #[.tmp 62, .tmp 63]) rfl ?_); (try (refine gate_guard (by rfl) ?_; dsimp only)); at_builtin; refine Kd.R_append_rows k41 (w0 := w) w.heap.size rfl (.tmp 62) (.tmp 63) 25 41 (.agg #[(.int .i64 0), (.int .i64 0), (.string ⟨#[]⟩)]) 32 rfl Tryd.underlying25 info41 rfl (by decide) (by omega) v294 y293 l1 _ _ _ (fun _ => True) (fun _ => False) rfl rfl ?aO ?aR (fun _ _ h => h) (fun _ h => h.elim) ?aF ?aB ?aS ?aL ?_; (case aR => repeat (first | exact (Kd.C_below HR1.out HB.out) | (with_reducible refine Kd.C_alloc ?_ _) | (with_reducible refine Kd.C_drewN ?_ _) | (with_reducible refine Kd.C_drew ?_))); (case aB => exact (by repeat (first | (with_reducible first | exact HB.out | apply below_alloc | apply pw_below_drewN | apply below_drew1 | refine below_set ?_ GE274.out) | exact HB.out))); (case aF => exact (fun _ _ => trivial)); (case aO => exact (by (with_reducible repeat (first | apply Kd.R_alloc | apply Kd.R_drewN | apply Kd.R_drew)); exact HO295.out)); (case aS => exact (below_size (by repeat (first | (with_reducible first | exact HB.out | apply below_alloc | apply pw_below_drewN | apply below_drew1 | refine below_set ?_ GE274.out) | exact HB.out)))); (case aL => have := LMc35.out; omega); intro v297 w39 ho hb hg hat; rw [← Ny296.out] at ho; have n0_ := Aside0.mk (blk_grown (g := gb274) (o := .cells #[.int .i64 a0_0, .slice A0_1 l0_1.length c0_1] 24 (0, 0)) (by (with_reducible repeat (first | refine blk_drewN ?_ _ | refine blk_drew ?_ | refine blk_alloc ?_ _)); exact BK274.out) hg (Kd.R_ne HO295.out BK274.out (by decide))); have n1_ := Aside0.mk (hb); have n2_ := Aside0.mk (ho); clear BK274; clear HB; clear HO295; have BK274 := n0_; have HB := n1_; have HO298 := n2_; clear n0_ n1_ n2_; clear ho hb hg hat; have hcz40_0 : w39.cell? ⟨gb274, 0, none⟩ = some (.int .i64 a0_0) := (blk_cell BK274.out 0).trans rfl; have hcz40_1 : w39.cell? ⟨gb274, 1, none⟩ = some (.slice A0_1 l0_1.length c0_1) := (blk_cell BK274.out 1).trans rfl; have hfz40_0 := blk_frozen BK274.out 0; have hfz40_1 := blk_frozen BK274.out 1; obtain ⟨Ao41, co41, eo41⟩ := Kd.R_slice HO298.out; subst eo41) | ((with_reducible refine gate_callee (f := 10) rfl ?_); refine goesL_ (some 68) rfl rfl Tryd.func10 (by kernel_rfl) rfl #[.agg #[.int .i64 a0_0, .slice A0_1 l0_1.length c0_1], .slice Ao41 y296.length co41] rfl (by (try simp only [List.map_toArray, List.map_cons, List.map_nil]); first | done | rfl | (simp only [List.length_drop, List.length_take]; rfl)) ?_; (with_reducible refine (record_Shows.calls kj27 a0_0 _ _ l0_1 _ _ y296 t299 t302 _ ?side1 ?side2 ?side3 ?side4 A36.out).mono ?_); (case side1 => repeat (first | exact (Kd.C_below HR0_1.out HB.out) | (with_reducible refine Kd.C_alloc ?_ _) | (with_reducible refine Kd.C_drewN ?_ _) | (with_reducible refine Kd.C_drew ?_))); (case side2 => exact HC0_1.out); (case side3 => repeat (first | exact (Kd.R_reads' HO298.out).2.2 | (with_reducible refine Kd.C_alloc ?_ _) | (with_reducible refine Kd.C_drewN ?_ _) | (with_reducible refine Kd.C_drew ?_))); (case side4 => exact (Kd.R_reads' HO298.out).2.1); rintro e w42 ⟨v300, rfl, ho0, hb⟩; refine ⟨_, rfl, ?_⟩; have n0_ := Aside0.mk (Kd.R_elder' (by (with_reducible repeat (first | apply Kd.R_alloc | apply Kd.R_drewN | apply Kd.R_drew)); exact HO298.out) (Kd.R_base ho0) hb); have n1_ := Aside0.mk (Kd.R_lower (Kd.R_new' ho0 (Kd.R_lt (by (with_reducible repeat (first | apply Kd.R_alloc | apply Kd.R_drewN | apply Kd.R_drew)); exact HO298.out))) (below_size (by repeat (first | (with_reducible first | exact HB.out | apply below_alloc | apply pw_below_drewN | apply below_drew1 | refine below_set ?_ GE274.out) | exact HB.out)))); have n2_ := Aside0.mk (blk_below (g := gb274) (o := .cells #[.int .i64 a0_0, .slice A0_1 l0_1.length c0_1] 24 (0, 0)) (by (with_reducible repeat (first | refine blk_drewN ?_ _ | refine blk_drew ?_ | refine blk_alloc ?_ _)); exact BK274.out) hb); have n3_ := Aside0.mk (below_step (by repeat (first | (with_reducible first | exact HB.out | apply below_alloc | apply pw_below_drewN | apply below_drew1 | refine below_set ?_ GE274.out) | exact HB.out)) hb); clear HO298; clear BK274; clear HB; have HO298 := n0_; have HO301 := n1_; have BK274 := n2_; have HB := n3_; clear n0_ n1_ n2_ n3_; (try clear hb); (try clear hb2); (try clear hk); (try clear hi); (try clear ho0)))
                          go_loopg [14] kj27 (fun kq v14 w' => ∃ (x12_4 : List (S41)) (x14_4 : Int), v14 = .int .i64 x14_4 ∧ Aside0 (shelfmarklaw04_RecordKeeps.l1 kq l1 y296 x12_4 x14_4 = some r) ∧ Aside0 (kq ≤ kj27) ∧ Aside0 (Kd.R k41 41 w' w.heap.size (fun k_ => some k_ ≠ (v300 : Value).ownBlock) (.slice Ao41 y296.length co41) y296) ∧ Aside0 (Kd.R k41 41 w' w.heap.size (fun k_ => some k_ ≠ ((.slice Ao41 y296.length co41) : Value).ownBlock) v300 x12_4) ∧ Aside0 (w'.heap[gb274]? = some (.cells #[.int .i64 a0_0, (.slice A0_1 l0_1.length c0_1)] 24 (0, 0))) ∧ Aside0 (Below w.heap.size w w'))
                          case atStart => exact ⟨(t299), (0), (by first | rfl | (simp; done) | (simp [*]; done) | (simp [ne_nil_bytes]; done) | (simp [eq_nil_bytes]; done)), H', ⟨Nat.le_refl _⟩, ⟨by (try simp only [hl5_2]); (with_reducible repeat (first | apply Kd.R_alloc | apply Kd.R_drewN | apply Kd.R_drew)); exact Kd.R_mono HO298.out (fun _ hk => hk.2)⟩, ⟨by (try simp only [hl5_2]); (with_reducible repeat (first | apply Kd.R_alloc | apply Kd.R_drewN | apply Kd.R_drew)); exact Kd.R_mono HO301.out (fun _ hk => hk.2)⟩, ⟨by (try simp only [hl5_2]); (with_reducible repeat (first | refine blk_drewN ?_ _ | refine blk_drew ?_ | refine blk_alloc ?_ _)); exact BK274.out⟩, ⟨by repeat (first | (with_reducible first | exact HB.out | apply below_alloc | apply pw_below_drewN | apply below_drew1 | refine below_set ?_ GE274.out) | exact HB.out)⟩⟩
                          case round =>
                            clear H'
                            try clear c1
                            try clear c2
                            try clear p2
                            try clear q2
                            try clear hx2
                            try clear hf2
                            try clear c3
                            try clear c4
                            try clear c5
                            try clear p6
                            try clear c8
                            try clear c9
                            try clear c10
                            try clear c11
                            try clear c12
                            try clear c23
                            try clear c23b0
                            try clear c23b0z
                            try clear c24
                            try clear c24b0
                            try clear c24b0z
                            try clear c25
                            try clear p25
                            try clear q25
                            try clear hx25
                            try clear hf25
                            try clear c26
                            try clear hx26
                            try clear hf26
                            try clear c29
                            try clear c29b0
                            try clear c29b0z
                            try clear c29b1
                            try clear c29b1z
                            try clear c29b2
                            try clear c29b2z
                            try clear c34
                            try clear c35
                            try clear hcz10_0
                            try clear hcz10_1
                            try clear hcz18_0
                            try clear hcz18_1
                            try clear hcz21_0
                            try clear hcz21_1
                            try clear hcz40_0
                            try clear hcz40_1
                            try clear hfz10_0
                            try clear hfz10_1
                            try clear hfz18_0
                            try clear hfz18_1
                            try clear hfz21_0
                            try clear hfz21_1
                            try clear hfz40_0
                            try clear hfz40_1
                            try clear hx25_0
                            try clear hx25_1
                            try clear hx25_2
                            try clear hx26_0
                            try clear hx26_1
                            try clear hx26_2
                            try clear p2
                            try clear p25
                            try clear p6
                            try clear q2
                            try clear q25
                            obtain ⟨x12_4, x14_4, rfl, HA, HK4, HO_11, HO_12, BK274, HB⟩ := hrel
                            cases gk with
                            | zero => exact absurd HA.out (by simp [shelfmarklaw04_RecordKeeps.l1])
                            | succ k4 =>
                              have H := HA.out
                              clear HA
                              simp only [shelfmarklaw04_RecordKeeps.l1] at H
                              by_cases c43 : x14_4 < (x12_4.length : Int)
                              · rw [if_pos c43] at H
                                have c43b0 : decide (x14_4 < (x12_4.length : Int)) = true := decide_eq_true c43
                                clear c43
                                by_cases c44 : 0 ≤ x14_4
                                · rw [if_pos c44] at H
                                  have c44b0 : decide (0 ≤ x14_4) = true := decide_eq_true c44
                                  clear c44
                                  obtain ⟨y303, hy303⟩ : ∃ y_ : List (S41), y_ = (x12_4.set (x14_4 : Int).toNat (⟨9, 0, (⟨#[]⟩ : ByteArray)⟩ : S41)) := ⟨_, rfl⟩
                                  replace H : (shelfmarklaw04_RecordKeeps.l1 k4 l1 y296 y303 (wrap64 (x14_4 + 1))) = some r := by first | (rw [hy303]; with_reducible exact H) | (have H2_ := (Option.bind_some _ _).symm.trans H; rw [hy303]; with_reducible exact H2_) | (have H2_ := (Option.bind_some _ _).symm.trans H; with_reducible exact H2_) | with_reducible exact H | (rw [hy303]; exact H) | exact H
                                  have Ny303 := Aside0.mk hy303
                                  clear hy303
                                  have H' := Aside0.mk H
                                  clear H
                                  obtain ⟨Ao46, co46, eo46⟩ := Kd.R_slice HO_12.out
                                  subst eo46
                                  have p45 : 0 ≤ (x14_4 : Int) := of_decide_eq_true (by first | (with_reducible assumption) | assumption)
                                  have q45 : (x14_4 : Int) < ((x12_4.length : Int) : Int) := of_decide_eq_true (by first | (with_reducible assumption) | assumption)
                                  obtain ⟨go45, co45, eo45, gb45, gl45, cl45, HG45⟩ := Kd.R_form HO_12.out (by omega)
                                  (first | cases eo45 | (injection eo45 with ea_ en_ ec_; (first | subst ea_ | (injection ea_ with ea_; subst ea_)); subst ec_; clear en_))
                                  have GB45 := Aside0.mk gb45
                                  have GG45 := Aside0.mk HG45
                                  clear gb45 gl45 HG45
                                  obtain ⟨ce45, hcl45, hM45, hcc45, hfr45⟩ := Kd.R_elem HO_12.out z41 (x14_4 : Int) p45 q45
                                  obtain rfl := k41_openM hM45
                                  have hx45_0 : wr.cell? ⟨go45, (x14_4 : Int).toNat * 3, none⟩ = some (.int .i64 ((rd_T41 x12_4 x14_4).f0)) := hcc45 0 _ rfl
                                  have hx45_1 : wr.cell? ⟨go45, (x14_4 : Int).toNat * 3 + 1, none⟩ = some (.int .i64 ((rd_T41 x12_4 x14_4).f1)) := hcc45 1 _ rfl
                                  have hx45_2 : wr.cell? ⟨go45, (x14_4 : Int).toNat * 3 + 2, none⟩ = some (.string ((rd_T41 x12_4 x14_4).f2)) := hcc45 2 _ rfl
                                  have hf45_0 : wr.frozen? ⟨go45, (x14_4 : Int).toNat * 3, none⟩ = false := hfr45 0
                                  have hf45_1 : wr.frozen? ⟨go45, (x14_4 : Int).toNat * 3 + 1, none⟩ = false := hfr45 1
                                  have hf45_2 : wr.frozen? ⟨go45, (x14_4 : Int).toNat * 3 + 2, none⟩ = false := hfr45 2
                                  clear hcl45 hcc45 hfr45 hM45
                                  replace p45 := eq_true p45
                                  replace q45 := eq_true q45
                                  have HX47 := Aside0.mk (show Kd.R k41 41 wr w.heap.size (fun k_ => some k_ ≠ (.slice Ao41 y296.length co41 : Value).ownBlock) (.slice (some ⟨go45, 0, none⟩) x12_4.length co46) x12_4 from (by (with_reducible repeat (first | apply Kd.R_alloc | apply Kd.R_drewN | apply Kd.R_drew)); exact HO_12.out))
                                  obtain ⟨ce47, hcl47, hM47, hcc47, hfr47⟩ := Kd.R_elem HX47.out z41 (x14_4 : Int) (of_decide_eq_true (by first | (with_reducible assumption) | assumption)) (by have h_ : (x14_4 : Int) < ((x12_4.length : Int) : Int) := of_decide_eq_true (by first | (with_reducible assumption) | assumption); first | exact h_ | (have e_ := (Kd.R_reads' HO_12.out).1; omega) | simpa using h_)
                                  obtain rfl := k41_openM hM47
                                  have HP47 := Kd.R_seg HX47.out (x14_4 : Int) (of_decide_eq_true (by first | (with_reducible assumption) | assumption)) (by have h_ : (x14_4 : Int) < ((x12_4.length : Int) : Int) := of_decide_eq_true (by first | (with_reducible assumption) | assumption); first | exact h_ | (have e_ := (Kd.R_reads' HO_12.out).1; omega) | simpa using h_) (seg := [.int .i64 9, .int .i64 0, .string (⟨#[]⟩ : ByteArray)]) (j := 0) hcl47 hcc47 (show 3 ≤ 3 from by decide) (x' := (⟨9, 0, (⟨#[]⟩ : ByteArray)⟩ : S41)) (k41_mkM _ _ _ (⟨9, 0, (⟨#[]⟩ : ByteArray)⟩ : S41) ) (fun _ hk => hk)
                                  have hx47_0 := hcc47 0 _ rfl
                                  (try simp only [show (k41).sz = 3 from rfl, Nat.mul_one, Nat.add_zero] at hx47_0)
                                  have hf47_0 := hfr47 0
                                  (try simp only [show (k41).sz = 3 from rfl, Nat.mul_one, Nat.add_zero] at hf47_0)
                                  have hx47_1 := hcc47 1 _ rfl
                                  (try simp only [show (k41).sz = 3 from rfl, Nat.mul_one, Nat.add_zero] at hx47_1)
                                  have hf47_1 := hfr47 1
                                  (try simp only [show (k41).sz = 3 from rfl, Nat.mul_one, Nat.add_zero] at hf47_1)
                                  have hx47_2 := hcc47 2 _ rfl
                                  (try simp only [show (k41).sz = 3 from rfl, Nat.mul_one, Nat.add_zero] at hx47_2)
                                  have hf47_2 := hfr47 2
                                  (try simp only [show (k41).sz = 3 from rfl, Nat.mul_one, Nat.add_zero] at hf47_2)
                                  clear hcl47 hcc47 hfr47 hM47
                                  go_wp2_with (first | ((with_reducible refine gate_store (t := 41) (p := 80) rfl ?_); refine store_event (t := 41) (p := 80) (v := ?vo_w48) (w1 := (((wr.setCell ⟨go45, (x14_4 : Int).toNat * 3, none⟩ (.int .i64 9)).setCell ⟨go45, (x14_4 : Int).toNat * 3 + 1, none⟩ (.int .i64 0)).setCell ⟨go45, (x14_4 : Int).toNat * 3 + 2, none⟩ (.string (⟨#[]⟩ : ByteArray)))) ?hg ?ho ?hn ?hr ?_; (case ho => rfl); (case hg => rfl); (case hn => rfl); (case hr => first | (go_simp; done) | (go_simp; rfl)); intro w48 hw; have hg : wr.grownBy w48 (some go45) := (by rw [hw]; exact HP47.2); have hp_ : Kd.R k41 41 w48 w.heap.size (fun k_ => some k_ ≠ (.slice Ao41 y296.length co41 : Value).ownBlock) (.slice (some ⟨go45, 0, none⟩) x12_4.length co46) y303 := (by rw [hw, Ny303.out]; exact HP47.1); clear HP47; have n0_ := Aside0.mk (Kd.R_after (v := (.slice (some ⟨go45, 0, none⟩) x12_4.length co46)) (v1 := (.slice (some ⟨go45, 0, none⟩) x12_4.length co46)) (ok := (fun _ => True)) (by (with_reducible repeat (first | apply Kd.R_alloc | apply Kd.R_drewN | apply Kd.R_drew)); exact Kd.R_mono HO_11.out (fun _ hk => ⟨trivial, hk⟩)) hg (.inl rfl)); have n1_ := Aside0.mk (hp_); have n2_ := Aside0.mk (blk_grown (g := gb274) (o := .cells #[.int .i64 a0_0, .slice A0_1 l0_1.length c0_1] 24 (0, 0)) (by (with_reducible repeat (first | refine blk_drewN ?_ _ | refine blk_drew ?_ | refine blk_alloc ?_ _)); exact BK274.out) hg (Kd.R_ne HO_12.out BK274.out (by decide))); have n3_ := Aside0.mk ((by rw [hw]; exact below_set (below_set (below_set (HB.out) GB45.out) GB45.out) GB45.out : Below w.heap.size w w48)); clear HO_11; clear HO_12; clear BK274; clear HB; have HO_11 := n0_; have HO_12 := n1_; have BK274 := n2_; have HB := n3_; clear n0_ n1_ n2_ n3_; clear hg hw hp_))
                                  go_roundg k4
                                  case measure => have := HJ4.out; have := HK2.out; have := HJ27.out; have := HK4.out; omega
                                  case rel => exact ⟨(y303), (wrap64 (x14_4 + 1)), (by first | rfl | (simp; done) | (simp [*]; done) | (simp [ne_nil_bytes]; done) | (simp [eq_nil_bytes]; done)), H', ⟨by have := HJ4.out; have := HK2.out; have := HJ27.out; have := HK4.out; omega⟩, ⟨by (try simp only [hl5_2]); (with_reducible repeat (first | apply Kd.R_alloc | apply Kd.R_drewN | apply Kd.R_drew)); exact Kd.R_mono HO_11.out (fun _ hk => hk.2)⟩, ⟨by (try simp only [hl5_2]); (with_reducible repeat (first | apply Kd.R_alloc | apply Kd.R_drewN | apply Kd.R_drew)); exact HO_12.out⟩, ⟨by (try simp only [hl5_2]); (with_reducible repeat (first | refine blk_drewN ?_ _ | refine blk_drew ?_ | refine blk_alloc ?_ _)); exact BK274.out⟩, ⟨by repeat (first | (with_reducible first | exact HB.out | apply below_alloc | apply pw_below_drewN | apply below_drew1 | refine below_set ?_ GE274.out) | exact HB.out)⟩⟩
                                · rw [if_neg c44] at H
                                  exact absurd H (by simp)
                              · rw [if_neg c43] at H
                                have c43b0 : decide (x14_4 < (x12_4.length : Int)) = false := decide_eq_false c43
                                clear c43
                                replace H := Option.bind_eq_some_iff.mp H
                                obtain ⟨t304, A490, H⟩ := H
                                replace H : (some t304) = some r := H
                                have A49 := Aside0.mk A490
                                clear A490
                                obtain rfl := Option.some.inj H
                                obtain ⟨Ao50, co50, eo50⟩ := Kd.R_slice HO_12.out
                                subst eo50
                                go_wp2_with (first | ((with_reducible refine gate_callee (f := 14) rfl ?_); refine goesL_ (some 83) rfl rfl Tryd.func14 (by kernel_rfl) rfl #[.slice Ao41 y296.length co41, .slice A1 l1.length c1] rfl (by (try simp only [List.map_toArray, List.map_cons, List.map_nil]); first | done | rfl | (simp only [List.length_drop, List.length_take]; rfl)) ?_; (with_reducible refine (shelfmarkref03_Same.calls k4 _ _ y296 _ _ l1 t304 _ ?side1 ?side2 ?side3 ?side4 A49.out).mono ?_); (case side1 => repeat (first | exact (Kd.R_reads' HO_11.out).2.2 | (with_reducible refine Kd.C_alloc ?_ _) | (with_reducible refine Kd.C_drewN ?_ _) | (with_reducible refine Kd.C_drew ?_))); (case side2 => exact (Kd.R_reads' HO_11.out).2.1); (case side3 => repeat (first | exact (Kd.C_below HR1.out HB.out) | (with_reducible refine Kd.C_alloc ?_ _) | (with_reducible refine Kd.C_drewN ?_ _) | (with_reducible refine Kd.C_drew ?_))); (case side4 => exact HC1.out); rintro e w' ⟨rfl, ⟨nd, rfl⟩⟩; refine ⟨_, rfl, ?_⟩))
                                go_ret
                                exact ⟨by first | rfl | (simp [errW_none, errW_some] <;> rfl) | (simp [*, errW_none, errW_some] <;> rfl), by repeat (first | (with_reducible first | exact HB.out | apply below_alloc | apply pw_below_drewN | apply below_drew1 | refine below_set ?_ GE274.out) | exact HB.out)⟩
                        · rw [if_neg c35] at H
                          exact absurd H (by simp)
          · rw [if_neg c12] at H
            exact absurd H (by simp)
  · replace c4 := Bool.eq_false_iff.mpr c4
    subst c4
    have H1 : (some false) = some r := by rw [if_neg (show ¬ (false = true) by decide)] at H; exact H
    clear H
    have H := H1
    clear H1
    obtain rfl := Option.some.inj H
    go_enter Tryd.func5, Tryd.ntmps5
    go_wp2_with (first | ((with_reducible refine gate_dst (N := 2) rfl ?_); (try (refine gate_guard (by rfl) ?_; dsimp only)); refine box_event ?hg (N := 2) ?hd (cs := #[.int .i64 a0_0, .slice A0_1 l0_1.length c0_1]) (t := 24) ?hr ?_; (case hd => rfl); (case hg => rfl); (case hr => first | (go_simp; done) | (go_simp; rfl)); intro gb274 hg w51 hbox hb; have n0_ := Aside0.mk (below_step (by repeat (first | (with_reducible first | exact HB.out | apply below_alloc | apply pw_below_drewN | apply below_drew1) | exact HB.out)) hb); have n1_ := Aside0.mk (hbox); have n2_ := Aside0.mk ((by rw [hg]; exact (below_size (by repeat (first | (with_reducible first | exact HB.out | apply below_alloc | apply pw_below_drewN | apply below_drew1) | exact HB.out))) : w.heap.size ≤ gb274)); have n3_ := Aside0.mk ((by rw [hg]; exact (below_size (by repeat (first | (with_reducible first | exact HB.out | apply below_alloc | apply pw_below_drewN | apply below_drew1) | exact HB.out))) : w.heap.size ≤ gb274)); clear HB; have HB := n0_; have BK274 := n1_; have GW274 := n2_; have GE274 := n3_; clear n0_ n1_ n2_ n3_; clear hb hbox hg) | ((with_reducible refine gate_callee (f := 8) rfl ?_); refine goesL_ (some 15) rfl rfl Tryd.func8 (by kernel_rfl) rfl #[] rfl (by (try simp only [List.map_toArray, List.map_cons, List.map_nil]); first | done | rfl | (simp only [List.length_drop, List.length_take]; rfl)) ?_; (with_reducible refine (shelfmarklaw04_awake.calls k  false _ A3.out).mono ?_); rintro e w52 ⟨rfl, hb⟩; refine ⟨_, rfl, ?_⟩; have n0_ := Aside0.mk (blk_below (g := gb274) (o := .cells #[.int .i64 a0_0, .slice A0_1 l0_1.length c0_1] 24 (0, 0)) (by (with_reducible repeat (first | refine blk_drewN ?_ _ | refine blk_drew ?_ | refine blk_alloc ?_ _)); exact BK274.out) hb); have n1_ := Aside0.mk (below_step (by repeat (first | (with_reducible first | exact HB.out | apply below_alloc | apply pw_below_drewN | apply below_drew1 | refine below_set ?_ GE274.out) | exact HB.out)) hb); clear BK274; clear HB; have BK274 := n0_; have HB := n1_; clear n0_ n1_; (try clear hb); (try clear hb2); (try clear hk); (try clear hi)))
    go_ret
    exact ⟨by first | rfl | (simp [errW_none, errW_some] <;> rfl) | (simp [*, errW_none, errW_some] <;> rfl), by repeat (first | (with_reducible first | exact HB.out | apply below_alloc | apply pw_below_drewN | apply below_drew1 | refine below_set ?_ GE274.out) | exact HB.out)⟩

end Go.Proofs.YtieifhjjjlmkbaaDoor.PAll
