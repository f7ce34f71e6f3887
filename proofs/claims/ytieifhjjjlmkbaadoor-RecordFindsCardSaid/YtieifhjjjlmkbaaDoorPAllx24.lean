-- Written by a program of this session for this claim (mp.py, over the kit's print); Lean checks it.
import Derived.Test.YtieifhjjjlmkbaaDoorPAllx0
import Derived.Test.YtieifhjjjlmkbaaDoorPAllx2
import Derived.Test.YtieifhjjjlmkbaaDoorPAllx9
import Derived.Test.YtieifhjjjlmkbaaDoorPAllx10
import Derived.Test.YtieifhjjjlmkbaaDoorPAllx17
import Derived.Test.YtieifhjjjlmkbaaDoorPAllx21
namespace Go.Proofs.YtieifhjjjlmkbaaDoor.PAll
open Go.RowKit Go.Proofs.YtieifhjjjlmkbaaDoorW.PrintWords Go.Proofs.YtieifhjjjlmkbaaDoorW.PrintLast Go.Proofs.YtieifhjjjlmkbaaDoorW.PrintMore Go.Proofs.YtieifhjjjlmkbaaDoor.Fv Go.Proofs.YtieifhjjjlmkbaaDoor.Hl
attribute [local go_sem] max2_int min2_int max_two min_two max_three min_three max_four min_four str_gtr str_leq str_geq   -- for this text's walks alone
set_option linter.unusedVariables false
set_option linter.unusedSimpArgs false

attribute [local go_sem high] eqA43
/-! ### shelfmarkref04_Within: function 21 -/
def shelfmarkref04_Within.f (a0 : ByteArray) (a1_0 : ByteArray) (a1_1 : ByteArray) : Option (Bool) := if ((Op.bytesLess a0.toList a1_0.toList) = true) then (some false) else (if a1_1.toList = ([] : List UInt8) then (some true) else (some (Op.bytesLess a0.toList a1_1.toList)))
set_option maxHeartbeats 3000000 in
set_option maxRecDepth 100000 in
theorem shelfmarkref04_Within.calls (a0 : ByteArray) (a1_0 : ByteArray) (a1_1 : ByteArray) (r : Bool) (w : World) (h : shelfmarkref04_Within.f a0 a1_0 a1_1 = some r) :
    Calls Tryd.prog 21 #[.string a0, .agg #[.string a1_0, .string a1_1]] w fun e w' => e = .returned (.bool r) ∧ Below w.heap.size w w' := by
  have hu43 := Tryd.underlying43
  have HB := Aside0.mk (Below.refl w.heap.size w)
  have H : (if ((Op.bytesLess a0.toList a1_0.toList) = true) then (some false) else (if a1_1.toList = ([] : List UInt8) then (some true) else (some (Op.bytesLess a0.toList a1_1.toList)))) = some r := h
  clear h
  by_cases c3 : ((Op.bytesLess a0.toList a1_0.toList) = true)
  · rw [if_pos c3] at H
    have c3b0 : (Op.bytesLess a0.toList a1_0.toList) = true := c3
    clear c3
    obtain rfl := Option.some.inj H
    go_enter Tryd.func21, Tryd.ntmps21
    go_wp2_with (first | ((with_reducible refine gate_dst (N := 3) rfl ?_); refine box_event ?hg (N := 3) ?hd (cs := #[.string a1_0, .string a1_1]) (t := 43) ?hr ?_; (case hd => rfl); (case hg => rfl); (case hr => first | (go_simp; done) | (go_simp; rfl)); intro gb429 hg w4 hbox hb; have n0_ := Aside0.mk (below_step (by repeat (first | (with_reducible first | exact HB.out | apply below_alloc | apply pw_below_drewN | apply below_drew1) | exact HB.out)) hb); have n1_ := Aside0.mk (hbox); have n2_ := Aside0.mk ((by rw [hg]; exact (below_size (by repeat (first | (with_reducible first | exact HB.out | apply below_alloc | apply pw_below_drewN | apply below_drew1) | exact HB.out))) : w.heap.size ≤ gb429)); have n3_ := Aside0.mk ((by rw [hg]; exact (below_size (by repeat (first | (with_reducible first | exact HB.out | apply below_alloc | apply pw_below_drewN | apply below_drew1) | exact HB.out))) : w.heap.size ≤ gb429)); clear HB; have HB := n0_; have BK429 := n1_; have GW429 := n2_; have GE429 := n3_; clear n0_ n1_ n2_ n3_; clear hb hbox hg; have hcz5_0 : w4.cell? ⟨gb429, 0, none⟩ = some (.string a1_0) := (blk_cell BK429.out 0).trans rfl; have hcz5_1 : w4.cell? ⟨gb429, 1, none⟩ = some (.string a1_1) := (blk_cell BK429.out 1).trans rfl; have hfz5_0 := blk_frozen BK429.out 0; have hfz5_1 := blk_frozen BK429.out 1))
    go_ret
    exact ⟨by first | rfl | (simp [errW_none, errW_some] <;> rfl) | (simp [*, errW_none, errW_some] <;> rfl), by repeat (first | (with_reducible first | exact HB.out | apply below_alloc | apply pw_below_drewN | apply below_drew1 | refine below_set ?_ GE429.out) | exact HB.out)⟩
  · rw [if_neg c3] at H
    have c3b0 : (Op.bytesLess a0.toList a1_0.toList) = false := by simpa using c3
    clear c3
    by_cases c6 : a1_1.toList = ([] : List UInt8)
    · rw [if_pos c6] at H
      have c6b0 : (a1_1.toList == ([] : List UInt8)) = true := beq_iff_eq.mpr c6
      have c6b1 : (a1_1.toList != ([] : List UInt8)) = false := bne_eq_false_iff_eq.mpr c6
      clear c6
      obtain rfl := Option.some.inj H
      go_enter Tryd.func21, Tryd.ntmps21
      go_wp2_with (first | ((with_reducible refine gate_dst (N := 3) rfl ?_); refine box_event ?hg (N := 3) ?hd (cs := #[.string a1_0, .string a1_1]) (t := 43) ?hr ?_; (case hd => rfl); (case hg => rfl); (case hr => first | (go_simp; done) | (go_simp; rfl)); intro gb429 hg w7 hbox hb; have n0_ := Aside0.mk (below_step (by repeat (first | (with_reducible first | exact HB.out | apply below_alloc | apply pw_below_drewN | apply below_drew1) | exact HB.out)) hb); have n1_ := Aside0.mk (hbox); have n2_ := Aside0.mk ((by rw [hg]; exact (below_size (by repeat (first | (with_reducible first | exact HB.out | apply below_alloc | apply pw_below_drewN | apply below_drew1) | exact HB.out))) : w.heap.size ≤ gb429)); have n3_ := Aside0.mk ((by rw [hg]; exact (below_size (by repeat (first | (with_reducible first | exact HB.out | apply below_alloc | apply pw_below_drewN | apply below_drew1) | exact HB.out))) : w.heap.size ≤ gb429)); clear HB; have HB := n0_; have BK429 := n1_; have GW429 := n2_; have GE429 := n3_; clear n0_ n1_ n2_ n3_; clear hb hbox hg; have hcz8_0 : w7.cell? ⟨gb429, 0, none⟩ = some (.string a1_0) := (blk_cell BK429.out 0).trans rfl; have hcz8_1 : w7.cell? ⟨gb429, 1, none⟩ = some (.string a1_1) := (blk_cell BK429.out 1).trans rfl; have hfz8_0 := blk_frozen BK429.out 0; have hfz8_1 := blk_frozen BK429.out 1))
      go_ret
      exact ⟨by first | rfl | (simp [errW_none, errW_some] <;> rfl) | (simp [*, errW_none, errW_some] <;> rfl), by repeat (first | (with_reducible first | exact HB.out | apply below_alloc | apply pw_below_drewN | apply below_drew1 | refine below_set ?_ GE429.out) | exact HB.out)⟩
    · rw [if_neg c6] at H
      have c6b0 : (a1_1.toList == ([] : List UInt8)) = false := beq_eq_false_iff_ne.mpr c6
      have c6b1 : (a1_1.toList != ([] : List UInt8)) = true := bne_iff_ne.mpr c6
      obtain rfl := Option.some.inj H
      go_enter Tryd.func21, Tryd.ntmps21
      go_wp2_with (first | ((with_reducible refine gate_dst (N := 3) rfl ?_); refine box_event ?hg (N := 3) ?hd (cs := #[.string a1_0, .string a1_1]) (t := 43) ?hr ?_; (case hd => rfl); (case hg => rfl); (case hr => first | (go_simp; done) | (go_simp; rfl)); intro gb429 hg w9 hbox hb; have n0_ := Aside0.mk (below_step (by repeat (first | (with_reducible first | exact HB.out | apply below_alloc | apply pw_below_drewN | apply below_drew1) | exact HB.out)) hb); have n1_ := Aside0.mk (hbox); have n2_ := Aside0.mk ((by rw [hg]; exact (below_size (by repeat (first | (with_reducible first | exact HB.out | apply below_alloc | apply pw_below_drewN | apply below_drew1) | exact HB.out))) : w.heap.size ≤ gb429)); have n3_ := Aside0.mk ((by rw [hg]; exact (below_size (by repeat (first | (with_reducible first | exact HB.out | apply below_alloc | apply pw_below_drewN | apply below_drew1) | exact HB.out))) : w.heap.size ≤ gb429)); clear HB; have HB := n0_; have BK429 := n1_; have GW429 := n2_; have GE429 := n3_; clear n0_ n1_ n2_ n3_; clear hb hbox hg; have hcz10_0 : w9.cell? ⟨gb429, 0, none⟩ = some (.string a1_0) := (blk_cell BK429.out 0).trans rfl; have hcz10_1 : w9.cell? ⟨gb429, 1, none⟩ = some (.string a1_1) := (blk_cell BK429.out 1).trans rfl; have hfz10_0 := blk_frozen BK429.out 0; have hfz10_1 := blk_frozen BK429.out 1))
      go_ret
      exact ⟨by first | rfl | (simp [errW_none, errW_some] <;> rfl) | (simp [*, errW_none, errW_some] <;> rfl), by repeat (first | (with_reducible first | exact HB.out | apply below_alloc | apply pw_below_drewN | apply below_drew1 | refine below_set ?_ GE429.out) | exact HB.out)⟩

/-! ### shelfmarklaw04_RecordFinds: function 7 -/
mutual
def shelfmarklaw04_RecordFinds.j0 : Nat → Int → Int → List (S41) → List (S41) → List (S41) → ByteArray → Bool → Option (Bool)
  | 0, _, _, _, _, _, _, _ => none
  | k + 1, x0, x1, x2, x3, x4, x5, x32 => if x32 = true then (some true) else ((record_Entry.f k x1 x2 x5).bind fun bt433 => ((record_Area.f k x0 x3 x4).bind fun bt435 => (if bt433.2 = 0 then (shelfmarklaw04_RecordFinds.j1 k x0 x1 x2 x3 x4 bt433.1 bt435.2.2 (bt435.2.2 != 0) bt435.1 bt435.2.1) else (shelfmarklaw04_RecordFinds.j1 k x0 x1 x2 x3 x4 bt433.1 bt435.2.2 true bt435.1 bt435.2.1))))
def shelfmarklaw04_RecordFinds.j1 : Nat → Int → Int → List (S41) → List (S41) → List (S41) → ByteArray → Int → Bool → ByteArray → ByteArray → Option (Bool)
  | 0, _, _, _, _, _, _, _, _, _, _ => none
  | k + 1, x0, x1, x2, x3, x4, x13, x16, x52, x439000, x439001 => if x52 = true then (if x13.toList = ([] : List UInt8) then (some true) else (if x16 = 0 then (some true) else (some (x439000.toList == ([] : List UInt8) && (x439001.toList == ([] : List UInt8)))))) else ((shelfmarkref04_Within.f x13 x439000 x439001).bind fun t439 => (if x0 = x1 then ((record_Lies.f k x2 x3 x4).bind fun t440 => (some (t439 == t440))) else (some (t439 == false))))
end
def shelfmarklaw04_RecordFinds.f (k : Nat) (a0 : Int) (a1 : Int) (l2 : List (S41)) (l3 : List (S41)) (l4 : List (S41)) (a5 : ByteArray) : Option (Bool) := (shelfmarklaw04_awake.f k).bind fun t430 => (if t430 = true then ((shelfmarklaw04_light.f k l2 l3).bind fun t431 => (if t431 = true then ((shelfmarklaw04_light.f k l4 ([] : List (S41))).bind fun t432 => (if t432 = true then (shelfmarklaw04_RecordFinds.j0 k a0 a1 l2 l3 l4 a5 (decide ((a5.size : Int) > 1000))) else (shelfmarklaw04_RecordFinds.j0 k a0 a1 l2 l3 l4 a5 true))) else (shelfmarklaw04_RecordFinds.j0 k a0 a1 l2 l3 l4 a5 true))) else (some false))
theorem shelfmarklaw04_RecordFinds.mono_l : ∀ k, (∀ y0 y1 y2 y3 y4 y5 y6, LeO (shelfmarklaw04_RecordFinds.j0 k y0 y1 y2 y3 y4 y5 y6) (shelfmarklaw04_RecordFinds.j0 (k + 1) y0 y1 y2 y3 y4 y5 y6)) ∧ (∀ y0 y1 y2 y3 y4 y5 y6 y7 y8 y9, LeO (shelfmarklaw04_RecordFinds.j1 k y0 y1 y2 y3 y4 y5 y6 y7 y8 y9) (shelfmarklaw04_RecordFinds.j1 (k + 1) y0 y1 y2 y3 y4 y5 y6 y7 y8 y9))
  | 0 => ⟨fun _ _ _ _ _ _ _ r h => by simp [shelfmarklaw04_RecordFinds.j0] at h, fun _ _ _ _ _ _ _ _ _ _ r h => by simp [shelfmarklaw04_RecordFinds.j1] at h⟩
  | k + 1 => by
    obtain ⟨ih0, ih1⟩ := shelfmarklaw04_RecordFinds.mono_l k
    refine ⟨?_, ?_⟩
    · intro y0 y1 y2 y3 y4 y5 y6
      unfold shelfmarklaw04_RecordFinds.j0
      repeat' first
      | (with_reducible exact ih0 _ _ _ _ _ _ _)
      | (with_reducible exact ih1 _ _ _ _ _ _ _ _ _ _)
      | (with_reducible exact record_Area.mono _ _ _ _)
      | (with_reducible exact record_Entry.mono _ _ _ _)
      | (with_reducible exact record_Lies.mono _ _ _ _)
      | (with_reducible exact shelfmarklaw04_awake.mono _)
      | (with_reducible exact shelfmarklaw04_light.mono _ _ _)
      | (with_reducible exact LeO.refl _)
      | (with_reducible exact LeO.none _)
      | (with_reducible refine LeO.ite ?_ ?_)
      | (with_reducible refine LeO.bind ?_ (fun _ => ?_))
      | exact ih0 _ _ _ _ _ _ _
      | exact ih1 _ _ _ _ _ _ _ _ _ _
      | exact record_Area.mono _ _ _ _
      | exact record_Entry.mono _ _ _ _
      | exact record_Lies.mono _ _ _ _
      | exact shelfmarklaw04_awake.mono _
      | exact shelfmarklaw04_light.mono _ _ _
      | exact LeO.none _
      | refine LeO.ite ?_ ?_
      | refine LeO.bind ?_ (fun _ => ?_)
    · intro y0 y1 y2 y3 y4 y5 y6 y7 y8 y9
      unfold shelfmarklaw04_RecordFinds.j1
      repeat' first
      | (with_reducible exact ih0 _ _ _ _ _ _ _)
      | (with_reducible exact ih1 _ _ _ _ _ _ _ _ _ _)
      | (with_reducible exact record_Area.mono _ _ _ _)
      | (with_reducible exact record_Entry.mono _ _ _ _)
      | (with_reducible exact record_Lies.mono _ _ _ _)
      | (with_reducible exact shelfmarklaw04_awake.mono _)
      | (with_reducible exact shelfmarklaw04_light.mono _ _ _)
      | (with_reducible exact LeO.refl _)
      | (with_reducible exact LeO.none _)
      | (with_reducible refine LeO.ite ?_ ?_)
      | (with_reducible refine LeO.bind ?_ (fun _ => ?_))
      | exact ih0 _ _ _ _ _ _ _
      | exact ih1 _ _ _ _ _ _ _ _ _ _
      | exact record_Area.mono _ _ _ _
      | exact record_Entry.mono _ _ _ _
      | exact record_Lies.mono _ _ _ _
      | exact shelfmarklaw04_awake.mono _
      | exact shelfmarklaw04_light.mono _ _ _
      | exact LeO.none _
      | refine LeO.ite ?_ ?_
      | refine LeO.bind ?_ (fun _ => ?_)
theorem shelfmarklaw04_RecordFinds.mono : ∀ a0 a1 a2 a3 a4 a5 k, LeO (shelfmarklaw04_RecordFinds.f k a0 a1 a2 a3 a4 a5) (shelfmarklaw04_RecordFinds.f (k + 1) a0 a1 a2 a3 a4 a5) := by
  intro a0 a1 a2 a3 a4 a5 k
  obtain ⟨ih0, ih1⟩ := shelfmarklaw04_RecordFinds.mono_l k
  unfold shelfmarklaw04_RecordFinds.f
  repeat' first
      | (with_reducible exact ih0 _ _ _ _ _ _ _)
      | (with_reducible exact ih1 _ _ _ _ _ _ _ _ _ _)
      | (with_reducible exact record_Area.mono _ _ _ _)
      | (with_reducible exact record_Entry.mono _ _ _ _)
      | (with_reducible exact record_Lies.mono _ _ _ _)
      | (with_reducible exact shelfmarklaw04_awake.mono _)
      | (with_reducible exact shelfmarklaw04_light.mono _ _ _)
      | (with_reducible exact LeO.refl _)
      | (with_reducible exact LeO.none _)
      | (with_reducible refine LeO.ite ?_ ?_)
      | (with_reducible refine LeO.bind ?_ (fun _ => ?_))
      | exact ih0 _ _ _ _ _ _ _
      | exact ih1 _ _ _ _ _ _ _ _ _ _
      | exact record_Area.mono _ _ _ _
      | exact record_Entry.mono _ _ _ _
      | exact record_Lies.mono _ _ _ _
      | exact shelfmarklaw04_awake.mono _
      | exact shelfmarklaw04_light.mono _ _ _
      | exact LeO.none _
      | refine LeO.ite ?_ ?_
      | refine LeO.bind ?_ (fun _ => ?_)
set_option maxHeartbeats 3000000 in
set_option maxRecDepth 100000 in
theorem shelfmarklaw04_RecordFinds.calls (k : Nat) (a0 : Int) (a1 : Int) (A2 : Option Addr) (c2 : Nat) (l2 : List (S41)) (A3 : Option Addr) (c3 : Nat) (l3 : List (S41)) (A4 : Option Addr) (c4 : Nat) (l4 : List (S41)) (a5 : ByteArray) (r : Bool) (w : World) (hr2 : Kd.C k41 w A2 l2.length l2) (hc2 : l2.length ≤ c2) (hr3 : Kd.C k41 w A3 l3.length l3) (hc3 : l3.length ≤ c3) (hr4 : Kd.C k41 w A4 l4.length l4) (hc4 : l4.length ≤ c4) (h : shelfmarklaw04_RecordFinds.f k a0 a1 l2 l3 l4 a5 = some r) :
    Calls Tryd.prog 7 #[.int .i64 a0, .int .i64 a1, .slice A2 l2.length c2, .slice A3 l3.length c3, .slice A4 l4.length c4, .string a5] w fun e w' => e = .returned (.bool r) ∧ Below w.heap.size w w' := by
  have hu43 := Tryd.underlying43
  have HR2 := Aside0.mk hr2
  have HC2 := Aside0.mk hc2
  clear hr2 hc2
  have HR3 := Aside0.mk hr3
  have HC3 := Aside0.mk hc3
  clear hr3 hc3
  have HR4 := Aside0.mk hr4
  have HC4 := Aside0.mk hc4
  clear hr4 hc4
  have HB := Aside0.mk (Below.refl w.heap.size w)
  have H : ((shelfmarklaw04_awake.f k).bind fun t430 => (if t430 = true then ((shelfmarklaw04_light.f k l2 l3).bind fun t431 => (if t431 = true then ((shelfmarklaw04_light.f k l4 ([] : List (S41))).bind fun t432 => (if t432 = true then (shelfmarklaw04_RecordFinds.j0 k a0 a1 l2 l3 l4 a5 (decide ((a5.size : Int) > 1000))) else (shelfmarklaw04_RecordFinds.j0 k a0 a1 l2 l3 l4 a5 true))) else (shelfmarklaw04_RecordFinds.j0 k a0 a1 l2 l3 l4 a5 true))) else (some false))) = some r := h
  clear h
  replace H := Option.bind_eq_some_iff.mp H
  obtain ⟨t430, A70, H⟩ := H
  replace H : (if t430 = true then ((shelfmarklaw04_light.f k l2 l3).bind fun t431 => (if t431 = true then ((shelfmarklaw04_light.f k l4 ([] : List (S41))).bind fun t432 => (if t432 = true then (shelfmarklaw04_RecordFinds.j0 k a0 a1 l2 l3 l4 a5 (decide ((a5.size : Int) > 1000))) else (shelfmarklaw04_RecordFinds.j0 k a0 a1 l2 l3 l4 a5 true))) else (shelfmarklaw04_RecordFinds.j0 k a0 a1 l2 l3 l4 a5 true))) else (some false)) = some r := H
  have A7 := Aside0.mk A70
  clear A70
  by_cases c8 : t430 = true
  · subst c8
    have H1 : ((shelfmarklaw04_light.f k l2 l3).bind fun t431 => (if t431 = true then ((shelfmarklaw04_light.f k l4 ([] : List (S41))).bind fun t432 => (if t432 = true then (shelfmarklaw04_RecordFinds.j0 k a0 a1 l2 l3 l4 a5 (decide ((a5.size : Int) > 1000))) else (shelfmarklaw04_RecordFinds.j0 k a0 a1 l2 l3 l4 a5 true))) else (shelfmarklaw04_RecordFinds.j0 k a0 a1 l2 l3 l4 a5 true))) = some r := by rw [if_pos rfl] at H; exact H
    clear H
    have H := H1
    clear H1
    have HC9 := Aside0.mk H
    clear H
    go_enter Tryd.func7, Tryd.ntmps7
    go_upto_region 3 with (first | ((with_reducible refine gate_callee (f := 8) rfl ?_); refine goesL_ (some 17) rfl rfl Tryd.func8 (by kernel_rfl) rfl #[] rfl (by (try simp only [List.map_toArray, List.map_cons, List.map_nil]); first | done | rfl | (simp only [List.length_drop, List.length_take]; rfl)) ?_; (with_reducible refine (shelfmarklaw04_awake.calls k  true _ A7.out).mono ?_); rintro e w10 ⟨rfl, hb⟩; refine ⟨_, rfl, ?_⟩; have n0_ := Aside0.mk (below_step (by repeat (first | (with_reducible first | exact HB.out | apply below_alloc | apply pw_below_drewN | apply below_drew1) | exact HB.out)) hb); clear HB; have HB := n0_; clear n0_; (try clear hb); (try clear hb2); (try clear hk); (try clear hi)))
    (try simp only [Act.put, List.setIfInBounds_toArray, List.set_cons_zero, List.set_cons_succ])
    go_cut [32] (fun v32 wc => ∃ (kq : Nat) (x32_8 : Bool), v32 = .bool x32_8 ∧ Aside0 (shelfmarklaw04_RecordFinds.j0 kq a0 a1 l2 l3 l4 a5 x32_8 = some r) ∧ Aside0 (kq ≤ k) ∧ Aside0 (Below w.heap.size w wc))
    case first =>
      have H := HC9.out
      clear HC9
      replace H := Option.bind_eq_some_iff.mp H
      obtain ⟨t431, A110, H⟩ := H
      replace H : (if t431 = true then ((shelfmarklaw04_light.f k l4 ([] : List (S41))).bind fun t432 => (if t432 = true then (shelfmarklaw04_RecordFinds.j0 k a0 a1 l2 l3 l4 a5 (decide ((a5.size : Int) > 1000))) else (shelfmarklaw04_RecordFinds.j0 k a0 a1 l2 l3 l4 a5 true))) else (shelfmarklaw04_RecordFinds.j0 k a0 a1 l2 l3 l4 a5 true)) = some r := H
      have A11 := Aside0.mk A110
      clear A110
      by_cases c12 : t431 = true
      · subst c12
        have H1 : ((shelfmarklaw04_light.f k l4 ([] : List (S41))).bind fun t432 => (if t432 = true then (shelfmarklaw04_RecordFinds.j0 k a0 a1 l2 l3 l4 a5 (decide ((a5.size : Int) > 1000))) else (shelfmarklaw04_RecordFinds.j0 k a0 a1 l2 l3 l4 a5 true))) = some r := by rw [if_pos rfl] at H; exact H
        clear H
        have H := H1
        clear H1
        replace H := Option.bind_eq_some_iff.mp H
        obtain ⟨t432, A130, H⟩ := H
        replace H : (if t432 = true then (shelfmarklaw04_RecordFinds.j0 k a0 a1 l2 l3 l4 a5 (decide ((a5.size : Int) > 1000))) else (shelfmarklaw04_RecordFinds.j0 k a0 a1 l2 l3 l4 a5 true)) = some r := H
        have A13 := Aside0.mk A130
        clear A130
        by_cases c14 : t432 = true
        · subst c14
          have H1 : (shelfmarklaw04_RecordFinds.j0 k a0 a1 l2 l3 l4 a5 (decide ((a5.size : Int) > 1000))) = some r := by rw [if_pos rfl] at H; exact H
          clear H
          have H := H1
          clear H1
          have H' := Aside0.mk H
          clear H
          go_wp2_with (first | ((with_reducible refine gate_callee (f := 9) rfl ?_); refine goesL_ (some 21) rfl rfl Tryd.func9 (by kernel_rfl) rfl #[.slice A2 l2.length c2, .slice A3 l3.length c3] rfl (by (try simp only [List.map_toArray, List.map_cons, List.map_nil]); first | done | rfl | (simp only [List.length_drop, List.length_take]; rfl)) ?_; (with_reducible refine (shelfmarklaw04_light.calls k _ _ l2 _ _ l3 true _ ?side1 ?side2 ?side3 ?side4 A11.out).mono ?_); (case side1 => repeat (first | exact (Kd.C_below HR2.out HB.out) | (with_reducible refine Kd.C_alloc ?_ _) | (with_reducible refine Kd.C_drewN ?_ _) | (with_reducible refine Kd.C_drew ?_))); (case side2 => exact HC2.out); (case side3 => repeat (first | exact (Kd.C_below HR3.out HB.out) | (with_reducible refine Kd.C_alloc ?_ _) | (with_reducible refine Kd.C_drewN ?_ _) | (with_reducible refine Kd.C_drew ?_))); (case side4 => exact HC3.out); rintro e w' ⟨rfl, ⟨nd, rfl⟩⟩; refine ⟨_, rfl, ?_⟩) | (go_at_call 9; (refine (shelfmarklaw04_light.calls k _ _ l4 _ _ ([] : List (S41)) true _ ?side1 ?side2 ?side3 ?side4 A13.out).mono ?_); (case side1 => repeat (first | exact (Kd.C_below HR4.out (by repeat (first | (with_reducible first | exact HB.out | apply below_alloc | apply pw_below_drewN | apply below_drew1) | exact HB.out))) | (with_reducible refine Kd.C_alloc ?_ _) | (with_reducible refine Kd.C_drewN ?_ _) | (with_reducible refine Kd.C_drew ?_))); (case side2 => exact HC4.out); (case side3 => exact Kd.C_nil _ _); (case side4 => exact Nat.le_refl _); rintro e w' ⟨rfl, ⟨nd, rfl⟩⟩))
          go_meet
          case rel => exact ⟨_, (decide ((a5.size : Int) > 1000)), (by first | rfl | (simp; done) | (simp [*]; done) | (simp [ne_nil_bytes]; done) | (simp [eq_nil_bytes]; done)), H', ⟨by first | omega | exact Nat.le_refl _⟩, ⟨by repeat (first | (with_reducible first | exact HB.out | apply below_alloc | apply pw_below_drewN | apply below_drew1) | exact HB.out)⟩⟩
        · replace c14 := Bool.eq_false_iff.mpr c14
          subst c14
          have H1 : (shelfmarklaw04_RecordFinds.j0 k a0 a1 l2 l3 l4 a5 true) = some r := by rw [if_neg (show ¬ (false = true) by decide)] at H; exact H
          clear H
          have H := H1
          clear H1
          have H' := Aside0.mk H
          clear H
          go_wp2_with (first | ((with_reducible refine gate_callee (f := 9) rfl ?_); refine goesL_ (some 21) rfl rfl Tryd.func9 (by kernel_rfl) rfl #[.slice A2 l2.length c2, .slice A3 l3.length c3] rfl (by (try simp only [List.map_toArray, List.map_cons, List.map_nil]); first | done | rfl | (simp only [List.length_drop, List.length_take]; rfl)) ?_; (with_reducible refine (shelfmarklaw04_light.calls k _ _ l2 _ _ l3 true _ ?side1 ?side2 ?side3 ?side4 A11.out).mono ?_); (case side1 => repeat (first | exact (Kd.C_below HR2.out HB.out) | (with_reducible refine Kd.C_alloc ?_ _) | (with_reducible refine Kd.C_drewN ?_ _) | (with_reducible refine Kd.C_drew ?_))); (case side2 => exact HC2.out); (case side3 => repeat (first | exact (Kd.C_below HR3.out HB.out) | (with_reducible refine Kd.C_alloc ?_ _) | (with_reducible refine Kd.C_drewN ?_ _) | (with_reducible refine Kd.C_drew ?_))); (case side4 => exact HC3.out); rintro e w' ⟨rfl, ⟨nd, rfl⟩⟩; refine ⟨_, rfl, ?_⟩) | (go_at_call 9; (refine (shelfmarklaw04_light.calls k _ _ l4 _ _ ([] : List (S41)) false _ ?side1 ?side2 ?side3 ?side4 A13.out).mono ?_); (case side1 => repeat (first | exact (Kd.C_below HR4.out (by repeat (first | (with_reducible first | exact HB.out | apply below_alloc | apply pw_below_drewN | apply below_drew1) | exact HB.out))) | (with_reducible refine Kd.C_alloc ?_ _) | (with_reducible refine Kd.C_drewN ?_ _) | (with_reducible refine Kd.C_drew ?_))); (case side2 => exact HC4.out); (case side3 => exact Kd.C_nil _ _); (case side4 => exact Nat.le_refl _); rintro e w' ⟨rfl, ⟨nd, rfl⟩⟩))
          go_meet
          case rel => exact ⟨_, (true), (by first | rfl | (simp; done) | (simp [*]; done) | (simp [ne_nil_bytes]; done) | (simp [eq_nil_bytes]; done)), H', ⟨by first | omega | exact Nat.le_refl _⟩, ⟨by repeat (first | (with_reducible first | exact HB.out | apply below_alloc | apply pw_below_drewN | apply below_drew1) | exact HB.out)⟩⟩
      · replace c12 := Bool.eq_false_iff.mpr c12
        subst c12
        have H1 : (shelfmarklaw04_RecordFinds.j0 k a0 a1 l2 l3 l4 a5 true) = some r := by rw [if_neg (show ¬ (false = true) by decide)] at H; exact H
        clear H
        have H := H1
        clear H1
        have H' := Aside0.mk H
        clear H
        go_wp2_with (first | ((with_reducible refine gate_callee (f := 9) rfl ?_); refine goesL_ (some 21) rfl rfl Tryd.func9 (by kernel_rfl) rfl #[.slice A2 l2.length c2, .slice A3 l3.length c3] rfl (by (try simp only [List.map_toArray, List.map_cons, List.map_nil]); first | done | rfl | (simp only [List.length_drop, List.length_take]; rfl)) ?_; (with_reducible refine (shelfmarklaw04_light.calls k _ _ l2 _ _ l3 false _ ?side1 ?side2 ?side3 ?side4 A11.out).mono ?_); (case side1 => repeat (first | exact (Kd.C_below HR2.out HB.out) | (with_reducible refine Kd.C_alloc ?_ _) | (with_reducible refine Kd.C_drewN ?_ _) | (with_reducible refine Kd.C_drew ?_))); (case side2 => exact HC2.out); (case side3 => repeat (first | exact (Kd.C_below HR3.out HB.out) | (with_reducible refine Kd.C_alloc ?_ _) | (with_reducible refine Kd.C_drewN ?_ _) | (with_reducible refine Kd.C_drew ?_))); (case side4 => exact HC3.out); rintro e w' ⟨rfl, ⟨nd, rfl⟩⟩; refine ⟨_, rfl, ?_⟩))
        go_meet
        case rel => exact ⟨_, (true), (by first | rfl | (simp; done) | (simp [*]; done) | (simp [ne_nil_bytes]; done) | (simp [eq_nil_bytes]; done)), H', ⟨by first | omega | exact Nat.le_refl _⟩, ⟨by repeat (first | (with_reducible first | exact HB.out | apply below_alloc | apply pw_below_drewN | apply below_drew1) | exact HB.out)⟩⟩
    case rest =>
      clear HC9
      try clear c1
      try clear c2
      try clear p2
      try clear c3
      try clear c4
      try clear c7
      try clear c8
      try clear c9
      try clear c12
      try clear c14
      obtain ⟨kq, x32_8, rfl, HA, HJ8, HB⟩ := hcut
      cases kq with
      | zero => exact absurd HA.out (by simp [shelfmarklaw04_RecordFinds.j0])
      | succ kj8 =>
        have H := HA.out
        clear HA
        simp only [shelfmarklaw04_RecordFinds.j0] at H
        by_cases c15 : x32_8 = true
        · subst c15
          have H1 : (some true) = some r := by rw [if_pos rfl] at H; exact H
          clear H
          have H := H1
          clear H1
          obtain rfl := Option.some.inj H
          go_wp2
          go_ret
          exact ⟨by first | rfl | (simp [errW_none, errW_some] <;> rfl) | (simp [*, errW_none, errW_some] <;> rfl), by repeat (first | (with_reducible first | exact HB.out | apply below_alloc | apply pw_below_drewN | apply below_drew1) | exact HB.out)⟩
        · replace c15 := Bool.eq_false_iff.mpr c15
          subst c15
          have H1 : ((record_Entry.f kj8 a1 l2 a5).bind fun bt433 => ((record_Area.f kj8 a0 l3 l4).bind fun bt435 => (if bt433.2 = 0 then (shelfmarklaw04_RecordFinds.j1 kj8 a0 a1 l2 l3 l4 bt433.1 bt435.2.2 (bt435.2.2 != 0) bt435.1 bt435.2.1) else (shelfmarklaw04_RecordFinds.j1 kj8 a0 a1 l2 l3 l4 bt433.1 bt435.2.2 true bt435.1 bt435.2.1)))) = some r := by rw [if_neg (show ¬ (false = true) by decide)] at H; exact H
          clear H
          have H := H1
          clear H1
          replace H := Option.bind_eq_some_iff.mp H
          obtain ⟨⟨t433, t434⟩, A160, H⟩ := H
          replace H : ((record_Area.f kj8 a0 l3 l4).bind fun bt435 => (if t434 = 0 then (shelfmarklaw04_RecordFinds.j1 kj8 a0 a1 l2 l3 l4 t433 bt435.2.2 (bt435.2.2 != 0) bt435.1 bt435.2.1) else (shelfmarklaw04_RecordFinds.j1 kj8 a0 a1 l2 l3 l4 t433 bt435.2.2 true bt435.1 bt435.2.1))) = some r := H
          have A16 := Aside0.mk A160
          clear A160
          replace H := Option.bind_eq_some_iff.mp H
          obtain ⟨⟨t435, t436, t437⟩, A170, H⟩ := H
          replace H : (if t434 = 0 then (shelfmarklaw04_RecordFinds.j1 kj8 a0 a1 l2 l3 l4 t433 t437 (t437 != 0) t435 t436) else (shelfmarklaw04_RecordFinds.j1 kj8 a0 a1 l2 l3 l4 t433 t437 true t435 t436)) = some r := H
          have A17 := Aside0.mk A170
          clear A170
          have HC18 := Aside0.mk H
          clear H
          go_upto_region 7 with (first | ((with_reducible refine gate_callee (f := 15) rfl ?_); refine goesL_ (some 37) rfl rfl Tryd.func15 (by kernel_rfl) rfl #[.int .i64 a1, .slice A2 l2.length c2, .string a5] rfl (by (try simp only [List.map_toArray, List.map_cons, List.map_nil]); first | done | rfl | (simp only [List.length_drop, List.length_take]; rfl)) ?_; (with_reducible refine (record_Entry.calls kj8 a1 _ _ l2 a5 t433 t434 _ ?side1 ?side2 A16.out).mono ?_); (case side1 => repeat (first | exact (Kd.C_below HR2.out HB.out) | (with_reducible refine Kd.C_alloc ?_ _) | (with_reducible refine Kd.C_drewN ?_ _) | (with_reducible refine Kd.C_drew ?_))); (case side2 => exact HC2.out); rintro e w19 ⟨rfl, hb⟩; refine ⟨_, rfl, ?_⟩; have n0_ := Aside0.mk (below_step (by repeat (first | (with_reducible first | exact HB.out | apply below_alloc | apply pw_below_drewN | apply below_drew1) | exact HB.out)) hb); clear HB; have HB := n0_; clear n0_; (try clear hb); (try clear hb2); (try clear hk); (try clear hi)) | ((with_reducible refine gate_callee (f := 17) rfl ?_); refine goesL_ (some 44) rfl rfl Tryd.func17 (by kernel_rfl) rfl #[.int .i64 a0, .slice A3 l3.length c3, .slice A4 l4.length c4] rfl (by (try simp only [List.map_toArray, List.map_cons, List.map_nil]); first | done | rfl | (simp only [List.length_drop, List.length_take]; rfl)) ?_; (with_reducible refine (record_Area.calls kj8 a0 _ _ l3 _ _ l4 t435 t436 t437 _ ?side1 ?side2 ?side3 ?side4 A17.out).mono ?_); (case side1 => repeat (first | exact (Kd.C_below HR3.out HB.out) | (with_reducible refine Kd.C_alloc ?_ _) | (with_reducible refine Kd.C_drewN ?_ _) | (with_reducible refine Kd.C_drew ?_))); (case side2 => exact HC3.out); (case side3 => repeat (first | exact (Kd.C_below HR4.out HB.out) | (with_reducible refine Kd.C_alloc ?_ _) | (with_reducible refine Kd.C_drewN ?_ _) | (with_reducible refine Kd.C_drew ?_))); (case side4 => exact HC4.out); rintro e w20 ⟨rfl, hb⟩; refine ⟨_, rfl, ?_⟩; have n0_ := Aside0.mk (below_step (by repeat (first | (with_reducible first | exact HB.out | apply below_alloc | apply pw_below_drewN | apply below_drew1) | exact HB.out)) hb); clear HB; have HB := n0_; clear n0_; (try clear hb); (try clear hb2); (try clear hk); (try clear hi)) | ((with_reducible refine gate_dst (N := 15) rfl ?_); (try (refine gate_guard (by rfl) ?_; dsimp only)); refine box_event ?hg (N := 15) ?hd (cs := #[.string (⟨#[]⟩ : ByteArray), .string (⟨#[]⟩ : ByteArray)]) (t := 43) ?hr ?_; (case hd => rfl); (case hg => rfl); (case hr => first | (go_simp; done) | (go_simp; rfl)); intro gb438 hg w21 hbox hb; have n0_ := Aside0.mk (below_step (by repeat (first | (with_reducible first | exact HB.out | apply below_alloc | apply pw_below_drewN | apply below_drew1) | exact HB.out)) hb); have n1_ := Aside0.mk (hbox); have n2_ := Aside0.mk ((by rw [hg]; exact (below_size (by repeat (first | (with_reducible first | exact HB.out | apply below_alloc | apply pw_below_drewN | apply below_drew1) | exact HB.out))) : w.heap.size ≤ gb438)); have n3_ := Aside0.mk ((by rw [hg]; exact (below_size (by repeat (first | (with_reducible first | exact HB.out | apply below_alloc | apply pw_below_drewN | apply below_drew1) | exact HB.out))) : w.heap.size ≤ gb438)); clear HB; have HB := n0_; have BK438 := n1_; have GW438 := n2_; have GE438 := n3_; clear n0_ n1_ n2_ n3_; clear hb hbox hg; have hcz22_0 : w21.cell? ⟨gb438, 0, none⟩ = some (.string (⟨#[]⟩ : ByteArray)) := (blk_cell BK438.out 0).trans rfl; have hcz22_1 : w21.cell? ⟨gb438, 1, none⟩ = some (.string (⟨#[]⟩ : ByteArray)) := (blk_cell BK438.out 1).trans rfl; have hfz22_0 := blk_frozen BK438.out 0; have hfz22_1 := blk_frozen BK438.out 1))
          (try simp only [Act.put, List.setIfInBounds_toArray, List.set_cons_zero, List.set_cons_succ])
          go_cut [52] (fun v52 wc => ∃ (kq : Nat) (x52_17 : Bool), v52 = .bool x52_17 ∧ Aside0 (shelfmarklaw04_RecordFinds.j1 kq a0 a1 l2 l3 l4 t433 t437 x52_17 t435 t436 = some r) ∧ Aside0 (kq ≤ kj8) ∧ Aside0 (wc.heap[gb438]? = some (.cells #[.string t435, .string t436] 43 (0, 0))) ∧ Aside0 (Below w.heap.size w wc))
          case first =>
            have H := HC18.out
            clear HC18
            by_cases c23 : t434 = 0
            · rw [if_pos c23] at H
              have c23b0 : (t434 == 0) = true := beq_iff_eq.mpr c23
              have c23b1 : (t434 != 0) = false := bne_eq_false_iff_eq.mpr c23
              clear c23
              (first | rw [c23b0] | (simp only [i64_w, i32_w]; rw [c23b0]) | skip)
              have H' := Aside0.mk H
              clear H
              go_wp2
              go_meet
              case rel => exact ⟨_, ((t437 != 0)), (by first | rfl | (simp; done) | (simp [*]; done) | (simp [ne_nil_bytes]; done) | (simp [eq_nil_bytes]; done)), H', ⟨by have := HJ8.out; first | omega | exact Nat.le_refl _⟩, ⟨by (with_reducible repeat (first | refine blk_drewN ?_ _ | refine blk_drew ?_ | refine blk_alloc ?_ _)); refine blk_put (cs := #[.string t435, .string (⟨#[]⟩ : ByteArray)]) ?_ 1 _ rfl; (with_reducible repeat (first | refine blk_drewN ?_ _ | refine blk_drew ?_ | refine blk_alloc ?_ _)); refine blk_put (cs := #[.string (⟨#[]⟩ : ByteArray), .string (⟨#[]⟩ : ByteArray)]) ?_ 0 _ rfl; (with_reducible repeat (first | refine blk_drewN ?_ _ | refine blk_drew ?_ | refine blk_alloc ?_ _)); exact BK438.out⟩, ⟨by repeat (first | (with_reducible first | exact HB.out | apply below_alloc | apply pw_below_drewN | apply below_drew1 | refine below_set ?_ GE438.out) | exact HB.out)⟩⟩
            · rw [if_neg c23] at H
              have c23b0 : (t434 == 0) = false := beq_eq_false_iff_ne.mpr c23
              have c23b1 : (t434 != 0) = true := bne_iff_ne.mpr c23
              (first | rw [c23b0] | (simp only [i64_w, i32_w]; rw [c23b0]) | skip)
              have H' := Aside0.mk H
              clear H
              go_wp2
              go_meet
              case rel => exact ⟨_, (true), (by first | rfl | (simp; done) | (simp [*]; done) | (simp [ne_nil_bytes]; done) | (simp [eq_nil_bytes]; done)), H', ⟨by have := HJ8.out; first | omega | exact Nat.le_refl _⟩, ⟨by (with_reducible repeat (first | refine blk_drewN ?_ _ | refine blk_drew ?_ | refine blk_alloc ?_ _)); refine blk_put (cs := #[.string t435, .string (⟨#[]⟩ : ByteArray)]) ?_ 1 _ rfl; (with_reducible repeat (first | refine blk_drewN ?_ _ | refine blk_drew ?_ | refine blk_alloc ?_ _)); refine blk_put (cs := #[.string (⟨#[]⟩ : ByteArray), .string (⟨#[]⟩ : ByteArray)]) ?_ 0 _ rfl; (with_reducible repeat (first | refine blk_drewN ?_ _ | refine blk_drew ?_ | refine blk_alloc ?_ _)); exact BK438.out⟩, ⟨by repeat (first | (with_reducible first | exact HB.out | apply below_alloc | apply pw_below_drewN | apply below_drew1 | refine below_set ?_ GE438.out) | exact HB.out)⟩⟩
          case rest =>
            clear HC18
            try clear c1
            try clear c2
            try clear p2
            try clear c3
            try clear c4
            try clear c7
            try clear c8
            try clear c9
            try clear c12
            try clear c14
            try clear c15
            try clear c17
            try clear c23
            try clear c23b0
            try clear c23b0z
            try clear c23b1
            try clear c23b1z
            try clear hcz22_0
            try clear hcz22_1
            try clear hfz22_0
            try clear hfz22_1
            try clear p2
            obtain ⟨kq, x52_17, rfl, HA, HJ17, BK438, HB⟩ := hcut
            cases kq with
            | zero => exact absurd HA.out (by simp [shelfmarklaw04_RecordFinds.j1])
            | succ kj17 =>
              have H := HA.out
              clear HA
              simp only [shelfmarklaw04_RecordFinds.j1] at H
              by_cases c24 : x52_17 = true
              · subst c24
                have H1 : (if t433.toList = ([] : List UInt8) then (some true) else (if t437 = 0 then (some true) else (some (t435.toList == ([] : List UInt8) && (t436.toList == ([] : List UInt8)))))) = some r := by rw [if_pos rfl] at H; exact H
                clear H
                have H := H1
                clear H1
                by_cases c25 : t433.toList = ([] : List UInt8)
                · rw [if_pos c25] at H
                  have c25b0 : (t433.toList == ([] : List UInt8)) = true := beq_iff_eq.mpr c25
                  have c25b1 : (t433.toList != ([] : List UInt8)) = false := bne_eq_false_iff_eq.mpr c25
                  clear c25
                  obtain rfl := Option.some.inj H
                  go_wp2
                  go_ret
                  exact ⟨by first | rfl | (simp [errW_none, errW_some] <;> rfl) | (simp [*, errW_none, errW_some] <;> rfl), by repeat (first | (with_reducible first | exact HB.out | apply below_alloc | apply pw_below_drewN | apply below_drew1 | refine below_set ?_ GE438.out) | exact HB.out)⟩
                · rw [if_neg c25] at H
                  have c25b0 : (t433.toList == ([] : List UInt8)) = false := beq_eq_false_iff_ne.mpr c25
                  have c25b1 : (t433.toList != ([] : List UInt8)) = true := bne_iff_ne.mpr c25
                  by_cases c26 : t437 = 0
                  · rw [if_pos c26] at H
                    have c26b0 : (t437 == 0) = true := beq_iff_eq.mpr c26
                    have c26b1 : (t437 != 0) = false := bne_eq_false_iff_eq.mpr c26
                    clear c26
                    obtain rfl := Option.some.inj H
                    go_wp2
                    go_ret
                    exact ⟨by first | rfl | (simp [errW_none, errW_some] <;> rfl) | (simp [*, errW_none, errW_some] <;> rfl), by repeat (first | (with_reducible first | exact HB.out | apply below_alloc | apply pw_below_drewN | apply below_drew1 | refine below_set ?_ GE438.out) | exact HB.out)⟩
                  · rw [if_neg c26] at H
                    have c26b0 : (t437 == 0) = false := beq_eq_false_iff_ne.mpr c26
                    have c26b1 : (t437 != 0) = true := bne_iff_ne.mpr c26
                    obtain rfl := Option.some.inj H
                    have hcz27_0 : wc.cell? ⟨gb438, 0, none⟩ = some (.string t435) := (blk_cell BK438.out 0).trans rfl
                    have hcz27_1 : wc.cell? ⟨gb438, 1, none⟩ = some (.string t436) := (blk_cell BK438.out 1).trans rfl
                    have hfz27_0 := blk_frozen BK438.out 0
                    have hfz27_1 := blk_frozen BK438.out 1
                    go_wp2
                    go_ret
                    exact ⟨by first | rfl | (simp [errW_none, errW_some] <;> rfl) | (simp [*, errW_none, errW_some] <;> rfl), by repeat (first | (with_reducible first | exact HB.out | apply below_alloc | apply pw_below_drewN | apply below_drew1 | refine below_set ?_ GE438.out) | exact HB.out)⟩
              · replace c24 := Bool.eq_false_iff.mpr c24
                subst c24
                have H1 : ((shelfmarkref04_Within.f t433 t435 t436).bind fun t439 => (if a0 = a1 then ((record_Lies.f kj17 l2 l3 l4).bind fun t440 => (some (t439 == t440))) else (some (t439 == false)))) = some r := by rw [if_neg (show ¬ (false = true) by decide)] at H; exact H
                clear H
                have H := H1
                clear H1
                replace H := Option.bind_eq_some_iff.mp H
                obtain ⟨t439, A280, H⟩ := H
                replace H : (if a0 = a1 then ((record_Lies.f kj17 l2 l3 l4).bind fun t440 => (some (t439 == t440))) else (some (t439 == false))) = some r := H
                have A28 := Aside0.mk A280
                clear A280
                by_cases c29 : a0 = a1
                · rw [if_pos c29] at H
                  have c29b0 : (a0 == a1) = true := beq_iff_eq.mpr c29
                  have c29b1 : (a0 != a1) = false := bne_eq_false_iff_eq.mpr c29
                  clear c29
                  replace H := Option.bind_eq_some_iff.mp H
                  obtain ⟨t440, A300, H⟩ := H
                  replace H : (some (t439 == t440)) = some r := H
                  have A30 := Aside0.mk A300
                  clear A300
                  obtain rfl := Option.some.inj H
                  have hcz31_0 : wc.cell? ⟨gb438, 0, none⟩ = some (.string t435) := (blk_cell BK438.out 0).trans rfl
                  have hcz31_1 : wc.cell? ⟨gb438, 1, none⟩ = some (.string t436) := (blk_cell BK438.out 1).trans rfl
                  have hfz31_0 := blk_frozen BK438.out 0
                  have hfz31_1 := blk_frozen BK438.out 1
                  go_wp2_with (first | ((with_reducible refine gate_callee (f := 21) rfl ?_); refine goesL_ (some 66) rfl rfl Tryd.func21 (by kernel_rfl) rfl #[.string t433, .agg #[.string t435, .string t436]] rfl (by (try simp only [List.map_toArray, List.map_cons, List.map_nil]); first | done | rfl | (simp only [List.length_drop, List.length_take]; rfl)) ?_; (with_reducible refine (shelfmarkref04_Within.calls t433 t435 t436 t439 _ A28.out).mono ?_); rintro e w32 ⟨rfl, hb⟩; refine ⟨_, rfl, ?_⟩; have n0_ := Aside0.mk (blk_below (g := gb438) (o := .cells #[.string t435, .string t436] 43 (0, 0)) (by (with_reducible repeat (first | refine blk_drewN ?_ _ | refine blk_drew ?_ | refine blk_alloc ?_ _)); exact BK438.out) hb); have n1_ := Aside0.mk (below_step (by repeat (first | (with_reducible first | exact HB.out | apply below_alloc | apply pw_below_drewN | apply below_drew1 | refine below_set ?_ GE438.out) | exact HB.out)) hb); clear BK438; clear HB; have BK438 := n0_; have HB := n1_; clear n0_ n1_; (try clear hb); (try clear hb2); (try clear hk); (try clear hi)) | (go_at_call 19; (with_reducible refine (record_Lies.calls kj17 (fun k_ => k_ < w.heap.size) _ _ l2 (fun k_ => k_ < w.heap.size) _ _ l3 (fun k_ => k_ < w.heap.size) _ _ l4 t440 _ ?side1 ?side2 ?side3 A30.out).mono ?_); (case side1 => exact Kd.V_mk HC2.out (Kd.F_below (Kd.C_F k41_heap HR2.out) (by repeat (first | (with_reducible first | exact HB.out | apply below_alloc | apply pw_below_drewN | apply below_drew1 | refine below_set ?_ GE438.out) | exact HB.out)))); (case side2 => exact Kd.V_mk HC3.out (Kd.F_below (Kd.C_F k41_heap HR3.out) (by repeat (first | (with_reducible first | exact HB.out | apply below_alloc | apply pw_below_drewN | apply below_drew1 | refine below_set ?_ GE438.out) | exact HB.out)))); (case side3 => exact Kd.V_mk HC4.out (Kd.F_below (Kd.C_F k41_heap HR4.out) (by repeat (first | (with_reducible first | exact HB.out | apply below_alloc | apply pw_below_drewN | apply below_drew1 | refine below_set ?_ GE438.out) | exact HB.out)))); rintro e w33 ⟨rfl, hb⟩; have n0_ := Aside0.mk (blk_below (g := gb438) (o := .cells #[.string t435, .string t436] 43 (0, 0)) (by (with_reducible repeat (first | refine blk_drewN ?_ _ | refine blk_drew ?_ | refine blk_alloc ?_ _)); exact BK438.out) hb); have n1_ := Aside0.mk (below_step (by repeat (first | (with_reducible first | exact HB.out | apply below_alloc | apply pw_below_drewN | apply below_drew1 | refine below_set ?_ GE438.out) | exact HB.out)) hb); clear BK438; clear HB; have BK438 := n0_; have HB := n1_; clear n0_ n1_; (try clear hb); (try clear hb2); (try clear hk); (try clear hi)))
                  go_ret
                  exact ⟨by first | rfl | (simp [errW_none, errW_some] <;> rfl) | (simp [*, errW_none, errW_some] <;> rfl), by repeat (first | (with_reducible first | exact HB.out | apply below_alloc | apply pw_below_drewN | apply below_drew1 | refine below_set ?_ GE438.out) | exact HB.out)⟩
                · rw [if_neg c29] at H
                  have c29b0 : (a0 == a1) = false := beq_eq_false_iff_ne.mpr c29
                  have c29b1 : (a0 != a1) = true := bne_iff_ne.mpr c29
                  obtain rfl := Option.some.inj H
                  have hcz34_0 : wc.cell? ⟨gb438, 0, none⟩ = some (.string t435) := (blk_cell BK438.out 0).trans rfl
                  have hcz34_1 : wc.cell? ⟨gb438, 1, none⟩ = some (.string t436) := (blk_cell BK438.out 1).trans rfl
                  have hfz34_0 := blk_frozen BK438.out 0
                  have hfz34_1 := blk_frozen BK438.out 1
                  go_wp2_with (first | ((with_reducible refine gate_callee (f := 21) rfl ?_); refine goesL_ (some 66) rfl rfl Tryd.func21 (by kernel_rfl) rfl #[.string t433, .agg #[.string t435, .string t436]] rfl (by (try simp only [List.map_toArray, List.map_cons, List.map_nil]); first | done | rfl | (simp only [List.length_drop, List.length_take]; rfl)) ?_; (with_reducible refine (shelfmarkref04_Within.calls t433 t435 t436 t439 _ A28.out).mono ?_); rintro e w35 ⟨rfl, hb⟩; refine ⟨_, rfl, ?_⟩; have n0_ := Aside0.mk (blk_below (g := gb438) (o := .cells #[.string t435, .string t436] 43 (0, 0)) (by (with_reducible repeat (first | refine blk_drewN ?_ _ | refine blk_drew ?_ | refine blk_alloc ?_ _)); exact BK438.out) hb); have n1_ := Aside0.mk (below_step (by repeat (first | (with_reducible first | exact HB.out | apply below_alloc | apply pw_below_drewN | apply below_drew1 | refine below_set ?_ GE438.out) | exact HB.out)) hb); clear BK438; clear HB; have BK438 := n0_; have HB := n1_; clear n0_ n1_; (try clear hb); (try clear hb2); (try clear hk); (try clear hi)))
                  go_ret
                  exact ⟨by first | rfl | (simp [errW_none, errW_some] <;> rfl) | (simp [*, errW_none, errW_some] <;> rfl), by repeat (first | (with_reducible first | exact HB.out | apply below_alloc | apply pw_below_drewN | apply below_drew1 | refine below_set ?_ GE438.out) | exact HB.out)⟩
  · replace c8 := Bool.eq_false_iff.mpr c8
    subst c8
    have H1 : (some false) = some r := by rw [if_neg (show ¬ (false = true) by decide)] at H; exact H
    clear H
    have H := H1
    clear H1
    obtain rfl := Option.some.inj H
    go_enter Tryd.func7, Tryd.ntmps7
    go_wp2_with (first | ((with_reducible refine gate_callee (f := 8) rfl ?_); refine goesL_ (some 17) rfl rfl Tryd.func8 (by kernel_rfl) rfl #[] rfl (by (try simp only [List.map_toArray, List.map_cons, List.map_nil]); first | done | rfl | (simp only [List.length_drop, List.length_take]; rfl)) ?_; (with_reducible refine (shelfmarklaw04_awake.calls k  false _ A7.out).mono ?_); rintro e w36 ⟨rfl, hb⟩; refine ⟨_, rfl, ?_⟩; have n0_ := Aside0.mk (below_step (by repeat (first | (with_reducible first | exact HB.out | apply below_alloc | apply pw_below_drewN | apply below_drew1) | exact HB.out)) hb); clear HB; have HB := n0_; clear n0_; (try clear hb); (try clear hb2); (try clear hk); (try clear hi)))
    go_ret
    exact ⟨by first | rfl | (simp [errW_none, errW_some] <;> rfl) | (simp [*, errW_none, errW_some] <;> rfl), by repeat (first | (with_reducible first | exact HB.out | apply below_alloc | apply pw_below_drewN | apply below_drew1) | exact HB.out)⟩

end Go.Proofs.YtieifhjjjlmkbaaDoor.PAll
