-- Written by a program of this session for this claim (mp.py, over the kit's print); Lean checks it.
import Derived.Test.YtmgjccpolkhhhaaPAllx0
import Derived.Test.YtmgjccpolkhhhaaPAllx9
import Derived.Test.YtmgjccpolkhhhaaPAllx10
import Derived.Test.YtmgjccpolkhhhaaPAllx14
import Derived.Test.YtmgjccpolkhhhaaPAllx23
import Derived.Test.YtmgjccpolkhhhaaPAllx27
import Derived.Test.YtmgjccpolkhhhaaPAllx30
namespace Go.Proofs.Ytmgjccpolkhhhaa.PAll
open Go.RowKit Go.Proofs.YtmgjccpolkhhhaaW.PrintWords Go.Proofs.YtmgjccpolkhhhaaW.PrintLast Go.Proofs.YtmgjccpolkhhhaaW.PrintMore Go.Proofs.Ytmgjccpolkhhhaa.Fv Go.Proofs.Ytmgjccpolkhhhaa.Hl
attribute [local go_sem] max2_int min2_int max_two min_two max_three min_three max_four min_four str_gtr str_leq str_geq cell_set2   -- for this text's walks alone
set_option linter.unusedVariables false
set_option linter.unusedSimpArgs false

/-! ### shelfmarklaw12_AtlasPacks: function 8 -/
mutual
def shelfmarklaw12_AtlasPacks.j0 : Nat → ByteArray → Bool → Int → List (S46) → Option (Bool)
 | 0, _, _, _, _ => none
 | k + 1, x1, x26, x571000, x571001 => if x26 = true then (some true) else ((atlas_Pack.f k x571000 x571001).bind fun bt573 => ((shelfmarkref12_Pack.f k x571000 x571001).bind fun bt575 => ((atlas_Unpack.f k x1).bind fun bt577 => ((shelfmarkref12_Unpack.f k x1).bind fun bt583 => (if bt573.2 = 0 then ((atlas_Unpack.f k bt573.1).bind fun bt589 => (if bt589.2.2 = 0 then ((shelfmarkref12_Same.f k bt589.1 bt589.2.1 x571000 x571001).bind fun t595 => (if t595 = true then (shelfmarklaw12_AtlasPacks.j1 k x1 bt573.1 bt573.2 bt575.1 bt575.2 bt577.2.2 bt583.2.2 bt577.1 bt577.2.1 bt583.1 bt583.2.1) else (some false))) else (some false))) else (shelfmarklaw12_AtlasPacks.j1 k x1 bt573.1 bt573.2 bt575.1 bt575.2 bt577.2.2 bt583.2.2 bt577.1 bt577.2.1 bt583.1 bt583.2.1))))))
def shelfmarklaw12_AtlasPacks.j1 : Nat → ByteArray → ByteArray → Int → ByteArray → Int → Int → Int → Int → List (S46) → Int → List (S46) → Option (Bool)
 | 0, _, _, _, _, _, _, _, _, _, _, _ => none
 | k + 1, x1, x5, x6, x7, x8, x10, x12, x583000, x583001, x589000, x589001 => if x10 = 0 then ((atlas_Pack.f k x583000 x583001).bind fun bt596 => (if bt596.2 = 0 then (if bt596.1.toList = x1.toList then (if x5.toList = x7.toList then (if x6 = x8 then (if x10 = x12 then ((shelfmarkref12_Same.f k x583000 x583001 x589000 x589001).bind fun t598 => (some t598)) else (some false)) else (some false)) else (some false)) else (some false)) else (some false))) else (if x5.toList = x7.toList then (if x6 = x8 then (if x10 = x12 then ((shelfmarkref12_Same.f k x583000 x583001 x589000 x589001).bind fun t599 => (some t599)) else (some false)) else (some false)) else (some false))
end
def shelfmarklaw12_AtlasPacks.f (k : Nat) (a0_0 : Int) (l0_1 : List (S46)) (a1 : ByteArray) : Option (Bool) := (shelfmarklaw12_awake.f k).bind fun t571 => (if t571 = true then ((shelfmarkref12_Light.f k a0_0 l0_1).bind fun t572 => (if t572 = true then (shelfmarklaw12_AtlasPacks.j0 k a1 (decide ((a1.size : Int) > 3000)) a0_0 l0_1) else (shelfmarklaw12_AtlasPacks.j0 k a1 true a0_0 l0_1))) else (some false))
theorem shelfmarklaw12_AtlasPacks.mono_l : ∀ k, (∀ y0 y1 y2 y3, LeO (shelfmarklaw12_AtlasPacks.j0 k y0 y1 y2 y3) (shelfmarklaw12_AtlasPacks.j0 (k + 1) y0 y1 y2 y3)) ∧ (∀ y0 y1 y2 y3 y4 y5 y6 y7 y8 y9 y10, LeO (shelfmarklaw12_AtlasPacks.j1 k y0 y1 y2 y3 y4 y5 y6 y7 y8 y9 y10) (shelfmarklaw12_AtlasPacks.j1 (k + 1) y0 y1 y2 y3 y4 y5 y6 y7 y8 y9 y10))
 | 0 => ⟨fun _ _ _ _ r h => by simp [shelfmarklaw12_AtlasPacks.j0] at h, fun _ _ _ _ _ _ _ _ _ _ _ r h => by simp [shelfmarklaw12_AtlasPacks.j1] at h⟩
 | k + 1 => by
  obtain ⟨ih0, ih1⟩ := shelfmarklaw12_AtlasPacks.mono_l k
  refine ⟨?_, ?_⟩
  ·intro y0 y1 y2 y3
   unfold shelfmarklaw12_AtlasPacks.j0
   repeat' first
   | (with_reducible exact ih0 _ _ _ _)
   | (with_reducible exact ih1 _ _ _ _ _ _ _ _ _ _ _)
   | (with_reducible exact atlas_Pack.mono _ _ _)
   | (with_reducible exact atlas_Unpack.mono _ _)
   | (with_reducible exact shelfmarklaw12_awake.mono _)
   | (with_reducible exact shelfmarkref12_Light.mono _ _ _)
   | (with_reducible exact shelfmarkref12_Pack.mono _ _ _)
   | (with_reducible exact shelfmarkref12_Same.mono _ _ _ _ _)
   | (with_reducible exact shelfmarkref12_Unpack.mono _ _)
   | (with_reducible exact LeO.refl _)
   | (with_reducible exact LeO.none _)
   | (with_reducible refine LeO.ite ?_ ?_)
   | (with_reducible refine LeO.bind ?_ (fun _ => ?_))
   | exact ih0 _ _ _ _
   | exact ih1 _ _ _ _ _ _ _ _ _ _ _
   | exact atlas_Pack.mono _ _ _
   | exact atlas_Unpack.mono _ _
   | exact shelfmarklaw12_awake.mono _
   | exact shelfmarkref12_Light.mono _ _ _
   | exact shelfmarkref12_Pack.mono _ _ _
   | exact shelfmarkref12_Same.mono _ _ _ _ _
   | exact shelfmarkref12_Unpack.mono _ _
   | exact LeO.none _
   | refine LeO.ite ?_ ?_
   | refine LeO.bind ?_ (fun _ => ?_)
  ·intro y0 y1 y2 y3 y4 y5 y6 y7 y8 y9 y10
   unfold shelfmarklaw12_AtlasPacks.j1
   repeat' first
   | (with_reducible exact ih0 _ _ _ _)
   | (with_reducible exact ih1 _ _ _ _ _ _ _ _ _ _ _)
   | (with_reducible exact atlas_Pack.mono _ _ _)
   | (with_reducible exact atlas_Unpack.mono _ _)
   | (with_reducible exact shelfmarklaw12_awake.mono _)
   | (with_reducible exact shelfmarkref12_Light.mono _ _ _)
   | (with_reducible exact shelfmarkref12_Pack.mono _ _ _)
   | (with_reducible exact shelfmarkref12_Same.mono _ _ _ _ _)
   | (with_reducible exact shelfmarkref12_Unpack.mono _ _)
   | (with_reducible exact LeO.refl _)
   | (with_reducible exact LeO.none _)
   | (with_reducible refine LeO.ite ?_ ?_)
   | (with_reducible refine LeO.bind ?_ (fun _ => ?_))
   | exact ih0 _ _ _ _
   | exact ih1 _ _ _ _ _ _ _ _ _ _ _
   | exact atlas_Pack.mono _ _ _
   | exact atlas_Unpack.mono _ _
   | exact shelfmarklaw12_awake.mono _
   | exact shelfmarkref12_Light.mono _ _ _
   | exact shelfmarkref12_Pack.mono _ _ _
   | exact shelfmarkref12_Same.mono _ _ _ _ _
   | exact shelfmarkref12_Unpack.mono _ _
   | exact LeO.none _
   | refine LeO.ite ?_ ?_
   | refine LeO.bind ?_ (fun _ => ?_)
theorem shelfmarklaw12_AtlasPacks.mono : ∀ a0 a1 a2 k, LeO (shelfmarklaw12_AtlasPacks.f k a0 a1 a2) (shelfmarklaw12_AtlasPacks.f (k + 1) a0 a1 a2) := by
 intro a0 a1 a2 k
 obtain ⟨ih0, ih1⟩ := shelfmarklaw12_AtlasPacks.mono_l k
 unfold shelfmarklaw12_AtlasPacks.f
 repeat' first
   | (with_reducible exact ih0 _ _ _ _)
   | (with_reducible exact ih1 _ _ _ _ _ _ _ _ _ _ _)
   | (with_reducible exact atlas_Pack.mono _ _ _)
   | (with_reducible exact atlas_Unpack.mono _ _)
   | (with_reducible exact shelfmarklaw12_awake.mono _)
   | (with_reducible exact shelfmarkref12_Light.mono _ _ _)
   | (with_reducible exact shelfmarkref12_Pack.mono _ _ _)
   | (with_reducible exact shelfmarkref12_Same.mono _ _ _ _ _)
   | (with_reducible exact shelfmarkref12_Unpack.mono _ _)
   | (with_reducible exact LeO.refl _)
   | (with_reducible exact LeO.none _)
   | (with_reducible refine LeO.ite ?_ ?_)
   | (with_reducible refine LeO.bind ?_ (fun _ => ?_))
   | exact ih0 _ _ _ _
   | exact ih1 _ _ _ _ _ _ _ _ _ _ _
   | exact atlas_Pack.mono _ _ _
   | exact atlas_Unpack.mono _ _
   | exact shelfmarklaw12_awake.mono _
   | exact shelfmarkref12_Light.mono _ _ _
   | exact shelfmarkref12_Pack.mono _ _ _
   | exact shelfmarkref12_Same.mono _ _ _ _ _
   | exact shelfmarkref12_Unpack.mono _ _
   | exact LeO.none _
   | refine LeO.ite ?_ ?_
   | refine LeO.bind ?_ (fun _ => ?_)
set_option maxHeartbeats 8000000 in
set_option maxRecDepth 100000 in
theorem shelfmarklaw12_AtlasPacks.calls (k : Nat) (a0_0 : Int) (A0_1 : Option Addr) (c0_1 : Nat) (l0_1 : List (S46)) (a1 : ByteArray) (r : Bool) (w : World) (hr0_1 : Kd.C k46 w A0_1 l0_1.length l0_1) (hc0_1 : l0_1.length ≤ c0_1) (h : shelfmarklaw12_AtlasPacks.f k a0_0 l0_1 a1 = some r) (hlaw : r = true) :
  Calls Try.prog 8 #[.agg #[.int .i64 a0_0, .slice A0_1 l0_1.length c0_1], .string a1] w fun e w' => e = .returned (.bool r) ∧ Below w.heap.size w w' := by
 have HLAW := Aside0.mk hlaw
 clear hlaw
 have hu24 := Try.underlying24
 have HR0_1 := Aside0.mk hr0_1
 have HC0_1 := Aside0.mk hc0_1
 clear hr0_1 hc0_1
 have HB := Aside0.mk (Below.refl w.heap.size w)
 have H : ((shelfmarklaw12_awake.f k).bind fun t571 => (if t571 = true then ((shelfmarkref12_Light.f k a0_0 l0_1).bind fun t572 => (if t572 = true then (shelfmarklaw12_AtlasPacks.j0 k a1 (decide ((a1.size : Int) > 3000)) a0_0 l0_1) else (shelfmarklaw12_AtlasPacks.j0 k a1 true a0_0 l0_1))) else (some false))) = some r := h
 clear h
 replace H := Option.bind_eq_some_iff.mp H
 obtain ⟨t571, A30, H⟩ := H
 replace H : (if t571 = true then ((shelfmarkref12_Light.f k a0_0 l0_1).bind fun t572 => (if t572 = true then (shelfmarklaw12_AtlasPacks.j0 k a1 (decide ((a1.size : Int) > 3000)) a0_0 l0_1) else (shelfmarklaw12_AtlasPacks.j0 k a1 true a0_0 l0_1))) else (some false)) = some r := H
 have A3 := Aside0.mk A30
 clear A30
 by_cases c4 : t571 = true
 ·subst c4
  have H1 : ((shelfmarkref12_Light.f k a0_0 l0_1).bind fun t572 => (if t572 = true then (shelfmarklaw12_AtlasPacks.j0 k a1 (decide ((a1.size : Int) > 3000)) a0_0 l0_1) else (shelfmarklaw12_AtlasPacks.j0 k a1 true a0_0 l0_1))) = some r := by rw [if_pos rfl] at H; exact H
  clear H
  have H := H1
  clear H1
  have HC5 := Aside0.mk H
  clear H
  go_enter Try.func8, Try.ntmps8
  go_upto_region 3 with (first | ((with_reducible refine gate_dst (N := 2) rfl ?_); (try (refine gate_guard (by rfl) ?_; dsimp only)); refine box_event ?hg (N := 2) ?hd (cs := #[.int .i64 a0_0, .slice A0_1 l0_1.length c0_1]) (t := 24) ?hr ?_; (case hd => rfl); (case hg => rfl); (case hr => first | (go_simp; done) | (go_simp; rfl)); intro gb570 hg w6 hbox hb; have n0_ := Aside0.mk (below_step (hL HB.out) hb); have n1_ := Aside0.mk (hbox); have n2_ := Above.mk ((by rw [hg]; exact (below_size (hL HB.out)) : w.heap.size ≤ gb570)); have n3_ := Above.mk ((by rw [hg]; exact (below_size (hL HB.out)) : w.heap.size ≤ gb570)); clear HB; have HB := n0_; have BK570 := n1_; have GW570 := n2_; have GE570 := n3_; clear n0_ n1_ n2_ n3_; clear hb hbox hg) | ((with_reducible refine gate_callee (f := 9) rfl ?_); refine goesL_ (some 17) rfl rfl Try.func9 (by kernel_rfl) rfl #[] rfl (by (try simp only [List.map_toArray, List.map_cons, List.map_nil]); first | done | rfl | (simp only [List.length_drop, List.length_take]; rfl)) ?_; (with_reducible refine (shelfmarklaw12_awake.calls k  true _ A3.out).mono ?_); rintro e w7 ⟨rfl, hb⟩; refine ⟨_, rfl, ?_⟩; have n0_ := Aside0.mk (blk_below BK570.out hb); have n1_ := Aside0.mk (below_step (hL HB.out) hb); clear BK570; clear HB; have BK570 := n0_; have HB := n1_; clear n0_ n1_; (try clear hb); (try clear hb2); (try clear hk); (try clear hi)))
  (try simp only [Act.put, List.setIfInBounds_toArray, List.set_cons_zero, List.set_cons_succ])
  go_cut [26] (fun v26 wc => ∃ (kq : Nat) (x26_4 : Bool), v26 = .bool x26_4 ∧ Aside0 (shelfmarklaw12_AtlasPacks.j0 kq a1 x26_4 a0_0 l0_1 = some r) ∧ Aside0 (kq ≤ k) ∧ Aside0 (wc.heap[gb570]? = some (.cells #[.int .i64 a0_0, (.slice A0_1 l0_1.length c0_1)] 24 (0, 0))) ∧ Aside0 (Below w.heap.size w wc))
  case first =>
   have H := HC5.out
   clear HC5
   replace H := Option.bind_eq_some_iff.mp H
   obtain ⟨t572, A80, H⟩ := H
   replace H : (if t572 = true then (shelfmarklaw12_AtlasPacks.j0 k a1 (decide ((a1.size : Int) > 3000)) a0_0 l0_1) else (shelfmarklaw12_AtlasPacks.j0 k a1 true a0_0 l0_1)) = some r := H
   have A8 := Aside0.mk A80
   clear A80
   by_cases c9 : t572 = true
   ·subst c9
    have H1 : (shelfmarklaw12_AtlasPacks.j0 k a1 (decide ((a1.size : Int) > 3000)) a0_0 l0_1) = some r := by rw [if_pos rfl] at H; exact H
    clear H
    have H := H1
    clear H1
    have H' := Aside0.mk H
    clear H
    have hcz10_0 : w7.cell? ⟨gb570, 0, none⟩ = some (.int .i64 a0_0) := (blk_cell BK570.out 0).trans rfl
    have hcz10_1 : w7.cell? ⟨gb570, 1, none⟩ = some (.slice A0_1 l0_1.length c0_1) := (blk_cell BK570.out 1).trans rfl
    have hfz10_0 := blk_frozen BK570.out 0
    have hfz10_1 := blk_frozen BK570.out 1
    go_wp2_with (first | ((with_reducible refine gate_callee (f := 10) rfl ?_); refine goesL_ (some 20) rfl rfl Try.func10 (by kernel_rfl) rfl #[.agg #[.int .i64 a0_0, .slice A0_1 l0_1.length c0_1]] rfl (by (try simp only [List.map_toArray, List.map_cons, List.map_nil]); first | done | rfl | (simp only [List.length_drop, List.length_take]; rfl)) ?_; (with_reducible refine (shelfmarkref12_Light.calls k a0_0 _ _ l0_1 true _ ?side1 ?side2 A8.out).mono ?_); (case side1 => repeat (first | exact (Kd.C_below HR0_1.out HB.out) | (with_reducible refine Kd.C_alloc ?_ _) | (with_reducible refine Kd.C_drewN ?_ _) | (with_reducible refine Kd.C_drew ?_))); (case side2 => exact HC0_1.out); rintro e w11 ⟨rfl, hb⟩; refine ⟨_, rfl, ?_⟩; have n0_ := Aside0.mk (blk_below BK570.out hb); have n1_ := Aside0.mk (below_step (hL HB.out) hb); clear BK570; clear HB; have BK570 := n0_; have HB := n1_; clear n0_ n1_; (try clear hb); (try clear hb2); (try clear hk); (try clear hi)))
    go_meet
    case rel => exact ⟨_, (decide ((a1.size : Int) > 3000)), (by first | rfl | (simp; done) | (simp [*]; done) | (simp [ne_nil_bytes]; done) | (simp [eq_nil_bytes]; done)), H', ⟨by first | omega | exact Nat.le_refl _⟩, ⟨by exact bL BK570.out⟩, ⟨hL HB.out⟩⟩
   ·replace c9 := Bool.eq_false_iff.mpr c9
    subst c9
    have H1 : (shelfmarklaw12_AtlasPacks.j0 k a1 true a0_0 l0_1) = some r := by rw [if_neg (show ¬ (false = true) by decide)] at H; exact H
    clear H
    have H := H1
    clear H1
    have H' := Aside0.mk H
    clear H
    have hcz12_0 : w7.cell? ⟨gb570, 0, none⟩ = some (.int .i64 a0_0) := (blk_cell BK570.out 0).trans rfl
    have hcz12_1 : w7.cell? ⟨gb570, 1, none⟩ = some (.slice A0_1 l0_1.length c0_1) := (blk_cell BK570.out 1).trans rfl
    have hfz12_0 := blk_frozen BK570.out 0
    have hfz12_1 := blk_frozen BK570.out 1
    go_wp2_with (first | ((with_reducible refine gate_callee (f := 10) rfl ?_); refine goesL_ (some 20) rfl rfl Try.func10 (by kernel_rfl) rfl #[.agg #[.int .i64 a0_0, .slice A0_1 l0_1.length c0_1]] rfl (by (try simp only [List.map_toArray, List.map_cons, List.map_nil]); first | done | rfl | (simp only [List.length_drop, List.length_take]; rfl)) ?_; (with_reducible refine (shelfmarkref12_Light.calls k a0_0 _ _ l0_1 false _ ?side1 ?side2 A8.out).mono ?_); (case side1 => repeat (first | exact (Kd.C_below HR0_1.out HB.out) | (with_reducible refine Kd.C_alloc ?_ _) | (with_reducible refine Kd.C_drewN ?_ _) | (with_reducible refine Kd.C_drew ?_))); (case side2 => exact HC0_1.out); rintro e w13 ⟨rfl, hb⟩; refine ⟨_, rfl, ?_⟩; have n0_ := Aside0.mk (blk_below BK570.out hb); have n1_ := Aside0.mk (below_step (hL HB.out) hb); clear BK570; clear HB; have BK570 := n0_; have HB := n1_; clear n0_ n1_; (try clear hb); (try clear hb2); (try clear hk); (try clear hi)))
    go_meet
    case rel => exact ⟨_, (true), (by first | rfl | (simp; done) | (simp [*]; done) | (simp [ne_nil_bytes]; done) | (simp [eq_nil_bytes]; done)), H', ⟨by first | omega | exact Nat.le_refl _⟩, ⟨by exact bL BK570.out⟩, ⟨hL HB.out⟩⟩
  case rest =>
   clear HC5
   try clear c1
   try clear p2
   try clear c4
   try clear c8
   try clear c9
   try clear c10
   try clear hcz10_0
   try clear hcz10_1
   try clear hcz12_0
   try clear hcz12_1
   try clear hfz10_0
   try clear hfz10_1
   try clear hfz12_0
   try clear hfz12_1
   obtain ⟨kq, x26_4, rfl, HA, HJ4, BK570, HB⟩ := hcut
   cases kq with
   | zero => exact absurd HA.out (by simp [shelfmarklaw12_AtlasPacks.j0])
   | succ kj4 =>
    have H := HA.out
    clear HA
    simp only [shelfmarklaw12_AtlasPacks.j0] at H
    by_cases c14 : x26_4 = true
    ·subst c14
     have H1 : (some true) = some r := by rw [if_pos rfl] at H; exact H
     clear H
     have H := H1
     clear H1
     obtain rfl := Option.some.inj H
     simp only [Option.some.injEq, Prod.mk.injEq] at H
     obtain ⟨rfl⟩ := H
     go_wp2
     go_ret
     exact ⟨by first | rfl | (simp [errW_none, errW_some] <;> rfl) | (simp [*, errW_none, errW_some] <;> rfl), hL HB.out⟩
    ·replace c14 := Bool.eq_false_iff.mpr c14
     subst c14
     have H1 : ((atlas_Pack.f kj4 a0_0 l0_1).bind fun bt573 => ((shelfmarkref12_Pack.f kj4 a0_0 l0_1).bind fun bt575 => ((atlas_Unpack.f kj4 a1).bind fun bt577 => ((shelfmarkref12_Unpack.f kj4 a1).bind fun bt583 => (if bt573.2 = 0 then ((atlas_Unpack.f kj4 bt573.1).bind fun bt589 => (if bt589.2.2 = 0 then ((shelfmarkref12_Same.f kj4 bt589.1 bt589.2.1 a0_0 l0_1).bind fun t595 => (if t595 = true then (shelfmarklaw12_AtlasPacks.j1 kj4 a1 bt573.1 bt573.2 bt575.1 bt575.2 bt577.2.2 bt583.2.2 bt577.1 bt577.2.1 bt583.1 bt583.2.1) else (some false))) else (some false))) else (shelfmarklaw12_AtlasPacks.j1 kj4 a1 bt573.1 bt573.2 bt575.1 bt575.2 bt577.2.2 bt583.2.2 bt577.1 bt577.2.1 bt583.1 bt583.2.1)))))) = some r := by rw [if_neg (show ¬ (false = true) by decide)] at H; exact H
     clear H
     have H := H1
     clear H1
     replace H := Option.bind_eq_some_iff.mp H
     obtain ⟨⟨t573, t574⟩, A150, H⟩ := H
     replace H : ((shelfmarkref12_Pack.f kj4 a0_0 l0_1).bind fun bt575 => ((atlas_Unpack.f kj4 a1).bind fun bt577 => ((shelfmarkref12_Unpack.f kj4 a1).bind fun bt583 => (if t574 = 0 then ((atlas_Unpack.f kj4 t573).bind fun bt589 => (if bt589.2.2 = 0 then ((shelfmarkref12_Same.f kj4 bt589.1 bt589.2.1 a0_0 l0_1).bind fun t595 => (if t595 = true then (shelfmarklaw12_AtlasPacks.j1 kj4 a1 t573 t574 bt575.1 bt575.2 bt577.2.2 bt583.2.2 bt577.1 bt577.2.1 bt583.1 bt583.2.1) else (some false))) else (some false))) else (shelfmarklaw12_AtlasPacks.j1 kj4 a1 t573 t574 bt575.1 bt575.2 bt577.2.2 bt583.2.2 bt577.1 bt577.2.1 bt583.1 bt583.2.1))))) = some r := H
     have A15 := Aside0.mk A150
     clear A150
     replace H := Option.bind_eq_some_iff.mp H
     obtain ⟨⟨t575, t576⟩, A160, H⟩ := H
     replace H : ((atlas_Unpack.f kj4 a1).bind fun bt577 => ((shelfmarkref12_Unpack.f kj4 a1).bind fun bt583 => (if t574 = 0 then ((atlas_Unpack.f kj4 t573).bind fun bt589 => (if bt589.2.2 = 0 then ((shelfmarkref12_Same.f kj4 bt589.1 bt589.2.1 a0_0 l0_1).bind fun t595 => (if t595 = true then (shelfmarklaw12_AtlasPacks.j1 kj4 a1 t573 t574 t575 t576 bt577.2.2 bt583.2.2 bt577.1 bt577.2.1 bt583.1 bt583.2.1) else (some false))) else (some false))) else (shelfmarklaw12_AtlasPacks.j1 kj4 a1 t573 t574 t575 t576 bt577.2.2 bt583.2.2 bt577.1 bt577.2.1 bt583.1 bt583.2.1)))) = some r := H
     have A16 := Aside0.mk A160
     clear A160
     replace H := Option.bind_eq_some_iff.mp H
     obtain ⟨⟨t577, t578, t581⟩, A170, H⟩ := H
     replace H : ((shelfmarkref12_Unpack.f kj4 a1).bind fun bt583 => (if t574 = 0 then ((atlas_Unpack.f kj4 t573).bind fun bt589 => (if bt589.2.2 = 0 then ((shelfmarkref12_Same.f kj4 bt589.1 bt589.2.1 a0_0 l0_1).bind fun t595 => (if t595 = true then (shelfmarklaw12_AtlasPacks.j1 kj4 a1 t573 t574 t575 t576 t581 bt583.2.2 t577 t578 bt583.1 bt583.2.1) else (some false))) else (some false))) else (shelfmarklaw12_AtlasPacks.j1 kj4 a1 t573 t574 t575 t576 t581 bt583.2.2 t577 t578 bt583.1 bt583.2.1))) = some r := H
     have A17 := Aside0.mk A170
     clear A170
     replace H := Option.bind_eq_some_iff.mp H
     obtain ⟨⟨t583, t584, t587⟩, A180, H⟩ := H
     replace H : (if t574 = 0 then ((atlas_Unpack.f kj4 t573).bind fun bt589 => (if bt589.2.2 = 0 then ((shelfmarkref12_Same.f kj4 bt589.1 bt589.2.1 a0_0 l0_1).bind fun t595 => (if t595 = true then (shelfmarklaw12_AtlasPacks.j1 kj4 a1 t573 t574 t575 t576 t581 t587 t577 t578 t583 t584) else (some false))) else (some false))) else (shelfmarklaw12_AtlasPacks.j1 kj4 a1 t573 t574 t575 t576 t581 t587 t577 t578 t583 t584)) = some r := H
     have A18 := Aside0.mk A180
     clear A180
     have HC19 := Aside0.mk H
     clear H
     have hcz20_0 : wc.cell? ⟨gb570, 0, none⟩ = some (.int .i64 a0_0) := (blk_cell BK570.out 0).trans rfl
     have hcz20_1 : wc.cell? ⟨gb570, 1, none⟩ = some (.slice A0_1 l0_1.length c0_1) := (blk_cell BK570.out 1).trans rfl
     have hfz20_0 := blk_frozen BK570.out 0
     have hfz20_1 := blk_frozen BK570.out 1
     go_upto_if 48 with (first | ((with_reducible refine gate_callee (f := 25) rfl ?_); refine goesL_ (some 29) rfl rfl Try.func25 (by kernel_rfl) rfl #[.agg #[.int .i64 a0_0, .slice A0_1 l0_1.length c0_1]] rfl (by (try simp only [List.map_toArray, List.map_cons, List.map_nil]); first | done | rfl | (simp only [List.length_drop, List.length_take]; rfl)) ?_; (with_reducible refine (atlas_Pack.calls kj4 a0_0 _ _ l0_1 t573 t574 _ ?side1 ?side2 A15.out).mono ?_); (case side1 => repeat (first | exact (Kd.C_below HR0_1.out HB.out) | (with_reducible refine Kd.C_alloc ?_ _) | (with_reducible refine Kd.C_drewN ?_ _) | (with_reducible refine Kd.C_drew ?_))); (case side2 => exact HC0_1.out); rintro e w21 ⟨rfl, hb⟩; refine ⟨_, rfl, ?_⟩; have n0_ := Aside0.mk (blk_below BK570.out hb); have n1_ := Aside0.mk (below_step (hL HB.out) hb); clear BK570; clear HB; have BK570 := n0_; have HB := n1_; clear n0_ n1_; (try clear hb); (try clear hb2); (try clear hk); (try clear hi); have hcz22_0 : w21.cell? ⟨gb570, 0, none⟩ = some (.int .i64 a0_0) := (blk_cell BK570.out 0).trans rfl; have hcz22_1 : w21.cell? ⟨gb570, 1, none⟩ = some (.slice A0_1 l0_1.length c0_1) := (blk_cell BK570.out 1).trans rfl; have hfz22_0 := blk_frozen BK570.out 0; have hfz22_1 := blk_frozen BK570.out 1) | ((with_reducible refine gate_callee (f := 26) rfl ?_); refine goesL_ (some 34) rfl rfl Try.func26 (by kernel_rfl) rfl #[.agg #[.int .i64 a0_0, .slice A0_1 l0_1.length c0_1]] rfl (by (try simp only [List.map_toArray, List.map_cons, List.map_nil]); first | done | rfl | (simp only [List.length_drop, List.length_take]; rfl)) ?_; (with_reducible refine (shelfmarkref12_Pack.calls kj4 a0_0 _ _ l0_1 t575 t576 _ ?side1 ?side2 A16.out).mono ?_); (case side1 => repeat (first | exact (Kd.C_below HR0_1.out HB.out) | (with_reducible refine Kd.C_alloc ?_ _) | (with_reducible refine Kd.C_drewN ?_ _) | (with_reducible refine Kd.C_drew ?_))); (case side2 => exact HC0_1.out); rintro e w23 ⟨rfl, hb⟩; refine ⟨_, rfl, ?_⟩; have n0_ := Aside0.mk (blk_below BK570.out hb); have n1_ := Aside0.mk (below_step (hL HB.out) hb); clear BK570; clear HB; have BK570 := n0_; have HB := n1_; clear n0_ n1_; (try clear hb); (try clear hb2); (try clear hk); (try clear hi)) | ((with_reducible refine gate_callee (f := 27) rfl ?_); refine goesL_ (some 39) rfl rfl Try.func27 (by kernel_rfl) rfl #[.string a1] rfl (by (try simp only [List.map_toArray, List.map_cons, List.map_nil]); first | done | rfl | (simp only [List.length_drop, List.length_take]; rfl)) ?_; (with_reducible refine (atlas_Unpack.calls kj4 a1 t577 t578 t581 _ A17.out).mono ?_); rintro e w24 ⟨v579, rfl, ho0, hb⟩; refine ⟨_, rfl, ?_⟩; have n0_ := Aside0.mk (Kd.R_lower ho0 (below_size (hL HB.out))); have n1_ := Aside0.mk (blk_below BK570.out hb); have n2_ := Aside0.mk (below_step (hL HB.out) hb); clear BK570; clear HB; have HO580 := n0_; have BK570 := n1_; have HB := n2_; clear n0_ n1_ n2_; (try clear hb); (try clear hb2); (try clear hk); (try clear hi); (try clear ho0)) | ((with_reducible refine gate_dst (N := 9) rfl ?_); (try (refine gate_guard (by rfl) ?_; dsimp only)); refine box_event ?hg (N := 9) ?hd (cs := #[.int .i64 0, .slice none 0 0]) (t := 24) ?hr ?_; (case hd => rfl); (case hg => rfl); (case hr => first | (go_simp; done) | (go_simp; rfl)); intro gb582 hg w25 hbox hb; have n0_ := Aside0.mk (Kd.R_below (rL HO580.out) hb); have n1_ := Aside0.mk (blk_below BK570.out hb); have n2_ := Aside0.mk (below_step (hL HB.out) hb); have n3_ := Aside0.mk (hbox); have n4_ := Above.mk ((by rw [hg]; exact (below_size (hL HB.out)) : w.heap.size ≤ gb582)); have n5_ := Above.mk ((by rw [hg]; exact (below_size (hL HB.out)) : w.heap.size ≤ gb582)); have n6_ := Aside0.mk ((by rw [hg]; exact Nat.ne_of_lt (blk_lt (g := gb570) (o := .cells #[.int .i64 a0_0, .slice A0_1 l0_1.length c0_1] 24 (0, 0)) (bL BK570.out)) : gb570 ≠ gb582)); have n7_ := Aside0.mk ((by rw [hg]; exact Nat.ne_of_gt (blk_lt (g := gb570) (o := .cells #[.int .i64 a0_0, .slice A0_1 l0_1.length c0_1] 24 (0, 0)) (bL BK570.out)) : gb582 ≠ gb570)); clear HO580; clear BK570; clear HB; have HO580 := n0_; have BK570 := n1_; have HB := n2_; have BK582 := n3_; have GW582 := n4_; have GE582 := n5_; have NB570_582 := n6_; have NB582_570 := n7_; clear n0_ n1_ n2_ n3_ n4_ n5_ n6_ n7_; clear hb hbox hg; have hnb26 := NB582_570.out; have hnc26 := NB570_582.out; have hcz27_0 : w25.cell? ⟨gb582, 0, none⟩ = some (.int .i64 0) := (blk_cell BK582.out 0).trans rfl; have hcz27_1 : w25.cell? ⟨gb582, 1, none⟩ = some (.slice none 0 0) := (blk_cell BK582.out 1).trans rfl; have hfz27_0 := blk_frozen BK582.out 0; have hfz27_1 := blk_frozen BK582.out 1; obtain ⟨Ao28, co28, eo28⟩ := Kd.R_slice HO580.out; subst eo28) | ((with_reducible refine gate_callee (f := 28) rfl ?_); refine goesL_ (some 44) rfl rfl Try.func28 (by kernel_rfl) rfl #[.string a1] rfl (by (try simp only [List.map_toArray, List.map_cons, List.map_nil]); first | done | rfl | (simp only [List.length_drop, List.length_take]; rfl)) ?_; (with_reducible refine (shelfmarkref12_Unpack.calls kj4 a1 t583 t584 t587 _ A18.out).mono ?_); rintro e w29 ⟨v585, rfl, ho0, hb⟩; refine ⟨_, rfl, ?_⟩; have n0_ := Aside0.mk (Kd.R_elder' (by (with_reducible repeat (first | apply Kd.R_alloc | apply Kd.R_drewN | apply Kd.R_drew)); exact (Kd.R_mono (Kd.R_far (p := ⟨gb582, 1, none⟩) (Kd.R_far (p := ⟨gb582, 0, none⟩) (Kd.R_types HO580.out BK582.out (by decide)) (fun _ hk => hk.2) (.int .i64 t577)) (fun _ hk => hk.2) (.slice Ao28 t578.length co28)) (fun _ h_ => h_.1))) (Kd.R_base ho0) hb); have n1_ := Aside0.mk (Kd.R_lower (Kd.R_new' ho0 (Kd.R_lt (by (with_reducible repeat (first | apply Kd.R_alloc | apply Kd.R_drewN | apply Kd.R_drew)); exact (Kd.R_mono (Kd.R_far (p := ⟨gb582, 1, none⟩) (Kd.R_far (p := ⟨gb582, 0, none⟩) (Kd.R_types HO580.out BK582.out (by decide)) (fun _ hk => hk.2) (.int .i64 t577)) (fun _ hk => hk.2) (.slice Ao28 t578.length co28)) (fun _ h_ => h_.1))))) (below_size (hL HB.out))); have n2_ := Aside0.mk (blk_below (g := gb570) (o := .cells #[.int .i64 a0_0, .slice A0_1 l0_1.length c0_1] 24 (0, 0)) (by (with_reducible repeat (first | refine blk_drewN ?_ _ | refine blk_drew ?_ | refine blk_alloc ?_ _)); refine blk_far ?_ NB570_582.out _; (with_reducible repeat (first | refine blk_drewN ?_ _ | refine blk_drew ?_ | refine blk_alloc ?_ _)); refine blk_far ?_ NB570_582.out _; exact bL BK570.out) hb); have n3_ := Aside0.mk (blk_below (g := gb582) (o := .cells #[.int .i64 t577, .slice Ao28 t578.length co28] 24 (0, 0)) (by (with_reducible repeat (first | refine blk_drewN ?_ _ | refine blk_drew ?_ | refine blk_alloc ?_ _)); refine blk_put (cs := #[.int .i64 t577, .slice none 0 0]) ?_ 1 _ rfl; (with_reducible repeat (first | refine blk_drewN ?_ _ | refine blk_drew ?_ | refine blk_alloc ?_ _)); refine blk_put (cs := #[.int .i64 0, .slice none 0 0]) ?_ 0 _ rfl; exact bL BK582.out) hb); have n4_ := Aside0.mk (below_step (hL HB.out) hb); clear HO580; clear BK570; clear BK582; clear HB; have HO580 := n0_; have HO586 := n1_; have BK570 := n2_; have BK582 := n3_; have HB := n4_; clear n0_ n1_ n2_ n3_ n4_; (try clear hb); (try clear hb2); (try clear hk); (try clear hi); (try clear ho0)) | ((with_reducible refine gate_dst (N := 11) rfl ?_); (try (refine gate_guard (by rfl) ?_; dsimp only)); refine box_event ?hg (N := 11) ?hd (cs := #[.int .i64 0, .slice none 0 0]) (t := 24) ?hr ?_; (case hd => rfl); (case hg => rfl); (case hr => first | (go_simp; done) | (go_simp; rfl)); intro gb588 hg w30 hbox hb; have n0_ := Aside0.mk (Kd.R_below (rL HO580.out) hb); have n1_ := Aside0.mk (Kd.R_below (rL HO586.out) hb); have n2_ := Aside0.mk (blk_below BK570.out hb); have n3_ := Aside0.mk (blk_below BK582.out hb); have n4_ := Aside0.mk (below_step (hL HB.out) hb); have n5_ := Aside0.mk (hbox); have n6_ := Above.mk ((by rw [hg]; exact (below_size (hL HB.out)) : w.heap.size ≤ gb588)); have n7_ := Above.mk ((by rw [hg]; exact (below_size (hL HB.out)) : w.heap.size ≤ gb588)); have n8_ := Aside0.mk ((by rw [hg]; exact Nat.ne_of_lt (blk_lt (g := gb570) (o := .cells #[.int .i64 a0_0, .slice A0_1 l0_1.length c0_1] 24 (0, 0)) (bL BK570.out)) : gb570 ≠ gb588)); have n9_ := Aside0.mk ((by rw [hg]; exact Nat.ne_of_gt (blk_lt (g := gb570) (o := .cells #[.int .i64 a0_0, .slice A0_1 l0_1.length c0_1] 24 (0, 0)) (bL BK570.out)) : gb588 ≠ gb570)); have n10_ := Aside0.mk ((by rw [hg]; exact Nat.ne_of_lt (blk_lt (g := gb582) (o := .cells #[.int .i64 t577, .slice Ao28 t578.length co28] 24 (0, 0)) (bL BK582.out)) : gb582 ≠ gb588)); have n11_ := Aside0.mk ((by rw [hg]; exact Nat.ne_of_gt (blk_lt (g := gb582) (o := .cells #[.int .i64 t577, .slice Ao28 t578.length co28] 24 (0, 0)) (bL BK582.out)) : gb588 ≠ gb582)); clear HO580; clear HO586; clear BK570; clear BK582; clear HB; have HO580 := n0_; have HO586 := n1_; have BK570 := n2_; have BK582 := n3_; have HB := n4_; have BK588 := n5_; have GW588 := n6_; have GE588 := n7_; have NB570_588 := n8_; have NB588_570 := n9_; have NB582_588 := n10_; have NB588_582 := n11_; clear n0_ n1_ n2_ n3_ n4_ n5_ n6_ n7_ n8_ n9_ n10_ n11_; clear hb hbox hg; have hnb31 := NB588_570.out; have hnc31 := NB570_588.out; have hnb32 := NB588_582.out; have hnc32 := NB582_588.out; have hcz33_0 : w30.cell? ⟨gb588, 0, none⟩ = some (.int .i64 0) := (blk_cell BK588.out 0).trans rfl; have hcz33_1 : w30.cell? ⟨gb588, 1, none⟩ = some (.slice none 0 0) := (blk_cell BK588.out 1).trans rfl; have hfz33_0 := blk_frozen BK588.out 0; have hfz33_1 := blk_frozen BK588.out 1; obtain ⟨Ao34, co34, eo34⟩ := Kd.R_slice HO586.out; subst eo34))
     (try simp only [Act.put, List.setIfInBounds_toArray, List.set_cons_zero, List.set_cons_succ])
     go_cut [] (fun wc => ∃ (kq : Nat), Aside0 (shelfmarklaw12_AtlasPacks.j1 kq a1 t573 t574 t575 t576 t581 t587 t577 t578 t583 t584 = some r) ∧ Aside0 (kq ≤ kj4) ∧ Aside0 (Kd.R k46 46 wc w.heap.size (fun k_ => some k_ ≠ ((.slice Ao34 t584.length co34) : Value).ownBlock) (.slice Ao28 t578.length co28) t578) ∧ Aside0 (Kd.R k46 46 wc w.heap.size (fun k_ => some k_ ≠ ((.slice Ao28 t578.length co28) : Value).ownBlock) (.slice Ao34 t584.length co34) t584) ∧ Aside0 (wc.heap[gb570]? = some (.cells #[.int .i64 a0_0, (.slice A0_1 l0_1.length c0_1)] 24 (0, 0))) ∧ Aside0 (wc.heap[gb582]? = some (.cells #[.int .i64 t577, (.slice Ao28 t578.length co28)] 24 (0, 0))) ∧ Aside0 (wc.heap[gb588]? = some (.cells #[.int .i64 t583, (.slice Ao34 t584.length co34)] 24 (0, 0))) ∧ Aside0 (Below w.heap.size w wc))
     case first =>
      have H := HC19.out
      clear HC19
      by_cases c35 : t574 = 0
      ·rw [if_pos c35] at H
       have c35b0 : (t574 == 0) = true := beq_iff_eq.mpr c35
       have c35b1 : (t574 != 0) = false := bne_eq_false_iff_eq.mpr c35
       clear c35
       (first | rw [c35b0] | (simp only [i64_w, i32_w]; rw [c35b0]) | skip)
       replace H := Option.bind_eq_some_iff.mp H
       obtain ⟨⟨t589, t590, t593⟩, A360, H⟩ := H
       replace H : (if t593 = 0 then ((shelfmarkref12_Same.f kj4 t589 t590 a0_0 l0_1).bind fun t595 => (if t595 = true then (shelfmarklaw12_AtlasPacks.j1 kj4 a1 t573 t574 t575 t576 t581 t587 t577 t578 t583 t584) else (some false))) else (some false)) = some r := H
       have A36 := Aside0.mk A360
       clear A360
       by_cases c37 : t593 = 0
       ·rw [if_pos c37] at H
        have c37b0 : (t593 == 0) = true := beq_iff_eq.mpr c37
        have c37b1 : (t593 != 0) = false := bne_eq_false_iff_eq.mpr c37
        clear c37
        replace H := Option.bind_eq_some_iff.mp H
        obtain ⟨t595, A380, H⟩ := H
        replace H : (if t595 = true then (shelfmarklaw12_AtlasPacks.j1 kj4 a1 t573 t574 t575 t576 t581 t587 t577 t578 t583 t584) else (some false)) = some r := H
        have A38 := Aside0.mk A380
        clear A380
        by_cases c39 : t595 = true
        ·subst c39
         have H1 : (shelfmarklaw12_AtlasPacks.j1 kj4 a1 t573 t574 t575 t576 t581 t587 t577 t578 t583 t584) = some r := by rw [if_pos rfl] at H; exact H
         clear H
         have H := H1
         clear H1
         have H' := Aside0.mk H
         clear H
         go_wp2_with (first | ((with_reducible refine gate_callee (f := 27) rfl ?_); refine goesL_ (some 51) rfl rfl Try.func27 (by kernel_rfl) rfl #[.string t573] rfl (by (try simp only [List.map_toArray, List.map_cons, List.map_nil]); first | done | rfl | (simp only [List.length_drop, List.length_take]; rfl)) ?_; (with_reducible refine (atlas_Unpack.calls kj4 t573 t589 t590 t593 _ A36.out).mono ?_); rintro e w40 ⟨v591, rfl, ho0, hb⟩; refine ⟨_, rfl, ?_⟩; have n0_ := Aside0.mk (Kd.R_elder' (by (with_reducible repeat (first | apply Kd.R_alloc | apply Kd.R_drewN | apply Kd.R_drew)); exact (Kd.R_mono (Kd.R_far (p := ⟨gb588, 1, none⟩) (Kd.R_far (p := ⟨gb588, 0, none⟩) (Kd.R_types HO580.out BK588.out (by decide)) (fun _ hk => hk.2) (.int .i64 t583)) (fun _ hk => hk.2) (.slice Ao34 t584.length co34)) (fun _ h_ => h_.1))) (Kd.R_base ho0) hb); have n1_ := Aside0.mk (Kd.R_elder' (by (with_reducible repeat (first | apply Kd.R_alloc | apply Kd.R_drewN | apply Kd.R_drew)); exact (Kd.R_mono (Kd.R_far (p := ⟨gb588, 1, none⟩) (Kd.R_far (p := ⟨gb588, 0, none⟩) (Kd.R_types HO586.out BK588.out (by decide)) (fun _ hk => hk.2) (.int .i64 t583)) (fun _ hk => hk.2) (.slice Ao34 t584.length co34)) (fun _ h_ => h_.1))) (Kd.R_base ho0) hb); have n2_ := Aside0.mk (Kd.R_lower (Kd.R_new' (Kd.R_new' ho0 (Kd.R_lt (by (with_reducible repeat (first | apply Kd.R_alloc | apply Kd.R_drewN | apply Kd.R_drew)); exact (Kd.R_mono (Kd.R_far (p := ⟨gb588, 1, none⟩) (Kd.R_far (p := ⟨gb588, 0, none⟩) (Kd.R_types HO580.out BK588.out (by decide)) (fun _ hk => hk.2) (.int .i64 t583)) (fun _ hk => hk.2) (.slice Ao34 t584.length co34)) (fun _ h_ => h_.1))))) (Kd.R_lt (by (with_reducible repeat (first | apply Kd.R_alloc | apply Kd.R_drewN | apply Kd.R_drew)); exact (Kd.R_mono (Kd.R_far (p := ⟨gb588, 1, none⟩) (Kd.R_far (p := ⟨gb588, 0, none⟩) (Kd.R_types HO586.out BK588.out (by decide)) (fun _ hk => hk.2) (.int .i64 t583)) (fun _ hk => hk.2) (.slice Ao34 t584.length co34)) (fun _ h_ => h_.1))))) (below_size (hL HB.out))); have n3_ := Aside0.mk (blk_below (g := gb570) (o := .cells #[.int .i64 a0_0, .slice A0_1 l0_1.length c0_1] 24 (0, 0)) (by (with_reducible repeat (first | refine blk_drewN ?_ _ | refine blk_drew ?_ | refine blk_alloc ?_ _)); refine blk_far ?_ NB570_588.out _; (with_reducible repeat (first | refine blk_drewN ?_ _ | refine blk_drew ?_ | refine blk_alloc ?_ _)); refine blk_far ?_ NB570_588.out _; exact bL BK570.out) hb); have n4_ := Aside0.mk (blk_below (g := gb582) (o := .cells #[.int .i64 t577, .slice Ao28 t578.length co28] 24 (0, 0)) (by (with_reducible repeat (first | refine blk_drewN ?_ _ | refine blk_drew ?_ | refine blk_alloc ?_ _)); refine blk_far ?_ NB582_588.out _; (with_reducible repeat (first | refine blk_drewN ?_ _ | refine blk_drew ?_ | refine blk_alloc ?_ _)); refine blk_far ?_ NB582_588.out _; exact bL BK582.out) hb); have n5_ := Aside0.mk (blk_below (g := gb588) (o := .cells #[.int .i64 t583, .slice Ao34 t584.length co34] 24 (0, 0)) (by (with_reducible repeat (first | refine blk_drewN ?_ _ | refine blk_drew ?_ | refine blk_alloc ?_ _)); refine blk_put (cs := #[.int .i64 t583, .slice none 0 0]) ?_ 1 _ rfl; (with_reducible repeat (first | refine blk_drewN ?_ _ | refine blk_drew ?_ | refine blk_alloc ?_ _)); refine blk_put (cs := #[.int .i64 0, .slice none 0 0]) ?_ 0 _ rfl; exact bL BK588.out) hb); have n6_ := Aside0.mk (below_step (hL HB.out) hb); clear HO580; clear HO586; clear BK570; clear BK582; clear BK588; clear HB; have HO580 := n0_; have HO586 := n1_; have HO592 := n2_; have BK570 := n3_; have BK582 := n4_; have BK588 := n5_; have HB := n6_; clear n0_ n1_ n2_ n3_ n4_ n5_ n6_; (try clear hb); (try clear hb2); (try clear hk); (try clear hi); (try clear ho0)) | ((with_reducible refine gate_dst (N := 13) rfl ?_); (try (refine gate_guard (by rfl) ?_; dsimp only)); refine box_event ?hg (N := 13) ?hd (cs := #[.int .i64 0, .slice none 0 0]) (t := 24) ?hr ?_; (case hd => rfl); (case hg => rfl); (case hr => first | (go_simp; done) | (go_simp; rfl)); intro gb594 hg w41 hbox hb; have n0_ := Aside0.mk (Kd.R_below (rL HO580.out) hb); have n1_ := Aside0.mk (Kd.R_below (rL HO586.out) hb); have n2_ := Aside0.mk (Kd.R_below (rL HO592.out) hb); have n3_ := Aside0.mk (blk_below BK570.out hb); have n4_ := Aside0.mk (blk_below BK582.out hb); have n5_ := Aside0.mk (blk_below BK588.out hb); have n6_ := Aside0.mk (below_step (hL HB.out) hb); have n7_ := Aside0.mk (hbox); have n8_ := Above.mk ((by rw [hg]; exact (below_size (hL HB.out)) : w.heap.size ≤ gb594)); have n9_ := Above.mk ((by rw [hg]; exact (below_size (hL HB.out)) : w.heap.size ≤ gb594)); have n10_ := Aside0.mk ((by rw [hg]; exact Nat.ne_of_lt (blk_lt (g := gb570) (o := .cells #[.int .i64 a0_0, .slice A0_1 l0_1.length c0_1] 24 (0, 0)) (bL BK570.out)) : gb570 ≠ gb594)); have n11_ := Aside0.mk ((by rw [hg]; exact Nat.ne_of_gt (blk_lt (g := gb570) (o := .cells #[.int .i64 a0_0, .slice A0_1 l0_1.length c0_1] 24 (0, 0)) (bL BK570.out)) : gb594 ≠ gb570)); have n12_ := Aside0.mk ((by rw [hg]; exact Nat.ne_of_lt (blk_lt (g := gb582) (o := .cells #[.int .i64 t577, .slice Ao28 t578.length co28] 24 (0, 0)) (bL BK582.out)) : gb582 ≠ gb594)); have n13_ := Aside0.mk ((by rw [hg]; exact Nat.ne_of_gt (blk_lt (g := gb582) (o := .cells #[.int .i64 t577, .slice Ao28 t578.length co28] 24 (0, 0)) (bL BK582.out)) : gb594 ≠ gb582)); have n14_ := Aside0.mk ((by rw [hg]; exact Nat.ne_of_lt (blk_lt (g := gb588) (o := .cells #[.int .i64 t583, .slice Ao34 t584.length co34] 24 (0, 0)) (bL BK588.out)) : gb588 ≠ gb594)); have n15_ := Aside0.mk ((by rw [hg]; exact Nat.ne_of_gt (blk_lt (g := gb588) (o := .cells #[.int .i64 t583, .slice Ao34 t584.length co34] 24 (0, 0)) (bL BK588.out)) : gb594 ≠ gb588)); clear HO580; clear HO586; clear HO592; clear BK570; clear BK582; clear BK588; clear HB; have HO580 := n0_; have HO586 := n1_; have HO592 := n2_; have BK570 := n3_; have BK582 := n4_; have BK588 := n5_; have HB := n6_; have BK594 := n7_; have GW594 := n8_; have GE594 := n9_; have NB570_594 := n10_; have NB594_570 := n11_; have NB582_594 := n12_; have NB594_582 := n13_; have NB588_594 := n14_; have NB594_588 := n15_; clear n0_ n1_ n2_ n3_ n4_ n5_ n6_ n7_ n8_ n9_ n10_ n11_ n12_ n13_ n14_ n15_; clear hb hbox hg; have hnb42 := NB594_570.out; have hnc42 := NB570_594.out; have hnb43 := NB594_582.out; have hnc43 := NB582_594.out; have hnb44 := NB594_588.out; have hnc44 := NB588_594.out; have hcz45_0 : w41.cell? ⟨gb594, 0, none⟩ = some (.int .i64 0) := (blk_cell BK594.out 0).trans rfl; have hcz45_1 : w41.cell? ⟨gb594, 1, none⟩ = some (.slice none 0 0) := (blk_cell BK594.out 1).trans rfl; have hfz45_0 := blk_frozen BK594.out 0; have hfz45_1 := blk_frozen BK594.out 1; obtain ⟨Ao46, co46, eo46⟩ := Kd.R_slice HO592.out; subst eo46; have hnb47 := NB570_582.out; have hnc47 := NB582_570.out; have hnb48 := NB570_588.out; have hnc48 := NB588_570.out; have hcz49_0 : w41.cell? ⟨gb570, 0, none⟩ = some (.int .i64 a0_0) := (blk_cell BK570.out 0).trans rfl; have hcz49_1 : w41.cell? ⟨gb570, 1, none⟩ = some (.slice A0_1 l0_1.length c0_1) := (blk_cell BK570.out 1).trans rfl; have hfz49_0 := blk_frozen BK570.out 0; have hfz49_1 := blk_frozen BK570.out 1) | (go_at_call 19; (with_reducible refine (shelfmarkref12_Same.calls kj4 t589 _ _ t590 a0_0 _ _ l0_1 true _ ?side1 ?side2 ?side3 ?side4 A38.out).mono ?_); (case side1 => refine (Kd.R_reads' (e := 46) (base := w.heap.size) (ok := fun k_ => ((True ∧ some k_ ≠ (.slice Ao28 t578.length co28 : Value).ownBlock) ∧ some k_ ≠ (.slice Ao34 t584.length co34 : Value).ownBlock)) (n := t590.length) (c := co46) ?_).2.2; exact (by (with_reducible repeat (first | apply Kd.R_alloc | apply Kd.R_drewN | apply Kd.R_drew)); exact (Kd.R_mono (Kd.R_far (p := ⟨gb594, 1, none⟩) (Kd.R_far (p := ⟨gb594, 0, none⟩) (Kd.R_types HO592.out BK594.out (by decide)) (fun _ hk => hk.2) (.int .i64 t589)) (fun _ hk => hk.2) (.slice Ao46 t590.length co46)) (fun _ h_ => h_.1)))); (case side2 => exact (Kd.R_reads' HO592.out).2.1); (case side3 => exact Kd.C_below HR0_1.out (hL HB.out)); (case side4 => exact HC0_1.out); rintro e w50 ⟨rfl, hb⟩; have n0_ := Aside0.mk (Kd.R_below (by (with_reducible repeat (first | apply Kd.R_alloc | apply Kd.R_drewN | apply Kd.R_drew)); exact (Kd.R_mono (Kd.R_far (p := ⟨gb594, 1, none⟩) (Kd.R_far (p := ⟨gb594, 0, none⟩) (Kd.R_types HO580.out BK594.out (by decide)) (fun _ hk => hk.2) (.int .i64 t589)) (fun _ hk => hk.2) (.slice Ao46 t590.length co46)) (fun _ h_ => h_.1))) hb); have n1_ := Aside0.mk (Kd.R_below (by (with_reducible repeat (first | apply Kd.R_alloc | apply Kd.R_drewN | apply Kd.R_drew)); exact (Kd.R_mono (Kd.R_far (p := ⟨gb594, 1, none⟩) (Kd.R_far (p := ⟨gb594, 0, none⟩) (Kd.R_types HO586.out BK594.out (by decide)) (fun _ hk => hk.2) (.int .i64 t589)) (fun _ hk => hk.2) (.slice Ao46 t590.length co46)) (fun _ h_ => h_.1))) hb); have n2_ := Aside0.mk (Kd.R_below (by (with_reducible repeat (first | apply Kd.R_alloc | apply Kd.R_drewN | apply Kd.R_drew)); exact (Kd.R_mono (Kd.R_far (p := ⟨gb594, 1, none⟩) (Kd.R_far (p := ⟨gb594, 0, none⟩) (Kd.R_types HO592.out BK594.out (by decide)) (fun _ hk => hk.2) (.int .i64 t589)) (fun _ hk => hk.2) (.slice Ao46 t590.length co46)) (fun _ h_ => h_.1))) hb); have n3_ := Aside0.mk (blk_below (g := gb570) (o := .cells #[.int .i64 a0_0, .slice A0_1 l0_1.length c0_1] 24 (0, 0)) (by (with_reducible repeat (first | refine blk_drewN ?_ _ | refine blk_drew ?_ | refine blk_alloc ?_ _)); refine blk_far ?_ NB570_594.out _; (with_reducible repeat (first | refine blk_drewN ?_ _ | refine blk_drew ?_ | refine blk_alloc ?_ _)); refine blk_far ?_ NB570_594.out _; exact bL BK570.out) hb); have n4_ := Aside0.mk (blk_below (g := gb582) (o := .cells #[.int .i64 t577, .slice Ao28 t578.length co28] 24 (0, 0)) (by (with_reducible repeat (first | refine blk_drewN ?_ _ | refine blk_drew ?_ | refine blk_alloc ?_ _)); refine blk_far ?_ NB582_594.out _; (with_reducible repeat (first | refine blk_drewN ?_ _ | refine blk_drew ?_ | refine blk_alloc ?_ _)); refine blk_far ?_ NB582_594.out _; exact bL BK582.out) hb); have n5_ := Aside0.mk (blk_below (g := gb588) (o := .cells #[.int .i64 t583, .slice Ao34 t584.length co34] 24 (0, 0)) (by (with_reducible repeat (first | refine blk_drewN ?_ _ | refine blk_drew ?_ | refine blk_alloc ?_ _)); refine blk_far ?_ NB588_594.out _; (with_reducible repeat (first | refine blk_drewN ?_ _ | refine blk_drew ?_ | refine blk_alloc ?_ _)); refine blk_far ?_ NB588_594.out _; exact bL BK588.out) hb); have n6_ := Aside0.mk (blk_below (g := gb594) (o := .cells #[.int .i64 t589, .slice Ao46 t590.length co46] 24 (0, 0)) (by (with_reducible repeat (first | refine blk_drewN ?_ _ | refine blk_drew ?_ | refine blk_alloc ?_ _)); refine blk_put (cs := #[.int .i64 t589, .slice none 0 0]) ?_ 1 _ rfl; (with_reducible repeat (first | refine blk_drewN ?_ _ | refine blk_drew ?_ | refine blk_alloc ?_ _)); refine blk_put (cs := #[.int .i64 0, .slice none 0 0]) ?_ 0 _ rfl; exact bL BK594.out) hb); have n7_ := Aside0.mk (below_step (hL HB.out) hb); clear HO580; clear HO586; clear HO592; clear BK570; clear BK582; clear BK588; clear BK594; clear HB; have HO580 := n0_; have HO586 := n1_; have HO592 := n2_; have BK570 := n3_; have BK582 := n4_; have BK588 := n5_; have BK594 := n6_; have HB := n7_; clear n0_ n1_ n2_ n3_ n4_ n5_ n6_ n7_; (try clear hb); (try clear hb2); (try clear hk); (try clear hi)))
         go_meet
         case rel => exact ⟨_, H', ⟨by have := HJ4.out; first | omega | exact Nat.le_refl _⟩, ⟨by (with_reducible repeat (first | apply Kd.R_alloc | apply Kd.R_drewN | apply Kd.R_drew)); exact Kd.R_mono HO580.out (fun _ hk => hk.1.2)⟩, ⟨by (with_reducible repeat (first | apply Kd.R_alloc | apply Kd.R_drewN | apply Kd.R_drew)); exact Kd.R_mono HO586.out (fun _ hk => hk.1.2)⟩, ⟨by exact bL BK570.out⟩, ⟨by exact bL BK582.out⟩, ⟨by exact bL BK588.out⟩, ⟨hL HB.out⟩⟩
        ·replace c39 := Bool.eq_false_iff.mpr c39
         subst c39
         have H1 : (some false) = some r := by rw [if_neg (show ¬ (false = true) by decide)] at H; exact H
         clear H
         have H := H1
         clear H1
         obtain rfl := Option.some.inj H
         exact absurd HLAW.out (by decide)
       ·rw [if_neg c37] at H
        have c37b0 : (t593 == 0) = false := beq_eq_false_iff_ne.mpr c37
        have c37b1 : (t593 != 0) = true := bne_iff_ne.mpr c37
        obtain rfl := Option.some.inj H
        exact absurd HLAW.out (by decide)
      ·rw [if_neg c35] at H
       have c35b0 : (t574 == 0) = false := beq_eq_false_iff_ne.mpr c35
       have c35b1 : (t574 != 0) = true := bne_iff_ne.mpr c35
       (first | rw [c35b0] | (simp only [i64_w, i32_w]; rw [c35b0]) | skip)
       have H' := Aside0.mk H
       clear H
       go_wp2
       go_meet
       case rel => exact ⟨_, H', ⟨by have := HJ4.out; first | omega | exact Nat.le_refl _⟩, ⟨by (with_reducible repeat (first | apply Kd.R_alloc | apply Kd.R_drewN | apply Kd.R_drew)); exact Kd.R_mono (Kd.R_far (p := ⟨gb588, 1, none⟩) (Kd.R_far (p := ⟨gb588, 0, none⟩) (Kd.R_types HO580.out BK588.out (by decide)) (fun _ hk => hk.2) (.int .i64 t583)) (fun _ hk => hk.2) (.slice Ao34 t584.length co34)) (fun _ hk => hk.1.2)⟩, ⟨by (with_reducible repeat (first | apply Kd.R_alloc | apply Kd.R_drewN | apply Kd.R_drew)); exact Kd.R_mono (Kd.R_far (p := ⟨gb588, 1, none⟩) (Kd.R_far (p := ⟨gb588, 0, none⟩) (Kd.R_types HO586.out BK588.out (by decide)) (fun _ hk => hk.2) (.int .i64 t583)) (fun _ hk => hk.2) (.slice Ao34 t584.length co34)) (fun _ hk => hk.1.2)⟩, ⟨by (with_reducible repeat (first | refine blk_drewN ?_ _ | refine blk_drew ?_ | refine blk_alloc ?_ _)); refine blk_far ?_ NB570_588.out _; (with_reducible repeat (first | refine blk_drewN ?_ _ | refine blk_drew ?_ | refine blk_alloc ?_ _)); refine blk_far ?_ NB570_588.out _; exact bL BK570.out⟩, ⟨by (with_reducible repeat (first | refine blk_drewN ?_ _ | refine blk_drew ?_ | refine blk_alloc ?_ _)); refine blk_far ?_ NB582_588.out _; (with_reducible repeat (first | refine blk_drewN ?_ _ | refine blk_drew ?_ | refine blk_alloc ?_ _)); refine blk_far ?_ NB582_588.out _; exact bL BK582.out⟩, ⟨by (with_reducible repeat (first | refine blk_drewN ?_ _ | refine blk_drew ?_ | refine blk_alloc ?_ _)); refine blk_put (cs := #[.int .i64 t583, .slice none 0 0]) ?_ 1 _ rfl; (with_reducible repeat (first | refine blk_drewN ?_ _ | refine blk_drew ?_ | refine blk_alloc ?_ _)); refine blk_put (cs := #[.int .i64 0, .slice none 0 0]) ?_ 0 _ rfl; exact bL BK588.out⟩, ⟨hL HB.out⟩⟩
     case rest =>
      clear HC19
      try clear c1
      try clear c2
      try clear p2
      try clear c3
      try clear c4
      try clear c8
      try clear c9
      try clear c10
      try clear c14
      try clear c25
      try clear c26
      try clear c27
      try clear c28
      try clear c31
      try clear c32
      try clear c35
      try clear c35b0
      try clear c35b0z
      try clear c35b1
      try clear c35b1z
      try clear c37
      try clear c37b0
      try clear c37b0z
      try clear c37b1
      try clear c37b1z
      try clear c39
      try clear c42
      try clear c43
      try clear c44
      try clear c47
      try clear c48
      try clear hcz10_0
      try clear hcz10_1
      try clear hcz12_0
      try clear hcz12_1
      try clear hcz20_0
      try clear hcz20_1
      try clear hcz22_0
      try clear hcz22_1
      try clear hcz27_0
      try clear hcz27_1
      try clear hcz33_0
      try clear hcz33_1
      try clear hcz45_0
      try clear hcz45_1
      try clear hcz49_0
      try clear hcz49_1
      try clear hfz10_0
      try clear hfz10_1
      try clear hfz12_0
      try clear hfz12_1
      try clear hfz20_0
      try clear hfz20_1
      try clear hfz22_0
      try clear hfz22_1
      try clear hfz27_0
      try clear hfz27_1
      try clear hfz33_0
      try clear hfz33_1
      try clear hfz45_0
      try clear hfz45_1
      try clear hfz49_0
      try clear hfz49_1
      try clear p2
      obtain ⟨kq, HA, HJ18, HO_583001, HO_589001, BK570, BK582, BK588, HB⟩ := hcut
      cases kq with
      | zero => exact absurd HA.out (by simp [shelfmarklaw12_AtlasPacks.j1])
      | succ kj18 =>
       have H := HA.out
       clear HA
       simp only [shelfmarklaw12_AtlasPacks.j1] at H
       by_cases c51 : t581 = 0
       ·rw [if_pos c51] at H
        have c51b0 : (t581 == 0) = true := beq_iff_eq.mpr c51
        have c51b1 : (t581 != 0) = false := bne_eq_false_iff_eq.mpr c51
        clear c51
        replace H := Option.bind_eq_some_iff.mp H
        obtain ⟨⟨t596, t597⟩, A520, H⟩ := H
        replace H : (if t597 = 0 then (if t596.toList = a1.toList then (if t573.toList = t575.toList then (if t574 = t576 then (if t581 = t587 then ((shelfmarkref12_Same.f kj18 t577 t578 t583 t584).bind fun t598 => (some t598)) else (some false)) else (some false)) else (some false)) else (some false)) else (some false)) = some r := H
        have A52 := Aside0.mk A520
        clear A520
        by_cases c53 : t597 = 0
        ·rw [if_pos c53] at H
         have c53b0 : (t597 == 0) = true := beq_iff_eq.mpr c53
         have c53b1 : (t597 != 0) = false := bne_eq_false_iff_eq.mpr c53
         clear c53
         by_cases c54 : t596.toList = a1.toList
         ·rw [if_pos c54] at H
          have c54b0 : (t596.toList == a1.toList) = true := beq_iff_eq.mpr c54
          have c54b1 : (t596.toList != a1.toList) = false := bne_eq_false_iff_eq.mpr c54
          clear c54
          by_cases c55 : t573.toList = t575.toList
          ·rw [if_pos c55] at H
           have c55b0 : (t573.toList == t575.toList) = true := beq_iff_eq.mpr c55
           have c55b1 : (t573.toList != t575.toList) = false := bne_eq_false_iff_eq.mpr c55
           clear c55
           by_cases c56 : t574 = t576
           ·rw [if_pos c56] at H
            have c56b0 : (t574 == t576) = true := beq_iff_eq.mpr c56
            have c56b1 : (t574 != t576) = false := bne_eq_false_iff_eq.mpr c56
            clear c56
            by_cases c57 : t581 = t587
            ·rw [if_pos c57] at H
             have c57b0 : (t581 == t587) = true := beq_iff_eq.mpr c57
             have c57b1 : (t581 != t587) = false := bne_eq_false_iff_eq.mpr c57
             clear c57
             replace H := Option.bind_eq_some_iff.mp H
             obtain ⟨t598, A580, H⟩ := H
             replace H : (some t598) = some r := H
             have A58 := Aside0.mk A580
             clear A580
             obtain rfl := Option.some.inj H
             simp only [Option.some.injEq, Prod.mk.injEq] at H
             obtain ⟨rfl⟩ := H
             have hnb59 := NB582_570.out
             have hnc59 := NB570_582.out
             have hnb60 := NB582_588.out
             have hnc60 := NB588_582.out
             have hcz61_0 : wc.cell? ⟨gb582, 0, none⟩ = some (.int .i64 t577) := (blk_cell BK582.out 0).trans rfl
             have hcz61_1 : wc.cell? ⟨gb582, 1, none⟩ = some (.slice Ao28 t578.length co28) := (blk_cell BK582.out 1).trans rfl
             have hfz61_0 := blk_frozen BK582.out 0
             have hfz61_1 := blk_frozen BK582.out 1
             go_wp2_with (first | ((with_reducible refine gate_callee (f := 25) rfl ?_); refine goesL_ (some 66) rfl rfl Try.func25 (by kernel_rfl) rfl #[.agg #[.int .i64 t577, .slice Ao28 t578.length co28]] rfl (by (try simp only [List.map_toArray, List.map_cons, List.map_nil]); first | done | rfl | (simp only [List.length_drop, List.length_take]; rfl)) ?_; (with_reducible refine (atlas_Pack.calls kj18 t577 _ _ t578 t596 t597 _ ?side1 ?side2 A52.out).mono ?_); (case side1 => repeat (first | exact (Kd.R_reads' HO_583001.out).2.2 | (with_reducible refine Kd.C_alloc ?_ _) | (with_reducible refine Kd.C_drewN ?_ _) | (with_reducible refine Kd.C_drew ?_))); (case side2 => exact (Kd.R_reads' HO_583001.out).2.1); rintro e w62 ⟨rfl, hb⟩; refine ⟨_, rfl, ?_⟩; have n0_ := Aside0.mk (Kd.R_below (rL HO_583001.out) hb); have n1_ := Aside0.mk (Kd.R_below (rL HO_589001.out) hb); have n2_ := Aside0.mk (blk_below BK570.out hb); have n3_ := Aside0.mk (blk_below BK582.out hb); have n4_ := Aside0.mk (blk_below BK588.out hb); have n5_ := Aside0.mk (below_step (hL HB.out) hb); clear HO_583001; clear HO_589001; clear BK570; clear BK582; clear BK588; clear HB; have HO_583001 := n0_; have HO_589001 := n1_; have BK570 := n2_; have BK582 := n3_; have BK588 := n4_; have HB := n5_; clear n0_ n1_ n2_ n3_ n4_ n5_; (try clear hb); (try clear hb2); (try clear hk); (try clear hi); have hcz63_0 : w62.cell? ⟨gb582, 0, none⟩ = some (.int .i64 t577) := (blk_cell BK582.out 0).trans rfl; have hcz63_1 : w62.cell? ⟨gb582, 1, none⟩ = some (.slice Ao28 t578.length co28) := (blk_cell BK582.out 1).trans rfl; have hfz63_0 := blk_frozen BK582.out 0; have hfz63_1 := blk_frozen BK582.out 1; have hnb64 := NB588_570.out; have hnc64 := NB570_588.out; have hcz65_0 : w62.cell? ⟨gb588, 0, none⟩ = some (.int .i64 t583) := (blk_cell BK588.out 0).trans rfl; have hcz65_1 : w62.cell? ⟨gb588, 1, none⟩ = some (.slice Ao34 t584.length co34) := (blk_cell BK588.out 1).trans rfl; have hfz65_0 := blk_frozen BK588.out 0; have hfz65_1 := blk_frozen BK588.out 1) | (go_at_call 19; (with_reducible refine (shelfmarkref12_Same.calls kj18 t577 _ _ t578 t583 _ _ t584 t598 _ ?side1 ?side2 ?side3 ?side4 A58.out).mono ?_); (case side1 => repeat (first | exact (Kd.R_reads' HO_583001.out).2.2 | (with_reducible refine Kd.C_alloc ?_ _) | (with_reducible refine Kd.C_drewN ?_ _) | (with_reducible refine Kd.C_drew ?_))); (case side2 => exact (Kd.R_reads' HO_583001.out).2.1); (case side3 => repeat (first | exact (Kd.R_reads' HO_589001.out).2.2 | (with_reducible refine Kd.C_alloc ?_ _) | (with_reducible refine Kd.C_drewN ?_ _) | (with_reducible refine Kd.C_drew ?_))); (case side4 => exact (Kd.R_reads' HO_589001.out).2.1); rintro e w66 ⟨rfl, hb⟩; have n0_ := Aside0.mk (Kd.R_below (rL HO_583001.out) hb); have n1_ := Aside0.mk (Kd.R_below (rL HO_589001.out) hb); have n2_ := Aside0.mk (blk_below BK570.out hb); have n3_ := Aside0.mk (blk_below BK582.out hb); have n4_ := Aside0.mk (blk_below BK588.out hb); have n5_ := Aside0.mk (below_step (hL HB.out) hb); clear HO_583001; clear HO_589001; clear BK570; clear BK582; clear BK588; clear HB; have HO_583001 := n0_; have HO_589001 := n1_; have BK570 := n2_; have BK582 := n3_; have BK588 := n4_; have HB := n5_; clear n0_ n1_ n2_ n3_ n4_ n5_; (try clear hb); (try clear hb2); (try clear hk); (try clear hi)))
             go_ret
             exact ⟨by first | rfl | (simp [errW_none, errW_some] <;> rfl) | (simp [*, errW_none, errW_some] <;> rfl), hL HB.out⟩
            ·rw [if_neg c57] at H
             have c57b0 : (t581 == t587) = false := beq_eq_false_iff_ne.mpr c57
             have c57b1 : (t581 != t587) = true := bne_iff_ne.mpr c57
             obtain rfl := Option.some.inj H
             exact absurd HLAW.out (by decide)
           ·rw [if_neg c56] at H
            have c56b0 : (t574 == t576) = false := beq_eq_false_iff_ne.mpr c56
            have c56b1 : (t574 != t576) = true := bne_iff_ne.mpr c56
            obtain rfl := Option.some.inj H
            exact absurd HLAW.out (by decide)
          ·rw [if_neg c55] at H
           have c55b0 : (t573.toList == t575.toList) = false := beq_eq_false_iff_ne.mpr c55
           have c55b1 : (t573.toList != t575.toList) = true := bne_iff_ne.mpr c55
           obtain rfl := Option.some.inj H
           exact absurd HLAW.out (by decide)
         ·rw [if_neg c54] at H
          have c54b0 : (t596.toList == a1.toList) = false := beq_eq_false_iff_ne.mpr c54
          have c54b1 : (t596.toList != a1.toList) = true := bne_iff_ne.mpr c54
          obtain rfl := Option.some.inj H
          exact absurd HLAW.out (by decide)
        ·rw [if_neg c53] at H
         have c53b0 : (t597 == 0) = false := beq_eq_false_iff_ne.mpr c53
         have c53b1 : (t597 != 0) = true := bne_iff_ne.mpr c53
         obtain rfl := Option.some.inj H
         exact absurd HLAW.out (by decide)
       ·rw [if_neg c51] at H
        have c51b0 : (t581 == 0) = false := beq_eq_false_iff_ne.mpr c51
        have c51b1 : (t581 != 0) = true := bne_iff_ne.mpr c51
        by_cases c67 : t573.toList = t575.toList
        ·rw [if_pos c67] at H
         have c67b0 : (t573.toList == t575.toList) = true := beq_iff_eq.mpr c67
         have c67b1 : (t573.toList != t575.toList) = false := bne_eq_false_iff_eq.mpr c67
         clear c67
         by_cases c68 : t574 = t576
         ·rw [if_pos c68] at H
          have c68b0 : (t574 == t576) = true := beq_iff_eq.mpr c68
          have c68b1 : (t574 != t576) = false := bne_eq_false_iff_eq.mpr c68
          clear c68
          by_cases c69 : t581 = t587
          ·rw [if_pos c69] at H
           have c69b0 : (t581 == t587) = true := beq_iff_eq.mpr c69
           have c69b1 : (t581 != t587) = false := bne_eq_false_iff_eq.mpr c69
           clear c69
           replace H := Option.bind_eq_some_iff.mp H
           obtain ⟨t599, A700, H⟩ := H
           replace H : (some t599) = some r := H
           have A70 := Aside0.mk A700
           clear A700
           obtain rfl := Option.some.inj H
           simp only [Option.some.injEq, Prod.mk.injEq] at H
           obtain ⟨rfl⟩ := H
           have hnb71 := NB582_570.out
           have hnc71 := NB570_582.out
           have hnb72 := NB582_588.out
           have hnc72 := NB588_582.out
           have hcz73_0 : wc.cell? ⟨gb582, 0, none⟩ = some (.int .i64 t577) := (blk_cell BK582.out 0).trans rfl
           have hcz73_1 : wc.cell? ⟨gb582, 1, none⟩ = some (.slice Ao28 t578.length co28) := (blk_cell BK582.out 1).trans rfl
           have hfz73_0 := blk_frozen BK582.out 0
           have hfz73_1 := blk_frozen BK582.out 1
           have hnb74 := NB588_570.out
           have hnc74 := NB570_588.out
           have hcz75_0 : wc.cell? ⟨gb588, 0, none⟩ = some (.int .i64 t583) := (blk_cell BK588.out 0).trans rfl
           have hcz75_1 : wc.cell? ⟨gb588, 1, none⟩ = some (.slice Ao34 t584.length co34) := (blk_cell BK588.out 1).trans rfl
           have hfz75_0 := blk_frozen BK588.out 0
           have hfz75_1 := blk_frozen BK588.out 1
           go_wp2_with (first | (go_at_call 19; (with_reducible refine (shelfmarkref12_Same.calls kj18 t577 _ _ t578 t583 _ _ t584 t599 _ ?side1 ?side2 ?side3 ?side4 A70.out).mono ?_); (case side1 => repeat (first | exact (Kd.R_reads' HO_583001.out).2.2 | (with_reducible refine Kd.C_alloc ?_ _) | (with_reducible refine Kd.C_drewN ?_ _) | (with_reducible refine Kd.C_drew ?_))); (case side2 => exact (Kd.R_reads' HO_583001.out).2.1); (case side3 => repeat (first | exact (Kd.R_reads' HO_589001.out).2.2 | (with_reducible refine Kd.C_alloc ?_ _) | (with_reducible refine Kd.C_drewN ?_ _) | (with_reducible refine Kd.C_drew ?_))); (case side4 => exact (Kd.R_reads' HO_589001.out).2.1); rintro e w76 ⟨rfl, hb⟩; have n0_ := Aside0.mk (Kd.R_below (rL HO_583001.out) hb); have n1_ := Aside0.mk (Kd.R_below (rL HO_589001.out) hb); have n2_ := Aside0.mk (blk_below BK570.out hb); have n3_ := Aside0.mk (blk_below BK582.out hb); have n4_ := Aside0.mk (blk_below BK588.out hb); have n5_ := Aside0.mk (below_step (hL HB.out) hb); clear HO_583001; clear HO_589001; clear BK570; clear BK582; clear BK588; clear HB; have HO_583001 := n0_; have HO_589001 := n1_; have BK570 := n2_; have BK582 := n3_; have BK588 := n4_; have HB := n5_; clear n0_ n1_ n2_ n3_ n4_ n5_; (try clear hb); (try clear hb2); (try clear hk); (try clear hi)))
           go_ret
           exact ⟨by first | rfl | (simp [errW_none, errW_some] <;> rfl) | (simp [*, errW_none, errW_some] <;> rfl), hL HB.out⟩
          ·rw [if_neg c69] at H
           have c69b0 : (t581 == t587) = false := beq_eq_false_iff_ne.mpr c69
           have c69b1 : (t581 != t587) = true := bne_iff_ne.mpr c69
           obtain rfl := Option.some.inj H
           exact absurd HLAW.out (by decide)
         ·rw [if_neg c68] at H
          have c68b0 : (t574 == t576) = false := beq_eq_false_iff_ne.mpr c68
          have c68b1 : (t574 != t576) = true := bne_iff_ne.mpr c68
          obtain rfl := Option.some.inj H
          exact absurd HLAW.out (by decide)
        ·rw [if_neg c67] at H
         have c67b0 : (t573.toList == t575.toList) = false := beq_eq_false_iff_ne.mpr c67
         have c67b1 : (t573.toList != t575.toList) = true := bne_iff_ne.mpr c67
         obtain rfl := Option.some.inj H
         exact absurd HLAW.out (by decide)
 ·replace c4 := Bool.eq_false_iff.mpr c4
  subst c4
  have H1 : (some false) = some r := by rw [if_neg (show ¬ (false = true) by decide)] at H; exact H
  clear H
  have H := H1
  clear H1
  obtain rfl := Option.some.inj H
  exact absurd HLAW.out (by decide)

end Go.Proofs.Ytmgjccpolkhhhaa.PAll
