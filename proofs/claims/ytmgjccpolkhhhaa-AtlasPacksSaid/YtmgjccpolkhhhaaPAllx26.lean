-- Written by a program of this session for this claim (mp.py, over the kit's print); Lean checks it.
import Derived.Test.YtmgjccpolkhhhaaPAllx0
import Derived.Test.YtmgjccpolkhhhaaPAllx24
import Derived.Test.YtmgjccpolkhhhaaPAllx25
namespace Go.Proofs.Ytmgjccpolkhhhaa.PAll
open Go.RowKit Go.Proofs.YtmgjccpolkhhhaaW.PrintWords Go.Proofs.YtmgjccpolkhhhaaW.PrintLast Go.Proofs.YtmgjccpolkhhhaaW.PrintMore Go.Proofs.Ytmgjccpolkhhhaa.Fv Go.Proofs.Ytmgjccpolkhhhaa.Hl
attribute [local go_sem] max2_int min2_int max_two min_two max_three min_three max_four min_four str_gtr str_leq str_geq cell_set2   -- for this text's walks alone
set_option linter.unusedVariables false
set_option linter.unusedSimpArgs false

/-! ### atlas_read: function 48 -/
mutual
def atlas_read.j0 : Nat → List Int → Int → Int → Int → Bool → Int → Option (Int × (List (S46)) × Int × Int)
 | 0, _, _, _, _, _, _ => none
 | k + 1, x0, x3, x4, x5, x31, x486000 => if x31 = true then (atlas_read.j1 k x0 x3 4 x5 x486000) else (atlas_read.j1 k x0 x3 x4 x5 x486000)
def atlas_read.j1 : Nat → List Int → Int → Int → Int → Int → Option (Int × (List (S46)) × Int × Int)
 | 0, _, _, _, _, _ => none
 | k + 1, x0, x3, x4, x5, x486000 => atlas_read.l0 k x0 x3 x4 x5 x486000 ([] : List (S46))
def atlas_read.l0 : Nat → List Int → Int → Int → Int → Int → List (S46) → Option (Int × (List (S46)) × Int × Int)
 | 0, _, _, _, _, _, _ => none
 | k + 1, x0, x3, x4, x5, x486000, x486001 => if x5 > 0 then (atlas_read.j3 k x0 x3 x4 x5 (x4 == 0) x486000 x486001) else (atlas_read.j3 k x0 x3 x4 x5 false x486000 x486001)
def atlas_read.j3 : Nat → List Int → Int → Int → Int → Bool → Int → List (S46) → Option (Int × (List (S46)) × Int × Int)
 | 0, _, _, _, _, _, _, _ => none
 | k + 1, x0, x3, x4, x5, x37, x486000, x486001 => if x37 = true then ((pack_GetText.f k x0 x3 100).bind fun bt493 => (if bt493.2.2 = 0 then ((pack_GetNum.f k x0 bt493.2.1).bind fun bt496 => (if x486001.length < 5864062014805 then (atlas_read.l0 k x0 bt496.2.1 bt496.2.2 (wrap64 (x5 - 1)) x486000 (x486001 ++ [(⟨bt493.1, bt496.1⟩ : S46)])) else (none))) else (if x486001.length < 5864062014805 then (atlas_read.l0 k x0 bt493.2.1 bt493.2.2 (wrap64 (x5 - 1)) x486000 (x486001 ++ [(⟨bt493.1, 0⟩ : S46)])) else (none)))) else (some (x486000, x486001, x3, x4))
end
def atlas_read.f (k : Nat) (l0 : List Int) : Option (Int × (List (S46)) × Int × Int) := (pack_GetNum.f k l0 0).bind fun bt486 => (if bt486.2.2 = 0 then ((pack_GetNum.f k l0 bt486.2.1).bind fun bt489 => (if bt489.2.2 = 0 then (atlas_read.j0 k l0 bt489.2.1 bt489.2.2 bt489.1 (decide (bt489.1 > 8)) bt486.1) else (atlas_read.j0 k l0 bt489.2.1 bt489.2.2 bt489.1 false bt486.1))) else (some (bt486.1, ([] : List (S46)), bt486.2.1, bt486.2.2)))
theorem atlas_read.mono_l : ∀ k, (∀ y0 y1 y2 y3 y4 y5, LeO (atlas_read.j0 k y0 y1 y2 y3 y4 y5) (atlas_read.j0 (k + 1) y0 y1 y2 y3 y4 y5)) ∧ (∀ y0 y1 y2 y3 y4, LeO (atlas_read.j1 k y0 y1 y2 y3 y4) (atlas_read.j1 (k + 1) y0 y1 y2 y3 y4)) ∧ (∀ y0 y1 y2 y3 y4 y5, LeO (atlas_read.l0 k y0 y1 y2 y3 y4 y5) (atlas_read.l0 (k + 1) y0 y1 y2 y3 y4 y5)) ∧ (∀ y0 y1 y2 y3 y4 y5 y6, LeO (atlas_read.j3 k y0 y1 y2 y3 y4 y5 y6) (atlas_read.j3 (k + 1) y0 y1 y2 y3 y4 y5 y6))
 | 0 => ⟨fun _ _ _ _ _ _ r h => by simp [atlas_read.j0] at h, fun _ _ _ _ _ r h => by simp [atlas_read.j1] at h, fun _ _ _ _ _ _ r h => by simp [atlas_read.l0] at h, fun _ _ _ _ _ _ _ r h => by simp [atlas_read.j3] at h⟩
 | k + 1 => by
  obtain ⟨ih0, ih1, ih2, ih3⟩ := atlas_read.mono_l k
  refine ⟨?_, ?_, ?_, ?_⟩
  ·intro y0 y1 y2 y3 y4 y5
   unfold atlas_read.j0
   repeat' first
   | (with_reducible exact ih0 _ _ _ _ _ _)
   | (with_reducible exact ih1 _ _ _ _ _)
   | (with_reducible exact ih2 _ _ _ _ _ _)
   | (with_reducible exact ih3 _ _ _ _ _ _ _)
   | (with_reducible exact pack_GetNum.mono _ _ _)
   | (with_reducible exact pack_GetText.mono _ _ _ _)
   | (with_reducible exact LeO.refl _)
   | (with_reducible exact LeO.none _)
   | (with_reducible refine LeO.ite ?_ ?_)
   | (with_reducible refine LeO.bind ?_ (fun _ => ?_))
   | exact ih0 _ _ _ _ _ _
   | exact ih1 _ _ _ _ _
   | exact ih2 _ _ _ _ _ _
   | exact ih3 _ _ _ _ _ _ _
   | exact pack_GetNum.mono _ _ _
   | exact pack_GetText.mono _ _ _ _
   | exact LeO.none _
   | refine LeO.ite ?_ ?_
   | refine LeO.bind ?_ (fun _ => ?_)
  ·intro y0 y1 y2 y3 y4
   unfold atlas_read.j1
   repeat' first
   | (with_reducible exact ih0 _ _ _ _ _ _)
   | (with_reducible exact ih1 _ _ _ _ _)
   | (with_reducible exact ih2 _ _ _ _ _ _)
   | (with_reducible exact ih3 _ _ _ _ _ _ _)
   | (with_reducible exact pack_GetNum.mono _ _ _)
   | (with_reducible exact pack_GetText.mono _ _ _ _)
   | (with_reducible exact LeO.refl _)
   | (with_reducible exact LeO.none _)
   | (with_reducible refine LeO.ite ?_ ?_)
   | (with_reducible refine LeO.bind ?_ (fun _ => ?_))
   | exact ih0 _ _ _ _ _ _
   | exact ih1 _ _ _ _ _
   | exact ih2 _ _ _ _ _ _
   | exact ih3 _ _ _ _ _ _ _
   | exact pack_GetNum.mono _ _ _
   | exact pack_GetText.mono _ _ _ _
   | exact LeO.none _
   | refine LeO.ite ?_ ?_
   | refine LeO.bind ?_ (fun _ => ?_)
  ·intro y0 y1 y2 y3 y4 y5
   unfold atlas_read.l0
   repeat' first
   | (with_reducible exact ih0 _ _ _ _ _ _)
   | (with_reducible exact ih1 _ _ _ _ _)
   | (with_reducible exact ih2 _ _ _ _ _ _)
   | (with_reducible exact ih3 _ _ _ _ _ _ _)
   | (with_reducible exact pack_GetNum.mono _ _ _)
   | (with_reducible exact pack_GetText.mono _ _ _ _)
   | (with_reducible exact LeO.refl _)
   | (with_reducible exact LeO.none _)
   | (with_reducible refine LeO.ite ?_ ?_)
   | (with_reducible refine LeO.bind ?_ (fun _ => ?_))
   | exact ih0 _ _ _ _ _ _
   | exact ih1 _ _ _ _ _
   | exact ih2 _ _ _ _ _ _
   | exact ih3 _ _ _ _ _ _ _
   | exact pack_GetNum.mono _ _ _
   | exact pack_GetText.mono _ _ _ _
   | exact LeO.none _
   | refine LeO.ite ?_ ?_
   | refine LeO.bind ?_ (fun _ => ?_)
  ·intro y0 y1 y2 y3 y4 y5 y6
   unfold atlas_read.j3
   repeat' first
   | (with_reducible exact ih0 _ _ _ _ _ _)
   | (with_reducible exact ih1 _ _ _ _ _)
   | (with_reducible exact ih2 _ _ _ _ _ _)
   | (with_reducible exact ih3 _ _ _ _ _ _ _)
   | (with_reducible exact pack_GetNum.mono _ _ _)
   | (with_reducible exact pack_GetText.mono _ _ _ _)
   | (with_reducible exact LeO.refl _)
   | (with_reducible exact LeO.none _)
   | (with_reducible refine LeO.ite ?_ ?_)
   | (with_reducible refine LeO.bind ?_ (fun _ => ?_))
   | exact ih0 _ _ _ _ _ _
   | exact ih1 _ _ _ _ _
   | exact ih2 _ _ _ _ _ _
   | exact ih3 _ _ _ _ _ _ _
   | exact pack_GetNum.mono _ _ _
   | exact pack_GetText.mono _ _ _ _
   | exact LeO.none _
   | refine LeO.ite ?_ ?_
   | refine LeO.bind ?_ (fun _ => ?_)
theorem atlas_read.mono : ∀ a0 k, LeO (atlas_read.f k a0) (atlas_read.f (k + 1) a0) := by
 intro a0 k
 obtain ⟨ih0, ih1, ih2, ih3⟩ := atlas_read.mono_l k
 unfold atlas_read.f
 repeat' first
   | (with_reducible exact ih0 _ _ _ _ _ _)
   | (with_reducible exact ih1 _ _ _ _ _)
   | (with_reducible exact ih2 _ _ _ _ _ _)
   | (with_reducible exact ih3 _ _ _ _ _ _ _)
   | (with_reducible exact pack_GetNum.mono _ _ _)
   | (with_reducible exact pack_GetText.mono _ _ _ _)
   | (with_reducible exact LeO.refl _)
   | (with_reducible exact LeO.none _)
   | (with_reducible refine LeO.ite ?_ ?_)
   | (with_reducible refine LeO.bind ?_ (fun _ => ?_))
   | exact ih0 _ _ _ _ _ _
   | exact ih1 _ _ _ _ _
   | exact ih2 _ _ _ _ _ _
   | exact ih3 _ _ _ _ _ _ _
   | exact pack_GetNum.mono _ _ _
   | exact pack_GetText.mono _ _ _ _
   | exact LeO.none _
   | refine LeO.ite ?_ ?_
   | refine LeO.bind ?_ (fun _ => ?_)
set_option maxHeartbeats 8000000 in
set_option maxRecDepth 100000 in
theorem atlas_read.calls (k : Nat) (A0 : Option Addr) (c0 : Nat) (l0 : List Int) (r1 : Int) (r2 : List (S46)) (r3 : Int) (r4 : Int) (w : World) (hr0 : Kd.C (Kd.int .u8) w A0 l0.length l0) (hc0 : l0.length ≤ c0) (h : atlas_read.f k l0 = some (r1, r2, r3, r4)) :
  Calls Try.prog 48 #[.slice A0 l0.length c0] w fun e w' => ∃ v1_ : Value, e = .returned (.tuple #[.agg #[.int .i64 r1, v1_], .int .i64 r3, .int .i64 r4]) ∧ Kd.R k46 46 w' w.heap.size (fun _ => True) v1_ r2 ∧ Below w.heap.size w w' := by
 have hu24 := Try.underlying24
 have hu46 := Try.underlying46
 have HR0 := Aside0.mk hr0
 have HC0 := Aside0.mk hc0
 clear hr0 hc0
 have HB := Aside0.mk (Below.refl w.heap.size w)
 have H : ((pack_GetNum.f k l0 0).bind fun bt486 => (if bt486.2.2 = 0 then ((pack_GetNum.f k l0 bt486.2.1).bind fun bt489 => (if bt489.2.2 = 0 then (atlas_read.j0 k l0 bt489.2.1 bt489.2.2 bt489.1 (decide (bt489.1 > 8)) bt486.1) else (atlas_read.j0 k l0 bt489.2.1 bt489.2.2 bt489.1 false bt486.1))) else (some (bt486.1, ([] : List (S46)), bt486.2.1, bt486.2.2)))) = some (r1, r2, r3, r4) := h
 clear h
 replace H := Option.bind_eq_some_iff.mp H
 obtain ⟨⟨t486, t487, t488⟩, A20, H⟩ := H
 replace H : (if t488 = 0 then ((pack_GetNum.f k l0 t487).bind fun bt489 => (if bt489.2.2 = 0 then (atlas_read.j0 k l0 bt489.2.1 bt489.2.2 bt489.1 (decide (bt489.1 > 8)) t486) else (atlas_read.j0 k l0 bt489.2.1 bt489.2.2 bt489.1 false t486))) else (some (t486, ([] : List (S46)), t487, t488))) = some (r1, r2, r3, r4) := H
 have A2 := Aside0.mk A20
 clear A20
 by_cases c3 : t488 = 0
 ·rw [if_pos c3] at H
  have c3b0 : (t488 == 0) = true := beq_iff_eq.mpr c3
  have c3b1 : (t488 != 0) = false := bne_eq_false_iff_eq.mpr c3
  clear c3
  replace H := Option.bind_eq_some_iff.mp H
  obtain ⟨⟨t489, t490, t491⟩, A40, H⟩ := H
  replace H : (if t491 = 0 then (atlas_read.j0 k l0 t490 t491 t489 (decide (t489 > 8)) t486) else (atlas_read.j0 k l0 t490 t491 t489 false t486)) = some (r1, r2, r3, r4) := H
  have A4 := Aside0.mk A40
  clear A40
  have HC5 := Aside0.mk H
  clear H
  go_enter Try.func48, Try.ntmps48
  go_upto_region 5 with (first | ((with_reducible refine gate_dst (N := 2) rfl ?_); refine box_event ?hg (N := 2) ?hd (cs := #[.int .i64 0, .slice none 0 0]) (t := 24) ?hr ?_; (case hd => rfl); (case hg => rfl); (case hr => first | (go_simp; done) | (go_simp; rfl)); intro gb485 hg w6 hbox hb; have n0_ := Aside0.mk (below_step (hL HB.out) hb); have n1_ := Aside0.mk (hbox); have n2_ := Above.mk ((by rw [hg]; exact (below_size (hL HB.out)) : w.heap.size ≤ gb485)); have n3_ := Above.mk ((by rw [hg]; exact (below_size (hL HB.out)) : w.heap.size ≤ gb485)); clear HB; have HB := n0_; have BK485 := n1_; have GW485 := n2_; have GE485 := n3_; clear n0_ n1_ n2_ n3_; clear hb hbox hg) | ((with_reducible refine gate_callee (f := 59) rfl ?_); refine goesL_ (some 9) rfl rfl Try.func59 (by kernel_rfl) rfl #[.slice A0 l0.length c0, .int .i64 0] rfl (by (try simp only [List.map_toArray, List.map_cons, List.map_nil]); first | done | rfl | (simp only [List.length_drop, List.length_take]; rfl)) ?_; (with_reducible refine (pack_GetNum.calls k _ _ l0 0 t486 t487 t488 _ ?side1 ?side2 A2.out).mono ?_); (case side1 => repeat (first | exact (Kd.C_below HR0.out HB.out) | (with_reducible refine Kd.C_alloc ?_ _) | (with_reducible refine Kd.C_drewN ?_ _) | (with_reducible refine Kd.C_drew ?_))); (case side2 => exact HC0.out); rintro e w7 ⟨rfl, hb⟩; refine ⟨_, rfl, ?_⟩; have n0_ := Aside0.mk (blk_below BK485.out hb); have n1_ := Aside0.mk (below_step (hL HB.out) hb); clear BK485; clear HB; have BK485 := n0_; have HB := n1_; clear n0_ n1_; (try clear hb); (try clear hb2); (try clear hk); (try clear hi); have hcz8_0 : w7.cell? ⟨gb485, 0, none⟩ = some (.int .i64 0) := (blk_cell BK485.out 0).trans rfl; have hcz8_1 : w7.cell? ⟨gb485, 1, none⟩ = some (.slice none 0 0) := (blk_cell BK485.out 1).trans rfl; have hfz8_0 := blk_frozen BK485.out 0; have hfz8_1 := blk_frozen BK485.out 1) | ((with_reducible refine gate_callee (f := 59) rfl ?_); refine goesL_ (some 22) rfl rfl Try.func59 (by kernel_rfl) rfl #[.slice A0 l0.length c0, .int .i64 t487] rfl (by (try simp only [List.map_toArray, List.map_cons, List.map_nil]); first | done | rfl | (simp only [List.length_drop, List.length_take]; rfl)) ?_; (with_reducible refine (pack_GetNum.calls k _ _ l0 t487 t489 t490 t491 _ ?side1 ?side2 A4.out).mono ?_); (case side1 => exact Kd.C_below HR0.out (hL HB.out)); (case side2 => exact HC0.out); rintro e w9 ⟨rfl, hb⟩; refine ⟨_, rfl, ?_⟩; have n0_ := Aside0.mk (blk_below (g := gb485) (o := .cells #[.int .i64 t486, .slice none 0 0] 24 (0, 0)) (by (with_reducible repeat (first | refine blk_drewN ?_ _ | refine blk_drew ?_ | refine blk_alloc ?_ _)); refine blk_put (cs := #[.int .i64 0, .slice none 0 0]) ?_ 0 _ rfl; exact bL BK485.out) hb); have n1_ := Aside0.mk (below_step (hL HB.out) hb); clear BK485; clear HB; have BK485 := n0_; have HB := n1_; clear n0_ n1_; (try clear hb); (try clear hb2); (try clear hk); (try clear hi)))
  (try simp only [Act.put, List.setIfInBounds_toArray, List.set_cons_zero, List.set_cons_succ])
  go_cut [31] (fun v31 wc => ∃ (kq : Nat) (x31_4 : Bool), v31 = .bool x31_4 ∧ Aside0 (atlas_read.j0 kq l0 t490 t491 t489 x31_4 t486 = some (r1, r2, r3, r4)) ∧ Aside0 (kq ≤ k) ∧ Aside0 (wc.heap[gb485]? = some (.cells #[.int .i64 t486, (.slice none 0 0)] 24 (0, 0))) ∧ Aside0 (Below w.heap.size w wc))
  case first =>
   have H := HC5.out
   clear HC5
   by_cases c10 : t491 = 0
   ·rw [if_pos c10] at H
    have c10b0 : (t491 == 0) = true := beq_iff_eq.mpr c10
    have c10b1 : (t491 != 0) = false := bne_eq_false_iff_eq.mpr c10
    clear c10
    (first | rw [c10b0] | (simp only [i64_w, i32_w]; rw [c10b0]) | skip)
    have H' := Aside0.mk H
    clear H
    go_wp2
    go_meet
    case rel => exact ⟨_, (decide (t489 > 8)), (by first | rfl | (simp; done) | (simp [*]; done) | (simp [ne_nil_bytes]; done) | (simp [eq_nil_bytes]; done)), H', ⟨by first | omega | exact Nat.le_refl _⟩, ⟨by exact bL BK485.out⟩, ⟨hL HB.out⟩⟩
   ·rw [if_neg c10] at H
    have c10b0 : (t491 == 0) = false := beq_eq_false_iff_ne.mpr c10
    have c10b1 : (t491 != 0) = true := bne_iff_ne.mpr c10
    (first | rw [c10b0] | (simp only [i64_w, i32_w]; rw [c10b0]) | skip)
    have H' := Aside0.mk H
    clear H
    go_wp2
    go_meet
    case rel => exact ⟨_, (false), (by first | rfl | (simp; done) | (simp [*]; done) | (simp [ne_nil_bytes]; done) | (simp [eq_nil_bytes]; done)), H', ⟨by first | omega | exact Nat.le_refl _⟩, ⟨by exact bL BK485.out⟩, ⟨hL HB.out⟩⟩
  case rest =>
   clear HC5
   try clear c1
   try clear p2
   try clear c3
   try clear c3b0
   try clear c3b0z
   try clear c3b1
   try clear c3b1z
   try clear c4
   try clear c5
   try clear c10
   try clear c10b0
   try clear c10b0z
   try clear c10b1
   try clear c10b1z
   try clear hcz8_0
   try clear hcz8_1
   try clear hfz8_0
   try clear hfz8_1
   obtain ⟨kq, x31_4, rfl, HA, HJ4, BK485, HB⟩ := hcut
   cases kq with
   | zero => exact absurd HA.out (by simp [atlas_read.j0])
   | succ kj4 =>
    have H := HA.out
    clear HA
    simp only [atlas_read.j0] at H
    have HC11 := Aside0.mk H
    clear H
    go_upto_if 31 with (fail)
    go_cut [4] (fun v4 wc => ∃ (kq : Nat) (x4_10 : Int), v4 = .int .i64 x4_10 ∧ Aside0 (atlas_read.j1 kq l0 t490 x4_10 t489 t486 = some (r1, r2, r3, r4)) ∧ Aside0 (kq ≤ kj4) ∧ Aside0 (wc.heap[gb485]? = some (.cells #[.int .i64 t486, (.slice none 0 0)] 24 (0, 0))) ∧ Aside0 (Below w.heap.size w wc))
    case first =>
     have H := HC11.out
     clear HC11
     by_cases c12 : x31_4 = true
     ·subst c12
      have H1 : (atlas_read.j1 kj4 l0 t490 4 t489 t486) = some (r1, r2, r3, r4) := by rw [if_pos rfl] at H; exact H
      clear H
      have H := H1
      clear H1
      have H' := Aside0.mk H
      clear H
      go_wp2
      go_meet
      case rel => exact ⟨_, (4), (by first | rfl | (simp; done) | (simp [*]; done) | (simp [ne_nil_bytes]; done) | (simp [eq_nil_bytes]; done)), H', ⟨by have := HJ4.out; first | omega | exact Nat.le_refl _⟩, ⟨by exact bL BK485.out⟩, ⟨hL HB.out⟩⟩
     ·replace c12 := Bool.eq_false_iff.mpr c12
      subst c12
      have H1 : (atlas_read.j1 kj4 l0 t490 t491 t489 t486) = some (r1, r2, r3, r4) := by rw [if_neg (show ¬ (false = true) by decide)] at H; exact H
      clear H
      have H := H1
      clear H1
      have H' := Aside0.mk H
      clear H
      go_wp2
      go_meet
      case rel => exact ⟨_, (t491), (by first | rfl | (simp; done) | (simp [*]; done) | (simp [ne_nil_bytes]; done) | (simp [eq_nil_bytes]; done)), H', ⟨by have := HJ4.out; first | omega | exact Nat.le_refl _⟩, ⟨by exact bL BK485.out⟩, ⟨hL HB.out⟩⟩
    case rest =>
     clear HC11
     try clear c1
     try clear p2
     try clear c3
     try clear c3b0
     try clear c3b0z
     try clear c3b1
     try clear c3b1z
     try clear c4
     try clear c5
     try clear c10
     try clear c10b0
     try clear c10b0z
     try clear c10b1
     try clear c10b1z
     try clear c12
     try clear hcz8_0
     try clear hcz8_1
     try clear hfz8_0
     try clear hfz8_1
     try clear p2
     obtain ⟨kq, x4_10, rfl, HA, HJ10, BK485, HB⟩ := hcut
     cases kq with
     | zero => exact absurd HA.out (by simp [atlas_read.j1])
     | succ kj10 =>
      have H := HA.out
      clear HA
      simp only [atlas_read.j1] at H
      have H' := Aside0.mk H
      clear H
      go_wp2
      go_loopg [3, 4, 5] kj10 (fun kq v3 v4 v5 w' => ∃ (x3_3 : Int) (x4_3 : Int) (x5_3 : Int) (x486001_3 : List (S46)) (u486001 : Value), v3 = .int .i64 x3_3 ∧ v4 = .int .i64 x4_3 ∧ v5 = .int .i64 x5_3 ∧ Aside0 (atlas_read.l0 kq l0 x3_3 x4_3 x5_3 t486 x486001_3 = some (r1, r2, r3, r4)) ∧ Aside0 (kq ≤ kj10) ∧ Aside0 (Kd.R k46 46 w' w.heap.size (fun _ => True) u486001 x486001_3) ∧ Aside0 (w'.heap[gb485]? = some (.cells #[.int .i64 t486, u486001] 24 (0, 0))) ∧ Aside0 (Below w.heap.size w w'))
      case atStart => exact ⟨(t490), (x4_10), (t489), (([] : List (S46))), (.slice none 0 0), (by first | rfl | (simp; done) | (simp [*]; done) | (simp [ne_nil_bytes]; done) | (simp [eq_nil_bytes]; done)), (by first | rfl | (simp; done) | (simp [*]; done) | (simp [ne_nil_bytes]; done) | (simp [eq_nil_bytes]; done)), (by first | rfl | (simp; done) | (simp [*]; done) | (simp [ne_nil_bytes]; done) | (simp [eq_nil_bytes]; done)), H', ⟨Nat.le_refl _⟩, ⟨by first | exact Kd.R_nil _ _ _ _ _ | exact Kd.N_nil _ _ _ _ _ | exact Kd.V_nil _ _ _ _ _ | exact Kd.Q_nil _ _ _ _ _ | exact Kd.S_nil _ _ _ _ _⟩, ⟨by exact bL BK485.out⟩, ⟨hL HB.out⟩⟩
      case round =>
       clear H'
       try clear c1
       try clear p2
       try clear c3
       try clear c3b0
       try clear c3b0z
       try clear c3b1
       try clear c3b1z
       try clear c4
       try clear c5
       try clear c10
       try clear c10b0
       try clear c10b0z
       try clear c10b1
       try clear c10b1z
       try clear c12
       try clear hcz8_0
       try clear hcz8_1
       try clear hfz8_0
       try clear hfz8_1
       try clear p2
       obtain ⟨x3_3, x4_3, x5_3, x486001_3, u486001, rfl, rfl, rfl, HA, HK3, HO_486001, BK485, HB⟩ := hrel
       cases gk with
       | zero => exact absurd HA.out (by simp [atlas_read.l0])
       | succ k3 =>
        have H := HA.out
        clear HA
        simp only [atlas_read.l0] at H
        have HC13 := Aside0.mk H
        clear H
        go_upto_region 7 with (fail)
        go_cut [37] (fun v37 wc => ∃ (kq : Nat) (x37_12 : Bool), v37 = .bool x37_12 ∧ Aside0 (atlas_read.j3 kq l0 x3_3 x4_3 x5_3 x37_12 t486 x486001_3 = some (r1, r2, r3, r4)) ∧ Aside0 (kq ≤ k3) ∧ Aside0 (Kd.R k46 46 wc w.heap.size (fun _ => True) u486001 x486001_3) ∧ Aside0 (wc.heap[gb485]? = some (.cells #[.int .i64 t486, u486001] 24 (0, 0))) ∧ Aside0 (Below w.heap.size w wc))
        case first =>
         have H := HC13.out
         clear HC13
         by_cases c14 : x5_3 > 0
         ·rw [if_pos c14] at H
          have c14b0 : decide (0 < x5_3) = true := decide_eq_true c14
          clear c14
          (first | rw [c14b0] | (simp only [i64_w, i32_w]; rw [c14b0]) | skip)
          have H' := Aside0.mk H
          clear H
          go_wp2
          go_meet
          case rel => exact ⟨_, ((x4_3 == 0)), (by first | rfl | (simp; done) | (simp [*]; done) | (simp [ne_nil_bytes]; done) | (simp [eq_nil_bytes]; done)), H', ⟨by have := HJ4.out; have := HJ10.out; have := HK3.out; first | omega | exact Nat.le_refl _⟩, ⟨by exact rL HO_486001.out⟩, ⟨by exact bL BK485.out⟩, ⟨hL HB.out⟩⟩
         ·rw [if_neg c14] at H
          have c14b0 : decide (0 < x5_3) = false := decide_eq_false c14
          clear c14
          (first | rw [c14b0] | (simp only [i64_w, i32_w]; rw [c14b0]) | skip)
          have H' := Aside0.mk H
          clear H
          go_wp2
          go_meet
          case rel => exact ⟨_, (false), (by first | rfl | (simp; done) | (simp [*]; done) | (simp [ne_nil_bytes]; done) | (simp [eq_nil_bytes]; done)), H', ⟨by have := HJ4.out; have := HJ10.out; have := HK3.out; first | omega | exact Nat.le_refl _⟩, ⟨by exact rL HO_486001.out⟩, ⟨by exact bL BK485.out⟩, ⟨hL HB.out⟩⟩
        case rest =>
         clear HC13
         try clear c1
         try clear p2
         try clear c3
         try clear c3b0
         try clear c3b0z
         try clear c3b1
         try clear c3b1z
         try clear c4
         try clear c5
         try clear c10
         try clear c10b0
         try clear c10b0z
         try clear c10b1
         try clear c10b1z
         try clear c12
         try clear c14
         try clear c14b0
         try clear c14b0z
         try clear hcz8_0
         try clear hcz8_1
         try clear hfz8_0
         try clear hfz8_1
         try clear p2
         obtain ⟨kq, x37_12, rfl, HA, HJ12, HO_486001, BK485, HB⟩ := hcut
         cases kq with
         | zero => exact absurd HA.out (by simp [atlas_read.j3])
         | succ kj12 =>
          have H := HA.out
          clear HA
          simp only [atlas_read.j3] at H
          by_cases c15 : x37_12 = true
          ·subst c15
           have H1 : ((pack_GetText.f kj12 l0 x3_3 100).bind fun bt493 => (if bt493.2.2 = 0 then ((pack_GetNum.f kj12 l0 bt493.2.1).bind fun bt496 => (if x486001_3.length < 5864062014805 then (atlas_read.l0 kj12 l0 bt496.2.1 bt496.2.2 (wrap64 (x5_3 - 1)) t486 (x486001_3 ++ [(⟨bt493.1, bt496.1⟩ : S46)])) else (none))) else (if x486001_3.length < 5864062014805 then (atlas_read.l0 kj12 l0 bt493.2.1 bt493.2.2 (wrap64 (x5_3 - 1)) t486 (x486001_3 ++ [(⟨bt493.1, 0⟩ : S46)])) else (none)))) = some (r1, r2, r3, r4) := by rw [if_pos rfl] at H; exact H
           clear H
           have H := H1
           clear H1
           replace H := Option.bind_eq_some_iff.mp H
           obtain ⟨⟨t493, t494, t495⟩, A160, H⟩ := H
           replace H : (if t495 = 0 then ((pack_GetNum.f kj12 l0 t494).bind fun bt496 => (if x486001_3.length < 5864062014805 then (atlas_read.l0 kj12 l0 bt496.2.1 bt496.2.2 (wrap64 (x5_3 - 1)) t486 (x486001_3 ++ [(⟨t493, bt496.1⟩ : S46)])) else (none))) else (if x486001_3.length < 5864062014805 then (atlas_read.l0 kj12 l0 t494 t495 (wrap64 (x5_3 - 1)) t486 (x486001_3 ++ [(⟨t493, 0⟩ : S46)])) else (none))) = some (r1, r2, r3, r4) := H
           have A16 := Aside0.mk A160
           clear A160
           by_cases c17 : t495 = 0
           ·rw [if_pos c17] at H
            have c17b0 : (t495 == 0) = true := beq_iff_eq.mpr c17
            have c17b1 : (t495 != 0) = false := bne_eq_false_iff_eq.mpr c17
            clear c17
            replace H := Option.bind_eq_some_iff.mp H
            obtain ⟨⟨t496, t497, t498⟩, A180, H⟩ := H
            replace H : (if x486001_3.length < 5864062014805 then (atlas_read.l0 kj12 l0 t497 t498 (wrap64 (x5_3 - 1)) t486 (x486001_3 ++ [(⟨t493, t496⟩ : S46)])) else (none)) = some (r1, r2, r3, r4) := H
            have A18 := Aside0.mk A180
            clear A180
            by_cases c19 : x486001_3.length < 5864062014805
            ·rw [if_pos c19] at H
             have LMc19 := Aside0.mk c19
             clear c19
             obtain ⟨y499, hy499⟩ : ∃ y_ : List (S46), y_ = (x486001_3 ++ [(⟨t493, t496⟩ : S46)]) := ⟨_, rfl⟩
             replace H : (atlas_read.l0 kj12 l0 t497 t498 (wrap64 (x5_3 - 1)) t486 y499) = some (r1, r2, r3, r4) := by first | (rw [hy499]; with_reducible exact H) | (have H2_ := (Option.bind_some _ _).symm.trans H; rw [hy499]; with_reducible exact H2_) | (have H2_ := (Option.bind_some _ _).symm.trans H; with_reducible exact H2_) | with_reducible exact H | (rw [hy499]; exact H) | exact H
             have Ny499 := Aside0.mk hy499
             clear hy499
             have H' := Aside0.mk H
             clear H
             go_wp2_with (first | ((with_reducible refine gate_dst (N := 6) rfl ?_); refine box_event ?hg (N := 6) ?hd (cs := #[.string (⟨#[]⟩ : ByteArray), .int .i64 0]) (t := 46) ?hr ?_; (case hd => rfl); (case hg => rfl); (case hr => first | (go_simp; done) | (go_simp; rfl)); intro gb492 hg w20 hbox hb; have n0_ := Aside0.mk (Kd.R_below (Kd.R_elderB (rL HO_486001.out) gb492 (Nat.le_of_eq hg.symm)) hb); have n1_ := Aside0.mk (blk_below BK485.out hb); have n2_ := Aside0.mk (below_step (hL HB.out) hb); have n3_ := Aside0.mk (hbox); have n4_ := Above.mk ((by rw [hg]; exact (below_size (hL HB.out)) : w.heap.size ≤ gb492)); have n5_ := Above.mk ((by rw [hg]; exact (below_size (hL HB.out)) : w.heap.size ≤ gb492)); have n6_ := Aside0.mk ((by rw [hg]; exact Nat.ne_of_lt (blk_lt (g := gb485) (o := .cells #[.int .i64 t486, u486001] 24 (0, 0)) (bL BK485.out)) : gb485 ≠ gb492)); have n7_ := Aside0.mk ((by rw [hg]; exact Nat.ne_of_gt (blk_lt (g := gb485) (o := .cells #[.int .i64 t486, u486001] 24 (0, 0)) (bL BK485.out)) : gb492 ≠ gb485)); clear HO_486001; clear BK485; clear HB; have HO_486001 := n0_; have BK485 := n1_; have HB := n2_; have BK492 := n3_; have GW492 := n4_; have GE492 := n5_; have NB485_492 := n6_; have NB492_485 := n7_; clear n0_ n1_ n2_ n3_ n4_ n5_ n6_ n7_; clear hb hbox hg) | ((with_reducible refine gate_callee (f := 60) rfl ?_); refine goesL_ (some 43) rfl rfl Try.func60 (by kernel_rfl) rfl #[.slice A0 l0.length c0, .int .i64 x3_3, .int .i64 100] rfl (by (try simp only [List.map_toArray, List.map_cons, List.map_nil]); first | done | rfl | (simp only [List.length_drop, List.length_take]; rfl)) ?_; (with_reducible refine (pack_GetText.calls kj12 _ _ l0 x3_3 100 t493 t494 t495 _ ?side1 ?side2 A16.out).mono ?_); (case side1 => repeat (first | exact (Kd.C_below HR0.out HB.out) | (with_reducible refine Kd.C_alloc ?_ _) | (with_reducible refine Kd.C_drewN ?_ _) | (with_reducible refine Kd.C_drew ?_))); (case side2 => exact HC0.out); rintro e w21 ⟨rfl, hb⟩; refine ⟨_, rfl, ?_⟩; have n0_ := Aside0.mk (Kd.R_below (rL HO_486001.out) hb); have n1_ := Aside0.mk (blk_below BK485.out hb); have n2_ := Aside0.mk (blk_below BK492.out hb); have n3_ := Aside0.mk (below_step (hL HB.out) hb); clear HO_486001; clear BK485; clear BK492; clear HB; have HO_486001 := n0_; have BK485 := n1_; have BK492 := n2_; have HB := n3_; clear n0_ n1_ n2_ n3_; (try clear hb); (try clear hb2); (try clear hk); (try clear hi); have hnb22 := NB492_485.out; have hnc22 := NB485_492.out; have hcz23_0 : w21.cell? ⟨gb492, 0, none⟩ = some (.string (⟨#[]⟩ : ByteArray)) := (blk_cell BK492.out 0).trans rfl; have hcz23_1 : w21.cell? ⟨gb492, 1, none⟩ = some (.int .i64 0) := (blk_cell BK492.out 1).trans rfl; have hfz23_0 := blk_frozen BK492.out 0; have hfz23_1 := blk_frozen BK492.out 1) | ((with_reducible refine gate_callee (f := 59) rfl ?_); refine goesL_ (some 53) rfl rfl Try.func59 (by kernel_rfl) rfl #[.slice A0 l0.length c0, .int .i64 t494] rfl (by (try simp only [List.map_toArray, List.map_cons, List.map_nil]); first | done | rfl | (simp only [List.length_drop, List.length_take]; rfl)) ?_; (with_reducible refine (pack_GetNum.calls kj12 _ _ l0 t494 t496 t497 t498 _ ?side1 ?side2 A18.out).mono ?_); (case side1 => exact Kd.C_below HR0.out (hL HB.out)); (case side2 => exact HC0.out); rintro e w24 ⟨rfl, hb⟩; refine ⟨_, rfl, ?_⟩; have n0_ := Aside0.mk (Kd.R_below (by (with_reducible repeat (first | apply Kd.R_alloc | apply Kd.R_drewN | apply Kd.R_drew)); exact (Kd.R_mono (Kd.R_far (p := ⟨gb492, 0, none⟩) (Kd.R_mono HO_486001.out (fun k_ hk => (⟨hk, hk.2⟩ : _ ∧ k_ ≠ gb492))) (fun _ hk => hk.2) (.string t493)) (fun _ h_ => h_.1))) hb); have n1_ := Aside0.mk (blk_below (g := gb485) (o := .cells #[.int .i64 t486, u486001] 24 (0, 0)) (by (with_reducible repeat (first | refine blk_drewN ?_ _ | refine blk_drew ?_ | refine blk_alloc ?_ _)); refine blk_far ?_ NB485_492.out _; exact bL BK485.out) hb); have n2_ := Aside0.mk (blk_below (g := gb492) (o := .cells #[.string t493, .int .i64 0] 46 (0, 0)) (by (with_reducible repeat (first | refine blk_drewN ?_ _ | refine blk_drew ?_ | refine blk_alloc ?_ _)); refine blk_put (cs := #[.string (⟨#[]⟩ : ByteArray), .int .i64 0]) ?_ 0 _ rfl; exact bL BK492.out) hb); have n3_ := Aside0.mk (below_step (hL HB.out) hb); clear HO_486001; clear BK485; clear BK492; clear HB; have HO_486001 := n0_; have BK485 := n1_; have BK492 := n2_; have HB := n3_; clear n0_ n1_ n2_ n3_; (try clear hb); (try clear hb2); (try clear hk); (try clear hi); have hcz25_0 : w24.cell? ⟨gb492, 0, none⟩ = some (.string t493) := (blk_cell BK492.out 0).trans rfl; have hcz25_1 : w24.cell? ⟨gb492, 1, none⟩ = some (.int .i64 0) := (blk_cell BK492.out 1).trans rfl; have hfz25_0 := blk_frozen BK492.out 0; have hfz25_1 := blk_frozen BK492.out 1; have hcz26_0 : w24.cell? ⟨gb485, 0, none⟩ = some (.int .i64 t486) := (blk_cell BK485.out 0).trans rfl; have hcz26_1 : w24.cell? ⟨gb485, 1, none⟩ = some (u486001) := (blk_cell BK485.out 1).trans rfl; have hfz26_0 := blk_frozen BK485.out 0; have hfz26_1 := blk_frozen BK485.out 1) | ((with_reducible refine gate_builtin (b := .append) (xs := #[.tmp 59, .tmp 61]) rfl ?_); at_builtin; refine Kd.R_append k46 (w0 := w) w.heap.size rfl (.tmp 59) (.tmp 61) 22 46 (.agg #[(.string ⟨#[]⟩), (.int .i64 0)]) 24 rfl Try.underlying22 info46 rfl (by decide) (by omega) u486001 x486001_3 (⟨t493, t496⟩ : S46) [.string t493, .int .i64 t496] (fun k_ => k_ ≠ gb492) (fun _ => False) rfl (by first | (go_simp; done) | (go_simp; rfl)) ?aP (fun _ hk => hk.elim) ?aF ?aO ?aB ?aS ?aL ?_; (case aP => exact k46_mkM _ _ _ (⟨t493, t496⟩ : S46)); (case aB => exact (hL HB.out)); (case aF => exact (fun k_ hk => Kd.freshB (g := gb492) (o := .cells #[.string t493, .int .i64 t496] 46 (0, 0)) (by (with_reducible repeat (first | refine blk_drewN ?_ _ | refine blk_drew ?_ | refine blk_alloc ?_ _)); refine blk_put (cs := #[.string t493, .int .i64 0]) ?_ 1 _ rfl; exact bL BK492.out) k_ hk)); (case aO => exact (by (with_reducible repeat (first | apply Kd.R_alloc | apply Kd.R_drewN | apply Kd.R_drew)); exact Kd.R_mono (Kd.R_far (p := ⟨gb492, 1, none⟩) (Kd.R_mono HO_486001.out (fun k_ hk => (⟨hk, hk.2⟩ : _ ∧ k_ ≠ gb492))) (fun _ hk => hk.2) (.int .i64 t496)) (fun _ hk => hk.1.2))); (case aS => exact (below_size (hL HB.out))); (case aL => have := LMc19.out; omega); intro v500 w27 ho hb hg hat; rw [← Ny499.out] at ho; have n0_ := Aside0.mk (blk_grown (g := gb485) (o := .cells #[.int .i64 t486, u486001] 24 (0, 0)) (by (with_reducible repeat (first | refine blk_drewN ?_ _ | refine blk_drew ?_ | refine blk_alloc ?_ _)); refine blk_far ?_ NB485_492.out _; exact bL BK485.out) hg (Kd.R_ne HO_486001.out BK485.out (by decide))); have n1_ := Aside0.mk (blk_grown (g := gb492) (o := .cells #[.string t493, .int .i64 t496] 46 (0, 0)) (by (with_reducible repeat (first | refine blk_drewN ?_ _ | refine blk_drew ?_ | refine blk_alloc ?_ _)); refine blk_put (cs := #[.string t493, .int .i64 0]) ?_ 1 _ rfl; exact bL BK492.out) hg (Kd.R_away HO_486001.out (fun _ hk => hk.2))); have n2_ := Aside0.mk (hb); have n3_ := Aside0.mk (ho); clear BK485; clear BK492; clear HB; clear HO_486001; have BK485 := n0_; have BK492 := n1_; have HB := n2_; have HO501 := n3_; clear n0_ n1_ n2_ n3_; clear ho hb hg hat; obtain ⟨Ao28, co28, eo28⟩ := Kd.R_slice HO501.out; subst eo28; have hcz29_0 : w27.cell? ⟨gb485, 0, none⟩ = some (.int .i64 t486) := (blk_cell BK485.out 0).trans rfl; have hcz29_1 : w27.cell? ⟨gb485, 1, none⟩ = some (u486001) := (blk_cell BK485.out 1).trans rfl; have hfz29_0 := blk_frozen BK485.out 0; have hfz29_1 := blk_frozen BK485.out 1))
             go_roundg kj12
             case measure => have := HJ4.out; have := HJ10.out; have := HK3.out; have := HJ12.out; omega
             case rel => exact ⟨(t497), (t498), (wrap64 (x5_3 - 1)), (y499), (.slice Ao28 y499.length co28), (by first | rfl | (simp; done) | (simp [*]; done) | (simp [ne_nil_bytes]; done) | (simp [eq_nil_bytes]; done)), (by first | rfl | (simp; done) | (simp [*]; done) | (simp [ne_nil_bytes]; done) | (simp [eq_nil_bytes]; done)), (by first | rfl | (simp; done) | (simp [*]; done) | (simp [ne_nil_bytes]; done) | (simp [eq_nil_bytes]; done)), H', ⟨by have := HJ4.out; have := HJ10.out; have := HK3.out; have := HJ12.out; omega⟩, ⟨by (with_reducible repeat (first | apply Kd.R_alloc | apply Kd.R_drewN | apply Kd.R_drew)); exact Kd.R_mono (Kd.R_far (p := ⟨gb485, 1, none⟩) (Kd.R_types HO501.out BK485.out (by decide)) (fun _ hk => hk.2) (.slice Ao28 y499.length co28)) (fun _ hk => trivial)⟩, ⟨by (with_reducible repeat (first | refine blk_drewN ?_ _ | refine blk_drew ?_ | refine blk_alloc ?_ _)); refine blk_put (cs := #[.int .i64 t486, u486001]) ?_ 1 _ rfl; exact bL BK485.out⟩, ⟨hL HB.out⟩⟩
            ·rw [if_neg c19] at H
             exact absurd H (by simp)
           ·rw [if_neg c17] at H
            have c17b0 : (t495 == 0) = false := beq_eq_false_iff_ne.mpr c17
            have c17b1 : (t495 != 0) = true := bne_iff_ne.mpr c17
            by_cases c30 : x486001_3.length < 5864062014805
            ·rw [if_pos c30] at H
             have LMc30 := Aside0.mk c30
             clear c30
             obtain ⟨y502, hy502⟩ : ∃ y_ : List (S46), y_ = (x486001_3 ++ [(⟨t493, 0⟩ : S46)]) := ⟨_, rfl⟩
             replace H : (atlas_read.l0 kj12 l0 t494 t495 (wrap64 (x5_3 - 1)) t486 y502) = some (r1, r2, r3, r4) := by first | (rw [hy502]; with_reducible exact H) | (have H2_ := (Option.bind_some _ _).symm.trans H; rw [hy502]; with_reducible exact H2_) | (have H2_ := (Option.bind_some _ _).symm.trans H; with_reducible exact H2_) | with_reducible exact H | (rw [hy502]; exact H) | exact H
             have Ny502 := Aside0.mk hy502
             clear hy502
             have H' := Aside0.mk H
             clear H
             go_wp2_with (first | ((with_reducible refine gate_dst (N := 6) rfl ?_); refine box_event ?hg (N := 6) ?hd (cs := #[.string (⟨#[]⟩ : ByteArray), .int .i64 0]) (t := 46) ?hr ?_; (case hd => rfl); (case hg => rfl); (case hr => first | (go_simp; done) | (go_simp; rfl)); intro gb492 hg w31 hbox hb; have n0_ := Aside0.mk (Kd.R_below (Kd.R_elderB (rL HO_486001.out) gb492 (Nat.le_of_eq hg.symm)) hb); have n1_ := Aside0.mk (blk_below BK485.out hb); have n2_ := Aside0.mk (below_step (hL HB.out) hb); have n3_ := Aside0.mk (hbox); have n4_ := Above.mk ((by rw [hg]; exact (below_size (hL HB.out)) : w.heap.size ≤ gb492)); have n5_ := Above.mk ((by rw [hg]; exact (below_size (hL HB.out)) : w.heap.size ≤ gb492)); have n6_ := Aside0.mk ((by rw [hg]; exact Nat.ne_of_lt (blk_lt (g := gb485) (o := .cells #[.int .i64 t486, u486001] 24 (0, 0)) (bL BK485.out)) : gb485 ≠ gb492)); have n7_ := Aside0.mk ((by rw [hg]; exact Nat.ne_of_gt (blk_lt (g := gb485) (o := .cells #[.int .i64 t486, u486001] 24 (0, 0)) (bL BK485.out)) : gb492 ≠ gb485)); clear HO_486001; clear BK485; clear HB; have HO_486001 := n0_; have BK485 := n1_; have HB := n2_; have BK492 := n3_; have GW492 := n4_; have GE492 := n5_; have NB485_492 := n6_; have NB492_485 := n7_; clear n0_ n1_ n2_ n3_ n4_ n5_ n6_ n7_; clear hb hbox hg) | ((with_reducible refine gate_callee (f := 60) rfl ?_); refine goesL_ (some 43) rfl rfl Try.func60 (by kernel_rfl) rfl #[.slice A0 l0.length c0, .int .i64 x3_3, .int .i64 100] rfl (by (try simp only [List.map_toArray, List.map_cons, List.map_nil]); first | done | rfl | (simp only [List.length_drop, List.length_take]; rfl)) ?_; (with_reducible refine (pack_GetText.calls kj12 _ _ l0 x3_3 100 t493 t494 t495 _ ?side1 ?side2 A16.out).mono ?_); (case side1 => repeat (first | exact (Kd.C_below HR0.out HB.out) | (with_reducible refine Kd.C_alloc ?_ _) | (with_reducible refine Kd.C_drewN ?_ _) | (with_reducible refine Kd.C_drew ?_))); (case side2 => exact HC0.out); rintro e w32 ⟨rfl, hb⟩; refine ⟨_, rfl, ?_⟩; have n0_ := Aside0.mk (Kd.R_below (rL HO_486001.out) hb); have n1_ := Aside0.mk (blk_below BK485.out hb); have n2_ := Aside0.mk (blk_below BK492.out hb); have n3_ := Aside0.mk (below_step (hL HB.out) hb); clear HO_486001; clear BK485; clear BK492; clear HB; have HO_486001 := n0_; have BK485 := n1_; have BK492 := n2_; have HB := n3_; clear n0_ n1_ n2_ n3_; (try clear hb); (try clear hb2); (try clear hk); (try clear hi); have hnb33 := NB492_485.out; have hnc33 := NB485_492.out; have hcz34_0 : w32.cell? ⟨gb492, 0, none⟩ = some (.string (⟨#[]⟩ : ByteArray)) := (blk_cell BK492.out 0).trans rfl; have hcz34_1 : w32.cell? ⟨gb492, 1, none⟩ = some (.int .i64 0) := (blk_cell BK492.out 1).trans rfl; have hfz34_0 := blk_frozen BK492.out 0; have hfz34_1 := blk_frozen BK492.out 1; have hcz35_0 : w32.cell? ⟨gb485, 0, none⟩ = some (.int .i64 t486) := (blk_cell BK485.out 0).trans rfl; have hcz35_1 : w32.cell? ⟨gb485, 1, none⟩ = some (u486001) := (blk_cell BK485.out 1).trans rfl; have hfz35_0 := blk_frozen BK485.out 0; have hfz35_1 := blk_frozen BK485.out 1) | ((with_reducible refine gate_builtin (b := .append) (xs := #[.tmp 59, .tmp 61]) rfl ?_); at_builtin; refine Kd.R_append k46 (w0 := w) w.heap.size rfl (.tmp 59) (.tmp 61) 22 46 (.agg #[(.string ⟨#[]⟩), (.int .i64 0)]) 24 rfl Try.underlying22 info46 rfl (by decide) (by omega) u486001 x486001_3 (⟨t493, 0⟩ : S46) [.string t493, .int .i64 0] (fun k_ => k_ ≠ gb492) (fun _ => False) rfl (by first | (go_simp; done) | (go_simp; rfl)) ?aP (fun _ hk => hk.elim) ?aF ?aO ?aB ?aS ?aL ?_; (case aP => exact k46_mkM _ _ _ (⟨t493, 0⟩ : S46)); (case aB => exact (hL HB.out)); (case aF => exact (fun k_ hk => Kd.freshB (g := gb492) (o := .cells #[.string t493, .int .i64 0] 46 (0, 0)) (by (with_reducible repeat (first | refine blk_drewN ?_ _ | refine blk_drew ?_ | refine blk_alloc ?_ _)); refine blk_put (cs := #[.string (⟨#[]⟩ : ByteArray), .int .i64 0]) ?_ 0 _ rfl; exact bL BK492.out) k_ hk)); (case aO => exact (by (with_reducible repeat (first | apply Kd.R_alloc | apply Kd.R_drewN | apply Kd.R_drew)); exact Kd.R_mono (Kd.R_far (p := ⟨gb492, 0, none⟩) (Kd.R_mono HO_486001.out (fun k_ hk => (⟨hk, hk.2⟩ : _ ∧ k_ ≠ gb492))) (fun _ hk => hk.2) (.string t493)) (fun _ hk => hk.1.2))); (case aS => exact (below_size (hL HB.out))); (case aL => have := LMc30.out; omega); intro v503 w36 ho hb hg hat; rw [← Ny502.out] at ho; have n0_ := Aside0.mk (blk_grown (g := gb485) (o := .cells #[.int .i64 t486, u486001] 24 (0, 0)) (by (with_reducible repeat (first | refine blk_drewN ?_ _ | refine blk_drew ?_ | refine blk_alloc ?_ _)); refine blk_far ?_ NB485_492.out _; exact bL BK485.out) hg (Kd.R_ne HO_486001.out BK485.out (by decide))); have n1_ := Aside0.mk (blk_grown (g := gb492) (o := .cells #[.string t493, .int .i64 0] 46 (0, 0)) (by (with_reducible repeat (first | refine blk_drewN ?_ _ | refine blk_drew ?_ | refine blk_alloc ?_ _)); refine blk_put (cs := #[.string (⟨#[]⟩ : ByteArray), .int .i64 0]) ?_ 0 _ rfl; exact bL BK492.out) hg (Kd.R_away HO_486001.out (fun _ hk => hk.2))); have n2_ := Aside0.mk (hb); have n3_ := Aside0.mk (ho); clear BK485; clear BK492; clear HB; clear HO_486001; have BK485 := n0_; have BK492 := n1_; have HB := n2_; have HO504 := n3_; clear n0_ n1_ n2_ n3_; clear ho hb hg hat; obtain ⟨Ao37, co37, eo37⟩ := Kd.R_slice HO504.out; subst eo37; have hcz38_0 : w36.cell? ⟨gb485, 0, none⟩ = some (.int .i64 t486) := (blk_cell BK485.out 0).trans rfl; have hcz38_1 : w36.cell? ⟨gb485, 1, none⟩ = some (u486001) := (blk_cell BK485.out 1).trans rfl; have hfz38_0 := blk_frozen BK485.out 0; have hfz38_1 := blk_frozen BK485.out 1))
             go_roundg kj12
             case measure => have := HJ4.out; have := HJ10.out; have := HK3.out; have := HJ12.out; omega
             case rel => exact ⟨(t494), (t495), (wrap64 (x5_3 - 1)), (y502), (.slice Ao37 y502.length co37), (by first | rfl | (simp; done) | (simp [*]; done) | (simp [ne_nil_bytes]; done) | (simp [eq_nil_bytes]; done)), (by first | rfl | (simp; done) | (simp [*]; done) | (simp [ne_nil_bytes]; done) | (simp [eq_nil_bytes]; done)), (by first | rfl | (simp; done) | (simp [*]; done) | (simp [ne_nil_bytes]; done) | (simp [eq_nil_bytes]; done)), H', ⟨by have := HJ4.out; have := HJ10.out; have := HK3.out; have := HJ12.out; omega⟩, ⟨by (with_reducible repeat (first | apply Kd.R_alloc | apply Kd.R_drewN | apply Kd.R_drew)); exact Kd.R_mono (Kd.R_far (p := ⟨gb485, 1, none⟩) (Kd.R_types HO504.out BK485.out (by decide)) (fun _ hk => hk.2) (.slice Ao37 y502.length co37)) (fun _ hk => trivial)⟩, ⟨by (with_reducible repeat (first | refine blk_drewN ?_ _ | refine blk_drew ?_ | refine blk_alloc ?_ _)); refine blk_put (cs := #[.int .i64 t486, u486001]) ?_ 1 _ rfl; exact bL BK485.out⟩, ⟨hL HB.out⟩⟩
            ·rw [if_neg c30] at H
             exact absurd H (by simp)
          ·replace c15 := Bool.eq_false_iff.mpr c15
           subst c15
           have H1 : (some (t486, x486001_3, x3_3, x4_3)) = some (r1, r2, r3, r4) := by rw [if_neg (show ¬ (false = true) by decide)] at H; exact H
           clear H
           have H := H1
           clear H1
           simp only [Option.some.injEq, Prod.mk.injEq] at H
           obtain ⟨rfl, rfl, rfl, rfl⟩ := H
           have hcz39_0 : wc.cell? ⟨gb485, 0, none⟩ = some (.int .i64 t486) := (blk_cell BK485.out 0).trans rfl
           have hcz39_1 : wc.cell? ⟨gb485, 1, none⟩ = some (u486001) := (blk_cell BK485.out 1).trans rfl
           have hfz39_0 := blk_frozen BK485.out 0
           have hfz39_1 := blk_frozen BK485.out 1
           obtain ⟨Ao40, co40, eo40⟩ := Kd.R_slice HO_486001.out
           subst eo40
           go_wp2
           refine bodyPost_ret (results_ctt rfl _ _ gb485 24 #[.int .i64 t486, .slice Ao40 x486001_3.length co40] (0, 0) _ rfl (by (with_reducible repeat (first | refine blk_drewN ?_ _ | refine blk_drew ?_ | refine blk_alloc ?_ _)); refine blk_put (cs := #[.int .i64 t486, .slice Ao40 x486001_3.length co40]) ?_ 1 _ rfl; (with_reducible repeat (first | refine blk_drewN ?_ _ | refine blk_drew ?_ | refine blk_alloc ?_ _)); refine blk_put (cs := #[.int .i64 t486, .slice Ao40 x486001_3.length co40]) ?_ 0 _ rfl; exact bL BK485.out) Try.underlying24 rfl (by kernel_rfl)) rfl ?_
           exact ⟨_, by first | rfl | (simp [errW_none, errW_some] <;> rfl) | (simp [*, errW_none, errW_some] <;> rfl), by (with_reducible repeat (first | apply Kd.R_alloc | apply Kd.R_drewN | apply Kd.R_drew)); exact Kd.R_mono (Kd.R_far (p := ⟨gb485, 1, none⟩) (Kd.R_far (p := ⟨gb485, 0, none⟩) (Kd.R_types HO_486001.out BK485.out (by decide)) (fun _ hk => hk.2) (.int .i64 t486)) (fun _ hk => hk.2) (.slice Ao40 x486001_3.length co40)) (fun _ hk => trivial), hL HB.out⟩
 ·rw [if_neg c3] at H
  have c3b0 : (t488 == 0) = false := beq_eq_false_iff_ne.mpr c3
  have c3b1 : (t488 != 0) = true := bne_iff_ne.mpr c3
  simp only [Option.some.injEq, Prod.mk.injEq] at H
  obtain ⟨rfl, rfl, rfl, rfl⟩ := H
  go_enter Try.func48, Try.ntmps48
  go_wp2_with (first | ((with_reducible refine gate_dst (N := 2) rfl ?_); refine box_event ?hg (N := 2) ?hd (cs := #[.int .i64 0, .slice none 0 0]) (t := 24) ?hr ?_; (case hd => rfl); (case hg => rfl); (case hr => first | (go_simp; done) | (go_simp; rfl)); intro gb485 hg w41 hbox hb; have n0_ := Aside0.mk (below_step (hL HB.out) hb); have n1_ := Aside0.mk (hbox); have n2_ := Above.mk ((by rw [hg]; exact (below_size (hL HB.out)) : w.heap.size ≤ gb485)); have n3_ := Above.mk ((by rw [hg]; exact (below_size (hL HB.out)) : w.heap.size ≤ gb485)); clear HB; have HB := n0_; have BK485 := n1_; have GW485 := n2_; have GE485 := n3_; clear n0_ n1_ n2_ n3_; clear hb hbox hg) | ((with_reducible refine gate_callee (f := 59) rfl ?_); refine goesL_ (some 9) rfl rfl Try.func59 (by kernel_rfl) rfl #[.slice A0 l0.length c0, .int .i64 0] rfl (by (try simp only [List.map_toArray, List.map_cons, List.map_nil]); first | done | rfl | (simp only [List.length_drop, List.length_take]; rfl)) ?_; (with_reducible refine (pack_GetNum.calls k _ _ l0 0 t486 t487 t488 _ ?side1 ?side2 A2.out).mono ?_); (case side1 => repeat (first | exact (Kd.C_below HR0.out HB.out) | (with_reducible refine Kd.C_alloc ?_ _) | (with_reducible refine Kd.C_drewN ?_ _) | (with_reducible refine Kd.C_drew ?_))); (case side2 => exact HC0.out); rintro e w42 ⟨rfl, hb⟩; refine ⟨_, rfl, ?_⟩; have n0_ := Aside0.mk (blk_below BK485.out hb); have n1_ := Aside0.mk (below_step (hL HB.out) hb); clear BK485; clear HB; have BK485 := n0_; have HB := n1_; clear n0_ n1_; (try clear hb); (try clear hb2); (try clear hk); (try clear hi); have hcz43_0 : w42.cell? ⟨gb485, 0, none⟩ = some (.int .i64 0) := (blk_cell BK485.out 0).trans rfl; have hcz43_1 : w42.cell? ⟨gb485, 1, none⟩ = some (.slice none 0 0) := (blk_cell BK485.out 1).trans rfl; have hfz43_0 := blk_frozen BK485.out 0; have hfz43_1 := blk_frozen BK485.out 1))
  refine bodyPost_ret (results_ctt rfl _ _ gb485 24 #[.int .i64 t486, .slice none 0 0] (0, 0) _ rfl (by (with_reducible repeat (first | refine blk_drewN ?_ _ | refine blk_drew ?_ | refine blk_alloc ?_ _)); refine blk_put (cs := #[.int .i64 t486, .slice none 0 0]) ?_ 1 _ rfl; (with_reducible repeat (first | refine blk_drewN ?_ _ | refine blk_drew ?_ | refine blk_alloc ?_ _)); refine blk_put (cs := #[.int .i64 t486, .slice none 0 0]) ?_ 0 _ rfl; (with_reducible repeat (first | refine blk_drewN ?_ _ | refine blk_drew ?_ | refine blk_alloc ?_ _)); refine blk_put (cs := #[.int .i64 0, .slice none 0 0]) ?_ 0 _ rfl; exact bL BK485.out) Try.underlying24 rfl (by kernel_rfl)) rfl ?_
  exact ⟨_, by first | rfl | (simp [errW_none, errW_some] <;> rfl) | (simp [*, errW_none, errW_some] <;> rfl), by first | exact Kd.R_nil _ _ _ _ _ | exact Kd.N_nil _ _ _ _ _ | exact Kd.V_nil _ _ _ _ _ | exact Kd.Q_nil _ _ _ _ _ | exact Kd.S_nil _ _ _ _ _, hL HB.out⟩

end Go.Proofs.Ytmgjccpolkhhhaa.PAll
