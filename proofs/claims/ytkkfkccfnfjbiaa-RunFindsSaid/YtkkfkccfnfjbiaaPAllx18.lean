-- Written by a program of this session for this claim (mp.py, over the kit's print); Lean checks it.
import Derived.Test.YtkkfkccfnfjbiaaPAllx0
import Derived.Test.YtkkfkccfnfjbiaaPAllx11
namespace Go.Proofs.Ytkkfkccfnfjbiaa.PAll
open Go.RowKit Go.Proofs.YtkkfkccfnfjbiaaW.PrintWords Go.Proofs.YtkkfkccfnfjbiaaW.PrintLast Go.Proofs.YtkkfkccfnfjbiaaW.PrintMore Go.Proofs.Ytkkfkccfnfjbiaa.Fv Go.Proofs.Ytkkfkccfnfjbiaa.Hl
attribute [local go_sem] max2_int min2_int max_two min_two max_three min_three max_four min_four str_gtr str_leq str_geq cell_set2   -- for this text's walks alone
set_option linter.unusedVariables false
set_option linter.unusedSimpArgs false

/-! ### shelfmarkref09_Live: function 22 -/
mutual
def shelfmarkref09_Live.l0 : Nat → List (S37) → List (S64) → Int → Option ((List (S64)))
 | 0, _, _, _ => none
 | k + 1, x0, x3, x4 => if x4 < (x0.length : Int) then ((shelfmarkref09_Right.f k x0).bind fun t328 => (shelfmarkref09_Live.j1 k x0 x3 x4 t328)) else (shelfmarkref09_Live.j1 k x0 x3 x4 false)
def shelfmarkref09_Live.j1 : Nat → List (S37) → List (S64) → Int → Bool → Option ((List (S64)))
 | 0, _, _, _, _ => none
 | k + 1, x0, x3, x4, x12 => if x12 = true then (if 0 ≤ x4 then (if x4 < (x0.length : Int) then (if ((rd_T37 x0 x4).f2 = true) then (shelfmarkref09_Live.l0 k x0 x3 (wrap64 (x4 + 1))) else (if x3.length < 4398046511104 then (shelfmarkref09_Live.l0 k x0 (x3 ++ [(⟨(rd_T37 x0 x4).f0, (rd_T37 x0 x4).f1⟩ : S64)]) (wrap64 (x4 + 1))) else (none))) else (none)) else (none)) else (some x3)
end
def shelfmarkref09_Live.f (k : Nat) (l0 : List (S37)) : Option ((List (S64))) := shelfmarkref09_Live.l0 k l0 ([] : List (S64)) 0
theorem shelfmarkref09_Live.mono_l : ∀ k, (∀ y0 y1 y2, LeO (shelfmarkref09_Live.l0 k y0 y1 y2) (shelfmarkref09_Live.l0 (k + 1) y0 y1 y2)) ∧ (∀ y0 y1 y2 y3, LeO (shelfmarkref09_Live.j1 k y0 y1 y2 y3) (shelfmarkref09_Live.j1 (k + 1) y0 y1 y2 y3))
 | 0 => ⟨fun _ _ _ r h => by simp [shelfmarkref09_Live.l0] at h, fun _ _ _ _ r h => by simp [shelfmarkref09_Live.j1] at h⟩
 | k + 1 => by
  obtain ⟨ih0, ih1⟩ := shelfmarkref09_Live.mono_l k
  refine ⟨?_, ?_⟩
  ·intro y0 y1 y2
   unfold shelfmarkref09_Live.l0
   repeat' first
   | (with_reducible exact ih0 _ _ _)
   | (with_reducible exact ih1 _ _ _ _)
   | (with_reducible exact shelfmarkref09_Right.mono _ _)
   | (with_reducible exact LeO.refl _)
   | (with_reducible exact LeO.none _)
   | (with_reducible refine LeO.ite ?_ ?_)
   | (with_reducible refine LeO.bind ?_ (fun _ => ?_))
   | exact ih0 _ _ _
   | exact ih1 _ _ _ _
   | exact shelfmarkref09_Right.mono _ _
   | exact LeO.none _
   | refine LeO.ite ?_ ?_
   | refine LeO.bind ?_ (fun _ => ?_)
  ·intro y0 y1 y2 y3
   unfold shelfmarkref09_Live.j1
   repeat' first
   | (with_reducible exact ih0 _ _ _)
   | (with_reducible exact ih1 _ _ _ _)
   | (with_reducible exact shelfmarkref09_Right.mono _ _)
   | (with_reducible exact LeO.refl _)
   | (with_reducible exact LeO.none _)
   | (with_reducible refine LeO.ite ?_ ?_)
   | (with_reducible refine LeO.bind ?_ (fun _ => ?_))
   | exact ih0 _ _ _
   | exact ih1 _ _ _ _
   | exact shelfmarkref09_Right.mono _ _
   | exact LeO.none _
   | refine LeO.ite ?_ ?_
   | refine LeO.bind ?_ (fun _ => ?_)
theorem shelfmarkref09_Live.mono : ∀ a0 k, LeO (shelfmarkref09_Live.f k a0) (shelfmarkref09_Live.f (k + 1) a0) := by
 intro a0 k
 obtain ⟨ih0, ih1⟩ := shelfmarkref09_Live.mono_l k
 unfold shelfmarkref09_Live.f
 repeat' first
   | (with_reducible exact ih0 _ _ _)
   | (with_reducible exact ih1 _ _ _ _)
   | (with_reducible exact shelfmarkref09_Right.mono _ _)
   | (with_reducible exact LeO.refl _)
   | (with_reducible exact LeO.none _)
   | (with_reducible refine LeO.ite ?_ ?_)
   | (with_reducible refine LeO.bind ?_ (fun _ => ?_))
   | exact ih0 _ _ _
   | exact ih1 _ _ _ _
   | exact shelfmarkref09_Right.mono _ _
   | exact LeO.none _
   | refine LeO.ite ?_ ?_
   | refine LeO.bind ?_ (fun _ => ?_)
def shelfmarkref09_Live.T6 : Bool × List (List Nat × List Nat) := (true, [([], []), ([], []), ([], []), ([1, 2], [1, 2]), ([3], [3]), ([4], [4]), ([], []), ([], []), ([6, 7], [6, 7]), ([8], [8]), ([9], [9]), ([5, 10], [5, 10]), ([11], [11]), ([0, 12], [0, 12]), ([13, 13, 0, 1, 2, 3, 4, 5, 6, 7, 8, 9, 10, 11, 12, 13], [0, 13])])
def shelfmarkref09_Live.B6 : List Nat := [0, 0, 0, 6, 14, 30, 0, 0, 192, 448, 960, 2046, 4094, 8191, 16383]
theorem shelfmarkref09_Live.tab6 : rtab .any (opsOf Try.f22 6) = shelfmarkref09_Live.T6 := by kernel_rfl
theorem shelfmarkref09_Live.bits6 : waitsOk shelfmarkref09_Live.T6.2 shelfmarkref09_Live.B6 = true := by kernel_rfl
set_option maxHeartbeats 8000000 in
set_option maxRecDepth 100000 in
theorem shelfmarkref09_Live.calls (k : Nat) (A0 : Option Addr) (c0 : Nat) (l0 : List (S37)) (r : List (S64)) (w : World) (hr0 : Kd.C k37 w A0 l0.length l0) (hc0 : l0.length ≤ c0) (h : shelfmarkref09_Live.f k l0 = some r) :
  Calls Try.prog 22 #[.slice A0 l0.length c0] w fun e w' => ∃ v0_ : Value, e = .returned (v0_) ∧ Kd.R k64 64 w' w.heap.size (fun _ => True) v0_ r ∧ Below w.heap.size w w' := by
 have hu64 := Try.underlying64
 have HR0 := Aside0.mk hr0
 have HC0 := Aside0.mk hc0
 clear hr0 hc0
 have HB := Aside0.mk (Below.refl w.heap.size w)
 have H : (shelfmarkref09_Live.l0 k l0 ([] : List (S64)) 0) = some r := h
 clear h
 have H' := Aside0.mk H
 clear H
 go_enter Try.func22, Try.ntmps22
 go_wp2
 go_loopg [3, 4] k (fun kq v3 v4 w' => ∃ (x3_1 : List (S64)) (x4_1 : Int), v4 = .int .i64 x4_1 ∧ Aside0 (shelfmarkref09_Live.l0 kq l0 x3_1 x4_1 = some r) ∧ Aside0 (kq ≤ k) ∧ Aside0 (Kd.R k64 64 w' w.heap.size (fun _ => True) v3 x3_1) ∧ Aside0 (Below w.heap.size w w'))
 case atStart => exact ⟨(([] : List (S64))), (0), (by first | rfl | (simp; done) | (simp [*]; done) | (simp [ne_nil_bytes]; done) | (simp [eq_nil_bytes]; done)), H', ⟨Nat.le_refl _⟩, ⟨by first | exact Kd.R_nil _ _ _ _ _ | exact Kd.N_nil _ _ _ _ _ | exact Kd.V_nil _ _ _ _ _ | exact Kd.Q_nil _ _ _ _ _ | exact Kd.S_nil _ _ _ _ _⟩, ⟨hL HB.out⟩⟩
 clear H'
 obtain ⟨x3_1, x4_1, rfl, HA, HK1, HO_3, HB⟩ := hrel
 rcases gk with _ | k1
 ·exact absurd HA.out (by simp [shelfmarkref09_Live.l0])
 have H := HA.out
 clear HA
 simp only [shelfmarkref09_Live.l0] at H
 have HC2 := Aside0.mk H
 clear H
 go_upto_region 3 with (fail)
 go_cut [12] (fun v12 wc => ∃ (kq : Nat) (x12_1 : Bool), v12 = .bool x12_1 ∧ Aside0 (shelfmarkref09_Live.j1 kq l0 x3_1 x4_1 x12_1 = some r) ∧ Aside0 (kq ≤ k1) ∧ Aside0 (Kd.R k64 64 wc w.heap.size (fun _ => True) u3 x3_1) ∧ Aside0 (Below w.heap.size w wc))
 case first =>
  have H := HC2.out
  clear HC2
  by_cases c3 : x4_1 < (l0.length : Int)
  rotate_left
  ·rw [if_neg c3] at H
   have c3b0 : decide (x4_1 < (l0.length : Int)) = false := decide_eq_false c3
   clear c3
   (first | rw [c3b0] | (simp only [i64_w, i32_w]; rw [c3b0]) | skip)
   have H' := Aside0.mk H
   clear H
   go_wp2
   go_meet
   case rel => exact ⟨_, (false), (by first | rfl | (simp; done) | (simp [*]; done) | (simp [ne_nil_bytes]; done) | (simp [eq_nil_bytes]; done)), H', ⟨by have := HK1.out; first | omega | exact Nat.le_refl _⟩, ⟨by exact rL HO_3.out⟩, ⟨hL HB.out⟩⟩
  rw [if_pos c3] at H
  have c3b0 : decide (x4_1 < (l0.length : Int)) = true := decide_eq_true c3
  clear c3
  (first | rw [c3b0] | (simp only [i64_w, i32_w]; rw [c3b0]) | skip)
  replace H := Option.bind_eq_some_iff.mp H
  obtain ⟨t328, A40, H⟩ := H
  replace H : (shelfmarkref09_Live.j1 k1 l0 x3_1 x4_1 t328) = some r := H
  have A4 := Aside0.mk A40
  clear A40
  have H' := Aside0.mk H
  clear H
  go_wp2_with (first | (go_at_call 29; (with_reducible refine (shelfmarkref09_Right.calls k1 _ _ l0 t328 _ ?side1 ?side2 A4.out).mono ?_); (case side1 => repeat (first | exact (Kd.C_below HR0.out HB.out) | (with_reducible refine Kd.C_alloc ?_ _) | (with_reducible refine Kd.C_drewN ?_ _) | (with_reducible refine Kd.C_drew ?_))); (case side2 => exact HC0.out); rintro e w' ⟨rfl, ⟨nd, rfl⟩⟩))
  go_meet
  case rel => exact ⟨_, (t328), (by first | rfl | (simp; done) | (simp [*]; done) | (simp [ne_nil_bytes]; done) | (simp [eq_nil_bytes]; done)), H', ⟨by have := HK1.out; first | omega | exact Nat.le_refl _⟩, ⟨by exact rL HO_3.out⟩, ⟨hL HB.out⟩⟩
 clear HC2
 try clear c2
 try clear p2
 try clear c3
 try clear c3b0
 try clear c3b0z
 obtain ⟨kq, x12_1, rfl, HA, HJ1, HO_3, HB⟩ := hcut
 rcases kq with _ | kj1
 ·exact absurd HA.out (by simp [shelfmarkref09_Live.j1])
 have H := HA.out
 clear HA
 simp only [shelfmarkref09_Live.j1] at H
 by_cases c5 : x12_1 = true
 rotate_left
 ·replace c5 := Bool.eq_false_iff.mpr c5
  subst c5
  have H1 : (some x3_1) = some r := by rw [if_neg (show ¬ (false = true) by decide)] at H; exact H
  clear H
  have H := H1
  clear H1
  obtain rfl := Option.some.inj H
  simp only [Option.some.injEq, Prod.mk.injEq] at H
  obtain ⟨rfl⟩ := H
  go_wp2
  go_ret
  exact ⟨_, by first | rfl | (simp [errW_none, errW_some] <;> rfl) | (simp [*, errW_none, errW_some] <;> rfl), by exact rL HO_3.out, hL HB.out⟩
 subst c5
 have H1 : (if 0 ≤ x4_1 then (if x4_1 < (l0.length : Int) then (if ((rd_T37 l0 x4_1).f2 = true) then (shelfmarkref09_Live.l0 kj1 l0 x3_1 (wrap64 (x4_1 + 1))) else (if x3_1.length < 4398046511104 then (shelfmarkref09_Live.l0 kj1 l0 (x3_1 ++ [(⟨(rd_T37 l0 x4_1).f0, (rd_T37 l0 x4_1).f1⟩ : S64)]) (wrap64 (x4_1 + 1))) else (none))) else (none)) else (none)) = some r := by rw [if_pos rfl] at H; exact H
 clear H
 have H := H1
 clear H1
 by_cases c6 : 0 ≤ x4_1
 rotate_left
 ·rw [if_neg c6] at H
  exact absurd H (by simp)
 rw [if_pos c6] at H
 have c6b0 : decide (0 ≤ x4_1) = true := decide_eq_true c6
 clear c6
 by_cases c7 : x4_1 < (l0.length : Int)
 rotate_left
 ·rw [if_neg c7] at H
  exact absurd H (by simp)
 rw [if_pos c7] at H
 have c7b0 : decide (x4_1 < (l0.length : Int)) = true := decide_eq_true c7
 clear c7
 obtain ⟨bq8, hbq8⟩ : ∃ b_ : Bool, b_ = ((rd_T37 l0 x4_1).f2) := ⟨_, rfl⟩
 replace H : (if (bq8 = true) then (shelfmarkref09_Live.l0 kj1 l0 x3_1 (wrap64 (x4_1 + 1))) else (if x3_1.length < 4398046511104 then (shelfmarkref09_Live.l0 kj1 l0 (x3_1 ++ [(⟨(rd_T37 l0 x4_1).f0, (rd_T37 l0 x4_1).f1⟩ : S64)]) (wrap64 (x4_1 + 1))) else (none))) = some r := by rw [← hbq8] at H; exact H
 have Nbq8 := Aside0.mk hbq8
 clear hbq8
 by_cases c9 : (bq8 = true)
 ·subst c9
  have H1 : (shelfmarkref09_Live.l0 kj1 l0 x3_1 (wrap64 (x4_1 + 1))) = some r := by rw [if_pos rfl] at H; exact H
  clear H
  have H := H1
  clear H1
  have H' := Aside0.mk H
  clear H
  have p329 : 0 ≤ (x4_1 : Int) := of_decide_eq_true (by first | (with_reducible assumption) | assumption)
  have q329 : x4_1 < (l0.length : Int) := of_decide_eq_true (by first | (with_reducible assumption) | assumption)
  obtain ⟨ad329, e329, hx329_0, hx329_1, hx329_2⟩ := at_T37 HR0.out x4_1 p329 q329
  (try rw [← Nbq8.out] at hx329_2)
  cases e329
  replace hx329_0 := (HB.out.cell (World.block_lt_of_cell? w _ hx329_0)).trans hx329_0
  replace hx329_1 := (HB.out.cell (World.block_lt_of_cell? w _ hx329_1)).trans hx329_1
  replace hx329_2 := (HB.out.cell (World.block_lt_of_cell? w _ hx329_2)).trans hx329_2
  replace p329 := eq_true p329
  replace q329 := eq_true q329
  go_wp2
  go_roundg kj1
  case measure => have := HK1.out; have := HJ1.out; omega
  case rel => (first | exact ⟨(x3_1), (wrap64 (x4_1 + 1)), (by first | rfl | (simp; done) | (simp [*]; done) | (simp [ne_nil_bytes]; done) | (simp [eq_nil_bytes]; done)), H', ⟨by have := HK1.out; have := HJ1.out; omega⟩, ⟨by exact rL HO_3.out⟩, ⟨hL HB.out⟩⟩ | ((try rw [← Nbq8.out]); exact ⟨(x3_1), (wrap64 (x4_1 + 1)), (by first | rfl | (simp; done) | (simp [*]; done) | (simp [ne_nil_bytes]; done) | (simp [eq_nil_bytes]; done)), H', ⟨by have := HK1.out; have := HJ1.out; omega⟩, ⟨by exact rL HO_3.out⟩, ⟨hL HB.out⟩⟩))
 replace c9 := Bool.eq_false_iff.mpr c9
 subst c9
 have H1 : (if x3_1.length < 4398046511104 then (shelfmarkref09_Live.l0 kj1 l0 (x3_1 ++ [(⟨(rd_T37 l0 x4_1).f0, (rd_T37 l0 x4_1).f1⟩ : S64)]) (wrap64 (x4_1 + 1))) else (none)) = some r := by rw [if_neg (show ¬ (false = true) by decide)] at H; exact H
 clear H
 have H := H1
 clear H1
 by_cases c10 : x3_1.length < 4398046511104
 rotate_left
 ·rw [if_neg c10] at H
  exact absurd H (by simp)
 rw [if_pos c10] at H
 have LMc10 := Aside0.mk c10
 clear c10
 obtain ⟨y332, hy332⟩ : ∃ y_ : List (S64), y_ = (x3_1 ++ [(⟨(rd_T37 l0 x4_1).f0, (rd_T37 l0 x4_1).f1⟩ : S64)]) := ⟨_, rfl⟩
 replace H : (shelfmarkref09_Live.l0 kj1 l0 y332 (wrap64 (x4_1 + 1))) = some r := by first | (rw [hy332]; with_reducible exact H) | (have H2_ := (Option.bind_some _ _).symm.trans H; rw [hy332]; with_reducible exact H2_) | (have H2_ := (Option.bind_some _ _).symm.trans H; with_reducible exact H2_) | with_reducible exact H | (rw [hy332]; exact H) | exact H
 have Ny332 := Aside0.mk hy332
 clear hy332
 have H' := Aside0.mk H
 clear H
 have p329 : 0 ≤ (x4_1 : Int) := of_decide_eq_true (by first | (with_reducible assumption) | assumption)
 have q329 : x4_1 < (l0.length : Int) := of_decide_eq_true (by first | (with_reducible assumption) | assumption)
 obtain ⟨ad329, e329, hx329_0, hx329_1, hx329_2⟩ := at_T37 HR0.out x4_1 p329 q329
 (try rw [← Nbq8.out] at hx329_2)
 cases e329
 replace hx329_0 := (HB.out.cell (World.block_lt_of_cell? w _ hx329_0)).trans hx329_0
 replace hx329_1 := (HB.out.cell (World.block_lt_of_cell? w _ hx329_1)).trans hx329_1
 replace hx329_2 := (HB.out.cell (World.block_lt_of_cell? w _ hx329_2)).trans hx329_2
 replace p329 := eq_true p329
 replace q329 := eq_true q329
 try go_wp2
 have n0_ := Aside0.mk (Kd.R_drew HO_3.out)
 have n1_ := Aside0.mk (below_drew1 HB.out)
 clear HO_3
 clear HB
 have HO_3 := n0_
 have HB := n1_
 clear n0_ n1_
 have p330 : 0 ≤ (x4_1 : Int) := of_decide_eq_true (by first | (with_reducible assumption) | assumption)
 have q330 : x4_1 < (l0.length : Int) := of_decide_eq_true (by first | (with_reducible assumption) | assumption)
 obtain ⟨ad330, e330, hx330_0, hx330_1, hx330_2⟩ := at_T37 HR0.out x4_1 p330 q330
 have hw330_2 := hx330_2
 have hw330_1 := hx330_1
 have hw330_0 := hx330_0
 (try rw [← Nbq8.out] at hx330_2)
 obtain rfl : ad329 = ad330 := (by injection e330)
 replace hx330_0 := (HB.out.cell (World.block_lt_of_cell? w _ hx330_0)).trans hx330_0
 replace hx330_1 := (HB.out.cell (World.block_lt_of_cell? w _ hx330_1)).trans hx330_1
 replace hx330_2 := (HB.out.cell (World.block_lt_of_cell? w _ hx330_2)).trans hx330_2
 replace p330 := eq_true p330
 replace q330 := eq_true q330
 have p331 : 0 ≤ (x4_1 : Int) := of_decide_eq_true (by first | (with_reducible assumption) | assumption)
 have q331 : x4_1 < (l0.length : Int) := of_decide_eq_true (by first | (with_reducible assumption) | assumption)
 obtain ⟨ad331, e331, hx331_0, hx331_1, hx331_2⟩ := at_T37 HR0.out x4_1 p331 q331
 have hw331_2 := hx331_2
 have hw331_1 := hx331_1
 have hw331_0 := hx331_0
 (try rw [← Nbq8.out] at hx331_2)
 obtain rfl : ad329 = ad331 := (by injection e331)
 replace hx331_0 := (HB.out.cell (World.block_lt_of_cell? w _ hx331_0)).trans hx331_0
 replace hx331_1 := (HB.out.cell (World.block_lt_of_cell? w _ hx331_1)).trans hx331_1
 replace hx331_2 := (HB.out.cell (World.block_lt_of_cell? w _ hx331_2)).trans hx331_2
 replace p331 := eq_true p331
 replace q331 := eq_true q331
 refine start_ (n := 15) (S := fun w' => w'.cell? (ad329.add ((x4_1).toNat * 3)) = some (.string ((rd_T37 l0 x4_1).f0)) ∧ w'.cell? ⟨(ad329.add ((x4_1).toNat * 3)).block, (ad329.add ((x4_1).toNat * 3)).off + 1, none⟩ = some (.string ((rd_T37 l0 x4_1).f1)) ∧ w'.cell? ⟨(ad329.add ((x4_1).toNat * 3)).block, (ad329.add ((x4_1).toNat * 3)).off + 2, none⟩ = some (.bool (false)) ∧ w'.cell? (ad329.add ((x4_1).toNat * 3)) = some (.string ((rd_T37 l0 x4_1).f0)) ∧ w'.cell? ⟨(ad329.add ((x4_1).toNat * 3)).block, (ad329.add ((x4_1).toNat * 3)).off + 1, none⟩ = some (.string ((rd_T37 l0 x4_1).f1)) ∧ w'.cell? ⟨(ad329.add ((x4_1).toNat * 3)).block, (ad329.add ((x4_1).toNat * 3)).off + 2, none⟩ = some (.bool (false))) (ds := []) #[false, false, false, false, false, false, false, false, false, false, false, false, false, false, false] (by kernel_rfl) rfl rfl ⟨((HB.out.cell (World.block_lt_of_cell? w _ hw330_0)).trans (by first | exact hw330_0 | (rw [Nbq8.out]; exact hw330_0))), ((HB.out.cell (World.block_lt_of_cell? w _ hw330_1)).trans (by first | exact hw330_1 | (rw [Nbq8.out]; exact hw330_1))), ((HB.out.cell (World.block_lt_of_cell? w _ hw330_2)).trans (by first | exact hw330_2 | (rw [Nbq8.out]; exact hw330_2))), ((HB.out.cell (World.block_lt_of_cell? w _ hw331_0)).trans (by first | exact hw331_0 | (rw [Nbq8.out]; exact hw331_0))), ((HB.out.cell (World.block_lt_of_cell? w _ hw331_1)).trans (by first | exact hw331_1 | (rw [Nbq8.out]; exact hw331_1))), ((HB.out.cell (World.block_lt_of_cell? w _ hw331_2)).trans (by first | exact hw331_2 | (rw [Nbq8.out]; exact hw331_2)))⟩ (fun hHeld => ?_); refine with_tabW shelfmarkref09_Live.tab6 shelfmarkref09_Live.bits6 (fun HT_ HW_ => ?_)
 generalize wc.drew = w11 at HO_3 HB hx330_0 hx330_1 hx330_2 hx331_0 hx331_1 hx331_2 hHeld ⊢
 refine pure_ (i := 0) (N := some 21) (v := ?_) (a' := ?_) #[true, false, false, false, false, false, false, false, false, false, false, false, false, false, false] rfl rfl (any_of HT_.out (by kernel_rfl)) (fun _ _ _ h => h) (Or.inl ⟨by rfl, ?_⟩) ?_ ?_
 rotate_left
 ·intro w'
  go_simp
  with_reducible rfl
 rotate_left
 ·simp only [Act.put, sT, sZ, sS, i64_w, i32_w]
  rfl
 refine pure_ (i := 1) (N := some 22) (v := ?_) (a' := ?_) #[true, true, false, false, false, false, false, false, false, false, false, false, false, false, false] rfl rfl (any_of HT_.out (by kernel_rfl)) (fun _ _ _ h => h) (Or.inl ⟨by rfl, ?_⟩) ?_ ?_
 rotate_left
 ·intro w'
  go_simp
  with_reducible rfl
 rotate_left
 ·simp only [Act.put, sT, sZ, sS, i64_w, i32_w]
  rfl
 refine pure_ (i := 2) (N := some 23) (v := ?_) (a' := ?_) #[true, true, true, false, false, false, false, false, false, false, false, false, false, false, false] rfl rfl (any_of HT_.out (by kernel_rfl)) (fun _ _ _ h => h) (Or.inl ⟨by rfl, ?_⟩) ?_ ?_
 rotate_left
 ·intro w'
  go_simp
  with_reducible rfl
 rotate_left
 ·simp only [Act.put, sT, sZ, sS, i64_w, i32_w]
  rfl
 refine pure_ (i := 3) (N := some 24) (v := ?_) (a' := ?_) #[true, true, true, true, false, false, false, false, false, false, false, false, false, false, false] rfl rfl (any_of HT_.out (by kernel_rfl)) (fun _ _ _ h => h) (Or.inl ⟨by rfl, ?_⟩) ?_ ?_
 rotate_left
 ·intro w'
  go_simp
  with_reducible rfl
 rotate_left
 ·simp only [Act.put, sT, sZ, sS, i64_w, i32_w]
  rfl
 refine pure_ (i := 4) (N := some 25) (v := ?_) (a' := ?_) #[true, true, true, true, true, false, false, false, false, false, false, false, false, false, false] rfl rfl (any_of HT_.out (by kernel_rfl)) (fun _ _ _ h => h) (Or.inl ⟨by rfl, ?_⟩) ?_ ?_
 rotate_left
 ·intro w'
  go_simp
  with_reducible rfl
 rotate_left
 ·simp only [Act.put, sT, sZ, sS, i64_w, i32_w]
  rfl
 refine pure_ (i := 6) (N := some 27) (v := ?_) (a' := ?_) #[true, true, true, true, true, false, true, false, false, false, false, false, false, false, false] rfl rfl (any_of HT_.out (by kernel_rfl)) (fun _ _ _ h => h) (Or.inl ⟨by rfl, ?_⟩) ?_ ?_
 rotate_left
 ·intro w'
  go_simp
  with_reducible rfl
 rotate_left
 ·simp only [Act.put, sT, sZ, sS, i64_w, i32_w]
  rfl
 refine pure_ (i := 7) (N := some 28) (v := ?_) (a' := ?_) #[true, true, true, true, true, false, true, true, false, false, false, false, false, false, false] rfl rfl (any_of HT_.out (by kernel_rfl)) (fun _ _ _ h => h) (Or.inl ⟨by rfl, ?_⟩) ?_ ?_
 rotate_left
 ·intro w'
  go_simp
  with_reducible rfl
 rotate_left
 ·simp only [Act.put, sT, sZ, sS, i64_w, i32_w]
  rfl
 refine pure_ (i := 8) (N := some 29) (v := ?_) (a' := ?_) #[true, true, true, true, true, false, true, true, true, false, false, false, false, false, false] rfl rfl (any_of HT_.out (by kernel_rfl)) (fun _ _ _ h => h) (Or.inl ⟨by rfl, ?_⟩) ?_ ?_
 rotate_left
 ·intro w'
  go_simp
  with_reducible rfl
 rotate_left
 ·simp only [Act.put, sT, sZ, sS, i64_w, i32_w]
  rfl
 refine pure_ (i := 9) (N := some 30) (v := ?_) (a' := ?_) #[true, true, true, true, true, false, true, true, true, true, false, false, false, false, false] rfl rfl (any_of HT_.out (by kernel_rfl)) (fun _ _ _ h => h) (Or.inl ⟨by rfl, ?_⟩) ?_ ?_
 rotate_left
 ·intro w'
  go_simp
  with_reducible rfl
 rotate_left
 ·simp only [Act.put, sT, sZ, sS, i64_w, i32_w]
  rfl
 refine take_ (i := 5) (N := some 26) (v := ?_) (a' := ?_) #[true, true, true, true, true, true, true, true, true, true, false, false, false, false, false] rfl rfl (take_ofW HT_.out HW_.out (by kernel_rfl)) (fun _ _ _ h => h) (Or.inl ⟨by rfl, ?_⟩) hHeld ?_ ?_
 rotate_left
 ·rintro w' ⟨s0, s1, s2, s3, s4, s5⟩
  go_simp
  with_reducible rfl
 rotate_left
 ·simp only [Act.put, sT, sZ, sS, i64_w, i32_w]
  rfl
 refine take_ (i := 10) (N := some 31) (v := ?_) (a' := ?_) #[true, true, true, true, true, true, true, true, true, true, true, false, false, false, false] rfl rfl (take_ofW HT_.out HW_.out (by kernel_rfl)) (fun _ _ _ h => h) (Or.inl ⟨by rfl, ?_⟩) hHeld ?_ ?_
 rotate_left
 ·rintro w' ⟨s0, s1, s2, s3, s4, s5⟩
  go_simp
  with_reducible rfl
 rotate_left
 ·simp only [Act.put, sT, sZ, sS, i64_w, i32_w]
  rfl
 refine pure_ (i := 11) (N := some 32) (v := ?_) (a' := ?_) #[true, true, true, true, true, true, true, true, true, true, true, true, false, false, false] rfl rfl (any_of HT_.out (by kernel_rfl)) (fun _ _ _ h => h) (Or.inl ⟨by rfl, ?_⟩) ?_ ?_
 rotate_left
 ·intro w'
  go_simp
  with_reducible rfl
 rotate_left
 ·simp only [Act.put, sT, sZ, sS, i64_w, i32_w]
  rfl
 refine one_ (i := 12) (N := some 33) #[true, true, true, true, true, true, true, true, true, true, true, true, true, false, false] rfl rfl (one_of HT_.out (by kernel_rfl)) (by decide) (fun K hK => ?_)
 refine value_ (w1 := ?_) (v := ?_) (by rfl) rfl ?_ ?_
 rotate_left 2
 ·go_simp
  constructor
  ·rfl
  ·rfl
 refine hK.out _ _ ⟨(World.cell?_alloc_lt _ _ _ (World.block_lt_of_cell? _ _ (((HB.out.cell (World.block_lt_of_cell? w _ hw330_0)).trans (by first | exact hw330_0 | (rw [Nbq8.out]; exact hw330_0)))))).trans (((HB.out.cell (World.block_lt_of_cell? w _ hw330_0)).trans (by first | exact hw330_0 | (rw [Nbq8.out]; exact hw330_0)))), (World.cell?_alloc_lt _ _ _ (World.block_lt_of_cell? _ _ (((HB.out.cell (World.block_lt_of_cell? w _ hw330_1)).trans (by first | exact hw330_1 | (rw [Nbq8.out]; exact hw330_1)))))).trans (((HB.out.cell (World.block_lt_of_cell? w _ hw330_1)).trans (by first | exact hw330_1 | (rw [Nbq8.out]; exact hw330_1)))), (World.cell?_alloc_lt _ _ _ (World.block_lt_of_cell? _ _ (((HB.out.cell (World.block_lt_of_cell? w _ hw330_2)).trans (by first | exact hw330_2 | (rw [Nbq8.out]; exact hw330_2)))))).trans (((HB.out.cell (World.block_lt_of_cell? w _ hw330_2)).trans (by first | exact hw330_2 | (rw [Nbq8.out]; exact hw330_2)))), (World.cell?_alloc_lt _ _ _ (World.block_lt_of_cell? _ _ (((HB.out.cell (World.block_lt_of_cell? w _ hw331_0)).trans (by first | exact hw331_0 | (rw [Nbq8.out]; exact hw331_0)))))).trans (((HB.out.cell (World.block_lt_of_cell? w _ hw331_0)).trans (by first | exact hw331_0 | (rw [Nbq8.out]; exact hw331_0)))), (World.cell?_alloc_lt _ _ _ (World.block_lt_of_cell? _ _ (((HB.out.cell (World.block_lt_of_cell? w _ hw331_1)).trans (by first | exact hw331_1 | (rw [Nbq8.out]; exact hw331_1)))))).trans (((HB.out.cell (World.block_lt_of_cell? w _ hw331_1)).trans (by first | exact hw331_1 | (rw [Nbq8.out]; exact hw331_1)))), (World.cell?_alloc_lt _ _ _ (World.block_lt_of_cell? _ _ (((HB.out.cell (World.block_lt_of_cell? w _ hw331_2)).trans (by first | exact hw331_2 | (rw [Nbq8.out]; exact hw331_2)))))).trans (((HB.out.cell (World.block_lt_of_cell? w _ hw331_2)).trans (by first | exact hw331_2 | (rw [Nbq8.out]; exact hw331_2))))⟩ (fun hHeld => ?_)
 clear hK K
 refine norm_ (a' := ?_) ?_ ?_
 rotate_left
 ·show Act.put _ (some 33) _ = _
  simp only [Act.put, sT, sZ, sS, i64_w, i32_w]
  rfl
 refine one_ (i := 13) (N := some 34) #[true, true, true, true, true, true, true, true, true, true, true, true, true, true, false] rfl rfl (one_of HT_.out (by kernel_rfl)) (by decide) (fun K hK => ?_)
 refine Kd.R_append_step k64 (w0 := w) w.heap.size (by rfl) (.tmp 21) (.tmp 33) 42 64 (.agg #[(.string ⟨#[]⟩), (.string ⟨#[]⟩)]) 32 rfl Try.underlying42 info64 rfl (by decide) (by omega) u3 x3_1 (⟨(rd_T37 l0 x4_1).f0, (rd_T37 l0 x4_1).f1⟩ : S64) [.string ((rd_T37 l0 x4_1).f0), .string ((rd_T37 l0 x4_1).f1)] (fun _ => True) (fun _ => False) rfl rfl ?aP (fun _ hk => hk.elim) ?aF ?aO ?aB ?aS ?aL ?_
 (case aP => exact k64_mkM _ _ _ (⟨(rd_T37 l0 x4_1).f0, (rd_T37 l0 x4_1).f1⟩ : S64))
 (case aB => exact (hL HB.out))
 (case aF => exact (fun _ _ => trivial))
 (case aO => exact (rL HO_3.out))
 (case aS => exact (below_size (hL HB.out)))
 (case aL => have := LMc10.out; omega)
 intro v333 w12 ho hb hg hat
 rw [← Ny332.out] at ho
 have n0_ := Aside0.mk (hb)
 have n1_ := Aside0.mk (ho)
 clear HB
 clear HO_3
 have HB := n0_
 have HO334 := n1_
 clear n0_ n1_
 clear ho hb hg hat
 refine hK.out _ _ ⟨((HB.out.cell (World.block_lt_of_cell? w _ hw330_0)).trans (by first | exact hw330_0 | (rw [Nbq8.out]; exact hw330_0))), ((HB.out.cell (World.block_lt_of_cell? w _ hw330_1)).trans (by first | exact hw330_1 | (rw [Nbq8.out]; exact hw330_1))), ((HB.out.cell (World.block_lt_of_cell? w _ hw330_2)).trans (by first | exact hw330_2 | (rw [Nbq8.out]; exact hw330_2))), ((HB.out.cell (World.block_lt_of_cell? w _ hw331_0)).trans (by first | exact hw331_0 | (rw [Nbq8.out]; exact hw331_0))), ((HB.out.cell (World.block_lt_of_cell? w _ hw331_1)).trans (by first | exact hw331_1 | (rw [Nbq8.out]; exact hw331_1))), ((HB.out.cell (World.block_lt_of_cell? w _ hw331_2)).trans (by first | exact hw331_2 | (rw [Nbq8.out]; exact hw331_2)))⟩ (fun hHeld => ?_)
 clear hK K
 refine norm_ (a' := ?_) ?_ ?_
 rotate_left
 ·show Act.put _ (some 34) _ = _
  simp only [Act.put, sT, sZ, sS, i64_w, i32_w]
  rfl
 refine pure_ (i := 14) (N := some 3) (v := ?_) (a' := ?_) #[true, true, true, true, true, true, true, true, true, true, true, true, true, true, true] rfl rfl (any_of HT_.out (by kernel_rfl)) (fun _ _ _ h => h) (Or.inl ⟨by rfl, ?_⟩) ?_ ?_
 rotate_left
 ·intro w'
  go_simp
  with_reducible rfl
 rotate_left
 ·simp only [Act.put, sT, sZ, sS, i64_w, i32_w]
  rfl
 refine done_ (done_of HT_.out (by kernel_rfl)) ?_
 try go_wp2
 go_roundg kj1
 case measure => have := HK1.out; have := HJ1.out; omega
 case rel => (first | exact ⟨(y332), (wrap64 (x4_1 + 1)), (by first | rfl | (simp; done) | (simp [*]; done) | (simp [ne_nil_bytes]; done) | (simp [eq_nil_bytes]; done)), H', ⟨by have := HK1.out; have := HJ1.out; omega⟩, ⟨by exact rL HO334.out⟩, ⟨hL HB.out⟩⟩ | ((try rw [← Nbq8.out]); exact ⟨(y332), (wrap64 (x4_1 + 1)), (by first | rfl | (simp; done) | (simp [*]; done) | (simp [ne_nil_bytes]; done) | (simp [eq_nil_bytes]; done)), H', ⟨by have := HK1.out; have := HJ1.out; omega⟩, ⟨by exact rL HO334.out⟩, ⟨hL HB.out⟩⟩))

end Go.Proofs.Ytkkfkccfnfjbiaa.PAll
