-- Written by a program of this session for this claim (mp.py, over the kit's print); Lean checks it.
import Derived.Test.YtkkfkccfnfjbiaaPAllx0
import Derived.Test.YtkkfkccfnfjbiaaPAllx5
import Derived.Test.YtkkfkccfnfjbiaaPAllx11
import Derived.Test.YtkkfkccfnfjbiaaPAllx14
namespace Go.Proofs.Ytkkfkccfnfjbiaa.PAll
open Go.RowKit Go.Proofs.YtkkfkccfnfjbiaaW.PrintWords Go.Proofs.YtkkfkccfnfjbiaaW.PrintLast Go.Proofs.YtkkfkccfnfjbiaaW.PrintMore Go.Proofs.Ytkkfkccfnfjbiaa.Fv Go.Proofs.Ytkkfkccfnfjbiaa.Hl
attribute [local go_sem] max2_int min2_int max_two min_two max_three min_three max_four min_four str_gtr str_leq str_geq cell_set2   -- for this text's walks alone
set_option linter.unusedVariables false
set_option linter.unusedSimpArgs false

/-! ### shelfmarkref09_Find: function 17 -/
mutual
def shelfmarkref09_Find.l0 : Nat → List (S37) → ByteArray → Int → Option (ByteArray × ByteArray × Bool × Bool)
 | 0, _, _, _ => none
 | k + 1, x0, x1, x6 => if x6 < (x0.length : Int) then ((shelfmarkref09_Right.f k x0).bind fun t281 => (shelfmarkref09_Find.j1 k x0 x1 x6 t281)) else (shelfmarkref09_Find.j1 k x0 x1 x6 false)
def shelfmarkref09_Find.j1 : Nat → List (S37) → ByteArray → Int → Bool → Option (ByteArray × ByteArray × Bool × Bool)
 | 0, _, _, _, _ => none
 | k + 1, x0, x1, x6, x14 => if x14 = true then (if 0 ≤ x6 then (if x6 < (x0.length : Int) then (if ((rd_T37 x0 x6).f0).toList = x1.toList then (some ((rd_T37 x0 x6).f0, (rd_T37 x0 x6).f1, (rd_T37 x0 x6).f2, true)) else (shelfmarkref09_Find.l0 k x0 x1 (wrap64 (x6 + 1)))) else (none)) else (none)) else (some ((⟨#[]⟩ : ByteArray), (⟨#[]⟩ : ByteArray), false, false))
end
def shelfmarkref09_Find.f (k : Nat) (l0 : List (S37)) (a1 : ByteArray) : Option (ByteArray × ByteArray × Bool × Bool) := shelfmarkref09_Find.l0 k l0 a1 0
theorem shelfmarkref09_Find.mono_l : ∀ k, (∀ y0 y1 y2, LeO (shelfmarkref09_Find.l0 k y0 y1 y2) (shelfmarkref09_Find.l0 (k + 1) y0 y1 y2)) ∧ (∀ y0 y1 y2 y3, LeO (shelfmarkref09_Find.j1 k y0 y1 y2 y3) (shelfmarkref09_Find.j1 (k + 1) y0 y1 y2 y3))
 | 0 => ⟨fun _ _ _ r h => by simp [shelfmarkref09_Find.l0] at h, fun _ _ _ _ r h => by simp [shelfmarkref09_Find.j1] at h⟩
 | k + 1 => by
  obtain ⟨ih0, ih1⟩ := shelfmarkref09_Find.mono_l k
  refine ⟨?_, ?_⟩
  ·intro y0 y1 y2
   unfold shelfmarkref09_Find.l0
   repeat' first
   | (with_reducible exact ih0 _ _ _)
   | (with_reducible exact ih1 _ _ _ _)
   | (with_reducible exact shelfmarkref09_Right.mono _ _)
   | (with_reducible exact LeO.refl _)
   | (with_reducible exact LeO.none _)
   | (with_reducible refine LeO.ite ?_ ?_)
   | (with_reducible refine LeO.bind ?_ (fun _ => ?_))
   | exact ih0 _ _ _
   | exact ih1 _ _ _ _
   | exact shelfmarkref09_Right.mono _ _
   | exact LeO.none _
   | refine LeO.ite ?_ ?_
   | refine LeO.bind ?_ (fun _ => ?_)
  ·intro y0 y1 y2 y3
   unfold shelfmarkref09_Find.j1
   repeat' first
   | (with_reducible exact ih0 _ _ _)
   | (with_reducible exact ih1 _ _ _ _)
   | (with_reducible exact shelfmarkref09_Right.mono _ _)
   | (with_reducible exact LeO.refl _)
   | (with_reducible exact LeO.none _)
   | (with_reducible refine LeO.ite ?_ ?_)
   | (with_reducible refine LeO.bind ?_ (fun _ => ?_))
   | exact ih0 _ _ _
   | exact ih1 _ _ _ _
   | exact shelfmarkref09_Right.mono _ _
   | exact LeO.none _
   | refine LeO.ite ?_ ?_
   | refine LeO.bind ?_ (fun _ => ?_)
theorem shelfmarkref09_Find.mono : ∀ a0 a1 k, LeO (shelfmarkref09_Find.f k a0 a1) (shelfmarkref09_Find.f (k + 1) a0 a1) := by
 intro a0 a1 k
 obtain ⟨ih0, ih1⟩ := shelfmarkref09_Find.mono_l k
 unfold shelfmarkref09_Find.f
 repeat' first
   | (with_reducible exact ih0 _ _ _)
   | (with_reducible exact ih1 _ _ _ _)
   | (with_reducible exact shelfmarkref09_Right.mono _ _)
   | (with_reducible exact LeO.refl _)
   | (with_reducible exact LeO.none _)
   | (with_reducible refine LeO.ite ?_ ?_)
   | (with_reducible refine LeO.bind ?_ (fun _ => ?_))
   | exact ih0 _ _ _
   | exact ih1 _ _ _ _
   | exact shelfmarkref09_Right.mono _ _
   | exact LeO.none _
   | refine LeO.ite ?_ ?_
   | refine LeO.bind ?_ (fun _ => ?_)
set_option maxHeartbeats 8000000 in
set_option maxRecDepth 100000 in
theorem shelfmarkref09_Find.calls (k : Nat) (A0 : Option Addr) (c0 : Nat) (l0 : List (S37)) (a1 : ByteArray) (r1 : ByteArray) (r2 : ByteArray) (r3 : Bool) (r4 : Bool) (w : World) (hr0 : Kd.C k37 w A0 l0.length l0) (hc0 : l0.length ≤ c0) (h : shelfmarkref09_Find.f k l0 a1 = some (r1, r2, r3, r4)) :
  Calls Try.prog 17 #[.slice A0 l0.length c0, .string a1] w fun e w' => e = .returned (.tuple #[.agg #[.string r1, .string r2, .bool r3], .bool r4]) ∧ Below w.heap.size w w' := by
 have hu37 := Try.underlying37
 have HR0 := Aside0.mk hr0
 have HC0 := Aside0.mk hc0
 clear hr0 hc0
 have HB := Aside0.mk (Below.refl w.heap.size w)
 have H : (shelfmarkref09_Find.l0 k l0 a1 0) = some (r1, r2, r3, r4) := h
 clear h
 have H' := Aside0.mk H
 clear H
 go_enter Try.func17, Try.ntmps17
 go_wp2_with (first | ((with_reducible refine gate_dst (N := 4) rfl ?_); refine box_event ?hg (N := 4) ?hd (cs := #[.string (⟨#[]⟩ : ByteArray), .string (⟨#[]⟩ : ByteArray), .bool false]) (t := 37) ?hr ?_; (case hd => rfl); (case hg => rfl); (case hr => first | (go_simp; done) | (go_simp; rfl)); intro gb280 hg w3 hbox hb; have n0_ := Aside0.mk (below_step (hL HB.out) hb); have n1_ := Aside0.mk (hbox); have n2_ := Above.mk ((by rw [hg]; exact (below_size (hL HB.out)) : w.heap.size ≤ gb280)); have n3_ := Above.mk ((by rw [hg]; exact (below_size (hL HB.out)) : w.heap.size ≤ gb280)); clear HB; have HB := n0_; have BK280 := n1_; have GW280 := n2_; have GE280 := n3_; clear n0_ n1_ n2_ n3_; clear hb hbox hg))
 go_loopg [6] k (fun kq v6 w' => ∃ (x6_1 : Int) (x281000_1 : ByteArray) (x281001_1 : ByteArray) (x281002_1 : Bool), v6 = .int .i64 x6_1 ∧ Aside0 (shelfmarkref09_Find.l0 kq l0 a1 x6_1 = some (r1, r2, r3, r4)) ∧ Aside0 (kq ≤ k) ∧ Aside0 (w'.heap[gb280]? = some (.cells #[.string x281000_1, .string x281001_1, .bool x281002_1] 37 (0, 0))) ∧ Aside0 (Below w.heap.size w w'))
 case atStart => exact ⟨(0), ((⟨#[]⟩ : ByteArray)), ((⟨#[]⟩ : ByteArray)), (false), (by first | rfl | (simp; done) | (simp [*]; done) | (simp [ne_nil_bytes]; done) | (simp [eq_nil_bytes]; done)), H', ⟨Nat.le_refl _⟩, ⟨by exact bL BK280.out⟩, ⟨hL HB.out⟩⟩
 clear H'
 try clear c1
 try clear p2
 obtain ⟨x6_1, x281000_1, x281001_1, x281002_1, rfl, HA, HK1, BK280, HB⟩ := hrel
 rcases gk with _ | k1
 ·exact absurd HA.out (by simp [shelfmarkref09_Find.l0])
 have H := HA.out
 clear HA
 simp only [shelfmarkref09_Find.l0] at H
 have HC4 := Aside0.mk H
 clear H
 go_upto_region 2 with (fail)
 go_cut [14] (fun v14 wc => ∃ (kq : Nat) (x14_3 : Bool), v14 = .bool x14_3 ∧ Aside0 (shelfmarkref09_Find.j1 kq l0 a1 x6_1 x14_3 = some (r1, r2, r3, r4)) ∧ Aside0 (kq ≤ k1) ∧ Aside0 (wc.heap[gb280]? = some (.cells #[.string x281000_1, .string x281001_1, .bool x281002_1] 37 (0, 0))) ∧ Aside0 (Below w.heap.size w wc))
 case first =>
  have H := HC4.out
  clear HC4
  by_cases c5 : x6_1 < (l0.length : Int)
  rotate_left
  ·rw [if_neg c5] at H
   have c5b0 : decide (x6_1 < (l0.length : Int)) = false := decide_eq_false c5
   clear c5
   (first | rw [c5b0] | (simp only [i64_w, i32_w]; rw [c5b0]) | skip)
   have H' := Aside0.mk H
   clear H
   go_wp2
   go_meet
   case rel => exact ⟨_, (false), (by first | rfl | (simp; done) | (simp [*]; done) | (simp [ne_nil_bytes]; done) | (simp [eq_nil_bytes]; done)), H', ⟨by have := HK1.out; first | omega | exact Nat.le_refl _⟩, ⟨by exact bL BK280.out⟩, ⟨hL HB.out⟩⟩
  rw [if_pos c5] at H
  have c5b0 : decide (x6_1 < (l0.length : Int)) = true := decide_eq_true c5
  clear c5
  (first | rw [c5b0] | (simp only [i64_w, i32_w]; rw [c5b0]) | skip)
  replace H := Option.bind_eq_some_iff.mp H
  obtain ⟨t281, A60, H⟩ := H
  replace H : (shelfmarkref09_Find.j1 k1 l0 a1 x6_1 t281) = some (r1, r2, r3, r4) := H
  have A6 := Aside0.mk A60
  clear A60
  have H' := Aside0.mk H
  clear H
  go_wp2_with (first | (go_at_call 29; (with_reducible refine (shelfmarkref09_Right.calls k1 _ _ l0 t281 _ ?side1 ?side2 A6.out).mono ?_); (case side1 => repeat (first | exact (Kd.C_below HR0.out HB.out) | (with_reducible refine Kd.C_alloc ?_ _) | (with_reducible refine Kd.C_drewN ?_ _) | (with_reducible refine Kd.C_drew ?_))); (case side2 => exact HC0.out); rintro e w' ⟨rfl, ⟨nd, rfl⟩⟩))
  go_meet
  case rel => exact ⟨_, (t281), (by first | rfl | (simp; done) | (simp [*]; done) | (simp [ne_nil_bytes]; done) | (simp [eq_nil_bytes]; done)), H', ⟨by have := HK1.out; first | omega | exact Nat.le_refl _⟩, ⟨by exact bL BK280.out⟩, ⟨hL HB.out⟩⟩
 clear HC4
 try clear c1
 try clear p2
 try clear c5
 try clear c5b0
 try clear c5b0z
 try clear p2
 obtain ⟨kq, x14_3, rfl, HA, HJ3, BK280, HB⟩ := hcut
 rcases kq with _ | kj3
 ·exact absurd HA.out (by simp [shelfmarkref09_Find.j1])
 have H := HA.out
 clear HA
 simp only [shelfmarkref09_Find.j1] at H
 by_cases c7 : x14_3 = true
 rotate_left
 ·replace c7 := Bool.eq_false_iff.mpr c7
  subst c7
  have H1 : (some ((⟨#[]⟩ : ByteArray), (⟨#[]⟩ : ByteArray), false, false)) = some (r1, r2, r3, r4) := by rw [if_neg (show ¬ (false = true) by decide)] at H; exact H
  clear H
  have H := H1
  clear H1
  simp only [Option.some.injEq, Prod.mk.injEq] at H
  obtain ⟨rfl, rfl, rfl, rfl⟩ := H
  have hcz12_0 : wc.cell? ⟨gb280, 0, none⟩ = some (.string x281000_1) := (blk_cell BK280.out 0).trans rfl
  have hcz12_1 : wc.cell? ⟨gb280, 1, none⟩ = some (.string x281001_1) := (blk_cell BK280.out 1).trans rfl
  have hcz12_2 : wc.cell? ⟨gb280, 2, none⟩ = some (.bool x281002_1) := (blk_cell BK280.out 2).trans rfl
  have hfz12_0 := blk_frozen BK280.out 0
  have hfz12_1 := blk_frozen BK280.out 1
  have hfz12_2 := blk_frozen BK280.out 2
  go_wp2
  refine bodyPost_ret (results_ct rfl _ _ gb280 37 #[.string (⟨#[]⟩ : ByteArray), .string (⟨#[]⟩ : ByteArray), .bool false] (0, 0) _ rfl (by (with_reducible repeat (first | refine blk_drewN ?_ _ | refine blk_drew ?_ | refine blk_alloc ?_ _)); refine blk_put (cs := #[.string (⟨#[]⟩ : ByteArray), .string (⟨#[]⟩ : ByteArray), .bool x281002_1]) ?_ 2 _ rfl; (with_reducible repeat (first | refine blk_drewN ?_ _ | refine blk_drew ?_ | refine blk_alloc ?_ _)); refine blk_put (cs := #[.string (⟨#[]⟩ : ByteArray), .string x281001_1, .bool x281002_1]) ?_ 1 _ rfl; (with_reducible repeat (first | refine blk_drewN ?_ _ | refine blk_drew ?_ | refine blk_alloc ?_ _)); refine blk_put (cs := #[.string x281000_1, .string x281001_1, .bool x281002_1]) ?_ 0 _ rfl; exact bL BK280.out) Try.underlying37 rfl (by kernel_rfl)) rfl ?_
  exact ⟨by first | rfl | (simp [errW_none, errW_some] <;> rfl) | (simp [*, errW_none, errW_some] <;> rfl), hL HB.out⟩
 subst c7
 have H1 : (if 0 ≤ x6_1 then (if x6_1 < (l0.length : Int) then (if ((rd_T37 l0 x6_1).f0).toList = a1.toList then (some ((rd_T37 l0 x6_1).f0, (rd_T37 l0 x6_1).f1, (rd_T37 l0 x6_1).f2, true)) else (shelfmarkref09_Find.l0 kj3 l0 a1 (wrap64 (x6_1 + 1)))) else (none)) else (none)) = some (r1, r2, r3, r4) := by rw [if_pos rfl] at H; exact H
 clear H
 have H := H1
 clear H1
 by_cases c8 : 0 ≤ x6_1
 rotate_left
 ·rw [if_neg c8] at H
  exact absurd H (by simp)
 rw [if_pos c8] at H
 have c8b0 : decide (0 ≤ x6_1) = true := decide_eq_true c8
 clear c8
 by_cases c9 : x6_1 < (l0.length : Int)
 rotate_left
 ·rw [if_neg c9] at H
  exact absurd H (by simp)
 rw [if_pos c9] at H
 have c9b0 : decide (x6_1 < (l0.length : Int)) = true := decide_eq_true c9
 clear c9
 by_cases c10 : ((rd_T37 l0 x6_1).f0).toList = a1.toList
 rotate_left
 ·rw [if_neg c10] at H
  have c10b0 : (((rd_T37 l0 x6_1).f0).toList == a1.toList) = false := beq_eq_false_iff_ne.mpr c10
  have c10b1 : (((rd_T37 l0 x6_1).f0).toList != a1.toList) = true := bne_iff_ne.mpr c10
  have H' := Aside0.mk H
  clear H
  have p282 : 0 ≤ (x6_1 : Int) := of_decide_eq_true (by first | (with_reducible assumption) | assumption)
  have q282 : x6_1 < (l0.length : Int) := of_decide_eq_true (by first | (with_reducible assumption) | assumption)
  obtain ⟨ad282, e282, hx282_0, hx282_1, hx282_2⟩ := at_T37 HR0.out x6_1 p282 q282
  cases e282
  replace hx282_0 := (HB.out.cell (World.block_lt_of_cell? w _ hx282_0)).trans hx282_0
  replace hx282_1 := (HB.out.cell (World.block_lt_of_cell? w _ hx282_1)).trans hx282_1
  replace hx282_2 := (HB.out.cell (World.block_lt_of_cell? w _ hx282_2)).trans hx282_2
  replace p282 := eq_true p282
  replace q282 := eq_true q282
  go_wp2
  go_roundg kj3
  case measure => have := HK1.out; have := HJ3.out; omega
  case rel => exact ⟨(wrap64 (x6_1 + 1)), (x281000_1), (x281001_1), (x281002_1), (by first | rfl | (simp; done) | (simp [*]; done) | (simp [ne_nil_bytes]; done) | (simp [eq_nil_bytes]; done)), H', ⟨by have := HK1.out; have := HJ3.out; omega⟩, ⟨by exact bL BK280.out⟩, ⟨hL HB.out⟩⟩
 rw [if_pos c10] at H
 have c10b0 : (((rd_T37 l0 x6_1).f0).toList == a1.toList) = true := beq_iff_eq.mpr c10
 have c10b1 : (((rd_T37 l0 x6_1).f0).toList != a1.toList) = false := bne_eq_false_iff_eq.mpr c10
 clear c10
 simp only [Option.some.injEq, Prod.mk.injEq] at H
 obtain ⟨rfl, rfl, rfl, rfl⟩ := H
 have p282 : 0 ≤ (x6_1 : Int) := of_decide_eq_true (by first | (with_reducible assumption) | assumption)
 have q282 : x6_1 < (l0.length : Int) := of_decide_eq_true (by first | (with_reducible assumption) | assumption)
 obtain ⟨ad282, e282, hx282_0, hx282_1, hx282_2⟩ := at_T37 HR0.out x6_1 p282 q282
 cases e282
 replace hx282_0 := (HB.out.cell (World.block_lt_of_cell? w _ hx282_0)).trans hx282_0
 replace hx282_1 := (HB.out.cell (World.block_lt_of_cell? w _ hx282_1)).trans hx282_1
 replace hx282_2 := (HB.out.cell (World.block_lt_of_cell? w _ hx282_2)).trans hx282_2
 replace p282 := eq_true p282
 replace q282 := eq_true q282
 have p283 : 0 ≤ (x6_1 : Int) := of_decide_eq_true (by first | (with_reducible assumption) | assumption)
 have q283 : x6_1 < (l0.length : Int) := of_decide_eq_true (by first | (with_reducible assumption) | assumption)
 obtain ⟨ad283, e283, hx283_0, hx283_1, hx283_2⟩ := at_T37 HR0.out x6_1 p283 q283
 obtain rfl : ad282 = ad283 := (by injection e283)
 replace hx283_0 := (HB.out.cell (World.block_lt_of_cell? w _ hx283_0)).trans hx283_0
 replace hx283_1 := (HB.out.cell (World.block_lt_of_cell? w _ hx283_1)).trans hx283_1
 replace hx283_2 := (HB.out.cell (World.block_lt_of_cell? w _ hx283_2)).trans hx283_2
 replace p283 := eq_true p283
 replace q283 := eq_true q283
 have hcz11_0 : wc.cell? ⟨gb280, 0, none⟩ = some (.string x281000_1) := (blk_cell BK280.out 0).trans rfl
 have hcz11_1 : wc.cell? ⟨gb280, 1, none⟩ = some (.string x281001_1) := (blk_cell BK280.out 1).trans rfl
 have hcz11_2 : wc.cell? ⟨gb280, 2, none⟩ = some (.bool x281002_1) := (blk_cell BK280.out 2).trans rfl
 have hfz11_0 := blk_frozen BK280.out 0
 have hfz11_1 := blk_frozen BK280.out 1
 have hfz11_2 := blk_frozen BK280.out 2
 go_wp2
 refine bodyPost_ret (results_ct rfl _ _ gb280 37 #[.string ((rd_T37 l0 x6_1).f0), .string ((rd_T37 l0 x6_1).f1), .bool ((rd_T37 l0 x6_1).f2)] (0, 0) _ rfl (by (with_reducible repeat (first | refine blk_drewN ?_ _ | refine blk_drew ?_ | refine blk_alloc ?_ _)); refine blk_put (cs := #[.string ((rd_T37 l0 x6_1).f0), .string ((rd_T37 l0 x6_1).f1), .bool x281002_1]) ?_ 2 _ rfl; (with_reducible repeat (first | refine blk_drewN ?_ _ | refine blk_drew ?_ | refine blk_alloc ?_ _)); refine blk_put (cs := #[.string ((rd_T37 l0 x6_1).f0), .string x281001_1, .bool x281002_1]) ?_ 1 _ rfl; (with_reducible repeat (first | refine blk_drewN ?_ _ | refine blk_drew ?_ | refine blk_alloc ?_ _)); refine blk_put (cs := #[.string x281000_1, .string x281001_1, .bool x281002_1]) ?_ 0 _ rfl; exact bL BK280.out) Try.underlying37 rfl (by kernel_rfl)) rfl ?_
 exact ⟨by first | rfl | (simp [errW_none, errW_some] <;> rfl) | (simp [*, errW_none, errW_some] <;> rfl), hL HB.out⟩

/-! ### slices_Clone_api_Change_api_Change: function 35 -/
def slices_Clone_api_Change_api_Change.f (l0 : List (S37)) : Option ((List (S37))) := (some (([] : List (S37)) : List (S37))).bind fun y284 => (if y284.length + l0.length < 3518437208883 then (some (y284 ++ l0)) else (none))
set_option maxHeartbeats 8000000 in
set_option maxRecDepth 100000 in
theorem slices_Clone_api_Change_api_Change.calls (A0 : Option Addr) (c0 : Nat) (l0 : List (S37)) (r : List (S37)) (w : World) (hr0 : Kd.C k37 w A0 l0.length l0) (hc0 : l0.length ≤ c0) (h : slices_Clone_api_Change_api_Change.f l0 = some r) :
  Calls Try.prog 35 #[.slice A0 l0.length c0] w fun e w' => ∃ v0_ : Value, e = .returned (v0_) ∧ Kd.R k37 37 w' w.heap.size (fun _ => True) v0_ r ∧ Below w.heap.size w w' := by
 rcases A0 with _ | ad0
 ·have hz : l0 = [] := by
   rcases Nat.eq_zero_or_pos l0.length with h0 | h0
   ·exact List.eq_nil_of_length_eq_zero h0
   ·obtain ⟨_, he, _⟩ := hr0.2.2 h0; cases he
  subst hz
  simp [slices_Clone_api_Change_api_Change.f] at h
  subst h
  clear hr0 hc0
  have hnil_ : ∀ w_ : World, (binOp .eql 25 (.slice none 0 c0) (.slice none 0 0)).run Try.prog w_ = .ok (.bool true) w_ := fun w_ => Lib.run_eql_slice_nil w_ 25 37 none 0 c0 0 0 Try.underlying25
  go_enter Try.func35, Try.ntmps35
  go_wp2
  go_ret
  exact ⟨_, rfl, Kd.R_nil _ _ _ _ _, Below.refl _ _⟩
 have hnil_ : ∀ w_ : World, (binOp .eql 25 (.slice (some ad0) l0.length c0) (.slice none 0 0)).run Try.prog w_ = .ok (.bool false) w_ := fun w_ => Lib.run_eql_slice_nil w_ 25 37 (some ad0) l0.length c0 0 0 Try.underlying25
 have HR0 := Aside0.mk hr0
 have HC0 := Aside0.mk hc0
 clear hr0 hc0
 have HB := Aside0.mk (Below.refl w.heap.size w)
 have H : ((some (([] : List (S37)) : List (S37))).bind fun y284 => (if y284.length + l0.length < 3518437208883 then (some (y284 ++ l0)) else (none))) = some r := h
 clear h
 obtain ⟨y284, hy284⟩ : ∃ y_ : List (S37), y_ = (([] : List (S37))) := ⟨_, rfl⟩
 replace H : (if y284.length + l0.length < 3518437208883 then (some (y284 ++ l0)) else (none)) = some r := by first | (rw [hy284]; with_reducible exact H) | (have H2_ := (Option.bind_some _ _).symm.trans H; rw [hy284]; with_reducible exact H2_) | (have H2_ := (Option.bind_some _ _).symm.trans H; with_reducible exact H2_) | with_reducible exact H | (rw [hy284]; exact H) | exact H
 have Ny284 := Aside0.mk hy284
 clear hy284
 by_cases c2 : y284.length + l0.length < 3518437208883
 rotate_left
 ·rw [if_neg c2] at H
  exact absurd H (by simp)
 rw [if_pos c2] at H
 have LMc2 := Aside0.mk c2
 clear c2
 obtain ⟨y287, hy287⟩ : ∃ y_ : List (S37), y_ = (y284 ++ l0) := ⟨_, rfl⟩
 replace H : (some y287) = some r := by first | (rw [hy287]; with_reducible exact H) | (have H2_ := (Option.bind_some _ _).symm.trans H; rw [hy287]; with_reducible exact H2_) | (have H2_ := (Option.bind_some _ _).symm.trans H; with_reducible exact H2_) | with_reducible exact H | (rw [hy287]; exact H) | exact H
 have Ny287 := Aside0.mk hy287
 clear hy287
 obtain rfl := Option.some.inj H
 simp only [Option.some.injEq, Prod.mk.injEq] at H
 obtain ⟨rfl⟩ := H
 go_enter Try.func35, Try.ntmps35
 go_wp2_with (first | ((with_reducible refine gate_dst (N := 5) rfl ?_); refine Kd.R_lit k37 _ 37 ?hg (N := 5) ?hd (xs := ([] : List (S37))) (inner := []) (ok := fun _ => True) (okp := fun _ => True) ?hr ?hp (fun _ hk => hk) trivial (Below.refl _ _) (Nat.le_refl _) (by simp) ?_; (case hd => rfl); (case hg => rfl); (case hr => first | (go_simp; done) | (go_simp; rfl)); (case hp => exact (Reps.none _ _)); intro v285 w3 ho4 hb hg_ hnew_; clear hg_ hnew_; (first | rw [← Ny284.out] at ho4 | (simp only [Int.reduceToNat] at ho4; rw [← Ny284.out] at ho4)); have n0_ := Aside0.mk (Kd.R_lower ho4 (below_size (hL HB.out))); have n1_ := Aside0.mk (below_step (hL HB.out) hb); clear HB; have HO286 := n0_; have HB := n1_; clear n0_ n1_; clear hb ho4) | ((with_reducible refine gate_builtin (b := .append) (xs := #[.tmp 5, .tmp 6]) rfl ?_); at_builtin; refine Kd.R_append_rows k37 (w0 := w) w.heap.size rfl (.tmp 5) (.tmp 6) 25 37 (.agg #[(.string ⟨#[]⟩), (.string ⟨#[]⟩), (.bool false)]) 40 rfl Try.underlying25 info37 rfl (by decide) (by omega) v285 y284 l0 _ _ _ (fun _ => True) (fun _ => False) rfl rfl ?aO ?aR (fun _ _ h => h) (fun _ h => h.elim) ?aF ?aB ?aS ?aL ?_; (case aR => repeat (first | exact (Kd.C_below HR0.out HB.out) | exact (Kd.C_drewN (Kd.C_below HR0.out HB.out) _) | exact (Kd.C_drew (Kd.C_below HR0.out HB.out)) | (with_reducible refine Kd.C_alloc ?_ _) | (with_reducible refine Kd.C_drewN ?_ _) | (with_reducible refine Kd.C_drew ?_))); (case aB => exact (hL HB.out)); (case aF => exact (fun _ _ => trivial)); (case aO => exact (rL HO286.out)); (case aS => exact (below_size (hL HB.out))); (case aL => have := LMc2.out; omega); intro v288 w5 ho hb hg hat; rw [← Ny287.out] at ho; have n0_ := Aside0.mk (hb); have n1_ := Aside0.mk (ho); clear HB; clear HO286; have HB := n0_; have HO289 := n1_; clear n0_ n1_; clear ho hb hg hat))
 go_ret
 exact ⟨_, by first | rfl | (simp [errW_none, errW_some] <;> rfl) | (simp [*, errW_none, errW_some] <;> rfl), by exact rL HO289.out, hL HB.out⟩

/-! ### run_Slice: function 18 -/
def run_Slice.f (k : Nat) (l0 : List (S37)) (a1_0 : ByteArray) (a1_1 : ByteArray) : Option ((List (S37))) := (run_Right.f k l0).bind fun t291 => (if t291 = true then ((run_seek.f k l0 a1_0).bind fun bt292 => (if a1_1.toList = ([] : List UInt8) then (if 0 ≤ bt292.1 then (if bt292.1 ≤ (mx bt292.1 (l0.length : Int)) then (if (mx bt292.1 (l0.length : Int)) ≤ (l0.length : Int) then ((slices_Clone_api_Change_api_Change.f ((l0.take ((mx bt292.1 (l0.length : Int)) : Int).toNat).drop (bt292.1 : Int).toNat)).bind fun t298 => (some t298)) else (none)) else (none)) else (none)) else ((run_seek.f k l0 a1_1).bind fun bt301 => (if 0 ≤ bt292.1 then (if bt292.1 ≤ (mx bt292.1 bt301.1) then (if (mx bt292.1 bt301.1) ≤ (l0.length : Int) then ((slices_Clone_api_Change_api_Change.f ((l0.take ((mx bt292.1 bt301.1) : Int).toNat).drop (bt292.1 : Int).toNat)).bind fun t307 => (some t307)) else (none)) else (none)) else (none))))) else (some ([] : List (S37))))
theorem run_Slice.mono : ∀ a0 a1 a2 k, LeO (run_Slice.f k a0 a1 a2) (run_Slice.f (k + 1) a0 a1 a2) := by
 intro a0 a1 a2 k
 unfold run_Slice.f
 repeat' first
   | (with_reducible exact run_Right.mono _ _)
   | (with_reducible exact run_seek.mono _ _ _)
   | (with_reducible exact LeO.refl _)
   | (with_reducible exact LeO.none _)
   | (with_reducible refine LeO.ite ?_ ?_)
   | (with_reducible refine LeO.bind ?_ (fun _ => ?_))
   | exact run_Right.mono _ _
   | exact run_seek.mono _ _ _
   | exact LeO.none _
   | refine LeO.ite ?_ ?_
   | refine LeO.bind ?_ (fun _ => ?_)
set_option maxHeartbeats 8000000 in
set_option maxRecDepth 100000 in
theorem run_Slice.calls (k : Nat) (A0 : Option Addr) (c0 : Nat) (l0 : List (S37)) (a1_0 : ByteArray) (a1_1 : ByteArray) (r : List (S37)) (w : World) (hr0 : Kd.C k37 w A0 l0.length l0) (hc0 : l0.length ≤ c0) (h : run_Slice.f k l0 a1_0 a1_1 = some r) :
  Calls Try.prog 18 #[.slice A0 l0.length c0, .agg #[.string a1_0, .string a1_1]] w fun e w' => ∃ v0_ : Value, e = .returned (v0_) ∧ Kd.R k37 37 w' w.heap.size (fun _ => True) v0_ r ∧ Below w.heap.size w w' := by
 have hu34 := Try.underlying34
 have HR0 := Aside0.mk hr0
 have HC0 := Aside0.mk hc0
 clear hr0 hc0
 have HB := Aside0.mk (Below.refl w.heap.size w)
 have H : ((run_Right.f k l0).bind fun t291 => (if t291 = true then ((run_seek.f k l0 a1_0).bind fun bt292 => (if a1_1.toList = ([] : List UInt8) then (if 0 ≤ bt292.1 then (if bt292.1 ≤ (mx bt292.1 (l0.length : Int)) then (if (mx bt292.1 (l0.length : Int)) ≤ (l0.length : Int) then ((slices_Clone_api_Change_api_Change.f ((l0.take ((mx bt292.1 (l0.length : Int)) : Int).toNat).drop (bt292.1 : Int).toNat)).bind fun t298 => (some t298)) else (none)) else (none)) else (none)) else ((run_seek.f k l0 a1_1).bind fun bt301 => (if 0 ≤ bt292.1 then (if bt292.1 ≤ (mx bt292.1 bt301.1) then (if (mx bt292.1 bt301.1) ≤ (l0.length : Int) then ((slices_Clone_api_Change_api_Change.f ((l0.take ((mx bt292.1 bt301.1) : Int).toNat).drop (bt292.1 : Int).toNat)).bind fun t307 => (some t307)) else (none)) else (none)) else (none))))) else (some ([] : List (S37))))) = some r := h
 clear h
 replace H := Option.bind_eq_some_iff.mp H
 obtain ⟨t291, A30, H⟩ := H
 replace H : (if t291 = true then ((run_seek.f k l0 a1_0).bind fun bt292 => (if a1_1.toList = ([] : List UInt8) then (if 0 ≤ bt292.1 then (if bt292.1 ≤ (mx bt292.1 (l0.length : Int)) then (if (mx bt292.1 (l0.length : Int)) ≤ (l0.length : Int) then ((slices_Clone_api_Change_api_Change.f ((l0.take ((mx bt292.1 (l0.length : Int)) : Int).toNat).drop (bt292.1 : Int).toNat)).bind fun t298 => (some t298)) else (none)) else (none)) else (none)) else ((run_seek.f k l0 a1_1).bind fun bt301 => (if 0 ≤ bt292.1 then (if bt292.1 ≤ (mx bt292.1 bt301.1) then (if (mx bt292.1 bt301.1) ≤ (l0.length : Int) then ((slices_Clone_api_Change_api_Change.f ((l0.take ((mx bt292.1 bt301.1) : Int).toNat).drop (bt292.1 : Int).toNat)).bind fun t307 => (some t307)) else (none)) else (none)) else (none))))) else (some ([] : List (S37)))) = some r := H
 have A3 := Aside0.mk A30
 clear A30
 by_cases c4 : t291 = true
 rotate_left
 ·replace c4 := Bool.eq_false_iff.mpr c4
  subst c4
  have H1 : (some ([] : List (S37))) = some r := by rw [if_neg (show ¬ (false = true) by decide)] at H; exact H
  clear H
  have H := H1
  clear H1
  obtain rfl := Option.some.inj H
  simp only [Option.some.injEq, Prod.mk.injEq] at H
  obtain ⟨rfl⟩ := H
  go_enter Try.func18, Try.ntmps18
  go_wp2_with (first | ((with_reducible refine gate_dst (N := 3) rfl ?_); refine box_event ?hg (N := 3) ?hd (cs := #[.string a1_0, .string a1_1]) (t := 34) ?hr ?_; (case hd => rfl); (case hg => rfl); (case hr => first | (go_simp; done) | (go_simp; rfl)); intro gb290 hg w33 hbox hb; have n0_ := Aside0.mk (below_step (hL HB.out) hb); have n1_ := Aside0.mk (hbox); have n2_ := Above.mk ((by rw [hg]; exact (below_size (hL HB.out)) : w.heap.size ≤ gb290)); have n3_ := Above.mk ((by rw [hg]; exact (below_size (hL HB.out)) : w.heap.size ≤ gb290)); clear HB; have HB := n0_; have BK290 := n1_; have GW290 := n2_; have GE290 := n3_; clear n0_ n1_ n2_ n3_; clear hb hbox hg) | ((with_reducible refine gate_callee (f := 28) rfl ?_); refine goesL_ (some 9) rfl rfl Try.func28 (by kernel_rfl) rfl #[.slice A0 l0.length c0] rfl (by (try simp only [List.map_toArray, List.map_cons, List.map_nil]); first | done | rfl | (simp only [List.length_drop, List.length_take]; rfl)) ?_; (with_reducible refine (run_Right.calls k _ _ l0 false _ ?side1 ?side2 A3.out).mono ?_); (case side1 => repeat (first | exact (Kd.C_below HR0.out HB.out) | (with_reducible refine Kd.C_alloc ?_ _) | (with_reducible refine Kd.C_drewN ?_ _) | (with_reducible refine Kd.C_drew ?_))); (case side2 => exact HC0.out); rintro e w34 ⟨rfl, hb⟩; refine ⟨_, rfl, ?_⟩; have n0_ := Aside0.mk (blk_below (bL BK290.out) hb); have n1_ := Aside0.mk (below_step (hL HB.out) hb); clear BK290; clear HB; have BK290 := n0_; have HB := n1_; clear n0_ n1_; (try clear hb); (try clear hb2); (try clear hk); (try clear hi)))
  go_ret
  exact ⟨_, by first | rfl | (simp [errW_none, errW_some] <;> rfl) | (simp [*, errW_none, errW_some] <;> rfl), by first | exact Kd.R_nil _ _ _ _ _ | exact Kd.N_nil _ _ _ _ _ | exact Kd.V_nil _ _ _ _ _ | exact Kd.Q_nil _ _ _ _ _ | exact Kd.S_nil _ _ _ _ _, hL HB.out⟩
 subst c4
 have H1 : ((run_seek.f k l0 a1_0).bind fun bt292 => (if a1_1.toList = ([] : List UInt8) then (if 0 ≤ bt292.1 then (if bt292.1 ≤ (mx bt292.1 (l0.length : Int)) then (if (mx bt292.1 (l0.length : Int)) ≤ (l0.length : Int) then ((slices_Clone_api_Change_api_Change.f ((l0.take ((mx bt292.1 (l0.length : Int)) : Int).toNat).drop (bt292.1 : Int).toNat)).bind fun t298 => (some t298)) else (none)) else (none)) else (none)) else ((run_seek.f k l0 a1_1).bind fun bt301 => (if 0 ≤ bt292.1 then (if bt292.1 ≤ (mx bt292.1 bt301.1) then (if (mx bt292.1 bt301.1) ≤ (l0.length : Int) then ((slices_Clone_api_Change_api_Change.f ((l0.take ((mx bt292.1 bt301.1) : Int).toNat).drop (bt292.1 : Int).toNat)).bind fun t307 => (some t307)) else (none)) else (none)) else (none))))) = some r := by rw [if_pos rfl] at H; exact H
 clear H
 have H := H1
 clear H1
 replace H := Option.bind_eq_some_iff.mp H
 obtain ⟨⟨t292, t293⟩, A50, H⟩ := H
 replace H : (if a1_1.toList = ([] : List UInt8) then (if 0 ≤ t292 then (if t292 ≤ (mx t292 (l0.length : Int)) then (if (mx t292 (l0.length : Int)) ≤ (l0.length : Int) then ((slices_Clone_api_Change_api_Change.f ((l0.take ((mx t292 (l0.length : Int)) : Int).toNat).drop (t292 : Int).toNat)).bind fun t298 => (some t298)) else (none)) else (none)) else (none)) else ((run_seek.f k l0 a1_1).bind fun bt301 => (if 0 ≤ t292 then (if t292 ≤ (mx t292 bt301.1) then (if (mx t292 bt301.1) ≤ (l0.length : Int) then ((slices_Clone_api_Change_api_Change.f ((l0.take ((mx t292 bt301.1) : Int).toNat).drop (t292 : Int).toNat)).bind fun t307 => (some t307)) else (none)) else (none)) else (none)))) = some r := H
 have A5 := Aside0.mk A50
 clear A50
 by_cases c6 : a1_1.toList = ([] : List UInt8)
 ·rw [if_pos c6] at H
  have c6b0 : (a1_1.toList == ([] : List UInt8)) = true := beq_iff_eq.mpr c6
  have c6b1 : (a1_1.toList != ([] : List UInt8)) = false := bne_eq_false_iff_eq.mpr c6
  clear c6
  obtain ⟨ji7, hji7⟩ : ∃ j_ : Int, (mx t292 (l0.length : Int)) = j_ := ⟨_, rfl⟩
  replace H : (if 0 ≤ t292 then (if t292 ≤ (ji7) then (if (ji7) ≤ (l0.length : Int) then ((slices_Clone_api_Change_api_Change.f ((l0.take ((ji7) : Int).toNat).drop (t292 : Int).toNat)).bind fun t298 => (some t298)) else (none)) else (none)) else (none)) = some r := by first | (rw [hji7] at H; exact H) | (simp only [hji7] at H ⊢; exact H)
  (try rw [hji7] at A3)
  (try rw [hji7] at A5)
  (try (have hji7l : 0 ≤ ji7 := by (rw [← hji7]; unfold mx; (repeat' split) <;> omega)))
  (try (have hji7m : 0 ≤ ji7 := by omega))
  have hji7_ : (if t292 < (l0.length : Int) then (l0.length : Int) else t292) = ji7 := hji7
  by_cases c8 : 0 ≤ t292
  rotate_left
  ·rw [if_neg c8] at H
   exact absurd H (by simp)
  rw [if_pos c8] at H
  have c8b0 := eq_true c8
  have c8b1 : decide (0 ≤ t292) = true := decide_eq_true c8
  clear c8
  by_cases c9 : t292 ≤ (ji7)
  rotate_left
  ·rw [if_neg c9] at H
   exact absurd H (by simp)
  rw [if_pos c9] at H
  have c9b0 := eq_true c9
  have c9b1 : decide (t292 ≤ (ji7)) = true := decide_eq_true c9
  clear c9
  by_cases c10 : (ji7) ≤ (l0.length : Int)
  rotate_left
  ·rw [if_neg c10] at H
   exact absurd H (by simp)
  rw [if_pos c10] at H
  have c10b0 := eq_true c10
  have c10b1 : decide ((ji7) ≤ (l0.length : Int)) = true := decide_eq_true c10
  clear c10
  obtain ⟨y294, hy294⟩ : ∃ y_ : List (S37), y_ = ((l0.take ((ji7) : Int).toNat).drop (t292 : Int).toNat) := ⟨_, rfl⟩
  replace H : ((slices_Clone_api_Change_api_Change.f y294).bind fun t298 => (some t298)) = some r := by first | (rw [hy294]; with_reducible exact H) | (have H2_ := (Option.bind_some _ _).symm.trans H; rw [hy294]; with_reducible exact H2_) | (have H2_ := (Option.bind_some _ _).symm.trans H; with_reducible exact H2_) | with_reducible exact H | (rw [hy294]; exact H) | exact H
  have Ny294 := Aside0.mk hy294
  clear hy294
  replace H := Option.bind_eq_some_iff.mp H
  obtain ⟨t298, A110, H⟩ := H
  replace H : (some t298) = some r := H
  have A11 := Aside0.mk A110
  clear A110
  obtain rfl := Option.some.inj H
  simp only [Option.some.injEq, Prod.mk.injEq] at H
  obtain ⟨rfl⟩ := H
  go_enter Try.func18, Try.ntmps18
  go_wp2_with (first | ((with_reducible refine gate_dst (N := 3) rfl ?_); refine box_event ?hg (N := 3) ?hd (cs := #[.string a1_0, .string a1_1]) (t := 34) ?hr ?_; (case hd => rfl); (case hg => rfl); (case hr => first | (go_simp; done) | (go_simp; rfl)); intro gb290 hg w12 hbox hb; have n0_ := Aside0.mk (below_step (hL HB.out) hb); have n1_ := Aside0.mk (hbox); have n2_ := Above.mk ((by rw [hg]; exact (below_size (hL HB.out)) : w.heap.size ≤ gb290)); have n3_ := Above.mk ((by rw [hg]; exact (below_size (hL HB.out)) : w.heap.size ≤ gb290)); clear HB; have HB := n0_; have BK290 := n1_; have GW290 := n2_; have GE290 := n3_; clear n0_ n1_ n2_ n3_; clear hb hbox hg) | ((with_reducible refine gate_callee (f := 28) rfl ?_); refine goesL_ (some 9) rfl rfl Try.func28 (by kernel_rfl) rfl #[.slice A0 l0.length c0] rfl (by (try simp only [List.map_toArray, List.map_cons, List.map_nil]); first | done | rfl | (simp only [List.length_drop, List.length_take]; rfl)) ?_; (with_reducible refine (run_Right.calls k _ _ l0 true _ ?side1 ?side2 A3.out).mono ?_); (case side1 => repeat (first | exact (Kd.C_below HR0.out HB.out) | (with_reducible refine Kd.C_alloc ?_ _) | (with_reducible refine Kd.C_drewN ?_ _) | (with_reducible refine Kd.C_drew ?_))); (case side2 => exact HC0.out); rintro e w13 ⟨rfl, hb⟩; refine ⟨_, rfl, ?_⟩; have n0_ := Aside0.mk (blk_below (bL BK290.out) hb); have n1_ := Aside0.mk (below_step (hL HB.out) hb); clear BK290; clear HB; have BK290 := n0_; have HB := n1_; clear n0_ n1_; (try clear hb); (try clear hb2); (try clear hk); (try clear hi); have hcz14_0 : w13.cell? ⟨gb290, 0, none⟩ = some (.string a1_0) := (blk_cell BK290.out 0).trans rfl; have hcz14_1 : w13.cell? ⟨gb290, 1, none⟩ = some (.string a1_1) := (blk_cell BK290.out 1).trans rfl; have hfz14_0 := blk_frozen BK290.out 0; have hfz14_1 := blk_frozen BK290.out 1) | ((with_reducible refine gate_callee (f := 34) rfl ?_); refine goesL_ (some 15) rfl rfl Try.func34 (by kernel_rfl) rfl #[.slice A0 l0.length c0, .string a1_0] rfl (by (try simp only [List.map_toArray, List.map_cons, List.map_nil]); first | done | rfl | (simp only [List.length_drop, List.length_take]; rfl)) ?_; (with_reducible refine (run_seek.calls k _ _ l0 a1_0 t292 t293 _ ?side1 ?side2 A5.out).mono ?_); (case side1 => repeat (first | exact (Kd.C_below HR0.out HB.out) | (with_reducible refine Kd.C_alloc ?_ _) | (with_reducible refine Kd.C_drewN ?_ _) | (with_reducible refine Kd.C_drew ?_))); (case side2 => exact HC0.out); rintro e w15 ⟨rfl, hb⟩; refine ⟨_, rfl, ?_⟩; have n0_ := Aside0.mk (blk_below (bL BK290.out) hb); have n1_ := Aside0.mk (below_step (hL HB.out) hb); clear BK290; clear HB; have BK290 := n0_; have HB := n1_; clear n0_ n1_; (try clear hb); (try clear hb2); (try clear hk); (try clear hi); have hcz16_0 : w15.cell? ⟨gb290, 0, none⟩ = some (.string a1_0) := (blk_cell BK290.out 0).trans rfl; have hcz16_1 : w15.cell? ⟨gb290, 1, none⟩ = some (.string a1_1) := (blk_cell BK290.out 1).trans rfl; have hfz16_0 := blk_frozen BK290.out 0; have hfz16_1 := blk_frozen BK290.out 1; have q17 : ((ji7) : Int) ≤ ((l0.length : Int) : Int) := of_decide_eq_true (by first | (with_reducible assumption) | assumption); obtain ⟨i017, hi017, _, hsz17, _⟩ := info_parts info37; have hroom17 : l0.length ≤ c0 := HC0.out; have hC17 : Kd.C k37 _ A0 l0.length l0 := HR0.out; have ql17 : (t292 : Int) ≤ ((ji7) : Int) := of_decide_eq_true (by first | (with_reducible assumption) | assumption); have q017 : (0 : Int) ≤ (t292 : Int) := of_decide_eq_true (by first | (with_reducible assumption) | assumption); have hcut17 := cut_mid (P := Try.prog) 25 37 .i64 .i64 Try.underlying25 hi017 3 hsz17 A0 l0.length c0 t292 (ji7) q017 ql17 q17 hroom17; have hr17 := Kd.C_mid (lo := (t292 : Int).toNat) (hi := ((ji7) : Int).toNat) (c := c0) hC17 (by omega) (by omega) hroom17; obtain ⟨A17, hA17⟩ : ∃ A1, A1 = (if c0 = (t292 : Int).toNat then A0 else (A0 : Option Addr).map (·.add ((t292 : Int).toNat * 3))) := ⟨_, rfl⟩; obtain ⟨c17, hc17⟩ : ∃ c1, c1 = c0 - (t292 : Int).toNat := ⟨_, rfl⟩; have hy17 : y294.length = ((ji7) : Int).toNat - (t292 : Int).toNat := (by rw [Ny294.out, List.length_drop, List.length_take] <;> omega); rw [show ((l0).take ((ji7) : Int).toNat).drop (t292 : Int).toNat = y294 from Ny294.out.symm] at hr17; replace hr17 : Kd.C k37 _ A17 y294.length y294 := (by rw [hA17]; exact hr17); rw [← hy17, ← hA17, ← hc17] at hcut17; have HR297 := Aside0.mk hr17; have HC297 := Aside0.mk (show y294.length ≤ c17 from by rw [hy17, hc17]; exact Nat.sub_le_sub_right (Nat.le_trans (by omega) hroom17) _); clear hr17 hC17 hroom17 hi017 hsz17 hc17; have KY17 := Aside0.mk hy17; have KA17 := Aside0.mk hA17; clear hy17 hA17; replace q17 := eq_true q17) | ((with_reducible refine gate_callee (f := 35) rfl ?_); refine goesL_ (some 36) rfl rfl Try.func35 (by kernel_rfl) rfl #[.slice A17 y294.length c17] rfl (by (try simp only [List.map_toArray, List.map_cons, List.map_nil]); first | done | rfl | (simp only [List.length_drop, List.length_take]; rfl)) ?_; (with_reducible refine (slices_Clone_api_Change_api_Change.calls _ _ y294 t298 _ ?side1 ?side2 A11.out).mono ?_); (case side1 => repeat (first | exact (Kd.C_below HR297.out HB.out) | (with_reducible refine Kd.C_alloc ?_ _) | (with_reducible refine Kd.C_drewN ?_ _) | (with_reducible refine Kd.C_drew ?_))); (case side2 => exact HC297.out); rintro e w18 ⟨v299, rfl, ho0, hb⟩; refine ⟨_, rfl, ?_⟩; have n0_ := Aside0.mk (Kd.R_lower ho0 (below_size (hL HB.out))); have n1_ := Aside0.mk (blk_below (bL BK290.out) hb); have n2_ := Aside0.mk (below_step (hL HB.out) hb); clear BK290; clear HB; have HO300 := n0_; have BK290 := n1_; have HB := n2_; clear n0_ n1_ n2_; (try clear hb); (try clear hb2); (try clear hk); (try clear hi); (try clear ho0)))
  go_ret
  exact ⟨_, by first | rfl | (simp [errW_none, errW_some] <;> rfl) | (simp only [← hji7]; first | rfl | (simp [errW_none, errW_some] <;> rfl)) | (simp [*, errW_none, errW_some] <;> rfl), by exact rL HO300.out, hL HB.out⟩
 rw [if_neg c6] at H
 have c6b0 : (a1_1.toList == ([] : List UInt8)) = false := beq_eq_false_iff_ne.mpr c6
 have c6b1 : (a1_1.toList != ([] : List UInt8)) = true := bne_iff_ne.mpr c6
 replace H := Option.bind_eq_some_iff.mp H
 obtain ⟨⟨t301, t302⟩, A190, H⟩ := H
 replace H : (if 0 ≤ t292 then (if t292 ≤ (mx t292 t301) then (if (mx t292 t301) ≤ (l0.length : Int) then ((slices_Clone_api_Change_api_Change.f ((l0.take ((mx t292 t301) : Int).toNat).drop (t292 : Int).toNat)).bind fun t307 => (some t307)) else (none)) else (none)) else (none)) = some r := H
 have A19 := Aside0.mk A190
 clear A190
 obtain ⟨ji20, hji20⟩ : ∃ j_ : Int, (mx t292 t301) = j_ := ⟨_, rfl⟩
 replace H : (if 0 ≤ t292 then (if t292 ≤ (ji20) then (if (ji20) ≤ (l0.length : Int) then ((slices_Clone_api_Change_api_Change.f ((l0.take ((ji20) : Int).toNat).drop (t292 : Int).toNat)).bind fun t307 => (some t307)) else (none)) else (none)) else (none)) = some r := by first | (rw [hji20] at H; exact H) | (simp only [hji20] at H ⊢; exact H)
 (try rw [hji20] at A3)
 (try rw [hji20] at A5)
 (try rw [hji20] at A19)
 have hji20_ : (if t292 < t301 then t301 else t292) = ji20 := hji20
 by_cases c21 : 0 ≤ t292
 rotate_left
 ·rw [if_neg c21] at H
  exact absurd H (by simp)
 rw [if_pos c21] at H
 have c21b0 := eq_true c21
 have c21b1 : decide (0 ≤ t292) = true := decide_eq_true c21
 clear c21
 by_cases c22 : t292 ≤ (ji20)
 rotate_left
 ·rw [if_neg c22] at H
  exact absurd H (by simp)
 rw [if_pos c22] at H
 have c22b0 := eq_true c22
 have c22b1 : decide (t292 ≤ (ji20)) = true := decide_eq_true c22
 clear c22
 by_cases c23 : (ji20) ≤ (l0.length : Int)
 rotate_left
 ·rw [if_neg c23] at H
  exact absurd H (by simp)
 rw [if_pos c23] at H
 have c23b0 := eq_true c23
 have c23b1 : decide ((ji20) ≤ (l0.length : Int)) = true := decide_eq_true c23
 clear c23
 obtain ⟨y303, hy303⟩ : ∃ y_ : List (S37), y_ = ((l0.take ((ji20) : Int).toNat).drop (t292 : Int).toNat) := ⟨_, rfl⟩
 replace H : ((slices_Clone_api_Change_api_Change.f y303).bind fun t307 => (some t307)) = some r := by first | (rw [hy303]; with_reducible exact H) | (have H2_ := (Option.bind_some _ _).symm.trans H; rw [hy303]; with_reducible exact H2_) | (have H2_ := (Option.bind_some _ _).symm.trans H; with_reducible exact H2_) | with_reducible exact H | (rw [hy303]; exact H) | exact H
 have Ny303 := Aside0.mk hy303
 clear hy303
 replace H := Option.bind_eq_some_iff.mp H
 obtain ⟨t307, A240, H⟩ := H
 replace H : (some t307) = some r := H
 have A24 := Aside0.mk A240
 clear A240
 obtain rfl := Option.some.inj H
 simp only [Option.some.injEq, Prod.mk.injEq] at H
 obtain ⟨rfl⟩ := H
 go_enter Try.func18, Try.ntmps18
 go_wp2_with (first | ((with_reducible refine gate_dst (N := 3) rfl ?_); refine box_event ?hg (N := 3) ?hd (cs := #[.string a1_0, .string a1_1]) (t := 34) ?hr ?_; (case hd => rfl); (case hg => rfl); (case hr => first | (go_simp; done) | (go_simp; rfl)); intro gb290 hg w25 hbox hb; have n0_ := Aside0.mk (below_step (hL HB.out) hb); have n1_ := Aside0.mk (hbox); have n2_ := Above.mk ((by rw [hg]; exact (below_size (hL HB.out)) : w.heap.size ≤ gb290)); have n3_ := Above.mk ((by rw [hg]; exact (below_size (hL HB.out)) : w.heap.size ≤ gb290)); clear HB; have HB := n0_; have BK290 := n1_; have GW290 := n2_; have GE290 := n3_; clear n0_ n1_ n2_ n3_; clear hb hbox hg) | ((with_reducible refine gate_callee (f := 28) rfl ?_); refine goesL_ (some 9) rfl rfl Try.func28 (by kernel_rfl) rfl #[.slice A0 l0.length c0] rfl (by (try simp only [List.map_toArray, List.map_cons, List.map_nil]); first | done | rfl | (simp only [List.length_drop, List.length_take]; rfl)) ?_; (with_reducible refine (run_Right.calls k _ _ l0 true _ ?side1 ?side2 A3.out).mono ?_); (case side1 => repeat (first | exact (Kd.C_below HR0.out HB.out) | (with_reducible refine Kd.C_alloc ?_ _) | (with_reducible refine Kd.C_drewN ?_ _) | (with_reducible refine Kd.C_drew ?_))); (case side2 => exact HC0.out); rintro e w26 ⟨rfl, hb⟩; refine ⟨_, rfl, ?_⟩; have n0_ := Aside0.mk (blk_below (bL BK290.out) hb); have n1_ := Aside0.mk (below_step (hL HB.out) hb); clear BK290; clear HB; have BK290 := n0_; have HB := n1_; clear n0_ n1_; (try clear hb); (try clear hb2); (try clear hk); (try clear hi); have hcz27_0 : w26.cell? ⟨gb290, 0, none⟩ = some (.string a1_0) := (blk_cell BK290.out 0).trans rfl; have hcz27_1 : w26.cell? ⟨gb290, 1, none⟩ = some (.string a1_1) := (blk_cell BK290.out 1).trans rfl; have hfz27_0 := blk_frozen BK290.out 0; have hfz27_1 := blk_frozen BK290.out 1) | ((with_reducible refine gate_callee (f := 34) rfl ?_); refine goesL_ (some 15) rfl rfl Try.func34 (by kernel_rfl) rfl #[.slice A0 l0.length c0, .string a1_0] rfl (by (try simp only [List.map_toArray, List.map_cons, List.map_nil]); first | done | rfl | (simp only [List.length_drop, List.length_take]; rfl)) ?_; (with_reducible refine (run_seek.calls k _ _ l0 a1_0 t292 t293 _ ?side1 ?side2 A5.out).mono ?_); (case side1 => repeat (first | exact (Kd.C_below HR0.out HB.out) | (with_reducible refine Kd.C_alloc ?_ _) | (with_reducible refine Kd.C_drewN ?_ _) | (with_reducible refine Kd.C_drew ?_))); (case side2 => exact HC0.out); rintro e w28 ⟨rfl, hb⟩; refine ⟨_, rfl, ?_⟩; have n0_ := Aside0.mk (blk_below (bL BK290.out) hb); have n1_ := Aside0.mk (below_step (hL HB.out) hb); clear BK290; clear HB; have BK290 := n0_; have HB := n1_; clear n0_ n1_; (try clear hb); (try clear hb2); (try clear hk); (try clear hi); have hcz29_0 : w28.cell? ⟨gb290, 0, none⟩ = some (.string a1_0) := (blk_cell BK290.out 0).trans rfl; have hcz29_1 : w28.cell? ⟨gb290, 1, none⟩ = some (.string a1_1) := (blk_cell BK290.out 1).trans rfl; have hfz29_0 := blk_frozen BK290.out 0; have hfz29_1 := blk_frozen BK290.out 1) | ((with_reducible refine gate_callee (f := 34) rfl ?_); refine goesL_ (some 27) rfl rfl Try.func34 (by kernel_rfl) rfl #[.slice A0 l0.length c0, .string a1_1] rfl (by (try simp only [List.map_toArray, List.map_cons, List.map_nil]); first | done | rfl | (simp only [List.length_drop, List.length_take]; rfl)) ?_; (with_reducible refine (run_seek.calls k _ _ l0 a1_1 t301 t302 _ ?side1 ?side2 A19.out).mono ?_); (case side1 => repeat (first | exact (Kd.C_below HR0.out HB.out) | (with_reducible refine Kd.C_alloc ?_ _) | (with_reducible refine Kd.C_drewN ?_ _) | (with_reducible refine Kd.C_drew ?_))); (case side2 => exact HC0.out); rintro e w30 ⟨rfl, hb⟩; refine ⟨_, rfl, ?_⟩; have n0_ := Aside0.mk (blk_below (bL BK290.out) hb); have n1_ := Aside0.mk (below_step (hL HB.out) hb); clear BK290; clear HB; have BK290 := n0_; have HB := n1_; clear n0_ n1_; (try clear hb); (try clear hb2); (try clear hk); (try clear hi); have q31 : ((ji20) : Int) ≤ ((l0.length : Int) : Int) := of_decide_eq_true (by first | (with_reducible assumption) | assumption); obtain ⟨i031, hi031, _, hsz31, _⟩ := info_parts info37; have hroom31 : l0.length ≤ c0 := HC0.out; have hC31 : Kd.C k37 _ A0 l0.length l0 := HR0.out; have ql31 : (t292 : Int) ≤ ((ji20) : Int) := of_decide_eq_true (by first | (with_reducible assumption) | assumption); have q031 : (0 : Int) ≤ (t292 : Int) := of_decide_eq_true (by first | (with_reducible assumption) | assumption); have hcut31 := cut_mid (P := Try.prog) 25 37 .i64 .i64 Try.underlying25 hi031 3 hsz31 A0 l0.length c0 t292 (ji20) q031 ql31 q31 hroom31; have hr31 := Kd.C_mid (lo := (t292 : Int).toNat) (hi := ((ji20) : Int).toNat) (c := c0) hC31 (by omega) (by omega) hroom31; obtain ⟨A31, hA31⟩ : ∃ A1, A1 = (if c0 = (t292 : Int).toNat then A0 else (A0 : Option Addr).map (·.add ((t292 : Int).toNat * 3))) := ⟨_, rfl⟩; obtain ⟨c31, hc31⟩ : ∃ c1, c1 = c0 - (t292 : Int).toNat := ⟨_, rfl⟩; have hy31 : y303.length = ((ji20) : Int).toNat - (t292 : Int).toNat := (by rw [Ny303.out, List.length_drop, List.length_take] <;> omega); rw [show ((l0).take ((ji20) : Int).toNat).drop (t292 : Int).toNat = y303 from Ny303.out.symm] at hr31; replace hr31 : Kd.C k37 _ A31 y303.length y303 := (by rw [hA31]; exact hr31); rw [← hy31, ← hA31, ← hc31] at hcut31; have HR306 := Aside0.mk hr31; have HC306 := Aside0.mk (show y303.length ≤ c31 from by rw [hy31, hc31]; exact Nat.sub_le_sub_right (Nat.le_trans (by omega) hroom31) _); clear hr31 hC31 hroom31 hi031 hsz31 hc31; have KY31 := Aside0.mk hy31; have KA31 := Aside0.mk hA31; clear hy31 hA31; replace q31 := eq_true q31) | ((with_reducible refine gate_callee (f := 35) rfl ?_); refine goesL_ (some 36) rfl rfl Try.func35 (by kernel_rfl) rfl #[.slice A31 y303.length c31] rfl (by (try simp only [List.map_toArray, List.map_cons, List.map_nil]); first | done | rfl | (simp only [List.length_drop, List.length_take]; rfl)) ?_; (with_reducible refine (slices_Clone_api_Change_api_Change.calls _ _ y303 t307 _ ?side1 ?side2 A24.out).mono ?_); (case side1 => repeat (first | exact (Kd.C_below HR306.out HB.out) | (with_reducible refine Kd.C_alloc ?_ _) | (with_reducible refine Kd.C_drewN ?_ _) | (with_reducible refine Kd.C_drew ?_))); (case side2 => exact HC306.out); rintro e w32 ⟨v308, rfl, ho0, hb⟩; refine ⟨_, rfl, ?_⟩; have n0_ := Aside0.mk (Kd.R_lower ho0 (below_size (hL HB.out))); have n1_ := Aside0.mk (blk_below (bL BK290.out) hb); have n2_ := Aside0.mk (below_step (hL HB.out) hb); clear BK290; clear HB; have HO309 := n0_; have BK290 := n1_; have HB := n2_; clear n0_ n1_ n2_; (try clear hb); (try clear hb2); (try clear hk); (try clear hi); (try clear ho0)))
 go_ret
 exact ⟨_, by first | rfl | (simp [errW_none, errW_some] <;> rfl) | (simp only [← hji20]; first | rfl | (simp [errW_none, errW_some] <;> rfl)) | (simp [*, errW_none, errW_some] <;> rfl), by exact rL HO309.out, hL HB.out⟩

end Go.Proofs.Ytkkfkccfnfjbiaa.PAll
