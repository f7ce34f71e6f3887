-- Written by a program of this session for this claim (mp.py, over the kit's print); Lean checks it.
import Derived.Test.YtdaikljbljcagaaPAllx0
namespace Go.Proofs.Ytdaikljbljcagaa.PAll
open Go.RowKit Go.Proofs.YtdaikljbljcagaaW.PrintWords Go.Proofs.YtdaikljbljcagaaW.PrintLast Go.Proofs.YtdaikljbljcagaaW.PrintMore Go.Proofs.Ytdaikljbljcagaa.Fv Go.Proofs.Ytdaikljbljcagaa.Hl
attribute [local go_sem] max2_int min2_int max_two min_two max_three min_three max_four min_four str_gtr str_leq str_geq cell_set2   -- for this text's walks alone
set_option linter.unusedVariables false
set_option linter.unusedSimpArgs false


/-! ### shelfmarkref03_Cut: function 61 -/
mutual
def shelfmarkref03_Cut.l0 : Nat → ByteArray → List (S105) → Int → Option ((List (S105)) × ByteArray × Int)
 | 0, _, _, _ => none
 | k + 1, x0, x3, x4 => if x4 < (x0.size : Int) then (if 0 ≤ x4 then (shelfmarkref03_Cut.j1 k x0 x3 x4 ((bt x0 x4) != 0)) else (none)) else (shelfmarkref03_Cut.j1 k x0 x3 x4 false)
def shelfmarkref03_Cut.j1 : Nat → ByteArray → List (S105) → Int → Bool → Option ((List (S105)) × ByteArray × Int)
 | 0, _, _, _, _ => none
 | k + 1, x0, x3, x4, x19 => if x19 = true then (if (x3.length : Int) = 4 then (some (([] : List (S105)), (⟨#[]⟩ : ByteArray), 4)) else (if 0 ≤ x4 then (if x4 < (x0.size : Int) then (if (bt x0 x4) = 1 then (if x3.length < 4398046511104 then (shelfmarkref03_Cut.l0 k x0 (x3 ++ [(⟨0, 0, (⟨#[]⟩ : ByteArray)⟩ : S105)]) (wrap64 (x4 + 1))) else (none)) else (if (bt x0 x4) = 2 then (shelfmarkref03_Cut.l1 k x0 x3 (wrap64 (x4 + 1)) 0 0) else (if (bt x0 x4) = 3 then (shelfmarkref03_Cut.l2 k x0 x3 (wrap64 (x4 + 1)) (([] : List Int))) else (some (([] : List (S105)), (⟨#[]⟩ : ByteArray), 3))))) else (none)) else (none))) else (if 0 ≤ x4 then (if x4 ≤ (x0.size : Int) then (some (x3, x0.extract (x4 : Int).toNat x0.size, 0)) else (none)) else (none))
def shelfmarkref03_Cut.l1 : Nat → ByteArray → List (S105) → Int → Int → Int → Option ((List (S105)) × ByteArray × Int)
 | 0, _, _, _, _, _ => none
 | k + 1, x0, x3, x4, x7, x8 => if x8 < 8 then (if x4 ≥ (x0.size : Int) then (some (([] : List (S105)), (⟨#[]⟩ : ByteArray), 2)) else (if 0 ≤ x4 then (if x4 < (x0.size : Int) then (shelfmarkref03_Cut.l1 k x0 x3 (wrap64 (x4 + 1)) (IntKind.u64.wrap ((IntKind.u64.wrap (x7 * 256)) + (IntKind.u64.wrap (bt x0 x4)))) (wrap64 (x8 + 1))) else (none)) else (none))) else (if x3.length < 4398046511104 then (shelfmarkref03_Cut.l0 k x0 (x3 ++ [(⟨1, wrap64 (IntKind.u64.wrap (x7 - 9223372036854775808)), (⟨#[]⟩ : ByteArray)⟩ : S105)]) x4) else (none))
def shelfmarkref03_Cut.l2 : Nat → ByteArray → List (S105) → Int → List Int → Option ((List (S105)) × ByteArray × Int)
 | 0, _, _, _, _ => none
 | k + 1, x0, x3, x4, x9 => if x4 ≥ (x0.size : Int) then (shelfmarkref03_Cut.j4 k x0 x3 x4 x9 true) else (if 0 ≤ x4 then (if x4 < (x0.size : Int) then (if (bt x0 x4) = 0 then (shelfmarkref03_Cut.j4 k x0 x3 x4 x9 (x4 == (wrap64 ((x0.size : Int) - 1)))) else (shelfmarkref03_Cut.j4 k x0 x3 x4 x9 false)) else (none)) else (none))
def shelfmarkref03_Cut.j4 : Nat → ByteArray → List (S105) → Int → List Int → Bool → Option ((List (S105)) × ByteArray × Int)
 | 0, _, _, _, _, _ => none
 | k + 1, x0, x3, x4, x9, x77 => if x77 = true then (some (([] : List (S105)), (⟨#[]⟩ : ByteArray), 2)) else (if 0 ≤ x4 then (if x4 < (x0.size : Int) then (if (bt x0 x4) = 0 then (if 0 ≤ (wrap64 (x4 + 1)) then (if (wrap64 (x4 + 1)) < (x0.size : Int) then (if (bt x0 (wrap64 (x4 + 1))) = 0 then (shelfmarkref03_Cut.j5 k x0 x3 x4 x9 false) else (shelfmarkref03_Cut.j5 k x0 x3 x4 x9 ((bt x0 (wrap64 (x4 + 1))) != 255))) else (none)) else (none)) else (if x9.length < 140737488355328 then (shelfmarkref03_Cut.l2 k x0 x3 (wrap64 (x4 + 1)) (x9 ++ [bt x0 x4])) else (none))) else (none)) else (none))
def shelfmarkref03_Cut.j5 : Nat → ByteArray → List (S105) → Int → List Int → Bool → Option ((List (S105)) × ByteArray × Int)
 | 0, _, _, _, _, _ => none
 | k + 1, x0, x3, x4, x9, x102 => if x102 = true then (some (([] : List (S105)), (⟨#[]⟩ : ByteArray), 3)) else (if 0 ≤ (wrap64 ((wrap64 (x4 + 2)) - 1)) then (if (wrap64 ((wrap64 (x4 + 2)) - 1)) < (x0.size : Int) then (if (bt x0 (wrap64 ((wrap64 (x4 + 2)) - 1))) = 0 then (if (x9.length : Int) > 32 then (some (([] : List (S105)), (⟨#[]⟩ : ByteArray), 4)) else (if x3.length < 4398046511104 then (shelfmarkref03_Cut.l0 k x0 (x3 ++ [(⟨2, 0, strOfNums x9⟩ : S105)]) (wrap64 (x4 + 2))) else (none))) else (if x9.length < 140737488355328 then (shelfmarkref03_Cut.l2 k x0 x3 (wrap64 (x4 + 2)) (x9 ++ [0])) else (none))) else (none)) else (none))
end
def shelfmarkref03_Cut.f (k : Nat) (a0 : ByteArray) : Option ((List (S105)) × ByteArray × Int) := shelfmarkref03_Cut.l0 k a0 ([] : List (S105)) 0
theorem shelfmarkref03_Cut.mono_l : ∀ k, (∀ y0 y1 y2, LeO (shelfmarkref03_Cut.l0 k y0 y1 y2) (shelfmarkref03_Cut.l0 (k + 1) y0 y1 y2)) ∧ (∀ y0 y1 y2 y3, LeO (shelfmarkref03_Cut.j1 k y0 y1 y2 y3) (shelfmarkref03_Cut.j1 (k + 1) y0 y1 y2 y3)) ∧ (∀ y0 y1 y2 y3 y4, LeO (shelfmarkref03_Cut.l1 k y0 y1 y2 y3 y4) (shelfmarkref03_Cut.l1 (k + 1) y0 y1 y2 y3 y4)) ∧ (∀ y0 y1 y2 y3, LeO (shelfmarkref03_Cut.l2 k y0 y1 y2 y3) (shelfmarkref03_Cut.l2 (k + 1) y0 y1 y2 y3)) ∧ (∀ y0 y1 y2 y3 y4, LeO (shelfmarkref03_Cut.j4 k y0 y1 y2 y3 y4) (shelfmarkref03_Cut.j4 (k + 1) y0 y1 y2 y3 y4)) ∧ (∀ y0 y1 y2 y3 y4, LeO (shelfmarkref03_Cut.j5 k y0 y1 y2 y3 y4) (shelfmarkref03_Cut.j5 (k + 1) y0 y1 y2 y3 y4))
 | 0 => ⟨fun _ _ _ r h => by simp [shelfmarkref03_Cut.l0] at h, fun _ _ _ _ r h => by simp [shelfmarkref03_Cut.j1] at h, fun _ _ _ _ _ r h => by simp [shelfmarkref03_Cut.l1] at h, fun _ _ _ _ r h => by simp [shelfmarkref03_Cut.l2] at h, fun _ _ _ _ _ r h => by simp [shelfmarkref03_Cut.j4] at h, fun _ _ _ _ _ r h => by simp [shelfmarkref03_Cut.j5] at h⟩
 | k + 1 => by
  obtain ⟨ih0, ih1, ih2, ih3, ih4, ih5⟩ := shelfmarkref03_Cut.mono_l k
  refine ⟨?_, ?_, ?_, ?_, ?_, ?_⟩
  ·intro y0 y1 y2
   unfold shelfmarkref03_Cut.l0
   repeat' first
   | (with_reducible exact ih0 _ _ _)
   | (with_reducible exact ih1 _ _ _ _)
   | (with_reducible exact ih2 _ _ _ _ _)
   | (with_reducible exact ih3 _ _ _ _)
   | (with_reducible exact ih4 _ _ _ _ _)
   | (with_reducible exact ih5 _ _ _ _ _)
   | (with_reducible exact LeO.refl _)
   | (with_reducible exact LeO.none _)
   | (with_reducible refine LeO.ite ?_ ?_)
   | (with_reducible refine LeO.bind ?_ (fun _ => ?_))
   | exact ih0 _ _ _
   | exact ih1 _ _ _ _
   | exact ih2 _ _ _ _ _
   | exact ih3 _ _ _ _
   | exact ih4 _ _ _ _ _
   | exact ih5 _ _ _ _ _
   | exact LeO.none _
   | refine LeO.ite ?_ ?_
   | refine LeO.bind ?_ (fun _ => ?_)
  ·intro y0 y1 y2 y3
   unfold shelfmarkref03_Cut.j1
   repeat' first
   | (with_reducible exact ih0 _ _ _)
   | (with_reducible exact ih1 _ _ _ _)
   | (with_reducible exact ih2 _ _ _ _ _)
   | (with_reducible exact ih3 _ _ _ _)
   | (with_reducible exact ih4 _ _ _ _ _)
   | (with_reducible exact ih5 _ _ _ _ _)
   | (with_reducible exact LeO.refl _)
   | (with_reducible exact LeO.none _)
   | (with_reducible refine LeO.ite ?_ ?_)
   | (with_reducible refine LeO.bind ?_ (fun _ => ?_))
   | exact ih0 _ _ _
   | exact ih1 _ _ _ _
   | exact ih2 _ _ _ _ _
   | exact ih3 _ _ _ _
   | exact ih4 _ _ _ _ _
   | exact ih5 _ _ _ _ _
   | exact LeO.none _
   | refine LeO.ite ?_ ?_
   | refine LeO.bind ?_ (fun _ => ?_)
  ·intro y0 y1 y2 y3 y4
   unfold shelfmarkref03_Cut.l1
   repeat' first
   | (with_reducible exact ih0 _ _ _)
   | (with_reducible exact ih1 _ _ _ _)
   | (with_reducible exact ih2 _ _ _ _ _)
   | (with_reducible exact ih3 _ _ _ _)
   | (with_reducible exact ih4 _ _ _ _ _)
   | (with_reducible exact ih5 _ _ _ _ _)
   | (with_reducible exact LeO.refl _)
   | (with_reducible exact LeO.none _)
   | (with_reducible refine LeO.ite ?_ ?_)
   | (with_reducible refine LeO.bind ?_ (fun _ => ?_))
   | exact ih0 _ _ _
   | exact ih1 _ _ _ _
   | exact ih2 _ _ _ _ _
   | exact ih3 _ _ _ _
   | exact ih4 _ _ _ _ _
   | exact ih5 _ _ _ _ _
   | exact LeO.none _
   | refine LeO.ite ?_ ?_
   | refine LeO.bind ?_ (fun _ => ?_)
  ·intro y0 y1 y2 y3
   unfold shelfmarkref03_Cut.l2
   repeat' first
   | (with_reducible exact ih0 _ _ _)
   | (with_reducible exact ih1 _ _ _ _)
   | (with_reducible exact ih2 _ _ _ _ _)
   | (with_reducible exact ih3 _ _ _ _)
   | (with_reducible exact ih4 _ _ _ _ _)
   | (with_reducible exact ih5 _ _ _ _ _)
   | (with_reducible exact LeO.refl _)
   | (with_reducible exact LeO.none _)
   | (with_reducible refine LeO.ite ?_ ?_)
   | (with_reducible refine LeO.bind ?_ (fun _ => ?_))
   | exact ih0 _ _ _
   | exact ih1 _ _ _ _
   | exact ih2 _ _ _ _ _
   | exact ih3 _ _ _ _
   | exact ih4 _ _ _ _ _
   | exact ih5 _ _ _ _ _
   | exact LeO.none _
   | refine LeO.ite ?_ ?_
   | refine LeO.bind ?_ (fun _ => ?_)
  ·intro y0 y1 y2 y3 y4
   unfold shelfmarkref03_Cut.j4
   repeat' first
   | (with_reducible exact ih0 _ _ _)
   | (with_reducible exact ih1 _ _ _ _)
   | (with_reducible exact ih2 _ _ _ _ _)
   | (with_reducible exact ih3 _ _ _ _)
   | (with_reducible exact ih4 _ _ _ _ _)
   | (with_reducible exact ih5 _ _ _ _ _)
   | (with_reducible exact LeO.refl _)
   | (with_reducible exact LeO.none _)
   | (with_reducible refine LeO.ite ?_ ?_)
   | (with_reducible refine LeO.bind ?_ (fun _ => ?_))
   | exact ih0 _ _ _
   | exact ih1 _ _ _ _
   | exact ih2 _ _ _ _ _
   | exact ih3 _ _ _ _
   | exact ih4 _ _ _ _ _
   | exact ih5 _ _ _ _ _
   | exact LeO.none _
   | refine LeO.ite ?_ ?_
   | refine LeO.bind ?_ (fun _ => ?_)
  ·intro y0 y1 y2 y3 y4
   unfold shelfmarkref03_Cut.j5
   repeat' first
   | (with_reducible exact ih0 _ _ _)
   | (with_reducible exact ih1 _ _ _ _)
   | (with_reducible exact ih2 _ _ _ _ _)
   | (with_reducible exact ih3 _ _ _ _)
   | (with_reducible exact ih4 _ _ _ _ _)
   | (with_reducible exact ih5 _ _ _ _ _)
   | (with_reducible exact LeO.refl _)
   | (with_reducible exact LeO.none _)
   | (with_reducible refine LeO.ite ?_ ?_)
   | (with_reducible refine LeO.bind ?_ (fun _ => ?_))
   | exact ih0 _ _ _
   | exact ih1 _ _ _ _
   | exact ih2 _ _ _ _ _
   | exact ih3 _ _ _ _
   | exact ih4 _ _ _ _ _
   | exact ih5 _ _ _ _ _
   | exact LeO.none _
   | refine LeO.ite ?_ ?_
   | refine LeO.bind ?_ (fun _ => ?_)
theorem shelfmarkref03_Cut.mono : ∀ a0 k, LeO (shelfmarkref03_Cut.f k a0) (shelfmarkref03_Cut.f (k + 1) a0) := by
 intro a0 k
 obtain ⟨ih0, ih1, ih2, ih3, ih4, ih5⟩ := shelfmarkref03_Cut.mono_l k
 unfold shelfmarkref03_Cut.f
 repeat' first
   | (with_reducible exact ih0 _ _ _)
   | (with_reducible exact ih1 _ _ _ _)
   | (with_reducible exact ih2 _ _ _ _ _)
   | (with_reducible exact ih3 _ _ _ _)
   | (with_reducible exact ih4 _ _ _ _ _)
   | (with_reducible exact ih5 _ _ _ _ _)
   | (with_reducible exact LeO.refl _)
   | (with_reducible exact LeO.none _)
   | (with_reducible refine LeO.ite ?_ ?_)
   | (with_reducible refine LeO.bind ?_ (fun _ => ?_))
   | exact ih0 _ _ _
   | exact ih1 _ _ _ _
   | exact ih2 _ _ _ _ _
   | exact ih3 _ _ _ _
   | exact ih4 _ _ _ _ _
   | exact ih5 _ _ _ _ _
   | exact LeO.none _
   | refine LeO.ite ?_ ?_
   | refine LeO.bind ?_ (fun _ => ?_)
set_option maxHeartbeats 8000000 in
set_option maxRecDepth 100000 in
theorem shelfmarkref03_Cut.calls (k : Nat) (a0 : ByteArray) (r1 : List (S105)) (r2 : ByteArray) (r3 : Int) (w : World) (h : shelfmarkref03_Cut.f k a0 = some (r1, r2, r3)) :
  Calls Try.prog 61 #[.string a0] w fun e w' => ∃ v0_ : Value, e = .returned (.agg #[v0_, .string r2, .int .i64 r3]) ∧ Kd.R k105 105 w' w.heap.size (fun _ => True) v0_ r1 ∧ Below w.heap.size w w' := by
 have hu95 := Try.underlying95
 have hu105 := Try.underlying105
 have HB := Aside0.mk (Below.refl w.heap.size w)
 have H : (shelfmarkref03_Cut.l0 k a0 ([] : List (S105)) 0) = some (r1, r2, r3) := h
 clear h
 have H' := Aside0.mk H
 clear H
 go_enter Try.func61, Try.ntmps61
 go_wp2_with (first | ((with_reducible refine gate_dst (N := 2) rfl ?_); (try (refine gate_guard (by rfl) ?_; dsimp only)); refine box_event ?hg (N := 2) ?hd (cs := #[.slice none 0 0, .string (⟨#[]⟩ : ByteArray), .int .i64 0]) (t := 95) ?hr ?_; (case hd => rfl); (case hg => rfl); (case hr => first | (go_simp; done) | (go_simp; rfl)); intro gb262 hg w2 hbox hb; have n0_ := Aside0.mk (below_step (hL HB.out) hb); have n1_ := Aside0.mk (hbox); have n2_ := Above.mk ((by rw [hg]; exact (below_size (hL HB.out)) : w.heap.size ≤ gb262)); have n3_ := Above.mk ((by rw [hg]; exact (below_size (hL HB.out)) : w.heap.size ≤ gb262)); clear HB; have HB := n0_; have BK262 := n1_; have GW262 := n2_; have GE262 := n3_; clear n0_ n1_ n2_ n3_; clear hb hbox hg))
 go_loopg [3, 4] k (fun kq v3 v4 w' => ∃ (x3_1 : List (S105)) (x4_1 : Int) (x263001_1 : ByteArray) (x263002_1 : Int), v4 = .int .i64 x4_1 ∧ Aside0 (shelfmarkref03_Cut.l0 kq a0 x3_1 x4_1 = some (r1, r2, r3)) ∧ Aside0 (kq ≤ k) ∧ Aside0 (Kd.R k105 105 w' w.heap.size (fun _ => True) v3 x3_1) ∧ Aside0 (w'.heap[gb262]? = some (.cells #[(.slice none 0 0), .string x263001_1, .int .i64 x263002_1] 95 (0, 0))) ∧ Aside0 (Below w.heap.size w w'))
 case atStart => exact ⟨(([] : List (S105))), (0), ((⟨#[]⟩ : ByteArray)), (0), (by first | rfl | (simp; done) | (simp [*]; done) | (simp [ne_nil_bytes]; done) | (simp [eq_nil_bytes]; done)), H', ⟨Nat.le_refl _⟩, ⟨by first | exact Kd.R_nil _ _ _ _ _ | exact Kd.N_nil _ _ _ _ _ | exact Kd.V_nil _ _ _ _ _ | exact Kd.Q_nil _ _ _ _ _ | exact Kd.S_nil _ _ _ _ _⟩, ⟨by exact bL BK262.out⟩, ⟨hL HB.out⟩⟩
 clear H'
 try clear p2
 obtain ⟨x3_1, x4_1, x263001_1, x263002_1, rfl, HA, HK1, HO_3, BK262, HB⟩ := hrel
 rcases gk with _ | k1
 ·exact absurd HA.out (by simp [shelfmarkref03_Cut.l0])
 have H := HA.out
 clear HA
 simp only [shelfmarkref03_Cut.l0] at H
 have HC3 := Aside0.mk H
 clear H
 go_upto_region 3 with (fail)
 go_cut [19] (fun v19 wc => ∃ (kq : Nat) (x19_2 : Bool), v19 = .bool x19_2 ∧ Aside0 (shelfmarkref03_Cut.j1 kq a0 x3_1 x4_1 x19_2 = some (r1, r2, r3)) ∧ Aside0 (kq ≤ k1) ∧ Aside0 (Kd.R k105 105 wc w.heap.size (fun _ => True) u3 x3_1) ∧ Aside0 (wc.heap[gb262]? = some (.cells #[(.slice none 0 0), .string x263001_1, .int .i64 x263002_1] 95 (0, 0))) ∧ Aside0 (Below w.heap.size w wc))
 case first =>
  have H := HC3.out
  clear HC3
  by_cases c4 : x4_1 < (a0.size : Int)
  rotate_left
  ·rw [if_neg c4] at H
   have c4b0 : decide (x4_1 < (a0.size : Int)) = false := decide_eq_false c4
   clear c4
   (first | rw [c4b0] | (simp only [i64_w, i32_w]; rw [c4b0]) | skip)
   have H' := Aside0.mk H
   clear H
   go_wp2
   go_meet
   case rel => exact ⟨_, (false), (by first | rfl | (simp; done) | (simp [*]; done) | (simp [ne_nil_bytes]; done) | (simp [eq_nil_bytes]; done)), H', ⟨by have := HK1.out; first | omega | exact Nat.le_refl _⟩, ⟨by exact rL HO_3.out⟩, ⟨by exact bL BK262.out⟩, ⟨hL HB.out⟩⟩
  rw [if_pos c4] at H
  have c4b0 : decide (x4_1 < (a0.size : Int)) = true := decide_eq_true c4
  clear c4
  (first | rw [c4b0] | (simp only [i64_w, i32_w]; rw [c4b0]) | skip)
  by_cases c5 : 0 ≤ x4_1
  rotate_left
  ·rw [if_neg c5] at H
   exact absurd H (by simp)
  rw [if_pos c5] at H
  have c5b0 : decide (0 ≤ x4_1) = true := decide_eq_true c5
  clear c5
  have H' := Aside0.mk H
  clear H
  have p6 : 0 ≤ (x4_1 : Int) := of_decide_eq_true (by first | (with_reducible assumption) | assumption)
  have q6 : x4_1 < (a0.size : Int) := of_decide_eq_true (by first | (with_reducible assumption) | assumption)
  have hx6 := bt_at a0 x4_1
  replace p6 := eq_true p6
  replace q6 := eq_true q6
  go_wp2
  go_meet
  case rel => exact ⟨_, (((bt a0 x4_1) != 0)), (by first | rfl | (simp; done) | (simp [*]; done) | (simp [ne_nil_bytes]; done) | (simp [eq_nil_bytes]; done)), H', ⟨by have := HK1.out; first | omega | exact Nat.le_refl _⟩, ⟨by exact rL HO_3.out⟩, ⟨by exact bL BK262.out⟩, ⟨hL HB.out⟩⟩
 clear HC3
 try clear p2
 try clear c4
 try clear c4b0
 try clear c4b0z
 try clear c5
 try clear c5b0
 try clear c5b0z
 try clear c6
 try clear p6
 try clear q6
 try clear hx6
 try clear p2
 try clear p6
 try clear q6
 obtain ⟨kq, x19_2, rfl, HA, HJ2, HO_3, BK262, HB⟩ := hcut
 rcases kq with _ | kj2
 ·exact absurd HA.out (by simp [shelfmarkref03_Cut.j1])
 have H := HA.out
 clear HA
 simp only [shelfmarkref03_Cut.j1] at H
 by_cases c7 : x19_2 = true
 rotate_left
 ·replace c7 := Bool.eq_false_iff.mpr c7
  subst c7
  have H1 : (if 0 ≤ x4_1 then (if x4_1 ≤ (a0.size : Int) then (some (x3_1, a0.extract (x4_1 : Int).toNat a0.size, 0)) else (none)) else (none)) = some (r1, r2, r3) := by rw [if_neg (show ¬ (false = true) by decide)] at H; exact H
  clear H
  have H := H1
  clear H1
  by_cases c92 : 0 ≤ x4_1
  rotate_left
  ·rw [if_neg c92] at H
   exact absurd H (by simp)
  rw [if_pos c92] at H
  have c92b0 := eq_true c92
  have c92b1 : decide (0 ≤ x4_1) = true := decide_eq_true c92
  clear c92
  by_cases c93 : x4_1 ≤ (a0.size : Int)
  rotate_left
  ·rw [if_neg c93] at H
   exact absurd H (by simp)
  rw [if_pos c93] at H
  have c93b0 := eq_true c93
  have c93b1 : decide (x4_1 ≤ (a0.size : Int)) = true := decide_eq_true c93
  clear c93
  simp only [Option.some.injEq, Prod.mk.injEq] at H
  obtain ⟨rfl, rfl, rfl⟩ := H
  obtain ⟨Ao94, co94, eo94⟩ := Kd.R_slice HO_3.out
  subst eo94
  have hcz95_0 : wc.cell? ⟨gb262, 0, none⟩ = some (.slice none 0 0) := (blk_cell BK262.out 0).trans rfl
  have hcz95_1 : wc.cell? ⟨gb262, 1, none⟩ = some (.string x263001_1) := (blk_cell BK262.out 1).trans rfl
  have hcz95_2 : wc.cell? ⟨gb262, 2, none⟩ = some (.int .i64 x263002_1) := (blk_cell BK262.out 2).trans rfl
  have hfz95_0 := blk_frozen BK262.out 0
  have hfz95_1 := blk_frozen BK262.out 1
  have hfz95_2 := blk_frozen BK262.out 2
  go_wp2
  refine bodyPost_ret (results_cell_row rfl _ _ gb262 95 #[.slice Ao94 x3_1.length co94, .string (a0.extract (x4_1 : Int).toNat a0.size), .int .i64 0] (0, 0) _ rfl (by (with_reducible repeat (first | refine blk_drewN ?_ _ | refine blk_drew ?_ | refine blk_alloc ?_ _)); refine blk_put (cs := #[.slice Ao94 x3_1.length co94, .string (a0.extract (x4_1 : Int).toNat a0.size), .int .i64 x263002_1]) ?_ 2 _ rfl; (with_reducible repeat (first | refine blk_drewN ?_ _ | refine blk_drew ?_ | refine blk_alloc ?_ _)); refine blk_put (cs := #[.slice Ao94 x3_1.length co94, .string x263001_1, .int .i64 x263002_1]) ?_ 1 _ rfl; (with_reducible repeat (first | refine blk_drewN ?_ _ | refine blk_drew ?_ | refine blk_alloc ?_ _)); refine blk_put (cs := #[.slice none 0 0, .string x263001_1, .int .i64 x263002_1]) ?_ 0 _ rfl; exact bL BK262.out) Try.underlying95 rfl (by kernel_rfl)) rfl ?_
  exact ⟨_, by first | rfl | (simp [errW_none, errW_some] <;> rfl) | (simp [*, errW_none, errW_some] <;> rfl), by (with_reducible repeat (first | apply Kd.R_alloc | apply Kd.R_drewN | apply Kd.R_drew)); exact Kd.R_mono (Kd.R_far (p := ⟨gb262, 2, none⟩) (Kd.R_far (p := ⟨gb262, 1, none⟩) (Kd.R_far (p := ⟨gb262, 0, none⟩) (Kd.R_types HO_3.out BK262.out (by decide)) (fun _ hk => hk.2) (.slice Ao94 x3_1.length co94)) (fun _ hk => hk.2) (.string (a0.extract (x4_1 : Int).toNat a0.size))) (fun _ hk => hk.2) (.int .i64 0)) (fun _ hk => trivial), hL HB.out⟩
 subst c7
 have H1 : (if (x3_1.length : Int) = 4 then (some (([] : List (S105)), (⟨#[]⟩ : ByteArray), 4)) else (if 0 ≤ x4_1 then (if x4_1 < (a0.size : Int) then (if (bt a0 x4_1) = 1 then (if x3_1.length < 4398046511104 then (shelfmarkref03_Cut.l0 kj2 a0 (x3_1 ++ [(⟨0, 0, (⟨#[]⟩ : ByteArray)⟩ : S105)]) (wrap64 (x4_1 + 1))) else (none)) else (if (bt a0 x4_1) = 2 then (shelfmarkref03_Cut.l1 kj2 a0 x3_1 (wrap64 (x4_1 + 1)) 0 0) else (if (bt a0 x4_1) = 3 then (shelfmarkref03_Cut.l2 kj2 a0 x3_1 (wrap64 (x4_1 + 1)) (([] : List Int))) else (some (([] : List (S105)), (⟨#[]⟩ : ByteArray), 3))))) else (none)) else (none))) = some (r1, r2, r3) := by rw [if_pos rfl] at H; exact H
 clear H
 have H := H1
 clear H1
 by_cases c8 : (x3_1.length : Int) = 4
 ·rw [if_pos c8] at H
  have c8b0 : ((x3_1.length : Int) == 4) = true := beq_iff_eq.mpr c8
  have c8b1 : ((x3_1.length : Int) != 4) = false := bne_eq_false_iff_eq.mpr c8
  clear c8
  simp only [Option.some.injEq, Prod.mk.injEq] at H
  obtain ⟨rfl, rfl, rfl⟩ := H
  obtain ⟨Ao9, co9, eo9⟩ := Kd.R_slice HO_3.out
  subst eo9
  have hcz10_0 : wc.cell? ⟨gb262, 0, none⟩ = some (.slice none 0 0) := (blk_cell BK262.out 0).trans rfl
  have hcz10_1 : wc.cell? ⟨gb262, 1, none⟩ = some (.string x263001_1) := (blk_cell BK262.out 1).trans rfl
  have hcz10_2 : wc.cell? ⟨gb262, 2, none⟩ = some (.int .i64 x263002_1) := (blk_cell BK262.out 2).trans rfl
  have hfz10_0 := blk_frozen BK262.out 0
  have hfz10_1 := blk_frozen BK262.out 1
  have hfz10_2 := blk_frozen BK262.out 2
  go_wp2
  refine bodyPost_ret (results_cell_row rfl _ _ gb262 95 #[.slice none 0 0, .string (⟨#[]⟩ : ByteArray), .int .i64 4] (0, 0) _ rfl (by (with_reducible repeat (first | refine blk_drewN ?_ _ | refine blk_drew ?_ | refine blk_alloc ?_ _)); refine blk_put (cs := #[.slice none 0 0, .string (⟨#[]⟩ : ByteArray), .int .i64 x263002_1]) ?_ 2 _ rfl; (with_reducible repeat (first | refine blk_drewN ?_ _ | refine blk_drew ?_ | refine blk_alloc ?_ _)); refine blk_put (cs := #[.slice none 0 0, .string x263001_1, .int .i64 x263002_1]) ?_ 1 _ rfl; (with_reducible repeat (first | refine blk_drewN ?_ _ | refine blk_drew ?_ | refine blk_alloc ?_ _)); refine blk_put (cs := #[.slice none 0 0, .string x263001_1, .int .i64 x263002_1]) ?_ 0 _ rfl; exact bL BK262.out) Try.underlying95 rfl (by kernel_rfl)) rfl ?_
  exact ⟨_, by first | rfl | (simp [errW_none, errW_some] <;> rfl) | (simp [*, errW_none, errW_some] <;> rfl), by first | exact Kd.R_nil _ _ _ _ _ | exact Kd.N_nil _ _ _ _ _ | exact Kd.V_nil _ _ _ _ _ | exact Kd.Q_nil _ _ _ _ _ | exact Kd.S_nil _ _ _ _ _, hL HB.out⟩
 rw [if_neg c8] at H
 have c8b0 : ((x3_1.length : Int) == 4) = false := beq_eq_false_iff_ne.mpr c8
 have c8b1 : ((x3_1.length : Int) != 4) = true := bne_iff_ne.mpr c8
 by_cases c11 : 0 ≤ x4_1
 rotate_left
 ·rw [if_neg c11] at H
  exact absurd H (by simp)
 rw [if_pos c11] at H
 have c11b0 : decide (0 ≤ x4_1) = true := decide_eq_true c11
 clear c11
 by_cases c12 : x4_1 < (a0.size : Int)
 rotate_left
 ·rw [if_neg c12] at H
  exact absurd H (by simp)
 rw [if_pos c12] at H
 have c12b0 : decide (x4_1 < (a0.size : Int)) = true := decide_eq_true c12
 clear c12
 by_cases c14 : (bt a0 x4_1) = 1
 ·rw [if_pos c14] at H
  have c14b0 : ((bt a0 x4_1) == 1) = true := beq_iff_eq.mpr c14
  have c14b1 : ((bt a0 x4_1) != 1) = false := bne_eq_false_iff_eq.mpr c14
  clear c14
  by_cases c15 : x3_1.length < 4398046511104
  rotate_left
  ·rw [if_neg c15] at H
   exact absurd H (by simp)
  rw [if_pos c15] at H
  have LMc15 := Aside0.mk c15
  clear c15
  obtain ⟨y264, hy264⟩ : ∃ y_ : List (S105), y_ = (x3_1 ++ [(⟨0, 0, (⟨#[]⟩ : ByteArray)⟩ : S105)]) := ⟨_, rfl⟩
  replace H : (shelfmarkref03_Cut.l0 kj2 a0 y264 (wrap64 (x4_1 + 1))) = some (r1, r2, r3) := by first | (rw [hy264]; with_reducible exact H) | (have H2_ := (Option.bind_some _ _).symm.trans H; rw [hy264]; with_reducible exact H2_) | (have H2_ := (Option.bind_some _ _).symm.trans H; with_reducible exact H2_) | with_reducible exact H | (rw [hy264]; exact H) | exact H
  have Ny264 := Aside0.mk hy264
  clear hy264
  have H' := Aside0.mk H
  clear H
  obtain ⟨Ao16, co16, eo16⟩ := Kd.R_slice HO_3.out
  subst eo16
  have p13 : 0 ≤ (x4_1 : Int) := of_decide_eq_true (by first | (with_reducible assumption) | assumption)
  have q13 : x4_1 < (a0.size : Int) := of_decide_eq_true (by first | (with_reducible assumption) | assumption)
  have hx13 := bt_at a0 x4_1
  replace p13 := eq_true p13
  replace q13 := eq_true q13
  go_wp2_with (first | ((with_reducible refine gate_dst (N := 6) rfl ?_); (try (refine gate_guard (by rfl) ?_; dsimp only)); refine box_event ?hg (N := 6) ?hd (cs := #[.int .i64 0, .int .i64 0, .string (⟨#[]⟩ : ByteArray)]) (t := 105) ?hr ?_; (case hd => rfl); (case hg => rfl); (case hr => first | (go_simp; done) | (go_simp; rfl)); intro gb263 hg w17 hbox hb; have n0_ := Aside0.mk (Kd.R_below (Kd.R_elderB (rL HO_3.out) gb263 (Nat.le_of_eq hg.symm)) hb); have n1_ := Aside0.mk (blk_below (bL BK262.out) hb); have n2_ := Aside0.mk (below_step (hL HB.out) hb); have n3_ := Aside0.mk (hbox); have n4_ := Above.mk ((by rw [hg]; exact (below_size (hL HB.out)) : w.heap.size ≤ gb263)); have n5_ := Above.mk ((by rw [hg]; exact (below_size (hL HB.out)) : w.heap.size ≤ gb263)); have n6_ := Aside0.mk ((by rw [hg]; exact Nat.ne_of_lt (blk_lt (g := gb262) (o := .cells #[.slice none 0 0, .string x263001_1, .int .i64 x263002_1] 95 (0, 0)) (bL BK262.out)) : gb262 ≠ gb263)); have n7_ := Aside0.mk ((by rw [hg]; exact Nat.ne_of_gt (blk_lt (g := gb262) (o := .cells #[.slice none 0 0, .string x263001_1, .int .i64 x263002_1] 95 (0, 0)) (bL BK262.out)) : gb263 ≠ gb262)); clear HO_3; clear BK262; clear HB; have HO_3 := n0_; have BK262 := n1_; have HB := n2_; have BK263 := n3_; have GW263 := n4_; have GE263 := n5_; have NB262_263 := n6_; have NB263_262 := n7_; clear n0_ n1_ n2_ n3_ n4_ n5_ n6_ n7_; clear hb hbox hg; have hnb18 := NB263_262.out; have hnc18 := NB262_263.out; have hcz19_0 : w17.cell? ⟨gb263, 0, none⟩ = some (.int .i64 0) := (blk_cell BK263.out 0).trans rfl; have hcz19_1 : w17.cell? ⟨gb263, 1, none⟩ = some (.int .i64 0) := (blk_cell BK263.out 1).trans rfl; have hcz19_2 : w17.cell? ⟨gb263, 2, none⟩ = some (.string (⟨#[]⟩ : ByteArray)) := (blk_cell BK263.out 2).trans rfl; have hfz19_0 := blk_frozen BK263.out 0; have hfz19_1 := blk_frozen BK263.out 1; have hfz19_2 := blk_frozen BK263.out 2) | ((with_reducible refine gate_builtin (b := .append) (xs := #[.tmp 121, .tmp 123]) rfl ?_); (try (refine gate_guard (by rfl) ?_; dsimp only)); at_builtin; refine Kd.R_append k105 (w0 := w) w.heap.size rfl (.tmp 121) (.tmp 123) 73 105 (.agg #[(.int .i64 0), (.int .i64 0), (.string ⟨#[]⟩)]) 32 rfl Try.underlying73 info105 rfl (by decide) (by omega) (.slice Ao16 x3_1.length co16) x3_1 (⟨0, 0, (⟨#[]⟩ : ByteArray)⟩ : S105) [.int .i64 0, .int .i64 0, .string (⟨#[]⟩ : ByteArray)] (fun k_ => k_ ≠ gb263) (fun _ => False) rfl (by first | (go_simp; done) | (go_simp; rfl)) ?aP (fun _ hk => hk.elim) ?aF ?aO ?aB ?aS ?aL ?_; (case aP => exact k105_mkM _ _ _ (⟨0, 0, (⟨#[]⟩ : ByteArray)⟩ : S105)); (case aB => exact (hL HB.out)); (case aF => exact (fun k_ hk => Kd.freshB (g := gb263) (o := .cells #[.int .i64 0, .int .i64 0, .string (⟨#[]⟩ : ByteArray)] 105 (0, 0)) (by (with_reducible repeat (first | refine blk_drewN ?_ _ | refine blk_drew ?_ | refine blk_alloc ?_ _)); refine blk_put (cs := #[.int .i64 0, .int .i64 0, .string (⟨#[]⟩ : ByteArray)]) ?_ 2 _ rfl; (with_reducible repeat (first | refine blk_drewN ?_ _ | refine blk_drew ?_ | refine blk_alloc ?_ _)); refine blk_put (cs := #[.int .i64 0, .int .i64 0, .string (⟨#[]⟩ : ByteArray)]) ?_ 1 _ rfl; (with_reducible repeat (first | refine blk_drewN ?_ _ | refine blk_drew ?_ | refine blk_alloc ?_ _)); refine blk_put (cs := #[.int .i64 0, .int .i64 0, .string (⟨#[]⟩ : ByteArray)]) ?_ 0 _ rfl; exact bL BK263.out) k_ hk)); (case aO => exact (by (with_reducible repeat (first | apply Kd.R_alloc | apply Kd.R_drewN | apply Kd.R_drew)); exact Kd.R_mono (Kd.R_far (p := ⟨gb263, 2, none⟩) (Kd.R_far (p := ⟨gb263, 1, none⟩) (Kd.R_far (p := ⟨gb263, 0, none⟩) (Kd.R_mono HO_3.out (fun k_ hk => (⟨hk, hk.2⟩ : _ ∧ k_ ≠ gb263))) (fun _ hk => hk.2) (.int .i64 0)) (fun _ hk => hk.2) (.int .i64 0)) (fun _ hk => hk.2) (.string (⟨#[]⟩ : ByteArray))) (fun _ hk => hk.1.2))); (case aS => exact (below_size (hL HB.out))); (case aL => have := LMc15.out; omega); intro v265 w20 ho hb hg hat; rw [← Ny264.out] at ho; have n0_ := Aside0.mk (blk_grown (g := gb262) (o := .cells #[.slice none 0 0, .string x263001_1, .int .i64 x263002_1] 95 (0, 0)) (by (with_reducible repeat (first | refine blk_drewN ?_ _ | refine blk_drew ?_ | refine blk_alloc ?_ _)); refine blk_far ?_ NB262_263.out _; (with_reducible repeat (first | refine blk_drewN ?_ _ | refine blk_drew ?_ | refine blk_alloc ?_ _)); refine blk_far ?_ NB262_263.out _; (with_reducible repeat (first | refine blk_drewN ?_ _ | refine blk_drew ?_ | refine blk_alloc ?_ _)); refine blk_far ?_ NB262_263.out _; exact bL BK262.out) hg (Kd.R_ne HO_3.out BK262.out (by decide))); have n1_ := Aside0.mk (blk_grown (g := gb263) (o := .cells #[.int .i64 0, .int .i64 0, .string (⟨#[]⟩ : ByteArray)] 105 (0, 0)) (by (with_reducible repeat (first | refine blk_drewN ?_ _ | refine blk_drew ?_ | refine blk_alloc ?_ _)); refine blk_put (cs := #[.int .i64 0, .int .i64 0, .string (⟨#[]⟩ : ByteArray)]) ?_ 2 _ rfl; (with_reducible repeat (first | refine blk_drewN ?_ _ | refine blk_drew ?_ | refine blk_alloc ?_ _)); refine blk_put (cs := #[.int .i64 0, .int .i64 0, .string (⟨#[]⟩ : ByteArray)]) ?_ 1 _ rfl; (with_reducible repeat (first | refine blk_drewN ?_ _ | refine blk_drew ?_ | refine blk_alloc ?_ _)); refine blk_put (cs := #[.int .i64 0, .int .i64 0, .string (⟨#[]⟩ : ByteArray)]) ?_ 0 _ rfl; exact bL BK263.out) hg (Kd.R_away HO_3.out (fun _ hk => hk.2))); have n2_ := Aside0.mk (hb); have n3_ := Aside0.mk (ho); clear BK262; clear BK263; clear HB; clear HO_3; have BK262 := n0_; have BK263 := n1_; have HB := n2_; have HO266 := n3_; clear n0_ n1_ n2_ n3_; clear ho hb hg hat))
  go_roundg kj2
  case measure => have := HK1.out; have := HJ2.out; omega
  case rel => exact ⟨(y264), (wrap64 (x4_1 + 1)), (x263001_1), (x263002_1), (by first | rfl | (simp; done) | (simp [*]; done) | (simp [ne_nil_bytes]; done) | (simp [eq_nil_bytes]; done)), H', ⟨by have := HK1.out; have := HJ2.out; omega⟩, ⟨by (with_reducible repeat (first | apply Kd.R_alloc | apply Kd.R_drewN | apply Kd.R_drew)); exact Kd.R_mono HO266.out (fun _ hk => trivial)⟩, ⟨by exact bL BK262.out⟩, ⟨hL HB.out⟩⟩
 rw [if_neg c14] at H
 have c14b0 : ((bt a0 x4_1) == 1) = false := beq_eq_false_iff_ne.mpr c14
 have c14b1 : ((bt a0 x4_1) != 1) = true := bne_iff_ne.mpr c14
 by_cases c21 : (bt a0 x4_1) = 2
 ·rw [if_pos c21] at H
  have c21b0 : ((bt a0 x4_1) == 2) = true := beq_iff_eq.mpr c21
  have c21b1 : ((bt a0 x4_1) != 2) = false := bne_eq_false_iff_eq.mpr c21
  clear c21
  have H' := Aside0.mk H
  clear H
  obtain ⟨Ao22, co22, eo22⟩ := Kd.R_slice HO_3.out
  subst eo22
  have p13 : 0 ≤ (x4_1 : Int) := of_decide_eq_true (by first | (with_reducible assumption) | assumption)
  have q13 : x4_1 < (a0.size : Int) := of_decide_eq_true (by first | (with_reducible assumption) | assumption)
  have hx13 := bt_at a0 x4_1
  replace p13 := eq_true p13
  replace q13 := eq_true q13
  go_wp2_with (first | ((with_reducible refine gate_dst (N := 6) rfl ?_); (try (refine gate_guard (by rfl) ?_; dsimp only)); refine box_event ?hg (N := 6) ?hd (cs := #[.int .i64 0, .int .i64 0, .string (⟨#[]⟩ : ByteArray)]) (t := 105) ?hr ?_; (case hd => rfl); (case hg => rfl); (case hr => first | (go_simp; done) | (go_simp; rfl)); intro gb263 hg w23 hbox hb; have n0_ := Aside0.mk (Kd.R_below (Kd.R_elderB (rL HO_3.out) gb263 (Nat.le_of_eq hg.symm)) hb); have n1_ := Aside0.mk (blk_below (bL BK262.out) hb); have n2_ := Aside0.mk (below_step (hL HB.out) hb); have n3_ := Aside0.mk (hbox); have n4_ := Above.mk ((by rw [hg]; exact (below_size (hL HB.out)) : w.heap.size ≤ gb263)); have n5_ := Above.mk ((by rw [hg]; exact (below_size (hL HB.out)) : w.heap.size ≤ gb263)); have n6_ := Aside0.mk ((by rw [hg]; exact Nat.ne_of_lt (blk_lt (g := gb262) (o := .cells #[.slice none 0 0, .string x263001_1, .int .i64 x263002_1] 95 (0, 0)) (bL BK262.out)) : gb262 ≠ gb263)); have n7_ := Aside0.mk ((by rw [hg]; exact Nat.ne_of_gt (blk_lt (g := gb262) (o := .cells #[.slice none 0 0, .string x263001_1, .int .i64 x263002_1] 95 (0, 0)) (bL BK262.out)) : gb263 ≠ gb262)); clear HO_3; clear BK262; clear HB; have HO_3 := n0_; have BK262 := n1_; have HB := n2_; have BK263 := n3_; have GW263 := n4_; have GE263 := n5_; have NB262_263 := n6_; have NB263_262 := n7_; clear n0_ n1_ n2_ n3_ n4_ n5_ n6_ n7_; clear hb hbox hg; have hnb24 := NB263_262.out; have hnc24 := NB262_263.out; have hcz25_0 : w23.cell? ⟨gb263, 0, none⟩ = some (.int .i64 0) := (blk_cell BK263.out 0).trans rfl; have hcz25_1 : w23.cell? ⟨gb263, 1, none⟩ = some (.int .i64 0) := (blk_cell BK263.out 1).trans rfl; have hcz25_2 : w23.cell? ⟨gb263, 2, none⟩ = some (.string (⟨#[]⟩ : ByteArray)) := (blk_cell BK263.out 2).trans rfl; have hfz25_0 := blk_frozen BK263.out 0; have hfz25_1 := blk_frozen BK263.out 1; have hfz25_2 := blk_frozen BK263.out 2))
  go_loopg [4, 7, 8] kj2 (fun kq v4 v7 v8 w' => ∃ (x4_3 : Int) (x7_3 : Int) (x8_3 : Int) (x263001_3 : ByteArray) (x263002_3 : Int), v4 = .int .i64 x4_3 ∧ v7 = .int .u64 x7_3 ∧ v8 = .int .i64 x8_3 ∧ Aside0 (shelfmarkref03_Cut.l1 kq a0 x3_1 x4_3 x7_3 x8_3 = some (r1, r2, r3)) ∧ Aside0 (kq ≤ kj2) ∧ Aside0 (Kd.R k105 105 w' w.heap.size (fun k_ => k_ ≠ gb263) (.slice Ao22 x3_1.length co22) x3_1) ∧ Aside0 (w'.heap[gb262]? = some (.cells #[(.slice none 0 0), .string x263001_3, .int .i64 x263002_3] 95 (0, 0))) ∧ Aside0 (w'.heap[gb263]? = some (.cells #[.int .i64 0, .int .i64 0, .string (⟨#[]⟩ : ByteArray)] 105 (0, 0))) ∧ Aside0 (Below w.heap.size w w'))
  case atStart => exact ⟨(wrap64 (x4_1 + 1)), (0), (0), (x263001_1), (x263002_1), (by first | rfl | (simp; done) | (simp [*]; done) | (simp [ne_nil_bytes]; done) | (simp [eq_nil_bytes]; done)), (by first | rfl | (simp; done) | (simp [*]; done) | (simp [ne_nil_bytes]; done) | (simp [eq_nil_bytes]; done)), (by first | rfl | (simp; done) | (simp [*]; done) | (simp [ne_nil_bytes]; done) | (simp [eq_nil_bytes]; done)), H', ⟨Nat.le_refl _⟩, ⟨by (with_reducible repeat (first | apply Kd.R_alloc | apply Kd.R_drewN | apply Kd.R_drew)); exact Kd.R_mono (Kd.R_far (p := ⟨gb263, 2, none⟩) (Kd.R_far (p := ⟨gb263, 1, none⟩) (Kd.R_far (p := ⟨gb263, 0, none⟩) (Kd.R_mono HO_3.out (fun k_ hk => (⟨hk, hk.2⟩ : _ ∧ k_ ≠ gb263))) (fun _ hk => hk.2) (.int .i64 0)) (fun _ hk => hk.2) (.int .i64 0)) (fun _ hk => hk.2) (.string (⟨#[]⟩ : ByteArray))) (fun _ hk => hk.1.2)⟩, ⟨by (with_reducible repeat (first | refine blk_drewN ?_ _ | refine blk_drew ?_ | refine blk_alloc ?_ _)); refine blk_far ?_ NB262_263.out _; (with_reducible repeat (first | refine blk_drewN ?_ _ | refine blk_drew ?_ | refine blk_alloc ?_ _)); refine blk_far ?_ NB262_263.out _; (with_reducible repeat (first | refine blk_drewN ?_ _ | refine blk_drew ?_ | refine blk_alloc ?_ _)); refine blk_far ?_ NB262_263.out _; exact bL BK262.out⟩, ⟨by (with_reducible repeat (first | refine blk_drewN ?_ _ | refine blk_drew ?_ | refine blk_alloc ?_ _)); refine blk_put (cs := #[.int .i64 0, .int .i64 0, .string (⟨#[]⟩ : ByteArray)]) ?_ 2 _ rfl; (with_reducible repeat (first | refine blk_drewN ?_ _ | refine blk_drew ?_ | refine blk_alloc ?_ _)); refine blk_put (cs := #[.int .i64 0, .int .i64 0, .string (⟨#[]⟩ : ByteArray)]) ?_ 1 _ rfl; (with_reducible repeat (first | refine blk_drewN ?_ _ | refine blk_drew ?_ | refine blk_alloc ?_ _)); refine blk_put (cs := #[.int .i64 0, .int .i64 0, .string (⟨#[]⟩ : ByteArray)]) ?_ 0 _ rfl; exact bL BK263.out⟩, ⟨hL HB.out⟩⟩
  clear H'
  try clear c1
  try clear p1
  try clear q1
  try clear hx1
  try clear c2
  try clear p2
  try clear c4
  try clear c4b0
  try clear c4b0z
  try clear c5
  try clear c5b0
  try clear c5b0z
  try clear c6
  try clear p6
  try clear q6
  try clear hx6
  try clear c7
  try clear c8
  try clear c8b0
  try clear c8b0z
  try clear c8b1
  try clear c8b1z
  try clear c11
  try clear c11b0
  try clear c11b0z
  try clear c12
  try clear c12b0
  try clear c12b0z
  try clear p13
  try clear q13
  try clear hx13
  try clear c14
  try clear c14b0
  try clear c14b0z
  try clear c14b1
  try clear c14b1z
  try clear c15
  try clear c18
  try clear c21
  try clear c21b0
  try clear c21b0z
  try clear c21b1
  try clear c21b1z
  try clear c24
  try clear hcz10_0
  try clear hcz10_1
  try clear hcz10_2
  try clear hcz19_0
  try clear hcz19_1
  try clear hcz19_2
  try clear hcz25_0
  try clear hcz25_1
  try clear hcz25_2
  try clear hfz10_0
  try clear hfz10_1
  try clear hfz10_2
  try clear hfz19_0
  try clear hfz19_1
  try clear hfz19_2
  try clear hfz25_0
  try clear hfz25_1
  try clear hfz25_2
  try clear p13
  try clear p2
  try clear p6
  try clear q13
  try clear q6
  obtain ⟨x4_3, x7_3, x8_3, x263001_3, x263002_3, rfl, rfl, rfl, HA, HK3, HO_3, BK262, BK263, HB⟩ := hrel
  rcases gk with _ | k3
  ·exact absurd HA.out (by simp [shelfmarkref03_Cut.l1])
  have H := HA.out
  clear HA
  simp only [shelfmarkref03_Cut.l1] at H
  by_cases c26 : x8_3 < 8
  ·rw [if_pos c26] at H
   have c26b0 : decide (x8_3 < 8) = true := decide_eq_true c26
   clear c26
   by_cases c27 : x4_3 ≥ (a0.size : Int)
   rotate_left
   ·rw [if_neg c27] at H
    have c27b0 : decide ((a0.size : Int) ≤ x4_3) = false := decide_eq_false c27
    clear c27
    by_cases c30 : 0 ≤ x4_3
    rotate_left
    ·rw [if_neg c30] at H
     exact absurd H (by simp)
    rw [if_pos c30] at H
    have c30b0 : decide (0 ≤ x4_3) = true := decide_eq_true c30
    clear c30
    by_cases c31 : x4_3 < (a0.size : Int)
    rotate_left
    ·rw [if_neg c31] at H
     exact absurd H (by simp)
    rw [if_pos c31] at H
    have c31b0 : decide (x4_3 < (a0.size : Int)) = true := decide_eq_true c31
    clear c31
    have H' := Aside0.mk H
    clear H
    have p32 : 0 ≤ (x4_3 : Int) := of_decide_eq_true (by first | (with_reducible assumption) | assumption)
    have q32 : x4_3 < (a0.size : Int) := of_decide_eq_true (by first | (with_reducible assumption) | assumption)
    have hx32 := bt_at a0 x4_3
    replace p32 := eq_true p32
    replace q32 := eq_true q32
    go_wp2
    go_roundg k3
    case measure => have := HK1.out; have := HJ2.out; have := HK3.out; omega
    case rel => exact ⟨(wrap64 (x4_3 + 1)), (IntKind.u64.wrap ((IntKind.u64.wrap (x7_3 * 256)) + (IntKind.u64.wrap (bt a0 x4_3)))), (wrap64 (x8_3 + 1)), (x263001_3), (x263002_3), (by first | rfl | (simp; done) | (simp [*]; done) | (simp [ne_nil_bytes]; done) | (simp [eq_nil_bytes]; done)), (by first | rfl | (simp; done) | (simp [*]; done) | (simp [ne_nil_bytes]; done) | (simp [eq_nil_bytes]; done)), (by first | rfl | (simp; done) | (simp [*]; done) | (simp [ne_nil_bytes]; done) | (simp [eq_nil_bytes]; done)), H', ⟨by have := HK1.out; have := HJ2.out; have := HK3.out; omega⟩, ⟨by exact rL HO_3.out⟩, ⟨by exact bL BK262.out⟩, ⟨by exact bL BK263.out⟩, ⟨hL HB.out⟩⟩
   rw [if_pos c27] at H
   have c27b0 : decide ((a0.size : Int) ≤ x4_3) = true := decide_eq_true c27
   clear c27
   simp only [Option.some.injEq, Prod.mk.injEq] at H
   obtain ⟨rfl, rfl, rfl⟩ := H
   have hnb28 := NB262_263.out
   have hnc28 := NB263_262.out
   have hcz29_0 : wr.cell? ⟨gb262, 0, none⟩ = some (.slice none 0 0) := (blk_cell BK262.out 0).trans rfl
   have hcz29_1 : wr.cell? ⟨gb262, 1, none⟩ = some (.string x263001_3) := (blk_cell BK262.out 1).trans rfl
   have hcz29_2 : wr.cell? ⟨gb262, 2, none⟩ = some (.int .i64 x263002_3) := (blk_cell BK262.out 2).trans rfl
   have hfz29_0 := blk_frozen BK262.out 0
   have hfz29_1 := blk_frozen BK262.out 1
   have hfz29_2 := blk_frozen BK262.out 2
   go_wp2
   refine bodyPost_ret (results_cell_row rfl _ _ gb262 95 #[.slice none 0 0, .string (⟨#[]⟩ : ByteArray), .int .i64 2] (0, 0) _ rfl (by (with_reducible repeat (first | refine blk_drewN ?_ _ | refine blk_drew ?_ | refine blk_alloc ?_ _)); refine blk_put (cs := #[.slice none 0 0, .string (⟨#[]⟩ : ByteArray), .int .i64 x263002_3]) ?_ 2 _ rfl; (with_reducible repeat (first | refine blk_drewN ?_ _ | refine blk_drew ?_ | refine blk_alloc ?_ _)); refine blk_put (cs := #[.slice none 0 0, .string x263001_3, .int .i64 x263002_3]) ?_ 1 _ rfl; (with_reducible repeat (first | refine blk_drewN ?_ _ | refine blk_drew ?_ | refine blk_alloc ?_ _)); refine blk_put (cs := #[.slice none 0 0, .string x263001_3, .int .i64 x263002_3]) ?_ 0 _ rfl; exact bL BK262.out) Try.underlying95 rfl (by kernel_rfl)) rfl ?_
   exact ⟨_, by first | rfl | (simp [errW_none, errW_some] <;> rfl) | (simp [*, errW_none, errW_some] <;> rfl), by first | exact Kd.R_nil _ _ _ _ _ | exact Kd.N_nil _ _ _ _ _ | exact Kd.V_nil _ _ _ _ _ | exact Kd.Q_nil _ _ _ _ _ | exact Kd.S_nil _ _ _ _ _, hL HB.out⟩
  rw [if_neg c26] at H
  have c26b0 : decide (x8_3 < 8) = false := decide_eq_false c26
  clear c26
  by_cases c33 : x3_1.length < 4398046511104
  rotate_left
  ·rw [if_neg c33] at H
   exact absurd H (by simp)
  rw [if_pos c33] at H
  have LMc33 := Aside0.mk c33
  clear c33
  obtain ⟨y267, hy267⟩ : ∃ y_ : List (S105), y_ = (x3_1 ++ [(⟨1, wrap64 (IntKind.u64.wrap (x7_3 - 9223372036854775808)), (⟨#[]⟩ : ByteArray)⟩ : S105)]) := ⟨_, rfl⟩
  replace H : (shelfmarkref03_Cut.l0 k3 a0 y267 x4_3) = some (r1, r2, r3) := by first | (rw [hy267]; with_reducible exact H) | (have H2_ := (Option.bind_some _ _).symm.trans H; rw [hy267]; with_reducible exact H2_) | (have H2_ := (Option.bind_some _ _).symm.trans H; with_reducible exact H2_) | with_reducible exact H | (rw [hy267]; exact H) | exact H
  have Ny267 := Aside0.mk hy267
  clear hy267
  have H' := Aside0.mk H
  clear H
  have hnb34 := NB263_262.out
  have hnc34 := NB262_263.out
  have hcz35_0 : wr.cell? ⟨gb263, 0, none⟩ = some (.int .i64 0) := (blk_cell BK263.out 0).trans rfl
  have hcz35_1 : wr.cell? ⟨gb263, 1, none⟩ = some (.int .i64 0) := (blk_cell BK263.out 1).trans rfl
  have hcz35_2 : wr.cell? ⟨gb263, 2, none⟩ = some (.string (⟨#[]⟩ : ByteArray)) := (blk_cell BK263.out 2).trans rfl
  have hfz35_0 := blk_frozen BK263.out 0
  have hfz35_1 := blk_frozen BK263.out 1
  have hfz35_2 := blk_frozen BK263.out 2
  go_wp2_with (first | ((with_reducible refine gate_builtin (b := .append) (xs := #[.tmp 121, .tmp 123]) rfl ?_); (try (refine gate_guard (by rfl) ?_; dsimp only)); at_builtin; refine Kd.R_append k105 (w0 := w) w.heap.size rfl (.tmp 121) (.tmp 123) 73 105 (.agg #[(.int .i64 0), (.int .i64 0), (.string ⟨#[]⟩)]) 32 rfl Try.underlying73 info105 rfl (by decide) (by omega) (.slice Ao22 x3_1.length co22) x3_1 (⟨1, wrap64 (IntKind.u64.wrap (x7_3 - 9223372036854775808)), (⟨#[]⟩ : ByteArray)⟩ : S105) [.int .i64 1, .int .i64 (wrap64 (IntKind.u64.wrap (x7_3 - 9223372036854775808))), .string (⟨#[]⟩ : ByteArray)] (fun k_ => k_ ≠ gb263) (fun _ => False) rfl (by first | (go_simp; done) | (go_simp; rfl)) ?aP (fun _ hk => hk.elim) ?aF ?aO ?aB ?aS ?aL ?_; (case aP => exact k105_mkM _ _ _ (⟨1, wrap64 (IntKind.u64.wrap (x7_3 - 9223372036854775808)), (⟨#[]⟩ : ByteArray)⟩ : S105)); (case aB => exact (hL HB.out)); (case aF => exact (fun k_ hk => Kd.freshB (g := gb263) (o := .cells #[.int .i64 1, .int .i64 (wrap64 (IntKind.u64.wrap (x7_3 - 9223372036854775808))), .string (⟨#[]⟩ : ByteArray)] 105 (0, 0)) (by (with_reducible repeat (first | refine blk_drewN ?_ _ | refine blk_drew ?_ | refine blk_alloc ?_ _)); refine blk_put (cs := #[.int .i64 1, .int .i64 (wrap64 (IntKind.u64.wrap (x7_3 - 9223372036854775808))), .string (⟨#[]⟩ : ByteArray)]) ?_ 2 _ rfl; (with_reducible repeat (first | refine blk_drewN ?_ _ | refine blk_drew ?_ | refine blk_alloc ?_ _)); refine blk_put (cs := #[.int .i64 1, .int .i64 0, .string (⟨#[]⟩ : ByteArray)]) ?_ 1 _ rfl; (with_reducible repeat (first | refine blk_drewN ?_ _ | refine blk_drew ?_ | refine blk_alloc ?_ _)); refine blk_put (cs := #[.int .i64 0, .int .i64 0, .string (⟨#[]⟩ : ByteArray)]) ?_ 0 _ rfl; exact bL BK263.out) k_ hk)); (case aO => exact (by (with_reducible repeat (first | apply Kd.R_alloc | apply Kd.R_drewN | apply Kd.R_drew)); exact Kd.R_mono (Kd.R_far (p := ⟨gb263, 2, none⟩) (Kd.R_far (p := ⟨gb263, 1, none⟩) (Kd.R_far (p := ⟨gb263, 0, none⟩) (Kd.R_mono HO_3.out (fun k_ hk => (⟨hk, hk⟩ : _ ∧ k_ ≠ gb263))) (fun _ hk => hk.2) (.int .i64 1)) (fun _ hk => hk.2) (.int .i64 (wrap64 (IntKind.u64.wrap (x7_3 - 9223372036854775808))))) (fun _ hk => hk.2) (.string (⟨#[]⟩ : ByteArray))) (fun _ hk => hk.1))); (case aS => exact (below_size (hL HB.out))); (case aL => have := LMc33.out; omega); intro v268 w36 ho hb hg hat; rw [← Ny267.out] at ho; have n0_ := Aside0.mk (blk_grown (g := gb262) (o := .cells #[.slice none 0 0, .string x263001_3, .int .i64 x263002_3] 95 (0, 0)) (by (with_reducible repeat (first | refine blk_drewN ?_ _ | refine blk_drew ?_ | refine blk_alloc ?_ _)); refine blk_far ?_ NB262_263.out _; (with_reducible repeat (first | refine blk_drewN ?_ _ | refine blk_drew ?_ | refine blk_alloc ?_ _)); refine blk_far ?_ NB262_263.out _; (with_reducible repeat (first | refine blk_drewN ?_ _ | refine blk_drew ?_ | refine blk_alloc ?_ _)); refine blk_far ?_ NB262_263.out _; exact bL BK262.out) hg (Kd.R_ne HO_3.out BK262.out (by decide))); have n1_ := Aside0.mk (blk_grown (g := gb263) (o := .cells #[.int .i64 1, .int .i64 (wrap64 (IntKind.u64.wrap (x7_3 - 9223372036854775808))), .string (⟨#[]⟩ : ByteArray)] 105 (0, 0)) (by (with_reducible repeat (first | refine blk_drewN ?_ _ | refine blk_drew ?_ | refine blk_alloc ?_ _)); refine blk_put (cs := #[.int .i64 1, .int .i64 (wrap64 (IntKind.u64.wrap (x7_3 - 9223372036854775808))), .string (⟨#[]⟩ : ByteArray)]) ?_ 2 _ rfl; (with_reducible repeat (first | refine blk_drewN ?_ _ | refine blk_drew ?_ | refine blk_alloc ?_ _)); refine blk_put (cs := #[.int .i64 1, .int .i64 0, .string (⟨#[]⟩ : ByteArray)]) ?_ 1 _ rfl; (with_reducible repeat (first | refine blk_drewN ?_ _ | refine blk_drew ?_ | refine blk_alloc ?_ _)); refine blk_put (cs := #[.int .i64 0, .int .i64 0, .string (⟨#[]⟩ : ByteArray)]) ?_ 0 _ rfl; exact bL BK263.out) hg (Kd.R_away HO_3.out (fun _ hk => hk))); have n2_ := Aside0.mk (hb); have n3_ := Aside0.mk (ho); clear BK262; clear BK263; clear HB; clear HO_3; have BK262 := n0_; have BK263 := n1_; have HB := n2_; have HO269 := n3_; clear n0_ n1_ n2_ n3_; clear ho hb hg hat))
  go_roundg k3
  case measure => have := HK1.out; have := HJ2.out; have := HK3.out; omega
  case rel => exact ⟨(y267), (x4_3), (x263001_3), (x263002_3), (by first | rfl | (simp; done) | (simp [*]; done) | (simp [ne_nil_bytes]; done) | (simp [eq_nil_bytes]; done)), H', ⟨by have := HK1.out; have := HJ2.out; have := HK3.out; omega⟩, ⟨by (with_reducible repeat (first | apply Kd.R_alloc | apply Kd.R_drewN | apply Kd.R_drew)); exact Kd.R_mono HO269.out (fun _ hk => trivial)⟩, ⟨by exact bL BK262.out⟩, ⟨hL HB.out⟩⟩
 rw [if_neg c21] at H
 have c21b0 : ((bt a0 x4_1) == 2) = false := beq_eq_false_iff_ne.mpr c21
 have c21b1 : ((bt a0 x4_1) != 2) = true := bne_iff_ne.mpr c21
 by_cases c37 : (bt a0 x4_1) = 3
 rotate_left
 ·rw [if_neg c37] at H
  have c37b0 : ((bt a0 x4_1) == 3) = false := beq_eq_false_iff_ne.mpr c37
  have c37b1 : ((bt a0 x4_1) != 3) = true := bne_iff_ne.mpr c37
  simp only [Option.some.injEq, Prod.mk.injEq] at H
  obtain ⟨rfl, rfl, rfl⟩ := H
  obtain ⟨Ao87, co87, eo87⟩ := Kd.R_slice HO_3.out
  subst eo87
  have p13 : 0 ≤ (x4_1 : Int) := of_decide_eq_true (by first | (with_reducible assumption) | assumption)
  have q13 : x4_1 < (a0.size : Int) := of_decide_eq_true (by first | (with_reducible assumption) | assumption)
  have hx13 := bt_at a0 x4_1
  replace p13 := eq_true p13
  replace q13 := eq_true q13
  go_wp2_with (first | ((with_reducible refine gate_dst (N := 6) rfl ?_); (try (refine gate_guard (by rfl) ?_; dsimp only)); refine box_event ?hg (N := 6) ?hd (cs := #[.int .i64 0, .int .i64 0, .string (⟨#[]⟩ : ByteArray)]) (t := 105) ?hr ?_; (case hd => rfl); (case hg => rfl); (case hr => first | (go_simp; done) | (go_simp; rfl)); intro gb263 hg w88 hbox hb; have n0_ := Aside0.mk (Kd.R_below (Kd.R_elderB (rL HO_3.out) gb263 (Nat.le_of_eq hg.symm)) hb); have n1_ := Aside0.mk (blk_below (bL BK262.out) hb); have n2_ := Aside0.mk (below_step (hL HB.out) hb); have n3_ := Aside0.mk (hbox); have n4_ := Above.mk ((by rw [hg]; exact (below_size (hL HB.out)) : w.heap.size ≤ gb263)); have n5_ := Above.mk ((by rw [hg]; exact (below_size (hL HB.out)) : w.heap.size ≤ gb263)); have n6_ := Aside0.mk ((by rw [hg]; exact Nat.ne_of_lt (blk_lt (g := gb262) (o := .cells #[.slice none 0 0, .string x263001_1, .int .i64 x263002_1] 95 (0, 0)) (bL BK262.out)) : gb262 ≠ gb263)); have n7_ := Aside0.mk ((by rw [hg]; exact Nat.ne_of_gt (blk_lt (g := gb262) (o := .cells #[.slice none 0 0, .string x263001_1, .int .i64 x263002_1] 95 (0, 0)) (bL BK262.out)) : gb263 ≠ gb262)); clear HO_3; clear BK262; clear HB; have HO_3 := n0_; have BK262 := n1_; have HB := n2_; have BK263 := n3_; have GW263 := n4_; have GE263 := n5_; have NB262_263 := n6_; have NB263_262 := n7_; clear n0_ n1_ n2_ n3_ n4_ n5_ n6_ n7_; clear hb hbox hg; have hnb89 := NB263_262.out; have hnc89 := NB262_263.out; have hcz90_0 : w88.cell? ⟨gb263, 0, none⟩ = some (.int .i64 0) := (blk_cell BK263.out 0).trans rfl; have hcz90_1 : w88.cell? ⟨gb263, 1, none⟩ = some (.int .i64 0) := (blk_cell BK263.out 1).trans rfl; have hcz90_2 : w88.cell? ⟨gb263, 2, none⟩ = some (.string (⟨#[]⟩ : ByteArray)) := (blk_cell BK263.out 2).trans rfl; have hfz90_0 := blk_frozen BK263.out 0; have hfz90_1 := blk_frozen BK263.out 1; have hfz90_2 := blk_frozen BK263.out 2; have hcz91_0 : w88.cell? ⟨gb262, 0, none⟩ = some (.slice none 0 0) := (blk_cell BK262.out 0).trans rfl; have hcz91_1 : w88.cell? ⟨gb262, 1, none⟩ = some (.string x263001_1) := (blk_cell BK262.out 1).trans rfl; have hcz91_2 : w88.cell? ⟨gb262, 2, none⟩ = some (.int .i64 x263002_1) := (blk_cell BK262.out 2).trans rfl; have hfz91_0 := blk_frozen BK262.out 0; have hfz91_1 := blk_frozen BK262.out 1; have hfz91_2 := blk_frozen BK262.out 2))
  refine bodyPost_ret (results_cell_row rfl _ _ gb262 95 #[.slice none 0 0, .string (⟨#[]⟩ : ByteArray), .int .i64 3] (0, 0) _ rfl (by (with_reducible repeat (first | refine blk_drewN ?_ _ | refine blk_drew ?_ | refine blk_alloc ?_ _)); refine blk_put (cs := #[.slice none 0 0, .string (⟨#[]⟩ : ByteArray), .int .i64 x263002_1]) ?_ 2 _ rfl; (with_reducible repeat (first | refine blk_drewN ?_ _ | refine blk_drew ?_ | refine blk_alloc ?_ _)); refine blk_put (cs := #[.slice none 0 0, .string x263001_1, .int .i64 x263002_1]) ?_ 1 _ rfl; (with_reducible repeat (first | refine blk_drewN ?_ _ | refine blk_drew ?_ | refine blk_alloc ?_ _)); refine blk_put (cs := #[.slice none 0 0, .string x263001_1, .int .i64 x263002_1]) ?_ 0 _ rfl; (with_reducible repeat (first | refine blk_drewN ?_ _ | refine blk_drew ?_ | refine blk_alloc ?_ _)); refine blk_far ?_ NB262_263.out _; (with_reducible repeat (first | refine blk_drewN ?_ _ | refine blk_drew ?_ | refine blk_alloc ?_ _)); refine blk_far ?_ NB262_263.out _; (with_reducible repeat (first | refine blk_drewN ?_ _ | refine blk_drew ?_ | refine blk_alloc ?_ _)); refine blk_far ?_ NB262_263.out _; exact bL BK262.out) Try.underlying95 rfl (by kernel_rfl)) rfl ?_
  exact ⟨_, by first | rfl | (simp [errW_none, errW_some] <;> rfl) | (simp [*, errW_none, errW_some] <;> rfl), by first | exact Kd.R_nil _ _ _ _ _ | exact Kd.N_nil _ _ _ _ _ | exact Kd.V_nil _ _ _ _ _ | exact Kd.Q_nil _ _ _ _ _ | exact Kd.S_nil _ _ _ _ _, hL HB.out⟩
 rw [if_pos c37] at H
 have c37b0 : ((bt a0 x4_1) == 3) = true := beq_iff_eq.mpr c37
 have c37b1 : ((bt a0 x4_1) != 3) = false := bne_eq_false_iff_eq.mpr c37
 clear c37
 obtain ⟨y270, hy270⟩ : ∃ y_ : List Int, y_ = (([] : List Int)) := ⟨_, rfl⟩
 replace H : (shelfmarkref03_Cut.l2 kj2 a0 x3_1 (wrap64 (x4_1 + 1)) y270) = some (r1, r2, r3) := by first | (rw [hy270]; with_reducible exact H) | (have H2_ := (Option.bind_some _ _).symm.trans H; rw [hy270]; with_reducible exact H2_) | (have H2_ := (Option.bind_some _ _).symm.trans H; with_reducible exact H2_) | with_reducible exact H | (rw [hy270]; exact H) | exact H
 have Ny270 := Aside0.mk hy270
 clear hy270
 have H' := Aside0.mk H
 clear H
 obtain ⟨Ao38, co38, eo38⟩ := Kd.R_slice HO_3.out
 subst eo38
 have p13 : 0 ≤ (x4_1 : Int) := of_decide_eq_true (by first | (with_reducible assumption) | assumption)
 have q13 : x4_1 < (a0.size : Int) := of_decide_eq_true (by first | (with_reducible assumption) | assumption)
 have hx13 := bt_at a0 x4_1
 replace p13 := eq_true p13
 replace q13 := eq_true q13
 go_wp2_with (first | ((with_reducible refine gate_dst (N := 6) rfl ?_); (try (refine gate_guard (by rfl) ?_; dsimp only)); refine box_event ?hg (N := 6) ?hd (cs := #[.int .i64 0, .int .i64 0, .string (⟨#[]⟩ : ByteArray)]) (t := 105) ?hr ?_; (case hd => rfl); (case hg => rfl); (case hr => first | (go_simp; done) | (go_simp; rfl)); intro gb263 hg w39 hbox hb; have n0_ := Aside0.mk (Kd.R_below (Kd.R_elderB (rL HO_3.out) gb263 (Nat.le_of_eq hg.symm)) hb); have n1_ := Aside0.mk (blk_below (bL BK262.out) hb); have n2_ := Aside0.mk (below_step (hL HB.out) hb); have n3_ := Aside0.mk (hbox); have n4_ := Above.mk ((by rw [hg]; exact (below_size (hL HB.out)) : w.heap.size ≤ gb263)); have n5_ := Above.mk ((by rw [hg]; exact (below_size (hL HB.out)) : w.heap.size ≤ gb263)); have n6_ := Aside0.mk ((by rw [hg]; exact Nat.ne_of_lt (blk_lt (g := gb262) (o := .cells #[.slice none 0 0, .string x263001_1, .int .i64 x263002_1] 95 (0, 0)) (bL BK262.out)) : gb262 ≠ gb263)); have n7_ := Aside0.mk ((by rw [hg]; exact Nat.ne_of_gt (blk_lt (g := gb262) (o := .cells #[.slice none 0 0, .string x263001_1, .int .i64 x263002_1] 95 (0, 0)) (bL BK262.out)) : gb263 ≠ gb262)); clear HO_3; clear BK262; clear HB; have HO_3 := n0_; have BK262 := n1_; have HB := n2_; have BK263 := n3_; have GW263 := n4_; have GE263 := n5_; have NB262_263 := n6_; have NB263_262 := n7_; clear n0_ n1_ n2_ n3_ n4_ n5_ n6_ n7_; clear hb hbox hg; have hnb40 := NB263_262.out; have hnc40 := NB262_263.out; have hcz41_0 : w39.cell? ⟨gb263, 0, none⟩ = some (.int .i64 0) := (blk_cell BK263.out 0).trans rfl; have hcz41_1 : w39.cell? ⟨gb263, 1, none⟩ = some (.int .i64 0) := (blk_cell BK263.out 1).trans rfl; have hcz41_2 : w39.cell? ⟨gb263, 2, none⟩ = some (.string (⟨#[]⟩ : ByteArray)) := (blk_cell BK263.out 2).trans rfl; have hfz41_0 := blk_frozen BK263.out 0; have hfz41_1 := blk_frozen BK263.out 1; have hfz41_2 := blk_frozen BK263.out 2) | ((with_reducible refine gate_dst (N := 60) rfl ?_); (try (refine gate_guard (by rfl) ?_; dsimp only)); refine Kd.R_lit (Kd.int .u8) _ 5 ?hg (N := 60) ?hd (xs := ([] : List Int)) (inner := []) (ok := fun _ => True) (okp := fun _ => True) ?hr ?hp (fun _ hk => hk) trivial (Below.refl _ _) (Nat.le_refl _) (by simp) ?_; (case hd => rfl); (case hg => rfl); (case hr => first | (go_simp; done) | (go_simp; rfl)); (case hp => exact (Reps.none _ _)); intro v271 w42 ho43 hb hg_ hnew_; clear hg_ hnew_; (first | rw [← Ny270.out] at ho43 | (simp only [Int.reduceToNat] at ho43; rw [← Ny270.out] at ho43)); have n0_ := Aside0.mk (Kd.R_below (by (with_reducible repeat (first | apply Kd.R_alloc | apply Kd.R_drewN | apply Kd.R_drew)); exact (Kd.R_mono (Kd.R_far (p := ⟨gb263, 2, none⟩) (Kd.R_far (p := ⟨gb263, 1, none⟩) (Kd.R_far (p := ⟨gb263, 0, none⟩) (Kd.R_mono HO_3.out (fun k_ hk => (⟨hk, hk.2⟩ : _ ∧ k_ ≠ gb263))) (fun _ hk => hk.2) (.int .i64 0)) (fun _ hk => hk.2) (.int .i64 0)) (fun _ hk => hk.2) (.string (⟨#[]⟩ : ByteArray))) (fun _ h_ => h_.1))) hb); have n1_ := Aside0.mk (Kd.R_lower ho43 (below_size (hL HB.out))); have n2_ := Aside0.mk (blk_below (g := gb262) (o := .cells #[.slice none 0 0, .string x263001_1, .int .i64 x263002_1] 95 (0, 0)) (by (with_reducible repeat (first | refine blk_drewN ?_ _ | refine blk_drew ?_ | refine blk_alloc ?_ _)); refine blk_far ?_ NB262_263.out _; (with_reducible repeat (first | refine blk_drewN ?_ _ | refine blk_drew ?_ | refine blk_alloc ?_ _)); refine blk_far ?_ NB262_263.out _; (with_reducible repeat (first | refine blk_drewN ?_ _ | refine blk_drew ?_ | refine blk_alloc ?_ _)); refine blk_far ?_ NB262_263.out _; exact bL BK262.out) hb); have n3_ := Aside0.mk (blk_below (g := gb263) (o := .cells #[.int .i64 0, .int .i64 0, .string (⟨#[]⟩ : ByteArray)] 105 (0, 0)) (by (with_reducible repeat (first | refine blk_drewN ?_ _ | refine blk_drew ?_ | refine blk_alloc ?_ _)); refine blk_put (cs := #[.int .i64 0, .int .i64 0, .string (⟨#[]⟩ : ByteArray)]) ?_ 2 _ rfl; (with_reducible repeat (first | refine blk_drewN ?_ _ | refine blk_drew ?_ | refine blk_alloc ?_ _)); refine blk_put (cs := #[.int .i64 0, .int .i64 0, .string (⟨#[]⟩ : ByteArray)]) ?_ 1 _ rfl; (with_reducible repeat (first | refine blk_drewN ?_ _ | refine blk_drew ?_ | refine blk_alloc ?_ _)); refine blk_put (cs := #[.int .i64 0, .int .i64 0, .string (⟨#[]⟩ : ByteArray)]) ?_ 0 _ rfl; exact bL BK263.out) hb); have n4_ := Aside0.mk (below_step (hL HB.out) hb); clear HO_3; clear BK262; clear BK263; clear HB; have HO_3 := n0_; have HO272 := n1_; have BK262 := n2_; have BK263 := n3_; have HB := n4_; clear n0_ n1_ n2_ n3_ n4_; clear hb ho43))
 go_loopg [4, 9] kj2 (fun kq v4 v9 w' => ∃ (x4_3 : Int) (x9_3 : List Int) (x263001_3 : ByteArray) (x263002_3 : Int), v4 = .int .i64 x4_3 ∧ Aside0 (shelfmarkref03_Cut.l2 kq a0 x3_1 x4_3 x9_3 = some (r1, r2, r3)) ∧ Aside0 (kq ≤ kj2) ∧ Aside0 (Kd.R k105 105 w' w.heap.size (fun k_ => k_ ≠ gb263) (.slice Ao38 x3_1.length co38) x3_1) ∧ Aside0 (Kd.R (Kd.int .u8) 5 w' w.heap.size (fun _ => True) v9 x9_3) ∧ Aside0 (w'.heap[gb262]? = some (.cells #[(.slice none 0 0), .string x263001_3, .int .i64 x263002_3] 95 (0, 0))) ∧ Aside0 (w'.heap[gb263]? = some (.cells #[.int .i64 0, .int .i64 0, .string (⟨#[]⟩ : ByteArray)] 105 (0, 0))) ∧ Aside0 (Below w.heap.size w w'))
 case atStart => exact ⟨(wrap64 (x4_1 + 1)), (y270), (x263001_1), (x263002_1), (by first | rfl | (simp; done) | (simp [*]; done) | (simp [ne_nil_bytes]; done) | (simp [eq_nil_bytes]; done)), H', ⟨Nat.le_refl _⟩, ⟨by (with_reducible repeat (first | apply Kd.R_alloc | apply Kd.R_drewN | apply Kd.R_drew)); exact Kd.R_mono HO_3.out (fun _ hk => hk.2)⟩, ⟨by exact rL HO272.out⟩, ⟨by exact bL BK262.out⟩, ⟨by exact bL BK263.out⟩, ⟨hL HB.out⟩⟩
 clear H'
 try clear c1
 try clear p1
 try clear q1
 try clear hx1
 try clear c2
 try clear p2
 try clear c3
 try clear p3
 try clear q3
 try clear hx3
 try clear c4
 try clear c4b0
 try clear c4b0z
 try clear c5
 try clear c5b0
 try clear c5b0z
 try clear c6
 try clear p6
 try clear q6
 try clear hx6
 try clear c7
 try clear c8
 try clear c8b0
 try clear c8b0z
 try clear c8b1
 try clear c8b1z
 try clear c11
 try clear c11b0
 try clear c11b0z
 try clear c12
 try clear c12b0
 try clear c12b0z
 try clear p13
 try clear q13
 try clear hx13
 try clear c14
 try clear c14b0
 try clear c14b0z
 try clear c14b1
 try clear c14b1z
 try clear c15
 try clear c18
 try clear c21
 try clear c21b0
 try clear c21b0z
 try clear c21b1
 try clear c21b1z
 try clear c24
 try clear c26
 try clear c26b0
 try clear c26b0z
 try clear c27
 try clear c27b0
 try clear c27b0z
 try clear c28
 try clear c30
 try clear c30b0
 try clear c30b0z
 try clear c31
 try clear c31b0
 try clear c31b0z
 try clear p32
 try clear q32
 try clear hx32
 try clear c33
 try clear c34
 try clear c37
 try clear c37b0
 try clear c37b0z
 try clear c37b1
 try clear c37b1z
 try clear c40
 try clear hcz10_0
 try clear hcz10_1
 try clear hcz10_2
 try clear hcz19_0
 try clear hcz19_1
 try clear hcz19_2
 try clear hcz25_0
 try clear hcz25_1
 try clear hcz25_2
 try clear hcz29_0
 try clear hcz29_1
 try clear hcz29_2
 try clear hcz35_0
 try clear hcz35_1
 try clear hcz35_2
 try clear hcz41_0
 try clear hcz41_1
 try clear hcz41_2
 try clear hfz10_0
 try clear hfz10_1
 try clear hfz10_2
 try clear hfz19_0
 try clear hfz19_1
 try clear hfz19_2
 try clear hfz25_0
 try clear hfz25_1
 try clear hfz25_2
 try clear hfz29_0
 try clear hfz29_1
 try clear hfz29_2
 try clear hfz35_0
 try clear hfz35_1
 try clear hfz35_2
 try clear hfz41_0
 try clear hfz41_1
 try clear hfz41_2
 try clear p1
 try clear p13
 try clear p2
 try clear p32
 try clear p6
 try clear q1
 try clear q13
 try clear q32
 try clear q6
 obtain ⟨x4_3, x9_3, x263001_3, x263002_3, rfl, HA, HK3, HO_3, HO_9, BK262, BK263, HB⟩ := hrel
 rcases gk with _ | k3
 ·exact absurd HA.out (by simp [shelfmarkref03_Cut.l2])
 have H := HA.out
 clear HA
 simp only [shelfmarkref03_Cut.l2] at H
 have HC44 := Aside0.mk H
 clear H
 go_upto_region 24 with (fail)
 go_cut [77] (fun v77 wc => ∃ (kq : Nat) (x77_43 : Bool), v77 = .bool x77_43 ∧ Aside0 (shelfmarkref03_Cut.j4 kq a0 x3_1 x4_3 x9_3 x77_43 = some (r1, r2, r3)) ∧ Aside0 (kq ≤ k3) ∧ Aside0 (Kd.R k105 105 wc w.heap.size (fun k_ => k_ ≠ gb263) (.slice Ao38 x3_1.length co38) x3_1) ∧ Aside0 (Kd.R (Kd.int .u8) 5 wc w.heap.size (fun _ => True) u9 x9_3) ∧ Aside0 (wc.heap[gb262]? = some (.cells #[(.slice none 0 0), .string x263001_3, .int .i64 x263002_3] 95 (0, 0))) ∧ Aside0 (wc.heap[gb263]? = some (.cells #[.int .i64 0, .int .i64 0, .string (⟨#[]⟩ : ByteArray)] 105 (0, 0))) ∧ Aside0 (Below w.heap.size w wc))
 case first =>
  have H := HC44.out
  clear HC44
  by_cases c45 : x4_3 ≥ (a0.size : Int)
  ·rw [if_pos c45] at H
   have c45b0 : decide ((a0.size : Int) ≤ x4_3) = true := decide_eq_true c45
   clear c45
   (first | rw [c45b0] | (simp only [i64_w, i32_w]; rw [c45b0]) | skip)
   have H' := Aside0.mk H
   clear H
   go_wp2
   go_meet
   case rel => exact ⟨_, (true), (by first | rfl | (simp; done) | (simp [*]; done) | (simp [ne_nil_bytes]; done) | (simp [eq_nil_bytes]; done)), H', ⟨by have := HK1.out; have := HJ2.out; have := HK3.out; first | omega | exact Nat.le_refl _⟩, ⟨by exact rL HO_3.out⟩, ⟨by exact rL HO_9.out⟩, ⟨by exact bL BK262.out⟩, ⟨by exact bL BK263.out⟩, ⟨hL HB.out⟩⟩
  rw [if_neg c45] at H
  have c45b0 : decide ((a0.size : Int) ≤ x4_3) = false := decide_eq_false c45
  clear c45
  (first | rw [c45b0] | (simp only [i64_w, i32_w]; rw [c45b0]) | skip)
  by_cases c46 : 0 ≤ x4_3
  rotate_left
  ·rw [if_neg c46] at H
   exact absurd H (by simp)
  rw [if_pos c46] at H
  have c46b0 : decide (0 ≤ x4_3) = true := decide_eq_true c46
  clear c46
  by_cases c47 : x4_3 < (a0.size : Int)
  rotate_left
  ·rw [if_neg c47] at H
   exact absurd H (by simp)
  rw [if_pos c47] at H
  have c47b0 : decide (x4_3 < (a0.size : Int)) = true := decide_eq_true c47
  clear c47
  by_cases c49 : (bt a0 x4_3) = 0
  rotate_left
  ·rw [if_neg c49] at H
   have c49b0 : ((bt a0 x4_3) == 0) = false := beq_eq_false_iff_ne.mpr c49
   have c49b1 : ((bt a0 x4_3) != 0) = true := bne_iff_ne.mpr c49
   have H' := Aside0.mk H
   clear H
   have p48 : 0 ≤ (x4_3 : Int) := of_decide_eq_true (by first | (with_reducible assumption) | assumption)
   have q48 : x4_3 < (a0.size : Int) := of_decide_eq_true (by first | (with_reducible assumption) | assumption)
   have hx48 := bt_at a0 x4_3
   replace p48 := eq_true p48
   replace q48 := eq_true q48
   go_wp2
   go_meet
   case rel => exact ⟨_, (false), (by first | rfl | (simp; done) | (simp [*]; done) | (simp [ne_nil_bytes]; done) | (simp [eq_nil_bytes]; done)), H', ⟨by have := HK1.out; have := HJ2.out; have := HK3.out; first | omega | exact Nat.le_refl _⟩, ⟨by exact rL HO_3.out⟩, ⟨by exact rL HO_9.out⟩, ⟨by exact bL BK262.out⟩, ⟨by exact bL BK263.out⟩, ⟨hL HB.out⟩⟩
  rw [if_pos c49] at H
  have c49b0 : ((bt a0 x4_3) == 0) = true := beq_iff_eq.mpr c49
  have c49b1 : ((bt a0 x4_3) != 0) = false := bne_eq_false_iff_eq.mpr c49
  clear c49
  have H' := Aside0.mk H
  clear H
  have p48 : 0 ≤ (x4_3 : Int) := of_decide_eq_true (by first | (with_reducible assumption) | assumption)
  have q48 : x4_3 < (a0.size : Int) := of_decide_eq_true (by first | (with_reducible assumption) | assumption)
  have hx48 := bt_at a0 x4_3
  replace p48 := eq_true p48
  replace q48 := eq_true q48
  go_wp2
  go_meet
  case rel => exact ⟨_, ((x4_3 == (wrap64 ((a0.size : Int) - 1)))), (by first | rfl | (simp; done) | (simp [*]; done) | (simp [ne_nil_bytes]; done) | (simp [eq_nil_bytes]; done)), H', ⟨by have := HK1.out; have := HJ2.out; have := HK3.out; first | omega | exact Nat.le_refl _⟩, ⟨by exact rL HO_3.out⟩, ⟨by exact rL HO_9.out⟩, ⟨by exact bL BK262.out⟩, ⟨by exact bL BK263.out⟩, ⟨hL HB.out⟩⟩
 clear HC44
 try clear c1
 try clear p1
 try clear q1
 try clear hx1
 try clear c2
 try clear p2
 try clear c3
 try clear p3
 try clear q3
 try clear hx3
 try clear c4
 try clear c4b0
 try clear c4b0z
 try clear p4
 try clear q4
 try clear hx4
 try clear c5
 try clear c5b0
 try clear c5b0z
 try clear c6
 try clear p6
 try clear q6
 try clear hx6
 try clear c7
 try clear c8
 try clear c8b0
 try clear c8b0z
 try clear c8b1
 try clear c8b1z
 try clear c11
 try clear c11b0
 try clear c11b0z
 try clear c12
 try clear c12b0
 try clear c12b0z
 try clear p13
 try clear q13
 try clear hx13
 try clear c14
 try clear c14b0
 try clear c14b0z
 try clear c14b1
 try clear c14b1z
 try clear c15
 try clear c18
 try clear c21
 try clear c21b0
 try clear c21b0z
 try clear c21b1
 try clear c21b1z
 try clear c24
 try clear c26
 try clear c26b0
 try clear c26b0z
 try clear c27
 try clear c27b0
 try clear c27b0z
 try clear c28
 try clear c30
 try clear c30b0
 try clear c30b0z
 try clear c31
 try clear c31b0
 try clear c31b0z
 try clear p32
 try clear q32
 try clear hx32
 try clear c33
 try clear c34
 try clear c37
 try clear c37b0
 try clear c37b0z
 try clear c37b1
 try clear c37b1z
 try clear c40
 try clear c45
 try clear c45b0
 try clear c45b0z
 try clear c46
 try clear c46b0
 try clear c46b0z
 try clear c47
 try clear c47b0
 try clear c47b0z
 try clear p48
 try clear q48
 try clear hx48
 try clear c49
 try clear c49b0
 try clear c49b0z
 try clear c49b1
 try clear c49b1z
 try clear hcz10_0
 try clear hcz10_1
 try clear hcz10_2
 try clear hcz19_0
 try clear hcz19_1
 try clear hcz19_2
 try clear hcz25_0
 try clear hcz25_1
 try clear hcz25_2
 try clear hcz29_0
 try clear hcz29_1
 try clear hcz29_2
 try clear hcz35_0
 try clear hcz35_1
 try clear hcz35_2
 try clear hcz41_0
 try clear hcz41_1
 try clear hcz41_2
 try clear hfz10_0
 try clear hfz10_1
 try clear hfz10_2
 try clear hfz19_0
 try clear hfz19_1
 try clear hfz19_2
 try clear hfz25_0
 try clear hfz25_1
 try clear hfz25_2
 try clear hfz29_0
 try clear hfz29_1
 try clear hfz29_2
 try clear hfz35_0
 try clear hfz35_1
 try clear hfz35_2
 try clear hfz41_0
 try clear hfz41_1
 try clear hfz41_2
 try clear p1
 try clear p13
 try clear p2
 try clear p3
 try clear p32
 try clear p48
 try clear p6
 try clear q1
 try clear q13
 try clear q3
 try clear q32
 try clear q48
 try clear q6
 obtain ⟨kq, x77_43, rfl, HA, HJ43, HO_3, HO_9, BK262, BK263, HB⟩ := hcut
 rcases kq with _ | kj43
 ·exact absurd HA.out (by simp [shelfmarkref03_Cut.j4])
 have H := HA.out
 clear HA
 simp only [shelfmarkref03_Cut.j4] at H
 by_cases c50 : x77_43 = true
 ·subst c50
  have H1 : (some (([] : List (S105)), (⟨#[]⟩ : ByteArray), 2)) = some (r1, r2, r3) := by rw [if_pos rfl] at H; exact H
  clear H
  have H := H1
  clear H1
  simp only [Option.some.injEq, Prod.mk.injEq] at H
  obtain ⟨rfl, rfl, rfl⟩ := H
  have hnb51 := NB262_263.out
  have hnc51 := NB263_262.out
  have hcz52_0 : wc.cell? ⟨gb262, 0, none⟩ = some (.slice none 0 0) := (blk_cell BK262.out 0).trans rfl
  have hcz52_1 : wc.cell? ⟨gb262, 1, none⟩ = some (.string x263001_3) := (blk_cell BK262.out 1).trans rfl
  have hcz52_2 : wc.cell? ⟨gb262, 2, none⟩ = some (.int .i64 x263002_3) := (blk_cell BK262.out 2).trans rfl
  have hfz52_0 := blk_frozen BK262.out 0
  have hfz52_1 := blk_frozen BK262.out 1
  have hfz52_2 := blk_frozen BK262.out 2
  go_wp2
  refine bodyPost_ret (results_cell_row rfl _ _ gb262 95 #[.slice none 0 0, .string (⟨#[]⟩ : ByteArray), .int .i64 2] (0, 0) _ rfl (by (with_reducible repeat (first | refine blk_drewN ?_ _ | refine blk_drew ?_ | refine blk_alloc ?_ _)); refine blk_put (cs := #[.slice none 0 0, .string (⟨#[]⟩ : ByteArray), .int .i64 x263002_3]) ?_ 2 _ rfl; (with_reducible repeat (first | refine blk_drewN ?_ _ | refine blk_drew ?_ | refine blk_alloc ?_ _)); refine blk_put (cs := #[.slice none 0 0, .string x263001_3, .int .i64 x263002_3]) ?_ 1 _ rfl; (with_reducible repeat (first | refine blk_drewN ?_ _ | refine blk_drew ?_ | refine blk_alloc ?_ _)); refine blk_put (cs := #[.slice none 0 0, .string x263001_3, .int .i64 x263002_3]) ?_ 0 _ rfl; exact bL BK262.out) Try.underlying95 rfl (by kernel_rfl)) rfl ?_
  exact ⟨_, by first | rfl | (simp [errW_none, errW_some] <;> rfl) | (simp [*, errW_none, errW_some] <;> rfl), by first | exact Kd.R_nil _ _ _ _ _ | exact Kd.N_nil _ _ _ _ _ | exact Kd.V_nil _ _ _ _ _ | exact Kd.Q_nil _ _ _ _ _ | exact Kd.S_nil _ _ _ _ _, hL HB.out⟩
 replace c50 := Bool.eq_false_iff.mpr c50
 subst c50
 have H1 : (if 0 ≤ x4_3 then (if x4_3 < (a0.size : Int) then (if (bt a0 x4_3) = 0 then (if 0 ≤ (wrap64 (x4_3 + 1)) then (if (wrap64 (x4_3 + 1)) < (a0.size : Int) then (if (bt a0 (wrap64 (x4_3 + 1))) = 0 then (shelfmarkref03_Cut.j5 kj43 a0 x3_1 x4_3 x9_3 false) else (shelfmarkref03_Cut.j5 kj43 a0 x3_1 x4_3 x9_3 ((bt a0 (wrap64 (x4_3 + 1))) != 255))) else (none)) else (none)) else (if x9_3.length < 140737488355328 then (shelfmarkref03_Cut.l2 kj43 a0 x3_1 (wrap64 (x4_3 + 1)) (x9_3 ++ [bt a0 x4_3])) else (none))) else (none)) else (none)) = some (r1, r2, r3) := by rw [if_neg (show ¬ (false = true) by decide)] at H; exact H
 clear H
 have H := H1
 clear H1
 by_cases c53 : 0 ≤ x4_3
 rotate_left
 ·rw [if_neg c53] at H
  exact absurd H (by simp)
 rw [if_pos c53] at H
 have c53b0 : decide (0 ≤ x4_3) = true := decide_eq_true c53
 clear c53
 by_cases c54 : x4_3 < (a0.size : Int)
 rotate_left
 ·rw [if_neg c54] at H
  exact absurd H (by simp)
 rw [if_pos c54] at H
 have c54b0 : decide (x4_3 < (a0.size : Int)) = true := decide_eq_true c54
 clear c54
 by_cases c56 : (bt a0 x4_3) = 0
 rotate_left
 ·rw [if_neg c56] at H
  have c56b0 : ((bt a0 x4_3) == 0) = false := beq_eq_false_iff_ne.mpr c56
  have c56b1 : ((bt a0 x4_3) != 0) = true := bne_iff_ne.mpr c56
  by_cases c85 : x9_3.length < 140737488355328
  rotate_left
  ·rw [if_neg c85] at H
   exact absurd H (by simp)
  rw [if_pos c85] at H
  have LMc85 := Aside0.mk c85
  clear c85
  obtain ⟨y273, hy273⟩ : ∃ y_ : List Int, y_ = (x9_3 ++ [bt a0 x4_3]) := ⟨_, rfl⟩
  replace H : (shelfmarkref03_Cut.l2 kj43 a0 x3_1 (wrap64 (x4_3 + 1)) y273) = some (r1, r2, r3) := by first | (rw [hy273]; with_reducible exact H) | (have H2_ := (Option.bind_some _ _).symm.trans H; rw [hy273]; with_reducible exact H2_) | (have H2_ := (Option.bind_some _ _).symm.trans H; with_reducible exact H2_) | with_reducible exact H | (rw [hy273]; exact H) | exact H
  have Ny273 := Aside0.mk hy273
  clear hy273
  have H' := Aside0.mk H
  clear H
  have p55 : 0 ≤ (x4_3 : Int) := of_decide_eq_true (by first | (with_reducible assumption) | assumption)
  have q55 : x4_3 < (a0.size : Int) := of_decide_eq_true (by first | (with_reducible assumption) | assumption)
  have hx55 := bt_at a0 x4_3
  replace p55 := eq_true p55
  replace q55 := eq_true q55
  have p84 : 0 ≤ (x4_3 : Int) := of_decide_eq_true (by first | (with_reducible assumption) | assumption)
  have q84 : x4_3 < (a0.size : Int) := of_decide_eq_true (by first | (with_reducible assumption) | assumption)
  have hx84 := bt_at a0 x4_3
  replace p84 := eq_true p84
  replace q84 := eq_true q84
  go_wp2_with (first | ((with_reducible refine gate_builtin (b := .append) (xs := #[.tmp 83, .tmp 87]) rfl ?_); (try (refine gate_guard (by rfl) ?_; dsimp only)); at_builtin; refine Kd.R_append (Kd.int .u8) (w0 := w) w.heap.size rfl (.tmp 83) (.tmp 87) 110 5 (.int .u8 0) 1 rfl Try.underlying110 info5 rfl (by decide) (by omega) u9 x9_3 (bt a0 x4_3) [.int .u8 (bt a0 x4_3)] (fun _ => True) (fun _ => False) rfl rfl ?aP (fun _ hk => hk.elim) ?aF ?aO ?aB ?aS ?aL ?_; (case aP => exact rfl); (case aB => exact (hL HB.out)); (case aF => exact (fun _ _ => trivial)); (case aO => exact (rL HO_9.out)); (case aS => exact (below_size (hL HB.out))); (case aL => have := LMc85.out; omega); intro v274 w86 ho hb hg hat; rw [← Ny273.out] at ho; have n0_ := Aside0.mk (Kd.R_over' (rL HO_3.out) (Kd.R_typed (rL HO_9.out)) (by decide) hg); have n1_ := Aside0.mk (blk_grown (g := gb262) (o := .cells #[.slice none 0 0, .string x263001_3, .int .i64 x263002_3] 95 (0, 0)) (bL BK262.out) hg (Kd.R_ne HO_9.out BK262.out (by decide))); have n2_ := Aside0.mk (blk_grown (g := gb263) (o := .cells #[.int .i64 0, .int .i64 0, .string (⟨#[]⟩ : ByteArray)] 105 (0, 0)) (bL BK263.out) hg (Kd.R_ne HO_9.out BK263.out (by decide))); have n3_ := Aside0.mk (hb); have n4_ := Aside0.mk (ho); clear HO_3; clear BK262; clear BK263; clear HB; clear HO_9; have HO_3 := n0_; have BK262 := n1_; have BK263 := n2_; have HB := n3_; have HO275 := n4_; clear n0_ n1_ n2_ n3_ n4_; clear ho hb hg hat))
  go_roundg kj43
  case measure => have := HK1.out; have := HJ2.out; have := HK3.out; have := HJ43.out; omega
  case rel => exact ⟨(wrap64 (x4_3 + 1)), (y273), (x263001_3), (x263002_3), (by first | rfl | (simp; done) | (simp [*]; done) | (simp [ne_nil_bytes]; done) | (simp [eq_nil_bytes]; done)), H', ⟨by have := HK1.out; have := HJ2.out; have := HK3.out; have := HJ43.out; omega⟩, ⟨by exact rL HO_3.out⟩, ⟨by exact rL HO275.out⟩, ⟨by exact bL BK262.out⟩, ⟨by exact bL BK263.out⟩, ⟨hL HB.out⟩⟩
 rw [if_pos c56] at H
 have c56b0 : ((bt a0 x4_3) == 0) = true := beq_iff_eq.mpr c56
 have c56b1 : ((bt a0 x4_3) != 0) = false := bne_eq_false_iff_eq.mpr c56
 clear c56
 have HC57 := Aside0.mk H
 clear H
 have p55 : 0 ≤ (x4_3 : Int) := of_decide_eq_true (by first | (with_reducible assumption) | assumption)
 have q55 : x4_3 < (a0.size : Int) := of_decide_eq_true (by first | (with_reducible assumption) | assumption)
 have hx55 := bt_at a0 x4_3
 replace p55 := eq_true p55
 replace q55 := eq_true q55
 go_upto_region 29 with (fail)
 go_cut [102] (fun v102 wc => ∃ (kq : Nat) (x102_56 : Bool), v102 = .bool x102_56 ∧ Aside0 (shelfmarkref03_Cut.j5 kq a0 x3_1 x4_3 x9_3 x102_56 = some (r1, r2, r3)) ∧ Aside0 (kq ≤ kj43) ∧ Aside0 (Kd.R k105 105 wc w.heap.size (fun k_ => k_ ≠ gb263) (.slice Ao38 x3_1.length co38) x3_1) ∧ Aside0 (Kd.R (Kd.int .u8) 5 wc w.heap.size (fun _ => True) u9 x9_3) ∧ Aside0 (wc.heap[gb262]? = some (.cells #[(.slice none 0 0), .string x263001_3, .int .i64 x263002_3] 95 (0, 0))) ∧ Aside0 (wc.heap[gb263]? = some (.cells #[.int .i64 0, .int .i64 0, .string (⟨#[]⟩ : ByteArray)] 105 (0, 0))) ∧ Aside0 (Below w.heap.size w wc))
 case first =>
  have H := HC57.out
  clear HC57
  obtain ⟨ji58, hji58⟩ : ∃ j_ : Int, (wrap64 (x4_3 + 1)) = j_ := ⟨_, rfl⟩
  replace H : (if 0 ≤ (ji58) then (if (ji58) < (a0.size : Int) then (if (bt a0 (ji58)) = 0 then (shelfmarkref03_Cut.j5 kj43 a0 x3_1 x4_3 x9_3 false) else (shelfmarkref03_Cut.j5 kj43 a0 x3_1 x4_3 x9_3 ((bt a0 (ji58)) != 255))) else (none)) else (none)) = some (r1, r2, r3) := by first | (rw [hji58] at H; exact H) | (simp only [hji58] at H ⊢; exact H)
  have hji58w : (IntKind.i64.wrap (x4_3 + 1)) = ji58 := (i64_w _).trans hji58
  by_cases c59 : 0 ≤ (ji58)
  rotate_left
  ·rw [if_neg c59] at H
   exact absurd H (by simp)
  rw [if_pos c59] at H
  have c59b0 : decide (0 ≤ (ji58)) = true := decide_eq_true c59
  clear c59
  (first | rw [c59b0] | (simp only [i64_w, i32_w]; rw [c59b0]) | skip)
  by_cases c60 : (ji58) < (a0.size : Int)
  rotate_left
  ·rw [if_neg c60] at H
   exact absurd H (by simp)
  rw [if_pos c60] at H
  have c60b0 : decide ((ji58) < (a0.size : Int)) = true := decide_eq_true c60
  clear c60
  by_cases c62 : (bt a0 (ji58)) = 0
  ·rw [if_pos c62] at H
   have c62b0 : ((bt a0 (ji58)) == 0) = true := beq_iff_eq.mpr c62
   have c62b1 : ((bt a0 (ji58)) != 0) = false := bne_eq_false_iff_eq.mpr c62
   clear c62
   have H' := Aside0.mk H
   clear H
   have p61 : 0 ≤ ((ji58) : Int) := of_decide_eq_true (by first | (with_reducible assumption) | assumption)
   have q61 : (ji58) < (a0.size : Int) := of_decide_eq_true (by first | (with_reducible assumption) | assumption)
   have hx61 := bt_at a0 (ji58)
   replace p61 := eq_true p61
   replace q61 := eq_true q61
   go_wp2
   go_meet
   case rel => exact ⟨_, (false), (by first | rfl | (simp; done) | (simp [*]; done) | (simp [ne_nil_bytes]; done) | (simp [eq_nil_bytes]; done)), H', ⟨by have := HK1.out; have := HJ2.out; have := HK3.out; have := HJ43.out; first | omega | exact Nat.le_refl _⟩, ⟨by exact rL HO_3.out⟩, ⟨by exact rL HO_9.out⟩, ⟨by exact bL BK262.out⟩, ⟨by exact bL BK263.out⟩, ⟨hL HB.out⟩⟩
  rw [if_neg c62] at H
  have c62b0 : ((bt a0 (ji58)) == 0) = false := beq_eq_false_iff_ne.mpr c62
  have c62b1 : ((bt a0 (ji58)) != 0) = true := bne_iff_ne.mpr c62
  have H' := Aside0.mk H
  clear H
  have p61 : 0 ≤ ((ji58) : Int) := of_decide_eq_true (by first | (with_reducible assumption) | assumption)
  have q61 : (ji58) < (a0.size : Int) := of_decide_eq_true (by first | (with_reducible assumption) | assumption)
  have hx61 := bt_at a0 (ji58)
  replace p61 := eq_true p61
  replace q61 := eq_true q61
  have p63 : 0 ≤ ((ji58) : Int) := of_decide_eq_true (by first | (with_reducible assumption) | assumption)
  have q63 : (ji58) < (a0.size : Int) := of_decide_eq_true (by first | (with_reducible assumption) | assumption)
  have hx63 := bt_at a0 (ji58)
  replace p63 := eq_true p63
  replace q63 := eq_true q63
  go_wp2
  go_meet
  case rel => exact ⟨_, (((bt a0 (ji58)) != 255)), (by first | rfl | (simp; done) | (simp only [← hji58] <;> (first | rfl | simp)) | (simp [*]; done)), H', ⟨by have := HK1.out; have := HJ2.out; have := HK3.out; have := HJ43.out; first | omega | exact Nat.le_refl _⟩, ⟨by exact rL HO_3.out⟩, ⟨by exact rL HO_9.out⟩, ⟨by exact bL BK262.out⟩, ⟨by exact bL BK263.out⟩, ⟨hL HB.out⟩⟩
 clear HC57
 try clear c1
 try clear p1
 try clear q1
 try clear hx1
 try clear c2
 try clear p2
 try clear c3
 try clear p3
 try clear q3
 try clear hx3
 try clear c4
 try clear c4b0
 try clear c4b0z
 try clear p4
 try clear q4
 try clear hx4
 try clear c5
 try clear c5b0
 try clear c5b0z
 try clear p5
 try clear q5
 try clear hx5
 try clear c6
 try clear p6
 try clear q6
 try clear hx6
 try clear c7
 try clear c8
 try clear c8b0
 try clear c8b0z
 try clear c8b1
 try clear c8b1z
 try clear c11
 try clear c11b0
 try clear c11b0z
 try clear c12
 try clear c12b0
 try clear c12b0z
 try clear p13
 try clear q13
 try clear hx13
 try clear c14
 try clear c14b0
 try clear c14b0z
 try clear c14b1
 try clear c14b1z
 try clear c15
 try clear c18
 try clear c21
 try clear c21b0
 try clear c21b0z
 try clear c21b1
 try clear c21b1z
 try clear c24
 try clear c26
 try clear c26b0
 try clear c26b0z
 try clear c27
 try clear c27b0
 try clear c27b0z
 try clear c28
 try clear c30
 try clear c30b0
 try clear c30b0z
 try clear c31
 try clear c31b0
 try clear c31b0z
 try clear p32
 try clear q32
 try clear hx32
 try clear c33
 try clear c34
 try clear c37
 try clear c37b0
 try clear c37b0z
 try clear c37b1
 try clear c37b1z
 try clear c40
 try clear c45
 try clear c45b0
 try clear c45b0z
 try clear c46
 try clear c46b0
 try clear c46b0z
 try clear c47
 try clear c47b0
 try clear c47b0z
 try clear p48
 try clear q48
 try clear hx48
 try clear c49
 try clear c49b0
 try clear c49b0z
 try clear c49b1
 try clear c49b1z
 try clear c50
 try clear c51
 try clear c53
 try clear c53b0
 try clear c53b0z
 try clear c54
 try clear c54b0
 try clear c54b0z
 try clear p55
 try clear q55
 try clear hx55
 try clear c56
 try clear c56b0
 try clear c56b0z
 try clear c56b1
 try clear c56b1z
 try clear c59
 try clear c59b0
 try clear c59b0z
 try clear c60
 try clear c60b0
 try clear c60b0z
 try clear p61
 try clear q61
 try clear hx61
 try clear c62
 try clear c62b0
 try clear c62b0z
 try clear c62b1
 try clear c62b1z
 try clear p63
 try clear q63
 try clear hx63
 try clear hcz10_0
 try clear hcz10_1
 try clear hcz10_2
 try clear hcz19_0
 try clear hcz19_1
 try clear hcz19_2
 try clear hcz25_0
 try clear hcz25_1
 try clear hcz25_2
 try clear hcz29_0
 try clear hcz29_1
 try clear hcz29_2
 try clear hcz35_0
 try clear hcz35_1
 try clear hcz35_2
 try clear hcz41_0
 try clear hcz41_1
 try clear hcz41_2
 try clear hcz52_0
 try clear hcz52_1
 try clear hcz52_2
 try clear hfz10_0
 try clear hfz10_1
 try clear hfz10_2
 try clear hfz19_0
 try clear hfz19_1
 try clear hfz19_2
 try clear hfz25_0
 try clear hfz25_1
 try clear hfz25_2
 try clear hfz29_0
 try clear hfz29_1
 try clear hfz29_2
 try clear hfz35_0
 try clear hfz35_1
 try clear hfz35_2
 try clear hfz41_0
 try clear hfz41_1
 try clear hfz41_2
 try clear hfz52_0
 try clear hfz52_1
 try clear hfz52_2
 try clear p1
 try clear p13
 try clear p2
 try clear p3
 try clear p32
 try clear p4
 try clear p48
 try clear p55
 try clear p6
 try clear p61
 try clear p63
 try clear q1
 try clear q13
 try clear q3
 try clear q32
 try clear q4
 try clear q48
 try clear q55
 try clear q6
 try clear q61
 try clear q63
 obtain ⟨kq, x102_56, rfl, HA, HJ56, HO_3, HO_9, BK262, BK263, HB⟩ := hcut
 rcases kq with _ | kj56
 ·exact absurd HA.out (by simp [shelfmarkref03_Cut.j5])
 have H := HA.out
 clear HA
 simp only [shelfmarkref03_Cut.j5] at H
 by_cases c64 : x102_56 = true
 ·subst c64
  have H1 : (some (([] : List (S105)), (⟨#[]⟩ : ByteArray), 3)) = some (r1, r2, r3) := by rw [if_pos rfl] at H; exact H
  clear H
  have H := H1
  clear H1
  simp only [Option.some.injEq, Prod.mk.injEq] at H
  obtain ⟨rfl, rfl, rfl⟩ := H
  have hnb65 := NB262_263.out
  have hnc65 := NB263_262.out
  have hcz66_0 : wc.cell? ⟨gb262, 0, none⟩ = some (.slice none 0 0) := (blk_cell BK262.out 0).trans rfl
  have hcz66_1 : wc.cell? ⟨gb262, 1, none⟩ = some (.string x263001_3) := (blk_cell BK262.out 1).trans rfl
  have hcz66_2 : wc.cell? ⟨gb262, 2, none⟩ = some (.int .i64 x263002_3) := (blk_cell BK262.out 2).trans rfl
  have hfz66_0 := blk_frozen BK262.out 0
  have hfz66_1 := blk_frozen BK262.out 1
  have hfz66_2 := blk_frozen BK262.out 2
  go_wp2
  refine bodyPost_ret (results_cell_row rfl _ _ gb262 95 #[.slice none 0 0, .string (⟨#[]⟩ : ByteArray), .int .i64 3] (0, 0) _ rfl (by (with_reducible repeat (first | refine blk_drewN ?_ _ | refine blk_drew ?_ | refine blk_alloc ?_ _)); refine blk_put (cs := #[.slice none 0 0, .string (⟨#[]⟩ : ByteArray), .int .i64 x263002_3]) ?_ 2 _ rfl; (with_reducible repeat (first | refine blk_drewN ?_ _ | refine blk_drew ?_ | refine blk_alloc ?_ _)); refine blk_put (cs := #[.slice none 0 0, .string x263001_3, .int .i64 x263002_3]) ?_ 1 _ rfl; (with_reducible repeat (first | refine blk_drewN ?_ _ | refine blk_drew ?_ | refine blk_alloc ?_ _)); refine blk_put (cs := #[.slice none 0 0, .string x263001_3, .int .i64 x263002_3]) ?_ 0 _ rfl; exact bL BK262.out) Try.underlying95 rfl (by kernel_rfl)) rfl ?_
  exact ⟨_, by first | rfl | (simp [errW_none, errW_some] <;> rfl) | (simp [*, errW_none, errW_some] <;> rfl), by first | exact Kd.R_nil _ _ _ _ _ | exact Kd.N_nil _ _ _ _ _ | exact Kd.V_nil _ _ _ _ _ | exact Kd.Q_nil _ _ _ _ _ | exact Kd.S_nil _ _ _ _ _, hL HB.out⟩
 replace c64 := Bool.eq_false_iff.mpr c64
 subst c64
 have H1 : (if 0 ≤ (wrap64 ((wrap64 (x4_3 + 2)) - 1)) then (if (wrap64 ((wrap64 (x4_3 + 2)) - 1)) < (a0.size : Int) then (if (bt a0 (wrap64 ((wrap64 (x4_3 + 2)) - 1))) = 0 then (if (x9_3.length : Int) > 32 then (some (([] : List (S105)), (⟨#[]⟩ : ByteArray), 4)) else (if x3_1.length < 4398046511104 then (shelfmarkref03_Cut.l0 kj56 a0 (x3_1 ++ [(⟨2, 0, strOfNums x9_3⟩ : S105)]) (wrap64 (x4_3 + 2))) else (none))) else (if x9_3.length < 140737488355328 then (shelfmarkref03_Cut.l2 kj56 a0 x3_1 (wrap64 (x4_3 + 2)) (x9_3 ++ [0])) else (none))) else (none)) else (none)) = some (r1, r2, r3) := by rw [if_neg (show ¬ (false = true) by decide)] at H; exact H
 clear H
 have H := H1
 clear H1
 obtain ⟨ji67, hji67⟩ : ∃ j_ : Int, (wrap64 ((wrap64 (x4_3 + 2)) - 1)) = j_ := ⟨_, rfl⟩
 replace H : (if 0 ≤ (ji67) then (if (ji67) < (a0.size : Int) then (if (bt a0 (ji67)) = 0 then (if (x9_3.length : Int) > 32 then (some (([] : List (S105)), (⟨#[]⟩ : ByteArray), 4)) else (if x3_1.length < 4398046511104 then (shelfmarkref03_Cut.l0 kj56 a0 (x3_1 ++ [(⟨2, 0, strOfNums x9_3⟩ : S105)]) (wrap64 (x4_3 + 2))) else (none))) else (if x9_3.length < 140737488355328 then (shelfmarkref03_Cut.l2 kj56 a0 x3_1 (wrap64 (x4_3 + 2)) (x9_3 ++ [0])) else (none))) else (none)) else (none)) = some (r1, r2, r3) := by first | (rw [hji67] at H; exact H) | (simp only [hji67] at H ⊢; exact H)
 have hji67w : (IntKind.i64.wrap ((wrap64 (x4_3 + 2)) - 1)) = ji67 := (i64_w _).trans hji67
 by_cases c68 : 0 ≤ (ji67)
 rotate_left
 ·rw [if_neg c68] at H
  exact absurd H (by simp)
 rw [if_pos c68] at H
 have c68b0 : decide (0 ≤ (ji67)) = true := decide_eq_true c68
 clear c68
 by_cases c69 : (ji67) < (a0.size : Int)
 rotate_left
 ·rw [if_neg c69] at H
  exact absurd H (by simp)
 rw [if_pos c69] at H
 have c69b0 : decide ((ji67) < (a0.size : Int)) = true := decide_eq_true c69
 clear c69
 by_cases c71 : (bt a0 (ji67)) = 0
 rotate_left
 ·rw [if_neg c71] at H
  have c71b0 : ((bt a0 (ji67)) == 0) = false := beq_eq_false_iff_ne.mpr c71
  have c71b1 : ((bt a0 (ji67)) != 0) = true := bne_iff_ne.mpr c71
  by_cases c82 : x9_3.length < 140737488355328
  rotate_left
  ·rw [if_neg c82] at H
   exact absurd H (by simp)
  rw [if_pos c82] at H
  have LMc82 := Aside0.mk c82
  clear c82
  obtain ⟨y279, hy279⟩ : ∃ y_ : List Int, y_ = (x9_3 ++ [0]) := ⟨_, rfl⟩
  replace H : (shelfmarkref03_Cut.l2 kj56 a0 x3_1 (wrap64 (x4_3 + 2)) y279) = some (r1, r2, r3) := by first | (rw [hy279]; with_reducible exact H) | (have H2_ := (Option.bind_some _ _).symm.trans H; rw [hy279]; with_reducible exact H2_) | (have H2_ := (Option.bind_some _ _).symm.trans H; with_reducible exact H2_) | with_reducible exact H | (rw [hy279]; exact H) | exact H
  have Ny279 := Aside0.mk hy279
  clear hy279
  have H' := Aside0.mk H
  clear H
  have p70 : 0 ≤ ((ji67) : Int) := of_decide_eq_true (by first | (with_reducible assumption) | assumption)
  have q70 : (ji67) < (a0.size : Int) := of_decide_eq_true (by first | (with_reducible assumption) | assumption)
  have hx70 := bt_at a0 (ji67)
  replace p70 := eq_true p70
  replace q70 := eq_true q70
  go_wp2_with (first | ((with_reducible refine gate_builtin (b := .append) (xs := #[.tmp 111, .tmp 112]) rfl ?_); (try (refine gate_guard (by rfl) ?_; dsimp only)); at_builtin; refine Kd.R_append (Kd.int .u8) (w0 := w) w.heap.size rfl (.tmp 111) (.tmp 112) 110 5 (.int .u8 0) 1 rfl Try.underlying110 info5 rfl (by decide) (by omega) u9 x9_3 0 [.int .u8 0] (fun _ => True) (fun _ => False) rfl rfl ?aP (fun _ hk => hk.elim) ?aF ?aO ?aB ?aS ?aL ?_; (case aP => exact rfl); (case aB => exact (hL HB.out)); (case aF => exact (fun _ _ => trivial)); (case aO => exact (rL HO_9.out)); (case aS => exact (below_size (hL HB.out))); (case aL => have := LMc82.out; omega); intro v280 w83 ho hb hg hat; rw [← Ny279.out] at ho; have n0_ := Aside0.mk (Kd.R_over' (rL HO_3.out) (Kd.R_typed (rL HO_9.out)) (by decide) hg); have n1_ := Aside0.mk (blk_grown (g := gb262) (o := .cells #[.slice none 0 0, .string x263001_3, .int .i64 x263002_3] 95 (0, 0)) (bL BK262.out) hg (Kd.R_ne HO_9.out BK262.out (by decide))); have n2_ := Aside0.mk (blk_grown (g := gb263) (o := .cells #[.int .i64 0, .int .i64 0, .string (⟨#[]⟩ : ByteArray)] 105 (0, 0)) (bL BK263.out) hg (Kd.R_ne HO_9.out BK263.out (by decide))); have n3_ := Aside0.mk (hb); have n4_ := Aside0.mk (ho); clear HO_3; clear BK262; clear BK263; clear HB; clear HO_9; have HO_3 := n0_; have BK262 := n1_; have BK263 := n2_; have HB := n3_; have HO281 := n4_; clear n0_ n1_ n2_ n3_ n4_; clear ho hb hg hat))
  go_roundg kj56
  case measure => have := HK1.out; have := HJ2.out; have := HK3.out; have := HJ43.out; have := HJ56.out; omega
  case rel => exact ⟨(wrap64 (x4_3 + 2)), (y279), (x263001_3), (x263002_3), (by first | rfl | (simp; done) | (simp [*]; done) | (simp [ne_nil_bytes]; done) | (simp [eq_nil_bytes]; done)), H', ⟨by have := HK1.out; have := HJ2.out; have := HK3.out; have := HJ43.out; have := HJ56.out; omega⟩, ⟨by exact rL HO_3.out⟩, ⟨by exact rL HO281.out⟩, ⟨by exact bL BK262.out⟩, ⟨by exact bL BK263.out⟩, ⟨hL HB.out⟩⟩
 rw [if_pos c71] at H
 have c71b0 : ((bt a0 (ji67)) == 0) = true := beq_iff_eq.mpr c71
 have c71b1 : ((bt a0 (ji67)) != 0) = false := bne_eq_false_iff_eq.mpr c71
 clear c71
 by_cases c72 : (x9_3.length : Int) > 32
 ·rw [if_pos c72] at H
  have c72b0 : decide (32 < (x9_3.length : Int)) = true := decide_eq_true c72
  have c72b1 : decide (32 < x9_3.length) = true := decide_eq_true (by omega)
  clear c72
  simp only [Option.some.injEq, Prod.mk.injEq] at H
  obtain ⟨rfl, rfl, rfl⟩ := H
  have p70 : 0 ≤ ((ji67) : Int) := of_decide_eq_true (by first | (with_reducible assumption) | assumption)
  have q70 : (ji67) < (a0.size : Int) := of_decide_eq_true (by first | (with_reducible assumption) | assumption)
  have hx70 := bt_at a0 (ji67)
  replace p70 := eq_true p70
  replace q70 := eq_true q70
  obtain ⟨Ao73, co73, eo73⟩ := Kd.R_slice HO_9.out
  subst eo73
  have hnb74 := NB262_263.out
  have hnc74 := NB263_262.out
  have hcz75_0 : wc.cell? ⟨gb262, 0, none⟩ = some (.slice none 0 0) := (blk_cell BK262.out 0).trans rfl
  have hcz75_1 : wc.cell? ⟨gb262, 1, none⟩ = some (.string x263001_3) := (blk_cell BK262.out 1).trans rfl
  have hcz75_2 : wc.cell? ⟨gb262, 2, none⟩ = some (.int .i64 x263002_3) := (blk_cell BK262.out 2).trans rfl
  have hfz75_0 := blk_frozen BK262.out 0
  have hfz75_1 := blk_frozen BK262.out 1
  have hfz75_2 := blk_frozen BK262.out 2
  go_wp2
  refine bodyPost_ret (results_cell_row rfl _ _ gb262 95 #[.slice none 0 0, .string (⟨#[]⟩ : ByteArray), .int .i64 4] (0, 0) _ rfl (by (with_reducible repeat (first | refine blk_drewN ?_ _ | refine blk_drew ?_ | refine blk_alloc ?_ _)); refine blk_put (cs := #[.slice none 0 0, .string (⟨#[]⟩ : ByteArray), .int .i64 x263002_3]) ?_ 2 _ rfl; (with_reducible repeat (first | refine blk_drewN ?_ _ | refine blk_drew ?_ | refine blk_alloc ?_ _)); refine blk_put (cs := #[.slice none 0 0, .string x263001_3, .int .i64 x263002_3]) ?_ 1 _ rfl; (with_reducible repeat (first | refine blk_drewN ?_ _ | refine blk_drew ?_ | refine blk_alloc ?_ _)); refine blk_put (cs := #[.slice none 0 0, .string x263001_3, .int .i64 x263002_3]) ?_ 0 _ rfl; exact bL BK262.out) Try.underlying95 rfl (by kernel_rfl)) rfl ?_
  exact ⟨_, by first | rfl | (simp [errW_none, errW_some] <;> rfl) | (simp only [← hji67]; first | rfl | (simp [errW_none, errW_some] <;> rfl)) | (simp [*, errW_none, errW_some] <;> rfl), by first | exact Kd.R_nil _ _ _ _ _ | exact Kd.N_nil _ _ _ _ _ | exact Kd.V_nil _ _ _ _ _ | exact Kd.Q_nil _ _ _ _ _ | exact Kd.S_nil _ _ _ _ _, hL HB.out⟩
 rw [if_neg c72] at H
 have c72b0 : decide (32 < (x9_3.length : Int)) = false := decide_eq_false c72
 have c72b1 : decide (32 < x9_3.length) = false := decide_eq_false (by omega)
 clear c72
 by_cases c76 : x3_1.length < 4398046511104
 rotate_left
 ·rw [if_neg c76] at H
  exact absurd H (by simp)
 rw [if_pos c76] at H
 have LMc76 := Aside0.mk c76
 clear c76
 obtain ⟨y276, hy276⟩ : ∃ y_ : List (S105), y_ = (x3_1 ++ [(⟨2, 0, strOfNums x9_3⟩ : S105)]) := ⟨_, rfl⟩
 replace H : (shelfmarkref03_Cut.l0 kj56 a0 y276 (wrap64 (x4_3 + 2))) = some (r1, r2, r3) := by first | (rw [hy276]; with_reducible exact H) | (have H2_ := (Option.bind_some _ _).symm.trans H; rw [hy276]; with_reducible exact H2_) | (have H2_ := (Option.bind_some _ _).symm.trans H; with_reducible exact H2_) | with_reducible exact H | (rw [hy276]; exact H) | exact H
 have Ny276 := Aside0.mk hy276
 clear hy276
 have H' := Aside0.mk H
 clear H
 have p70 : 0 ≤ ((ji67) : Int) := of_decide_eq_true (by first | (with_reducible assumption) | assumption)
 have q70 : (ji67) < (a0.size : Int) := of_decide_eq_true (by first | (with_reducible assumption) | assumption)
 have hx70 := bt_at a0 (ji67)
 replace p70 := eq_true p70
 replace q70 := eq_true q70
 obtain ⟨Ao77, co77, eo77⟩ := Kd.R_slice HO_9.out
 subst eo77
 have hcv78 := own_string (P := Try.prog) Try.underlying110 Try.underlying5 Try.underlying9 (Kd.own_of_R HO_9.out)
 have hnb79 := NB263_262.out
 have hnc79 := NB262_263.out
 have hcz80_0 : wc.cell? ⟨gb263, 0, none⟩ = some (.int .i64 0) := (blk_cell BK263.out 0).trans rfl
 have hcz80_1 : wc.cell? ⟨gb263, 1, none⟩ = some (.int .i64 0) := (blk_cell BK263.out 1).trans rfl
 have hcz80_2 : wc.cell? ⟨gb263, 2, none⟩ = some (.string (⟨#[]⟩ : ByteArray)) := (blk_cell BK263.out 2).trans rfl
 have hfz80_0 := blk_frozen BK263.out 0
 have hfz80_1 := blk_frozen BK263.out 1
 have hfz80_2 := blk_frozen BK263.out 2
 go_wp2_with (first | ((with_reducible refine gate_builtin (b := .append) (xs := #[.tmp 121, .tmp 123]) rfl ?_); (try (refine gate_guard (by rfl) ?_; dsimp only)); at_builtin; refine Kd.R_append k105 (w0 := w) w.heap.size rfl (.tmp 121) (.tmp 123) 73 105 (.agg #[(.int .i64 0), (.int .i64 0), (.string ⟨#[]⟩)]) 32 rfl Try.underlying73 info105 rfl (by decide) (by omega) (.slice Ao38 x3_1.length co38) x3_1 (⟨2, 0, strOfNums x9_3⟩ : S105) [.int .i64 2, .int .i64 0, .string (strOfNums x9_3)] (fun k_ => k_ ≠ gb263) (fun _ => False) rfl (by first | (go_simp; done) | (go_simp; rfl)) ?aP (fun _ hk => hk.elim) ?aF ?aO ?aB ?aS ?aL ?_; (case aP => exact k105_mkM _ _ _ (⟨2, 0, strOfNums x9_3⟩ : S105)); (case aB => exact (hL HB.out)); (case aF => exact (fun k_ hk => Kd.freshB (g := gb263) (o := .cells #[.int .i64 2, .int .i64 0, .string (strOfNums x9_3)] 105 (0, 0)) (by (with_reducible repeat (first | refine blk_drewN ?_ _ | refine blk_drew ?_ | refine blk_alloc ?_ _)); refine blk_put (cs := #[.int .i64 2, .int .i64 0, .string (⟨#[]⟩ : ByteArray)]) ?_ 2 _ rfl; (with_reducible repeat (first | refine blk_drewN ?_ _ | refine blk_drew ?_ | refine blk_alloc ?_ _)); refine blk_put (cs := #[.int .i64 2, .int .i64 0, .string (⟨#[]⟩ : ByteArray)]) ?_ 1 _ rfl; (with_reducible repeat (first | refine blk_drewN ?_ _ | refine blk_drew ?_ | refine blk_alloc ?_ _)); refine blk_put (cs := #[.int .i64 0, .int .i64 0, .string (⟨#[]⟩ : ByteArray)]) ?_ 0 _ rfl; exact bL BK263.out) k_ hk)); (case aO => exact (by (with_reducible repeat (first | apply Kd.R_alloc | apply Kd.R_drewN | apply Kd.R_drew)); exact Kd.R_mono (Kd.R_far (p := ⟨gb263, 2, none⟩) (Kd.R_far (p := ⟨gb263, 1, none⟩) (Kd.R_far (p := ⟨gb263, 0, none⟩) (Kd.R_mono HO_3.out (fun k_ hk => (⟨hk, hk⟩ : _ ∧ k_ ≠ gb263))) (fun _ hk => hk.2) (.int .i64 2)) (fun _ hk => hk.2) (.int .i64 0)) (fun _ hk => hk.2) (.string (strOfNums x9_3))) (fun _ hk => hk.1))); (case aS => exact (below_size (hL HB.out))); (case aL => have := LMc76.out; omega); intro v277 w81 ho hb hg hat; rw [← Ny276.out] at ho; have n0_ := Aside0.mk (Kd.R_over' (by (with_reducible repeat (first | apply Kd.R_alloc | apply Kd.R_drewN | apply Kd.R_drew)); exact (Kd.R_mono (Kd.R_far (p := ⟨gb263, 2, none⟩) (Kd.R_far (p := ⟨gb263, 1, none⟩) (Kd.R_far (p := ⟨gb263, 0, none⟩) (Kd.R_types HO_9.out BK263.out (by decide)) (fun _ hk => hk.2) (.int .i64 2)) (fun _ hk => hk.2) (.int .i64 0)) (fun _ hk => hk.2) (.string (strOfNums x9_3))) (fun _ h_ => h_.1))) (Kd.R_typed (by (with_reducible repeat (first | apply Kd.R_alloc | apply Kd.R_drewN | apply Kd.R_drew)); exact (Kd.R_mono (Kd.R_far (p := ⟨gb263, 2, none⟩) (Kd.R_far (p := ⟨gb263, 1, none⟩) (Kd.R_far (p := ⟨gb263, 0, none⟩) (Kd.R_mono HO_3.out (fun k_ hk => (⟨hk, hk⟩ : _ ∧ k_ ≠ gb263))) (fun _ hk => hk.2) (.int .i64 2)) (fun _ hk => hk.2) (.int .i64 0)) (fun _ hk => hk.2) (.string (strOfNums x9_3))) (fun _ h_ => h_.1)))) (by decide) hg); have n1_ := Aside0.mk (blk_grown (g := gb262) (o := .cells #[.slice none 0 0, .string x263001_3, .int .i64 x263002_3] 95 (0, 0)) (by (with_reducible repeat (first | refine blk_drewN ?_ _ | refine blk_drew ?_ | refine blk_alloc ?_ _)); refine blk_far ?_ NB262_263.out _; (with_reducible repeat (first | refine blk_drewN ?_ _ | refine blk_drew ?_ | refine blk_alloc ?_ _)); refine blk_far ?_ NB262_263.out _; (with_reducible repeat (first | refine blk_drewN ?_ _ | refine blk_drew ?_ | refine blk_alloc ?_ _)); refine blk_far ?_ NB262_263.out _; exact bL BK262.out) hg (Kd.R_ne HO_3.out BK262.out (by decide))); have n2_ := Aside0.mk (blk_grown (g := gb263) (o := .cells #[.int .i64 2, .int .i64 0, .string (strOfNums x9_3)] 105 (0, 0)) (by (with_reducible repeat (first | refine blk_drewN ?_ _ | refine blk_drew ?_ | refine blk_alloc ?_ _)); refine blk_put (cs := #[.int .i64 2, .int .i64 0, .string (⟨#[]⟩ : ByteArray)]) ?_ 2 _ rfl; (with_reducible repeat (first | refine blk_drewN ?_ _ | refine blk_drew ?_ | refine blk_alloc ?_ _)); refine blk_put (cs := #[.int .i64 2, .int .i64 0, .string (⟨#[]⟩ : ByteArray)]) ?_ 1 _ rfl; (with_reducible repeat (first | refine blk_drewN ?_ _ | refine blk_drew ?_ | refine blk_alloc ?_ _)); refine blk_put (cs := #[.int .i64 0, .int .i64 0, .string (⟨#[]⟩ : ByteArray)]) ?_ 0 _ rfl; exact bL BK263.out) hg (Kd.R_away HO_3.out (fun _ hk => hk))); have n3_ := Aside0.mk (hb); have n4_ := Aside0.mk (ho); clear HO_9; clear BK262; clear BK263; clear HB; clear HO_3; have HO_9 := n0_; have BK262 := n1_; have BK263 := n2_; have HB := n3_; have HO278 := n4_; clear n0_ n1_ n2_ n3_ n4_; clear ho hb hg hat))
 go_roundg kj56
 case measure => have := HK1.out; have := HJ2.out; have := HK3.out; have := HJ43.out; have := HJ56.out; omega
 case rel => exact ⟨(y276), (wrap64 (x4_3 + 2)), (x263001_3), (x263002_3), (by first | rfl | (simp; done) | (simp [*]; done) | (simp [ne_nil_bytes]; done) | (simp [eq_nil_bytes]; done)), H', ⟨by have := HK1.out; have := HJ2.out; have := HK3.out; have := HJ43.out; have := HJ56.out; omega⟩, ⟨by (with_reducible repeat (first | apply Kd.R_alloc | apply Kd.R_drewN | apply Kd.R_drew)); exact Kd.R_mono HO278.out (fun _ hk => trivial)⟩, ⟨by exact bL BK262.out⟩, ⟨hL HB.out⟩⟩

end Go.Proofs.Ytdaikljbljcagaa.PAll
