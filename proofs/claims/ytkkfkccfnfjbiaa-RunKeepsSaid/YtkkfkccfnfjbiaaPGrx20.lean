-- Written by a program of this session for this claim (mp.py, over the kit's print); Lean checks it.
import Derived.Test.YtkkfkccfnfjbiaaPGrx0
namespace Go.Proofs.Ytkkfkccfnfjbiaa.PGr
open Go.RowKit Go.Proofs.YtkkfkccfnfjbiaaW.PrintWords Go.Proofs.YtkkfkccfnfjbiaaW.PrintLast Go.Proofs.YtkkfkccfnfjbiaaW.PrintMore Go.Proofs.Ytkkfkccfnfjbiaa.Fv Go.Proofs.Ytkkfkccfnfjbiaa.Hl
attribute [local go_sem] max2_int min2_int max_two min_two max_three min_three max_four min_four str_gtr str_leq str_geq cell_set2   -- for this text's walks alone
set_option linter.unusedVariables false
set_option linter.unusedSimpArgs false

/-! ### shelfmarkref09_put: function 30 -/
mutual
def shelfmarkref09_put.j0 : Nat → List (S37) → ByteArray → ByteArray → Bool → Option ((List (S37)))
 | 0, _, _, _, _ => none
 | k + 1, x0, x298000, x298001, x298002 => shelfmarkref09_put.l0 k x0 ([] : List (S37)) 0 x298000 x298001 x298002
def shelfmarkref09_put.l0 : Nat → List (S37) → List (S37) → Int → ByteArray → ByteArray → Bool → Option ((List (S37)))
 | 0, _, _, _, _, _, _ => none
 | k + 1, x0, x5, x6, x298000, x298001, x298002 => if x6 < (x0.length : Int) then (if 0 ≤ x6 then (if (Op.bytesLess (((rd_T37 x0 x6).f0).toList) x298000.toList) = true then (if x5.length < 3518437208883 then (shelfmarkref09_put.l0 k x0 (x5 ++ [(⟨(rd_T37 x0 x6).f0, (rd_T37 x0 x6).f1, (rd_T37 x0 x6).f2⟩ : S37)]) (wrap64 (x6 + 1)) x298000 x298001 x298002) else (none)) else (if x5.length < 3518437208883 then ((some (x5 ++ [(⟨x298000, x298001, x298002⟩ : S37)] : List (S37))).bind fun y303 => (if ((rd_T37 x0 x6).f0).toList = x298000.toList then (if 0 ≤ (wrap64 (x6 + 1)) then (if (wrap64 (x6 + 1)) ≤ (x0.length : Int) then ((some (x0.drop ((wrap64 (x6 + 1)) : Int).toNat : List (S37))).bind fun y307 => (if y303.length + y307.length < 3518437208883 then (some (y303 ++ y307)) else (none))) else (none)) else (none)) else (if x6 ≤ (x0.length : Int) then ((some (x0.drop (x6 : Int).toNat : List (S37))).bind fun y314 => (if y303.length + y314.length < 3518437208883 then (some (y303 ++ y314)) else (none))) else (none)))) else (none))) else (none)) else (if x5.length < 3518437208883 then ((some (x5 ++ [(⟨x298000, x298001, x298002⟩ : S37)] : List (S37))).bind fun y321 => (if 0 ≤ x6 then (if x6 ≤ (x0.length : Int) then ((some (x0.drop (x6 : Int).toNat : List (S37))).bind fun y324 => (if y321.length + y324.length < 3518437208883 then (some (y321 ++ y324)) else (none))) else (none)) else (none))) else (none))
end
def shelfmarkref09_put.f (k : Nat) (l0 : List (S37)) (a1_0 : ByteArray) (a1_1 : ByteArray) (a1_2 : Bool) : Option ((List (S37))) := if a1_2 = true then (shelfmarkref09_put.j0 k l0 a1_0 (⟨#[]⟩ : ByteArray) a1_2) else (shelfmarkref09_put.j0 k l0 a1_0 a1_1 a1_2)
theorem shelfmarkref09_put.mono_l : ∀ k, (∀ y0 y1 y2 y3, LeO (shelfmarkref09_put.j0 k y0 y1 y2 y3) (shelfmarkref09_put.j0 (k + 1) y0 y1 y2 y3)) ∧ (∀ y0 y1 y2 y3 y4 y5, LeO (shelfmarkref09_put.l0 k y0 y1 y2 y3 y4 y5) (shelfmarkref09_put.l0 (k + 1) y0 y1 y2 y3 y4 y5))
 | 0 => ⟨fun _ _ _ _ r h => by simp [shelfmarkref09_put.j0] at h, fun _ _ _ _ _ _ r h => by simp [shelfmarkref09_put.l0] at h⟩
 | k + 1 => by
  obtain ⟨ih0, ih1⟩ := shelfmarkref09_put.mono_l k
  refine ⟨?_, ?_⟩
  ·intro y0 y1 y2 y3
   unfold shelfmarkref09_put.j0
   repeat' first
   | (with_reducible exact ih0 _ _ _ _)
   | (with_reducible exact ih1 _ _ _ _ _ _)
   | (with_reducible exact LeO.refl _)
   | (with_reducible exact LeO.none _)
   | (with_reducible refine LeO.ite ?_ ?_)
   | (with_reducible refine LeO.bind ?_ (fun _ => ?_))
   | exact ih0 _ _ _ _
   | exact ih1 _ _ _ _ _ _
   | exact LeO.none _
   | refine LeO.ite ?_ ?_
   | refine LeO.bind ?_ (fun _ => ?_)
  ·intro y0 y1 y2 y3 y4 y5
   unfold shelfmarkref09_put.l0
   repeat' first
   | (with_reducible exact ih0 _ _ _ _)
   | (with_reducible exact ih1 _ _ _ _ _ _)
   | (with_reducible exact LeO.refl _)
   | (with_reducible exact LeO.none _)
   | (with_reducible refine LeO.ite ?_ ?_)
   | (with_reducible refine LeO.bind ?_ (fun _ => ?_))
   | exact ih0 _ _ _ _
   | exact ih1 _ _ _ _ _ _
   | exact LeO.none _
   | refine LeO.ite ?_ ?_
   | refine LeO.bind ?_ (fun _ => ?_)
theorem shelfmarkref09_put.mono : ∀ a0 a1 a2 a3 k, LeO (shelfmarkref09_put.f k a0 a1 a2 a3) (shelfmarkref09_put.f (k + 1) a0 a1 a2 a3) := by
 intro a0 a1 a2 a3 k
 obtain ⟨ih0, ih1⟩ := shelfmarkref09_put.mono_l k
 unfold shelfmarkref09_put.f
 repeat' first
   | (with_reducible exact ih0 _ _ _ _)
   | (with_reducible exact ih1 _ _ _ _ _ _)
   | (with_reducible exact LeO.refl _)
   | (with_reducible exact LeO.none _)
   | (with_reducible refine LeO.ite ?_ ?_)
   | (with_reducible refine LeO.bind ?_ (fun _ => ?_))
   | exact ih0 _ _ _ _
   | exact ih1 _ _ _ _ _ _
   | exact LeO.none _
   | refine LeO.ite ?_ ?_
   | refine LeO.bind ?_ (fun _ => ?_)
set_option maxHeartbeats 8000000 in
set_option maxRecDepth 100000 in
theorem shelfmarkref09_put.calls (k : Nat) (A0 : Option Addr) (c0 : Nat) (l0 : List (S37)) (a1_0 : ByteArray) (a1_1 : ByteArray) (a1_2 : Bool) (r : List (S37)) (w : World) (hr0 : Kd.C k37 w A0 l0.length l0) (hc0 : l0.length ≤ c0) (h : shelfmarkref09_put.f k l0 a1_0 a1_1 a1_2 = some r) :
  Calls Try.prog 30 #[.slice A0 l0.length c0, .agg #[.string a1_0, .string a1_1, .bool a1_2]] w fun e w' => ∃ v0_ : Value, e = .returned (v0_) ∧ Kd.R k37 37 w' w.heap.size (fun _ => True) v0_ r ∧ Below w.heap.size w w' := by
 have hu37 := Try.underlying37
 have HR0 := Aside0.mk hr0
 have HC0 := Aside0.mk hc0
 clear hr0 hc0
 have HB := Aside0.mk (Below.refl w.heap.size w)
 have H : (if a1_2 = true then (shelfmarkref09_put.j0 k l0 a1_0 (⟨#[]⟩ : ByteArray) a1_2) else (shelfmarkref09_put.j0 k l0 a1_0 a1_1 a1_2)) = some r := h
 clear h
 have HC3 := Aside0.mk H
 clear H
 go_enter Try.func30, Try.ntmps30
 go_upto_if 8 with (first | ((with_reducible refine gate_dst (N := 3) rfl ?_); refine box_event ?hg (N := 3) ?hd (cs := #[.string a1_0, .string a1_1, .bool a1_2]) (t := 37) ?hr ?_; (case hd => rfl); (case hg => rfl); (case hr => first | (go_simp; done) | (go_simp; rfl)); intro gb297 hg w4 hbox hb; have n0_ := Aside0.mk (below_step (hL HB.out) hb); have n1_ := Aside0.mk (hbox); have n2_ := Above.mk ((by rw [hg]; exact (below_size (hL HB.out)) : w.heap.size ≤ gb297)); have n3_ := Above.mk ((by rw [hg]; exact (below_size (hL HB.out)) : w.heap.size ≤ gb297)); clear HB; have HB := n0_; have BK297 := n1_; have GW297 := n2_; have GE297 := n3_; clear n0_ n1_ n2_ n3_; clear hb hbox hg; have hcz5_0 : w4.cell? ⟨gb297, 0, none⟩ = some (.string a1_0) := (blk_cell BK297.out 0).trans rfl; have hcz5_1 : w4.cell? ⟨gb297, 1, none⟩ = some (.string a1_1) := (blk_cell BK297.out 1).trans rfl; have hcz5_2 : w4.cell? ⟨gb297, 2, none⟩ = some (.bool a1_2) := (blk_cell BK297.out 2).trans rfl; have hfz5_0 := blk_frozen BK297.out 0; have hfz5_1 := blk_frozen BK297.out 1; have hfz5_2 := blk_frozen BK297.out 2))
 repeat (go_quiet (first | ((with_reducible refine gate_dst (N := 3) rfl ?_); refine box_event ?hg (N := 3) ?hd (cs := #[.string a1_0, .string a1_1, .bool a1_2]) (t := 37) ?hr ?_; (case hd => rfl); (case hg => rfl); (case hr => first | (go_simp; done) | (go_simp; rfl)); intro gb297 hg w4 hbox hb; have n0_ := Aside0.mk (below_step (hL HB.out) hb); have n1_ := Aside0.mk (hbox); have n2_ := Above.mk ((by rw [hg]; exact (below_size (hL HB.out)) : w.heap.size ≤ gb297)); have n3_ := Above.mk ((by rw [hg]; exact (below_size (hL HB.out)) : w.heap.size ≤ gb297)); clear HB; have HB := n0_; have BK297 := n1_; have GW297 := n2_; have GE297 := n3_; clear n0_ n1_ n2_ n3_; clear hb hbox hg; have hcz5_0 : w4.cell? ⟨gb297, 0, none⟩ = some (.string a1_0) := (blk_cell BK297.out 0).trans rfl; have hcz5_1 : w4.cell? ⟨gb297, 1, none⟩ = some (.string a1_1) := (blk_cell BK297.out 1).trans rfl; have hcz5_2 : w4.cell? ⟨gb297, 2, none⟩ = some (.bool a1_2) := (blk_cell BK297.out 2).trans rfl; have hfz5_0 := blk_frozen BK297.out 0; have hfz5_1 := blk_frozen BK297.out 1; have hfz5_2 := blk_frozen BK297.out 2)); go_upto_if 8 with (first | ((with_reducible refine gate_dst (N := 3) rfl ?_); refine box_event ?hg (N := 3) ?hd (cs := #[.string a1_0, .string a1_1, .bool a1_2]) (t := 37) ?hr ?_; (case hd => rfl); (case hg => rfl); (case hr => first | (go_simp; done) | (go_simp; rfl)); intro gb297 hg w4 hbox hb; have n0_ := Aside0.mk (below_step (hL HB.out) hb); have n1_ := Aside0.mk (hbox); have n2_ := Above.mk ((by rw [hg]; exact (below_size (hL HB.out)) : w.heap.size ≤ gb297)); have n3_ := Above.mk ((by rw [hg]; exact (below_size (hL HB.out)) : w.heap.size ≤ gb297)); clear HB; have HB := n0_; have BK297 := n1_; have GW297 := n2_; have GE297 := n3_; clear n0_ n1_ n2_ n3_; clear hb hbox hg; have hcz5_0 : w4.cell? ⟨gb297, 0, none⟩ = some (.string a1_0) := (blk_cell BK297.out 0).trans rfl; have hcz5_1 : w4.cell? ⟨gb297, 1, none⟩ = some (.string a1_1) := (blk_cell BK297.out 1).trans rfl; have hcz5_2 : w4.cell? ⟨gb297, 2, none⟩ = some (.bool a1_2) := (blk_cell BK297.out 2).trans rfl; have hfz5_0 := blk_frozen BK297.out 0; have hfz5_1 := blk_frozen BK297.out 1; have hfz5_2 := blk_frozen BK297.out 2)))
 (try simp only [Act.put, sT, sZ, sS])
 go_cut [] (fun wc => ∃ (kq : Nat) (x298001_2 : ByteArray), Aside0 (shelfmarkref09_put.j0 kq l0 a1_0 x298001_2 a1_2 = some r) ∧ Aside0 (kq ≤ k) ∧ Aside0 (wc.heap[gb297]? = some (.cells #[.string a1_0, .string x298001_2, .bool a1_2] 37 (0, 0))) ∧ Aside0 (Below w.heap.size w wc))
 case first =>
  have H := HC3.out
  clear HC3
  by_cases c6 : a1_2 = true
  rotate_left
  ·replace c6 := Bool.eq_false_iff.mpr c6
   subst c6
   have H1 : (shelfmarkref09_put.j0 k l0 a1_0 a1_1 false) = some r := by rw [if_neg (show ¬ (false = true) by decide)] at H; exact H
   clear H
   have H := H1
   clear H1
   have H' := Aside0.mk H
   clear H
   go_wp2
   repeat (go_quiet (fail); try go_wp2)
   go_meet
   case rel => exact ⟨_, (a1_1), H', ⟨by first | omega | exact Nat.le_refl _⟩, ⟨by exact bL BK297.out⟩, ⟨hL HB.out⟩⟩
  subst c6
  have H1 : (shelfmarkref09_put.j0 k l0 a1_0 (⟨#[]⟩ : ByteArray) true) = some r := by rw [if_pos rfl] at H; exact H
  clear H
  have H := H1
  clear H1
  have H' := Aside0.mk H
  clear H
  have hcz7_0 : w4.cell? ⟨gb297, 0, none⟩ = some (.string a1_0) := (blk_cell BK297.out 0).trans rfl
  have hcz7_1 : w4.cell? ⟨gb297, 1, none⟩ = some (.string a1_1) := (blk_cell BK297.out 1).trans rfl
  have hcz7_2 : w4.cell? ⟨gb297, 2, none⟩ = some (.bool true) := (blk_cell BK297.out 2).trans rfl
  have hfz7_0 := blk_frozen BK297.out 0
  have hfz7_1 := blk_frozen BK297.out 1
  have hfz7_2 := blk_frozen BK297.out 2
  go_wp2
  repeat (go_quiet (fail); try go_wp2)
  go_meet
  case rel => exact ⟨_, ((⟨#[]⟩ : ByteArray)), H', ⟨by first | omega | exact Nat.le_refl _⟩, ⟨by (with_reducible repeat (first | refine blk_drewN ?_ _ | refine blk_drew ?_ | refine blk_alloc ?_ _)); refine blk_put (cs := #[.string a1_0, .string a1_1, .bool true]) ?_ 1 _ rfl; exact bL BK297.out⟩, ⟨hL HB.out⟩⟩
 clear HC3
 try clear p2
 try clear c3
 try clear c6
 try clear hcz5_0
 try clear hcz5_1
 try clear hcz5_2
 try clear hcz7_0
 try clear hcz7_1
 try clear hcz7_2
 try clear hfz5_0
 try clear hfz5_1
 try clear hfz5_2
 try clear hfz7_0
 try clear hfz7_1
 try clear hfz7_2
 obtain ⟨kq, x298001_2, HA, HJ2, BK297, HB⟩ := hcut
 rcases kq with _ | kj2
 ·exact absurd HA.out (by simp [shelfmarkref09_put.j0])
 have H := HA.out
 clear HA
 simp only [shelfmarkref09_put.j0] at H
 have H' := Aside0.mk H
 clear H
 go_wp2
 repeat (go_quiet (fail); try go_wp2)
 go_loopg [5, 6] kj2 (fun kq v5 v6 w' => ∃ (x5_2 : List (S37)) (x6_2 : Int), v6 = .int .i64 x6_2 ∧ Aside0 (shelfmarkref09_put.l0 kq l0 x5_2 x6_2 a1_0 x298001_2 a1_2 = some r) ∧ Aside0 (kq ≤ kj2) ∧ Aside0 (Kd.R k37 37 w' w.heap.size (fun k_ => k_ ≠ gb297) v5 x5_2) ∧ Aside0 (w'.heap[gb297]? = some (.cells #[.string a1_0, .string x298001_2, .bool a1_2] 37 (0, 0))) ∧ Aside0 (Below w.heap.size w w'))
 case atStart => exact ⟨(([] : List (S37))), (0), (by first | rfl | (simp; done) | (simp [*]; done) | (simp [ne_nil_bytes]; done) | (simp [eq_nil_bytes]; done)), H', ⟨Nat.le_refl _⟩, ⟨by first | exact Kd.R_nil _ _ _ _ _ | exact Kd.N_nil _ _ _ _ _ | exact Kd.V_nil _ _ _ _ _ | exact Kd.Q_nil _ _ _ _ _ | exact Kd.S_nil _ _ _ _ _⟩, ⟨by exact bL BK297.out⟩, ⟨hL HB.out⟩⟩
 clear H'
 try clear p2
 try clear c3
 try clear c6
 try clear hcz5_0
 try clear hcz5_1
 try clear hcz5_2
 try clear hcz7_0
 try clear hcz7_1
 try clear hcz7_2
 try clear hfz5_0
 try clear hfz5_1
 try clear hfz5_2
 try clear hfz7_0
 try clear hfz7_1
 try clear hfz7_2
 try clear p2
 obtain ⟨x5_2, x6_2, rfl, HA, HK2, HO_5, BK297, HB⟩ := hrel
 rcases gk with _ | k2
 ·exact absurd HA.out (by simp [shelfmarkref09_put.l0])
 have H := HA.out
 clear HA
 simp only [shelfmarkref09_put.l0] at H
 by_cases c8 : x6_2 < (l0.length : Int)
 rotate_left
 ·rw [if_neg c8] at H
  have c8b0 : decide (x6_2 < (l0.length : Int)) = false := decide_eq_false c8
  clear c8
  by_cases c33 : x5_2.length < 3518437208883
  rotate_left
  ·rw [if_neg c33] at H
   exact absurd H (by simp)
  rw [if_pos c33] at H
  have LMc33 := Aside0.mk c33
  clear c33
  obtain ⟨y321, hy321⟩ : ∃ y_ : List (S37), y_ = (x5_2 ++ [(⟨a1_0, x298001_2, a1_2⟩ : S37)]) := ⟨_, rfl⟩
  replace H : (if 0 ≤ x6_2 then (if x6_2 ≤ (l0.length : Int) then ((some (l0.drop (x6_2 : Int).toNat : List (S37))).bind fun y324 => (if y321.length + y324.length < 3518437208883 then (some (y321 ++ y324)) else (none))) else (none)) else (none)) = some r := by first | (rw [hy321]; with_reducible exact H) | (have H2_ := (Option.bind_some _ _).symm.trans H; rw [hy321]; with_reducible exact H2_) | (have H2_ := (Option.bind_some _ _).symm.trans H; with_reducible exact H2_) | with_reducible exact H | (rw [hy321]; exact H) | exact H
  have Ny321 := Aside0.mk hy321
  clear hy321
  by_cases c34 : 0 ≤ x6_2
  rotate_left
  ·rw [if_neg c34] at H
   exact absurd H (by simp)
  rw [if_pos c34] at H
  have c34b0 := eq_true c34
  have c34b1 : decide (0 ≤ x6_2) = true := decide_eq_true c34
  clear c34
  by_cases c35 : x6_2 ≤ (l0.length : Int)
  rotate_left
  ·rw [if_neg c35] at H
   exact absurd H (by simp)
  rw [if_pos c35] at H
  have c35b0 := eq_true c35
  have c35b1 : decide (x6_2 ≤ (l0.length : Int)) = true := decide_eq_true c35
  clear c35
  obtain ⟨y324, hy324⟩ : ∃ y_ : List (S37), y_ = (l0.drop (x6_2 : Int).toNat) := ⟨_, rfl⟩
  replace H : (if y321.length + y324.length < 3518437208883 then (some (y321 ++ y324)) else (none)) = some r := by first | (rw [hy324]; with_reducible exact H) | (have H2_ := (Option.bind_some _ _).symm.trans H; rw [hy324]; with_reducible exact H2_) | (have H2_ := (Option.bind_some _ _).symm.trans H; with_reducible exact H2_) | with_reducible exact H | (rw [hy324]; exact H) | exact H
  have Ny324 := Aside0.mk hy324
  clear hy324
  by_cases c36 : y321.length + y324.length < 3518437208883
  rotate_left
  ·rw [if_neg c36] at H
   exact absurd H (by simp)
  rw [if_pos c36] at H
  have LMc36 := Aside0.mk c36
  clear c36
  obtain ⟨y328, hy328⟩ : ∃ y_ : List (S37), y_ = (y321 ++ y324) := ⟨_, rfl⟩
  replace H : (some y328) = some r := by first | (rw [hy328]; with_reducible exact H) | (have H2_ := (Option.bind_some _ _).symm.trans H; rw [hy328]; with_reducible exact H2_) | (have H2_ := (Option.bind_some _ _).symm.trans H; with_reducible exact H2_) | with_reducible exact H | (rw [hy328]; exact H) | exact H
  have Ny328 := Aside0.mk hy328
  clear hy328
  obtain rfl := Option.some.inj H
  simp only [Option.some.injEq, Prod.mk.injEq] at H
  obtain ⟨rfl⟩ := H
  have hcz37_0 : wr.cell? ⟨gb297, 0, none⟩ = some (.string a1_0) := (blk_cell BK297.out 0).trans rfl
  have hcz37_1 : wr.cell? ⟨gb297, 1, none⟩ = some (.string x298001_2) := (blk_cell BK297.out 1).trans rfl
  have hcz37_2 : wr.cell? ⟨gb297, 2, none⟩ = some (.bool a1_2) := (blk_cell BK297.out 2).trans rfl
  have hfz37_0 := blk_frozen BK297.out 0
  have hfz37_1 := blk_frozen BK297.out 1
  have hfz37_2 := blk_frozen BK297.out 2
  go_wp2_with (first | ((with_reducible refine gate_builtin (b := .append) (xs := #[.tmp 33, .tmp 35]) rfl ?_); at_builtin; refine Kd.R_append k37 (w0 := w) w.heap.size rfl (.tmp 33) (.tmp 35) 25 37 (.agg #[(.string ⟨#[]⟩), (.string ⟨#[]⟩), (.bool false)]) 40 rfl Try.underlying25 info37 rfl (by decide) (by omega) u5 x5_2 (⟨a1_0, x298001_2, a1_2⟩ : S37) [.string a1_0, .string x298001_2, .bool a1_2] (fun k_ => k_ ≠ gb297) (fun _ => False) rfl rfl ?aP (fun _ hk => hk.elim) ?aF ?aO ?aB ?aS ?aL ?_; (case aP => exact k37_mkM _ _ _ (⟨a1_0, x298001_2, a1_2⟩ : S37)); (case aB => exact (hL HB.out)); (case aF => exact (fun k_ hk => Kd.freshB (g := gb297) (o := .cells #[.string a1_0, .string x298001_2, .bool a1_2] 37 (0, 0)) (bL BK297.out) k_ hk)); (case aO => exact (rL HO_5.out)); (case aS => exact (below_size (hL HB.out))); (case aL => have := LMc33.out; omega); intro v322 w38 ho hb hg hat; rw [← Ny321.out] at ho; have n0_ := Aside0.mk (blk_grown (g := gb297) (o := .cells #[.string a1_0, .string x298001_2, .bool a1_2] 37 (0, 0)) (bL BK297.out) hg (Kd.R_away HO_5.out (fun _ hk => hk))); have n1_ := Aside0.mk (hb); have n2_ := Aside0.mk (ho); clear BK297; clear HB; clear HO_5; have BK297 := n0_; have HB := n1_; have HO323 := n2_; clear n0_ n1_ n2_; clear ho hb hg hat; have q39 : (x6_2 : Int) ≤ ((l0.length : Int) : Int) := of_decide_eq_true (by first | (with_reducible assumption) | assumption); obtain ⟨i039, hi039, _, hsz39, _⟩ := info_parts info37; have hroom39 : l0.length ≤ c0 := HC0.out; have hC39 : Kd.C k37 _ A0 l0.length l0 := HR0.out; have q039 : (0 : Int) ≤ (x6_2 : Int) := of_decide_eq_true (by first | (with_reducible assumption) | assumption); have hcut39 := cut_from (P := Try.prog) 25 37 .i64 Try.underlying25 hi039 3 hsz39 A0 l0.length c0 x6_2 q039 q39; have hr39 := Kd.C_drop (m := (x6_2 : Int).toNat) (c := c0) hC39 (by omega) hroom39; obtain ⟨A39, hA39⟩ : ∃ A1, A1 = (if c0 = (x6_2 : Int).toNat then A0 else (A0 : Option Addr).map (·.add ((x6_2 : Int).toNat * 3))) := ⟨_, rfl⟩; obtain ⟨c39, hc39⟩ : ∃ c1, c1 = c0 - (x6_2 : Int).toNat := ⟨_, rfl⟩; have hy39 : y324.length = l0.length - (x6_2 : Int).toNat := (by rw [Ny324.out, List.length_drop] <;> omega); rw [show (l0).drop (x6_2 : Int).toNat = y324 from Ny324.out.symm] at hr39; replace hr39 : Kd.C k37 _ A39 y324.length y324 := (by rw [hA39]; exact hr39); rw [← hy39, ← hA39, ← hc39] at hcut39; have HR327 := Aside0.mk hr39; have HC327 := Aside0.mk (show y324.length ≤ c39 from by rw [hy39, hc39]; exact Nat.sub_le_sub_right hroom39 _); clear hr39 hC39 hroom39 hi039 hsz39 hc39; have KY39 := Aside0.mk hy39; have KA39 := Aside0.mk hA39; clear hy39 hA39; replace q39 := eq_true q39) | ((with_reducible refine gate_builtin (b := .append) (xs := #[.tmp 53, .tmp 56]) rfl ?_); at_builtin; refine Kd.R_append_rows k37 (w0 := w) w.heap.size rfl (.tmp 53) (.tmp 56) 25 37 (.agg #[(.string ⟨#[]⟩), (.string ⟨#[]⟩), (.bool false)]) 40 rfl Try.underlying25 info37 rfl (by decide) (by omega) v322 y321 y324 _ _ _ (fun k_ => k_ ≠ gb297) (fun _ => False) rfl rfl ?aO ?aR (fun _ _ h => h) (fun _ h => h.elim) ?aF ?aB ?aS ?aL ?_; (case aR => repeat (first | exact (Kd.C_below HR327.out HB.out) | exact (Kd.C_drewN (Kd.C_below HR327.out HB.out) _) | exact (Kd.C_drew (Kd.C_below HR327.out HB.out)) | (with_reducible refine Kd.C_alloc ?_ _) | (with_reducible refine Kd.C_drewN ?_ _) | (with_reducible refine Kd.C_drew ?_))); (case aB => exact (hL HB.out)); (case aF => exact (fun k_ hk => Kd.freshB (g := gb297) (o := .cells #[.string a1_0, .string x298001_2, .bool a1_2] 37 (0, 0)) (bL BK297.out) k_ hk)); (case aO => exact (rL HO323.out)); (case aS => exact (below_size (hL HB.out))); (case aL => have := LMc36.out; omega); intro v329 w40 ho hb hg hat; rw [← Ny328.out] at ho; have n0_ := Aside0.mk (blk_grown (g := gb297) (o := .cells #[.string a1_0, .string x298001_2, .bool a1_2] 37 (0, 0)) (bL BK297.out) hg (Kd.R_away HO323.out (fun _ hk => hk))); have n1_ := Aside0.mk (hb); have n2_ := Aside0.mk (ho); clear BK297; clear HB; clear HO323; have BK297 := n0_; have HB := n1_; have HO330 := n2_; clear n0_ n1_ n2_; clear ho hb hg hat))
  repeat (go_quiet (first | ((with_reducible refine gate_builtin (b := .append) (xs := #[.tmp 33, .tmp 35]) rfl ?_); at_builtin; refine Kd.R_append k37 (w0 := w) w.heap.size rfl (.tmp 33) (.tmp 35) 25 37 (.agg #[(.string ⟨#[]⟩), (.string ⟨#[]⟩), (.bool false)]) 40 rfl Try.underlying25 info37 rfl (by decide) (by omega) u5 x5_2 (⟨a1_0, x298001_2, a1_2⟩ : S37) [.string a1_0, .string x298001_2, .bool a1_2] (fun k_ => k_ ≠ gb297) (fun _ => False) rfl rfl ?aP (fun _ hk => hk.elim) ?aF ?aO ?aB ?aS ?aL ?_; (case aP => exact k37_mkM _ _ _ (⟨a1_0, x298001_2, a1_2⟩ : S37)); (case aB => exact (hL HB.out)); (case aF => exact (fun k_ hk => Kd.freshB (g := gb297) (o := .cells #[.string a1_0, .string x298001_2, .bool a1_2] 37 (0, 0)) (bL BK297.out) k_ hk)); (case aO => exact (rL HO_5.out)); (case aS => exact (below_size (hL HB.out))); (case aL => have := LMc33.out; omega); intro v322 w38 ho hb hg hat; rw [← Ny321.out] at ho; have n0_ := Aside0.mk (blk_grown (g := gb297) (o := .cells #[.string a1_0, .string x298001_2, .bool a1_2] 37 (0, 0)) (bL BK297.out) hg (Kd.R_away HO_5.out (fun _ hk => hk))); have n1_ := Aside0.mk (hb); have n2_ := Aside0.mk (ho); clear BK297; clear HB; clear HO_5; have BK297 := n0_; have HB := n1_; have HO323 := n2_; clear n0_ n1_ n2_; clear ho hb hg hat; have q39 : (x6_2 : Int) ≤ ((l0.length : Int) : Int) := of_decide_eq_true (by first | (with_reducible assumption) | assumption); obtain ⟨i039, hi039, _, hsz39, _⟩ := info_parts info37; have hroom39 : l0.length ≤ c0 := HC0.out; have hC39 : Kd.C k37 _ A0 l0.length l0 := HR0.out; have q039 : (0 : Int) ≤ (x6_2 : Int) := of_decide_eq_true (by first | (with_reducible assumption) | assumption); have hcut39 := cut_from (P := Try.prog) 25 37 .i64 Try.underlying25 hi039 3 hsz39 A0 l0.length c0 x6_2 q039 q39; have hr39 := Kd.C_drop (m := (x6_2 : Int).toNat) (c := c0) hC39 (by omega) hroom39; obtain ⟨A39, hA39⟩ : ∃ A1, A1 = (if c0 = (x6_2 : Int).toNat then A0 else (A0 : Option Addr).map (·.add ((x6_2 : Int).toNat * 3))) := ⟨_, rfl⟩; obtain ⟨c39, hc39⟩ : ∃ c1, c1 = c0 - (x6_2 : Int).toNat := ⟨_, rfl⟩; have hy39 : y324.length = l0.length - (x6_2 : Int).toNat := (by rw [Ny324.out, List.length_drop] <;> omega); rw [show (l0).drop (x6_2 : Int).toNat = y324 from Ny324.out.symm] at hr39; replace hr39 : Kd.C k37 _ A39 y324.length y324 := (by rw [hA39]; exact hr39); rw [← hy39, ← hA39, ← hc39] at hcut39; have HR327 := Aside0.mk hr39; have HC327 := Aside0.mk (show y324.length ≤ c39 from by rw [hy39, hc39]; exact Nat.sub_le_sub_right hroom39 _); clear hr39 hC39 hroom39 hi039 hsz39 hc39; have KY39 := Aside0.mk hy39; have KA39 := Aside0.mk hA39; clear hy39 hA39; replace q39 := eq_true q39) | ((with_reducible refine gate_builtin (b := .append) (xs := #[.tmp 53, .tmp 56]) rfl ?_); at_builtin; refine Kd.R_append_rows k37 (w0 := w) w.heap.size rfl (.tmp 53) (.tmp 56) 25 37 (.agg #[(.string ⟨#[]⟩), (.string ⟨#[]⟩), (.bool false)]) 40 rfl Try.underlying25 info37 rfl (by decide) (by omega) v322 y321 y324 _ _ _ (fun k_ => k_ ≠ gb297) (fun _ => False) rfl rfl ?aO ?aR (fun _ _ h => h) (fun _ h => h.elim) ?aF ?aB ?aS ?aL ?_; (case aR => repeat (first | exact (Kd.C_below HR327.out HB.out) | exact (Kd.C_drewN (Kd.C_below HR327.out HB.out) _) | exact (Kd.C_drew (Kd.C_below HR327.out HB.out)) | (with_reducible refine Kd.C_alloc ?_ _) | (with_reducible refine Kd.C_drewN ?_ _) | (with_reducible refine Kd.C_drew ?_))); (case aB => exact (hL HB.out)); (case aF => exact (fun k_ hk => Kd.freshB (g := gb297) (o := .cells #[.string a1_0, .string x298001_2, .bool a1_2] 37 (0, 0)) (bL BK297.out) k_ hk)); (case aO => exact (rL HO323.out)); (case aS => exact (below_size (hL HB.out))); (case aL => have := LMc36.out; omega); intro v329 w40 ho hb hg hat; rw [← Ny328.out] at ho; have n0_ := Aside0.mk (blk_grown (g := gb297) (o := .cells #[.string a1_0, .string x298001_2, .bool a1_2] 37 (0, 0)) (bL BK297.out) hg (Kd.R_away HO323.out (fun _ hk => hk))); have n1_ := Aside0.mk (hb); have n2_ := Aside0.mk (ho); clear BK297; clear HB; clear HO323; have BK297 := n0_; have HB := n1_; have HO330 := n2_; clear n0_ n1_ n2_; clear ho hb hg hat)); try go_wp2_with (first | ((with_reducible refine gate_builtin (b := .append) (xs := #[.tmp 33, .tmp 35]) rfl ?_); at_builtin; refine Kd.R_append k37 (w0 := w) w.heap.size rfl (.tmp 33) (.tmp 35) 25 37 (.agg #[(.string ⟨#[]⟩), (.string ⟨#[]⟩), (.bool false)]) 40 rfl Try.underlying25 info37 rfl (by decide) (by omega) u5 x5_2 (⟨a1_0, x298001_2, a1_2⟩ : S37) [.string a1_0, .string x298001_2, .bool a1_2] (fun k_ => k_ ≠ gb297) (fun _ => False) rfl rfl ?aP (fun _ hk => hk.elim) ?aF ?aO ?aB ?aS ?aL ?_; (case aP => exact k37_mkM _ _ _ (⟨a1_0, x298001_2, a1_2⟩ : S37)); (case aB => exact (hL HB.out)); (case aF => exact (fun k_ hk => Kd.freshB (g := gb297) (o := .cells #[.string a1_0, .string x298001_2, .bool a1_2] 37 (0, 0)) (bL BK297.out) k_ hk)); (case aO => exact (rL HO_5.out)); (case aS => exact (below_size (hL HB.out))); (case aL => have := LMc33.out; omega); intro v322 w38 ho hb hg hat; rw [← Ny321.out] at ho; have n0_ := Aside0.mk (blk_grown (g := gb297) (o := .cells #[.string a1_0, .string x298001_2, .bool a1_2] 37 (0, 0)) (bL BK297.out) hg (Kd.R_away HO_5.out (fun _ hk => hk))); have n1_ := Aside0.mk (hb); have n2_ := Aside0.mk (ho); clear BK297; clear HB; clear HO_5; have BK297 := n0_; have HB := n1_; have HO323 := n2_; clear n0_ n1_ n2_; clear ho hb hg hat; have q39 : (x6_2 : Int) ≤ ((l0.length : Int) : Int) := of_decide_eq_true (by first | (with_reducible assumption) | assumption); obtain ⟨i039, hi039, _, hsz39, _⟩ := info_parts info37; have hroom39 : l0.length ≤ c0 := HC0.out; have hC39 : Kd.C k37 _ A0 l0.length l0 := HR0.out; have q039 : (0 : Int) ≤ (x6_2 : Int) := of_decide_eq_true (by first | (with_reducible assumption) | assumption); have hcut39 := cut_from (P := Try.prog) 25 37 .i64 Try.underlying25 hi039 3 hsz39 A0 l0.length c0 x6_2 q039 q39; have hr39 := Kd.C_drop (m := (x6_2 : Int).toNat) (c := c0) hC39 (by omega) hroom39; obtain ⟨A39, hA39⟩ : ∃ A1, A1 = (if c0 = (x6_2 : Int).toNat then A0 else (A0 : Option Addr).map (·.add ((x6_2 : Int).toNat * 3))) := ⟨_, rfl⟩; obtain ⟨c39, hc39⟩ : ∃ c1, c1 = c0 - (x6_2 : Int).toNat := ⟨_, rfl⟩; have hy39 : y324.length = l0.length - (x6_2 : Int).toNat := (by rw [Ny324.out, List.length_drop] <;> omega); rw [show (l0).drop (x6_2 : Int).toNat = y324 from Ny324.out.symm] at hr39; replace hr39 : Kd.C k37 _ A39 y324.length y324 := (by rw [hA39]; exact hr39); rw [← hy39, ← hA39, ← hc39] at hcut39; have HR327 := Aside0.mk hr39; have HC327 := Aside0.mk (show y324.length ≤ c39 from by rw [hy39, hc39]; exact Nat.sub_le_sub_right hroom39 _); clear hr39 hC39 hroom39 hi039 hsz39 hc39; have KY39 := Aside0.mk hy39; have KA39 := Aside0.mk hA39; clear hy39 hA39; replace q39 := eq_true q39) | ((with_reducible refine gate_builtin (b := .append) (xs := #[.tmp 53, .tmp 56]) rfl ?_); at_builtin; refine Kd.R_append_rows k37 (w0 := w) w.heap.size rfl (.tmp 53) (.tmp 56) 25 37 (.agg #[(.string ⟨#[]⟩), (.string ⟨#[]⟩), (.bool false)]) 40 rfl Try.underlying25 info37 rfl (by decide) (by omega) v322 y321 y324 _ _ _ (fun k_ => k_ ≠ gb297) (fun _ => False) rfl rfl ?aO ?aR (fun _ _ h => h) (fun _ h => h.elim) ?aF ?aB ?aS ?aL ?_; (case aR => repeat (first | exact (Kd.C_below HR327.out HB.out) | exact (Kd.C_drewN (Kd.C_below HR327.out HB.out) _) | exact (Kd.C_drew (Kd.C_below HR327.out HB.out)) | (with_reducible refine Kd.C_alloc ?_ _) | (with_reducible refine Kd.C_drewN ?_ _) | (with_reducible refine Kd.C_drew ?_))); (case aB => exact (hL HB.out)); (case aF => exact (fun k_ hk => Kd.freshB (g := gb297) (o := .cells #[.string a1_0, .string x298001_2, .bool a1_2] 37 (0, 0)) (bL BK297.out) k_ hk)); (case aO => exact (rL HO323.out)); (case aS => exact (below_size (hL HB.out))); (case aL => have := LMc36.out; omega); intro v329 w40 ho hb hg hat; rw [← Ny328.out] at ho; have n0_ := Aside0.mk (blk_grown (g := gb297) (o := .cells #[.string a1_0, .string x298001_2, .bool a1_2] 37 (0, 0)) (bL BK297.out) hg (Kd.R_away HO323.out (fun _ hk => hk))); have n1_ := Aside0.mk (hb); have n2_ := Aside0.mk (ho); clear BK297; clear HB; clear HO323; have BK297 := n0_; have HB := n1_; have HO330 := n2_; clear n0_ n1_ n2_; clear ho hb hg hat)))
  go_ret
  exact ⟨_, by first | rfl | (simp [errW_none, errW_some] <;> rfl) | (simp [*, errW_none, errW_some] <;> rfl), by (with_reducible repeat (first | apply Kd.R_alloc | apply Kd.R_drewN | apply Kd.R_drew)); exact Kd.R_mono HO330.out (fun _ hk => trivial), hL HB.out⟩
 rw [if_pos c8] at H
 have c8b0 : decide (x6_2 < (l0.length : Int)) = true := decide_eq_true c8
 clear c8
 by_cases c9 : 0 ≤ x6_2
 rotate_left
 ·rw [if_neg c9] at H
  exact absurd H (by simp)
 rw [if_pos c9] at H
 have c9b0 : decide (0 ≤ x6_2) = true := decide_eq_true c9
 clear c9
 by_cases c10 : (Op.bytesLess (((rd_T37 l0 x6_2).f0).toList) a1_0.toList) = true
 ·rw [if_pos c10] at H
  have c10b0 : (Op.bytesLess (((rd_T37 l0 x6_2).f0).toList) a1_0.toList) = true := c10
  clear c10
  by_cases c11 : x5_2.length < 3518437208883
  rotate_left
  ·rw [if_neg c11] at H
   exact absurd H (by simp)
  rw [if_pos c11] at H
  have LMc11 := Aside0.mk c11
  clear c11
  obtain ⟨y300, hy300⟩ : ∃ y_ : List (S37), y_ = (x5_2 ++ [(⟨(rd_T37 l0 x6_2).f0, (rd_T37 l0 x6_2).f1, (rd_T37 l0 x6_2).f2⟩ : S37)]) := ⟨_, rfl⟩
  replace H : (shelfmarkref09_put.l0 k2 l0 y300 (wrap64 (x6_2 + 1)) a1_0 x298001_2 a1_2) = some r := by first | (rw [hy300]; with_reducible exact H) | (have H2_ := (Option.bind_some _ _).symm.trans H; rw [hy300]; with_reducible exact H2_) | (have H2_ := (Option.bind_some _ _).symm.trans H; with_reducible exact H2_) | with_reducible exact H | (rw [hy300]; exact H) | exact H
  have Ny300 := Aside0.mk hy300
  clear hy300
  have H' := Aside0.mk H
  clear H
  have p298 : 0 ≤ (x6_2 : Int) := of_decide_eq_true (by first | (with_reducible assumption) | assumption)
  have q298 : x6_2 < (l0.length : Int) := of_decide_eq_true (by first | (with_reducible assumption) | assumption)
  obtain ⟨ad298, e298, hx298_0, hx298_1, hx298_2⟩ := at_T37 HR0.out x6_2 p298 q298
  cases e298
  replace hx298_0 := (HB.out.cell (World.block_lt_of_cell? w _ hx298_0)).trans hx298_0
  replace hx298_1 := (HB.out.cell (World.block_lt_of_cell? w _ hx298_1)).trans hx298_1
  replace hx298_2 := (HB.out.cell (World.block_lt_of_cell? w _ hx298_2)).trans hx298_2
  replace p298 := eq_true p298
  replace q298 := eq_true q298
  have hcz12_0 : wr.cell? ⟨gb297, 0, none⟩ = some (.string a1_0) := (blk_cell BK297.out 0).trans rfl
  have hcz12_1 : wr.cell? ⟨gb297, 1, none⟩ = some (.string x298001_2) := (blk_cell BK297.out 1).trans rfl
  have hcz12_2 : wr.cell? ⟨gb297, 2, none⟩ = some (.bool a1_2) := (blk_cell BK297.out 2).trans rfl
  have hfz12_0 := blk_frozen BK297.out 0
  have hfz12_1 := blk_frozen BK297.out 1
  have hfz12_2 := blk_frozen BK297.out 2
  have p299 : 0 ≤ (x6_2 : Int) := of_decide_eq_true (by first | (with_reducible assumption) | assumption)
  have q299 : x6_2 < (l0.length : Int) := of_decide_eq_true (by first | (with_reducible assumption) | assumption)
  obtain ⟨ad299, e299, hx299_0, hx299_1, hx299_2⟩ := at_T37 HR0.out x6_2 p299 q299
  obtain rfl : ad298 = ad299 := (by injection e299)
  replace hx299_0 := (HB.out.cell (World.block_lt_of_cell? w _ hx299_0)).trans hx299_0
  replace hx299_1 := (HB.out.cell (World.block_lt_of_cell? w _ hx299_1)).trans hx299_1
  replace hx299_2 := (HB.out.cell (World.block_lt_of_cell? w _ hx299_2)).trans hx299_2
  replace p299 := eq_true p299
  replace q299 := eq_true q299
  go_wp2_with (first | ((with_reducible refine gate_builtin (b := .append) (xs := #[.tmp 24, .tmp 29]) rfl ?_); at_builtin; refine Kd.R_append k37 (w0 := w) w.heap.size rfl (.tmp 24) (.tmp 29) 25 37 (.agg #[(.string ⟨#[]⟩), (.string ⟨#[]⟩), (.bool false)]) 40 rfl Try.underlying25 info37 rfl (by decide) (by omega) u5 x5_2 (⟨(rd_T37 l0 x6_2).f0, (rd_T37 l0 x6_2).f1, (rd_T37 l0 x6_2).f2⟩ : S37) [.string ((rd_T37 l0 x6_2).f0), .string ((rd_T37 l0 x6_2).f1), .bool ((rd_T37 l0 x6_2).f2)] (fun k_ => k_ ≠ gb297) (fun _ => False) rfl rfl ?aP (fun _ hk => hk.elim) ?aF ?aO ?aB ?aS ?aL ?_; (case aP => exact k37_mkM _ _ _ (⟨(rd_T37 l0 x6_2).f0, (rd_T37 l0 x6_2).f1, (rd_T37 l0 x6_2).f2⟩ : S37)); (case aB => exact (hL HB.out)); (case aF => exact (fun k_ hk => Kd.freshB (g := gb297) (o := .cells #[.string a1_0, .string x298001_2, .bool a1_2] 37 (0, 0)) (bL BK297.out) k_ hk)); (case aO => exact (rL HO_5.out)); (case aS => exact (below_size (hL HB.out))); (case aL => have := LMc11.out; omega); intro v301 w13 ho hb hg hat; rw [← Ny300.out] at ho; have n0_ := Aside0.mk (blk_grown (g := gb297) (o := .cells #[.string a1_0, .string x298001_2, .bool a1_2] 37 (0, 0)) (bL BK297.out) hg (Kd.R_away HO_5.out (fun _ hk => hk))); have n1_ := Aside0.mk (hb); have n2_ := Aside0.mk (ho); clear BK297; clear HB; clear HO_5; have BK297 := n0_; have HB := n1_; have HO302 := n2_; clear n0_ n1_ n2_; clear ho hb hg hat))
  repeat (go_quiet (first | ((with_reducible refine gate_builtin (b := .append) (xs := #[.tmp 24, .tmp 29]) rfl ?_); at_builtin; refine Kd.R_append k37 (w0 := w) w.heap.size rfl (.tmp 24) (.tmp 29) 25 37 (.agg #[(.string ⟨#[]⟩), (.string ⟨#[]⟩), (.bool false)]) 40 rfl Try.underlying25 info37 rfl (by decide) (by omega) u5 x5_2 (⟨(rd_T37 l0 x6_2).f0, (rd_T37 l0 x6_2).f1, (rd_T37 l0 x6_2).f2⟩ : S37) [.string ((rd_T37 l0 x6_2).f0), .string ((rd_T37 l0 x6_2).f1), .bool ((rd_T37 l0 x6_2).f2)] (fun k_ => k_ ≠ gb297) (fun _ => False) rfl rfl ?aP (fun _ hk => hk.elim) ?aF ?aO ?aB ?aS ?aL ?_; (case aP => exact k37_mkM _ _ _ (⟨(rd_T37 l0 x6_2).f0, (rd_T37 l0 x6_2).f1, (rd_T37 l0 x6_2).f2⟩ : S37)); (case aB => exact (hL HB.out)); (case aF => exact (fun k_ hk => Kd.freshB (g := gb297) (o := .cells #[.string a1_0, .string x298001_2, .bool a1_2] 37 (0, 0)) (bL BK297.out) k_ hk)); (case aO => exact (rL HO_5.out)); (case aS => exact (below_size (hL HB.out))); (case aL => have := LMc11.out; omega); intro v301 w13 ho hb hg hat; rw [← Ny300.out] at ho; have n0_ := Aside0.mk (blk_grown (g := gb297) (o := .cells #[.string a1_0, .string x298001_2, .bool a1_2] 37 (0, 0)) (bL BK297.out) hg (Kd.R_away HO_5.out (fun _ hk => hk))); have n1_ := Aside0.mk (hb); have n2_ := Aside0.mk (ho); clear BK297; clear HB; clear HO_5; have BK297 := n0_; have HB := n1_; have HO302 := n2_; clear n0_ n1_ n2_; clear ho hb hg hat)); try go_wp2_with (first | ((with_reducible refine gate_builtin (b := .append) (xs := #[.tmp 24, .tmp 29]) rfl ?_); at_builtin; refine Kd.R_append k37 (w0 := w) w.heap.size rfl (.tmp 24) (.tmp 29) 25 37 (.agg #[(.string ⟨#[]⟩), (.string ⟨#[]⟩), (.bool false)]) 40 rfl Try.underlying25 info37 rfl (by decide) (by omega) u5 x5_2 (⟨(rd_T37 l0 x6_2).f0, (rd_T37 l0 x6_2).f1, (rd_T37 l0 x6_2).f2⟩ : S37) [.string ((rd_T37 l0 x6_2).f0), .string ((rd_T37 l0 x6_2).f1), .bool ((rd_T37 l0 x6_2).f2)] (fun k_ => k_ ≠ gb297) (fun _ => False) rfl rfl ?aP (fun _ hk => hk.elim) ?aF ?aO ?aB ?aS ?aL ?_; (case aP => exact k37_mkM _ _ _ (⟨(rd_T37 l0 x6_2).f0, (rd_T37 l0 x6_2).f1, (rd_T37 l0 x6_2).f2⟩ : S37)); (case aB => exact (hL HB.out)); (case aF => exact (fun k_ hk => Kd.freshB (g := gb297) (o := .cells #[.string a1_0, .string x298001_2, .bool a1_2] 37 (0, 0)) (bL BK297.out) k_ hk)); (case aO => exact (rL HO_5.out)); (case aS => exact (below_size (hL HB.out))); (case aL => have := LMc11.out; omega); intro v301 w13 ho hb hg hat; rw [← Ny300.out] at ho; have n0_ := Aside0.mk (blk_grown (g := gb297) (o := .cells #[.string a1_0, .string x298001_2, .bool a1_2] 37 (0, 0)) (bL BK297.out) hg (Kd.R_away HO_5.out (fun _ hk => hk))); have n1_ := Aside0.mk (hb); have n2_ := Aside0.mk (ho); clear BK297; clear HB; clear HO_5; have BK297 := n0_; have HB := n1_; have HO302 := n2_; clear n0_ n1_ n2_; clear ho hb hg hat)))
  go_roundg k2
  case measure => have := HJ2.out; have := HK2.out; omega
  case rel => exact ⟨(y300), (wrap64 (x6_2 + 1)), (by first | rfl | (simp; done) | (simp [*]; done) | (simp [ne_nil_bytes]; done) | (simp [eq_nil_bytes]; done)), H', ⟨by have := HJ2.out; have := HK2.out; omega⟩, ⟨by exact rL HO302.out⟩, ⟨by exact bL BK297.out⟩, ⟨hL HB.out⟩⟩
 rw [if_neg c10] at H
 have c10b0 : (Op.bytesLess (((rd_T37 l0 x6_2).f0).toList) a1_0.toList) = false := by simpa using c10
 clear c10
 by_cases c14 : x5_2.length < 3518437208883
 rotate_left
 ·rw [if_neg c14] at H
  exact absurd H (by simp)
 rw [if_pos c14] at H
 have LMc14 := Aside0.mk c14
 clear c14
 obtain ⟨y303, hy303⟩ : ∃ y_ : List (S37), y_ = (x5_2 ++ [(⟨a1_0, x298001_2, a1_2⟩ : S37)]) := ⟨_, rfl⟩
 replace H : (if ((rd_T37 l0 x6_2).f0).toList = a1_0.toList then (if 0 ≤ (wrap64 (x6_2 + 1)) then (if (wrap64 (x6_2 + 1)) ≤ (l0.length : Int) then ((some (l0.drop ((wrap64 (x6_2 + 1)) : Int).toNat : List (S37))).bind fun y307 => (if y303.length + y307.length < 3518437208883 then (some (y303 ++ y307)) else (none))) else (none)) else (none)) else (if x6_2 ≤ (l0.length : Int) then ((some (l0.drop (x6_2 : Int).toNat : List (S37))).bind fun y314 => (if y303.length + y314.length < 3518437208883 then (some (y303 ++ y314)) else (none))) else (none))) = some r := by first | (rw [hy303]; with_reducible exact H) | (have H2_ := (Option.bind_some _ _).symm.trans H; rw [hy303]; with_reducible exact H2_) | (have H2_ := (Option.bind_some _ _).symm.trans H; with_reducible exact H2_) | with_reducible exact H | (rw [hy303]; exact H) | exact H
 have Ny303 := Aside0.mk hy303
 clear hy303
 by_cases c15 : ((rd_T37 l0 x6_2).f0).toList = a1_0.toList
 rotate_left
 ·rw [if_neg c15] at H
  have c15b0 : (((rd_T37 l0 x6_2).f0).toList == a1_0.toList) = false := beq_eq_false_iff_ne.mpr c15
  have c15b1 : (((rd_T37 l0 x6_2).f0).toList != a1_0.toList) = true := bne_iff_ne.mpr c15
  have c25b0 := eq_true (of_decide_eq_true (by first | (with_reducible assumption) | assumption) : 0 ≤ x6_2)
  by_cases c26 : x6_2 ≤ (l0.length : Int)
  rotate_left
  ·rw [if_neg c26] at H
   exact absurd H (by simp)
  rw [if_pos c26] at H
  have c26b0 := eq_true c26
  have c26b1 : decide (x6_2 ≤ (l0.length : Int)) = true := decide_eq_true c26
  clear c26
  obtain ⟨y314, hy314⟩ : ∃ y_ : List (S37), y_ = (l0.drop (x6_2 : Int).toNat) := ⟨_, rfl⟩
  replace H : (if y303.length + y314.length < 3518437208883 then (some (y303 ++ y314)) else (none)) = some r := by first | (rw [hy314]; with_reducible exact H) | (have H2_ := (Option.bind_some _ _).symm.trans H; rw [hy314]; with_reducible exact H2_) | (have H2_ := (Option.bind_some _ _).symm.trans H; with_reducible exact H2_) | with_reducible exact H | (rw [hy314]; exact H) | exact H
  have Ny314 := Aside0.mk hy314
  clear hy314
  by_cases c27 : y303.length + y314.length < 3518437208883
  rotate_left
  ·rw [if_neg c27] at H
   exact absurd H (by simp)
  rw [if_pos c27] at H
  have LMc27 := Aside0.mk c27
  clear c27
  obtain ⟨y318, hy318⟩ : ∃ y_ : List (S37), y_ = (y303 ++ y314) := ⟨_, rfl⟩
  replace H : (some y318) = some r := by first | (rw [hy318]; with_reducible exact H) | (have H2_ := (Option.bind_some _ _).symm.trans H; rw [hy318]; with_reducible exact H2_) | (have H2_ := (Option.bind_some _ _).symm.trans H; with_reducible exact H2_) | with_reducible exact H | (rw [hy318]; exact H) | exact H
  have Ny318 := Aside0.mk hy318
  clear hy318
  obtain rfl := Option.some.inj H
  simp only [Option.some.injEq, Prod.mk.injEq] at H
  obtain ⟨rfl⟩ := H
  have p298 : 0 ≤ (x6_2 : Int) := of_decide_eq_true (by first | (with_reducible assumption) | assumption)
  have q298 : x6_2 < (l0.length : Int) := of_decide_eq_true (by first | (with_reducible assumption) | assumption)
  obtain ⟨ad298, e298, hx298_0, hx298_1, hx298_2⟩ := at_T37 HR0.out x6_2 p298 q298
  cases e298
  replace hx298_0 := (HB.out.cell (World.block_lt_of_cell? w _ hx298_0)).trans hx298_0
  replace hx298_1 := (HB.out.cell (World.block_lt_of_cell? w _ hx298_1)).trans hx298_1
  replace hx298_2 := (HB.out.cell (World.block_lt_of_cell? w _ hx298_2)).trans hx298_2
  replace p298 := eq_true p298
  replace q298 := eq_true q298
  have hcz28_0 : wr.cell? ⟨gb297, 0, none⟩ = some (.string a1_0) := (blk_cell BK297.out 0).trans rfl
  have hcz28_1 : wr.cell? ⟨gb297, 1, none⟩ = some (.string x298001_2) := (blk_cell BK297.out 1).trans rfl
  have hcz28_2 : wr.cell? ⟨gb297, 2, none⟩ = some (.bool a1_2) := (blk_cell BK297.out 2).trans rfl
  have hfz28_0 := blk_frozen BK297.out 0
  have hfz28_1 := blk_frozen BK297.out 1
  have hfz28_2 := blk_frozen BK297.out 2
  go_wp2_with (first | ((with_reducible refine gate_builtin (b := .append) (xs := #[.tmp 33, .tmp 35]) rfl ?_); at_builtin; refine Kd.R_append k37 (w0 := w) w.heap.size rfl (.tmp 33) (.tmp 35) 25 37 (.agg #[(.string ⟨#[]⟩), (.string ⟨#[]⟩), (.bool false)]) 40 rfl Try.underlying25 info37 rfl (by decide) (by omega) u5 x5_2 (⟨a1_0, x298001_2, a1_2⟩ : S37) [.string a1_0, .string x298001_2, .bool a1_2] (fun k_ => k_ ≠ gb297) (fun _ => False) rfl rfl ?aP (fun _ hk => hk.elim) ?aF ?aO ?aB ?aS ?aL ?_; (case aP => exact k37_mkM _ _ _ (⟨a1_0, x298001_2, a1_2⟩ : S37)); (case aB => exact (hL HB.out)); (case aF => exact (fun k_ hk => Kd.freshB (g := gb297) (o := .cells #[.string a1_0, .string x298001_2, .bool a1_2] 37 (0, 0)) (bL BK297.out) k_ hk)); (case aO => exact (rL HO_5.out)); (case aS => exact (below_size (hL HB.out))); (case aL => have := LMc14.out; omega); intro v304 w29 ho hb hg hat; rw [← Ny303.out] at ho; have n0_ := Aside0.mk (blk_grown (g := gb297) (o := .cells #[.string a1_0, .string x298001_2, .bool a1_2] 37 (0, 0)) (bL BK297.out) hg (Kd.R_away HO_5.out (fun _ hk => hk))); have n1_ := Aside0.mk (hb); have n2_ := Aside0.mk (ho); clear BK297; clear HB; clear HO_5; have BK297 := n0_; have HB := n1_; have HO305 := n2_; clear n0_ n1_ n2_; clear ho hb hg hat; have p306 : 0 ≤ (x6_2 : Int) := of_decide_eq_true (by first | (with_reducible assumption) | assumption); have q306 : x6_2 < (l0.length : Int) := of_decide_eq_true (by first | (with_reducible assumption) | assumption); obtain ⟨ad306, e306, hx306_0, hx306_1, hx306_2⟩ := at_T37 HR0.out x6_2 p306 q306; obtain rfl : ad298 = ad306 := (by injection e306); replace hx306_0 := (HB.out.cell (World.block_lt_of_cell? w _ hx306_0)).trans hx306_0; replace hx306_1 := (HB.out.cell (World.block_lt_of_cell? w _ hx306_1)).trans hx306_1; replace hx306_2 := (HB.out.cell (World.block_lt_of_cell? w _ hx306_2)).trans hx306_2; replace p306 := eq_true p306; replace q306 := eq_true q306; have hcz30_0 : w29.cell? ⟨gb297, 0, none⟩ = some (.string a1_0) := (blk_cell BK297.out 0).trans rfl; have hcz30_1 : w29.cell? ⟨gb297, 1, none⟩ = some (.string x298001_2) := (blk_cell BK297.out 1).trans rfl; have hcz30_2 : w29.cell? ⟨gb297, 2, none⟩ = some (.bool a1_2) := (blk_cell BK297.out 2).trans rfl; have hfz30_0 := blk_frozen BK297.out 0; have hfz30_1 := blk_frozen BK297.out 1; have hfz30_2 := blk_frozen BK297.out 2; have q31 : (x6_2 : Int) ≤ ((l0.length : Int) : Int) := of_decide_eq_true (by first | (with_reducible assumption) | assumption); obtain ⟨i031, hi031, _, hsz31, _⟩ := info_parts info37; have hroom31 : l0.length ≤ c0 := HC0.out; have hC31 : Kd.C k37 _ (some ad298) l0.length l0 := HR0.out; have q031 : (0 : Int) ≤ (x6_2 : Int) := of_decide_eq_true (by first | (with_reducible assumption) | assumption); have hcut31 := cut_from (P := Try.prog) 25 37 .i64 Try.underlying25 hi031 3 hsz31 (some ad298) l0.length c0 x6_2 q031 q31; have hr31 := Kd.C_drop (m := (x6_2 : Int).toNat) (c := c0) hC31 (by omega) hroom31; obtain ⟨A31, hA31⟩ : ∃ A1, A1 = (if c0 = (x6_2 : Int).toNat then (some ad298) else ((some ad298) : Option Addr).map (·.add ((x6_2 : Int).toNat * 3))) := ⟨_, rfl⟩; obtain ⟨c31, hc31⟩ : ∃ c1, c1 = c0 - (x6_2 : Int).toNat := ⟨_, rfl⟩; have hy31 : y314.length = l0.length - (x6_2 : Int).toNat := (by rw [Ny314.out, List.length_drop] <;> omega); rw [show (l0).drop (x6_2 : Int).toNat = y314 from Ny314.out.symm] at hr31; replace hr31 : Kd.C k37 _ A31 y314.length y314 := (by rw [hA31]; exact hr31); rw [← hy31, ← hA31, ← hc31] at hcut31; have HR317 := Aside0.mk hr31; have HC317 := Aside0.mk (show y314.length ≤ c31 from by rw [hy31, hc31]; exact Nat.sub_le_sub_right hroom31 _); clear hr31 hC31 hroom31 hi031 hsz31 hc31; have KY31 := Aside0.mk hy31; have KA31 := Aside0.mk hA31; clear hy31 hA31; replace q31 := eq_true q31) | ((with_reducible refine gate_builtin (b := .append) (xs := #[.tmp 53, .tmp 56]) rfl ?_); at_builtin; refine Kd.R_append_rows k37 (w0 := w) w.heap.size rfl (.tmp 53) (.tmp 56) 25 37 (.agg #[(.string ⟨#[]⟩), (.string ⟨#[]⟩), (.bool false)]) 40 rfl Try.underlying25 info37 rfl (by decide) (by omega) v304 y303 y314 _ _ _ (fun k_ => k_ ≠ gb297) (fun _ => False) rfl rfl ?aO ?aR (fun _ _ h => h) (fun _ h => h.elim) ?aF ?aB ?aS ?aL ?_; (case aR => repeat (first | exact (Kd.C_below HR317.out HB.out) | exact (Kd.C_drewN (Kd.C_below HR317.out HB.out) _) | exact (Kd.C_drew (Kd.C_below HR317.out HB.out)) | (with_reducible refine Kd.C_alloc ?_ _) | (with_reducible refine Kd.C_drewN ?_ _) | (with_reducible refine Kd.C_drew ?_))); (case aB => exact (hL HB.out)); (case aF => exact (fun k_ hk => Kd.freshB (g := gb297) (o := .cells #[.string a1_0, .string x298001_2, .bool a1_2] 37 (0, 0)) (bL BK297.out) k_ hk)); (case aO => exact (rL HO305.out)); (case aS => exact (below_size (hL HB.out))); (case aL => have := LMc27.out; omega); intro v319 w32 ho hb hg hat; rw [← Ny318.out] at ho; have n0_ := Aside0.mk (blk_grown (g := gb297) (o := .cells #[.string a1_0, .string x298001_2, .bool a1_2] 37 (0, 0)) (bL BK297.out) hg (Kd.R_away HO305.out (fun _ hk => hk))); have n1_ := Aside0.mk (hb); have n2_ := Aside0.mk (ho); clear BK297; clear HB; clear HO305; have BK297 := n0_; have HB := n1_; have HO320 := n2_; clear n0_ n1_ n2_; clear ho hb hg hat))
  repeat (go_quiet (first | ((with_reducible refine gate_builtin (b := .append) (xs := #[.tmp 33, .tmp 35]) rfl ?_); at_builtin; refine Kd.R_append k37 (w0 := w) w.heap.size rfl (.tmp 33) (.tmp 35) 25 37 (.agg #[(.string ⟨#[]⟩), (.string ⟨#[]⟩), (.bool false)]) 40 rfl Try.underlying25 info37 rfl (by decide) (by omega) u5 x5_2 (⟨a1_0, x298001_2, a1_2⟩ : S37) [.string a1_0, .string x298001_2, .bool a1_2] (fun k_ => k_ ≠ gb297) (fun _ => False) rfl rfl ?aP (fun _ hk => hk.elim) ?aF ?aO ?aB ?aS ?aL ?_; (case aP => exact k37_mkM _ _ _ (⟨a1_0, x298001_2, a1_2⟩ : S37)); (case aB => exact (hL HB.out)); (case aF => exact (fun k_ hk => Kd.freshB (g := gb297) (o := .cells #[.string a1_0, .string x298001_2, .bool a1_2] 37 (0, 0)) (bL BK297.out) k_ hk)); (case aO => exact (rL HO_5.out)); (case aS => exact (below_size (hL HB.out))); (case aL => have := LMc14.out; omega); intro v304 w29 ho hb hg hat; rw [← Ny303.out] at ho; have n0_ := Aside0.mk (blk_grown (g := gb297) (o := .cells #[.string a1_0, .string x298001_2, .bool a1_2] 37 (0, 0)) (bL BK297.out) hg (Kd.R_away HO_5.out (fun _ hk => hk))); have n1_ := Aside0.mk (hb); have n2_ := Aside0.mk (ho); clear BK297; clear HB; clear HO_5; have BK297 := n0_; have HB := n1_; have HO305 := n2_; clear n0_ n1_ n2_; clear ho hb hg hat; have p306 : 0 ≤ (x6_2 : Int) := of_decide_eq_true (by first | (with_reducible assumption) | assumption); have q306 : x6_2 < (l0.length : Int) := of_decide_eq_true (by first | (with_reducible assumption) | assumption); obtain ⟨ad306, e306, hx306_0, hx306_1, hx306_2⟩ := at_T37 HR0.out x6_2 p306 q306; obtain rfl : ad298 = ad306 := (by injection e306); replace hx306_0 := (HB.out.cell (World.block_lt_of_cell? w _ hx306_0)).trans hx306_0; replace hx306_1 := (HB.out.cell (World.block_lt_of_cell? w _ hx306_1)).trans hx306_1; replace hx306_2 := (HB.out.cell (World.block_lt_of_cell? w _ hx306_2)).trans hx306_2; replace p306 := eq_true p306; replace q306 := eq_true q306; have hcz30_0 : w29.cell? ⟨gb297, 0, none⟩ = some (.string a1_0) := (blk_cell BK297.out 0).trans rfl; have hcz30_1 : w29.cell? ⟨gb297, 1, none⟩ = some (.string x298001_2) := (blk_cell BK297.out 1).trans rfl; have hcz30_2 : w29.cell? ⟨gb297, 2, none⟩ = some (.bool a1_2) := (blk_cell BK297.out 2).trans rfl; have hfz30_0 := blk_frozen BK297.out 0; have hfz30_1 := blk_frozen BK297.out 1; have hfz30_2 := blk_frozen BK297.out 2; have q31 : (x6_2 : Int) ≤ ((l0.length : Int) : Int) := of_decide_eq_true (by first | (with_reducible assumption) | assumption); obtain ⟨i031, hi031, _, hsz31, _⟩ := info_parts info37; have hroom31 : l0.length ≤ c0 := HC0.out; have hC31 : Kd.C k37 _ (some ad298) l0.length l0 := HR0.out; have q031 : (0 : Int) ≤ (x6_2 : Int) := of_decide_eq_true (by first | (with_reducible assumption) | assumption); have hcut31 := cut_from (P := Try.prog) 25 37 .i64 Try.underlying25 hi031 3 hsz31 (some ad298) l0.length c0 x6_2 q031 q31; have hr31 := Kd.C_drop (m := (x6_2 : Int).toNat) (c := c0) hC31 (by omega) hroom31; obtain ⟨A31, hA31⟩ : ∃ A1, A1 = (if c0 = (x6_2 : Int).toNat then (some ad298) else ((some ad298) : Option Addr).map (·.add ((x6_2 : Int).toNat * 3))) := ⟨_, rfl⟩; obtain ⟨c31, hc31⟩ : ∃ c1, c1 = c0 - (x6_2 : Int).toNat := ⟨_, rfl⟩; have hy31 : y314.length = l0.length - (x6_2 : Int).toNat := (by rw [Ny314.out, List.length_drop] <;> omega); rw [show (l0).drop (x6_2 : Int).toNat = y314 from Ny314.out.symm] at hr31; replace hr31 : Kd.C k37 _ A31 y314.length y314 := (by rw [hA31]; exact hr31); rw [← hy31, ← hA31, ← hc31] at hcut31; have HR317 := Aside0.mk hr31; have HC317 := Aside0.mk (show y314.length ≤ c31 from by rw [hy31, hc31]; exact Nat.sub_le_sub_right hroom31 _); clear hr31 hC31 hroom31 hi031 hsz31 hc31; have KY31 := Aside0.mk hy31; have KA31 := Aside0.mk hA31; clear hy31 hA31; replace q31 := eq_true q31) | ((with_reducible refine gate_builtin (b := .append) (xs := #[.tmp 53, .tmp 56]) rfl ?_); at_builtin; refine Kd.R_append_rows k37 (w0 := w) w.heap.size rfl (.tmp 53) (.tmp 56) 25 37 (.agg #[(.string ⟨#[]⟩), (.string ⟨#[]⟩), (.bool false)]) 40 rfl Try.underlying25 info37 rfl (by decide) (by omega) v304 y303 y314 _ _ _ (fun k_ => k_ ≠ gb297) (fun _ => False) rfl rfl ?aO ?aR (fun _ _ h => h) (fun _ h => h.elim) ?aF ?aB ?aS ?aL ?_; (case aR => repeat (first | exact (Kd.C_below HR317.out HB.out) | exact (Kd.C_drewN (Kd.C_below HR317.out HB.out) _) | exact (Kd.C_drew (Kd.C_below HR317.out HB.out)) | (with_reducible refine Kd.C_alloc ?_ _) | (with_reducible refine Kd.C_drewN ?_ _) | (with_reducible refine Kd.C_drew ?_))); (case aB => exact (hL HB.out)); (case aF => exact (fun k_ hk => Kd.freshB (g := gb297) (o := .cells #[.string a1_0, .string x298001_2, .bool a1_2] 37 (0, 0)) (bL BK297.out) k_ hk)); (case aO => exact (rL HO305.out)); (case aS => exact (below_size (hL HB.out))); (case aL => have := LMc27.out; omega); intro v319 w32 ho hb hg hat; rw [← Ny318.out] at ho; have n0_ := Aside0.mk (blk_grown (g := gb297) (o := .cells #[.string a1_0, .string x298001_2, .bool a1_2] 37 (0, 0)) (bL BK297.out) hg (Kd.R_away HO305.out (fun _ hk => hk))); have n1_ := Aside0.mk (hb); have n2_ := Aside0.mk (ho); clear BK297; clear HB; clear HO305; have BK297 := n0_; have HB := n1_; have HO320 := n2_; clear n0_ n1_ n2_; clear ho hb hg hat)); try go_wp2_with (first | ((with_reducible refine gate_builtin (b := .append) (xs := #[.tmp 33, .tmp 35]) rfl ?_); at_builtin; refine Kd.R_append k37 (w0 := w) w.heap.size rfl (.tmp 33) (.tmp 35) 25 37 (.agg #[(.string ⟨#[]⟩), (.string ⟨#[]⟩), (.bool false)]) 40 rfl Try.underlying25 info37 rfl (by decide) (by omega) u5 x5_2 (⟨a1_0, x298001_2, a1_2⟩ : S37) [.string a1_0, .string x298001_2, .bool a1_2] (fun k_ => k_ ≠ gb297) (fun _ => False) rfl rfl ?aP (fun _ hk => hk.elim) ?aF ?aO ?aB ?aS ?aL ?_; (case aP => exact k37_mkM _ _ _ (⟨a1_0, x298001_2, a1_2⟩ : S37)); (case aB => exact (hL HB.out)); (case aF => exact (fun k_ hk => Kd.freshB (g := gb297) (o := .cells #[.string a1_0, .string x298001_2, .bool a1_2] 37 (0, 0)) (bL BK297.out) k_ hk)); (case aO => exact (rL HO_5.out)); (case aS => exact (below_size (hL HB.out))); (case aL => have := LMc14.out; omega); intro v304 w29 ho hb hg hat; rw [← Ny303.out] at ho; have n0_ := Aside0.mk (blk_grown (g := gb297) (o := .cells #[.string a1_0, .string x298001_2, .bool a1_2] 37 (0, 0)) (bL BK297.out) hg (Kd.R_away HO_5.out (fun _ hk => hk))); have n1_ := Aside0.mk (hb); have n2_ := Aside0.mk (ho); clear BK297; clear HB; clear HO_5; have BK297 := n0_; have HB := n1_; have HO305 := n2_; clear n0_ n1_ n2_; clear ho hb hg hat; have p306 : 0 ≤ (x6_2 : Int) := of_decide_eq_true (by first | (with_reducible assumption) | assumption); have q306 : x6_2 < (l0.length : Int) := of_decide_eq_true (by first | (with_reducible assumption) | assumption); obtain ⟨ad306, e306, hx306_0, hx306_1, hx306_2⟩ := at_T37 HR0.out x6_2 p306 q306; obtain rfl : ad298 = ad306 := (by injection e306); replace hx306_0 := (HB.out.cell (World.block_lt_of_cell? w _ hx306_0)).trans hx306_0; replace hx306_1 := (HB.out.cell (World.block_lt_of_cell? w _ hx306_1)).trans hx306_1; replace hx306_2 := (HB.out.cell (World.block_lt_of_cell? w _ hx306_2)).trans hx306_2; replace p306 := eq_true p306; replace q306 := eq_true q306; have hcz30_0 : w29.cell? ⟨gb297, 0, none⟩ = some (.string a1_0) := (blk_cell BK297.out 0).trans rfl; have hcz30_1 : w29.cell? ⟨gb297, 1, none⟩ = some (.string x298001_2) := (blk_cell BK297.out 1).trans rfl; have hcz30_2 : w29.cell? ⟨gb297, 2, none⟩ = some (.bool a1_2) := (blk_cell BK297.out 2).trans rfl; have hfz30_0 := blk_frozen BK297.out 0; have hfz30_1 := blk_frozen BK297.out 1; have hfz30_2 := blk_frozen BK297.out 2; have q31 : (x6_2 : Int) ≤ ((l0.length : Int) : Int) := of_decide_eq_true (by first | (with_reducible assumption) | assumption); obtain ⟨i031, hi031, _, hsz31, _⟩ := info_parts info37; have hroom31 : l0.length ≤ c0 := HC0.out; have hC31 : Kd.C k37 _ (some ad298) l0.length l0 := HR0.out; have q031 : (0 : Int) ≤ (x6_2 : Int) := of_decide_eq_true (by first | (with_reducible assumption) | assumption); have hcut31 := cut_from (P := Try.prog) 25 37 .i64 Try.underlying25 hi031 3 hsz31 (some ad298) l0.length c0 x6_2 q031 q31; have hr31 := Kd.C_drop (m := (x6_2 : Int).toNat) (c := c0) hC31 (by omega) hroom31; obtain ⟨A31, hA31⟩ : ∃ A1, A1 = (if c0 = (x6_2 : Int).toNat then (some ad298) else ((some ad298) : Option Addr).map (·.add ((x6_2 : Int).toNat * 3))) := ⟨_, rfl⟩; obtain ⟨c31, hc31⟩ : ∃ c1, c1 = c0 - (x6_2 : Int).toNat := ⟨_, rfl⟩; have hy31 : y314.length = l0.length - (x6_2 : Int).toNat := (by rw [Ny314.out, List.length_drop] <;> omega); rw [show (l0).drop (x6_2 : Int).toNat = y314 from Ny314.out.symm] at hr31; replace hr31 : Kd.C k37 _ A31 y314.length y314 := (by rw [hA31]; exact hr31); rw [← hy31, ← hA31, ← hc31] at hcut31; have HR317 := Aside0.mk hr31; have HC317 := Aside0.mk (show y314.length ≤ c31 from by rw [hy31, hc31]; exact Nat.sub_le_sub_right hroom31 _); clear hr31 hC31 hroom31 hi031 hsz31 hc31; have KY31 := Aside0.mk hy31; have KA31 := Aside0.mk hA31; clear hy31 hA31; replace q31 := eq_true q31) | ((with_reducible refine gate_builtin (b := .append) (xs := #[.tmp 53, .tmp 56]) rfl ?_); at_builtin; refine Kd.R_append_rows k37 (w0 := w) w.heap.size rfl (.tmp 53) (.tmp 56) 25 37 (.agg #[(.string ⟨#[]⟩), (.string ⟨#[]⟩), (.bool false)]) 40 rfl Try.underlying25 info37 rfl (by decide) (by omega) v304 y303 y314 _ _ _ (fun k_ => k_ ≠ gb297) (fun _ => False) rfl rfl ?aO ?aR (fun _ _ h => h) (fun _ h => h.elim) ?aF ?aB ?aS ?aL ?_; (case aR => repeat (first | exact (Kd.C_below HR317.out HB.out) | exact (Kd.C_drewN (Kd.C_below HR317.out HB.out) _) | exact (Kd.C_drew (Kd.C_below HR317.out HB.out)) | (with_reducible refine Kd.C_alloc ?_ _) | (with_reducible refine Kd.C_drewN ?_ _) | (with_reducible refine Kd.C_drew ?_))); (case aB => exact (hL HB.out)); (case aF => exact (fun k_ hk => Kd.freshB (g := gb297) (o := .cells #[.string a1_0, .string x298001_2, .bool a1_2] 37 (0, 0)) (bL BK297.out) k_ hk)); (case aO => exact (rL HO305.out)); (case aS => exact (below_size (hL HB.out))); (case aL => have := LMc27.out; omega); intro v319 w32 ho hb hg hat; rw [← Ny318.out] at ho; have n0_ := Aside0.mk (blk_grown (g := gb297) (o := .cells #[.string a1_0, .string x298001_2, .bool a1_2] 37 (0, 0)) (bL BK297.out) hg (Kd.R_away HO305.out (fun _ hk => hk))); have n1_ := Aside0.mk (hb); have n2_ := Aside0.mk (ho); clear BK297; clear HB; clear HO305; have BK297 := n0_; have HB := n1_; have HO320 := n2_; clear n0_ n1_ n2_; clear ho hb hg hat)))
  go_ret
  exact ⟨_, by first | rfl | (simp [errW_none, errW_some] <;> rfl) | (simp [*, errW_none, errW_some] <;> rfl), by (with_reducible repeat (first | apply Kd.R_alloc | apply Kd.R_drewN | apply Kd.R_drew)); exact Kd.R_mono HO320.out (fun _ hk => trivial), hL HB.out⟩
 rw [if_pos c15] at H
 have c15b0 : (((rd_T37 l0 x6_2).f0).toList == a1_0.toList) = true := beq_iff_eq.mpr c15
 have c15b1 : (((rd_T37 l0 x6_2).f0).toList != a1_0.toList) = false := bne_eq_false_iff_eq.mpr c15
 clear c15
 obtain ⟨ji16, hji16⟩ : ∃ j_ : Int, (wrap64 (x6_2 + 1)) = j_ := ⟨_, rfl⟩
 replace H : (if 0 ≤ (ji16) then (if (ji16) ≤ (l0.length : Int) then ((some (l0.drop ((ji16) : Int).toNat : List (S37))).bind fun y307 => (if y303.length + y307.length < 3518437208883 then (some (y303 ++ y307)) else (none))) else (none)) else (none)) = some r := by first | (rw [hji16] at H; exact H) | (simp only [hji16] at H ⊢; exact H)
 have hji16w : (IntKind.i64.wrap (x6_2 + 1)) = ji16 := (i64_w _).trans hji16
 by_cases c17 : 0 ≤ (ji16)
 rotate_left
 ·rw [if_neg c17] at H
  exact absurd H (by simp)
 rw [if_pos c17] at H
 have c17b0 := eq_true c17
 have c17b1 : decide (0 ≤ (ji16)) = true := decide_eq_true c17
 clear c17
 by_cases c18 : (ji16) ≤ (l0.length : Int)
 rotate_left
 ·rw [if_neg c18] at H
  exact absurd H (by simp)
 rw [if_pos c18] at H
 have c18b0 := eq_true c18
 have c18b1 : decide ((ji16) ≤ (l0.length : Int)) = true := decide_eq_true c18
 clear c18
 obtain ⟨y307, hy307⟩ : ∃ y_ : List (S37), y_ = (l0.drop ((ji16) : Int).toNat) := ⟨_, rfl⟩
 replace H : (if y303.length + y307.length < 3518437208883 then (some (y303 ++ y307)) else (none)) = some r := by first | (rw [hy307]; with_reducible exact H) | (have H2_ := (Option.bind_some _ _).symm.trans H; rw [hy307]; with_reducible exact H2_) | (have H2_ := (Option.bind_some _ _).symm.trans H; with_reducible exact H2_) | with_reducible exact H | (rw [hy307]; exact H) | exact H
 have Ny307 := Aside0.mk hy307
 clear hy307
 by_cases c19 : y303.length + y307.length < 3518437208883
 rotate_left
 ·rw [if_neg c19] at H
  exact absurd H (by simp)
 rw [if_pos c19] at H
 have LMc19 := Aside0.mk c19
 clear c19
 obtain ⟨y311, hy311⟩ : ∃ y_ : List (S37), y_ = (y303 ++ y307) := ⟨_, rfl⟩
 replace H : (some y311) = some r := by first | (rw [hy311]; with_reducible exact H) | (have H2_ := (Option.bind_some _ _).symm.trans H; rw [hy311]; with_reducible exact H2_) | (have H2_ := (Option.bind_some _ _).symm.trans H; with_reducible exact H2_) | with_reducible exact H | (rw [hy311]; exact H) | exact H
 have Ny311 := Aside0.mk hy311
 clear hy311
 obtain rfl := Option.some.inj H
 simp only [Option.some.injEq, Prod.mk.injEq] at H
 obtain ⟨rfl⟩ := H
 have p298 : 0 ≤ (x6_2 : Int) := of_decide_eq_true (by first | (with_reducible assumption) | assumption)
 have q298 : x6_2 < (l0.length : Int) := of_decide_eq_true (by first | (with_reducible assumption) | assumption)
 obtain ⟨ad298, e298, hx298_0, hx298_1, hx298_2⟩ := at_T37 HR0.out x6_2 p298 q298
 cases e298
 replace hx298_0 := (HB.out.cell (World.block_lt_of_cell? w _ hx298_0)).trans hx298_0
 replace hx298_1 := (HB.out.cell (World.block_lt_of_cell? w _ hx298_1)).trans hx298_1
 replace hx298_2 := (HB.out.cell (World.block_lt_of_cell? w _ hx298_2)).trans hx298_2
 replace p298 := eq_true p298
 replace q298 := eq_true q298
 have hcz20_0 : wr.cell? ⟨gb297, 0, none⟩ = some (.string a1_0) := (blk_cell BK297.out 0).trans rfl
 have hcz20_1 : wr.cell? ⟨gb297, 1, none⟩ = some (.string x298001_2) := (blk_cell BK297.out 1).trans rfl
 have hcz20_2 : wr.cell? ⟨gb297, 2, none⟩ = some (.bool a1_2) := (blk_cell BK297.out 2).trans rfl
 have hfz20_0 := blk_frozen BK297.out 0
 have hfz20_1 := blk_frozen BK297.out 1
 have hfz20_2 := blk_frozen BK297.out 2
 go_wp2_with (first | ((with_reducible refine gate_builtin (b := .append) (xs := #[.tmp 33, .tmp 35]) rfl ?_); at_builtin; refine Kd.R_append k37 (w0 := w) w.heap.size rfl (.tmp 33) (.tmp 35) 25 37 (.agg #[(.string ⟨#[]⟩), (.string ⟨#[]⟩), (.bool false)]) 40 rfl Try.underlying25 info37 rfl (by decide) (by omega) u5 x5_2 (⟨a1_0, x298001_2, a1_2⟩ : S37) [.string a1_0, .string x298001_2, .bool a1_2] (fun k_ => k_ ≠ gb297) (fun _ => False) rfl rfl ?aP (fun _ hk => hk.elim) ?aF ?aO ?aB ?aS ?aL ?_; (case aP => exact k37_mkM _ _ _ (⟨a1_0, x298001_2, a1_2⟩ : S37)); (case aB => exact (hL HB.out)); (case aF => exact (fun k_ hk => Kd.freshB (g := gb297) (o := .cells #[.string a1_0, .string x298001_2, .bool a1_2] 37 (0, 0)) (bL BK297.out) k_ hk)); (case aO => exact (rL HO_5.out)); (case aS => exact (below_size (hL HB.out))); (case aL => have := LMc14.out; omega); intro v304 w21 ho hb hg hat; rw [← Ny303.out] at ho; have n0_ := Aside0.mk (blk_grown (g := gb297) (o := .cells #[.string a1_0, .string x298001_2, .bool a1_2] 37 (0, 0)) (bL BK297.out) hg (Kd.R_away HO_5.out (fun _ hk => hk))); have n1_ := Aside0.mk (hb); have n2_ := Aside0.mk (ho); clear BK297; clear HB; clear HO_5; have BK297 := n0_; have HB := n1_; have HO305 := n2_; clear n0_ n1_ n2_; clear ho hb hg hat; have p306 : 0 ≤ (x6_2 : Int) := of_decide_eq_true (by first | (with_reducible assumption) | assumption); have q306 : x6_2 < (l0.length : Int) := of_decide_eq_true (by first | (with_reducible assumption) | assumption); obtain ⟨ad306, e306, hx306_0, hx306_1, hx306_2⟩ := at_T37 HR0.out x6_2 p306 q306; obtain rfl : ad298 = ad306 := (by injection e306); replace hx306_0 := (HB.out.cell (World.block_lt_of_cell? w _ hx306_0)).trans hx306_0; replace hx306_1 := (HB.out.cell (World.block_lt_of_cell? w _ hx306_1)).trans hx306_1; replace hx306_2 := (HB.out.cell (World.block_lt_of_cell? w _ hx306_2)).trans hx306_2; replace p306 := eq_true p306; replace q306 := eq_true q306; have hcz22_0 : w21.cell? ⟨gb297, 0, none⟩ = some (.string a1_0) := (blk_cell BK297.out 0).trans rfl; have hcz22_1 : w21.cell? ⟨gb297, 1, none⟩ = some (.string x298001_2) := (blk_cell BK297.out 1).trans rfl; have hcz22_2 : w21.cell? ⟨gb297, 2, none⟩ = some (.bool a1_2) := (blk_cell BK297.out 2).trans rfl; have hfz22_0 := blk_frozen BK297.out 0; have hfz22_1 := blk_frozen BK297.out 1; have hfz22_2 := blk_frozen BK297.out 2; have q23 : ((ji16) : Int) ≤ ((l0.length : Int) : Int) := of_decide_eq_true (by first | (with_reducible assumption) | assumption); obtain ⟨i023, hi023, _, hsz23, _⟩ := info_parts info37; have hroom23 : l0.length ≤ c0 := HC0.out; have hC23 : Kd.C k37 _ (some ad298) l0.length l0 := HR0.out; have q023 : (0 : Int) ≤ ((ji16) : Int) := of_decide_eq_true (by first | (with_reducible assumption) | assumption); have hcut23 := cut_from (P := Try.prog) 25 37 .i64 Try.underlying25 hi023 3 hsz23 (some ad298) l0.length c0 (ji16) q023 q23; have hr23 := Kd.C_drop (m := ((ji16) : Int).toNat) (c := c0) hC23 (by omega) hroom23; obtain ⟨A23, hA23⟩ : ∃ A1, A1 = (if c0 = ((ji16) : Int).toNat then (some ad298) else ((some ad298) : Option Addr).map (·.add (((ji16) : Int).toNat * 3))) := ⟨_, rfl⟩; obtain ⟨c23, hc23⟩ : ∃ c1, c1 = c0 - ((ji16) : Int).toNat := ⟨_, rfl⟩; have hy23 : y307.length = l0.length - ((ji16) : Int).toNat := (by rw [Ny307.out, List.length_drop] <;> omega); rw [show (l0).drop ((ji16) : Int).toNat = y307 from Ny307.out.symm] at hr23; replace hr23 : Kd.C k37 _ A23 y307.length y307 := (by rw [hA23]; exact hr23); rw [← hy23, ← hA23, ← hc23] at hcut23; have HR310 := Aside0.mk hr23; have HC310 := Aside0.mk (show y307.length ≤ c23 from by rw [hy23, hc23]; exact Nat.sub_le_sub_right hroom23 _); clear hr23 hC23 hroom23 hi023 hsz23 hc23; have KY23 := Aside0.mk hy23; have KA23 := Aside0.mk hA23; clear hy23 hA23; replace q23 := eq_true q23) | ((with_reducible refine gate_builtin (b := .append) (xs := #[.tmp 53, .tmp 56]) rfl ?_); at_builtin; refine Kd.R_append_rows k37 (w0 := w) w.heap.size rfl (.tmp 53) (.tmp 56) 25 37 (.agg #[(.string ⟨#[]⟩), (.string ⟨#[]⟩), (.bool false)]) 40 rfl Try.underlying25 info37 rfl (by decide) (by omega) v304 y303 y307 _ _ _ (fun k_ => k_ ≠ gb297) (fun _ => False) rfl rfl ?aO ?aR (fun _ _ h => h) (fun _ h => h.elim) ?aF ?aB ?aS ?aL ?_; (case aR => repeat (first | exact (Kd.C_below HR310.out HB.out) | exact (Kd.C_drewN (Kd.C_below HR310.out HB.out) _) | exact (Kd.C_drew (Kd.C_below HR310.out HB.out)) | (with_reducible refine Kd.C_alloc ?_ _) | (with_reducible refine Kd.C_drewN ?_ _) | (with_reducible refine Kd.C_drew ?_))); (case aB => exact (hL HB.out)); (case aF => exact (fun k_ hk => Kd.freshB (g := gb297) (o := .cells #[.string a1_0, .string x298001_2, .bool a1_2] 37 (0, 0)) (bL BK297.out) k_ hk)); (case aO => exact (rL HO305.out)); (case aS => exact (below_size (hL HB.out))); (case aL => have := LMc19.out; omega); intro v312 w24 ho hb hg hat; rw [← Ny311.out] at ho; have n0_ := Aside0.mk (blk_grown (g := gb297) (o := .cells #[.string a1_0, .string x298001_2, .bool a1_2] 37 (0, 0)) (bL BK297.out) hg (Kd.R_away HO305.out (fun _ hk => hk))); have n1_ := Aside0.mk (hb); have n2_ := Aside0.mk (ho); clear BK297; clear HB; clear HO305; have BK297 := n0_; have HB := n1_; have HO313 := n2_; clear n0_ n1_ n2_; clear ho hb hg hat))
 repeat (go_quiet (first | ((with_reducible refine gate_builtin (b := .append) (xs := #[.tmp 33, .tmp 35]) rfl ?_); at_builtin; refine Kd.R_append k37 (w0 := w) w.heap.size rfl (.tmp 33) (.tmp 35) 25 37 (.agg #[(.string ⟨#[]⟩), (.string ⟨#[]⟩), (.bool false)]) 40 rfl Try.underlying25 info37 rfl (by decide) (by omega) u5 x5_2 (⟨a1_0, x298001_2, a1_2⟩ : S37) [.string a1_0, .string x298001_2, .bool a1_2] (fun k_ => k_ ≠ gb297) (fun _ => False) rfl rfl ?aP (fun _ hk => hk.elim) ?aF ?aO ?aB ?aS ?aL ?_; (case aP => exact k37_mkM _ _ _ (⟨a1_0, x298001_2, a1_2⟩ : S37)); (case aB => exact (hL HB.out)); (case aF => exact (fun k_ hk => Kd.freshB (g := gb297) (o := .cells #[.string a1_0, .string x298001_2, .bool a1_2] 37 (0, 0)) (bL BK297.out) k_ hk)); (case aO => exact (rL HO_5.out)); (case aS => exact (below_size (hL HB.out))); (case aL => have := LMc14.out; omega); intro v304 w21 ho hb hg hat; rw [← Ny303.out] at ho; have n0_ := Aside0.mk (blk_grown (g := gb297) (o := .cells #[.string a1_0, .string x298001_2, .bool a1_2] 37 (0, 0)) (bL BK297.out) hg (Kd.R_away HO_5.out (fun _ hk => hk))); have n1_ := Aside0.mk (hb); have n2_ := Aside0.mk (ho); clear BK297; clear HB; clear HO_5; have BK297 := n0_; have HB := n1_; have HO305 := n2_; clear n0_ n1_ n2_; clear ho hb hg hat; have p306 : 0 ≤ (x6_2 : Int) := of_decide_eq_true (by first | (with_reducible assumption) | assumption); have q306 : x6_2 < (l0.length : Int) := of_decide_eq_true (by first | (with_reducible assumption) | assumption); obtain ⟨ad306, e306, hx306_0, hx306_1, hx306_2⟩ := at_T37 HR0.out x6_2 p306 q306; obtain rfl : ad298 = ad306 := (by injection e306); replace hx306_0 := (HB.out.cell (World.block_lt_of_cell? w _ hx306_0)).trans hx306_0; replace hx306_1 := (HB.out.cell (World.block_lt_of_cell? w _ hx306_1)).trans hx306_1; replace hx306_2 := (HB.out.cell (World.block_lt_of_cell? w _ hx306_2)).trans hx306_2; replace p306 := eq_true p306; replace q306 := eq_true q306; have hcz22_0 : w21.cell? ⟨gb297, 0, none⟩ = some (.string a1_0) := (blk_cell BK297.out 0).trans rfl; have hcz22_1 : w21.cell? ⟨gb297, 1, none⟩ = some (.string x298001_2) := (blk_cell BK297.out 1).trans rfl; have hcz22_2 : w21.cell? ⟨gb297, 2, none⟩ = some (.bool a1_2) := (blk_cell BK297.out 2).trans rfl; have hfz22_0 := blk_frozen BK297.out 0; have hfz22_1 := blk_frozen BK297.out 1; have hfz22_2 := blk_frozen BK297.out 2; have q23 : ((ji16) : Int) ≤ ((l0.length : Int) : Int) := of_decide_eq_true (by first | (with_reducible assumption) | assumption); obtain ⟨i023, hi023, _, hsz23, _⟩ := info_parts info37; have hroom23 : l0.length ≤ c0 := HC0.out; have hC23 : Kd.C k37 _ (some ad298) l0.length l0 := HR0.out; have q023 : (0 : Int) ≤ ((ji16) : Int) := of_decide_eq_true (by first | (with_reducible assumption) | assumption); have hcut23 := cut_from (P := Try.prog) 25 37 .i64 Try.underlying25 hi023 3 hsz23 (some ad298) l0.length c0 (ji16) q023 q23; have hr23 := Kd.C_drop (m := ((ji16) : Int).toNat) (c := c0) hC23 (by omega) hroom23; obtain ⟨A23, hA23⟩ : ∃ A1, A1 = (if c0 = ((ji16) : Int).toNat then (some ad298) else ((some ad298) : Option Addr).map (·.add (((ji16) : Int).toNat * 3))) := ⟨_, rfl⟩; obtain ⟨c23, hc23⟩ : ∃ c1, c1 = c0 - ((ji16) : Int).toNat := ⟨_, rfl⟩; have hy23 : y307.length = l0.length - ((ji16) : Int).toNat := (by rw [Ny307.out, List.length_drop] <;> omega); rw [show (l0).drop ((ji16) : Int).toNat = y307 from Ny307.out.symm] at hr23; replace hr23 : Kd.C k37 _ A23 y307.length y307 := (by rw [hA23]; exact hr23); rw [← hy23, ← hA23, ← hc23] at hcut23; have HR310 := Aside0.mk hr23; have HC310 := Aside0.mk (show y307.length ≤ c23 from by rw [hy23, hc23]; exact Nat.sub_le_sub_right hroom23 _); clear hr23 hC23 hroom23 hi023 hsz23 hc23; have KY23 := Aside0.mk hy23; have KA23 := Aside0.mk hA23; clear hy23 hA23; replace q23 := eq_true q23) | ((with_reducible refine gate_builtin (b := .append) (xs := #[.tmp 53, .tmp 56]) rfl ?_); at_builtin; refine Kd.R_append_rows k37 (w0 := w) w.heap.size rfl (.tmp 53) (.tmp 56) 25 37 (.agg #[(.string ⟨#[]⟩), (.string ⟨#[]⟩), (.bool false)]) 40 rfl Try.underlying25 info37 rfl (by decide) (by omega) v304 y303 y307 _ _ _ (fun k_ => k_ ≠ gb297) (fun _ => False) rfl rfl ?aO ?aR (fun _ _ h => h) (fun _ h => h.elim) ?aF ?aB ?aS ?aL ?_; (case aR => repeat (first | exact (Kd.C_below HR310.out HB.out) | exact (Kd.C_drewN (Kd.C_below HR310.out HB.out) _) | exact (Kd.C_drew (Kd.C_below HR310.out HB.out)) | (with_reducible refine Kd.C_alloc ?_ _) | (with_reducible refine Kd.C_drewN ?_ _) | (with_reducible refine Kd.C_drew ?_))); (case aB => exact (hL HB.out)); (case aF => exact (fun k_ hk => Kd.freshB (g := gb297) (o := .cells #[.string a1_0, .string x298001_2, .bool a1_2] 37 (0, 0)) (bL BK297.out) k_ hk)); (case aO => exact (rL HO305.out)); (case aS => exact (below_size (hL HB.out))); (case aL => have := LMc19.out; omega); intro v312 w24 ho hb hg hat; rw [← Ny311.out] at ho; have n0_ := Aside0.mk (blk_grown (g := gb297) (o := .cells #[.string a1_0, .string x298001_2, .bool a1_2] 37 (0, 0)) (bL BK297.out) hg (Kd.R_away HO305.out (fun _ hk => hk))); have n1_ := Aside0.mk (hb); have n2_ := Aside0.mk (ho); clear BK297; clear HB; clear HO305; have BK297 := n0_; have HB := n1_; have HO313 := n2_; clear n0_ n1_ n2_; clear ho hb hg hat)); try go_wp2_with (first | ((with_reducible refine gate_builtin (b := .append) (xs := #[.tmp 33, .tmp 35]) rfl ?_); at_builtin; refine Kd.R_append k37 (w0 := w) w.heap.size rfl (.tmp 33) (.tmp 35) 25 37 (.agg #[(.string ⟨#[]⟩), (.string ⟨#[]⟩), (.bool false)]) 40 rfl Try.underlying25 info37 rfl (by decide) (by omega) u5 x5_2 (⟨a1_0, x298001_2, a1_2⟩ : S37) [.string a1_0, .string x298001_2, .bool a1_2] (fun k_ => k_ ≠ gb297) (fun _ => False) rfl rfl ?aP (fun _ hk => hk.elim) ?aF ?aO ?aB ?aS ?aL ?_; (case aP => exact k37_mkM _ _ _ (⟨a1_0, x298001_2, a1_2⟩ : S37)); (case aB => exact (hL HB.out)); (case aF => exact (fun k_ hk => Kd.freshB (g := gb297) (o := .cells #[.string a1_0, .string x298001_2, .bool a1_2] 37 (0, 0)) (bL BK297.out) k_ hk)); (case aO => exact (rL HO_5.out)); (case aS => exact (below_size (hL HB.out))); (case aL => have := LMc14.out; omega); intro v304 w21 ho hb hg hat; rw [← Ny303.out] at ho; have n0_ := Aside0.mk (blk_grown (g := gb297) (o := .cells #[.string a1_0, .string x298001_2, .bool a1_2] 37 (0, 0)) (bL BK297.out) hg (Kd.R_away HO_5.out (fun _ hk => hk))); have n1_ := Aside0.mk (hb); have n2_ := Aside0.mk (ho); clear BK297; clear HB; clear HO_5; have BK297 := n0_; have HB := n1_; have HO305 := n2_; clear n0_ n1_ n2_; clear ho hb hg hat; have p306 : 0 ≤ (x6_2 : Int) := of_decide_eq_true (by first | (with_reducible assumption) | assumption); have q306 : x6_2 < (l0.length : Int) := of_decide_eq_true (by first | (with_reducible assumption) | assumption); obtain ⟨ad306, e306, hx306_0, hx306_1, hx306_2⟩ := at_T37 HR0.out x6_2 p306 q306; obtain rfl : ad298 = ad306 := (by injection e306); replace hx306_0 := (HB.out.cell (World.block_lt_of_cell? w _ hx306_0)).trans hx306_0; replace hx306_1 := (HB.out.cell (World.block_lt_of_cell? w _ hx306_1)).trans hx306_1; replace hx306_2 := (HB.out.cell (World.block_lt_of_cell? w _ hx306_2)).trans hx306_2; replace p306 := eq_true p306; replace q306 := eq_true q306; have hcz22_0 : w21.cell? ⟨gb297, 0, none⟩ = some (.string a1_0) := (blk_cell BK297.out 0).trans rfl; have hcz22_1 : w21.cell? ⟨gb297, 1, none⟩ = some (.string x298001_2) := (blk_cell BK297.out 1).trans rfl; have hcz22_2 : w21.cell? ⟨gb297, 2, none⟩ = some (.bool a1_2) := (blk_cell BK297.out 2).trans rfl; have hfz22_0 := blk_frozen BK297.out 0; have hfz22_1 := blk_frozen BK297.out 1; have hfz22_2 := blk_frozen BK297.out 2; have q23 : ((ji16) : Int) ≤ ((l0.length : Int) : Int) := of_decide_eq_true (by first | (with_reducible assumption) | assumption); obtain ⟨i023, hi023, _, hsz23, _⟩ := info_parts info37; have hroom23 : l0.length ≤ c0 := HC0.out; have hC23 : Kd.C k37 _ (some ad298) l0.length l0 := HR0.out; have q023 : (0 : Int) ≤ ((ji16) : Int) := of_decide_eq_true (by first | (with_reducible assumption) | assumption); have hcut23 := cut_from (P := Try.prog) 25 37 .i64 Try.underlying25 hi023 3 hsz23 (some ad298) l0.length c0 (ji16) q023 q23; have hr23 := Kd.C_drop (m := ((ji16) : Int).toNat) (c := c0) hC23 (by omega) hroom23; obtain ⟨A23, hA23⟩ : ∃ A1, A1 = (if c0 = ((ji16) : Int).toNat then (some ad298) else ((some ad298) : Option Addr).map (·.add (((ji16) : Int).toNat * 3))) := ⟨_, rfl⟩; obtain ⟨c23, hc23⟩ : ∃ c1, c1 = c0 - ((ji16) : Int).toNat := ⟨_, rfl⟩; have hy23 : y307.length = l0.length - ((ji16) : Int).toNat := (by rw [Ny307.out, List.length_drop] <;> omega); rw [show (l0).drop ((ji16) : Int).toNat = y307 from Ny307.out.symm] at hr23; replace hr23 : Kd.C k37 _ A23 y307.length y307 := (by rw [hA23]; exact hr23); rw [← hy23, ← hA23, ← hc23] at hcut23; have HR310 := Aside0.mk hr23; have HC310 := Aside0.mk (show y307.length ≤ c23 from by rw [hy23, hc23]; exact Nat.sub_le_sub_right hroom23 _); clear hr23 hC23 hroom23 hi023 hsz23 hc23; have KY23 := Aside0.mk hy23; have KA23 := Aside0.mk hA23; clear hy23 hA23; replace q23 := eq_true q23) | ((with_reducible refine gate_builtin (b := .append) (xs := #[.tmp 53, .tmp 56]) rfl ?_); at_builtin; refine Kd.R_append_rows k37 (w0 := w) w.heap.size rfl (.tmp 53) (.tmp 56) 25 37 (.agg #[(.string ⟨#[]⟩), (.string ⟨#[]⟩), (.bool false)]) 40 rfl Try.underlying25 info37 rfl (by decide) (by omega) v304 y303 y307 _ _ _ (fun k_ => k_ ≠ gb297) (fun _ => False) rfl rfl ?aO ?aR (fun _ _ h => h) (fun _ h => h.elim) ?aF ?aB ?aS ?aL ?_; (case aR => repeat (first | exact (Kd.C_below HR310.out HB.out) | exact (Kd.C_drewN (Kd.C_below HR310.out HB.out) _) | exact (Kd.C_drew (Kd.C_below HR310.out HB.out)) | (with_reducible refine Kd.C_alloc ?_ _) | (with_reducible refine Kd.C_drewN ?_ _) | (with_reducible refine Kd.C_drew ?_))); (case aB => exact (hL HB.out)); (case aF => exact (fun k_ hk => Kd.freshB (g := gb297) (o := .cells #[.string a1_0, .string x298001_2, .bool a1_2] 37 (0, 0)) (bL BK297.out) k_ hk)); (case aO => exact (rL HO305.out)); (case aS => exact (below_size (hL HB.out))); (case aL => have := LMc19.out; omega); intro v312 w24 ho hb hg hat; rw [← Ny311.out] at ho; have n0_ := Aside0.mk (blk_grown (g := gb297) (o := .cells #[.string a1_0, .string x298001_2, .bool a1_2] 37 (0, 0)) (bL BK297.out) hg (Kd.R_away HO305.out (fun _ hk => hk))); have n1_ := Aside0.mk (hb); have n2_ := Aside0.mk (ho); clear BK297; clear HB; clear HO305; have BK297 := n0_; have HB := n1_; have HO313 := n2_; clear n0_ n1_ n2_; clear ho hb hg hat)))
 go_ret
 exact ⟨_, by first | rfl | (simp [errW_none, errW_some] <;> rfl) | (simp only [← hji16]; first | rfl | (simp [errW_none, errW_some] <;> rfl)) | (simp [*, errW_none, errW_some] <;> rfl), by (with_reducible repeat (first | apply Kd.R_alloc | apply Kd.R_drewN | apply Kd.R_drew)); exact Kd.R_mono HO313.out (fun _ hk => trivial), hL HB.out⟩

end Go.Proofs.Ytkkfkccfnfjbiaa.PGr
