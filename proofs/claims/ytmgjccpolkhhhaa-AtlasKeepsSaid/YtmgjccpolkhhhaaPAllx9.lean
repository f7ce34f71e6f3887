-- Written by a program of this session for this claim (mp.py, over the kit's print); Lean checks it.
import Derived.Test.YtmgjccpolkhhhaaPAllx0
import Derived.Test.YtmgjccpolkhhhaaPAllx4
import Derived.Test.YtmgjccpolkhhhaaPAllx8
namespace Go.Proofs.Ytmgjccpolkhhhaa.PAll
open Go.RowKit Go.Proofs.YtmgjccpolkhhhaaW.PrintWords Go.Proofs.YtmgjccpolkhhhaaW.PrintLast Go.Proofs.YtmgjccpolkhhhaaW.PrintMore Go.Proofs.Ytmgjccpolkhhhaa.Fv Go.Proofs.Ytmgjccpolkhhhaa.Hl
attribute [local go_sem] max2_int min2_int max_two min_two max_three min_three max_four min_four str_gtr str_leq str_geq cell_set2   -- for this text's walks alone
set_option linter.unusedVariables false
set_option linter.unusedSimpArgs false

/-! ### atlas_Pack: function 25 -/
def atlas_Pack.l0 : Nat → List Int → List (S46) → Int → Int → Option (ByteArray × Int)
 | 0, _, _, _, _ => none
 | k + 1, x5, x23, x24, x25 => if x25 < x24 then (if 0 ≤ x25 then (if x25 < (x23.length : Int) then ((pack_Text.f k ((rd_T46 x23 x25).f0)).bind fun t173 => ((pack_Num.f k ((rd_T46 x23 x25).f1)).bind fun t176 => ((pack_Join.f k (([t173, t176] : List (List Int)))).bind fun t182 => (if x5.length + t182.length < 140737488355328 then (atlas_Pack.l0 k (x5 ++ t182) x23 x24 (wrap64 (x25 + 1))) else (none))))) else (none)) else (none)) else (some (strOfNums x5, 0))
def atlas_Pack.f (k : Nat) (a0_0 : Int) (l0_1 : List (S46)) : Option (ByteArray × Int) := (atlas_Check.f k a0_0 l0_1).bind fun t158 => (if t158 = 0 then ((pack_Num.f k a0_0).bind fun t159 => ((pack_Num.f k (l0_1.length : Int)).bind fun t162 => ((pack_Join.f k (([t159, t162] : List (List Int)))).bind fun t168 => (atlas_Pack.l0 k t168 l0_1 (l0_1.length : Int) 0)))) else (some ((⟨#[]⟩ : ByteArray), t158)))
theorem atlas_Pack.mono_l : ∀ k, (∀ y0 y1 y2 y3, LeO (atlas_Pack.l0 k y0 y1 y2 y3) (atlas_Pack.l0 (k + 1) y0 y1 y2 y3))
 | 0 => fun _ _ _ _ r h => by simp [atlas_Pack.l0] at h
 | k + 1 => by
  have ih0 := atlas_Pack.mono_l k
  ·intro y0 y1 y2 y3
   unfold atlas_Pack.l0
   repeat' first
   | (with_reducible exact ih0 _ _ _ _)
   | (with_reducible exact atlas_Check.mono _ _ _)
   | (with_reducible exact pack_Join.mono _ _)
   | (with_reducible exact pack_Num.mono _ _)
   | (with_reducible exact pack_Text.mono _ _)
   | (with_reducible exact LeO.refl _)
   | (with_reducible exact LeO.none _)
   | (with_reducible refine LeO.ite ?_ ?_)
   | (with_reducible refine LeO.bind ?_ (fun _ => ?_))
   | exact ih0 _ _ _ _
   | exact atlas_Check.mono _ _ _
   | exact pack_Join.mono _ _
   | exact pack_Num.mono _ _
   | exact pack_Text.mono _ _
   | exact LeO.none _
   | refine LeO.ite ?_ ?_
   | refine LeO.bind ?_ (fun _ => ?_)
theorem atlas_Pack.mono : ∀ a0 a1 k, LeO (atlas_Pack.f k a0 a1) (atlas_Pack.f (k + 1) a0 a1) := by
 intro a0 a1 k
 have ih0 := atlas_Pack.mono_l k
 unfold atlas_Pack.f
 repeat' first
   | (with_reducible exact ih0 _ _ _ _)
   | (with_reducible exact atlas_Check.mono _ _ _)
   | (with_reducible exact pack_Join.mono _ _)
   | (with_reducible exact pack_Num.mono _ _)
   | (with_reducible exact pack_Text.mono _ _)
   | (with_reducible exact LeO.refl _)
   | (with_reducible exact LeO.none _)
   | (with_reducible refine LeO.ite ?_ ?_)
   | (with_reducible refine LeO.bind ?_ (fun _ => ?_))
   | exact ih0 _ _ _ _
   | exact atlas_Check.mono _ _ _
   | exact pack_Join.mono _ _
   | exact pack_Num.mono _ _
   | exact pack_Text.mono _ _
   | exact LeO.none _
   | refine LeO.ite ?_ ?_
   | refine LeO.bind ?_ (fun _ => ?_)
def atlas_Pack.T4 : Bool × List (List Nat × List Nat) := (true, [([], []), ([0], [0]), ([1], [1]), ([], []), ([3], [3]), ([4], [4]), ([5, 2], [5]), ([2, 6], [2, 6]), ([7, 6], [7]), ([8, 8, 0, 1, 2, 3, 4, 5, 6, 7, 8], [8])])
def atlas_Pack.B4 : List Nat := [0, 1, 3, 0, 8, 24, 63, 127, 255, 511]
theorem atlas_Pack.tab4 : rtab .any (opsOf Try.f25 4) = atlas_Pack.T4 := by kernel_rfl
theorem atlas_Pack.bits4 : waitsOk atlas_Pack.T4.2 atlas_Pack.B4 = true := by kernel_rfl
def atlas_Pack.T8 : Bool × List (List Nat × List Nat) := (true, [([], []), ([], []), ([1], [1]), ([2], [2]), ([], []), ([4], [4]), ([5, 3], [5]), ([3, 6], [3, 6]), ([7, 6], [7]), ([0, 8, 8], [0, 8]), ([9, 9, 0, 1, 2, 3, 4, 5, 6, 7, 8, 9], [0, 9])])
def atlas_Pack.B8 : List Nat := [0, 0, 2, 6, 0, 16, 62, 126, 254, 511, 1023]
theorem atlas_Pack.tab8 : rtab .any (opsOf Try.f25 8) = atlas_Pack.T8 := by kernel_rfl
theorem atlas_Pack.bits8 : waitsOk atlas_Pack.T8.2 atlas_Pack.B8 = true := by kernel_rfl
set_option maxHeartbeats 8000000 in
set_option maxRecDepth 100000 in
theorem atlas_Pack.calls (k : Nat) (a0_0 : Int) (A0_1 : Option Addr) (c0_1 : Nat) (l0_1 : List (S46)) (r1 : ByteArray) (r2 : Int) (w : World) (hr0_1 : Kd.C k46 w A0_1 l0_1.length l0_1) (hc0_1 : l0_1.length ≤ c0_1) (h : atlas_Pack.f k a0_0 l0_1 = some (r1, r2)) :
  Calls Try.prog 25 #[.agg #[.int .i64 a0_0, .slice A0_1 l0_1.length c0_1]] w fun e w' => e = .returned (.tuple #[.string r1, .int .i64 r2]) ∧ Below w.heap.size w w' := by
 have hu24 := Try.underlying24
 have hu46 := Try.underlying46
 have HR0_1 := Aside0.mk hr0_1
 have HC0_1 := Aside0.mk hc0_1
 clear hr0_1 hc0_1
 have HB := Aside0.mk (Below.refl w.heap.size w)
 have H : ((atlas_Check.f k a0_0 l0_1).bind fun t158 => (if t158 = 0 then ((pack_Num.f k a0_0).bind fun t159 => ((pack_Num.f k (l0_1.length : Int)).bind fun t162 => ((pack_Join.f k (([t159, t162] : List (List Int)))).bind fun t168 => (atlas_Pack.l0 k t168 l0_1 (l0_1.length : Int) 0)))) else (some ((⟨#[]⟩ : ByteArray), t158)))) = some (r1, r2) := h
 clear h
 replace H := Option.bind_eq_some_iff.mp H
 obtain ⟨t158, A20, H⟩ := H
 replace H : (if t158 = 0 then ((pack_Num.f k a0_0).bind fun t159 => ((pack_Num.f k (l0_1.length : Int)).bind fun t162 => ((pack_Join.f k (([t159, t162] : List (List Int)))).bind fun t168 => (atlas_Pack.l0 k t168 l0_1 (l0_1.length : Int) 0)))) else (some ((⟨#[]⟩ : ByteArray), t158))) = some (r1, r2) := H
 have A2 := Aside0.mk A20
 clear A20
 by_cases c3 : t158 = 0
 rotate_left
 ·rw [if_neg c3] at H
  have c3b0 : (t158 == 0) = false := beq_eq_false_iff_ne.mpr c3
  have c3b1 : (t158 != 0) = true := bne_iff_ne.mpr c3
  simp only [Option.some.injEq, Prod.mk.injEq] at H
  obtain ⟨rfl, rfl⟩ := H
  go_enter Try.func25, Try.ntmps25
  go_wp2_with (first | ((with_reducible refine gate_dst (N := 1) rfl ?_); refine box_event ?hg (N := 1) ?hd (cs := #[.int .i64 a0_0, .slice A0_1 l0_1.length c0_1]) (t := 24) ?hr ?_; (case hd => rfl); (case hg => rfl); (case hr => first | (go_simp; done) | (go_simp; rfl)); intro gb157 hg w43 hbox hb; have n0_ := Aside0.mk (below_step (hL HB.out) hb); have n1_ := Aside0.mk (hbox); have n2_ := Above.mk ((by rw [hg]; exact (below_size (hL HB.out)) : w.heap.size ≤ gb157)); have n3_ := Above.mk ((by rw [hg]; exact (below_size (hL HB.out)) : w.heap.size ≤ gb157)); clear HB; have HB := n0_; have BK157 := n1_; have GW157 := n2_; have GE157 := n3_; clear n0_ n1_ n2_ n3_; clear hb hbox hg; have hcz44_0 : w43.cell? ⟨gb157, 0, none⟩ = some (.int .i64 a0_0) := (blk_cell BK157.out 0).trans rfl; have hcz44_1 : w43.cell? ⟨gb157, 1, none⟩ = some (.slice A0_1 l0_1.length c0_1) := (blk_cell BK157.out 1).trans rfl; have hfz44_0 := blk_frozen BK157.out 0; have hfz44_1 := blk_frozen BK157.out 1) | ((with_reducible refine gate_callee (f := 17) rfl ?_); refine goesL_ (some 9) rfl rfl Try.func17 (by kernel_rfl) rfl #[.agg #[.int .i64 a0_0, .slice A0_1 l0_1.length c0_1]] rfl (by (try simp only [List.map_toArray, List.map_cons, List.map_nil]); first | done | rfl | (simp only [List.length_drop, List.length_take]; rfl)) ?_; (with_reducible refine (atlas_Check.calls k a0_0 _ _ l0_1 t158 _ ?side1 ?side2 A2.out).mono ?_); (case side1 => repeat (first | exact (Kd.C_below HR0_1.out HB.out) | (with_reducible refine Kd.C_alloc ?_ _) | (with_reducible refine Kd.C_drewN ?_ _) | (with_reducible refine Kd.C_drew ?_))); (case side2 => exact HC0_1.out); rintro e w45 ⟨rfl, hb⟩; refine ⟨_, rfl, ?_⟩; have n0_ := Aside0.mk (blk_below BK157.out hb); have n1_ := Aside0.mk (below_step (hL HB.out) hb); clear BK157; clear HB; have BK157 := n0_; have HB := n1_; clear n0_ n1_; (try clear hb); (try clear hb2); (try clear hk); (try clear hi)))
  go_ret2
  exact ⟨by first | rfl | (simp [errW_none, errW_some] <;> rfl) | (simp [*, errW_none, errW_some] <;> rfl), hL HB.out⟩
 rw [if_pos c3] at H
 have c3b0 : (t158 == 0) = true := beq_iff_eq.mpr c3
 have c3b1 : (t158 != 0) = false := bne_eq_false_iff_eq.mpr c3
 clear c3
 replace H := Option.bind_eq_some_iff.mp H
 obtain ⟨t159, A40, H⟩ := H
 replace H : ((pack_Num.f k (l0_1.length : Int)).bind fun t162 => ((pack_Join.f k (([t159, t162] : List (List Int)))).bind fun t168 => (atlas_Pack.l0 k t168 l0_1 (l0_1.length : Int) 0))) = some (r1, r2) := H
 have A4 := Aside0.mk A40
 clear A40
 replace H := Option.bind_eq_some_iff.mp H
 obtain ⟨t162, A50, H⟩ := H
 replace H : ((pack_Join.f k (([t159, t162] : List (List Int)))).bind fun t168 => (atlas_Pack.l0 k t168 l0_1 (l0_1.length : Int) 0)) = some (r1, r2) := H
 have A5 := Aside0.mk A50
 clear A50
 obtain ⟨y165, hy165⟩ : ∃ y_ : List (List Int), y_ = (([t159, t162] : List (List Int))) := ⟨_, rfl⟩
 replace H : ((pack_Join.f k y165).bind fun t168 => (atlas_Pack.l0 k t168 l0_1 (l0_1.length : Int) 0)) = some (r1, r2) := by first | (rw [hy165]; with_reducible exact H) | (have H2_ := (Option.bind_some _ _).symm.trans H; rw [hy165]; with_reducible exact H2_) | (have H2_ := (Option.bind_some _ _).symm.trans H; with_reducible exact H2_) | with_reducible exact H | (rw [hy165]; exact H) | exact H
 have Ny165 := Aside0.mk hy165
 clear hy165
 replace H := Option.bind_eq_some_iff.mp H
 obtain ⟨t168, A60, H⟩ := H
 replace H : (atlas_Pack.l0 k t168 l0_1 (l0_1.length : Int) 0) = some (r1, r2) := H
 have A6 := Aside0.mk A60
 clear A60
 have H' := Aside0.mk H
 clear H
 go_enter Try.func25, Try.ntmps25
 try go_wp2_with (first | ((with_reducible refine gate_dst (N := 1) rfl ?_); refine box_event ?hg (N := 1) ?hd (cs := #[.int .i64 a0_0, .slice A0_1 l0_1.length c0_1]) (t := 24) ?hr ?_; (case hd => rfl); (case hg => rfl); (case hr => first | (go_simp; done) | (go_simp; rfl)); intro gb157 hg w7 hbox hb; have n0_ := Aside0.mk (below_step (hL HB.out) hb); have n1_ := Aside0.mk (hbox); have n2_ := Above.mk ((by rw [hg]; exact (below_size (hL HB.out)) : w.heap.size ≤ gb157)); have n3_ := Above.mk ((by rw [hg]; exact (below_size (hL HB.out)) : w.heap.size ≤ gb157)); clear HB; have HB := n0_; have BK157 := n1_; have GW157 := n2_; have GE157 := n3_; clear n0_ n1_ n2_ n3_; clear hb hbox hg; have hcz8_0 : w7.cell? ⟨gb157, 0, none⟩ = some (.int .i64 a0_0) := (blk_cell BK157.out 0).trans rfl; have hcz8_1 : w7.cell? ⟨gb157, 1, none⟩ = some (.slice A0_1 l0_1.length c0_1) := (blk_cell BK157.out 1).trans rfl; have hfz8_0 := blk_frozen BK157.out 0; have hfz8_1 := blk_frozen BK157.out 1) | ((with_reducible refine gate_callee (f := 17) rfl ?_); refine goesL_ (some 9) rfl rfl Try.func17 (by kernel_rfl) rfl #[.agg #[.int .i64 a0_0, .slice A0_1 l0_1.length c0_1]] rfl (by (try simp only [List.map_toArray, List.map_cons, List.map_nil]); first | done | rfl | (simp only [List.length_drop, List.length_take]; rfl)) ?_; (with_reducible refine (atlas_Check.calls k a0_0 _ _ l0_1 t158 _ ?side1 ?side2 A2.out).mono ?_); (case side1 => repeat (first | exact (Kd.C_below HR0_1.out HB.out) | (with_reducible refine Kd.C_alloc ?_ _) | (with_reducible refine Kd.C_drewN ?_ _) | (with_reducible refine Kd.C_drew ?_))); (case side2 => exact HC0_1.out); rintro e w9 ⟨rfl, hb⟩; refine ⟨_, rfl, ?_⟩; have n0_ := Aside0.mk (blk_below BK157.out hb); have n1_ := Aside0.mk (below_step (hL HB.out) hb); clear BK157; clear HB; have BK157 := n0_; have HB := n1_; clear n0_ n1_; (try clear hb); (try clear hb2); (try clear hk); (try clear hi)))
 have n0_ := Aside0.mk (blk_drew BK157.out)
 have n1_ := Aside0.mk (below_drew1 HB.out)
 clear BK157
 clear HB
 have BK157 := n0_
 have HB := n1_
 clear n0_ n1_
 refine start_ (n := 10) (S := fun w' => w'.cell? ⟨gb157, 0, none⟩ = some (.int .i64 a0_0) ∧ w'.cell? ⟨gb157, 1, none⟩ = some (.slice A0_1 l0_1.length c0_1)) (ds := []) #[false, false, false, false, false, false, false, false, false, false] (by kernel_rfl) rfl rfl ⟨(blk_cell BK157.out 0).trans rfl, (blk_cell BK157.out 1).trans rfl⟩ (fun hHeld => ?_); refine with_tabW atlas_Pack.tab4 atlas_Pack.bits4 (fun HT_ HW_ => ?_)
 generalize w9.drew = w10 at BK157 HB hHeld ⊢
 refine pure_ (i := 0) (N := some 13) (v := ?_) (a' := ?_) #[true, false, false, false, false, false, false, false, false, false] rfl rfl (any_of HT_.out (by kernel_rfl)) (fun _ _ _ h => h) (Or.inl ⟨by rfl, ?_⟩) ?_ ?_
 rotate_left
 ·intro w'
  go_simp
  with_reducible rfl
 rotate_left
 ·simp only [Act.put, sT, sZ, sS, i64_w, i32_w]
  rfl
 refine pure_ (i := 3) (N := some 16) (v := ?_) (a' := ?_) #[true, false, false, true, false, false, false, false, false, false] rfl rfl (any_of HT_.out (by kernel_rfl)) (fun _ _ _ h => h) (Or.inl ⟨by rfl, ?_⟩) ?_ ?_
 rotate_left
 ·intro w'
  go_simp
  with_reducible rfl
 rotate_left
 ·simp only [Act.put, sT, sZ, sS, i64_w, i32_w]
  rfl
 refine take_ (i := 1) (N := some 14) (v := ?_) (a' := ?_) #[true, true, false, true, false, false, false, false, false, false] rfl rfl (take_ofW HT_.out HW_.out (by kernel_rfl)) (fun _ _ _ h => h) (Or.inl ⟨by rfl, ?_⟩) hHeld ?_ ?_
 rotate_left
 ·rintro w' ⟨s0, s1⟩
  go_simp
  with_reducible rfl
 rotate_left
 ·simp only [Act.put, sT, sZ, sS, i64_w, i32_w]
  rfl
 refine take_ (i := 4) (N := some 17) (v := ?_) (a' := ?_) #[true, true, false, true, true, false, false, false, false, false] rfl rfl (take_ofW HT_.out HW_.out (by kernel_rfl)) (fun _ _ _ h => h) (Or.inl ⟨by rfl, ?_⟩) hHeld ?_ ?_
 rotate_left
 ·rintro w' ⟨s0, s1⟩
  go_simp
  with_reducible rfl
 rotate_left
 ·simp only [Act.put, sT, sZ, sS, i64_w, i32_w]
  rfl
 refine pure_ (i := 5) (N := some 18) (v := ?_) (a' := ?_) #[true, true, false, true, true, true, false, false, false, false] rfl rfl (any_of HT_.out (by kernel_rfl)) (fun _ _ _ h => h) (Or.inl ⟨by rfl, ?_⟩) ?_ ?_
 rotate_left
 ·intro w'
  go_simp
  with_reducible rfl
 rotate_left
 ·simp only [Act.put, sT, sZ, sS, i64_w, i32_w]
  rfl
 refine one_ (i := 2) (N := some 15) #[true, true, true, true, true, true, false, false, false, false] rfl rfl (one_of HT_.out (by kernel_rfl)) (by decide) (fun K hK => ?_)
 refine goes_ Try.func44 (by kernel_rfl) rfl #[.int .i64 a0_0] (by rfl) rfl rfl (by (try simp only [List.map_toArray, List.map_cons, List.map_nil]); first | done | rfl | (simp only [List.length_drop, List.length_take]; rfl)) ?_
 with_reducible refine (pack_Num.calls k a0_0 t159 _ A4.out).mono ?_
 rintro e w11 ⟨v160, rfl, ho0, hb⟩
 refine ⟨_, rfl, ?_⟩
 have n0_ := Aside0.mk (Kd.R_lower ho0 (below_size (hL HB.out)))
 have n1_ := Aside0.mk (blk_below BK157.out hb)
 have n2_ := Aside0.mk (below_step (hL HB.out) hb)
 clear BK157
 clear HB
 have HO161 := n0_
 have BK157 := n1_
 have HB := n2_
 clear n0_ n1_ n2_
 (try clear hb)
 (try clear hb2)
 (try clear hk)
 (try clear hi)
 (try clear ho0)
 refine hK.out _ _ ⟨(blk_cell BK157.out 0).trans rfl, (blk_cell BK157.out 1).trans rfl⟩ (fun hHeld => ?_)
 clear hK K
 refine norm_ (a' := ?_) ?_ ?_
 rotate_left
 ·show Act.put _ (some 15) _ = _
  simp only [Act.put, sT, sZ, sS, i64_w, i32_w]
  rfl
 refine one_ (i := 6) (N := some 19) #[true, true, true, true, true, true, true, false, false, false] rfl rfl (one_of HT_.out (by kernel_rfl)) (by decide) (fun K hK => ?_)
 refine goes_ Try.func44 (by kernel_rfl) rfl #[.int .i64 (l0_1.length : Int)] (by rfl) rfl rfl (by (try simp only [List.map_toArray, List.map_cons, List.map_nil]); first | done | rfl | (simp only [List.length_drop, List.length_take]; rfl)) ?_
 with_reducible refine (pack_Num.calls k (l0_1.length : Int) t162 _ A5.out).mono ?_
 rintro e w12 ⟨v163, rfl, ho0, hb⟩
 refine ⟨_, rfl, ?_⟩
 have n0_ := Aside0.mk (Kd.R_elder' (rL HO161.out) (Kd.R_base ho0) hb)
 have n1_ := Aside0.mk (Kd.R_lower (Kd.R_new' ho0 (Kd.R_lt (rL HO161.out))) (below_size (hL HB.out)))
 have n2_ := Aside0.mk (blk_below BK157.out hb)
 have n3_ := Aside0.mk (below_step (hL HB.out) hb)
 clear HO161
 clear BK157
 clear HB
 have HO161 := n0_
 have HO164 := n1_
 have BK157 := n2_
 have HB := n3_
 clear n0_ n1_ n2_ n3_
 (try clear hb)
 (try clear hb2)
 (try clear hk)
 (try clear hi)
 (try clear ho0)
 obtain ⟨Ao13, co13, eo13⟩ := Kd.R_slice HO161.out
 (first | subst eo13 | (injection eo13 with f1_ f2_ f3_; have f4_ := f1_.symm; have f5_ := f3_.symm; clear f1_ f2_ f3_; subst f4_; subst f5_))
 obtain ⟨Ao14, co14, eo14⟩ := Kd.R_slice HO164.out
 (first | subst eo14 | (injection eo14 with f1_ f2_ f3_; have f4_ := f1_.symm; have f5_ := f3_.symm; clear f1_ f2_ f3_; subst f4_; subst f5_))
 refine hK.out _ _ ⟨(blk_cell BK157.out 0).trans rfl, (blk_cell BK157.out 1).trans rfl⟩ (fun hHeld => ?_)
 clear hK K
 refine norm_ (a' := ?_) ?_ ?_
 rotate_left
 ·show Act.put _ (some 19) _ = _
  simp only [Act.put, sT, sZ, sS, i64_w, i32_w]
  rfl
 refine one_ (i := 7) (N := some 20) #[true, true, true, true, true, true, true, true, false, false] rfl rfl (one_of HT_.out (by kernel_rfl)) (by decide) (fun K hK => ?_)
 refine Kd.N_lit_step (Kd.slice 5 (Kd.int .u8)) _ 59 ?hg (N' := 20) ?hd (xs := ([t159, t162] : List (List Int))) (inner := [.slice Ao13 t159.length co13, .slice Ao14 t162.length co14]) (ok := (fun k_ => k_ ≠ gb157)) (okp := (fun k_ => k_ ≠ gb157)) ?hr ?hp (fun _ hk => hk) ((show ∀ k_, w12.heap.size ≤ k_ → (fun k_ => k_ ≠ gb157) k_ from fun k_ hk => Kd.freshB (g := gb157) (o := .cells #[.int .i64 a0_0, .slice A0_1 l0_1.length c0_1] 24 (0, 0)) (bL BK157.out) k_ hk) _ (Nat.le_refl _)) (Below.refl _ _) (Nat.le_refl _) (by simp) ?_; (case hd => rfl); (case hg => rfl); (case hr => first | (go_simp; done) | (go_simp; rfl)); (case hp => exact (Reps.one (show Kd.FK (Kd.slice 5 (Kd.int .u8)) _ _ t159 [.slice Ao13 t159.length co13] from (Kd.FK_slice_mk (Kd.R_reads' (Kd.R_mono (ok' := (fun k_ => k_ ≠ gb157)) (Kd.R_types (HO161.out) BK157.out (by decide)) (fun k_ hk => hk.2))).2.1 (Kd.R_F (Kd.R_mono (ok' := (fun k_ => k_ ≠ gb157)) (Kd.R_types (HO161.out) BK157.out (by decide)) (fun k_ hk => hk.2))))) (Reps.one (show Kd.FK (Kd.slice 5 (Kd.int .u8)) _ _ t162 [.slice Ao14 t162.length co14] from (Kd.FK_slice_mk (Kd.R_reads' (Kd.R_mono (ok' := (fun k_ => k_ ≠ gb157)) (Kd.R_types (HO164.out) BK157.out (by decide)) (fun k_ hk => hk.2))).2.1 (Kd.R_F (Kd.R_mono (ok' := (fun k_ => k_ ≠ gb157)) (Kd.R_types (HO164.out) BK157.out (by decide)) (fun k_ hk => hk.2))))) (Reps.none _ _))))
 intro v166 w15 ho16 hb hg_ hnew_
 clear hg_ hnew_
 (first | rw [← Ny165.out] at ho16 | (simp only [Int.reduceToNat] at ho16; rw [← Ny165.out] at ho16))
 have n0_ := Aside0.mk (Kd.N_lower ho16 (below_size (hL HB.out)))
 have n1_ := Aside0.mk (blk_below BK157.out hb)
 have n2_ := Aside0.mk (below_step (hL HB.out) hb)
 clear BK157
 clear HB
 clear HO161
 clear HO164
 have HO167 := n0_
 have BK157 := n1_
 have HB := n2_
 clear n0_ n1_ n2_
 clear hb ho16
 obtain ⟨Ao17, co17, eo17⟩ := Kd.N_slice HO167.out
 (first | subst eo17 | (injection eo17 with f1_ f2_ f3_; have f4_ := f1_.symm; have f5_ := f3_.symm; clear f1_ f2_ f3_; subst f4_; subst f5_))
 refine hK.out _ _ ⟨(blk_cell BK157.out 0).trans rfl, (blk_cell BK157.out 1).trans rfl⟩ (fun hHeld => ?_)
 clear hK K
 refine norm_ (a' := ?_) ?_ ?_
 rotate_left
 ·show Act.put _ (some 20) _ = _
  simp only [Act.put, sT, sZ, sS, i64_w, i32_w]
  rfl
 refine one_ (i := 8) (N := some 21) #[true, true, true, true, true, true, true, true, true, false] rfl rfl (one_of HT_.out (by kernel_rfl)) (by decide) (fun K hK => ?_)
 refine goes_ Try.func43 (by kernel_rfl) rfl #[.slice Ao17 y165.length co17] (by rfl) rfl rfl (by (try simp only [List.map_toArray, List.map_cons, List.map_nil]); first | done | rfl | (simp only [List.length_drop, List.length_take]; rfl)) ?_
 with_reducible refine (pack_Join.calls k _ _ y165 t168 _ ?side1 ?side2 A6.out).mono ?_
 (case side1 => repeat (first | exact (Kd.N_reads' HO167.out).2.2 | (with_reducible refine Kd.C_alloc ?_ _) | (with_reducible refine Kd.C_drewN ?_ _) | (with_reducible refine Kd.C_drew ?_)))
 (case side2 => exact (Kd.N_reads' HO167.out).2.1)
 rintro e w18 ⟨v169, rfl, ho0, hb⟩
 refine ⟨_, rfl, ?_⟩
 have n0_ := Aside0.mk (Kd.N_elder' (nL HO167.out) (Kd.R_base ho0) hb)
 have n1_ := Aside0.mk (Kd.R_lower ho0 (below_size (hL HB.out)))
 have n2_ := Aside0.mk (blk_below BK157.out hb)
 have n3_ := Aside0.mk (below_step (hL HB.out) hb)
 clear HO167
 clear BK157
 clear HB
 have HO167 := n0_
 have HO170 := n1_
 have BK157 := n2_
 have HB := n3_
 clear n0_ n1_ n2_ n3_
 (try clear hb)
 (try clear hb2)
 (try clear hk)
 (try clear hi)
 (try clear ho0)
 refine hK.out _ _ ⟨(blk_cell BK157.out 0).trans rfl, (blk_cell BK157.out 1).trans rfl⟩ (fun hHeld => ?_)
 clear hK K
 refine norm_ (a' := ?_) ?_ ?_
 rotate_left
 ·show Act.put _ (some 21) _ = _
  simp only [Act.put, sT, sZ, sS, i64_w, i32_w]
  rfl
 refine pure_ (i := 9) (N := some 5) (v := ?_) (a' := ?_) #[true, true, true, true, true, true, true, true, true, true] rfl rfl (any_of HT_.out (by kernel_rfl)) (fun _ _ _ h => h) (Or.inl ⟨by rfl, ?_⟩) ?_ ?_
 rotate_left
 ·intro w'
  go_simp
  with_reducible rfl
 rotate_left
 ·simp only [Act.put, sT, sZ, sS, i64_w, i32_w]
  rfl
 refine done_ (done_of HT_.out (by kernel_rfl)) ?_
 have hcz19_0 : w18.cell? ⟨gb157, 0, none⟩ = some (.int .i64 a0_0) := (blk_cell BK157.out 0).trans rfl
 have hcz19_1 : w18.cell? ⟨gb157, 1, none⟩ = some (.slice A0_1 l0_1.length c0_1) := (blk_cell BK157.out 1).trans rfl
 have hfz19_0 := blk_frozen BK157.out 0
 have hfz19_1 := blk_frozen BK157.out 1
 try go_wp2
 go_loopg [5, 25] k (fun kq v5 v25 w' => ∃ (x5_1 : List Int) (x25_1 : Int), v25 = .int .i64 x25_1 ∧ Aside0 (atlas_Pack.l0 kq x5_1 l0_1 (l0_1.length : Int) x25_1 = some (r1, r2)) ∧ Aside0 (kq ≤ k) ∧ Aside0 (Kd.R (Kd.int .u8) 5 w' w.heap.size (fun _ => True) v5 x5_1) ∧ Aside0 (w'.heap[gb157]? = some (.cells #[.int .i64 a0_0, (.slice A0_1 l0_1.length c0_1)] 24 (0, 0))) ∧ Aside0 (Below w.heap.size w w'))
 case atStart => exact ⟨(t168), (0), (by first | rfl | (simp; done) | (simp [*]; done) | (simp [ne_nil_bytes]; done) | (simp [eq_nil_bytes]; done)), H', ⟨Nat.le_refl _⟩, ⟨by exact rL HO170.out⟩, ⟨by exact bL BK157.out⟩, ⟨hL HB.out⟩⟩
 clear H'
 try clear c1
 try clear c2
 try clear p2
 try clear c3
 try clear c3b0
 try clear c3b0z
 try clear c3b1
 try clear c3b1z
 try clear c4
 try clear c17
 try clear hcz19_0
 try clear hcz19_1
 try clear hcz8_0
 try clear hcz8_1
 try clear hfz19_0
 try clear hfz19_1
 try clear hfz8_0
 try clear hfz8_1
 obtain ⟨x5_1, x25_1, rfl, HA, HK1, HO_5, BK157, HB⟩ := hrel
 rcases gk with _ | k1
 ·exact absurd HA.out (by simp [atlas_Pack.l0])
 have H := HA.out
 clear HA
 simp only [atlas_Pack.l0] at H
 by_cases c20 : x25_1 < (l0_1.length : Int)
 rotate_left
 ·rw [if_neg c20] at H
  have c20b0 : decide (x25_1 < (l0_1.length : Int)) = false := decide_eq_false c20
  clear c20
  simp only [Option.some.injEq, Prod.mk.injEq] at H
  obtain ⟨rfl, rfl⟩ := H
  have hcv42 := own_string (P := Try.prog) Try.underlying59 Try.underlying5 Try.underlying9 (Kd.own_of_R HO_5.out)
  go_wp2
  go_ret2
  exact ⟨by first | rfl | (simp [errW_none, errW_some] <;> rfl) | (simp [*, errW_none, errW_some] <;> rfl), hL HB.out⟩
 rw [if_pos c20] at H
 have c20b0 : decide (x25_1 < (l0_1.length : Int)) = true := decide_eq_true c20
 clear c20
 by_cases c21 : 0 ≤ x25_1
 rotate_left
 ·rw [if_neg c21] at H
  exact absurd H (by simp)
 rw [if_pos c21] at H
 have c21b0 : decide (0 ≤ x25_1) = true := decide_eq_true c21
 clear c21
 by_cases c22 : x25_1 < (l0_1.length : Int)
 rotate_left
 ·rw [if_neg c22] at H
  exact absurd H (by simp)
 rw [if_pos c22] at H
 have c22b0 : decide (x25_1 < (l0_1.length : Int)) = true := decide_eq_true c22
 clear c22
 replace H := Option.bind_eq_some_iff.mp H
 obtain ⟨t173, A230, H⟩ := H
 replace H : ((pack_Num.f k1 ((rd_T46 l0_1 x25_1).f1)).bind fun t176 => ((pack_Join.f k1 (([t173, t176] : List (List Int)))).bind fun t182 => (if x5_1.length + t182.length < 140737488355328 then (atlas_Pack.l0 k1 (x5_1 ++ t182) l0_1 (l0_1.length : Int) (wrap64 (x25_1 + 1))) else (none)))) = some (r1, r2) := H
 have A23 := Aside0.mk A230
 clear A230
 replace H := Option.bind_eq_some_iff.mp H
 obtain ⟨t176, A240, H⟩ := H
 replace H : ((pack_Join.f k1 (([t173, t176] : List (List Int)))).bind fun t182 => (if x5_1.length + t182.length < 140737488355328 then (atlas_Pack.l0 k1 (x5_1 ++ t182) l0_1 (l0_1.length : Int) (wrap64 (x25_1 + 1))) else (none))) = some (r1, r2) := H
 have A24 := Aside0.mk A240
 clear A240
 obtain ⟨y179, hy179⟩ : ∃ y_ : List (List Int), y_ = (([t173, t176] : List (List Int))) := ⟨_, rfl⟩
 replace H : ((pack_Join.f k1 y179).bind fun t182 => (if x5_1.length + t182.length < 140737488355328 then (atlas_Pack.l0 k1 (x5_1 ++ t182) l0_1 (l0_1.length : Int) (wrap64 (x25_1 + 1))) else (none))) = some (r1, r2) := by first | (rw [hy179]; with_reducible exact H) | (have H2_ := (Option.bind_some _ _).symm.trans H; rw [hy179]; with_reducible exact H2_) | (have H2_ := (Option.bind_some _ _).symm.trans H; with_reducible exact H2_) | with_reducible exact H | (rw [hy179]; exact H) | exact H
 have Ny179 := Aside0.mk hy179
 clear hy179
 replace H := Option.bind_eq_some_iff.mp H
 obtain ⟨t182, A250, H⟩ := H
 replace H : (if x5_1.length + t182.length < 140737488355328 then (atlas_Pack.l0 k1 (x5_1 ++ t182) l0_1 (l0_1.length : Int) (wrap64 (x25_1 + 1))) else (none)) = some (r1, r2) := H
 have A25 := Aside0.mk A250
 clear A250
 by_cases c26 : x5_1.length + t182.length < 140737488355328
 rotate_left
 ·rw [if_neg c26] at H
  exact absurd H (by simp)
 rw [if_pos c26] at H
 have LMc26 := Aside0.mk c26
 clear c26
 obtain ⟨y185, hy185⟩ : ∃ y_ : List Int, y_ = (x5_1 ++ t182) := ⟨_, rfl⟩
 replace H : (atlas_Pack.l0 k1 y185 l0_1 (l0_1.length : Int) (wrap64 (x25_1 + 1))) = some (r1, r2) := by first | (rw [hy185]; with_reducible exact H) | (have H2_ := (Option.bind_some _ _).symm.trans H; rw [hy185]; with_reducible exact H2_) | (have H2_ := (Option.bind_some _ _).symm.trans H; with_reducible exact H2_) | with_reducible exact H | (rw [hy185]; exact H) | exact H
 have Ny185 := Aside0.mk hy185
 clear hy185
 have H' := Aside0.mk H
 clear H
 have p171 : 0 ≤ (x25_1 : Int) := of_decide_eq_true (by first | (with_reducible assumption) | assumption)
 have q171 : x25_1 < (l0_1.length : Int) := of_decide_eq_true (by first | (with_reducible assumption) | assumption)
 obtain ⟨ad171, e171, hx171_0, hx171_1⟩ := at_T46 HR0_1.out x25_1 p171 q171
 cases e171
 replace hx171_0 := (HB.out.cell (World.block_lt_of_cell? w _ hx171_0)).trans hx171_0
 replace hx171_1 := (HB.out.cell (World.block_lt_of_cell? w _ hx171_1)).trans hx171_1
 replace p171 := eq_true p171
 replace q171 := eq_true q171
 try go_wp2_with (first | ((with_reducible refine gate_dst (N := 7) rfl ?_); refine box_event ?hg (N := 7) ?hd (cs := #[.string (⟨#[]⟩ : ByteArray), .int .i64 0]) (t := 46) ?hr ?_; (case hd => rfl); (case hg => rfl); (case hr => first | (go_simp; done) | (go_simp; rfl)); intro gb172 hg w27 hbox hb; have n0_ := Aside0.mk (Kd.R_below (rL HO_5.out) hb); have n1_ := Aside0.mk (blk_below BK157.out hb); have n2_ := Aside0.mk (below_step (hL HB.out) hb); have n3_ := Aside0.mk (hbox); have n4_ := Above.mk ((by rw [hg]; exact (below_size (hL HB.out)) : w.heap.size ≤ gb172)); have n5_ := Above.mk ((by rw [hg]; exact (below_size (hL HB.out)) : w.heap.size ≤ gb172)); have n6_ := Aside0.mk ((by rw [hg]; exact Nat.ne_of_lt (blk_lt (g := gb157) (o := .cells #[.int .i64 a0_0, .slice (some ad171) l0_1.length c0_1] 24 (0, 0)) (bL BK157.out)) : gb157 ≠ gb172)); have n7_ := Aside0.mk ((by rw [hg]; exact Nat.ne_of_gt (blk_lt (g := gb157) (o := .cells #[.int .i64 a0_0, .slice (some ad171) l0_1.length c0_1] 24 (0, 0)) (bL BK157.out)) : gb172 ≠ gb157)); clear HO_5; clear BK157; clear HB; have HO_5 := n0_; have BK157 := n1_; have HB := n2_; have BK172 := n3_; have GW172 := n4_; have GE172 := n5_; have NB157_172 := n6_; have NB172_157 := n7_; clear n0_ n1_ n2_ n3_ n4_ n5_ n6_ n7_; clear hb hbox hg; have hnb28 := NB172_157.out; have hnc28 := NB157_172.out; have hcz29_0 : w27.cell? ⟨gb172, 0, none⟩ = some (.string (⟨#[]⟩ : ByteArray)) := (blk_cell BK172.out 0).trans rfl; have hcz29_1 : w27.cell? ⟨gb172, 1, none⟩ = some (.int .i64 0) := (blk_cell BK172.out 1).trans rfl; have hfz29_0 := blk_frozen BK172.out 0; have hfz29_1 := blk_frozen BK172.out 1))
 have n0_ : Aside0 (Kd.R (Kd.int .u8) 5 ((w27.setCell ⟨gb172, 0, none⟩ (.string ((rd_T46 l0_1 x25_1).f0))).setCell ⟨gb172, 1, none⟩ (.int .i64 ((rd_T46 l0_1 x25_1).f1))) w.heap.size (fun _ => True) u5 x5_1) := ⟨by (with_reducible repeat (first | apply Kd.R_alloc | apply Kd.R_drewN | apply Kd.R_drew)); exact Kd.R_mono (Kd.R_far (p := ⟨gb172, 1, none⟩) (Kd.R_far (p := ⟨gb172, 0, none⟩) (Kd.R_types HO_5.out BK172.out (by decide)) (fun _ hk => hk.2) (.string ((rd_T46 l0_1 x25_1).f0))) (fun _ hk => hk.2) (.int .i64 ((rd_T46 l0_1 x25_1).f1))) (fun _ hk => trivial)⟩
 have n1_ : Aside0 (((w27.setCell ⟨gb172, 0, none⟩ (.string ((rd_T46 l0_1 x25_1).f0))).setCell ⟨gb172, 1, none⟩ (.int .i64 ((rd_T46 l0_1 x25_1).f1))).heap[gb157]? = some (.cells #[.int .i64 a0_0, .slice (some ad171) l0_1.length c0_1] 24 (0, 0))) := ⟨by (with_reducible repeat (first | refine blk_drewN ?_ _ | refine blk_drew ?_ | refine blk_alloc ?_ _)); refine blk_far ?_ NB157_172.out _; (with_reducible repeat (first | refine blk_drewN ?_ _ | refine blk_drew ?_ | refine blk_alloc ?_ _)); refine blk_far ?_ NB157_172.out _; exact bL BK157.out⟩
 have n2_ : Aside0 (((w27.setCell ⟨gb172, 0, none⟩ (.string ((rd_T46 l0_1 x25_1).f0))).setCell ⟨gb172, 1, none⟩ (.int .i64 ((rd_T46 l0_1 x25_1).f1))).heap[gb172]? = some (.cells #[.string ((rd_T46 l0_1 x25_1).f0), .int .i64 ((rd_T46 l0_1 x25_1).f1)] 46 (0, 0))) := ⟨by (with_reducible repeat (first | refine blk_drewN ?_ _ | refine blk_drew ?_ | refine blk_alloc ?_ _)); refine blk_put (cs := #[.string ((rd_T46 l0_1 x25_1).f0), .int .i64 0]) ?_ 1 _ rfl; (with_reducible repeat (first | refine blk_drewN ?_ _ | refine blk_drew ?_ | refine blk_alloc ?_ _)); refine blk_put (cs := #[.string (⟨#[]⟩ : ByteArray), .int .i64 0]) ?_ 0 _ rfl; exact bL BK172.out⟩
 have n3_ : Aside0 (Below w.heap.size w ((w27.setCell ⟨gb172, 0, none⟩ (.string ((rd_T46 l0_1 x25_1).f0))).setCell ⟨gb172, 1, none⟩ (.int .i64 ((rd_T46 l0_1 x25_1).f1)))) := ⟨hL HB.out⟩
 (try clear HO_5)
 (try clear BK157)
 (try clear BK172)
 (try clear HB)
 generalize ((w27.setCell ⟨gb172, 0, none⟩ (.string ((rd_T46 l0_1 x25_1).f0))).setCell ⟨gb172, 1, none⟩ (.int .i64 ((rd_T46 l0_1 x25_1).f1))) = w30 at n0_ n1_ n2_ n3_ ⊢
 have HO_5 := n0_
 have BK157 := n1_
 have BK172 := n2_
 have HB := n3_
 clear n0_ n1_ n2_ n3_
 have n0_ := Aside0.mk (Kd.R_drew HO_5.out)
 have n1_ := Aside0.mk (blk_drew BK157.out)
 have n2_ := Aside0.mk (blk_drew BK172.out)
 have n3_ := Aside0.mk (below_drew1 HB.out)
 clear HO_5
 clear BK157
 clear BK172
 clear HB
 have HO_5 := n0_
 have BK157 := n1_
 have BK172 := n2_
 have HB := n3_
 clear n0_ n1_ n2_ n3_
 refine start_ (n := 11) (S := fun w' => w'.cell? ⟨gb172, 0, none⟩ = some (.string ((rd_T46 l0_1 x25_1).f0)) ∧ w'.cell? ⟨gb172, 1, none⟩ = some (.int .i64 ((rd_T46 l0_1 x25_1).f1))) (ds := []) #[false, false, false, false, false, false, false, false, false, false, false] (by kernel_rfl) rfl rfl ⟨(blk_cell BK172.out 0).trans rfl, (blk_cell BK172.out 1).trans rfl⟩ (fun hHeld => ?_); refine with_tabW atlas_Pack.tab8 atlas_Pack.bits8 (fun HT_ HW_ => ?_)
 generalize w30.drew = w31 at HO_5 BK157 BK172 HB hHeld ⊢
 refine pure_ (i := 0) (N := some 29) (v := ?_) (a' := ?_) #[true, false, false, false, false, false, false, false, false, false, false] rfl rfl (any_of HT_.out (by kernel_rfl)) (fun _ _ _ h => h) (Or.inl ⟨by rfl, ?_⟩) ?_ ?_
 rotate_left
 ·intro w'
  go_simp
  with_reducible rfl
 rotate_left
 ·simp only [Act.put, sT, sZ, sS, i64_w, i32_w]
  rfl
 refine pure_ (i := 1) (N := some 30) (v := ?_) (a' := ?_) #[true, true, false, false, false, false, false, false, false, false, false] rfl rfl (any_of HT_.out (by kernel_rfl)) (fun _ _ _ h => h) (Or.inl ⟨by rfl, ?_⟩) ?_ ?_
 rotate_left
 ·intro w'
  go_simp
  with_reducible rfl
 rotate_left
 ·simp only [Act.put, sT, sZ, sS, i64_w, i32_w]
  rfl
 refine pure_ (i := 4) (N := some 33) (v := ?_) (a' := ?_) #[true, true, false, false, true, false, false, false, false, false, false] rfl rfl (any_of HT_.out (by kernel_rfl)) (fun _ _ _ h => h) (Or.inl ⟨by rfl, ?_⟩) ?_ ?_
 rotate_left
 ·intro w'
  go_simp
  with_reducible rfl
 rotate_left
 ·simp only [Act.put, sT, sZ, sS, i64_w, i32_w]
  rfl
 refine take_ (i := 2) (N := some 31) (v := ?_) (a' := ?_) #[true, true, true, false, true, false, false, false, false, false, false] rfl rfl (take_ofW HT_.out HW_.out (by kernel_rfl)) (fun _ _ _ h => h) (Or.inl ⟨by rfl, ?_⟩) hHeld ?_ ?_
 rotate_left
 ·rintro w' ⟨s0, s1⟩
  go_simp
  with_reducible rfl
 rotate_left
 ·simp only [Act.put, sT, sZ, sS, i64_w, i32_w]
  rfl
 refine take_ (i := 5) (N := some 34) (v := ?_) (a' := ?_) #[true, true, true, false, true, true, false, false, false, false, false] rfl rfl (take_ofW HT_.out HW_.out (by kernel_rfl)) (fun _ _ _ h => h) (Or.inl ⟨by rfl, ?_⟩) hHeld ?_ ?_
 rotate_left
 ·rintro w' ⟨s0, s1⟩
  go_simp
  with_reducible rfl
 rotate_left
 ·simp only [Act.put, sT, sZ, sS, i64_w, i32_w]
  rfl
 refine one_ (i := 3) (N := some 32) #[true, true, true, true, true, true, false, false, false, false, false] rfl rfl (one_of HT_.out (by kernel_rfl)) (by decide) (fun K hK => ?_)
 refine goes_ Try.func45 (by kernel_rfl) rfl #[.string ((rd_T46 l0_1 x25_1).f0)] (by rfl) rfl rfl (by (try simp only [List.map_toArray, List.map_cons, List.map_nil]); first | done | rfl | (simp only [List.length_drop, List.length_take]; rfl)) ?_
 with_reducible refine (pack_Text.calls k1 ((rd_T46 l0_1 x25_1).f0) t173 _ A23.out).mono ?_
 rintro e w32 ⟨v174, rfl, ho0, hb⟩
 refine ⟨_, rfl, ?_⟩
 have n0_ := Aside0.mk (Kd.R_elder' (rL HO_5.out) (Kd.R_base ho0) hb)
 have n1_ := Aside0.mk (Kd.R_lower (Kd.R_new' ho0 (Kd.R_lt (rL HO_5.out))) (below_size (hL HB.out)))
 have n2_ := Aside0.mk (blk_below BK157.out hb)
 have n3_ := Aside0.mk (blk_below BK172.out hb)
 have n4_ := Aside0.mk (below_step (hL HB.out) hb)
 clear HO_5
 clear BK157
 clear BK172
 clear HB
 have HO_5 := n0_
 have HO175 := n1_
 have BK157 := n2_
 have BK172 := n3_
 have HB := n4_
 clear n0_ n1_ n2_ n3_ n4_
 (try clear hb)
 (try clear hb2)
 (try clear hk)
 (try clear hi)
 (try clear ho0)
 refine hK.out _ _ ⟨(blk_cell BK172.out 0).trans rfl, (blk_cell BK172.out 1).trans rfl⟩ (fun hHeld => ?_)
 clear hK K
 refine norm_ (a' := ?_) ?_ ?_
 rotate_left
 ·show Act.put _ (some 32) _ = _
  simp only [Act.put, sT, sZ, sS, i64_w, i32_w]
  rfl
 refine one_ (i := 6) (N := some 35) #[true, true, true, true, true, true, true, false, false, false, false] rfl rfl (one_of HT_.out (by kernel_rfl)) (by decide) (fun K hK => ?_)
 refine goes_ Try.func44 (by kernel_rfl) rfl #[.int .i64 ((rd_T46 l0_1 x25_1).f1)] (by rfl) rfl rfl (by (try simp only [List.map_toArray, List.map_cons, List.map_nil]); first | done | rfl | (simp only [List.length_drop, List.length_take]; rfl)) ?_
 with_reducible refine (pack_Num.calls k1 ((rd_T46 l0_1 x25_1).f1) t176 _ A24.out).mono ?_
 rintro e w33 ⟨v177, rfl, ho0, hb⟩
 refine ⟨_, rfl, ?_⟩
 have n0_ := Aside0.mk (Kd.R_elder' (rL HO_5.out) (Kd.R_base ho0) hb)
 have n1_ := Aside0.mk (Kd.R_elder' (rL HO175.out) (Kd.R_base ho0) hb)
 have n2_ := Aside0.mk (Kd.R_lower (Kd.R_new' (Kd.R_new' ho0 (Kd.R_lt (rL HO_5.out))) (Kd.R_lt (rL HO175.out))) (below_size (hL HB.out)))
 have n3_ := Aside0.mk (blk_below BK157.out hb)
 have n4_ := Aside0.mk (blk_below BK172.out hb)
 have n5_ := Aside0.mk (below_step (hL HB.out) hb)
 clear HO_5
 clear HO175
 clear BK157
 clear BK172
 clear HB
 have HO_5 := n0_
 have HO175 := n1_
 have HO178 := n2_
 have BK157 := n3_
 have BK172 := n4_
 have HB := n5_
 clear n0_ n1_ n2_ n3_ n4_ n5_
 (try clear hb)
 (try clear hb2)
 (try clear hk)
 (try clear hi)
 (try clear ho0)
 obtain ⟨Ao34, co34, eo34⟩ := Kd.R_slice HO175.out
 (first | subst eo34 | (injection eo34 with f1_ f2_ f3_; have f4_ := f1_.symm; have f5_ := f3_.symm; clear f1_ f2_ f3_; subst f4_; subst f5_))
 obtain ⟨Ao35, co35, eo35⟩ := Kd.R_slice HO178.out
 (first | subst eo35 | (injection eo35 with f1_ f2_ f3_; have f4_ := f1_.symm; have f5_ := f3_.symm; clear f1_ f2_ f3_; subst f4_; subst f5_))
 refine hK.out _ _ ⟨(blk_cell BK172.out 0).trans rfl, (blk_cell BK172.out 1).trans rfl⟩ (fun hHeld => ?_)
 clear hK K
 refine norm_ (a' := ?_) ?_ ?_
 rotate_left
 ·show Act.put _ (some 35) _ = _
  simp only [Act.put, sT, sZ, sS, i64_w, i32_w]
  rfl
 refine one_ (i := 7) (N := some 36) #[true, true, true, true, true, true, true, true, false, false, false] rfl rfl (one_of HT_.out (by kernel_rfl)) (by decide) (fun K hK => ?_)
 refine Kd.N_lit_step (Kd.slice 5 (Kd.int .u8)) _ 59 ?hg (N' := 36) ?hd (xs := ([t173, t176] : List (List Int))) (inner := [.slice Ao34 t173.length co34, .slice Ao35 t176.length co35]) (ok := (fun k_ => some k_ ≠ (u5 : Value).ownBlock ∧ k_ ≠ gb157 ∧ k_ ≠ gb172)) (okp := (fun k_ => some k_ ≠ (u5 : Value).ownBlock ∧ k_ ≠ gb157 ∧ k_ ≠ gb172)) ?hr ?hp (fun _ hk => hk) ((show ∀ k_, w33.heap.size ≤ k_ → (fun k_ => some k_ ≠ (u5 : Value).ownBlock ∧ k_ ≠ gb157 ∧ k_ ≠ gb172) k_ from fun k_ hk => ⟨Kd.fresh' (Kd.R_lt (rL HO_5.out)) k_ hk, Kd.freshB (g := gb157) (o := .cells #[.int .i64 a0_0, .slice (some ad171) l0_1.length c0_1] 24 (0, 0)) (bL BK157.out) k_ hk, Kd.freshB (g := gb172) (o := .cells #[.string ((rd_T46 l0_1 x25_1).f0), .int .i64 ((rd_T46 l0_1 x25_1).f1)] 46 (0, 0)) (bL BK172.out) k_ hk⟩) _ (Nat.le_refl _)) (Below.refl _ _) (Nat.le_refl _) (by simp) ?_; (case hd => rfl); (case hg => rfl); (case hr => first | (go_simp; done) | (go_simp; rfl)); (case hp => exact (Reps.one (show Kd.FK (Kd.slice 5 (Kd.int .u8)) _ _ t173 [.slice Ao34 t173.length co34] from (Kd.FK_slice_mk (Kd.R_reads' (Kd.R_mono (ok' := (fun k_ => some k_ ≠ (u5 : Value).ownBlock ∧ k_ ≠ gb157 ∧ k_ ≠ gb172)) (Kd.R_types (Kd.R_types (HO175.out) BK157.out (by decide)) BK172.out (by decide)) (fun k_ hk => ⟨hk.1.1.1.2, ⟨hk.1.2, hk.2⟩⟩))).2.1 (Kd.R_F (Kd.R_mono (ok' := (fun k_ => some k_ ≠ (u5 : Value).ownBlock ∧ k_ ≠ gb157 ∧ k_ ≠ gb172)) (Kd.R_types (Kd.R_types (HO175.out) BK157.out (by decide)) BK172.out (by decide)) (fun k_ hk => ⟨hk.1.1.1.2, ⟨hk.1.2, hk.2⟩⟩))))) (Reps.one (show Kd.FK (Kd.slice 5 (Kd.int .u8)) _ _ t176 [.slice Ao35 t176.length co35] from (Kd.FK_slice_mk (Kd.R_reads' (Kd.R_mono (ok' := (fun k_ => some k_ ≠ (u5 : Value).ownBlock ∧ k_ ≠ gb157 ∧ k_ ≠ gb172)) (Kd.R_types (Kd.R_types (HO178.out) BK157.out (by decide)) BK172.out (by decide)) (fun k_ hk => ⟨hk.1.1.1.2, ⟨hk.1.2, hk.2⟩⟩))).2.1 (Kd.R_F (Kd.R_mono (ok' := (fun k_ => some k_ ≠ (u5 : Value).ownBlock ∧ k_ ≠ gb157 ∧ k_ ≠ gb172)) (Kd.R_types (Kd.R_types (HO178.out) BK157.out (by decide)) BK172.out (by decide)) (fun k_ hk => ⟨hk.1.1.1.2, ⟨hk.1.2, hk.2⟩⟩))))) (Reps.none _ _))))
 intro v180 w36 ho37 hb hg_ hnew_
 clear hg_ hnew_
 (first | rw [← Ny179.out] at ho37 | (simp only [Int.reduceToNat] at ho37; rw [← Ny179.out] at ho37))
 have n0_ := Aside0.mk (Kd.R_below (rL HO_5.out) hb)
 have n1_ := Aside0.mk (Kd.N_lower ho37 (below_size (hL HB.out)))
 have n2_ := Aside0.mk (blk_below BK157.out hb)
 have n3_ := Aside0.mk (blk_below BK172.out hb)
 have n4_ := Aside0.mk (below_step (hL HB.out) hb)
 clear HO_5
 clear BK157
 clear BK172
 clear HB
 clear HO175
 clear HO178
 have HO_5 := n0_
 have HO181 := n1_
 have BK157 := n2_
 have BK172 := n3_
 have HB := n4_
 clear n0_ n1_ n2_ n3_ n4_
 clear hb ho37
 obtain ⟨Ao38, co38, eo38⟩ := Kd.N_slice HO181.out
 (first | subst eo38 | (injection eo38 with f1_ f2_ f3_; have f4_ := f1_.symm; have f5_ := f3_.symm; clear f1_ f2_ f3_; subst f4_; subst f5_))
 refine hK.out _ _ ⟨(blk_cell BK172.out 0).trans rfl, (blk_cell BK172.out 1).trans rfl⟩ (fun hHeld => ?_)
 clear hK K
 refine norm_ (a' := ?_) ?_ ?_
 rotate_left
 ·show Act.put _ (some 36) _ = _
  simp only [Act.put, sT, sZ, sS, i64_w, i32_w]
  rfl
 refine one_ (i := 8) (N := some 37) #[true, true, true, true, true, true, true, true, true, false, false] rfl rfl (one_of HT_.out (by kernel_rfl)) (by decide) (fun K hK => ?_)
 refine goes_ Try.func43 (by kernel_rfl) rfl #[.slice Ao38 y179.length co38] (by rfl) rfl rfl (by (try simp only [List.map_toArray, List.map_cons, List.map_nil]); first | done | rfl | (simp only [List.length_drop, List.length_take]; rfl)) ?_
 with_reducible refine (pack_Join.calls k1 _ _ y179 t182 _ ?side1 ?side2 A25.out).mono ?_
 (case side1 => repeat (first | exact (Kd.N_reads' HO181.out).2.2 | (with_reducible refine Kd.C_alloc ?_ _) | (with_reducible refine Kd.C_drewN ?_ _) | (with_reducible refine Kd.C_drew ?_)))
 (case side2 => exact (Kd.N_reads' HO181.out).2.1)
 rintro e w39 ⟨v183, rfl, ho0, hb⟩
 refine ⟨_, rfl, ?_⟩
 have n0_ := Aside0.mk (Kd.R_elder' (rL HO_5.out) (Kd.R_base ho0) hb)
 have n1_ := Aside0.mk (Kd.N_elder' (nL HO181.out) (Kd.R_base ho0) hb)
 have n2_ := Aside0.mk (Kd.R_lower (Kd.R_new' ho0 (Kd.R_lt (rL HO_5.out))) (below_size (hL HB.out)))
 have n3_ := Aside0.mk (blk_below BK157.out hb)
 have n4_ := Aside0.mk (blk_below BK172.out hb)
 have n5_ := Aside0.mk (below_step (hL HB.out) hb)
 clear HO_5
 clear HO181
 clear BK157
 clear BK172
 clear HB
 have HO_5 := n0_
 have HO181 := n1_
 have HO184 := n2_
 have BK157 := n3_
 have BK172 := n4_
 have HB := n5_
 clear n0_ n1_ n2_ n3_ n4_ n5_
 (try clear hb)
 (try clear hb2)
 (try clear hk)
 (try clear hi)
 (try clear ho0)
 obtain ⟨Ao41, co41, eo41⟩ := Kd.R_slice HO184.out
 (first | subst eo41 | (injection eo41 with f1_ f2_ f3_; have f4_ := f1_.symm; have f5_ := f3_.symm; clear f1_ f2_ f3_; subst f4_; subst f5_))
 refine hK.out _ _ ⟨(blk_cell BK172.out 0).trans rfl, (blk_cell BK172.out 1).trans rfl⟩ (fun hHeld => ?_)
 clear hK K
 refine norm_ (a' := ?_) ?_ ?_
 rotate_left
 ·show Act.put _ (some 37) _ = _
  simp only [Act.put, sT, sZ, sS, i64_w, i32_w]
  rfl
 refine one_ (i := 9) (N := some 38) #[true, true, true, true, true, true, true, true, true, true, false] rfl rfl (one_of HT_.out (by kernel_rfl)) (by decide) (fun K hK => ?_)
 refine Kd.R_append_rows_step (Kd.int .u8) (w0 := w) w.heap.size (by rfl) (.tmp 29) (.tmp 37) 59 5 (.int .u8 0) 1 rfl Try.underlying59 info5 rfl (by decide) (by omega) u5 x5_1 t182 _ _ _ (fun k_ => some k_ ≠ (.slice Ao41 t182.length co41 : Value).ownBlock) (fun _ => False) rfl rfl ?aO ?aR (fun _ _ h => h) (fun _ h => h.elim) ?aF ?aB ?aS ?aL ?_
 (case aR => repeat (first | exact (Kd.R_reads' HO184.out).2.2 | (with_reducible refine Kd.C_alloc ?_ _) | (with_reducible refine Kd.C_drewN ?_ _) | (with_reducible refine Kd.C_drew ?_)))
 (case aB => exact (hL HB.out))
 (case aF => exact (fun k_ hk => Kd.fresh' (Kd.R_lt (rL HO184.out)) k_ hk))
 (case aO => exact (by (with_reducible repeat (first | apply Kd.R_alloc | apply Kd.R_drewN | apply Kd.R_drew)); exact Kd.R_mono HO_5.out (fun _ hk => hk.2)))
 (case aS => exact (below_size (hL HB.out)))
 (case aL => have := LMc26.out; omega)
 intro v186 w40 ho hb hg hat
 rw [← Ny185.out] at ho
 have n0_ := Aside0.mk (blk_grown (g := gb157) (o := .cells #[.int .i64 a0_0, .slice (some ad171) l0_1.length c0_1] 24 (0, 0)) (bL BK157.out) hg (Kd.R_ne HO_5.out BK157.out (by decide)))
 have n1_ := Aside0.mk (blk_grown (g := gb172) (o := .cells #[.string ((rd_T46 l0_1 x25_1).f0), .int .i64 ((rd_T46 l0_1 x25_1).f1)] 46 (0, 0)) (bL BK172.out) hg (Kd.R_ne HO_5.out BK172.out (by decide)))
 have n2_ := Aside0.mk (Kd.N_afterv (ok := (fun k_ => some k_ ≠ (.slice Ao41 t182.length co41 : Value).ownBlock ∧ k_ ≠ gb157 ∧ k_ ≠ gb172)) (by (with_reducible repeat (first | apply Kd.N_alloc | apply Kd.N_drewN | apply Kd.N_drew)); exact Kd.N_mono HO181.out (fun _ hk => ⟨⟨hk.2, ⟨hk.1.2.1, hk.1.2.2⟩⟩, hk.1.1⟩)) hg hat)
 have n3_ := Aside0.mk (Kd.R_after (ok := (fun _ => True)) (rL HO184.out) hg hat)
 have n4_ := Aside0.mk (hb)
 have n5_ := Aside0.mk (ho)
 clear BK157
 clear BK172
 clear HO181
 clear HO184
 clear HB
 clear HO_5
 have BK157 := n0_
 have BK172 := n1_
 have HO181 := n2_
 have HO184 := n3_
 have HB := n4_
 have HO187 := n5_
 clear n0_ n1_ n2_ n3_ n4_ n5_
 clear ho hb hg hat
 refine hK.out _ _ ⟨(blk_cell BK172.out 0).trans rfl, (blk_cell BK172.out 1).trans rfl⟩ (fun hHeld => ?_)
 clear hK K
 refine norm_ (a' := ?_) ?_ ?_
 rotate_left
 ·show Act.put _ (some 38) _ = _
  simp only [Act.put, sT, sZ, sS, i64_w, i32_w]
  rfl
 refine pure_ (i := 10) (N := some 5) (v := ?_) (a' := ?_) #[true, true, true, true, true, true, true, true, true, true, true] rfl rfl (any_of HT_.out (by kernel_rfl)) (fun _ _ _ h => h) (Or.inl ⟨by rfl, ?_⟩) ?_ ?_
 rotate_left
 ·intro w'
  go_simp
  with_reducible rfl
 rotate_left
 ·simp only [Act.put, sT, sZ, sS, i64_w, i32_w]
  rfl
 refine done_ (done_of HT_.out (by kernel_rfl)) ?_
 try go_wp2
 go_roundg k1
 case measure => have := HK1.out; omega
 case rel => exact ⟨(y185), (wrap64 (x25_1 + 1)), (by first | rfl | (simp; done) | (simp [*]; done) | (simp [ne_nil_bytes]; done) | (simp [eq_nil_bytes]; done)), H', ⟨by have := HK1.out; omega⟩, ⟨by (with_reducible repeat (first | apply Kd.R_alloc | apply Kd.R_drewN | apply Kd.R_drew)); exact Kd.R_mono HO187.out (fun _ hk => trivial)⟩, ⟨by exact bL BK157.out⟩, ⟨hL HB.out⟩⟩

end Go.Proofs.Ytmgjccpolkhhhaa.PAll
