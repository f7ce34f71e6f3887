-- Written by a program of this session for this claim (mp.py, over the kit's print); Lean checks it.
import Derived.Test.YtkkfkccfnfjbiaaPGrx0
import Derived.Test.YtkkfkccfnfjbiaaPGrx16
import Derived.Test.YtkkfkccfnfjbiaaPGrx18
namespace Go.Proofs.Ytkkfkccfnfjbiaa.PGr
open Go.RowKit Go.Proofs.YtkkfkccfnfjbiaaW.PrintWords Go.Proofs.YtkkfkccfnfjbiaaW.PrintLast Go.Proofs.YtkkfkccfnfjbiaaW.PrintMore Go.Proofs.Ytkkfkccfnfjbiaa.Fv Go.Proofs.Ytkkfkccfnfjbiaa.Hl
attribute [local go_sem] max2_int min2_int max_two min_two max_three min_three max_four min_four str_gtr str_leq str_geq cell_set2   -- for this text's walks alone
set_option linter.unusedVariables false
set_option linter.unusedSimpArgs false

/-! ### shelfmarklaw09_awake: function 9 -/
def shelfmarklaw09_awake.f (k : Nat)  : Option (Bool) := (run_Merge.f k (([(([(⟨(⟨#[97]⟩ : ByteArray), (⟨#[]⟩ : ByteArray), true⟩ : S37)] : List (S37))), (([(⟨(⟨#[97]⟩ : ByteArray), (⟨#[49]⟩ : ByteArray), false⟩ : S37), (⟨(⟨#[99]⟩ : ByteArray), (⟨#[51]⟩ : ByteArray), false⟩ : S37)] : List (S37)))] : List (List (S37))))).bind fun bt287 => ((run_Pack.f k bt287.1).bind fun bt291 => (if bt287.2 = 0 then (if bt291.2 = 0 then (if (bt287.1.length : Int) = 2 then (if 0 < (bt287.1.length : Int) then (if (rd_T37 bt287.1 0).f2 = true then (some ((strOfNums bt291.1).toList == ([2, 1, 97, 1, 0, 1, 99, 0, 1, 51] : List UInt8))) else (some false)) else (none)) else (some false)) else (some false)) else (some false)))
theorem shelfmarklaw09_awake.mono : ∀ k, LeO (shelfmarklaw09_awake.f k ) (shelfmarklaw09_awake.f (k + 1) ) := by
 intro  k
 unfold shelfmarklaw09_awake.f
 repeat' first
   | (with_reducible exact run_Merge.mono _ _)
   | (with_reducible exact run_Pack.mono _ _)
   | (with_reducible exact LeO.refl _)
   | (with_reducible exact LeO.none _)
   | (with_reducible refine LeO.ite ?_ ?_)
   | (with_reducible refine LeO.bind ?_ (fun _ => ?_))
   | exact run_Merge.mono _ _
   | exact run_Pack.mono _ _
   | exact LeO.none _
   | refine LeO.ite ?_ ?_
   | refine LeO.bind ?_ (fun _ => ?_)
set_option maxHeartbeats 8000000 in
set_option maxRecDepth 100000 in
theorem shelfmarklaw09_awake.calls (k : Nat)  (r : Bool) (w : World) (h : shelfmarklaw09_awake.f k  = some r) (hlaw : r = true := by rfl) :
  Calls Try.prog 9 #[] w fun e w' => e = .returned (.bool r) ∧ Below w.heap.size w w' := by
 have HLAW := Aside0.mk hlaw
 clear hlaw
 have hu37 := Try.underlying37
 have HB := Aside0.mk (Below.refl w.heap.size w)
 have H : ((run_Merge.f k (([(([(⟨(⟨#[97]⟩ : ByteArray), (⟨#[]⟩ : ByteArray), true⟩ : S37)] : List (S37))), (([(⟨(⟨#[97]⟩ : ByteArray), (⟨#[49]⟩ : ByteArray), false⟩ : S37), (⟨(⟨#[99]⟩ : ByteArray), (⟨#[51]⟩ : ByteArray), false⟩ : S37)] : List (S37)))] : List (List (S37))))).bind fun bt287 => ((run_Pack.f k bt287.1).bind fun bt291 => (if bt287.2 = 0 then (if bt291.2 = 0 then (if (bt287.1.length : Int) = 2 then (if 0 < (bt287.1.length : Int) then (if (rd_T37 bt287.1 0).f2 = true then (some ((strOfNums bt291.1).toList == ([2, 1, 97, 1, 0, 1, 99, 0, 1, 51] : List UInt8))) else (some false)) else (none)) else (some false)) else (some false)) else (some false)))) = some r := h
 clear h
 obtain ⟨y278, hy278⟩ : ∃ y_ : List (S37), y_ = (([(⟨(⟨#[97]⟩ : ByteArray), (⟨#[]⟩ : ByteArray), true⟩ : S37)] : List (S37))) := ⟨_, rfl⟩
 replace H : ((run_Merge.f k (([y278, (([(⟨(⟨#[97]⟩ : ByteArray), (⟨#[49]⟩ : ByteArray), false⟩ : S37), (⟨(⟨#[99]⟩ : ByteArray), (⟨#[51]⟩ : ByteArray), false⟩ : S37)] : List (S37)))] : List (List (S37))))).bind fun bt287 => ((run_Pack.f k bt287.1).bind fun bt291 => (if bt287.2 = 0 then (if bt291.2 = 0 then (if (bt287.1.length : Int) = 2 then (if 0 < (bt287.1.length : Int) then (if (rd_T37 bt287.1 0).f2 = true then (some ((strOfNums bt291.1).toList == ([2, 1, 97, 1, 0, 1, 99, 0, 1, 51] : List UInt8))) else (some false)) else (none)) else (some false)) else (some false)) else (some false)))) = some r := by first | (rw [hy278]; with_reducible exact H) | (have H2_ := (Option.bind_some _ _).symm.trans H; rw [hy278]; with_reducible exact H2_) | (have H2_ := (Option.bind_some _ _).symm.trans H; with_reducible exact H2_) | with_reducible exact H | (rw [hy278]; exact H) | exact H
 have Ny278 := Aside0.mk hy278
 clear hy278
 obtain ⟨y281, hy281⟩ : ∃ y_ : List (S37), y_ = (([(⟨(⟨#[97]⟩ : ByteArray), (⟨#[49]⟩ : ByteArray), false⟩ : S37), (⟨(⟨#[99]⟩ : ByteArray), (⟨#[51]⟩ : ByteArray), false⟩ : S37)] : List (S37))) := ⟨_, rfl⟩
 replace H : ((run_Merge.f k (([y278, y281] : List (List (S37))))).bind fun bt287 => ((run_Pack.f k bt287.1).bind fun bt291 => (if bt287.2 = 0 then (if bt291.2 = 0 then (if (bt287.1.length : Int) = 2 then (if 0 < (bt287.1.length : Int) then (if (rd_T37 bt287.1 0).f2 = true then (some ((strOfNums bt291.1).toList == ([2, 1, 97, 1, 0, 1, 99, 0, 1, 51] : List UInt8))) else (some false)) else (none)) else (some false)) else (some false)) else (some false)))) = some r := by first | (rw [hy281]; with_reducible exact H) | (have H2_ := (Option.bind_some _ _).symm.trans H; rw [hy281]; with_reducible exact H2_) | (have H2_ := (Option.bind_some _ _).symm.trans H; with_reducible exact H2_) | with_reducible exact H | (rw [hy281]; exact H) | exact H
 have Ny281 := Aside0.mk hy281
 clear hy281
 obtain ⟨y284, hy284⟩ : ∃ y_ : List (List (S37)), y_ = (([y278, y281] : List (List (S37)))) := ⟨_, rfl⟩
 replace H : ((run_Merge.f k y284).bind fun bt287 => ((run_Pack.f k bt287.1).bind fun bt291 => (if bt287.2 = 0 then (if bt291.2 = 0 then (if (bt287.1.length : Int) = 2 then (if 0 < (bt287.1.length : Int) then (if (rd_T37 bt287.1 0).f2 = true then (some ((strOfNums bt291.1).toList == ([2, 1, 97, 1, 0, 1, 99, 0, 1, 51] : List UInt8))) else (some false)) else (none)) else (some false)) else (some false)) else (some false)))) = some r := by first | (rw [hy284]; with_reducible exact H) | (have H2_ := (Option.bind_some _ _).symm.trans H; rw [hy284]; with_reducible exact H2_) | (have H2_ := (Option.bind_some _ _).symm.trans H; with_reducible exact H2_) | with_reducible exact H | (rw [hy284]; exact H) | exact H
 have Ny284 := Aside0.mk hy284
 clear hy284
 replace H := Option.bind_eq_some_iff.mp H
 obtain ⟨⟨t287, t288⟩, A10, H⟩ := H
 replace H : ((run_Pack.f k t287).bind fun bt291 => (if t288 = 0 then (if bt291.2 = 0 then (if (t287.length : Int) = 2 then (if 0 < (t287.length : Int) then (if (rd_T37 t287 0).f2 = true then (some ((strOfNums bt291.1).toList == ([2, 1, 97, 1, 0, 1, 99, 0, 1, 51] : List UInt8))) else (some false)) else (none)) else (some false)) else (some false)) else (some false))) = some r := H
 have A1 := Aside0.mk A10
 clear A10
 replace H := Option.bind_eq_some_iff.mp H
 obtain ⟨⟨t291, t292⟩, A20, H⟩ := H
 replace H : (if t288 = 0 then (if t292 = 0 then (if (t287.length : Int) = 2 then (if 0 < (t287.length : Int) then (if (rd_T37 t287 0).f2 = true then (some ((strOfNums t291).toList == ([2, 1, 97, 1, 0, 1, 99, 0, 1, 51] : List UInt8))) else (some false)) else (none)) else (some false)) else (some false)) else (some false)) = some r := H
 have A2 := Aside0.mk A20
 clear A20
 by_cases c3 : t288 = 0
 rotate_left
 ·rw [if_neg c3] at H
  have c3b0 : (t288 == 0) = false := beq_eq_false_iff_ne.mpr c3
  have c3b1 : (t288 != 0) = true := bne_iff_ne.mpr c3
  obtain rfl := Option.some.inj H
  exact absurd HLAW.out (by decide)
 rw [if_pos c3] at H
 have c3b0 : (t288 == 0) = true := beq_iff_eq.mpr c3
 have c3b1 : (t288 != 0) = false := bne_eq_false_iff_eq.mpr c3
 clear c3
 by_cases c4 : t292 = 0
 rotate_left
 ·rw [if_neg c4] at H
  have c4b0 : (t292 == 0) = false := beq_eq_false_iff_ne.mpr c4
  have c4b1 : (t292 != 0) = true := bne_iff_ne.mpr c4
  obtain rfl := Option.some.inj H
  exact absurd HLAW.out (by decide)
 rw [if_pos c4] at H
 have c4b0 : (t292 == 0) = true := beq_iff_eq.mpr c4
 have c4b1 : (t292 != 0) = false := bne_eq_false_iff_eq.mpr c4
 clear c4
 by_cases c5 : (t287.length : Int) = 2
 rotate_left
 ·rw [if_neg c5] at H
  have c5b0 : ((t287.length : Int) == 2) = false := beq_eq_false_iff_ne.mpr c5
  have c5b1 : ((t287.length : Int) != 2) = true := bne_iff_ne.mpr c5
  obtain rfl := Option.some.inj H
  exact absurd HLAW.out (by decide)
 rw [if_pos c5] at H
 have c5b0 : ((t287.length : Int) == 2) = true := beq_iff_eq.mpr c5
 have c5b1 : ((t287.length : Int) != 2) = false := bne_eq_false_iff_eq.mpr c5
 clear c5
 by_cases c6 : 0 < (t287.length : Int)
 rotate_left
 ·rw [if_neg c6] at H
  exact absurd H (by simp)
 rw [if_pos c6] at H
 have c6b0 : decide (0 < (t287.length : Int)) = true := decide_eq_true c6
 have c6b1 : decide (0 < t287.length) = true := decide_eq_true (by omega)
 clear c6
 obtain ⟨bq7, hbq7⟩ : ∃ b_ : Bool, b_ = ((rd_T37 t287 0).f2) := ⟨_, rfl⟩
 replace H : (if bq7 = true then (some ((strOfNums t291).toList == ([2, 1, 97, 1, 0, 1, 99, 0, 1, 51] : List UInt8))) else (some false)) = some r := by rw [← hbq7] at H; exact H
 have Nbq7 := Aside0.mk hbq7
 clear hbq7
 by_cases c8 : bq7 = true
 rotate_left
 ·replace c8 := Bool.eq_false_iff.mpr c8
  subst c8
  have H1 : (some false) = some r := by rw [if_neg (show ¬ (false = true) by decide)] at H; exact H
  clear H
  have H := H1
  clear H1
  obtain rfl := Option.some.inj H
  exact absurd HLAW.out (by decide)
 subst c8
 have H1 : (some ((strOfNums t291).toList == ([2, 1, 97, 1, 0, 1, 99, 0, 1, 51] : List UInt8))) = some r := by rw [if_pos rfl] at H; exact H
 clear H
 have H := H1
 clear H1
 obtain rfl := Option.some.inj H
 simp only [Option.some.injEq, Prod.mk.injEq] at H
 obtain ⟨rfl⟩ := H
 go_enter Try.func9, Try.ntmps9
 go_wp2_with (first | ((with_reducible refine gate_dst (N := 7) rfl ?_); (try (refine gate_guard (by rfl) ?_; dsimp only)); refine Kd.R_lit k37 _ 37 ?hg (N := 7) ?hd (xs := ([(⟨(⟨#[97]⟩ : ByteArray), (⟨#[]⟩ : ByteArray), true⟩ : S37)] : List (S37))) (inner := [.string (⟨#[97]⟩ : ByteArray), .string (⟨#[]⟩ : ByteArray), .bool true]) (ok := fun _ => True) (okp := fun _ => True) ?hr ?hp (fun _ hk => hk) trivial (Below.refl _ _) (Nat.le_refl _) (by simp) ?_; (case hd => rfl); (case hg => rfl); (case hr => first | (go_simp; done) | (go_simp; rfl)); (case hp => exact (Reps.c3 (show Kd.M k37 _ _ _ (⟨(⟨#[97]⟩ : ByteArray), (⟨#[]⟩ : ByteArray), true⟩ : S37) [.string (⟨#[97]⟩ : ByteArray), .string (⟨#[]⟩ : ByteArray), .bool true] from (k37_mkM _ _ _ (⟨(⟨#[97]⟩ : ByteArray), (⟨#[]⟩ : ByteArray), true⟩ : S37) )) (Reps.none _ _))); intro v279 w9 ho10 hb hg_ hnew_; clear hg_ hnew_; (first | rw [← Ny278.out] at ho10 | (simp only [Int.reduceToNat] at ho10; rw [← Ny278.out] at ho10)); have n0_ := Aside0.mk (Kd.R_lower ho10 (below_size (hL HB.out))); have n1_ := Aside0.mk (below_step (hL HB.out) hb); clear HB; have HO280 := n0_; have HB := n1_; clear n0_ n1_; clear hb ho10) | ((with_reducible refine gate_dst (N := 10) rfl ?_); (try (refine gate_guard (by rfl) ?_; dsimp only)); refine Kd.R_lit k37 _ 37 ?hg (N := 10) ?hd (xs := ([(⟨(⟨#[97]⟩ : ByteArray), (⟨#[49]⟩ : ByteArray), false⟩ : S37), (⟨(⟨#[99]⟩ : ByteArray), (⟨#[51]⟩ : ByteArray), false⟩ : S37)] : List (S37))) (inner := [.string (⟨#[97]⟩ : ByteArray), .string (⟨#[49]⟩ : ByteArray), .bool false, .string (⟨#[99]⟩ : ByteArray), .string (⟨#[51]⟩ : ByteArray), .bool false]) (ok := fun _ => True) (okp := fun _ => True) ?hr ?hp (fun _ hk => hk) trivial (Below.refl _ _) (Nat.le_refl _) (by simp) ?_; (case hd => rfl); (case hg => rfl); (case hr => first | (go_simp; done) | (go_simp; rfl)); (case hp => exact (Reps.c3 (show Kd.M k37 _ _ _ (⟨(⟨#[97]⟩ : ByteArray), (⟨#[49]⟩ : ByteArray), false⟩ : S37) [.string (⟨#[97]⟩ : ByteArray), .string (⟨#[49]⟩ : ByteArray), .bool false] from (k37_mkM _ _ _ (⟨(⟨#[97]⟩ : ByteArray), (⟨#[49]⟩ : ByteArray), false⟩ : S37) )) (Reps.c3 (show Kd.M k37 _ _ _ (⟨(⟨#[99]⟩ : ByteArray), (⟨#[51]⟩ : ByteArray), false⟩ : S37) [.string (⟨#[99]⟩ : ByteArray), .string (⟨#[51]⟩ : ByteArray), .bool false] from (k37_mkM _ _ _ (⟨(⟨#[99]⟩ : ByteArray), (⟨#[51]⟩ : ByteArray), false⟩ : S37) )) (Reps.none _ _)))); intro v282 w11 ho12 hb hg_ hnew_; clear hg_ hnew_; (first | rw [← Ny281.out] at ho12 | (simp only [Int.reduceToNat] at ho12; rw [← Ny281.out] at ho12)); have n0_ := Aside0.mk (Kd.R_elder' (rL HO280.out) (Kd.R_base ho12) hb); have n1_ := Aside0.mk (Kd.R_lower (Kd.R_new' ho12 (Kd.R_lt (rL HO280.out))) (below_size (hL HB.out))); have n2_ := Aside0.mk (below_step (hL HB.out) hb); clear HO280; clear HB; have HO280 := n0_; have HO283 := n1_; have HB := n2_; clear n0_ n1_ n2_; clear hb ho12; obtain ⟨Ao13, co13, eo13⟩ := Kd.R_slice HO280.out; subst eo13; obtain ⟨Ao14, co14, eo14⟩ := Kd.R_slice HO283.out; subst eo14) | ((with_reducible refine gate_dst (N := 11) rfl ?_); (try (refine gate_guard (by rfl) ?_; dsimp only)); refine Kd.N_lit (Kd.slice 37 k37) _ 25 ?hg (N' := 11) ?hd (xs := ([y278, y281] : List (List (S37)))) (inner := [.slice Ao13 y278.length co13, .slice Ao14 y281.length co14]) (ok := (fun _ => True)) (okp := (fun _ => True)) ?hr ?hp (fun _ hk => hk) ((show ∀ k_, w11.heap.size ≤ k_ → (fun _ => True) k_ from fun k_ hk => trivial) _ (Nat.le_refl _)) (Below.refl _ _) (Nat.le_refl _) (by simp) ?_; (case hd => rfl); (case hg => rfl); (case hr => first | (go_simp; done) | (go_simp; rfl)); (case hp => exact (Reps.one (show Kd.FK (Kd.slice 37 k37) _ _ y278 [.slice Ao13 y278.length co13] from (Kd.FK_slice_mk (Kd.R_reads' (Kd.R_mono (ok' := (fun _ => True)) (HO280.out) (fun k_ hk => trivial))).2.1 (Kd.R_F (Kd.R_mono (ok' := (fun _ => True)) (HO280.out) (fun k_ hk => trivial))))) (Reps.one (show Kd.FK (Kd.slice 37 k37) _ _ y281 [.slice Ao14 y281.length co14] from (Kd.FK_slice_mk (Kd.R_reads' (Kd.R_mono (ok' := (fun _ => True)) (HO283.out) (fun k_ hk => trivial))).2.1 (Kd.R_F (Kd.R_mono (ok' := (fun _ => True)) (HO283.out) (fun k_ hk => trivial))))) (Reps.none _ _)))); intro v285 w15 ho16 hb hg_ hnew_; clear hg_ hnew_; (first | rw [← Ny284.out] at ho16 | (simp only [Int.reduceToNat] at ho16; rw [← Ny284.out] at ho16)); have n0_ := Aside0.mk (Kd.N_lower ho16 (below_size (hL HB.out))); have n1_ := Aside0.mk (below_step (hL HB.out) hb); clear HB; clear HO280; clear HO283; have HO286 := n0_; have HB := n1_; clear n0_ n1_; clear hb ho16; obtain ⟨Ao17, co17, eo17⟩ := Kd.N_slice HO286.out; subst eo17) | ((with_reducible refine gate_callee (f := 12) rfl ?_); refine goesL_ (some 12) rfl rfl Try.func12 (by kernel_rfl) rfl #[.slice Ao17 y284.length co17] rfl (by (try simp only [List.map_toArray, List.map_cons, List.map_nil]); first | done | rfl | (simp only [List.length_drop, List.length_take]; rfl)) ?_; (with_reducible refine (run_Merge.calls k _ _ y284 t287 t288 _ ?side1 ?side2 A1.out).mono ?_); (case side1 => repeat (first | exact (Kd.N_reads' HO286.out).2.2 | (with_reducible refine Kd.C_alloc ?_ _) | (with_reducible refine Kd.C_drewN ?_ _) | (with_reducible refine Kd.C_drew ?_))); (case side2 => exact (Kd.N_reads' HO286.out).2.1); rintro e w18 ⟨v289, rfl, ho0, hb⟩; refine ⟨_, rfl, ?_⟩; have n0_ := Aside0.mk (Kd.N_elder' (nL HO286.out) (Kd.R_base ho0) hb); have n1_ := Aside0.mk (Kd.R_lower ho0 (below_size (hL HB.out))); have n2_ := Aside0.mk (below_step (hL HB.out) hb); clear HO286; clear HB; have HO286 := n0_; have HO290 := n1_; have HB := n2_; clear n0_ n1_ n2_; (try clear hb); (try clear hb2); (try clear hk); (try clear hi); (try clear ho0); obtain ⟨Ao19, co19, eo19⟩ := Kd.R_slice HO290.out; subst eo19) | ((with_reducible refine gate_callee (f := 23) rfl ?_); refine goesL_ (some 17) rfl rfl Try.func23 (by kernel_rfl) rfl #[.slice Ao19 t287.length co19] rfl (by (try simp only [List.map_toArray, List.map_cons, List.map_nil]); first | done | rfl | (simp only [List.length_drop, List.length_take]; rfl)) ?_; (with_reducible refine (run_Pack.calls k _ _ t287 t291 t292 _ ?side1 ?side2 A2.out).mono ?_); (case side1 => repeat (first | exact (Kd.R_reads' HO290.out).2.2 | (with_reducible refine Kd.C_alloc ?_ _) | (with_reducible refine Kd.C_drewN ?_ _) | (with_reducible refine Kd.C_drew ?_))); (case side2 => exact (Kd.R_reads' HO290.out).2.1); rintro e w20 ⟨v293, rfl, ho0, hb⟩; refine ⟨_, rfl, ?_⟩; have n0_ := Aside0.mk (Kd.N_elder' (nL HO286.out) (Kd.R_base ho0) hb); have n1_ := Aside0.mk (Kd.R_below (rL HO290.out) hb); have n2_ := Aside0.mk (Kd.R_lower ho0 (below_size (hL HB.out))); have n3_ := Aside0.mk (below_step (hL HB.out) hb); clear HO286; clear HO290; clear HB; have HO286 := n0_; have HO290 := n1_; have HO294 := n2_; have HB := n3_; clear n0_ n1_ n2_ n3_; (try clear hb); (try clear hb2); (try clear hk); (try clear hi); (try clear ho0); have p295 : 0 ≤ (0 : Int) := (by omega); have q295 : 0 < (t287.length : Int) := of_decide_eq_true (by first | (with_reducible assumption) | assumption); obtain ⟨ad295, e295, hx295_0, hx295_1, hx295_2⟩ := at_T37 (Kd.R_reads' HO290.out).2.2 0 p295 q295; (try rw [← Nbq7.out] at hx295_2); cases e295; have qi295 : (0 < t287.length) = True := eq_true (by omega); (try rw [show ((0 : Int)).toNat = 0 from rfl] at hx295_0); (try rw [show 0 * 3 = 0 from rfl] at hx295_0); (try rw [Addr.add_zero'] at hx295_0); (try rw [show ((0 : Int)).toNat = 0 from rfl] at hx295_1); (try rw [show 0 * 3 = 0 from rfl] at hx295_1); (try rw [Addr.add_zero'] at hx295_1); (try rw [show ((0 : Int)).toNat = 0 from rfl] at hx295_2); (try rw [show 0 * 3 = 0 from rfl] at hx295_2); (try rw [Addr.add_zero'] at hx295_2); replace p295 := eq_true p295; replace q295 := eq_true q295; have hcv21 := own_string (P := Try.prog) Try.underlying45 Try.underlying5 Try.underlying9 (Kd.own_of_R HO294.out)))
 go_ret
 exact ⟨by first | rfl | (simp [errW_none, errW_some] <;> rfl) | (simp [*, errW_none, errW_some] <;> rfl), hL HB.out⟩

-- NOT PRINTED: function 7 (shelfmarklaw09_RunGroups)

end Go.Proofs.Ytkkfkccfnfjbiaa.PGr
