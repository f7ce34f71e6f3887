-- Written by a program of this session for this claim (mp.py, over the kit's print); Lean checks it.
import Derived.Test.YtkkfkccfnfjbiaaPAllx0
import Derived.Test.YtkkfkccfnfjbiaaPAllx9
import Derived.Test.YtkkfkccfnfjbiaaPAllx14
namespace Go.Proofs.Ytkkfkccfnfjbiaa.PAll
open Go.RowKit Go.Proofs.YtkkfkccfnfjbiaaW.PrintWords Go.Proofs.YtkkfkccfnfjbiaaW.PrintLast Go.Proofs.YtkkfkccfnfjbiaaW.PrintMore Go.Proofs.Ytkkfkccfnfjbiaa.Fv Go.Proofs.Ytkkfkccfnfjbiaa.Hl
attribute [local go_sem] max2_int min2_int max_two min_two max_three min_three max_four min_four str_gtr str_leq str_geq cell_set2   -- for this text's walks alone
set_option linter.unusedVariables false
set_option linter.unusedSimpArgs false

/-! ### shelfmarklaw09_awake: function 9 -/
def shelfmarklaw09_awake.f (k : Nat)  : Option (Bool) := (run_Merge.f k (([(([(⟨(⟨#[97]⟩ : ByteArray), (⟨#[]⟩ : ByteArray), true⟩ : S37)] : List (S37))), (([(⟨(⟨#[97]⟩ : ByteArray), (⟨#[49]⟩ : ByteArray), false⟩ : S37), (⟨(⟨#[99]⟩ : ByteArray), (⟨#[51]⟩ : ByteArray), false⟩ : S37)] : List (S37)))] : List (List (S37))))).bind fun bt252 => ((run_Pack.f k bt252.1).bind fun bt256 => (if bt252.2 = 0 then (if bt256.2 = 0 then (if (bt252.1.length : Int) = 2 then (if 0 < (bt252.1.length : Int) then (if (rd_T37 bt252.1 0).f2 = true then (some ((strOfNums bt256.1).toList == ([2, 1, 97, 1, 0, 1, 99, 0, 1, 51] : List UInt8))) else (some false)) else (none)) else (some false)) else (some false)) else (some false)))
theorem shelfmarklaw09_awake.mono : ∀ k, LeO (shelfmarklaw09_awake.f k ) (shelfmarklaw09_awake.f (k + 1) ) := by
 intro  k
 unfold shelfmarklaw09_awake.f
 repeat' first
   | (with_reducible exact run_Merge.mono _ _)
   | (with_reducible exact run_Pack.mono _ _)
   | (with_reducible exact LeO.refl _)
   | (with_reducible exact LeO.none _)
   | (with_reducible refine LeO.ite ?_ ?_)
   | (with_reducible refine LeO.bind ?_ (fun _ => ?_))
   | exact run_Merge.mono _ _
   | exact run_Pack.mono _ _
   | exact LeO.none _
   | refine LeO.ite ?_ ?_
   | refine LeO.bind ?_ (fun _ => ?_)
set_option maxHeartbeats 8000000 in
set_option maxRecDepth 100000 in
theorem shelfmarklaw09_awake.calls (k : Nat)  (r : Bool) (w : World) (h : shelfmarklaw09_awake.f k  = some r) (hlaw : r = true := by rfl) :
  Calls Try.prog 9 #[] w fun e w' => e = .returned (.bool r) ∧ Below w.heap.size w w' := by
 have HLAW := Aside0.mk hlaw
 clear hlaw
 have hu37 := Try.underlying37
 have HB := Aside0.mk (Below.refl w.heap.size w)
 have H : ((run_Merge.f k (([(([(⟨(⟨#[97]⟩ : ByteArray), (⟨#[]⟩ : ByteArray), true⟩ : S37)] : List (S37))), (([(⟨(⟨#[97]⟩ : ByteArray), (⟨#[49]⟩ : ByteArray), false⟩ : S37), (⟨(⟨#[99]⟩ : ByteArray), (⟨#[51]⟩ : ByteArray), false⟩ : S37)] : List (S37)))] : List (List (S37))))).bind fun bt252 => ((run_Pack.f k bt252.1).bind fun bt256 => (if bt252.2 = 0 then (if bt256.2 = 0 then (if (bt252.1.length : Int) = 2 then (if 0 < (bt252.1.length : Int) then (if (rd_T37 bt252.1 0).f2 = true then (some ((strOfNums bt256.1).toList == ([2, 1, 97, 1, 0, 1, 99, 0, 1, 51] : List UInt8))) else (some false)) else (none)) else (some false)) else (some false)) else (some false)))) = some r := h
 clear h
 obtain ⟨y243, hy243⟩ : ∃ y_ : List (S37), y_ = (([(⟨(⟨#[97]⟩ : ByteArray), (⟨#[]⟩ : ByteArray), true⟩ : S37)] : List (S37))) := ⟨_, rfl⟩
 replace H : ((run_Merge.f k (([y243, (([(⟨(⟨#[97]⟩ : ByteArray), (⟨#[49]⟩ : ByteArray), false⟩ : S37), (⟨(⟨#[99]⟩ : ByteArray), (⟨#[51]⟩ : ByteArray), false⟩ : S37)] : List (S37)))] : List (List (S37))))).bind fun bt252 => ((run_Pack.f k bt252.1).bind fun bt256 => (if bt252.2 = 0 then (if bt256.2 = 0 then (if (bt252.1.length : Int) = 2 then (if 0 < (bt252.1.length : Int) then (if (rd_T37 bt252.1 0).f2 = true then (some ((strOfNums bt256.1).toList == ([2, 1, 97, 1, 0, 1, 99, 0, 1, 51] : List UInt8))) else (some false)) else (none)) else (some false)) else (some false)) else (some false)))) = some r := by first | (rw [hy243]; with_reducible exact H) | (have H2_ := (Option.bind_some _ _).symm.trans H; rw [hy243]; with_reducible exact H2_) | (have H2_ := (Option.bind_some _ _).symm.trans H; with_reducible exact H2_) | with_reducible exact H | (rw [hy243]; exact H) | exact H
 have Ny243 := Aside0.mk hy243
 clear hy243
 obtain ⟨y246, hy246⟩ : ∃ y_ : List (S37), y_ = (([(⟨(⟨#[97]⟩ : ByteArray), (⟨#[49]⟩ : ByteArray), false⟩ : S37), (⟨(⟨#[99]⟩ : ByteArray), (⟨#[51]⟩ : ByteArray), false⟩ : S37)] : List (S37))) := ⟨_, rfl⟩
 replace H : ((run_Merge.f k (([y243, y246] : List (List (S37))))).bind fun bt252 => ((run_Pack.f k bt252.1).bind fun bt256 => (if bt252.2 = 0 then (if bt256.2 = 0 then (if (bt252.1.length : Int) = 2 then (if 0 < (bt252.1.length : Int) then (if (rd_T37 bt252.1 0).f2 = true then (some ((strOfNums bt256.1).toList == ([2, 1, 97, 1, 0, 1, 99, 0, 1, 51] : List UInt8))) else (some false)) else (none)) else (some false)) else (some false)) else (some false)))) = some r := by first | (rw [hy246]; with_reducible exact H) | (have H2_ := (Option.bind_some _ _).symm.trans H; rw [hy246]; with_reducible exact H2_) | (have H2_ := (Option.bind_some _ _).symm.trans H; with_reducible exact H2_) | with_reducible exact H | (rw [hy246]; exact H) | exact H
 have Ny246 := Aside0.mk hy246
 clear hy246
 obtain ⟨y249, hy249⟩ : ∃ y_ : List (List (S37)), y_ = (([y243, y246] : List (List (S37)))) := ⟨_, rfl⟩
 replace H : ((run_Merge.f k y249).bind fun bt252 => ((run_Pack.f k bt252.1).bind fun bt256 => (if bt252.2 = 0 then (if bt256.2 = 0 then (if (bt252.1.length : Int) = 2 then (if 0 < (bt252.1.length : Int) then (if (rd_T37 bt252.1 0).f2 = true then (some ((strOfNums bt256.1).toList == ([2, 1, 97, 1, 0, 1, 99, 0, 1, 51] : List UInt8))) else (some false)) else (none)) else (some false)) else (some false)) else (some false)))) = some r := by first | (rw [hy249]; with_reducible exact H) | (have H2_ := (Option.bind_some _ _).symm.trans H; rw [hy249]; with_reducible exact H2_) | (have H2_ := (Option.bind_some _ _).symm.trans H; with_reducible exact H2_) | with_reducible exact H | (rw [hy249]; exact H) | exact H
 have Ny249 := Aside0.mk hy249
 clear hy249
 replace H := Option.bind_eq_some_iff.mp H
 obtain ⟨⟨t252, t253⟩, A10, H⟩ := H
 replace H : ((run_Pack.f k t252).bind fun bt256 => (if t253 = 0 then (if bt256.2 = 0 then (if (t252.length : Int) = 2 then (if 0 < (t252.length : Int) then (if (rd_T37 t252 0).f2 = true then (some ((strOfNums bt256.1).toList == ([2, 1, 97, 1, 0, 1, 99, 0, 1, 51] : List UInt8))) else (some false)) else (none)) else (some false)) else (some false)) else (some false))) = some r := H
 have A1 := Aside0.mk A10
 clear A10
 replace H := Option.bind_eq_some_iff.mp H
 obtain ⟨⟨t256, t257⟩, A20, H⟩ := H
 replace H : (if t253 = 0 then (if t257 = 0 then (if (t252.length : Int) = 2 then (if 0 < (t252.length : Int) then (if (rd_T37 t252 0).f2 = true then (some ((strOfNums t256).toList == ([2, 1, 97, 1, 0, 1, 99, 0, 1, 51] : List UInt8))) else (some false)) else (none)) else (some false)) else (some false)) else (some false)) = some r := H
 have A2 := Aside0.mk A20
 clear A20
 by_cases c3 : t253 = 0
 rotate_left
 ·rw [if_neg c3] at H
  have c3b0 : (t253 == 0) = false := beq_eq_false_iff_ne.mpr c3
  have c3b1 : (t253 != 0) = true := bne_iff_ne.mpr c3
  obtain rfl := Option.some.inj H
  exact absurd HLAW.out (by decide)
 rw [if_pos c3] at H
 have c3b0 : (t253 == 0) = true := beq_iff_eq.mpr c3
 have c3b1 : (t253 != 0) = false := bne_eq_false_iff_eq.mpr c3
 clear c3
 by_cases c4 : t257 = 0
 rotate_left
 ·rw [if_neg c4] at H
  have c4b0 : (t257 == 0) = false := beq_eq_false_iff_ne.mpr c4
  have c4b1 : (t257 != 0) = true := bne_iff_ne.mpr c4
  obtain rfl := Option.some.inj H
  exact absurd HLAW.out (by decide)
 rw [if_pos c4] at H
 have c4b0 : (t257 == 0) = true := beq_iff_eq.mpr c4
 have c4b1 : (t257 != 0) = false := bne_eq_false_iff_eq.mpr c4
 clear c4
 by_cases c5 : (t252.length : Int) = 2
 rotate_left
 ·rw [if_neg c5] at H
  have c5b0 : ((t252.length : Int) == 2) = false := beq_eq_false_iff_ne.mpr c5
  have c5b1 : ((t252.length : Int) != 2) = true := bne_iff_ne.mpr c5
  obtain rfl := Option.some.inj H
  exact absurd HLAW.out (by decide)
 rw [if_pos c5] at H
 have c5b0 : ((t252.length : Int) == 2) = true := beq_iff_eq.mpr c5
 have c5b1 : ((t252.length : Int) != 2) = false := bne_eq_false_iff_eq.mpr c5
 clear c5
 by_cases c6 : 0 < (t252.length : Int)
 rotate_left
 ·rw [if_neg c6] at H
  exact absurd H (by simp)
 rw [if_pos c6] at H
 have c6b0 : decide (0 < (t252.length : Int)) = true := decide_eq_true c6
 have c6b1 : decide (0 < t252.length) = true := decide_eq_true (by omega)
 clear c6
 obtain ⟨bq7, hbq7⟩ : ∃ b_ : Bool, b_ = ((rd_T37 t252 0).f2) := ⟨_, rfl⟩
 replace H : (if bq7 = true then (some ((strOfNums t256).toList == ([2, 1, 97, 1, 0, 1, 99, 0, 1, 51] : List UInt8))) else (some false)) = some r := by rw [← hbq7] at H; exact H
 have Nbq7 := Aside0.mk hbq7
 clear hbq7
 by_cases c8 : bq7 = true
 rotate_left
 ·replace c8 := Bool.eq_false_iff.mpr c8
  subst c8
  have H1 : (some false) = some r := by rw [if_neg (show ¬ (false = true) by decide)] at H; exact H
  clear H
  have H := H1
  clear H1
  obtain rfl := Option.some.inj H
  exact absurd HLAW.out (by decide)
 subst c8
 have H1 : (some ((strOfNums t256).toList == ([2, 1, 97, 1, 0, 1, 99, 0, 1, 51] : List UInt8))) = some r := by rw [if_pos rfl] at H; exact H
 clear H
 have H := H1
 clear H1
 obtain rfl := Option.some.inj H
 simp only [Option.some.injEq, Prod.mk.injEq] at H
 obtain ⟨rfl⟩ := H
 go_enter Try.func9, Try.ntmps9
 go_wp2_with (first | ((with_reducible refine gate_dst (N := 7) rfl ?_); (try (refine gate_guard (by rfl) ?_; dsimp only)); refine Kd.R_lit k37 _ 37 ?hg (N := 7) ?hd (xs := ([(⟨(⟨#[97]⟩ : ByteArray), (⟨#[]⟩ : ByteArray), true⟩ : S37)] : List (S37))) (inner := [.string (⟨#[97]⟩ : ByteArray), .string (⟨#[]⟩ : ByteArray), .bool true]) (ok := fun _ => True) (okp := fun _ => True) ?hr ?hp (fun _ hk => hk) trivial (Below.refl _ _) (Nat.le_refl _) (by simp) ?_; (case hd => rfl); (case hg => rfl); (case hr => first | (go_simp; done) | (go_simp; rfl)); (case hp => exact (Reps.c3 (show Kd.M k37 _ _ _ (⟨(⟨#[97]⟩ : ByteArray), (⟨#[]⟩ : ByteArray), true⟩ : S37) [.string (⟨#[97]⟩ : ByteArray), .string (⟨#[]⟩ : ByteArray), .bool true] from (k37_mkM _ _ _ (⟨(⟨#[97]⟩ : ByteArray), (⟨#[]⟩ : ByteArray), true⟩ : S37) )) (Reps.none _ _))); intro v244 w9 ho10 hb hg_ hnew_; clear hg_ hnew_; (first | rw [← Ny243.out] at ho10 | (simp only [Int.reduceToNat] at ho10; rw [← Ny243.out] at ho10)); have n0_ := Aside0.mk (Kd.R_lower ho10 (below_size (hL HB.out))); have n1_ := Aside0.mk (below_step (hL HB.out) hb); clear HB; have HO245 := n0_; have HB := n1_; clear n0_ n1_; clear hb ho10) | ((with_reducible refine gate_dst (N := 10) rfl ?_); (try (refine gate_guard (by rfl) ?_; dsimp only)); refine Kd.R_lit k37 _ 37 ?hg (N := 10) ?hd (xs := ([(⟨(⟨#[97]⟩ : ByteArray), (⟨#[49]⟩ : ByteArray), false⟩ : S37), (⟨(⟨#[99]⟩ : ByteArray), (⟨#[51]⟩ : ByteArray), false⟩ : S37)] : List (S37))) (inner := [.string (⟨#[97]⟩ : ByteArray), .string (⟨#[49]⟩ : ByteArray), .bool false, .string (⟨#[99]⟩ : ByteArray), .string (⟨#[51]⟩ : ByteArray), .bool false]) (ok := fun _ => True) (okp := fun _ => True) ?hr ?hp (fun _ hk => hk) trivial (Below.refl _ _) (Nat.le_refl _) (by simp) ?_; (case hd => rfl); (case hg => rfl); (case hr => first | (go_simp; done) | (go_simp; rfl)); (case hp => exact (Reps.c3 (show Kd.M k37 _ _ _ (⟨(⟨#[97]⟩ : ByteArray), (⟨#[49]⟩ : ByteArray), false⟩ : S37) [.string (⟨#[97]⟩ : ByteArray), .string (⟨#[49]⟩ : ByteArray), .bool false] from (k37_mkM _ _ _ (⟨(⟨#[97]⟩ : ByteArray), (⟨#[49]⟩ : ByteArray), false⟩ : S37) )) (Reps.c3 (show Kd.M k37 _ _ _ (⟨(⟨#[99]⟩ : ByteArray), (⟨#[51]⟩ : ByteArray), false⟩ : S37) [.string (⟨#[99]⟩ : ByteArray), .string (⟨#[51]⟩ : ByteArray), .bool false] from (k37_mkM _ _ _ (⟨(⟨#[99]⟩ : ByteArray), (⟨#[51]⟩ : ByteArray), false⟩ : S37) )) (Reps.none _ _)))); intro v247 w11 ho12 hb hg_ hnew_; clear hg_ hnew_; (first | rw [← Ny246.out] at ho12 | (simp only [Int.reduceToNat] at ho12; rw [← Ny246.out] at ho12)); have n0_ := Aside0.mk (Kd.R_elder' (rL HO245.out) (Kd.R_base ho12) hb); have n1_ := Aside0.mk (Kd.R_lower (Kd.R_new' ho12 (Kd.R_lt (rL HO245.out))) (below_size (hL HB.out))); have n2_ := Aside0.mk (below_step (hL HB.out) hb); clear HO245; clear HB; have HO245 := n0_; have HO248 := n1_; have HB := n2_; clear n0_ n1_ n2_; clear hb ho12; obtain ⟨Ao13, co13, eo13⟩ := Kd.R_slice HO245.out; subst eo13; obtain ⟨Ao14, co14, eo14⟩ := Kd.R_slice HO248.out; subst eo14) | ((with_reducible refine gate_dst (N := 11) rfl ?_); (try (refine gate_guard (by rfl) ?_; dsimp only)); refine Kd.N_lit (Kd.slice 37 k37) _ 25 ?hg (N' := 11) ?hd (xs := ([y243, y246] : List (List (S37)))) (inner := [.slice Ao13 y243.length co13, .slice Ao14 y246.length co14]) (ok := (fun _ => True)) (okp := (fun _ => True)) ?hr ?hp (fun _ hk => hk) ((show ∀ k_, w11.heap.size ≤ k_ → (fun _ => True) k_ from fun k_ hk => trivial) _ (Nat.le_refl _)) (Below.refl _ _) (Nat.le_refl _) (by simp) ?_; (case hd => rfl); (case hg => rfl); (case hr => first | (go_simp; done) | (go_simp; rfl)); (case hp => exact (Reps.one (show Kd.FK (Kd.slice 37 k37) _ _ y243 [.slice Ao13 y243.length co13] from (Kd.FK_slice_mk (Kd.R_reads' (Kd.R_mono (ok' := (fun _ => True)) (HO245.out) (fun k_ hk => trivial))).2.1 (Kd.R_F (Kd.R_mono (ok' := (fun _ => True)) (HO245.out) (fun k_ hk => trivial))))) (Reps.one (show Kd.FK (Kd.slice 37 k37) _ _ y246 [.slice Ao14 y246.length co14] from (Kd.FK_slice_mk (Kd.R_reads' (Kd.R_mono (ok' := (fun _ => True)) (HO248.out) (fun k_ hk => trivial))).2.1 (Kd.R_F (Kd.R_mono (ok' := (fun _ => True)) (HO248.out) (fun k_ hk => trivial))))) (Reps.none _ _)))); intro v250 w15 ho16 hb hg_ hnew_; clear hg_ hnew_; (first | rw [← Ny249.out] at ho16 | (simp only [Int.reduceToNat] at ho16; rw [← Ny249.out] at ho16)); have n0_ := Aside0.mk (Kd.N_lower ho16 (below_size (hL HB.out))); have n1_ := Aside0.mk (below_step (hL HB.out) hb); clear HB; clear HO245; clear HO248; have HO251 := n0_; have HB := n1_; clear n0_ n1_; clear hb ho16; obtain ⟨Ao17, co17, eo17⟩ := Kd.N_slice HO251.out; subst eo17) | ((with_reducible refine gate_callee (f := 12) rfl ?_); refine goesL_ (some 12) rfl rfl Try.func12 (by kernel_rfl) rfl #[.slice Ao17 y249.length co17] rfl (by (try simp only [List.map_toArray, List.map_cons, List.map_nil]); first | done | rfl | (simp only [List.length_drop, List.length_take]; rfl)) ?_; (with_reducible refine (run_Merge.calls k _ _ y249 t252 t253 _ ?side1 ?side2 A1.out).mono ?_); (case side1 => repeat (first | exact (Kd.N_reads' HO251.out).2.2 | (with_reducible refine Kd.C_alloc ?_ _) | (with_reducible refine Kd.C_drewN ?_ _) | (with_reducible refine Kd.C_drew ?_))); (case side2 => exact (Kd.N_reads' HO251.out).2.1); rintro e w18 ⟨v254, rfl, ho0, hb⟩; refine ⟨_, rfl, ?_⟩; have n0_ := Aside0.mk (Kd.N_elder' (nL HO251.out) (Kd.R_base ho0) hb); have n1_ := Aside0.mk (Kd.R_lower ho0 (below_size (hL HB.out))); have n2_ := Aside0.mk (below_step (hL HB.out) hb); clear HO251; clear HB; have HO251 := n0_; have HO255 := n1_; have HB := n2_; clear n0_ n1_ n2_; (try clear hb); (try clear hb2); (try clear hk); (try clear hi); (try clear ho0); obtain ⟨Ao19, co19, eo19⟩ := Kd.R_slice HO255.out; subst eo19) | ((with_reducible refine gate_callee (f := 23) rfl ?_); refine goesL_ (some 17) rfl rfl Try.func23 (by kernel_rfl) rfl #[.slice Ao19 t252.length co19] rfl (by (try simp only [List.map_toArray, List.map_cons, List.map_nil]); first | done | rfl | (simp only [List.length_drop, List.length_take]; rfl)) ?_; (with_reducible refine (run_Pack.calls k _ _ t252 t256 t257 _ ?side1 ?side2 A2.out).mono ?_); (case side1 => repeat (first | exact (Kd.R_reads' HO255.out).2.2 | (with_reducible refine Kd.C_alloc ?_ _) | (with_reducible refine Kd.C_drewN ?_ _) | (with_reducible refine Kd.C_drew ?_))); (case side2 => exact (Kd.R_reads' HO255.out).2.1); rintro e w20 ⟨v258, rfl, ho0, hb⟩; refine ⟨_, rfl, ?_⟩; have n0_ := Aside0.mk (Kd.N_elder' (nL HO251.out) (Kd.R_base ho0) hb); have n1_ := Aside0.mk (Kd.R_below (rL HO255.out) hb); have n2_ := Aside0.mk (Kd.R_lower ho0 (below_size (hL HB.out))); have n3_ := Aside0.mk (below_step (hL HB.out) hb); clear HO251; clear HO255; clear HB; have HO251 := n0_; have HO255 := n1_; have HO259 := n2_; have HB := n3_; clear n0_ n1_ n2_ n3_; (try clear hb); (try clear hb2); (try clear hk); (try clear hi); (try clear ho0); have p260 : 0 ≤ (0 : Int) := (by omega); have q260 : 0 < (t252.length : Int) := of_decide_eq_true (by first | (with_reducible assumption) | assumption); obtain ⟨ad260, e260, hx260_0, hx260_1, hx260_2⟩ := at_T37 (Kd.R_reads' HO255.out).2.2 0 p260 q260; (try rw [← Nbq7.out] at hx260_2); cases e260; have qi260 : (0 < t252.length) = True := eq_true (by omega); (try rw [show ((0 : Int)).toNat = 0 from rfl] at hx260_0); (try rw [show 0 * 3 = 0 from rfl] at hx260_0); (try rw [Addr.add_zero'] at hx260_0); (try rw [show ((0 : Int)).toNat = 0 from rfl] at hx260_1); (try rw [show 0 * 3 = 0 from rfl] at hx260_1); (try rw [Addr.add_zero'] at hx260_1); (try rw [show ((0 : Int)).toNat = 0 from rfl] at hx260_2); (try rw [show 0 * 3 = 0 from rfl] at hx260_2); (try rw [Addr.add_zero'] at hx260_2); replace p260 := eq_true p260; replace q260 := eq_true q260; have hcv21 := own_string (P := Try.prog) Try.underlying45 Try.underlying5 Try.underlying9 (Kd.own_of_R HO259.out)))
 go_ret
 exact ⟨by first | rfl | (simp [errW_none, errW_some] <;> rfl) | (simp [*, errW_none, errW_some] <;> rfl), hL HB.out⟩

/-! ### shelfmarkref09_Light: function 15 -/
def shelfmarkref09_Light.l0 : Nat → List (S37) → Int → Int → Option (Bool)
 | 0, _, _, _ => none
 | k + 1, x0, x5, x6 => if x6 < (x0.length : Int) then (if x5 ≤ 4000 then (if 0 ≤ x6 then (shelfmarkref09_Light.l0 k x0 (wrap64 ((wrap64 (x5 + (mn (((rd_T37 x0 x6).f0).size : Int) 4001))) + (mn (((rd_T37 x0 x6).f1).size : Int) 4001))) (wrap64 (x6 + 1))) else (none)) else (some (decide (x5 ≤ 4000)))) else (some (decide (x5 ≤ 4000)))
def shelfmarkref09_Light.f (k : Nat) (l0 : List (S37)) (a1 : Int) : Option (Bool) := if (l0.length : Int) > a1 then (some false) else (shelfmarkref09_Light.l0 k l0 0 0)
theorem shelfmarkref09_Light.mono_l : ∀ k, (∀ y0 y1 y2, LeO (shelfmarkref09_Light.l0 k y0 y1 y2) (shelfmarkref09_Light.l0 (k + 1) y0 y1 y2))
 | 0 => fun _ _ _ r h => by simp [shelfmarkref09_Light.l0] at h
 | k + 1 => by
  have ih0 := shelfmarkref09_Light.mono_l k
  ·intro y0 y1 y2
   unfold shelfmarkref09_Light.l0
   repeat' first
   | (with_reducible exact ih0 _ _ _)
   | (with_reducible exact LeO.refl _)
   | (with_reducible exact LeO.none _)
   | (with_reducible refine LeO.ite ?_ ?_)
   | (with_reducible refine LeO.bind ?_ (fun _ => ?_))
   | exact ih0 _ _ _
   | exact LeO.none _
   | refine LeO.ite ?_ ?_
   | refine LeO.bind ?_ (fun _ => ?_)
theorem shelfmarkref09_Light.mono : ∀ a0 a1 k, LeO (shelfmarkref09_Light.f k a0 a1) (shelfmarkref09_Light.f (k + 1) a0 a1) := by
 intro a0 a1 k
 have ih0 := shelfmarkref09_Light.mono_l k
 unfold shelfmarkref09_Light.f
 repeat' first
   | (with_reducible exact ih0 _ _ _)
   | (with_reducible exact LeO.refl _)
   | (with_reducible exact LeO.none _)
   | (with_reducible refine LeO.ite ?_ ?_)
   | (with_reducible refine LeO.bind ?_ (fun _ => ?_))
   | exact ih0 _ _ _
   | exact LeO.none _
   | refine LeO.ite ?_ ?_
   | refine LeO.bind ?_ (fun _ => ?_)
set_option maxHeartbeats 8000000 in
set_option maxRecDepth 100000 in
theorem shelfmarkref09_Light.calls (k : Nat) (A0 : Option Addr) (c0 : Nat) (l0 : List (S37)) (a1 : Int) (r : Bool) (w : World) (hr0 : Kd.C k37 w A0 l0.length l0) (hc0 : l0.length ≤ c0) (h : shelfmarkref09_Light.f k l0 a1 = some r) :
  Calls Try.prog 15 #[.slice A0 l0.length c0, .int .i64 a1] w fun e w' => e = .returned (.bool r) ∧ Below w.heap.size w w' := by
 have HR0 := Aside0.mk hr0
 have HC0 := Aside0.mk hc0
 clear hr0 hc0
 have HB := Aside0.mk (Below.refl w.heap.size w)
 have H : (if (l0.length : Int) > a1 then (some false) else (shelfmarkref09_Light.l0 k l0 0 0)) = some r := h
 clear h
 by_cases c3 : (l0.length : Int) > a1
 ·rw [if_pos c3] at H
  have c3b0 : decide (a1 < (l0.length : Int)) = true := decide_eq_true c3
  clear c3
  obtain rfl := Option.some.inj H
  simp only [Option.some.injEq, Prod.mk.injEq] at H
  obtain ⟨rfl⟩ := H
  go_enter Try.func15, Try.ntmps15
  go_wp2
  repeat (go_quiet (fail); try go_wp2)
  go_ret
  exact ⟨by first | rfl | (simp [errW_none, errW_some] <;> rfl) | (simp [*, errW_none, errW_some] <;> rfl), hL HB.out⟩
 rw [if_neg c3] at H
 have c3b0 : decide (a1 < (l0.length : Int)) = false := decide_eq_false c3
 clear c3
 have H' := Aside0.mk H
 clear H
 go_enter Try.func15, Try.ntmps15
 go_wp2
 repeat (go_quiet (fail); try go_wp2)
 go_loopg [5, 6] k (fun kq v5 v6 w' => ∃ (x5_1 : Int) (x6_1 : Int), v5 = .int .i64 x5_1 ∧ v6 = .int .i64 x6_1 ∧ Aside0 (shelfmarkref09_Light.l0 kq l0 x5_1 x6_1 = some r) ∧ Aside0 (kq ≤ k) ∧ Aside0 (Below w.heap.size w w'))
 case atStart => exact ⟨(0), (0), (by first | rfl | (simp; done) | (simp [*]; done) | (simp [ne_nil_bytes]; done) | (simp [eq_nil_bytes]; done)), (by first | rfl | (simp; done) | (simp [*]; done) | (simp [ne_nil_bytes]; done) | (simp [eq_nil_bytes]; done)), H', ⟨Nat.le_refl _⟩, ⟨hL HB.out⟩⟩
 clear H'
 try clear c1
 try clear p2
 try clear c3
 try clear c3b0
 try clear c3b0z
 obtain ⟨x5_1, x6_1, rfl, rfl, HA, HK1, HB⟩ := hrel
 rcases gk with _ | k1
 ·exact absurd HA.out (by simp [shelfmarkref09_Light.l0])
 have H := HA.out
 clear HA
 simp only [shelfmarkref09_Light.l0] at H
 by_cases c4 : x6_1 < (l0.length : Int)
 rotate_left
 ·rw [if_neg c4] at H
  have c4b0 : decide (x6_1 < (l0.length : Int)) = false := decide_eq_false c4
  clear c4
  obtain rfl := Option.some.inj H
  simp only [Option.some.injEq, Prod.mk.injEq] at H
  obtain ⟨rfl⟩ := H
  go_wp2
  repeat (go_quiet (fail); try go_wp2)
  go_ret
  exact ⟨by first | rfl | (simp [errW_none, errW_some] <;> rfl) | (simp [*, errW_none, errW_some] <;> rfl), hL HB.out⟩
 rw [if_pos c4] at H
 have c4b0 : decide (x6_1 < (l0.length : Int)) = true := decide_eq_true c4
 clear c4
 by_cases c5 : x5_1 ≤ 4000
 rotate_left
 ·rw [if_neg c5] at H
  have c5b0 : decide (x5_1 ≤ 4000) = false := decide_eq_false c5
  clear c5
  obtain rfl := Option.some.inj H
  simp only [Option.some.injEq, Prod.mk.injEq] at H
  obtain ⟨rfl⟩ := H
  go_wp2
  repeat (go_quiet (fail); try go_wp2)
  go_ret
  exact ⟨by first | rfl | (simp [errW_none, errW_some] <;> rfl) | (simp [*, errW_none, errW_some] <;> rfl), hL HB.out⟩
 rw [if_pos c5] at H
 have c5b0 : decide (x5_1 ≤ 4000) = true := decide_eq_true c5
 clear c5
 by_cases c6 : 0 ≤ x6_1
 rotate_left
 ·rw [if_neg c6] at H
  exact absurd H (by simp)
 rw [if_pos c6] at H
 have c6b0 : decide (0 ≤ x6_1) = true := decide_eq_true c6
 clear c6
 obtain ⟨ji7, hji7⟩ : ∃ j_ : Int, (mn (((rd_T37 l0 x6_1).f0).size : Int) 4001) = j_ := ⟨_, rfl⟩
 replace H : (shelfmarkref09_Light.l0 k1 l0 (wrap64 ((wrap64 (x5_1 + (ji7))) + (mn (((rd_T37 l0 x6_1).f1).size : Int) 4001))) (wrap64 (x6_1 + 1))) = some r := by first | (rw [hji7] at H; exact H) | (simp only [hji7] at H ⊢; exact H)
 have hji7_ : (if 4001 < (((rd_T37 l0 x6_1).f0).size : Int) then 4001 else (((rd_T37 l0 x6_1).f0).size : Int)) = ji7 := hji7
 obtain ⟨ji8, hji8⟩ : ∃ j_ : Int, (mn (((rd_T37 l0 x6_1).f1).size : Int) 4001) = j_ := ⟨_, rfl⟩
 replace H : (shelfmarkref09_Light.l0 k1 l0 (wrap64 ((wrap64 (x5_1 + (ji7))) + (ji8))) (wrap64 (x6_1 + 1))) = some r := by first | (rw [hji8] at H; exact H) | (simp only [hji8] at H ⊢; exact H)
 have hji8_ : (if 4001 < (((rd_T37 l0 x6_1).f1).size : Int) then 4001 else (((rd_T37 l0 x6_1).f1).size : Int)) = ji8 := hji8
 have H' := Aside0.mk H
 clear H
 have p261 : 0 ≤ (x6_1 : Int) := of_decide_eq_true (by first | (with_reducible assumption) | assumption)
 have q261 : x6_1 < (l0.length : Int) := of_decide_eq_true (by first | (with_reducible assumption) | assumption)
 obtain ⟨ad261, e261, hx261_0, hx261_1, hx261_2⟩ := at_T37 HR0.out x6_1 p261 q261
 cases e261
 replace hx261_0 := (HB.out.cell (World.block_lt_of_cell? w _ hx261_0)).trans hx261_0
 replace hx261_1 := (HB.out.cell (World.block_lt_of_cell? w _ hx261_1)).trans hx261_1
 replace hx261_2 := (HB.out.cell (World.block_lt_of_cell? w _ hx261_2)).trans hx261_2
 replace p261 := eq_true p261
 replace q261 := eq_true q261
 have p262 : 0 ≤ (x6_1 : Int) := of_decide_eq_true (by first | (with_reducible assumption) | assumption)
 have q262 : x6_1 < (l0.length : Int) := of_decide_eq_true (by first | (with_reducible assumption) | assumption)
 obtain ⟨ad262, e262, hx262_0, hx262_1, hx262_2⟩ := at_T37 HR0.out x6_1 p262 q262
 obtain rfl : ad261 = ad262 := (by injection e262)
 replace hx262_0 := (HB.out.cell (World.block_lt_of_cell? w _ hx262_0)).trans hx262_0
 replace hx262_1 := (HB.out.cell (World.block_lt_of_cell? w _ hx262_1)).trans hx262_1
 replace hx262_2 := (HB.out.cell (World.block_lt_of_cell? w _ hx262_2)).trans hx262_2
 replace p262 := eq_true p262
 replace q262 := eq_true q262
 go_wp2
 repeat (go_quiet (fail); try go_wp2)
 go_roundg k1
 case measure => have := HK1.out; omega
 case rel => exact ⟨(wrap64 ((wrap64 (x5_1 + (ji7))) + (ji8))), (wrap64 (x6_1 + 1)), (by first | rfl | (simp; done) | (simp only [← hji7, ← hji8] <;> (first | rfl | simp)) | (simp [*]; done)), (by first | rfl | (simp; done) | (simp [*]; done) | (simp [ne_nil_bytes]; done) | (simp [eq_nil_bytes]; done)), H', ⟨by have := HK1.out; omega⟩, ⟨hL HB.out⟩⟩

/-! ### shelfmarklaw09_light: function 10 -/
def shelfmarklaw09_light.l0 : Nat → List (List (S37)) → Int → Option (Bool)
 | 0, _, _ => none
 | k + 1, x0, x3 => if x3 < (x0.length : Int) then (if 0 ≤ x3 then ((shelfmarkref09_Light.f k (rd_L4 x0 x3) 60).bind fun t264 => (if t264 = true then (shelfmarklaw09_light.l0 k x0 (wrap64 (x3 + 1))) else (some false))) else (none)) else (some true)
def shelfmarklaw09_light.f (k : Nat) (l0 : List (List (S37))) : Option (Bool) := if (l0.length : Int) > 10 then (some false) else (shelfmarklaw09_light.l0 k l0 0)
theorem shelfmarklaw09_light.mono_l : ∀ k, (∀ y0 y1, LeO (shelfmarklaw09_light.l0 k y0 y1) (shelfmarklaw09_light.l0 (k + 1) y0 y1))
 | 0 => fun _ _ r h => by simp [shelfmarklaw09_light.l0] at h
 | k + 1 => by
  have ih0 := shelfmarklaw09_light.mono_l k
  ·intro y0 y1
   unfold shelfmarklaw09_light.l0
   repeat' first
   | (with_reducible exact ih0 _ _)
   | (with_reducible exact shelfmarkref09_Light.mono _ _ _)
   | (with_reducible exact LeO.refl _)
   | (with_reducible exact LeO.none _)
   | (with_reducible refine LeO.ite ?_ ?_)
   | (with_reducible refine LeO.bind ?_ (fun _ => ?_))
   | exact ih0 _ _
   | exact shelfmarkref09_Light.mono _ _ _
   | exact LeO.none _
   | refine LeO.ite ?_ ?_
   | refine LeO.bind ?_ (fun _ => ?_)
theorem shelfmarklaw09_light.mono : ∀ a0 k, LeO (shelfmarklaw09_light.f k a0) (shelfmarklaw09_light.f (k + 1) a0) := by
 intro a0 k
 have ih0 := shelfmarklaw09_light.mono_l k
 unfold shelfmarklaw09_light.f
 repeat' first
   | (with_reducible exact ih0 _ _)
   | (with_reducible exact shelfmarkref09_Light.mono _ _ _)
   | (with_reducible exact LeO.refl _)
   | (with_reducible exact LeO.none _)
   | (with_reducible refine LeO.ite ?_ ?_)
   | (with_reducible refine LeO.bind ?_ (fun _ => ?_))
   | exact ih0 _ _
   | exact shelfmarkref09_Light.mono _ _ _
   | exact LeO.none _
   | refine LeO.ite ?_ ?_
   | refine LeO.bind ?_ (fun _ => ?_)
set_option maxHeartbeats 8000000 in
set_option maxRecDepth 100000 in
theorem shelfmarklaw09_light.calls (k : Nat) (A0 : Option Addr) (c0 : Nat) (l0 : List (List (S37))) (r : Bool) (w : World) (hr0 : Kd.C (Kd.slice 37 k37) w A0 l0.length l0) (hc0 : l0.length ≤ c0) (h : shelfmarklaw09_light.f k l0 = some r) :
  Calls Try.prog 10 #[.slice A0 l0.length c0] w fun e w' => e = .returned (.bool r) ∧ Below w.heap.size w w' := by
 have HR0 := Aside0.mk hr0
 have HC0 := Aside0.mk hc0
 clear hr0 hc0
 have HB := Aside0.mk (Below.refl w.heap.size w)
 have H : (if (l0.length : Int) > 10 then (some false) else (shelfmarklaw09_light.l0 k l0 0)) = some r := h
 clear h
 by_cases c2 : (l0.length : Int) > 10
 ·rw [if_pos c2] at H
  have c2b0 : decide (10 < (l0.length : Int)) = true := decide_eq_true c2
  have c2b1 : decide (10 < l0.length) = true := decide_eq_true (by omega)
  clear c2
  obtain rfl := Option.some.inj H
  simp only [Option.some.injEq, Prod.mk.injEq] at H
  obtain ⟨rfl⟩ := H
  go_enter Try.func10, Try.ntmps10
  go_wp2
  go_ret
  exact ⟨by first | rfl | (simp [errW_none, errW_some] <;> rfl) | (simp [*, errW_none, errW_some] <;> rfl), hL HB.out⟩
 rw [if_neg c2] at H
 have c2b0 : decide (10 < (l0.length : Int)) = false := decide_eq_false c2
 have c2b1 : decide (10 < l0.length) = false := decide_eq_false (by omega)
 clear c2
 have H' := Aside0.mk H
 clear H
 go_enter Try.func10, Try.ntmps10
 go_wp2
 go_loopg [3] k (fun kq v3 w' => ∃ (x3_1 : Int), v3 = .int .i64 x3_1 ∧ Aside0 (shelfmarklaw09_light.l0 kq l0 x3_1 = some r) ∧ Aside0 (kq ≤ k) ∧ Aside0 (Below w.heap.size w w'))
 case atStart => exact ⟨(0), (by first | rfl | (simp; done) | (simp [*]; done) | (simp [ne_nil_bytes]; done) | (simp [eq_nil_bytes]; done)), H', ⟨Nat.le_refl _⟩, ⟨hL HB.out⟩⟩
 clear H'
 try clear c1
 try clear c2
 try clear c2b0
 try clear c2b0z
 try clear c2b1
 try clear c2b1z
 try clear p2
 obtain ⟨x3_1, rfl, HA, HK1, HB⟩ := hrel
 rcases gk with _ | k1
 ·exact absurd HA.out (by simp [shelfmarklaw09_light.l0])
 have H := HA.out
 clear HA
 simp only [shelfmarklaw09_light.l0] at H
 by_cases c3 : x3_1 < (l0.length : Int)
 rotate_left
 ·rw [if_neg c3] at H
  have c3b0 : decide (x3_1 < (l0.length : Int)) = false := decide_eq_false c3
  clear c3
  obtain rfl := Option.some.inj H
  simp only [Option.some.injEq, Prod.mk.injEq] at H
  obtain ⟨rfl⟩ := H
  go_wp2
  go_ret
  exact ⟨by first | rfl | (simp [errW_none, errW_some] <;> rfl) | (simp [*, errW_none, errW_some] <;> rfl), hL HB.out⟩
 rw [if_pos c3] at H
 have c3b0 : decide (x3_1 < (l0.length : Int)) = true := decide_eq_true c3
 clear c3
 by_cases c4 : 0 ≤ x3_1
 rotate_left
 ·rw [if_neg c4] at H
  exact absurd H (by simp)
 rw [if_pos c4] at H
 have c4b0 : decide (0 ≤ x3_1) = true := decide_eq_true c4
 clear c4
 replace H := Option.bind_eq_some_iff.mp H
 obtain ⟨t264, A50, H⟩ := H
 replace H : (if t264 = true then (shelfmarklaw09_light.l0 k1 l0 (wrap64 (x3_1 + 1))) else (some false)) = some r := H
 have A5 := Aside0.mk A50
 clear A50
 by_cases c6 : t264 = true
 rotate_left
 ·replace c6 := Bool.eq_false_iff.mpr c6
  subst c6
  have H1 : (some false) = some r := by rw [if_neg (show ¬ (false = true) by decide)] at H; exact H
  clear H
  have H := H1
  clear H1
  obtain rfl := Option.some.inj H
  simp only [Option.some.injEq, Prod.mk.injEq] at H
  obtain ⟨rfl⟩ := H
  have p263 : 0 ≤ (x3_1 : Int) := of_decide_eq_true (by first | (with_reducible assumption) | assumption)
  have q263 : x3_1 < (l0.length : Int) := of_decide_eq_true (by first | (with_reducible assumption) | assumption)
  obtain ⟨ad263, A263_0, c263_0, e263, hx263_0, hl263_0, hi263_0⟩ := at_L4 HR0.out x3_1 p263 q263
  cases e263
  replace hx263_0 := (HB.out.cell (World.block_lt_of_cell? w _ hx263_0)).trans hx263_0
  have HR263_0 := Aside0.mk hi263_0
  have HC263_0 := Aside0.mk hl263_0
  clear hi263_0 hl263_0
  replace p263 := eq_true p263
  replace q263 := eq_true q263
  go_wp2_with (first | ((with_reducible refine gate_callee (f := 15) rfl ?_); refine goesL_ (some 17) rfl rfl Try.func15 (by kernel_rfl) rfl #[.slice A263_0 (rd_L4 l0 x3_1).length c263_0, .int .i64 60] rfl (by (try simp only [List.map_toArray, List.map_cons, List.map_nil]); first | done | rfl | (simp only [List.length_drop, List.length_take]; rfl)) ?_; (with_reducible refine (shelfmarkref09_Light.calls k1 _ _ (rd_L4 l0 x3_1) 60 false _ ?side1 ?side2 A5.out).mono ?_); (case side1 => repeat (first | exact (Kd.C_below HR263_0.out HB.out) | (with_reducible refine Kd.C_alloc ?_ _) | (with_reducible refine Kd.C_drewN ?_ _) | (with_reducible refine Kd.C_drew ?_))); (case side2 => exact HC263_0.out); rintro e w8 ⟨rfl, hb⟩; refine ⟨_, rfl, ?_⟩; have n0_ := Aside0.mk (below_step (hL HB.out) hb); clear HB; have HB := n0_; clear n0_; (try clear hb); (try clear hb2); (try clear hk); (try clear hi)))
  go_ret
  exact ⟨by first | rfl | (simp [errW_none, errW_some] <;> rfl) | (simp [*, errW_none, errW_some] <;> rfl), hL HB.out⟩
 subst c6
 have H1 : (shelfmarklaw09_light.l0 k1 l0 (wrap64 (x3_1 + 1))) = some r := by rw [if_pos rfl] at H; exact H
 clear H
 have H := H1
 clear H1
 have H' := Aside0.mk H
 clear H
 have p263 : 0 ≤ (x3_1 : Int) := of_decide_eq_true (by first | (with_reducible assumption) | assumption)
 have q263 : x3_1 < (l0.length : Int) := of_decide_eq_true (by first | (with_reducible assumption) | assumption)
 obtain ⟨ad263, A263_0, c263_0, e263, hx263_0, hl263_0, hi263_0⟩ := at_L4 HR0.out x3_1 p263 q263
 cases e263
 replace hx263_0 := (HB.out.cell (World.block_lt_of_cell? w _ hx263_0)).trans hx263_0
 have HR263_0 := Aside0.mk hi263_0
 have HC263_0 := Aside0.mk hl263_0
 clear hi263_0 hl263_0
 replace p263 := eq_true p263
 replace q263 := eq_true q263
 go_wp2_with (first | ((with_reducible refine gate_callee (f := 15) rfl ?_); refine goesL_ (some 17) rfl rfl Try.func15 (by kernel_rfl) rfl #[.slice A263_0 (rd_L4 l0 x3_1).length c263_0, .int .i64 60] rfl (by (try simp only [List.map_toArray, List.map_cons, List.map_nil]); first | done | rfl | (simp only [List.length_drop, List.length_take]; rfl)) ?_; (with_reducible refine (shelfmarkref09_Light.calls k1 _ _ (rd_L4 l0 x3_1) 60 true _ ?side1 ?side2 A5.out).mono ?_); (case side1 => repeat (first | exact (Kd.C_below HR263_0.out HB.out) | (with_reducible refine Kd.C_alloc ?_ _) | (with_reducible refine Kd.C_drewN ?_ _) | (with_reducible refine Kd.C_drew ?_))); (case side2 => exact HC263_0.out); rintro e w7 ⟨rfl, hb⟩; refine ⟨_, rfl, ?_⟩; have n0_ := Aside0.mk (below_step (hL HB.out) hb); clear HB; have HB := n0_; clear n0_; (try clear hb); (try clear hb2); (try clear hk); (try clear hi)))
 go_roundg k1
 case measure => have := HK1.out; omega
 case rel => exact ⟨(wrap64 (x3_1 + 1)), (by first | rfl | (simp; done) | (simp [*]; done) | (simp [ne_nil_bytes]; done) | (simp [eq_nil_bytes]; done)), H', ⟨by have := HK1.out; omega⟩, ⟨hL HB.out⟩⟩

end Go.Proofs.Ytkkfkccfnfjbiaa.PAll
