-- Written by a program of this session for this claim (mp.py, over the kit's print); Lean checks it.
import Derived.Test.YtkkfkccfnfjbiaaPMkx0
import Derived.Test.YtkkfkccfnfjbiaaPMkx6
import Derived.Test.YtkkfkccfnfjbiaaPMkx8
namespace Go.Proofs.Ytkkfkccfnfjbiaa.PMk
open Go.RowKit Go.Proofs.YtkkfkccfnfjbiaaW.PrintWords Go.Proofs.YtkkfkccfnfjbiaaW.PrintLast Go.Proofs.YtkkfkccfnfjbiaaW.PrintMore Go.Proofs.Ytkkfkccfnfjbiaa.Fv Go.Proofs.Ytkkfkccfnfjbiaa.Hl
attribute [local go_sem] max2_int min2_int max_two min_two max_three min_three max_four min_four str_gtr str_leq str_geq cell_set2   -- for this text's walks alone
set_option linter.unusedVariables false
set_option linter.unusedSimpArgs false

/-! ### shelfmarklaw09_awake: function 9 -/
def shelfmarklaw09_awake.f (k : Nat)  : Option (Bool) := (run_Merge.f k (([(([(⟨(⟨#[97]⟩ : ByteArray), (⟨#[]⟩ : ByteArray), true⟩ : S37)] : List (S37))), (([(⟨(⟨#[97]⟩ : ByteArray), (⟨#[49]⟩ : ByteArray), false⟩ : S37), (⟨(⟨#[99]⟩ : ByteArray), (⟨#[51]⟩ : ByteArray), false⟩ : S37)] : List (S37)))] : List (List (S37))))).bind fun bt184 => ((run_Pack.f k bt184.1).bind fun bt188 => (if bt184.2 = 0 then (if bt188.2 = 0 then (if (bt184.1.length : Int) = 2 then (if 0 < (bt184.1.length : Int) then (if (rd_T37 bt184.1 0).f2 = true then (some ((strOfNums bt188.1).toList == ([2, 1, 97, 1, 0, 1, 99, 0, 1, 51] : List UInt8))) else (some false)) else (none)) else (some false)) else (some false)) else (some false)))
theorem shelfmarklaw09_awake.mono : ∀ k, LeO (shelfmarklaw09_awake.f k ) (shelfmarklaw09_awake.f (k + 1) ) := by
 intro  k
 unfold shelfmarklaw09_awake.f
 repeat' first
   | (with_reducible exact run_Merge.mono _ _)
   | (with_reducible exact run_Pack.mono _ _)
   | (with_reducible exact LeO.refl _)
   | (with_reducible exact LeO.none _)
   | (with_reducible refine LeO.ite ?_ ?_)
   | (with_reducible refine LeO.bind ?_ (fun _ => ?_))
   | exact run_Merge.mono _ _
   | exact run_Pack.mono _ _
   | exact LeO.none _
   | refine LeO.ite ?_ ?_
   | refine LeO.bind ?_ (fun _ => ?_)
set_option maxHeartbeats 8000000 in
set_option maxRecDepth 100000 in
theorem shelfmarklaw09_awake.calls (k : Nat)  (r : Bool) (w : World) (h : shelfmarklaw09_awake.f k  = some r) (hlaw : r = true := by rfl) :
  Calls Try.prog 9 #[] w fun e w' => e = .returned (.bool r) ∧ Below w.heap.size w w' := by
 have HLAW := Aside0.mk hlaw
 clear hlaw
 have hu37 := Try.underlying37
 have HB := Aside0.mk (Below.refl w.heap.size w)
 have H : ((run_Merge.f k (([(([(⟨(⟨#[97]⟩ : ByteArray), (⟨#[]⟩ : ByteArray), true⟩ : S37)] : List (S37))), (([(⟨(⟨#[97]⟩ : ByteArray), (⟨#[49]⟩ : ByteArray), false⟩ : S37), (⟨(⟨#[99]⟩ : ByteArray), (⟨#[51]⟩ : ByteArray), false⟩ : S37)] : List (S37)))] : List (List (S37))))).bind fun bt184 => ((run_Pack.f k bt184.1).bind fun bt188 => (if bt184.2 = 0 then (if bt188.2 = 0 then (if (bt184.1.length : Int) = 2 then (if 0 < (bt184.1.length : Int) then (if (rd_T37 bt184.1 0).f2 = true then (some ((strOfNums bt188.1).toList == ([2, 1, 97, 1, 0, 1, 99, 0, 1, 51] : List UInt8))) else (some false)) else (none)) else (some false)) else (some false)) else (some false)))) = some r := h
 clear h
 obtain ⟨y175, hy175⟩ : ∃ y_ : List (S37), y_ = (([(⟨(⟨#[97]⟩ : ByteArray), (⟨#[]⟩ : ByteArray), true⟩ : S37)] : List (S37))) := ⟨_, rfl⟩
 replace H : ((run_Merge.f k (([y175, (([(⟨(⟨#[97]⟩ : ByteArray), (⟨#[49]⟩ : ByteArray), false⟩ : S37), (⟨(⟨#[99]⟩ : ByteArray), (⟨#[51]⟩ : ByteArray), false⟩ : S37)] : List (S37)))] : List (List (S37))))).bind fun bt184 => ((run_Pack.f k bt184.1).bind fun bt188 => (if bt184.2 = 0 then (if bt188.2 = 0 then (if (bt184.1.length : Int) = 2 then (if 0 < (bt184.1.length : Int) then (if (rd_T37 bt184.1 0).f2 = true then (some ((strOfNums bt188.1).toList == ([2, 1, 97, 1, 0, 1, 99, 0, 1, 51] : List UInt8))) else (some false)) else (none)) else (some false)) else (some false)) else (some false)))) = some r := by first | (rw [hy175]; with_reducible exact H) | (have H2_ := (Option.bind_some _ _).symm.trans H; rw [hy175]; with_reducible exact H2_) | (have H2_ := (Option.bind_some _ _).symm.trans H; with_reducible exact H2_) | with_reducible exact H | (rw [hy175]; exact H) | exact H
 have Ny175 := Aside0.mk hy175
 clear hy175
 obtain ⟨y178, hy178⟩ : ∃ y_ : List (S37), y_ = (([(⟨(⟨#[97]⟩ : ByteArray), (⟨#[49]⟩ : ByteArray), false⟩ : S37), (⟨(⟨#[99]⟩ : ByteArray), (⟨#[51]⟩ : ByteArray), false⟩ : S37)] : List (S37))) := ⟨_, rfl⟩
 replace H : ((run_Merge.f k (([y175, y178] : List (List (S37))))).bind fun bt184 => ((run_Pack.f k bt184.1).bind fun bt188 => (if bt184.2 = 0 then (if bt188.2 = 0 then (if (bt184.1.length : Int) = 2 then (if 0 < (bt184.1.length : Int) then (if (rd_T37 bt184.1 0).f2 = true then (some ((strOfNums bt188.1).toList == ([2, 1, 97, 1, 0, 1, 99, 0, 1, 51] : List UInt8))) else (some false)) else (none)) else (some false)) else (some false)) else (some false)))) = some r := by first | (rw [hy178]; with_reducible exact H) | (have H2_ := (Option.bind_some _ _).symm.trans H; rw [hy178]; with_reducible exact H2_) | (have H2_ := (Option.bind_some _ _).symm.trans H; with_reducible exact H2_) | with_reducible exact H | (rw [hy178]; exact H) | exact H
 have Ny178 := Aside0.mk hy178
 clear hy178
 obtain ⟨y181, hy181⟩ : ∃ y_ : List (List (S37)), y_ = (([y175, y178] : List (List (S37)))) := ⟨_, rfl⟩
 replace H : ((run_Merge.f k y181).bind fun bt184 => ((run_Pack.f k bt184.1).bind fun bt188 => (if bt184.2 = 0 then (if bt188.2 = 0 then (if (bt184.1.length : Int) = 2 then (if 0 < (bt184.1.length : Int) then (if (rd_T37 bt184.1 0).f2 = true then (some ((strOfNums bt188.1).toList == ([2, 1, 97, 1, 0, 1, 99, 0, 1, 51] : List UInt8))) else (some false)) else (none)) else (some false)) else (some false)) else (some false)))) = some r := by first | (rw [hy181]; with_reducible exact H) | (have H2_ := (Option.bind_some _ _).symm.trans H; rw [hy181]; with_reducible exact H2_) | (have H2_ := (Option.bind_some _ _).symm.trans H; with_reducible exact H2_) | with_reducible exact H | (rw [hy181]; exact H) | exact H
 have Ny181 := Aside0.mk hy181
 clear hy181
 replace H := Option.bind_eq_some_iff.mp H
 obtain ⟨⟨t184, t185⟩, A10, H⟩ := H
 replace H : ((run_Pack.f k t184).bind fun bt188 => (if t185 = 0 then (if bt188.2 = 0 then (if (t184.length : Int) = 2 then (if 0 < (t184.length : Int) then (if (rd_T37 t184 0).f2 = true then (some ((strOfNums bt188.1).toList == ([2, 1, 97, 1, 0, 1, 99, 0, 1, 51] : List UInt8))) else (some false)) else (none)) else (some false)) else (some false)) else (some false))) = some r := H
 have A1 := Aside0.mk A10
 clear A10
 replace H := Option.bind_eq_some_iff.mp H
 obtain ⟨⟨t188, t189⟩, A20, H⟩ := H
 replace H : (if t185 = 0 then (if t189 = 0 then (if (t184.length : Int) = 2 then (if 0 < (t184.length : Int) then (if (rd_T37 t184 0).f2 = true then (some ((strOfNums t188).toList == ([2, 1, 97, 1, 0, 1, 99, 0, 1, 51] : List UInt8))) else (some false)) else (none)) else (some false)) else (some false)) else (some false)) = some r := H
 have A2 := Aside0.mk A20
 clear A20
 by_cases c3 : t185 = 0
 rotate_left
 ·rw [if_neg c3] at H
  have c3b0 : (t185 == 0) = false := beq_eq_false_iff_ne.mpr c3
  have c3b1 : (t185 != 0) = true := bne_iff_ne.mpr c3
  obtain rfl := Option.some.inj H
  exact absurd HLAW.out (by decide)
 rw [if_pos c3] at H
 have c3b0 : (t185 == 0) = true := beq_iff_eq.mpr c3
 have c3b1 : (t185 != 0) = false := bne_eq_false_iff_eq.mpr c3
 clear c3
 by_cases c4 : t189 = 0
 rotate_left
 ·rw [if_neg c4] at H
  have c4b0 : (t189 == 0) = false := beq_eq_false_iff_ne.mpr c4
  have c4b1 : (t189 != 0) = true := bne_iff_ne.mpr c4
  obtain rfl := Option.some.inj H
  exact absurd HLAW.out (by decide)
 rw [if_pos c4] at H
 have c4b0 : (t189 == 0) = true := beq_iff_eq.mpr c4
 have c4b1 : (t189 != 0) = false := bne_eq_false_iff_eq.mpr c4
 clear c4
 by_cases c5 : (t184.length : Int) = 2
 rotate_left
 ·rw [if_neg c5] at H
  have c5b0 : ((t184.length : Int) == 2) = false := beq_eq_false_iff_ne.mpr c5
  have c5b1 : ((t184.length : Int) != 2) = true := bne_iff_ne.mpr c5
  obtain rfl := Option.some.inj H
  exact absurd HLAW.out (by decide)
 rw [if_pos c5] at H
 have c5b0 : ((t184.length : Int) == 2) = true := beq_iff_eq.mpr c5
 have c5b1 : ((t184.length : Int) != 2) = false := bne_eq_false_iff_eq.mpr c5
 clear c5
 by_cases c6 : 0 < (t184.length : Int)
 rotate_left
 ·rw [if_neg c6] at H
  exact absurd H (by simp)
 rw [if_pos c6] at H
 have c6b0 : decide (0 < (t184.length : Int)) = true := decide_eq_true c6
 have c6b1 : decide (0 < t184.length) = true := decide_eq_true (by omega)
 clear c6
 obtain ⟨bq7, hbq7⟩ : ∃ b_ : Bool, b_ = ((rd_T37 t184 0).f2) := ⟨_, rfl⟩
 replace H : (if bq7 = true then (some ((strOfNums t188).toList == ([2, 1, 97, 1, 0, 1, 99, 0, 1, 51] : List UInt8))) else (some false)) = some r := by rw [← hbq7] at H; exact H
 have Nbq7 := Aside0.mk hbq7
 clear hbq7
 by_cases c8 : bq7 = true
 rotate_left
 ·replace c8 := Bool.eq_false_iff.mpr c8
  subst c8
  have H1 : (some false) = some r := by rw [if_neg (show ¬ (false = true) by decide)] at H; exact H
  clear H
  have H := H1
  clear H1
  obtain rfl := Option.some.inj H
  exact absurd HLAW.out (by decide)
 subst c8
 have H1 : (some ((strOfNums t188).toList == ([2, 1, 97, 1, 0, 1, 99, 0, 1, 51] : List UInt8))) = some r := by rw [if_pos rfl] at H; exact H
 clear H
 have H := H1
 clear H1
 obtain rfl := Option.some.inj H
 simp only [Option.some.injEq, Prod.mk.injEq] at H
 obtain ⟨rfl⟩ := H
 go_enter Try.func9, Try.ntmps9
 go_wp2_with (first | ((with_reducible refine gate_dst (N := 7) rfl ?_); (try (refine gate_guard (by rfl) ?_; dsimp only)); refine Kd.R_lit k37 _ 37 ?hg (N := 7) ?hd (xs := ([(⟨(⟨#[97]⟩ : ByteArray), (⟨#[]⟩ : ByteArray), true⟩ : S37)] : List (S37))) (inner := [.string (⟨#[97]⟩ : ByteArray), .string (⟨#[]⟩ : ByteArray), .bool true]) (ok := fun _ => True) (okp := fun _ => True) ?hr ?hp (fun _ hk => hk) trivial (Below.refl _ _) (Nat.le_refl _) (by simp) ?_; (case hd => rfl); (case hg => rfl); (case hr => first | (go_simp; done) | (go_simp; rfl)); (case hp => exact (Reps.c3 (show Kd.M k37 _ _ _ (⟨(⟨#[97]⟩ : ByteArray), (⟨#[]⟩ : ByteArray), true⟩ : S37) [.string (⟨#[97]⟩ : ByteArray), .string (⟨#[]⟩ : ByteArray), .bool true] from (k37_mkM _ _ _ (⟨(⟨#[97]⟩ : ByteArray), (⟨#[]⟩ : ByteArray), true⟩ : S37) )) (Reps.none _ _))); intro v176 w9 ho10 hb hg_ hnew_; clear hg_ hnew_; (first | rw [← Ny175.out] at ho10 | (simp only [Int.reduceToNat] at ho10; rw [← Ny175.out] at ho10)); have n0_ := Aside0.mk (Kd.R_lower ho10 (below_size (hL HB.out))); have n1_ := Aside0.mk (below_step (hL HB.out) hb); clear HB; have HO177 := n0_; have HB := n1_; clear n0_ n1_; clear hb ho10) | ((with_reducible refine gate_dst (N := 10) rfl ?_); (try (refine gate_guard (by rfl) ?_; dsimp only)); refine Kd.R_lit k37 _ 37 ?hg (N := 10) ?hd (xs := ([(⟨(⟨#[97]⟩ : ByteArray), (⟨#[49]⟩ : ByteArray), false⟩ : S37), (⟨(⟨#[99]⟩ : ByteArray), (⟨#[51]⟩ : ByteArray), false⟩ : S37)] : List (S37))) (inner := [.string (⟨#[97]⟩ : ByteArray), .string (⟨#[49]⟩ : ByteArray), .bool false, .string (⟨#[99]⟩ : ByteArray), .string (⟨#[51]⟩ : ByteArray), .bool false]) (ok := fun _ => True) (okp := fun _ => True) ?hr ?hp (fun _ hk => hk) trivial (Below.refl _ _) (Nat.le_refl _) (by simp) ?_; (case hd => rfl); (case hg => rfl); (case hr => first | (go_simp; done) | (go_simp; rfl)); (case hp => exact (Reps.c3 (show Kd.M k37 _ _ _ (⟨(⟨#[97]⟩ : ByteArray), (⟨#[49]⟩ : ByteArray), false⟩ : S37) [.string (⟨#[97]⟩ : ByteArray), .string (⟨#[49]⟩ : ByteArray), .bool false] from (k37_mkM _ _ _ (⟨(⟨#[97]⟩ : ByteArray), (⟨#[49]⟩ : ByteArray), false⟩ : S37) )) (Reps.c3 (show Kd.M k37 _ _ _ (⟨(⟨#[99]⟩ : ByteArray), (⟨#[51]⟩ : ByteArray), false⟩ : S37) [.string (⟨#[99]⟩ : ByteArray), .string (⟨#[51]⟩ : ByteArray), .bool false] from (k37_mkM _ _ _ (⟨(⟨#[99]⟩ : ByteArray), (⟨#[51]⟩ : ByteArray), false⟩ : S37) )) (Reps.none _ _)))); intro v179 w11 ho12 hb hg_ hnew_; clear hg_ hnew_; (first | rw [← Ny178.out] at ho12 | (simp only [Int.reduceToNat] at ho12; rw [← Ny178.out] at ho12)); have n0_ := Aside0.mk (Kd.R_elder' (rL HO177.out) (Kd.R_base ho12) hb); have n1_ := Aside0.mk (Kd.R_lower (Kd.R_new' ho12 (Kd.R_lt (rL HO177.out))) (below_size (hL HB.out))); have n2_ := Aside0.mk (below_step (hL HB.out) hb); clear HO177; clear HB; have HO177 := n0_; have HO180 := n1_; have HB := n2_; clear n0_ n1_ n2_; clear hb ho12; obtain ⟨Ao13, co13, eo13⟩ := Kd.R_slice HO177.out; subst eo13; obtain ⟨Ao14, co14, eo14⟩ := Kd.R_slice HO180.out; subst eo14) | ((with_reducible refine gate_dst (N := 11) rfl ?_); (try (refine gate_guard (by rfl) ?_; dsimp only)); refine Kd.N_lit (Kd.slice 37 k37) _ 25 ?hg (N' := 11) ?hd (xs := ([y175, y178] : List (List (S37)))) (inner := [.slice Ao13 y175.length co13, .slice Ao14 y178.length co14]) (ok := (fun _ => True)) (okp := (fun _ => True)) ?hr ?hp (fun _ hk => hk) ((show ∀ k_, w11.heap.size ≤ k_ → (fun _ => True) k_ from fun k_ hk => trivial) _ (Nat.le_refl _)) (Below.refl _ _) (Nat.le_refl _) (by simp) ?_; (case hd => rfl); (case hg => rfl); (case hr => first | (go_simp; done) | (go_simp; rfl)); (case hp => exact (Reps.one (show Kd.FK (Kd.slice 37 k37) _ _ y175 [.slice Ao13 y175.length co13] from (Kd.FK_slice_mk (Kd.R_reads' (Kd.R_mono (ok' := (fun _ => True)) (HO177.out) (fun k_ hk => trivial))).2.1 (Kd.R_F (Kd.R_mono (ok' := (fun _ => True)) (HO177.out) (fun k_ hk => trivial))))) (Reps.one (show Kd.FK (Kd.slice 37 k37) _ _ y178 [.slice Ao14 y178.length co14] from (Kd.FK_slice_mk (Kd.R_reads' (Kd.R_mono (ok' := (fun _ => True)) (HO180.out) (fun k_ hk => trivial))).2.1 (Kd.R_F (Kd.R_mono (ok' := (fun _ => True)) (HO180.out) (fun k_ hk => trivial))))) (Reps.none _ _)))); intro v182 w15 ho16 hb hg_ hnew_; clear hg_ hnew_; (first | rw [← Ny181.out] at ho16 | (simp only [Int.reduceToNat] at ho16; rw [← Ny181.out] at ho16)); have n0_ := Aside0.mk (Kd.N_lower ho16 (below_size (hL HB.out))); have n1_ := Aside0.mk (below_step (hL HB.out) hb); clear HB; clear HO177; clear HO180; have HO183 := n0_; have HB := n1_; clear n0_ n1_; clear hb ho16; obtain ⟨Ao17, co17, eo17⟩ := Kd.N_slice HO183.out; subst eo17) | ((with_reducible refine gate_callee (f := 12) rfl ?_); refine goesL_ (some 12) rfl rfl Try.func12 (by kernel_rfl) rfl #[.slice Ao17 y181.length co17] rfl (by (try simp only [List.map_toArray, List.map_cons, List.map_nil]); first | done | rfl | (simp only [List.length_drop, List.length_take]; rfl)) ?_; (with_reducible refine (run_Merge.calls k _ _ y181 t184 t185 _ ?side1 ?side2 A1.out).mono ?_); (case side1 => repeat (first | exact (Kd.N_reads' HO183.out).2.2 | (with_reducible refine Kd.C_alloc ?_ _) | (with_reducible refine Kd.C_drewN ?_ _) | (with_reducible refine Kd.C_drew ?_))); (case side2 => exact (Kd.N_reads' HO183.out).2.1); rintro e w18 ⟨v186, rfl, ho0, hb⟩; refine ⟨_, rfl, ?_⟩; have n0_ := Aside0.mk (Kd.N_elder' (nL HO183.out) (Kd.R_base ho0) hb); have n1_ := Aside0.mk (Kd.R_lower ho0 (below_size (hL HB.out))); have n2_ := Aside0.mk (below_step (hL HB.out) hb); clear HO183; clear HB; have HO183 := n0_; have HO187 := n1_; have HB := n2_; clear n0_ n1_ n2_; (try clear hb); (try clear hb2); (try clear hk); (try clear hi); (try clear ho0); obtain ⟨Ao19, co19, eo19⟩ := Kd.R_slice HO187.out; subst eo19) | ((with_reducible refine gate_callee (f := 23) rfl ?_); refine goesL_ (some 17) rfl rfl Try.func23 (by kernel_rfl) rfl #[.slice Ao19 t184.length co19] rfl (by (try simp only [List.map_toArray, List.map_cons, List.map_nil]); first | done | rfl | (simp only [List.length_drop, List.length_take]; rfl)) ?_; (with_reducible refine (run_Pack.calls k _ _ t184 t188 t189 _ ?side1 ?side2 A2.out).mono ?_); (case side1 => repeat (first | exact (Kd.R_reads' HO187.out).2.2 | (with_reducible refine Kd.C_alloc ?_ _) | (with_reducible refine Kd.C_drewN ?_ _) | (with_reducible refine Kd.C_drew ?_))); (case side2 => exact (Kd.R_reads' HO187.out).2.1); rintro e w20 ⟨v190, rfl, ho0, hb⟩; refine ⟨_, rfl, ?_⟩; have n0_ := Aside0.mk (Kd.N_elder' (nL HO183.out) (Kd.R_base ho0) hb); have n1_ := Aside0.mk (Kd.R_below (rL HO187.out) hb); have n2_ := Aside0.mk (Kd.R_lower ho0 (below_size (hL HB.out))); have n3_ := Aside0.mk (below_step (hL HB.out) hb); clear HO183; clear HO187; clear HB; have HO183 := n0_; have HO187 := n1_; have HO191 := n2_; have HB := n3_; clear n0_ n1_ n2_ n3_; (try clear hb); (try clear hb2); (try clear hk); (try clear hi); (try clear ho0); have p192 : 0 ≤ (0 : Int) := (by omega); have q192 : 0 < (t184.length : Int) := of_decide_eq_true (by first | (with_reducible assumption) | assumption); obtain ⟨ad192, e192, hx192_0, hx192_1, hx192_2⟩ := at_T37 (Kd.R_reads' HO187.out).2.2 0 p192 q192; (try rw [← Nbq7.out] at hx192_2); cases e192; have qi192 : (0 < t184.length) = True := eq_true (by omega); (try rw [show ((0 : Int)).toNat = 0 from rfl] at hx192_0); (try rw [show 0 * 3 = 0 from rfl] at hx192_0); (try rw [Addr.add_zero'] at hx192_0); (try rw [show ((0 : Int)).toNat = 0 from rfl] at hx192_1); (try rw [show 0 * 3 = 0 from rfl] at hx192_1); (try rw [Addr.add_zero'] at hx192_1); (try rw [show ((0 : Int)).toNat = 0 from rfl] at hx192_2); (try rw [show 0 * 3 = 0 from rfl] at hx192_2); (try rw [Addr.add_zero'] at hx192_2); replace p192 := eq_true p192; replace q192 := eq_true q192; have hcv21 := own_string (P := Try.prog) Try.underlying45 Try.underlying5 Try.underlying9 (Kd.own_of_R HO191.out)))
 go_ret
 exact ⟨by first | rfl | (simp [errW_none, errW_some] <;> rfl) | (simp [*, errW_none, errW_some] <;> rfl), hL HB.out⟩

/-! ### slices_Clone_api_Change_api_Change: function 35 -/
def slices_Clone_api_Change_api_Change.f (l0 : List (S37)) : Option ((List (S37))) := (some (([] : List (S37)) : List (S37))).bind fun y193 => (if y193.length + l0.length < 3518437208883 then (some (y193 ++ l0)) else (none))
set_option maxHeartbeats 8000000 in
set_option maxRecDepth 100000 in
theorem slices_Clone_api_Change_api_Change.calls (A0 : Option Addr) (c0 : Nat) (l0 : List (S37)) (r : List (S37)) (w : World) (hr0 : Kd.C k37 w A0 l0.length l0) (hc0 : l0.length ≤ c0) (h : slices_Clone_api_Change_api_Change.f l0 = some r) :
  Calls Try.prog 35 #[.slice A0 l0.length c0] w fun e w' => ∃ v0_ : Value, e = .returned (v0_) ∧ Kd.R k37 37 w' w.heap.size (fun _ => True) v0_ r ∧ Below w.heap.size w w' := by
 rcases A0 with _ | ad0
 ·have hz : l0 = [] := by
   rcases Nat.eq_zero_or_pos l0.length with h0 | h0
   ·exact List.eq_nil_of_length_eq_zero h0
   ·obtain ⟨_, he, _⟩ := hr0.2.2 h0; cases he
  subst hz
  simp [slices_Clone_api_Change_api_Change.f] at h
  subst h
  clear hr0 hc0
  have hnil_ : ∀ w_ : World, (binOp .eql 25 (.slice none 0 c0) (.slice none 0 0)).run Try.prog w_ = .ok (.bool true) w_ := fun w_ => Lib.run_eql_slice_nil w_ 25 37 none 0 c0 0 0 Try.underlying25
  go_enter Try.func35, Try.ntmps35
  go_wp2
  go_ret
  exact ⟨_, rfl, Kd.R_nil _ _ _ _ _, Below.refl _ _⟩
 have hnil_ : ∀ w_ : World, (binOp .eql 25 (.slice (some ad0) l0.length c0) (.slice none 0 0)).run Try.prog w_ = .ok (.bool false) w_ := fun w_ => Lib.run_eql_slice_nil w_ 25 37 (some ad0) l0.length c0 0 0 Try.underlying25
 have HR0 := Aside0.mk hr0
 have HC0 := Aside0.mk hc0
 clear hr0 hc0
 have HB := Aside0.mk (Below.refl w.heap.size w)
 have H : ((some (([] : List (S37)) : List (S37))).bind fun y193 => (if y193.length + l0.length < 3518437208883 then (some (y193 ++ l0)) else (none))) = some r := h
 clear h
 obtain ⟨y193, hy193⟩ : ∃ y_ : List (S37), y_ = (([] : List (S37))) := ⟨_, rfl⟩
 replace H : (if y193.length + l0.length < 3518437208883 then (some (y193 ++ l0)) else (none)) = some r := by first | (rw [hy193]; with_reducible exact H) | (have H2_ := (Option.bind_some _ _).symm.trans H; rw [hy193]; with_reducible exact H2_) | (have H2_ := (Option.bind_some _ _).symm.trans H; with_reducible exact H2_) | with_reducible exact H | (rw [hy193]; exact H) | exact H
 have Ny193 := Aside0.mk hy193
 clear hy193
 by_cases c2 : y193.length + l0.length < 3518437208883
 rotate_left
 ·rw [if_neg c2] at H
  exact absurd H (by simp)
 rw [if_pos c2] at H
 have LMc2 := Aside0.mk c2
 clear c2
 obtain ⟨y196, hy196⟩ : ∃ y_ : List (S37), y_ = (y193 ++ l0) := ⟨_, rfl⟩
 replace H : (some y196) = some r := by first | (rw [hy196]; with_reducible exact H) | (have H2_ := (Option.bind_some _ _).symm.trans H; rw [hy196]; with_reducible exact H2_) | (have H2_ := (Option.bind_some _ _).symm.trans H; with_reducible exact H2_) | with_reducible exact H | (rw [hy196]; exact H) | exact H
 have Ny196 := Aside0.mk hy196
 clear hy196
 obtain rfl := Option.some.inj H
 simp only [Option.some.injEq, Prod.mk.injEq] at H
 obtain ⟨rfl⟩ := H
 go_enter Try.func35, Try.ntmps35
 go_wp2_with (first | ((with_reducible refine gate_dst (N := 5) rfl ?_); refine Kd.R_lit k37 _ 37 ?hg (N := 5) ?hd (xs := ([] : List (S37))) (inner := []) (ok := fun _ => True) (okp := fun _ => True) ?hr ?hp (fun _ hk => hk) trivial (Below.refl _ _) (Nat.le_refl _) (by simp) ?_; (case hd => rfl); (case hg => rfl); (case hr => first | (go_simp; done) | (go_simp; rfl)); (case hp => exact (Reps.none _ _)); intro v194 w3 ho4 hb hg_ hnew_; clear hg_ hnew_; (first | rw [← Ny193.out] at ho4 | (simp only [Int.reduceToNat] at ho4; rw [← Ny193.out] at ho4)); have n0_ := Aside0.mk (Kd.R_lower ho4 (below_size (hL HB.out))); have n1_ := Aside0.mk (below_step (hL HB.out) hb); clear HB; have HO195 := n0_; have HB := n1_; clear n0_ n1_; clear hb ho4) | ((with_reducible refine gate_builtin (b := .append) (xs := #[.tmp 5, .tmp 6]) rfl ?_); at_builtin; refine Kd.R_append_rows k37 (w0 := w) w.heap.size rfl (.tmp 5) (.tmp 6) 25 37 (.agg #[(.string ⟨#[]⟩), (.string ⟨#[]⟩), (.bool false)]) 40 rfl Try.underlying25 info37 rfl (by decide) (by omega) v194 y193 l0 _ _ _ (fun _ => True) (fun _ => False) rfl rfl ?aO ?aR (fun _ _ h => h) (fun _ h => h.elim) ?aF ?aB ?aS ?aL ?_; (case aR => repeat (first | exact (Kd.C_below HR0.out HB.out) | exact (Kd.C_drewN (Kd.C_below HR0.out HB.out) _) | exact (Kd.C_drew (Kd.C_below HR0.out HB.out)) | (with_reducible refine Kd.C_alloc ?_ _) | (with_reducible refine Kd.C_drewN ?_ _) | (with_reducible refine Kd.C_drew ?_))); (case aB => exact (hL HB.out)); (case aF => exact (fun _ _ => trivial)); (case aO => exact (rL HO195.out)); (case aS => exact (below_size (hL HB.out))); (case aL => have := LMc2.out; omega); intro v197 w5 ho hb hg hat; rw [← Ny196.out] at ho; have n0_ := Aside0.mk (hb); have n1_ := Aside0.mk (ho); clear HB; clear HO195; have HB := n0_; have HO198 := n1_; clear n0_ n1_; clear ho hb hg hat))
 go_ret
 exact ⟨_, by first | rfl | (simp [errW_none, errW_some] <;> rfl) | (simp [*, errW_none, errW_some] <;> rfl), by exact rL HO198.out, hL HB.out⟩

end Go.Proofs.Ytkkfkccfnfjbiaa.PMk
