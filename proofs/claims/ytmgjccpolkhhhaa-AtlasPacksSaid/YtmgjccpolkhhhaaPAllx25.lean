-- Written by a program of this session for this claim (mp.py, over the kit's print); Lean checks it.
import Derived.Test.YtmgjccpolkhhhaaPAllx0
import Derived.Test.YtmgjccpolkhhhaaPAllx24
namespace Go.Proofs.Ytmgjccpolkhhhaa.PAll
open Go.RowKit Go.Proofs.YtmgjccpolkhhhaaW.PrintWords Go.Proofs.YtmgjccpolkhhhaaW.PrintLast Go.Proofs.YtmgjccpolkhhhaaW.PrintMore Go.Proofs.Ytmgjccpolkhhhaa.Fv Go.Proofs.Ytmgjccpolkhhhaa.Hl
attribute [local go_sem] max2_int min2_int max_two min_two max_three min_three max_four min_four str_gtr str_leq str_geq cell_set2   -- for this text's walks alone
set_option linter.unusedVariables false
set_option linter.unusedSimpArgs false

/-! ### pack_GetText: function 60 -/
def pack_GetText.f (k : Nat) (l0 : List Int) (a1 : Int) (a2 : Int) : Option (ByteArray × Int × Int) := (pack_GetNum.f k l0 a1).bind fun bt481 => (if bt481.2.2 = 0 then (if bt481.1 > a2 then (some ((⟨#[]⟩ : ByteArray), 0, 4)) else (if bt481.1 > (wrap64 ((l0.length : Int) - bt481.2.1)) then (some ((⟨#[]⟩ : ByteArray), 0, 2)) else (if 0 ≤ bt481.2.1 then (if bt481.2.1 ≤ (wrap64 (bt481.2.1 + bt481.1)) then (if (wrap64 (bt481.2.1 + bt481.1)) ≤ (l0.length : Int) then (some (strOfNums ((l0.take ((wrap64 (bt481.2.1 + bt481.1)) : Int).toNat).drop (bt481.2.1 : Int).toNat), wrap64 (bt481.2.1 + bt481.1), 0)) else (none)) else (none)) else (none)))) else (some ((⟨#[]⟩ : ByteArray), 0, bt481.2.2)))
theorem pack_GetText.mono : ∀ a0 a1 a2 k, LeO (pack_GetText.f k a0 a1 a2) (pack_GetText.f (k + 1) a0 a1 a2) := by
 intro a0 a1 a2 k
 unfold pack_GetText.f
 repeat' first
   | (with_reducible exact pack_GetNum.mono _ _ _)
   | (with_reducible exact LeO.refl _)
   | (with_reducible exact LeO.none _)
   | (with_reducible refine LeO.ite ?_ ?_)
   | (with_reducible refine LeO.bind ?_ (fun _ => ?_))
   | exact pack_GetNum.mono _ _ _
   | exact LeO.none _
   | refine LeO.ite ?_ ?_
   | refine LeO.bind ?_ (fun _ => ?_)
set_option maxHeartbeats 8000000 in
set_option maxRecDepth 100000 in
theorem pack_GetText.calls (k : Nat) (A0 : Option Addr) (c0 : Nat) (l0 : List Int) (a1 : Int) (a2 : Int) (r1 : ByteArray) (r2 : Int) (r3 : Int) (w : World) (hr0 : Kd.C (Kd.int .u8) w A0 l0.length l0) (hc0 : l0.length ≤ c0) (h : pack_GetText.f k l0 a1 a2 = some (r1, r2, r3)) :
  Calls Try.prog 60 #[.slice A0 l0.length c0, .int .i64 a1, .int .i64 a2] w fun e w' => e = .returned (.tuple #[.string r1, .int .i64 r2, .int .i64 r3]) ∧ Below w.heap.size w w' := by
 have HR0 := Aside0.mk hr0
 have HC0 := Aside0.mk hc0
 clear hr0 hc0
 have HB := Aside0.mk (Below.refl w.heap.size w)
 have H : ((pack_GetNum.f k l0 a1).bind fun bt481 => (if bt481.2.2 = 0 then (if bt481.1 > a2 then (some ((⟨#[]⟩ : ByteArray), 0, 4)) else (if bt481.1 > (wrap64 ((l0.length : Int) - bt481.2.1)) then (some ((⟨#[]⟩ : ByteArray), 0, 2)) else (if 0 ≤ bt481.2.1 then (if bt481.2.1 ≤ (wrap64 (bt481.2.1 + bt481.1)) then (if (wrap64 (bt481.2.1 + bt481.1)) ≤ (l0.length : Int) then (some (strOfNums ((l0.take ((wrap64 (bt481.2.1 + bt481.1)) : Int).toNat).drop (bt481.2.1 : Int).toNat), wrap64 (bt481.2.1 + bt481.1), 0)) else (none)) else (none)) else (none)))) else (some ((⟨#[]⟩ : ByteArray), 0, bt481.2.2)))) = some (r1, r2, r3) := h
 clear h
 replace H := Option.bind_eq_some_iff.mp H
 obtain ⟨⟨t481, t482, t483⟩, A40, H⟩ := H
 replace H : (if t483 = 0 then (if t481 > a2 then (some ((⟨#[]⟩ : ByteArray), 0, 4)) else (if t481 > (wrap64 ((l0.length : Int) - t482)) then (some ((⟨#[]⟩ : ByteArray), 0, 2)) else (if 0 ≤ t482 then (if t482 ≤ (wrap64 (t482 + t481)) then (if (wrap64 (t482 + t481)) ≤ (l0.length : Int) then (some (strOfNums ((l0.take ((wrap64 (t482 + t481)) : Int).toNat).drop (t482 : Int).toNat), wrap64 (t482 + t481), 0)) else (none)) else (none)) else (none)))) else (some ((⟨#[]⟩ : ByteArray), 0, t483))) = some (r1, r2, r3) := H
 have A4 := Aside0.mk A40
 clear A40
 by_cases c5 : t483 = 0
 ·rw [if_pos c5] at H
  have c5b0 : (t483 == 0) = true := beq_iff_eq.mpr c5
  have c5b1 : (t483 != 0) = false := bne_eq_false_iff_eq.mpr c5
  clear c5
  by_cases c6 : t481 > a2
  ·rw [if_pos c6] at H
   have c6b0 : decide (a2 < t481) = true := decide_eq_true c6
   clear c6
   simp only [Option.some.injEq, Prod.mk.injEq] at H
   obtain ⟨rfl, rfl, rfl⟩ := H
   go_enter Try.func60, Try.ntmps60
   go_wp2_with (first | ((with_reducible refine gate_callee (f := 59) rfl ?_); refine goesL_ (some 13) rfl rfl Try.func59 (by kernel_rfl) rfl #[.slice A0 l0.length c0, .int .i64 a1] rfl (by (try simp only [List.map_toArray, List.map_cons, List.map_nil]); first | done | rfl | (simp only [List.length_drop, List.length_take]; rfl)) ?_; (with_reducible refine (pack_GetNum.calls k _ _ l0 a1 t481 t482 t483 _ ?side1 ?side2 A4.out).mono ?_); (case side1 => repeat (first | exact HR0.out | (with_reducible refine Kd.C_alloc ?_ _) | (with_reducible refine Kd.C_drewN ?_ _) | (with_reducible refine Kd.C_drew ?_))); (case side2 => exact HC0.out); rintro e w7 ⟨rfl, hb⟩; refine ⟨_, rfl, ?_⟩; have n0_ := Aside0.mk (below_step (hL HB.out) hb); clear HB; have HB := n0_; clear n0_; (try clear hb); (try clear hb2); (try clear hk); (try clear hi)))
   go_ret3
   exact ⟨by first | rfl | (simp [errW_none, errW_some] <;> rfl) | (simp [*, errW_none, errW_some] <;> rfl), hL HB.out⟩
  ·rw [if_neg c6] at H
   have c6b0 : decide (a2 < t481) = false := decide_eq_false c6
   clear c6
   by_cases c8 : t481 > (wrap64 ((l0.length : Int) - t482))
   ·rw [if_pos c8] at H
    have c8b0 : decide ((wrap64 ((l0.length : Int) - t482)) < t481) = true := decide_eq_true c8
    clear c8
    simp only [Option.some.injEq, Prod.mk.injEq] at H
    obtain ⟨rfl, rfl, rfl⟩ := H
    go_enter Try.func60, Try.ntmps60
    go_wp2_with (first | ((with_reducible refine gate_callee (f := 59) rfl ?_); refine goesL_ (some 13) rfl rfl Try.func59 (by kernel_rfl) rfl #[.slice A0 l0.length c0, .int .i64 a1] rfl (by (try simp only [List.map_toArray, List.map_cons, List.map_nil]); first | done | rfl | (simp only [List.length_drop, List.length_take]; rfl)) ?_; (with_reducible refine (pack_GetNum.calls k _ _ l0 a1 t481 t482 t483 _ ?side1 ?side2 A4.out).mono ?_); (case side1 => repeat (first | exact HR0.out | (with_reducible refine Kd.C_alloc ?_ _) | (with_reducible refine Kd.C_drewN ?_ _) | (with_reducible refine Kd.C_drew ?_))); (case side2 => exact HC0.out); rintro e w9 ⟨rfl, hb⟩; refine ⟨_, rfl, ?_⟩; have n0_ := Aside0.mk (below_step (hL HB.out) hb); clear HB; have HB := n0_; clear n0_; (try clear hb); (try clear hb2); (try clear hk); (try clear hi)))
    go_ret3
    exact ⟨by first | rfl | (simp [errW_none, errW_some] <;> rfl) | (simp [*, errW_none, errW_some] <;> rfl), hL HB.out⟩
   ·rw [if_neg c8] at H
    have c8b0 : decide ((wrap64 ((l0.length : Int) - t482)) < t481) = false := decide_eq_false c8
    clear c8
    by_cases c10 : 0 ≤ t482
    ·rw [if_pos c10] at H
     have c10b0 := eq_true c10
     have c10b1 : decide (0 ≤ t482) = true := decide_eq_true c10
     clear c10
     by_cases c11 : t482 ≤ (wrap64 (t482 + t481))
     ·rw [if_pos c11] at H
      have c11b0 := eq_true c11
      have c11b1 : decide (t482 ≤ (wrap64 (t482 + t481))) = true := decide_eq_true c11
      by_cases c12 : (wrap64 (t482 + t481)) ≤ (l0.length : Int)
      ·rw [if_pos c12] at H
       have c12b0 := eq_true c12
       have c12b1 : decide ((wrap64 (t482 + t481)) ≤ (l0.length : Int)) = true := decide_eq_true c12
       simp only [Option.some.injEq, Prod.mk.injEq] at H
       obtain ⟨rfl, rfl, rfl⟩ := H
       go_enter Try.func60, Try.ntmps60
       go_wp2_with (first | ((with_reducible refine gate_callee (f := 59) rfl ?_); refine goesL_ (some 13) rfl rfl Try.func59 (by kernel_rfl) rfl #[.slice A0 l0.length c0, .int .i64 a1] rfl (by (try simp only [List.map_toArray, List.map_cons, List.map_nil]); first | done | rfl | (simp only [List.length_drop, List.length_take]; rfl)) ?_; (with_reducible refine (pack_GetNum.calls k _ _ l0 a1 t481 t482 t483 _ ?side1 ?side2 A4.out).mono ?_); (case side1 => repeat (first | exact HR0.out | (with_reducible refine Kd.C_alloc ?_ _) | (with_reducible refine Kd.C_drewN ?_ _) | (with_reducible refine Kd.C_drew ?_))); (case side2 => exact HC0.out); rintro e w13 ⟨rfl, hb⟩; refine ⟨_, rfl, ?_⟩; have n0_ := Aside0.mk (below_step (hL HB.out) hb); clear HB; have HB := n0_; clear n0_; (try clear hb); (try clear hb2); (try clear hk); (try clear hi); obtain ⟨i014, hi014, _, hsz14, _⟩ := info_parts info5; obtain ⟨A14, hcut14, hA14, hC14⟩ := print_mid_of (P := Try.prog) (Value.int .u8) 0 59 5 .i64 .i64 Try.underlying59 hi014 hsz14 A0 c0 l0 t482 (wrap64 (t482 + t481)) (of_decide_eq_true (by first | (with_reducible assumption) | assumption)) (by first | omega | exact of_decide_eq_true (by first | (with_reducible assumption) | assumption)) (of_decide_eq_true (by first | (with_reducible assumption) | assumption)) HC0.out; have HR484 := Aside0.mk (Kd.C_of_reads (h1 := fun _ => rfl) (hA14 _ (Kd.reads_of_C HR0.out))); have HC484 := Aside0.mk hC14; clear hA14 hC14 hi014 hsz14; have hcv15 := Kd.C_string (P := Try.prog) (A := A14) (c := (c0 - t482.toNat)) Try.underlying59 Try.underlying5 Try.underlying9 (Kd.C_below HR484.out HB.out); have hcv15d := fun n_ : Nat => Kd.C_string (P := Try.prog) (A := A14) (c := (c0 - t482.toNat)) Try.underlying59 Try.underlying5 Try.underlying9 (Kd.C_drewN (Kd.C_below HR484.out HB.out) n_); have hcv15r := Kd.C_string (P := Try.prog) (A := A14) (c := (c0 - t482.toNat)) Try.underlying59 Try.underlying5 Try.underlying9 (Kd.C_drew (Kd.C_below HR484.out HB.out)); have hl15_ := (show ((wrap64 (t482 + t481)) : Int).toNat ≤ l0.length by omega); have hcv15z := hcv15; (try simp only [List.length_drop, List.length_take, Nat.min_eq_left hl15_] at hcv15z); have hcv15dz := hcv15d; (try simp only [List.length_drop, List.length_take, Nat.min_eq_left hl15_] at hcv15dz); have hcv15rz := hcv15r; (try simp only [List.length_drop, List.length_take, Nat.min_eq_left hl15_] at hcv15rz); clear hl15_))
       go_ret3
       exact ⟨by first | rfl | (simp [errW_none, errW_some] <;> rfl) | (simp [*, errW_none, errW_some] <;> rfl), hL HB.out⟩
      ·rw [if_neg c12] at H
       exact absurd H (by simp)
     ·rw [if_neg c11] at H
      exact absurd H (by simp)
    ·rw [if_neg c10] at H
     exact absurd H (by simp)
 ·rw [if_neg c5] at H
  have c5b0 : (t483 == 0) = false := beq_eq_false_iff_ne.mpr c5
  have c5b1 : (t483 != 0) = true := bne_iff_ne.mpr c5
  simp only [Option.some.injEq, Prod.mk.injEq] at H
  obtain ⟨rfl, rfl, rfl⟩ := H
  go_enter Try.func60, Try.ntmps60
  go_wp2_with (first | ((with_reducible refine gate_callee (f := 59) rfl ?_); refine goesL_ (some 13) rfl rfl Try.func59 (by kernel_rfl) rfl #[.slice A0 l0.length c0, .int .i64 a1] rfl (by (try simp only [List.map_toArray, List.map_cons, List.map_nil]); first | done | rfl | (simp only [List.length_drop, List.length_take]; rfl)) ?_; (with_reducible refine (pack_GetNum.calls k _ _ l0 a1 t481 t482 t483 _ ?side1 ?side2 A4.out).mono ?_); (case side1 => repeat (first | exact HR0.out | (with_reducible refine Kd.C_alloc ?_ _) | (with_reducible refine Kd.C_drewN ?_ _) | (with_reducible refine Kd.C_drew ?_))); (case side2 => exact HC0.out); rintro e w16 ⟨rfl, hb⟩; refine ⟨_, rfl, ?_⟩; have n0_ := Aside0.mk (below_step (hL HB.out) hb); clear HB; have HB := n0_; clear n0_; (try clear hb); (try clear hb2); (try clear hk); (try clear hi)))
  go_ret3
  exact ⟨by first | rfl | (simp [errW_none, errW_some] <;> rfl) | (simp [*, errW_none, errW_some] <;> rfl), hL HB.out⟩

end Go.Proofs.Ytmgjccpolkhhhaa.PAll
