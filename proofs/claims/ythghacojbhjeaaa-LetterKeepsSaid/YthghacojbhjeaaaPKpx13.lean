-- Written by a program of this session for this claim (mp.py, over the kit's print); Lean checks it.
import Derived.Test.YthghacojbhjeaaaPKpx0
import Derived.Test.YthghacojbhjeaaaPKpx12
namespace Go.Proofs.Ythghacojbhjeaaa.PKp
open Go.RowKit Go.Proofs.YthghacojbhjeaaaW.PrintWords Go.Proofs.YthghacojbhjeaaaW.PrintLast Go.Proofs.YthghacojbhjeaaaW.PrintMore Go.Proofs.Ythghacojbhjeaaa.Fv Go.Proofs.Ythghacojbhjeaaa.Hl
attribute [local go_sem] max2_int min2_int max_two min_two max_three min_three max_four min_four str_gtr str_leq str_geq cell_set2   -- for this text's walks alone
set_option linter.unusedVariables false
set_option linter.unusedSimpArgs false

-- NOT PRINTED: function 17 (letter_reader_num)

-- NOT PRINTED: function 19 (letter_texts)

/-! ### pack_GetText: function 46 -/
def pack_GetText.f (k : Nat) (l0 : List Int) (a1 : Int) (a2 : Int) : Option (ByteArray × Int × Int) := (pack_GetNum.f k l0 a1).bind fun bt170 => (if bt170.2.2 = 0 then (if bt170.1 > a2 then (some ((⟨#[]⟩ : ByteArray), 0, 4)) else (if bt170.1 > (wrap64 ((l0.length : Int) - bt170.2.1)) then (some ((⟨#[]⟩ : ByteArray), 0, 2)) else (if 0 ≤ bt170.2.1 then (if bt170.2.1 ≤ (wrap64 (bt170.2.1 + bt170.1)) then (if (wrap64 (bt170.2.1 + bt170.1)) ≤ (l0.length : Int) then (some (strOfNums ((l0.take ((wrap64 (bt170.2.1 + bt170.1)) : Int).toNat).drop (bt170.2.1 : Int).toNat), wrap64 (bt170.2.1 + bt170.1), 0)) else (none)) else (none)) else (none)))) else (some ((⟨#[]⟩ : ByteArray), 0, bt170.2.2)))
theorem pack_GetText.mono : ∀ a0 a1 a2 k, LeO (pack_GetText.f k a0 a1 a2) (pack_GetText.f (k + 1) a0 a1 a2) := by
 intro a0 a1 a2 k
 unfold pack_GetText.f
 repeat' first
   | (with_reducible exact pack_GetNum.mono _ _ _)
   | (with_reducible exact LeO.refl _)
   | (with_reducible exact LeO.none _)
   | (with_reducible refine LeO.ite ?_ ?_)
   | (with_reducible refine LeO.bind ?_ (fun _ => ?_))
   | exact pack_GetNum.mono _ _ _
   | exact LeO.none _
   | refine LeO.ite ?_ ?_
   | refine LeO.bind ?_ (fun _ => ?_)
set_option maxHeartbeats 8000000 in
set_option maxRecDepth 100000 in
theorem pack_GetText.calls (k : Nat) (A0 : Option Addr) (c0 : Nat) (l0 : List Int) (a1 : Int) (a2 : Int) (r1 : ByteArray) (r2 : Int) (r3 : Int) (w : World) (hr0 : Kd.C (Kd.int .u8) w A0 l0.length l0) (hc0 : l0.length ≤ c0) (h : pack_GetText.f k l0 a1 a2 = some (r1, r2, r3)) :
  Calls Try.prog 46 #[.slice A0 l0.length c0, .int .i64 a1, .int .i64 a2] w fun e w' => e = .returned (.tuple #[.string r1, .int .i64 r2, .int .i64 r3]) ∧ Below w.heap.size w w' := by
 have HR0 := Aside0.mk hr0
 have HC0 := Aside0.mk hc0
 clear hr0 hc0
 have HB := Aside0.mk (Below.refl w.heap.size w)
 have H : ((pack_GetNum.f k l0 a1).bind fun bt170 => (if bt170.2.2 = 0 then (if bt170.1 > a2 then (some ((⟨#[]⟩ : ByteArray), 0, 4)) else (if bt170.1 > (wrap64 ((l0.length : Int) - bt170.2.1)) then (some ((⟨#[]⟩ : ByteArray), 0, 2)) else (if 0 ≤ bt170.2.1 then (if bt170.2.1 ≤ (wrap64 (bt170.2.1 + bt170.1)) then (if (wrap64 (bt170.2.1 + bt170.1)) ≤ (l0.length : Int) then (some (strOfNums ((l0.take ((wrap64 (bt170.2.1 + bt170.1)) : Int).toNat).drop (bt170.2.1 : Int).toNat), wrap64 (bt170.2.1 + bt170.1), 0)) else (none)) else (none)) else (none)))) else (some ((⟨#[]⟩ : ByteArray), 0, bt170.2.2)))) = some (r1, r2, r3) := h
 clear h
 replace H := Option.bind_eq_some_iff.mp H
 obtain ⟨⟨t170, t171, t172⟩, A40, H⟩ := H
 replace H : (if t172 = 0 then (if t170 > a2 then (some ((⟨#[]⟩ : ByteArray), 0, 4)) else (if t170 > (wrap64 ((l0.length : Int) - t171)) then (some ((⟨#[]⟩ : ByteArray), 0, 2)) else (if 0 ≤ t171 then (if t171 ≤ (wrap64 (t171 + t170)) then (if (wrap64 (t171 + t170)) ≤ (l0.length : Int) then (some (strOfNums ((l0.take ((wrap64 (t171 + t170)) : Int).toNat).drop (t171 : Int).toNat), wrap64 (t171 + t170), 0)) else (none)) else (none)) else (none)))) else (some ((⟨#[]⟩ : ByteArray), 0, t172))) = some (r1, r2, r3) := H
 have A4 := Aside0.mk A40
 clear A40
 by_cases c5 : t172 = 0
 rotate_left
 ·rw [if_neg c5] at H
  have c5b0 : (t172 == 0) = false := beq_eq_false_iff_ne.mpr c5
  have c5b1 : (t172 != 0) = true := bne_iff_ne.mpr c5
  simp only [Option.some.injEq, Prod.mk.injEq] at H
  obtain ⟨rfl, rfl, rfl⟩ := H
  go_enter Try.func46, Try.ntmps46
  go_wp2_with (first | ((with_reducible refine gate_callee (f := 45) rfl ?_); refine goesL_ (some 13) rfl rfl Try.func45 (by kernel_rfl) rfl #[.slice A0 l0.length c0, .int .i64 a1] rfl (by (try simp only [List.map_toArray, List.map_cons, List.map_nil]); first | done | rfl | (simp only [List.length_drop, List.length_take]; rfl)) ?_; (with_reducible refine (pack_GetNum.calls k _ _ l0 a1 t170 t171 t172 _ ?side1 ?side2 A4.out).mono ?_); (case side1 => repeat (first | exact HR0.out | (with_reducible refine Kd.C_alloc ?_ _) | (with_reducible refine Kd.C_drewN ?_ _) | (with_reducible refine Kd.C_drew ?_))); (case side2 => exact HC0.out); rintro e w16 ⟨rfl, hb⟩; refine ⟨_, rfl, ?_⟩; have n0_ := Aside0.mk (below_step (hL HB.out) hb); clear HB; have HB := n0_; clear n0_; (try clear hb); (try clear hb2); (try clear hk); (try clear hi)))
  go_ret3
  exact ⟨by first | rfl | (simp [errW_none, errW_some] <;> rfl) | (simp [*, errW_none, errW_some] <;> rfl), hL HB.out⟩
 rw [if_pos c5] at H
 have c5b0 : (t172 == 0) = true := beq_iff_eq.mpr c5
 have c5b1 : (t172 != 0) = false := bne_eq_false_iff_eq.mpr c5
 clear c5
 by_cases c6 : t170 > a2
 ·rw [if_pos c6] at H
  have c6b0 : decide (a2 < t170) = true := decide_eq_true c6
  clear c6
  simp only [Option.some.injEq, Prod.mk.injEq] at H
  obtain ⟨rfl, rfl, rfl⟩ := H
  go_enter Try.func46, Try.ntmps46
  go_wp2_with (first | ((with_reducible refine gate_callee (f := 45) rfl ?_); refine goesL_ (some 13) rfl rfl Try.func45 (by kernel_rfl) rfl #[.slice A0 l0.length c0, .int .i64 a1] rfl (by (try simp only [List.map_toArray, List.map_cons, List.map_nil]); first | done | rfl | (simp only [List.length_drop, List.length_take]; rfl)) ?_; (with_reducible refine (pack_GetNum.calls k _ _ l0 a1 t170 t171 t172 _ ?side1 ?side2 A4.out).mono ?_); (case side1 => repeat (first | exact HR0.out | (with_reducible refine Kd.C_alloc ?_ _) | (with_reducible refine Kd.C_drewN ?_ _) | (with_reducible refine Kd.C_drew ?_))); (case side2 => exact HC0.out); rintro e w7 ⟨rfl, hb⟩; refine ⟨_, rfl, ?_⟩; have n0_ := Aside0.mk (below_step (hL HB.out) hb); clear HB; have HB := n0_; clear n0_; (try clear hb); (try clear hb2); (try clear hk); (try clear hi)))
  go_ret3
  exact ⟨by first | rfl | (simp [errW_none, errW_some] <;> rfl) | (simp [*, errW_none, errW_some] <;> rfl), hL HB.out⟩
 rw [if_neg c6] at H
 have c6b0 : decide (a2 < t170) = false := decide_eq_false c6
 clear c6
 by_cases c8 : t170 > (wrap64 ((l0.length : Int) - t171))
 ·rw [if_pos c8] at H
  have c8b0 : decide ((wrap64 ((l0.length : Int) - t171)) < t170) = true := decide_eq_true c8
  clear c8
  simp only [Option.some.injEq, Prod.mk.injEq] at H
  obtain ⟨rfl, rfl, rfl⟩ := H
  go_enter Try.func46, Try.ntmps46
  go_wp2_with (first | ((with_reducible refine gate_callee (f := 45) rfl ?_); refine goesL_ (some 13) rfl rfl Try.func45 (by kernel_rfl) rfl #[.slice A0 l0.length c0, .int .i64 a1] rfl (by (try simp only [List.map_toArray, List.map_cons, List.map_nil]); first | done | rfl | (simp only [List.length_drop, List.length_take]; rfl)) ?_; (with_reducible refine (pack_GetNum.calls k _ _ l0 a1 t170 t171 t172 _ ?side1 ?side2 A4.out).mono ?_); (case side1 => repeat (first | exact HR0.out | (with_reducible refine Kd.C_alloc ?_ _) | (with_reducible refine Kd.C_drewN ?_ _) | (with_reducible refine Kd.C_drew ?_))); (case side2 => exact HC0.out); rintro e w9 ⟨rfl, hb⟩; refine ⟨_, rfl, ?_⟩; have n0_ := Aside0.mk (below_step (hL HB.out) hb); clear HB; have HB := n0_; clear n0_; (try clear hb); (try clear hb2); (try clear hk); (try clear hi)))
  go_ret3
  exact ⟨by first | rfl | (simp [errW_none, errW_some] <;> rfl) | (simp [*, errW_none, errW_some] <;> rfl), hL HB.out⟩
 rw [if_neg c8] at H
 have c8b0 : decide ((wrap64 ((l0.length : Int) - t171)) < t170) = false := decide_eq_false c8
 clear c8
 by_cases c10 : 0 ≤ t171
 rotate_left
 ·rw [if_neg c10] at H
  exact absurd H (by simp)
 rw [if_pos c10] at H
 have c10b0 := eq_true c10
 have c10b1 : decide (0 ≤ t171) = true := decide_eq_true c10
 clear c10
 by_cases c11 : t171 ≤ (wrap64 (t171 + t170))
 rotate_left
 ·rw [if_neg c11] at H
  exact absurd H (by simp)
 rw [if_pos c11] at H
 have c11b0 := eq_true c11
 have c11b1 : decide (t171 ≤ (wrap64 (t171 + t170))) = true := decide_eq_true c11
 by_cases c12 : (wrap64 (t171 + t170)) ≤ (l0.length : Int)
 rotate_left
 ·rw [if_neg c12] at H
  exact absurd H (by simp)
 rw [if_pos c12] at H
 have c12b0 := eq_true c12
 have c12b1 : decide ((wrap64 (t171 + t170)) ≤ (l0.length : Int)) = true := decide_eq_true c12
 simp only [Option.some.injEq, Prod.mk.injEq] at H
 obtain ⟨rfl, rfl, rfl⟩ := H
 go_enter Try.func46, Try.ntmps46
 go_wp2_with (first | ((with_reducible refine gate_callee (f := 45) rfl ?_); refine goesL_ (some 13) rfl rfl Try.func45 (by kernel_rfl) rfl #[.slice A0 l0.length c0, .int .i64 a1] rfl (by (try simp only [List.map_toArray, List.map_cons, List.map_nil]); first | done | rfl | (simp only [List.length_drop, List.length_take]; rfl)) ?_; (with_reducible refine (pack_GetNum.calls k _ _ l0 a1 t170 t171 t172 _ ?side1 ?side2 A4.out).mono ?_); (case side1 => repeat (first | exact HR0.out | (with_reducible refine Kd.C_alloc ?_ _) | (with_reducible refine Kd.C_drewN ?_ _) | (with_reducible refine Kd.C_drew ?_))); (case side2 => exact HC0.out); rintro e w13 ⟨rfl, hb⟩; refine ⟨_, rfl, ?_⟩; have n0_ := Aside0.mk (below_step (hL HB.out) hb); clear HB; have HB := n0_; clear n0_; (try clear hb); (try clear hb2); (try clear hk); (try clear hi); obtain ⟨i014, hi014, _, hsz14, _⟩ := info_parts info5; obtain ⟨A14, hcut14, hA14, hC14⟩ := print_mid_of (P := Try.prog) (Value.int .u8) 0 43 5 .i64 .i64 Try.underlying43 hi014 hsz14 A0 c0 l0 t171 (wrap64 (t171 + t170)) (of_decide_eq_true (by first | (with_reducible assumption) | assumption)) (by first | omega | exact of_decide_eq_true (by first | (with_reducible assumption) | assumption)) (of_decide_eq_true (by first | (with_reducible assumption) | assumption)) HC0.out; have HR173 := Aside0.mk (Kd.C_of_reads (h1 := fun _ => rfl) (hA14 _ (Kd.reads_of_C HR0.out))); have HC173 := Aside0.mk hC14; clear hA14 hC14 hi014 hsz14; have hcv15 := Kd.C_string (P := Try.prog) (A := A14) (c := (c0 - t171.toNat)) Try.underlying43 Try.underlying5 Try.underlying9 (Kd.C_below HR173.out HB.out); have hcv15d := fun n_ : Nat => Kd.C_string (P := Try.prog) (A := A14) (c := (c0 - t171.toNat)) Try.underlying43 Try.underlying5 Try.underlying9 (Kd.C_drewN (Kd.C_below HR173.out HB.out) n_); have hcv15r := Kd.C_string (P := Try.prog) (A := A14) (c := (c0 - t171.toNat)) Try.underlying43 Try.underlying5 Try.underlying9 (Kd.C_drew (Kd.C_below HR173.out HB.out)); have hl15_ := (show ((wrap64 (t171 + t170)) : Int).toNat ≤ l0.length by omega); have hcv15z := hcv15; (try simp only [List.length_drop, List.length_take, Nat.min_eq_left hl15_] at hcv15z); have hcv15dz := hcv15d; (try simp only [List.length_drop, List.length_take, Nat.min_eq_left hl15_] at hcv15dz); have hcv15rz := hcv15r; (try simp only [List.length_drop, List.length_take, Nat.min_eq_left hl15_] at hcv15rz); clear hl15_))
 go_ret3
 exact ⟨by first | rfl | (simp [errW_none, errW_some] <;> rfl) | (simp [*, errW_none, errW_some] <;> rfl), hL HB.out⟩

-- NOT PRINTED: function 20 (letter_reader_text)

-- NOT PRINTED: function 21 (letter_list_api_Pair)

-- NOT PRINTED: function 23 (letter_list_api_Intent)

/-! ### letter_within: function 29 -/
def letter_within.f (a0 : Int) (a1 : Int) : Option (Bool) := if a0 ≥ 0 then (some (decide (a0 ≤ a1))) else (some false)
set_option maxHeartbeats 8000000 in
set_option maxRecDepth 100000 in
theorem letter_within.calls (a0 : Int) (a1 : Int) (r : Bool) (w : World) (h : letter_within.f a0 a1 = some r) :
  Calls Try.prog 29 #[.int .i64 a0, .int .i64 a1] w fun e w' => e = .returned (.bool r) ∧ Drawn0 w w' := by
 have H : (if a0 ≥ 0 then (some (decide (a0 ≤ a1))) else (some false)) = some r := h
 clear h
 by_cases c3 : a0 ≥ 0
 ·rw [if_pos c3] at H
  have c3b0 : decide (0 ≤ a0) = true := decide_eq_true c3
  clear c3
  obtain rfl := Option.some.inj H
  simp only [Option.some.injEq, Prod.mk.injEq] at H
  obtain ⟨rfl⟩ := H
  go_enter Try.func29, Try.ntmps29
  go_wp2
  go_ret
  exact ⟨by first | rfl | (simp; done) | (simp [*]; done), by repeat (first | exact Drawn0.refl _ | apply Drawn0.step)⟩
 ·rw [if_neg c3] at H
  have c3b0 : decide (0 ≤ a0) = false := decide_eq_false c3
  clear c3
  obtain rfl := Option.some.inj H
  simp only [Option.some.injEq, Prod.mk.injEq] at H
  obtain ⟨rfl⟩ := H
  go_enter Try.func29, Try.ntmps29
  go_wp2
  go_ret
  exact ⟨by first | rfl | (simp; done) | (simp [*]; done), by repeat (first | exact Drawn0.refl _ | apply Drawn0.step)⟩

-- NOT PRINTED: function 30 (letter_bulk)

/-! ### pack_Num: function 31 -/
def pack_Num.l0 : Nat → Int → List Int → Option (List Int)
 | 0, _, _ => none
 | k + 1, x0, x3 => if x0 > 127 then (if x3.length < 140737488355328 then (pack_Num.l0 k (x0 / 128) (x3 ++ [Go.bits .or .u8 ((x0) % 256) 128])) else (none)) else (if x3.length < 140737488355328 then (some (x3 ++ [(x0) % 256])) else (none))
def pack_Num.f (k : Nat) (a0 : Int) : Option (List Int) := if a0 < 0 then (some ([] : List Int)) else (pack_Num.l0 k a0 ([] : List Int))
theorem pack_Num.mono_l : ∀ k, (∀ y0 y1, LeO (pack_Num.l0 k y0 y1) (pack_Num.l0 (k + 1) y0 y1))
 | 0 => fun _ _ r h => by simp [pack_Num.l0] at h
 | k + 1 => by
  have ih0 := pack_Num.mono_l k
  ·intro y0 y1
   unfold pack_Num.l0
   repeat' first
   | (with_reducible exact ih0 _ _)
   | (with_reducible exact LeO.refl _)
   | (with_reducible exact LeO.none _)
   | (with_reducible refine LeO.ite ?_ ?_)
   | (with_reducible refine LeO.bind ?_ (fun _ => ?_))
   | exact ih0 _ _
   | exact LeO.none _
   | refine LeO.ite ?_ ?_
   | refine LeO.bind ?_ (fun _ => ?_)
theorem pack_Num.mono : ∀ a0 k, LeO (pack_Num.f k a0) (pack_Num.f (k + 1) a0) := by
 intro a0 k
 have ih0 := pack_Num.mono_l k
 unfold pack_Num.f
 repeat' first
   | (with_reducible exact ih0 _ _)
   | (with_reducible exact LeO.refl _)
   | (with_reducible exact LeO.none _)
   | (with_reducible refine LeO.ite ?_ ?_)
   | (with_reducible refine LeO.bind ?_ (fun _ => ?_))
   | exact ih0 _ _
   | exact LeO.none _
   | refine LeO.ite ?_ ?_
   | refine LeO.bind ?_ (fun _ => ?_)
set_option maxHeartbeats 8000000 in
set_option maxRecDepth 100000 in
theorem pack_Num.calls (k : Nat) (a0 : Int) (r : List Int) (w : World) (h : pack_Num.f k a0 = some r) :
  Calls Try.prog 31 #[.int .i64 a0] w fun e w' => ∃ v0_ : Value, e = .returned (v0_) ∧ Kd.R (Kd.int .u8) 5 w' w.heap.size (fun _ => True) v0_ r ∧ Below w.heap.size w w' := by
 have HB := Aside0.mk (Below.refl w.heap.size w)
 have H : (if a0 < 0 then (some ([] : List Int)) else (pack_Num.l0 k a0 ([] : List Int))) = some r := h
 clear h
 by_cases c2 : a0 < 0
 ·rw [if_pos c2] at H
  have c2b0 : decide (a0 < 0) = true := decide_eq_true c2
  clear c2
  obtain rfl := Option.some.inj H
  simp only [Option.some.injEq, Prod.mk.injEq] at H
  obtain ⟨rfl⟩ := H
  go_enter Try.func31, Try.ntmps31
  go_wp2
  go_ret
  exact ⟨_, by first | rfl | (simp [errW_none, errW_some] <;> rfl) | (simp [*, errW_none, errW_some] <;> rfl), by first | exact Kd.R_nil _ _ _ _ _ | exact Kd.N_nil _ _ _ _ _ | exact Kd.V_nil _ _ _ _ _ | exact Kd.Q_nil _ _ _ _ _ | exact Kd.S_nil _ _ _ _ _, hL HB.out⟩
 rw [if_neg c2] at H
 have c2b0 : decide (a0 < 0) = false := decide_eq_false c2
 clear c2
 have H' := Aside0.mk H
 clear H
 go_enter Try.func31, Try.ntmps31
 go_wp2
 go_loopg [0, 3] k (fun kq v0 v3 w' => ∃ (x0_1 : Int) (x3_1 : List Int), v0 = .int .i64 x0_1 ∧ Aside0 (pack_Num.l0 kq x0_1 x3_1 = some r) ∧ Aside0 (kq ≤ k) ∧ Aside0 (Kd.R (Kd.int .u8) 5 w' w.heap.size (fun _ => True) v3 x3_1) ∧ Aside0 (Below w.heap.size w w'))
 case atStart => exact ⟨(a0), (([] : List Int)), (by first | rfl | (simp; done) | (simp [*]; done) | (simp [ne_nil_bytes]; done) | (simp [eq_nil_bytes]; done)), H', ⟨Nat.le_refl _⟩, ⟨by first | exact Kd.R_nil _ _ _ _ _ | exact Kd.N_nil _ _ _ _ _ | exact Kd.V_nil _ _ _ _ _ | exact Kd.Q_nil _ _ _ _ _ | exact Kd.S_nil _ _ _ _ _⟩, ⟨hL HB.out⟩⟩
 clear H'
 try clear c2
 try clear c2b0
 try clear c2b0z
 try clear p2
 obtain ⟨x0_1, x3_1, rfl, HA, HK1, HO_3, HB⟩ := hrel
 rcases gk with _ | k1
 ·exact absurd HA.out (by simp [pack_Num.l0])
 have H := HA.out
 clear HA
 simp only [pack_Num.l0] at H
 by_cases c3 : x0_1 > 127
 rotate_left
 ·rw [if_neg c3] at H
  have c3b0 : decide (127 < x0_1) = false := decide_eq_false c3
  clear c3
  by_cases c6 : x3_1.length < 140737488355328
  rotate_left
  ·rw [if_neg c6] at H
   exact absurd H (by simp)
  rw [if_pos c6] at H
  have LMc6 := Aside0.mk c6
  clear c6
  obtain ⟨y181, hy181⟩ : ∃ y_ : List Int, y_ = (x3_1 ++ [(x0_1) % 256]) := ⟨_, rfl⟩
  replace H : (some y181) = some r := by first | (rw [hy181]; with_reducible exact H) | (have H2_ := (Option.bind_some _ _).symm.trans H; rw [hy181]; with_reducible exact H2_) | (have H2_ := (Option.bind_some _ _).symm.trans H; with_reducible exact H2_) | with_reducible exact H | (rw [hy181]; exact H) | exact H
  have Ny181 := Aside0.mk hy181
  clear hy181
  obtain rfl := Option.some.inj H
  simp only [Option.some.injEq, Prod.mk.injEq] at H
  obtain ⟨rfl⟩ := H
  go_wp2_with (first | ((with_reducible refine gate_builtin (b := .append) (xs := #[.tmp 16, .tmp 19]) rfl ?_); at_builtin; refine Kd.R_append (Kd.int .u8) (w0 := w) w.heap.size rfl (.tmp 16) (.tmp 19) 43 5 (.int .u8 0) 1 rfl Try.underlying43 info5 rfl (by decide) (by omega) u3 x3_1 ((x0_1) % 256) [.int .u8 ((x0_1) % 256)] (fun _ => True) (fun _ => False) rfl rfl ?aP (fun _ hk => hk.elim) ?aF ?aO ?aB ?aS ?aL ?_; (case aP => exact rfl); (case aB => exact (hL HB.out)); (case aF => exact (fun _ _ => trivial)); (case aO => exact (rL HO_3.out)); (case aS => exact (below_size (hL HB.out))); (case aL => have := LMc6.out; omega); intro v182 w7 ho hb hg hat; rw [← Ny181.out] at ho; have n0_ := Aside0.mk (hb); have n1_ := Aside0.mk (ho); clear HB; clear HO_3; have HB := n0_; have HO183 := n1_; clear n0_ n1_; clear ho hb hg hat))
  go_ret
  exact ⟨_, by first | rfl | (simp [errW_none, errW_some] <;> rfl) | (simp [*, errW_none, errW_some] <;> rfl), by exact rL HO183.out, hL HB.out⟩
 rw [if_pos c3] at H
 have c3b0 : decide (127 < x0_1) = true := decide_eq_true c3
 clear c3
 by_cases c4 : x3_1.length < 140737488355328
 rotate_left
 ·rw [if_neg c4] at H
  exact absurd H (by simp)
 rw [if_pos c4] at H
 have LMc4 := Aside0.mk c4
 clear c4
 obtain ⟨y178, hy178⟩ : ∃ y_ : List Int, y_ = (x3_1 ++ [Go.bits .or .u8 ((x0_1) % 256) 128]) := ⟨_, rfl⟩
 replace H : (pack_Num.l0 k1 (x0_1 / 128) y178) = some r := by first | (rw [hy178]; with_reducible exact H) | (have H2_ := (Option.bind_some _ _).symm.trans H; rw [hy178]; with_reducible exact H2_) | (have H2_ := (Option.bind_some _ _).symm.trans H; with_reducible exact H2_) | with_reducible exact H | (rw [hy178]; exact H) | exact H
 have Ny178 := Aside0.mk hy178
 clear hy178
 have H' := Aside0.mk H
 clear H
 go_wp2_with (first | ((with_reducible refine gate_builtin (b := .append) (xs := #[.tmp 10, .tmp 14]) rfl ?_); at_builtin; refine Kd.R_append (Kd.int .u8) (w0 := w) w.heap.size rfl (.tmp 10) (.tmp 14) 43 5 (.int .u8 0) 1 rfl Try.underlying43 info5 rfl (by decide) (by omega) u3 x3_1 (Go.bits .or .u8 ((x0_1) % 256) 128) [.int .u8 (Go.bits .or .u8 ((x0_1) % 256) 128)] (fun _ => True) (fun _ => False) rfl rfl ?aP (fun _ hk => hk.elim) ?aF ?aO ?aB ?aS ?aL ?_; (case aP => exact rfl); (case aB => exact (hL HB.out)); (case aF => exact (fun _ _ => trivial)); (case aO => exact (rL HO_3.out)); (case aS => exact (below_size (hL HB.out))); (case aL => have := LMc4.out; omega); intro v179 w5 ho hb hg hat; rw [← Ny178.out] at ho; have n0_ := Aside0.mk (hb); have n1_ := Aside0.mk (ho); clear HB; clear HO_3; have HB := n0_; have HO180 := n1_; clear n0_ n1_; clear ho hb hg hat))
 go_roundg k1
 case measure => have := HK1.out; omega
 case rel => exact ⟨(x0_1 / 128), (y178), (by first | rfl | (simp; done) | (simp [*]; done) | (simp [ne_nil_bytes]; done) | (simp [eq_nil_bytes]; done)), H', ⟨by have := HK1.out; omega⟩, ⟨by exact rL HO180.out⟩, ⟨hL HB.out⟩⟩

/-! ### slices_Grow_byte_byte: function 51 -/
/-- slices.Grow at the nil slice: room for so many bytes; nothing stands in it. (The two premises on the slice are those that the nil slice meets.) -/
def slices_Grow_byte_byte.f (l0 : List Int) (a1 : Int) : Option (List Int) := if l0.length = 0 then (if 0 ≤ a1 then (if a1 ≤ 140737488351232 then (some ([] : List Int)) else (none)) else (none)) else (none)
set_option maxHeartbeats 1000000 in
set_option maxRecDepth 100000 in
theorem slices_Grow_byte_byte.calls (A0 : Option Addr) (c0 : Nat) (l0 : List Int) (a1 : Int) (r : List Int) (w : World) (hr0 : match A0 with | none => Kd.C (Kd.int .u8) w none l0.length l0 | some _ => False) (hc0 : c0 ≤ l0.length) (h : slices_Grow_byte_byte.f l0 a1 = some r) :
    Calls Try.prog 51 #[.slice A0 l0.length c0, .int .i64 a1] w fun e w' => ∃ v0_ : Value, e = .returned (v0_) ∧ Kd.R (Kd.int .u8) 5 w' w.heap.size (fun _ => True) v0_ r ∧ Below w.heap.size w w' := by
  unfold slices_Grow_byte_byte.f at h
  by_cases h0 : l0.length = 0
  · rw [if_pos h0] at h
    by_cases h1 : 0 ≤ a1
    · rw [if_pos h1] at h
      by_cases h2 : a1 ≤ 140737488351232
      · rw [if_pos h2] at h
        simp only [Option.some.injEq] at h
        subst h
        obtain rfl : c0 = 0 := by omega
        cases A0 with
        | some x => exact absurd hr0 (by simp)
        | none =>
          clear hr0 hc0
          rw [h0]
          clear h0
          by_cases hz : a1 = 0
          · subst hz
            clear h1 h2
            go_enter Try.func51, Try.ntmps51
            go_wp2
            go_ret
            exact ⟨_, rfl, Kd.R_nil _ _ _ _ _, Below.refl _ _⟩
          · have hpos : 0 < a1 := by omega
            have hpos0 : ¬ a1 < 0 := by omega
            clear hz
            obtain ⟨i0, hi0, _, _, _⟩ := info_parts info5
            go_enter Try.func51, Try.ntmps51
            go_wp2_with (first | (at_builtin; refine Kd.R_append_zeros (Kd.int .u8) (w0 := w) w.heap.size rfl (.tmp 20) (.tmp 21) 43 3 5 (.int .u8 0) 1 rfl Try.underlying43 Try.underlying3 info5 rfl (by decide) (by omega) (.slice none 0 0) ([] : List Int) (0 : Int) a1 (fun _ => True) rfl rfl rfl (fun _ _ => trivial) (Kd.R_nil _ _ _ _ _) h1 (Below.refl _ _) (Nat.le_refl _) (by simp only [List.length_nil]; omega) ?_; intro v1 w1 hR hb hg hat; obtain ⟨A1, c1, e1⟩ := Kd.R_slice hR; subst e1; have hroom := (Kd.R_reads' hR).2.1; have hcut := cut_to (P := Try.prog) 43 5 .i64 Try.underlying43 hi0 A1 (([] : List Int) ++ List.replicate a1.toNat 0).length c1 0 (by omega) (by omega) hroom; have HR := Aside0.mk (Kd.R_take (m := 0) hR (Nat.zero_le _)); have HB := Aside0.mk hb; clear hR hb hg hat hroom))
            go_ret
            exact ⟨_, rfl, HR.out, HB.out⟩
      · rw [if_neg h2] at h
        exact absurd h (by simp)
    · rw [if_neg h1] at h
      exact absurd h (by simp)
  · rw [if_neg h0] at h
    exact absurd h (by simp)

end Go.Proofs.Ythghacojbhjeaaa.PKp
