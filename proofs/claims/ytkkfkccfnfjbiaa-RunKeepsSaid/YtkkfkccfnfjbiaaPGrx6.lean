-- Written by a program of this session for this claim (mp.py, over the kit's print); Lean checks it.
import Derived.Test.YtkkfkccfnfjbiaaPGrx0
import Derived.Test.YtkkfkccfnfjbiaaPGrx5
namespace Go.Proofs.Ytkkfkccfnfjbiaa.PGr
open Go.RowKit Go.Proofs.YtkkfkccfnfjbiaaW.PrintWords Go.Proofs.YtkkfkccfnfjbiaaW.PrintLast Go.Proofs.YtkkfkccfnfjbiaaW.PrintMore Go.Proofs.Ytkkfkccfnfjbiaa.Fv Go.Proofs.Ytkkfkccfnfjbiaa.Hl
attribute [local go_sem] max2_int min2_int max_two min_two max_three min_three max_four min_four str_gtr str_leq str_geq cell_set2   -- for this text's walks alone
set_option linter.unusedVariables false
set_option linter.unusedSimpArgs false

/-! ### run_seek: function 34 -/
def run_seek.f (k : Nat) (l0 : List (S37)) (a1 : ByteArray) : Option (Int × Bool) := (slices_BinarySearchFunc_api_Change_api_Change_string_at_run_seek_1.f k l0 a1).bind fun bt134 => (some (bt134.1, bt134.2))
theorem run_seek.mono : ∀ a0 a1 k, LeO (run_seek.f k a0 a1) (run_seek.f (k + 1) a0 a1) := by
 intro a0 a1 k
 unfold run_seek.f
 repeat' first
   | (with_reducible exact slices_BinarySearchFunc_api_Change_api_Change_string_at_run_seek_1.mono _ _ _)
   | (with_reducible exact LeO.refl _)
   | (with_reducible exact LeO.none _)
   | (with_reducible refine LeO.ite ?_ ?_)
   | (with_reducible refine LeO.bind ?_ (fun _ => ?_))
   | exact slices_BinarySearchFunc_api_Change_api_Change_string_at_run_seek_1.mono _ _ _
   | exact LeO.none _
   | refine LeO.ite ?_ ?_
   | refine LeO.bind ?_ (fun _ => ?_)
set_option maxHeartbeats 8000000 in
set_option maxRecDepth 100000 in
theorem run_seek.calls (k : Nat) (A0 : Option Addr) (c0 : Nat) (l0 : List (S37)) (a1 : ByteArray) (r1 : Int) (r2 : Bool) (w : World) (hr0 : Kd.C k37 w A0 l0.length l0) (hc0 : l0.length ≤ c0) (h : run_seek.f k l0 a1 = some (r1, r2)) :
  Calls Try.prog 34 #[.slice A0 l0.length c0, .string a1] w fun e w' => e = .returned (.tuple #[.int .i64 r1, .bool r2]) ∧ Below w.heap.size w w' := by
 have HR0 := Aside0.mk hr0
 have HC0 := Aside0.mk hc0
 clear hr0 hc0
 have HB := Aside0.mk (Below.refl w.heap.size w)
 have H : ((slices_BinarySearchFunc_api_Change_api_Change_string_at_run_seek_1.f k l0 a1).bind fun bt134 => (some (bt134.1, bt134.2))) = some (r1, r2) := h
 clear h
 replace H := Option.bind_eq_some_iff.mp H
 obtain ⟨⟨t134, t135⟩, A30, H⟩ := H
 replace H : (some (t134, t135)) = some (r1, r2) := H
 have A3 := Aside0.mk A30
 clear A30
 simp only [Option.some.injEq, Prod.mk.injEq] at H
 obtain ⟨rfl, rfl⟩ := H
 go_enter Try.func34, Try.ntmps34
 go_wp2_with (first | ((with_reducible refine gate_callee (f := 52) rfl ?_); refine goesL_ (some 8) rfl rfl Try.func52 (by kernel_rfl) rfl #[.slice A0 l0.length c0, .string a1, .func (.func 53) #[] #[]] rfl (by (try simp only [List.map_toArray, List.map_cons, List.map_nil]); first | done | rfl | (simp only [List.length_drop, List.length_take]; rfl)) ?_; (with_reducible refine (slices_BinarySearchFunc_api_Change_api_Change_string_at_run_seek_1.calls k _ _ l0 a1  t134 t135 _ ?side1 ?side2 A3.out).mono ?_); (case side1 => repeat (first | exact HR0.out | (with_reducible refine Kd.C_alloc ?_ _) | (with_reducible refine Kd.C_drewN ?_ _) | (with_reducible refine Kd.C_drew ?_))); (case side2 => exact HC0.out); rintro e w4 ⟨rfl, hb⟩; refine ⟨_, rfl, ?_⟩; have n0_ := Aside0.mk (below_step (hL HB.out) hb); clear HB; have HB := n0_; clear n0_; (try clear hb); (try clear hb2); (try clear hk); (try clear hi)))
 go_ret2
 exact ⟨by first | rfl | (simp [errW_none, errW_some] <;> rfl) | (simp [*, errW_none, errW_some] <;> rfl), hL HB.out⟩

/-! ### slices_Clone_api_Change_api_Change: function 35 -/
def slices_Clone_api_Change_api_Change.f (l0 : List (S37)) : Option ((List (S37))) := (some (([] : List (S37)) : List (S37))).bind fun y136 => (if y136.length + l0.length < 3518437208883 then (some (y136 ++ l0)) else (none))
set_option maxHeartbeats 8000000 in
set_option maxRecDepth 100000 in
theorem slices_Clone_api_Change_api_Change.calls (A0 : Option Addr) (c0 : Nat) (l0 : List (S37)) (r : List (S37)) (w : World) (hr0 : Kd.C k37 w A0 l0.length l0) (hc0 : l0.length ≤ c0) (h : slices_Clone_api_Change_api_Change.f l0 = some r) :
  Calls Try.prog 35 #[.slice A0 l0.length c0] w fun e w' => ∃ v0_ : Value, e = .returned (v0_) ∧ Kd.R k37 37 w' w.heap.size (fun _ => True) v0_ r ∧ Below w.heap.size w w' := by
 rcases A0 with _ | ad0
 ·have hz : l0 = [] := by
   rcases Nat.eq_zero_or_pos l0.length with h0 | h0
   ·exact List.eq_nil_of_length_eq_zero h0
   ·obtain ⟨_, he, _⟩ := hr0.2.2 h0; cases he
  subst hz
  simp [slices_Clone_api_Change_api_Change.f] at h
  subst h
  clear hr0 hc0
  have hnil_ : ∀ w_ : World, (binOp .eql 25 (.slice none 0 c0) (.slice none 0 0)).run Try.prog w_ = .ok (.bool true) w_ := fun w_ => Lib.run_eql_slice_nil w_ 25 37 none 0 c0 0 0 Try.underlying25
  go_enter Try.func35, Try.ntmps35
  go_wp2
  go_ret
  exact ⟨_, rfl, Kd.R_nil _ _ _ _ _, Below.refl _ _⟩
 have hnil_ : ∀ w_ : World, (binOp .eql 25 (.slice (some ad0) l0.length c0) (.slice none 0 0)).run Try.prog w_ = .ok (.bool false) w_ := fun w_ => Lib.run_eql_slice_nil w_ 25 37 (some ad0) l0.length c0 0 0 Try.underlying25
 have HR0 := Aside0.mk hr0
 have HC0 := Aside0.mk hc0
 clear hr0 hc0
 have HB := Aside0.mk (Below.refl w.heap.size w)
 have H : ((some (([] : List (S37)) : List (S37))).bind fun y136 => (if y136.length + l0.length < 3518437208883 then (some (y136 ++ l0)) else (none))) = some r := h
 clear h
 obtain ⟨y136, hy136⟩ : ∃ y_ : List (S37), y_ = (([] : List (S37))) := ⟨_, rfl⟩
 replace H : (if y136.length + l0.length < 3518437208883 then (some (y136 ++ l0)) else (none)) = some r := by first | (rw [hy136]; with_reducible exact H) | (have H2_ := (Option.bind_some _ _).symm.trans H; rw [hy136]; with_reducible exact H2_) | (have H2_ := (Option.bind_some _ _).symm.trans H; with_reducible exact H2_) | with_reducible exact H | (rw [hy136]; exact H) | exact H
 have Ny136 := Aside0.mk hy136
 clear hy136
 by_cases c2 : y136.length + l0.length < 3518437208883
 rotate_left
 ·rw [if_neg c2] at H
  exact absurd H (by simp)
 rw [if_pos c2] at H
 have LMc2 := Aside0.mk c2
 clear c2
 obtain ⟨y139, hy139⟩ : ∃ y_ : List (S37), y_ = (y136 ++ l0) := ⟨_, rfl⟩
 replace H : (some y139) = some r := by first | (rw [hy139]; with_reducible exact H) | (have H2_ := (Option.bind_some _ _).symm.trans H; rw [hy139]; with_reducible exact H2_) | (have H2_ := (Option.bind_some _ _).symm.trans H; with_reducible exact H2_) | with_reducible exact H | (rw [hy139]; exact H) | exact H
 have Ny139 := Aside0.mk hy139
 clear hy139
 obtain rfl := Option.some.inj H
 simp only [Option.some.injEq, Prod.mk.injEq] at H
 obtain ⟨rfl⟩ := H
 go_enter Try.func35, Try.ntmps35
 go_wp2_with (first | ((with_reducible refine gate_dst (N := 5) rfl ?_); refine Kd.R_lit k37 _ 37 ?hg (N := 5) ?hd (xs := ([] : List (S37))) (inner := []) (ok := fun _ => True) (okp := fun _ => True) ?hr ?hp (fun _ hk => hk) trivial (Below.refl _ _) (Nat.le_refl _) (by simp) ?_; (case hd => rfl); (case hg => rfl); (case hr => first | (go_simp; done) | (go_simp; rfl)); (case hp => exact (Reps.none _ _)); intro v137 w3 ho4 hb hg_ hnew_; clear hg_ hnew_; (first | rw [← Ny136.out] at ho4 | (simp only [Int.reduceToNat] at ho4; rw [← Ny136.out] at ho4)); have n0_ := Aside0.mk (Kd.R_lower ho4 (below_size (hL HB.out))); have n1_ := Aside0.mk (below_step (hL HB.out) hb); clear HB; have HO138 := n0_; have HB := n1_; clear n0_ n1_; clear hb ho4) | ((with_reducible refine gate_builtin (b := .append) (xs := #[.tmp 5, .tmp 6]) rfl ?_); at_builtin; refine Kd.R_append_rows k37 (w0 := w) w.heap.size rfl (.tmp 5) (.tmp 6) 25 37 (.agg #[(.string ⟨#[]⟩), (.string ⟨#[]⟩), (.bool false)]) 40 rfl Try.underlying25 info37 rfl (by decide) (by omega) v137 y136 l0 _ _ _ (fun _ => True) (fun _ => False) rfl rfl ?aO ?aR (fun _ _ h => h) (fun _ h => h.elim) ?aF ?aB ?aS ?aL ?_; (case aR => repeat (first | exact (Kd.C_below HR0.out HB.out) | exact (Kd.C_drewN (Kd.C_below HR0.out HB.out) _) | exact (Kd.C_drew (Kd.C_below HR0.out HB.out)) | (with_reducible refine Kd.C_alloc ?_ _) | (with_reducible refine Kd.C_drewN ?_ _) | (with_reducible refine Kd.C_drew ?_))); (case aB => exact (hL HB.out)); (case aF => exact (fun _ _ => trivial)); (case aO => exact (rL HO138.out)); (case aS => exact (below_size (hL HB.out))); (case aL => have := LMc2.out; omega); intro v140 w5 ho hb hg hat; rw [← Ny139.out] at ho; have n0_ := Aside0.mk (hb); have n1_ := Aside0.mk (ho); clear HB; clear HO138; have HB := n0_; have HO141 := n1_; clear n0_ n1_; clear ho hb hg hat))
 go_ret
 exact ⟨_, by first | rfl | (simp [errW_none, errW_some] <;> rfl) | (simp [*, errW_none, errW_some] <;> rfl), by exact rL HO141.out, hL HB.out⟩

/-! ### run_Slice: function 18 -/
def run_Slice.f (k : Nat) (l0 : List (S37)) (a1_0 : ByteArray) (a1_1 : ByteArray) : Option ((List (S37))) := (run_Right.f k l0).bind fun t143 => (if t143 = true then ((run_seek.f k l0 a1_0).bind fun bt144 => (if a1_1.toList = ([] : List UInt8) then (if 0 ≤ bt144.1 then (if bt144.1 ≤ (mx bt144.1 (l0.length : Int)) then (if (mx bt144.1 (l0.length : Int)) ≤ (l0.length : Int) then ((slices_Clone_api_Change_api_Change.f ((l0.take ((mx bt144.1 (l0.length : Int)) : Int).toNat).drop (bt144.1 : Int).toNat)).bind fun t150 => (some t150)) else (none)) else (none)) else (none)) else ((run_seek.f k l0 a1_1).bind fun bt153 => (if 0 ≤ bt144.1 then (if bt144.1 ≤ (mx bt144.1 bt153.1) then (if (mx bt144.1 bt153.1) ≤ (l0.length : Int) then ((slices_Clone_api_Change_api_Change.f ((l0.take ((mx bt144.1 bt153.1) : Int).toNat).drop (bt144.1 : Int).toNat)).bind fun t159 => (some t159)) else (none)) else (none)) else (none))))) else (some ([] : List (S37))))
theorem run_Slice.mono : ∀ a0 a1 a2 k, LeO (run_Slice.f k a0 a1 a2) (run_Slice.f (k + 1) a0 a1 a2) := by
 intro a0 a1 a2 k
 unfold run_Slice.f
 repeat' first
   | (with_reducible exact run_Right.mono _ _)
   | (with_reducible exact run_seek.mono _ _ _)
   | (with_reducible exact LeO.refl _)
   | (with_reducible exact LeO.none _)
   | (with_reducible refine LeO.ite ?_ ?_)
   | (with_reducible refine LeO.bind ?_ (fun _ => ?_))
   | exact run_Right.mono _ _
   | exact run_seek.mono _ _ _
   | exact LeO.none _
   | refine LeO.ite ?_ ?_
   | refine LeO.bind ?_ (fun _ => ?_)
set_option maxHeartbeats 8000000 in
set_option maxRecDepth 100000 in
theorem run_Slice.calls (k : Nat) (A0 : Option Addr) (c0 : Nat) (l0 : List (S37)) (a1_0 : ByteArray) (a1_1 : ByteArray) (r : List (S37)) (w : World) (hr0 : Kd.C k37 w A0 l0.length l0) (hc0 : l0.length ≤ c0) (h : run_Slice.f k l0 a1_0 a1_1 = some r) :
  Calls Try.prog 18 #[.slice A0 l0.length c0, .agg #[.string a1_0, .string a1_1]] w fun e w' => ∃ v0_ : Value, e = .returned (v0_) ∧ Kd.R k37 37 w' w.heap.size (fun _ => True) v0_ r ∧ Below w.heap.size w w' := by
 have hu34 := Try.underlying34
 have HR0 := Aside0.mk hr0
 have HC0 := Aside0.mk hc0
 clear hr0 hc0
 have HB := Aside0.mk (Below.refl w.heap.size w)
 have H : ((run_Right.f k l0).bind fun t143 => (if t143 = true then ((run_seek.f k l0 a1_0).bind fun bt144 => (if a1_1.toList = ([] : List UInt8) then (if 0 ≤ bt144.1 then (if bt144.1 ≤ (mx bt144.1 (l0.length : Int)) then (if (mx bt144.1 (l0.length : Int)) ≤ (l0.length : Int) then ((slices_Clone_api_Change_api_Change.f ((l0.take ((mx bt144.1 (l0.length : Int)) : Int).toNat).drop (bt144.1 : Int).toNat)).bind fun t150 => (some t150)) else (none)) else (none)) else (none)) else ((run_seek.f k l0 a1_1).bind fun bt153 => (if 0 ≤ bt144.1 then (if bt144.1 ≤ (mx bt144.1 bt153.1) then (if (mx bt144.1 bt153.1) ≤ (l0.length : Int) then ((slices_Clone_api_Change_api_Change.f ((l0.take ((mx bt144.1 bt153.1) : Int).toNat).drop (bt144.1 : Int).toNat)).bind fun t159 => (some t159)) else (none)) else (none)) else (none))))) else (some ([] : List (S37))))) = some r := h
 clear h
 replace H := Option.bind_eq_some_iff.mp H
 obtain ⟨t143, A30, H⟩ := H
 replace H : (if t143 = true then ((run_seek.f k l0 a1_0).bind fun bt144 => (if a1_1.toList = ([] : List UInt8) then (if 0 ≤ bt144.1 then (if bt144.1 ≤ (mx bt144.1 (l0.length : Int)) then (if (mx bt144.1 (l0.length : Int)) ≤ (l0.length : Int) then ((slices_Clone_api_Change_api_Change.f ((l0.take ((mx bt144.1 (l0.length : Int)) : Int).toNat).drop (bt144.1 : Int).toNat)).bind fun t150 => (some t150)) else (none)) else (none)) else (none)) else ((run_seek.f k l0 a1_1).bind fun bt153 => (if 0 ≤ bt144.1 then (if bt144.1 ≤ (mx bt144.1 bt153.1) then (if (mx bt144.1 bt153.1) ≤ (l0.length : Int) then ((slices_Clone_api_Change_api_Change.f ((l0.take ((mx bt144.1 bt153.1) : Int).toNat).drop (bt144.1 : Int).toNat)).bind fun t159 => (some t159)) else (none)) else (none)) else (none))))) else (some ([] : List (S37)))) = some r := H
 have A3 := Aside0.mk A30
 clear A30
 by_cases c4 : t143 = true
 rotate_left
 ·replace c4 := Bool.eq_false_iff.mpr c4
  subst c4
  have H1 : (some ([] : List (S37))) = some r := by rw [if_neg (show ¬ (false = true) by decide)] at H; exact H
  clear H
  have H := H1
  clear H1
  obtain rfl := Option.some.inj H
  simp only [Option.some.injEq, Prod.mk.injEq] at H
  obtain ⟨rfl⟩ := H
  go_enter Try.func18, Try.ntmps18
  go_wp2_with (first | ((with_reducible refine gate_dst (N := 3) rfl ?_); refine box_event ?hg (N := 3) ?hd (cs := #[.string a1_0, .string a1_1]) (t := 34) ?hr ?_; (case hd => rfl); (case hg => rfl); (case hr => first | (go_simp; done) | (go_simp; rfl)); intro gb142 hg w33 hbox hb; have n0_ := Aside0.mk (below_step (hL HB.out) hb); have n1_ := Aside0.mk (hbox); have n2_ := Above.mk ((by rw [hg]; exact (below_size (hL HB.out)) : w.heap.size ≤ gb142)); have n3_ := Above.mk ((by rw [hg]; exact (below_size (hL HB.out)) : w.heap.size ≤ gb142)); clear HB; have HB := n0_; have BK142 := n1_; have GW142 := n2_; have GE142 := n3_; clear n0_ n1_ n2_ n3_; clear hb hbox hg) | ((with_reducible refine gate_callee (f := 28) rfl ?_); refine goesL_ (some 9) rfl rfl Try.func28 (by kernel_rfl) rfl #[.slice A0 l0.length c0] rfl (by (try simp only [List.map_toArray, List.map_cons, List.map_nil]); first | done | rfl | (simp only [List.length_drop, List.length_take]; rfl)) ?_; (with_reducible refine (run_Right.calls k _ _ l0 false _ ?side1 ?side2 A3.out).mono ?_); (case side1 => repeat (first | exact (Kd.C_below HR0.out HB.out) | (with_reducible refine Kd.C_alloc ?_ _) | (with_reducible refine Kd.C_drewN ?_ _) | (with_reducible refine Kd.C_drew ?_))); (case side2 => exact HC0.out); rintro e w34 ⟨rfl, hb⟩; refine ⟨_, rfl, ?_⟩; have n0_ := Aside0.mk (blk_below (bL BK142.out) hb); have n1_ := Aside0.mk (below_step (hL HB.out) hb); clear BK142; clear HB; have BK142 := n0_; have HB := n1_; clear n0_ n1_; (try clear hb); (try clear hb2); (try clear hk); (try clear hi)))
  go_ret
  exact ⟨_, by first | rfl | (simp [errW_none, errW_some] <;> rfl) | (simp [*, errW_none, errW_some] <;> rfl), by first | exact Kd.R_nil _ _ _ _ _ | exact Kd.N_nil _ _ _ _ _ | exact Kd.V_nil _ _ _ _ _ | exact Kd.Q_nil _ _ _ _ _ | exact Kd.S_nil _ _ _ _ _, hL HB.out⟩
 subst c4
 have H1 : ((run_seek.f k l0 a1_0).bind fun bt144 => (if a1_1.toList = ([] : List UInt8) then (if 0 ≤ bt144.1 then (if bt144.1 ≤ (mx bt144.1 (l0.length : Int)) then (if (mx bt144.1 (l0.length : Int)) ≤ (l0.length : Int) then ((slices_Clone_api_Change_api_Change.f ((l0.take ((mx bt144.1 (l0.length : Int)) : Int).toNat).drop (bt144.1 : Int).toNat)).bind fun t150 => (some t150)) else (none)) else (none)) else (none)) else ((run_seek.f k l0 a1_1).bind fun bt153 => (if 0 ≤ bt144.1 then (if bt144.1 ≤ (mx bt144.1 bt153.1) then (if (mx bt144.1 bt153.1) ≤ (l0.length : Int) then ((slices_Clone_api_Change_api_Change.f ((l0.take ((mx bt144.1 bt153.1) : Int).toNat).drop (bt144.1 : Int).toNat)).bind fun t159 => (some t159)) else (none)) else (none)) else (none))))) = some r := by rw [if_pos rfl] at H; exact H
 clear H
 have H := H1
 clear H1
 replace H := Option.bind_eq_some_iff.mp H
 obtain ⟨⟨t144, t145⟩, A50, H⟩ := H
 replace H : (if a1_1.toList = ([] : List UInt8) then (if 0 ≤ t144 then (if t144 ≤ (mx t144 (l0.length : Int)) then (if (mx t144 (l0.length : Int)) ≤ (l0.length : Int) then ((slices_Clone_api_Change_api_Change.f ((l0.take ((mx t144 (l0.length : Int)) : Int).toNat).drop (t144 : Int).toNat)).bind fun t150 => (some t150)) else (none)) else (none)) else (none)) else ((run_seek.f k l0 a1_1).bind fun bt153 => (if 0 ≤ t144 then (if t144 ≤ (mx t144 bt153.1) then (if (mx t144 bt153.1) ≤ (l0.length : Int) then ((slices_Clone_api_Change_api_Change.f ((l0.take ((mx t144 bt153.1) : Int).toNat).drop (t144 : Int).toNat)).bind fun t159 => (some t159)) else (none)) else (none)) else (none)))) = some r := H
 have A5 := Aside0.mk A50
 clear A50
 by_cases c6 : a1_1.toList = ([] : List UInt8)
 ·rw [if_pos c6] at H
  have c6b0 : (a1_1.toList == ([] : List UInt8)) = true := beq_iff_eq.mpr c6
  have c6b1 : (a1_1.toList != ([] : List UInt8)) = false := bne_eq_false_iff_eq.mpr c6
  clear c6
  obtain ⟨ji7, hji7⟩ : ∃ j_ : Int, (mx t144 (l0.length : Int)) = j_ := ⟨_, rfl⟩
  replace H : (if 0 ≤ t144 then (if t144 ≤ (ji7) then (if (ji7) ≤ (l0.length : Int) then ((slices_Clone_api_Change_api_Change.f ((l0.take ((ji7) : Int).toNat).drop (t144 : Int).toNat)).bind fun t150 => (some t150)) else (none)) else (none)) else (none)) = some r := by first | (rw [hji7] at H; exact H) | (simp only [hji7] at H ⊢; exact H)
  (try rw [hji7] at A3)
  (try rw [hji7] at A5)
  (try (have hji7l : 0 ≤ ji7 := by (rw [← hji7]; unfold mx; (repeat' split) <;> omega)))
  (try (have hji7m : 0 ≤ ji7 := by omega))
  have hji7_ : (if t144 < (l0.length : Int) then (l0.length : Int) else t144) = ji7 := hji7
  by_cases c8 : 0 ≤ t144
  rotate_left
  ·rw [if_neg c8] at H
   exact absurd H (by simp)
  rw [if_pos c8] at H
  have c8b0 := eq_true c8
  have c8b1 : decide (0 ≤ t144) = true := decide_eq_true c8
  clear c8
  by_cases c9 : t144 ≤ (ji7)
  rotate_left
  ·rw [if_neg c9] at H
   exact absurd H (by simp)
  rw [if_pos c9] at H
  have c9b0 := eq_true c9
  have c9b1 : decide (t144 ≤ (ji7)) = true := decide_eq_true c9
  clear c9
  by_cases c10 : (ji7) ≤ (l0.length : Int)
  rotate_left
  ·rw [if_neg c10] at H
   exact absurd H (by simp)
  rw [if_pos c10] at H
  have c10b0 := eq_true c10
  have c10b1 : decide ((ji7) ≤ (l0.length : Int)) = true := decide_eq_true c10
  clear c10
  obtain ⟨y146, hy146⟩ : ∃ y_ : List (S37), y_ = ((l0.take ((ji7) : Int).toNat).drop (t144 : Int).toNat) := ⟨_, rfl⟩
  replace H : ((slices_Clone_api_Change_api_Change.f y146).bind fun t150 => (some t150)) = some r := by first | (rw [hy146]; with_reducible exact H) | (have H2_ := (Option.bind_some _ _).symm.trans H; rw [hy146]; with_reducible exact H2_) | (have H2_ := (Option.bind_some _ _).symm.trans H; with_reducible exact H2_) | with_reducible exact H | (rw [hy146]; exact H) | exact H
  have Ny146 := Aside0.mk hy146
  clear hy146
  replace H := Option.bind_eq_some_iff.mp H
  obtain ⟨t150, A110, H⟩ := H
  replace H : (some t150) = some r := H
  have A11 := Aside0.mk A110
  clear A110
  obtain rfl := Option.some.inj H
  simp only [Option.some.injEq, Prod.mk.injEq] at H
  obtain ⟨rfl⟩ := H
  go_enter Try.func18, Try.ntmps18
  go_wp2_with (first | ((with_reducible refine gate_dst (N := 3) rfl ?_); refine box_event ?hg (N := 3) ?hd (cs := #[.string a1_0, .string a1_1]) (t := 34) ?hr ?_; (case hd => rfl); (case hg => rfl); (case hr => first | (go_simp; done) | (go_simp; rfl)); intro gb142 hg w12 hbox hb; have n0_ := Aside0.mk (below_step (hL HB.out) hb); have n1_ := Aside0.mk (hbox); have n2_ := Above.mk ((by rw [hg]; exact (below_size (hL HB.out)) : w.heap.size ≤ gb142)); have n3_ := Above.mk ((by rw [hg]; exact (below_size (hL HB.out)) : w.heap.size ≤ gb142)); clear HB; have HB := n0_; have BK142 := n1_; have GW142 := n2_; have GE142 := n3_; clear n0_ n1_ n2_ n3_; clear hb hbox hg) | ((with_reducible refine gate_callee (f := 28) rfl ?_); refine goesL_ (some 9) rfl rfl Try.func28 (by kernel_rfl) rfl #[.slice A0 l0.length c0] rfl (by (try simp only [List.map_toArray, List.map_cons, List.map_nil]); first | done | rfl | (simp only [List.length_drop, List.length_take]; rfl)) ?_; (with_reducible refine (run_Right.calls k _ _ l0 true _ ?side1 ?side2 A3.out).mono ?_); (case side1 => repeat (first | exact (Kd.C_below HR0.out HB.out) | (with_reducible refine Kd.C_alloc ?_ _) | (with_reducible refine Kd.C_drewN ?_ _) | (with_reducible refine Kd.C_drew ?_))); (case side2 => exact HC0.out); rintro e w13 ⟨rfl, hb⟩; refine ⟨_, rfl, ?_⟩; have n0_ := Aside0.mk (blk_below (bL BK142.out) hb); have n1_ := Aside0.mk (below_step (hL HB.out) hb); clear BK142; clear HB; have BK142 := n0_; have HB := n1_; clear n0_ n1_; (try clear hb); (try clear hb2); (try clear hk); (try clear hi); have hcz14_0 : w13.cell? ⟨gb142, 0, none⟩ = some (.string a1_0) := (blk_cell BK142.out 0).trans rfl; have hcz14_1 : w13.cell? ⟨gb142, 1, none⟩ = some (.string a1_1) := (blk_cell BK142.out 1).trans rfl; have hfz14_0 := blk_frozen BK142.out 0; have hfz14_1 := blk_frozen BK142.out 1) | ((with_reducible refine gate_callee (f := 34) rfl ?_); refine goesL_ (some 15) rfl rfl Try.func34 (by kernel_rfl) rfl #[.slice A0 l0.length c0, .string a1_0] rfl (by (try simp only [List.map_toArray, List.map_cons, List.map_nil]); first | done | rfl | (simp only [List.length_drop, List.length_take]; rfl)) ?_; (with_reducible refine (run_seek.calls k _ _ l0 a1_0 t144 t145 _ ?side1 ?side2 A5.out).mono ?_); (case side1 => repeat (first | exact (Kd.C_below HR0.out HB.out) | (with_reducible refine Kd.C_alloc ?_ _) | (with_reducible refine Kd.C_drewN ?_ _) | (with_reducible refine Kd.C_drew ?_))); (case side2 => exact HC0.out); rintro e w15 ⟨rfl, hb⟩; refine ⟨_, rfl, ?_⟩; have n0_ := Aside0.mk (blk_below (bL BK142.out) hb); have n1_ := Aside0.mk (below_step (hL HB.out) hb); clear BK142; clear HB; have BK142 := n0_; have HB := n1_; clear n0_ n1_; (try clear hb); (try clear hb2); (try clear hk); (try clear hi); have hcz16_0 : w15.cell? ⟨gb142, 0, none⟩ = some (.string a1_0) := (blk_cell BK142.out 0).trans rfl; have hcz16_1 : w15.cell? ⟨gb142, 1, none⟩ = some (.string a1_1) := (blk_cell BK142.out 1).trans rfl; have hfz16_0 := blk_frozen BK142.out 0; have hfz16_1 := blk_frozen BK142.out 1; have q17 : ((ji7) : Int) ≤ ((l0.length : Int) : Int) := of_decide_eq_true (by first | (with_reducible assumption) | assumption); obtain ⟨i017, hi017, _, hsz17, _⟩ := info_parts info37; have hroom17 : l0.length ≤ c0 := HC0.out; have hC17 : Kd.C k37 _ A0 l0.length l0 := HR0.out; have ql17 : (t144 : Int) ≤ ((ji7) : Int) := of_decide_eq_true (by first | (with_reducible assumption) | assumption); have q017 : (0 : Int) ≤ (t144 : Int) := of_decide_eq_true (by first | (with_reducible assumption) | assumption); have hcut17 := cut_mid (P := Try.prog) 25 37 .i64 .i64 Try.underlying25 hi017 3 hsz17 A0 l0.length c0 t144 (ji7) q017 ql17 q17 hroom17; have hr17 := Kd.C_mid (lo := (t144 : Int).toNat) (hi := ((ji7) : Int).toNat) (c := c0) hC17 (by omega) (by omega) hroom17; obtain ⟨A17, hA17⟩ : ∃ A1, A1 = (if c0 = (t144 : Int).toNat then A0 else (A0 : Option Addr).map (·.add ((t144 : Int).toNat * 3))) := ⟨_, rfl⟩; obtain ⟨c17, hc17⟩ : ∃ c1, c1 = c0 - (t144 : Int).toNat := ⟨_, rfl⟩; have hy17 : y146.length = ((ji7) : Int).toNat - (t144 : Int).toNat := (by rw [Ny146.out, List.length_drop, List.length_take] <;> omega); rw [show ((l0).take ((ji7) : Int).toNat).drop (t144 : Int).toNat = y146 from Ny146.out.symm] at hr17; replace hr17 : Kd.C k37 _ A17 y146.length y146 := (by rw [hA17]; exact hr17); rw [← hy17, ← hA17, ← hc17] at hcut17; have HR149 := Aside0.mk hr17; have HC149 := Aside0.mk (show y146.length ≤ c17 from by rw [hy17, hc17]; exact Nat.sub_le_sub_right (Nat.le_trans (by omega) hroom17) _); clear hr17 hC17 hroom17 hi017 hsz17 hc17; have KY17 := Aside0.mk hy17; have KA17 := Aside0.mk hA17; clear hy17 hA17; replace q17 := eq_true q17) | ((with_reducible refine gate_callee (f := 35) rfl ?_); refine goesL_ (some 36) rfl rfl Try.func35 (by kernel_rfl) rfl #[.slice A17 y146.length c17] rfl (by (try simp only [List.map_toArray, List.map_cons, List.map_nil]); first | done | rfl | (simp only [List.length_drop, List.length_take]; rfl)) ?_; (with_reducible refine (slices_Clone_api_Change_api_Change.calls _ _ y146 t150 _ ?side1 ?side2 A11.out).mono ?_); (case side1 => repeat (first | exact (Kd.C_below HR149.out HB.out) | (with_reducible refine Kd.C_alloc ?_ _) | (with_reducible refine Kd.C_drewN ?_ _) | (with_reducible refine Kd.C_drew ?_))); (case side2 => exact HC149.out); rintro e w18 ⟨v151, rfl, ho0, hb⟩; refine ⟨_, rfl, ?_⟩; have n0_ := Aside0.mk (Kd.R_lower ho0 (below_size (hL HB.out))); have n1_ := Aside0.mk (blk_below (bL BK142.out) hb); have n2_ := Aside0.mk (below_step (hL HB.out) hb); clear BK142; clear HB; have HO152 := n0_; have BK142 := n1_; have HB := n2_; clear n0_ n1_ n2_; (try clear hb); (try clear hb2); (try clear hk); (try clear hi); (try clear ho0)))
  go_ret
  exact ⟨_, by first | rfl | (simp [errW_none, errW_some] <;> rfl) | (simp only [← hji7]; first | rfl | (simp [errW_none, errW_some] <;> rfl)) | (simp [*, errW_none, errW_some] <;> rfl), by exact rL HO152.out, hL HB.out⟩
 rw [if_neg c6] at H
 have c6b0 : (a1_1.toList == ([] : List UInt8)) = false := beq_eq_false_iff_ne.mpr c6
 have c6b1 : (a1_1.toList != ([] : List UInt8)) = true := bne_iff_ne.mpr c6
 replace H := Option.bind_eq_some_iff.mp H
 obtain ⟨⟨t153, t154⟩, A190, H⟩ := H
 replace H : (if 0 ≤ t144 then (if t144 ≤ (mx t144 t153) then (if (mx t144 t153) ≤ (l0.length : Int) then ((slices_Clone_api_Change_api_Change.f ((l0.take ((mx t144 t153) : Int).toNat).drop (t144 : Int).toNat)).bind fun t159 => (some t159)) else (none)) else (none)) else (none)) = some r := H
 have A19 := Aside0.mk A190
 clear A190
 obtain ⟨ji20, hji20⟩ : ∃ j_ : Int, (mx t144 t153) = j_ := ⟨_, rfl⟩
 replace H : (if 0 ≤ t144 then (if t144 ≤ (ji20) then (if (ji20) ≤ (l0.length : Int) then ((slices_Clone_api_Change_api_Change.f ((l0.take ((ji20) : Int).toNat).drop (t144 : Int).toNat)).bind fun t159 => (some t159)) else (none)) else (none)) else (none)) = some r := by first | (rw [hji20] at H; exact H) | (simp only [hji20] at H ⊢; exact H)
 (try rw [hji20] at A3)
 (try rw [hji20] at A5)
 (try rw [hji20] at A19)
 have hji20_ : (if t144 < t153 then t153 else t144) = ji20 := hji20
 by_cases c21 : 0 ≤ t144
 rotate_left
 ·rw [if_neg c21] at H
  exact absurd H (by simp)
 rw [if_pos c21] at H
 have c21b0 := eq_true c21
 have c21b1 : decide (0 ≤ t144) = true := decide_eq_true c21
 clear c21
 by_cases c22 : t144 ≤ (ji20)
 rotate_left
 ·rw [if_neg c22] at H
  exact absurd H (by simp)
 rw [if_pos c22] at H
 have c22b0 := eq_true c22
 have c22b1 : decide (t144 ≤ (ji20)) = true := decide_eq_true c22
 clear c22
 by_cases c23 : (ji20) ≤ (l0.length : Int)
 rotate_left
 ·rw [if_neg c23] at H
  exact absurd H (by simp)
 rw [if_pos c23] at H
 have c23b0 := eq_true c23
 have c23b1 : decide ((ji20) ≤ (l0.length : Int)) = true := decide_eq_true c23
 clear c23
 obtain ⟨y155, hy155⟩ : ∃ y_ : List (S37), y_ = ((l0.take ((ji20) : Int).toNat).drop (t144 : Int).toNat) := ⟨_, rfl⟩
 replace H : ((slices_Clone_api_Change_api_Change.f y155).bind fun t159 => (some t159)) = some r := by first | (rw [hy155]; with_reducible exact H) | (have H2_ := (Option.bind_some _ _).symm.trans H; rw [hy155]; with_reducible exact H2_) | (have H2_ := (Option.bind_some _ _).symm.trans H; with_reducible exact H2_) | with_reducible exact H | (rw [hy155]; exact H) | exact H
 have Ny155 := Aside0.mk hy155
 clear hy155
 replace H := Option.bind_eq_some_iff.mp H
 obtain ⟨t159, A240, H⟩ := H
 replace H : (some t159) = some r := H
 have A24 := Aside0.mk A240
 clear A240
 obtain rfl := Option.some.inj H
 simp only [Option.some.injEq, Prod.mk.injEq] at H
 obtain ⟨rfl⟩ := H
 go_enter Try.func18, Try.ntmps18
 go_wp2_with (first | ((with_reducible refine gate_dst (N := 3) rfl ?_); refine box_event ?hg (N := 3) ?hd (cs := #[.string a1_0, .string a1_1]) (t := 34) ?hr ?_; (case hd => rfl); (case hg => rfl); (case hr => first | (go_simp; done) | (go_simp; rfl)); intro gb142 hg w25 hbox hb; have n0_ := Aside0.mk (below_step (hL HB.out) hb); have n1_ := Aside0.mk (hbox); have n2_ := Above.mk ((by rw [hg]; exact (below_size (hL HB.out)) : w.heap.size ≤ gb142)); have n3_ := Above.mk ((by rw [hg]; exact (below_size (hL HB.out)) : w.heap.size ≤ gb142)); clear HB; have HB := n0_; have BK142 := n1_; have GW142 := n2_; have GE142 := n3_; clear n0_ n1_ n2_ n3_; clear hb hbox hg) | ((with_reducible refine gate_callee (f := 28) rfl ?_); refine goesL_ (some 9) rfl rfl Try.func28 (by kernel_rfl) rfl #[.slice A0 l0.length c0] rfl (by (try simp only [List.map_toArray, List.map_cons, List.map_nil]); first | done | rfl | (simp only [List.length_drop, List.length_take]; rfl)) ?_; (with_reducible refine (run_Right.calls k _ _ l0 true _ ?side1 ?side2 A3.out).mono ?_); (case side1 => repeat (first | exact (Kd.C_below HR0.out HB.out) | (with_reducible refine Kd.C_alloc ?_ _) | (with_reducible refine Kd.C_drewN ?_ _) | (with_reducible refine Kd.C_drew ?_))); (case side2 => exact HC0.out); rintro e w26 ⟨rfl, hb⟩; refine ⟨_, rfl, ?_⟩; have n0_ := Aside0.mk (blk_below (bL BK142.out) hb); have n1_ := Aside0.mk (below_step (hL HB.out) hb); clear BK142; clear HB; have BK142 := n0_; have HB := n1_; clear n0_ n1_; (try clear hb); (try clear hb2); (try clear hk); (try clear hi); have hcz27_0 : w26.cell? ⟨gb142, 0, none⟩ = some (.string a1_0) := (blk_cell BK142.out 0).trans rfl; have hcz27_1 : w26.cell? ⟨gb142, 1, none⟩ = some (.string a1_1) := (blk_cell BK142.out 1).trans rfl; have hfz27_0 := blk_frozen BK142.out 0; have hfz27_1 := blk_frozen BK142.out 1) | ((with_reducible refine gate_callee (f := 34) rfl ?_); refine goesL_ (some 15) rfl rfl Try.func34 (by kernel_rfl) rfl #[.slice A0 l0.length c0, .string a1_0] rfl (by (try simp only [List.map_toArray, List.map_cons, List.map_nil]); first | done | rfl | (simp only [List.length_drop, List.length_take]; rfl)) ?_; (with_reducible refine (run_seek.calls k _ _ l0 a1_0 t144 t145 _ ?side1 ?side2 A5.out).mono ?_); (case side1 => repeat (first | exact (Kd.C_below HR0.out HB.out) | (with_reducible refine Kd.C_alloc ?_ _) | (with_reducible refine Kd.C_drewN ?_ _) | (with_reducible refine Kd.C_drew ?_))); (case side2 => exact HC0.out); rintro e w28 ⟨rfl, hb⟩; refine ⟨_, rfl, ?_⟩; have n0_ := Aside0.mk (blk_below (bL BK142.out) hb); have n1_ := Aside0.mk (below_step (hL HB.out) hb); clear BK142; clear HB; have BK142 := n0_; have HB := n1_; clear n0_ n1_; (try clear hb); (try clear hb2); (try clear hk); (try clear hi); have hcz29_0 : w28.cell? ⟨gb142, 0, none⟩ = some (.string a1_0) := (blk_cell BK142.out 0).trans rfl; have hcz29_1 : w28.cell? ⟨gb142, 1, none⟩ = some (.string a1_1) := (blk_cell BK142.out 1).trans rfl; have hfz29_0 := blk_frozen BK142.out 0; have hfz29_1 := blk_frozen BK142.out 1) | ((with_reducible refine gate_callee (f := 34) rfl ?_); refine goesL_ (some 27) rfl rfl Try.func34 (by kernel_rfl) rfl #[.slice A0 l0.length c0, .string a1_1] rfl (by (try simp only [List.map_toArray, List.map_cons, List.map_nil]); first | done | rfl | (simp only [List.length_drop, List.length_take]; rfl)) ?_; (with_reducible refine (run_seek.calls k _ _ l0 a1_1 t153 t154 _ ?side1 ?side2 A19.out).mono ?_); (case side1 => repeat (first | exact (Kd.C_below HR0.out HB.out) | (with_reducible refine Kd.C_alloc ?_ _) | (with_reducible refine Kd.C_drewN ?_ _) | (with_reducible refine Kd.C_drew ?_))); (case side2 => exact HC0.out); rintro e w30 ⟨rfl, hb⟩; refine ⟨_, rfl, ?_⟩; have n0_ := Aside0.mk (blk_below (bL BK142.out) hb); have n1_ := Aside0.mk (below_step (hL HB.out) hb); clear BK142; clear HB; have BK142 := n0_; have HB := n1_; clear n0_ n1_; (try clear hb); (try clear hb2); (try clear hk); (try clear hi); have q31 : ((ji20) : Int) ≤ ((l0.length : Int) : Int) := of_decide_eq_true (by first | (with_reducible assumption) | assumption); obtain ⟨i031, hi031, _, hsz31, _⟩ := info_parts info37; have hroom31 : l0.length ≤ c0 := HC0.out; have hC31 : Kd.C k37 _ A0 l0.length l0 := HR0.out; have ql31 : (t144 : Int) ≤ ((ji20) : Int) := of_decide_eq_true (by first | (with_reducible assumption) | assumption); have q031 : (0 : Int) ≤ (t144 : Int) := of_decide_eq_true (by first | (with_reducible assumption) | assumption); have hcut31 := cut_mid (P := Try.prog) 25 37 .i64 .i64 Try.underlying25 hi031 3 hsz31 A0 l0.length c0 t144 (ji20) q031 ql31 q31 hroom31; have hr31 := Kd.C_mid (lo := (t144 : Int).toNat) (hi := ((ji20) : Int).toNat) (c := c0) hC31 (by omega) (by omega) hroom31; obtain ⟨A31, hA31⟩ : ∃ A1, A1 = (if c0 = (t144 : Int).toNat then A0 else (A0 : Option Addr).map (·.add ((t144 : Int).toNat * 3))) := ⟨_, rfl⟩; obtain ⟨c31, hc31⟩ : ∃ c1, c1 = c0 - (t144 : Int).toNat := ⟨_, rfl⟩; have hy31 : y155.length = ((ji20) : Int).toNat - (t144 : Int).toNat := (by rw [Ny155.out, List.length_drop, List.length_take] <;> omega); rw [show ((l0).take ((ji20) : Int).toNat).drop (t144 : Int).toNat = y155 from Ny155.out.symm] at hr31; replace hr31 : Kd.C k37 _ A31 y155.length y155 := (by rw [hA31]; exact hr31); rw [← hy31, ← hA31, ← hc31] at hcut31; have HR158 := Aside0.mk hr31; have HC158 := Aside0.mk (show y155.length ≤ c31 from by rw [hy31, hc31]; exact Nat.sub_le_sub_right (Nat.le_trans (by omega) hroom31) _); clear hr31 hC31 hroom31 hi031 hsz31 hc31; have KY31 := Aside0.mk hy31; have KA31 := Aside0.mk hA31; clear hy31 hA31; replace q31 := eq_true q31) | ((with_reducible refine gate_callee (f := 35) rfl ?_); refine goesL_ (some 36) rfl rfl Try.func35 (by kernel_rfl) rfl #[.slice A31 y155.length c31] rfl (by (try simp only [List.map_toArray, List.map_cons, List.map_nil]); first | done | rfl | (simp only [List.length_drop, List.length_take]; rfl)) ?_; (with_reducible refine (slices_Clone_api_Change_api_Change.calls _ _ y155 t159 _ ?side1 ?side2 A24.out).mono ?_); (case side1 => repeat (first | exact (Kd.C_below HR158.out HB.out) | (with_reducible refine Kd.C_alloc ?_ _) | (with_reducible refine Kd.C_drewN ?_ _) | (with_reducible refine Kd.C_drew ?_))); (case side2 => exact HC158.out); rintro e w32 ⟨v160, rfl, ho0, hb⟩; refine ⟨_, rfl, ?_⟩; have n0_ := Aside0.mk (Kd.R_lower ho0 (below_size (hL HB.out))); have n1_ := Aside0.mk (blk_below (bL BK142.out) hb); have n2_ := Aside0.mk (below_step (hL HB.out) hb); clear BK142; clear HB; have HO161 := n0_; have BK142 := n1_; have HB := n2_; clear n0_ n1_ n2_; (try clear hb); (try clear hb2); (try clear hk); (try clear hi); (try clear ho0)))
 go_ret
 exact ⟨_, by first | rfl | (simp [errW_none, errW_some] <;> rfl) | (simp only [← hji20]; first | rfl | (simp [errW_none, errW_some] <;> rfl)) | (simp [*, errW_none, errW_some] <;> rfl), by exact rL HO161.out, hL HB.out⟩

end Go.Proofs.Ytkkfkccfnfjbiaa.PGr
