-- Written by a program of this session for this claim (mp.py, over the kit's print); Lean checks it.
import Derived.Test.YtieifhjjjlmkbaaDoorPOrdx0
import Derived.Test.YtieifhjjjlmkbaaDoorPOrdx2
import Derived.Test.YtieifhjjjlmkbaaDoorPOrdx5
import Derived.Test.YtieifhjjjlmkbaaDoorPOrdx6
import Derived.Test.YtieifhjjjlmkbaaDoorPOrdx7
namespace Go.Proofs.YtieifhjjjlmkbaaDoor.POrd
open Go.RowKit Go.Proofs.YtieifhjjjlmkbaaDoorW.PrintWords Go.Proofs.YtieifhjjjlmkbaaDoorW.PrintLast Go.Proofs.YtieifhjjjlmkbaaDoorW.PrintMore Go.Proofs.YtieifhjjjlmkbaaDoor.Fv Go.Proofs.YtieifhjjjlmkbaaDoor.Hl
attribute [local go_sem] max2_int min2_int max_two min_two max_three min_three max_four min_four str_gtr str_leq str_geq   -- for this text's walks alone
set_option linter.unusedVariables false
set_option linter.unusedSimpArgs false

/-! ### record_Entry: function 15 -/
def record_Entry.j0 : Nat → Int → List (S41) → ByteArray → Int → Option (ByteArray × Int)
  | 0, _, _, _, _ => none
  | k + 1, x0, x1, x2, x8 => if x8 = 0 then ((tuple_Key.f k x1).bind fun bt212 => ((record_id2.f x0).bind fun t214 => (if t214.size + bt212.1.size ≤ 9223372036854775807 then (if (t214 ++ bt212.1).size + 1 ≤ 9223372036854775807 then (if ((t214 ++ bt212.1) ++ (⟨#[0]⟩ : ByteArray)).size + x2.size ≤ 9223372036854775807 then (some (((t214 ++ bt212.1) ++ (⟨#[0]⟩ : ByteArray)) ++ x2, 0)) else (none)) else (none)) else (none)))) else (some ((⟨#[]⟩ : ByteArray), x8))
def record_Entry.f (k : Nat) (a0 : Int) (l1 : List (S41)) (a2 : ByteArray) : Option (ByteArray × Int) := (record_number.f a0).bind fun t171 => (if t171 = true then ((record_when.f ((l1.length : Int) == 0) 1).bind fun t172 => ((record_when.f (decide ((l1.length : Int) > 2)) 4).bind fun t173 => ((slices_ContainsFunc_api_Val_api_Val_at_record_bad.f k l1).bind fun t174 => (if t174 = true then ((record_when.f true 1).bind fun t175 => ((record_first.f k (([t172, t173, t175] : List Int))).bind fun t179 => (record_Entry.j0 k a0 l1 a2 t179))) else ((slices_ContainsFunc_api_Val_api_Val_at_record_null.f k l1).bind fun t180 => (if t180 = true then ((record_when.f true 1).bind fun t181 => ((record_first.f k (([t172, t173, t181] : List Int))).bind fun t185 => (record_Entry.j0 k a0 l1 a2 t185))) else ((record_Key.f a2).bind fun t186 => ((record_when.f (!t186) 1).bind fun t187 => ((record_first.f k (([t172, t173, t187] : List Int))).bind fun t191 => (record_Entry.j0 k a0 l1 a2 t191)))))))))) else ((record_when.f true 1).bind fun t192 => ((record_when.f (decide ((l1.length : Int) > 2)) 4).bind fun t193 => ((slices_ContainsFunc_api_Val_api_Val_at_record_bad.f k l1).bind fun t194 => (if t194 = true then ((record_when.f true 1).bind fun t195 => ((record_first.f k (([t192, t193, t195] : List Int))).bind fun t199 => (record_Entry.j0 k a0 l1 a2 t199))) else ((slices_ContainsFunc_api_Val_api_Val_at_record_null.f k l1).bind fun t200 => (if t200 = true then ((record_when.f true 1).bind fun t201 => ((record_first.f k (([t192, t193, t201] : List Int))).bind fun t205 => (record_Entry.j0 k a0 l1 a2 t205))) else ((record_Key.f a2).bind fun t206 => ((record_when.f (!t206) 1).bind fun t207 => ((record_first.f k (([t192, t193, t207] : List Int))).bind fun t211 => (record_Entry.j0 k a0 l1 a2 t211)))))))))))
theorem record_Entry.mono_l : ∀ k, (∀ y0 y1 y2 y3, LeO (record_Entry.j0 k y0 y1 y2 y3) (record_Entry.j0 (k + 1) y0 y1 y2 y3))
  | 0 => fun _ _ _ _ r h => by simp [record_Entry.j0] at h
  | k + 1 => by
    have ih0 := record_Entry.mono_l k
    · intro y0 y1 y2 y3
      unfold record_Entry.j0
      repeat' first
      | (with_reducible exact ih0 _ _ _ _)
      | (with_reducible exact record_first.mono _ _)
      | (with_reducible exact slices_ContainsFunc_api_Val_api_Val_at_record_bad.mono _ _)
      | (with_reducible exact slices_ContainsFunc_api_Val_api_Val_at_record_null.mono _ _)
      | (with_reducible exact tuple_Key.mono _ _)
      | (with_reducible exact LeO.refl _)
      | (with_reducible exact LeO.none _)
      | (with_reducible refine LeO.ite ?_ ?_)
      | (with_reducible refine LeO.bind ?_ (fun _ => ?_))
      | exact ih0 _ _ _ _
      | exact record_first.mono _ _
      | exact slices_ContainsFunc_api_Val_api_Val_at_record_bad.mono _ _
      | exact slices_ContainsFunc_api_Val_api_Val_at_record_null.mono _ _
      | exact tuple_Key.mono _ _
      | exact LeO.none _
      | refine LeO.ite ?_ ?_
      | refine LeO.bind ?_ (fun _ => ?_)
theorem record_Entry.mono : ∀ a0 a1 a2 k, LeO (record_Entry.f k a0 a1 a2) (record_Entry.f (k + 1) a0 a1 a2) := by
  intro a0 a1 a2 k
  have ih0 := record_Entry.mono_l k
  unfold record_Entry.f
  repeat' first
      | (with_reducible exact ih0 _ _ _ _)
      | (with_reducible exact record_first.mono _ _)
      | (with_reducible exact slices_ContainsFunc_api_Val_api_Val_at_record_bad.mono _ _)
      | (with_reducible exact slices_ContainsFunc_api_Val_api_Val_at_record_null.mono _ _)
      | (with_reducible exact tuple_Key.mono _ _)
      | (with_reducible exact LeO.refl _)
      | (with_reducible exact LeO.none _)
      | (with_reducible refine LeO.ite ?_ ?_)
      | (with_reducible refine LeO.bind ?_ (fun _ => ?_))
      | exact ih0 _ _ _ _
      | exact record_first.mono _ _
      | exact slices_ContainsFunc_api_Val_api_Val_at_record_bad.mono _ _
      | exact slices_ContainsFunc_api_Val_api_Val_at_record_null.mono _ _
      | exact tuple_Key.mono _ _
      | exact LeO.none _
      | refine LeO.ite ?_ ?_
      | refine LeO.bind ?_ (fun _ => ?_)
set_option maxHeartbeats 3000000 in
set_option maxRecDepth 100000 in
theorem record_Entry.calls (k : Nat) (a0 : Int) (A1 : Option Addr) (c1 : Nat) (l1 : List (S41)) (a2 : ByteArray) (r1 : ByteArray) (r2 : Int) (w : World) (hr1 : Kd.C k41 w A1 l1.length l1) (hc1 : l1.length ≤ c1) (h : record_Entry.f k a0 l1 a2 = some (r1, r2)) :
    Calls Tryd.prog 15 #[.int .i64 a0, .slice A1 l1.length c1, .string a2] w fun e w' => e = .returned (.tuple #[.string r1, .int .i64 r2]) ∧ Below w.heap.size w w' := by
  have HR1 := Aside0.mk hr1
  have HC1 := Aside0.mk hc1
  clear hr1 hc1
  have HB := Aside0.mk (Below.refl w.heap.size w)
  have H : ((record_number.f a0).bind fun t171 => (if t171 = true then ((record_when.f ((l1.length : Int) == 0) 1).bind fun t172 => ((record_when.f (decide ((l1.length : Int) > 2)) 4).bind fun t173 => ((slices_ContainsFunc_api_Val_api_Val_at_record_bad.f k l1).bind fun t174 => (if t174 = true then ((record_when.f true 1).bind fun t175 => ((record_first.f k (([t172, t173, t175] : List Int))).bind fun t179 => (record_Entry.j0 k a0 l1 a2 t179))) else ((slices_ContainsFunc_api_Val_api_Val_at_record_null.f k l1).bind fun t180 => (if t180 = true then ((record_when.f true 1).bind fun t181 => ((record_first.f k (([t172, t173, t181] : List Int))).bind fun t185 => (record_Entry.j0 k a0 l1 a2 t185))) else ((record_Key.f a2).bind fun t186 => ((record_when.f (!t186) 1).bind fun t187 => ((record_first.f k (([t172, t173, t187] : List Int))).bind fun t191 => (record_Entry.j0 k a0 l1 a2 t191)))))))))) else ((record_when.f true 1).bind fun t192 => ((record_when.f (decide ((l1.length : Int) > 2)) 4).bind fun t193 => ((slices_ContainsFunc_api_Val_api_Val_at_record_bad.f k l1).bind fun t194 => (if t194 = true then ((record_when.f true 1).bind fun t195 => ((record_first.f k (([t192, t193, t195] : List Int))).bind fun t199 => (record_Entry.j0 k a0 l1 a2 t199))) else ((slices_ContainsFunc_api_Val_api_Val_at_record_null.f k l1).bind fun t200 => (if t200 = true then ((record_when.f true 1).bind fun t201 => ((record_first.f k (([t192, t193, t201] : List Int))).bind fun t205 => (record_Entry.j0 k a0 l1 a2 t205))) else ((record_Key.f a2).bind fun t206 => ((record_when.f (!t206) 1).bind fun t207 => ((record_first.f k (([t192, t193, t207] : List Int))).bind fun t211 => (record_Entry.j0 k a0 l1 a2 t211)))))))))))) = some (r1, r2) := h
  clear h
  have HC4 := Aside0.mk H
  clear H
  go_enter Tryd.func15, Tryd.ntmps15
  go_upto_region 1 with (fail)
  go_cut [8] (fun v8 wc => ∃ (kq : Nat) (x8_3 : Int), v8 = .int .i64 x8_3 ∧ Aside0 (record_Entry.j0 kq a0 l1 a2 x8_3 = some (r1, r2)) ∧ Aside0 (kq ≤ k) ∧ Aside0 (Below w.heap.size w wc))
  case first =>
    have H := HC4.out
    clear HC4
    replace H := Option.bind_eq_some_iff.mp H
    obtain ⟨t171, A50, H⟩ := H
    replace H : (if t171 = true then ((record_when.f ((l1.length : Int) == 0) 1).bind fun t172 => ((record_when.f (decide ((l1.length : Int) > 2)) 4).bind fun t173 => ((slices_ContainsFunc_api_Val_api_Val_at_record_bad.f k l1).bind fun t174 => (if t174 = true then ((record_when.f true 1).bind fun t175 => ((record_first.f k (([t172, t173, t175] : List Int))).bind fun t179 => (record_Entry.j0 k a0 l1 a2 t179))) else ((slices_ContainsFunc_api_Val_api_Val_at_record_null.f k l1).bind fun t180 => (if t180 = true then ((record_when.f true 1).bind fun t181 => ((record_first.f k (([t172, t173, t181] : List Int))).bind fun t185 => (record_Entry.j0 k a0 l1 a2 t185))) else ((record_Key.f a2).bind fun t186 => ((record_when.f (!t186) 1).bind fun t187 => ((record_first.f k (([t172, t173, t187] : List Int))).bind fun t191 => (record_Entry.j0 k a0 l1 a2 t191)))))))))) else ((record_when.f true 1).bind fun t192 => ((record_when.f (decide ((l1.length : Int) > 2)) 4).bind fun t193 => ((slices_ContainsFunc_api_Val_api_Val_at_record_bad.f k l1).bind fun t194 => (if t194 = true then ((record_when.f true 1).bind fun t195 => ((record_first.f k (([t192, t193, t195] : List Int))).bind fun t199 => (record_Entry.j0 k a0 l1 a2 t199))) else ((slices_ContainsFunc_api_Val_api_Val_at_record_null.f k l1).bind fun t200 => (if t200 = true then ((record_when.f true 1).bind fun t201 => ((record_first.f k (([t192, t193, t201] : List Int))).bind fun t205 => (record_Entry.j0 k a0 l1 a2 t205))) else ((record_Key.f a2).bind fun t206 => ((record_when.f (!t206) 1).bind fun t207 => ((record_first.f k (([t192, t193, t207] : List Int))).bind fun t211 => (record_Entry.j0 k a0 l1 a2 t211))))))))))) = some (r1, r2) := H
    have A5 := Aside0.mk A50
    clear A50
    by_cases c6 : t171 = true
    · subst c6
      have H1 : ((record_when.f ((l1.length : Int) == 0) 1).bind fun t172 => ((record_when.f (decide ((l1.length : Int) > 2)) 4).bind fun t173 => ((slices_ContainsFunc_api_Val_api_Val_at_record_bad.f k l1).bind fun t174 => (if t174 = true then ((record_when.f true 1).bind fun t175 => ((record_first.f k (([t172, t173, t175] : List Int))).bind fun t179 => (record_Entry.j0 k a0 l1 a2 t179))) else ((slices_ContainsFunc_api_Val_api_Val_at_record_null.f k l1).bind fun t180 => (if t180 = true then ((record_when.f true 1).bind fun t181 => ((record_first.f k (([t172, t173, t181] : List Int))).bind fun t185 => (record_Entry.j0 k a0 l1 a2 t185))) else ((record_Key.f a2).bind fun t186 => ((record_when.f (!t186) 1).bind fun t187 => ((record_first.f k (([t172, t173, t187] : List Int))).bind fun t191 => (record_Entry.j0 k a0 l1 a2 t191)))))))))) = some (r1, r2) := by rw [if_pos rfl] at H; exact H
      clear H
      have H := H1
      clear H1
      replace H := Option.bind_eq_some_iff.mp H
      obtain ⟨t172, A70, H⟩ := H
      replace H : ((record_when.f (decide ((l1.length : Int) > 2)) 4).bind fun t173 => ((slices_ContainsFunc_api_Val_api_Val_at_record_bad.f k l1).bind fun t174 => (if t174 = true then ((record_when.f true 1).bind fun t175 => ((record_first.f k (([t172, t173, t175] : List Int))).bind fun t179 => (record_Entry.j0 k a0 l1 a2 t179))) else ((slices_ContainsFunc_api_Val_api_Val_at_record_null.f k l1).bind fun t180 => (if t180 = true then ((record_when.f true 1).bind fun t181 => ((record_first.f k (([t172, t173, t181] : List Int))).bind fun t185 => (record_Entry.j0 k a0 l1 a2 t185))) else ((record_Key.f a2).bind fun t186 => ((record_when.f (!t186) 1).bind fun t187 => ((record_first.f k (([t172, t173, t187] : List Int))).bind fun t191 => (record_Entry.j0 k a0 l1 a2 t191))))))))) = some (r1, r2) := H
      have A7 := Aside0.mk A70
      clear A70
      replace H := Option.bind_eq_some_iff.mp H
      obtain ⟨t173, A80, H⟩ := H
      replace H : ((slices_ContainsFunc_api_Val_api_Val_at_record_bad.f k l1).bind fun t174 => (if t174 = true then ((record_when.f true 1).bind fun t175 => ((record_first.f k (([t172, t173, t175] : List Int))).bind fun t179 => (record_Entry.j0 k a0 l1 a2 t179))) else ((slices_ContainsFunc_api_Val_api_Val_at_record_null.f k l1).bind fun t180 => (if t180 = true then ((record_when.f true 1).bind fun t181 => ((record_first.f k (([t172, t173, t181] : List Int))).bind fun t185 => (record_Entry.j0 k a0 l1 a2 t185))) else ((record_Key.f a2).bind fun t186 => ((record_when.f (!t186) 1).bind fun t187 => ((record_first.f k (([t172, t173, t187] : List Int))).bind fun t191 => (record_Entry.j0 k a0 l1 a2 t191)))))))) = some (r1, r2) := H
      have A8 := Aside0.mk A80
      clear A80
      replace H := Option.bind_eq_some_iff.mp H
      obtain ⟨t174, A90, H⟩ := H
      replace H : (if t174 = true then ((record_when.f true 1).bind fun t175 => ((record_first.f k (([t172, t173, t175] : List Int))).bind fun t179 => (record_Entry.j0 k a0 l1 a2 t179))) else ((slices_ContainsFunc_api_Val_api_Val_at_record_null.f k l1).bind fun t180 => (if t180 = true then ((record_when.f true 1).bind fun t181 => ((record_first.f k (([t172, t173, t181] : List Int))).bind fun t185 => (record_Entry.j0 k a0 l1 a2 t185))) else ((record_Key.f a2).bind fun t186 => ((record_when.f (!t186) 1).bind fun t187 => ((record_first.f k (([t172, t173, t187] : List Int))).bind fun t191 => (record_Entry.j0 k a0 l1 a2 t191))))))) = some (r1, r2) := H
      have A9 := Aside0.mk A90
      clear A90
      by_cases c10 : t174 = true
      · subst c10
        have H1 : ((record_when.f true 1).bind fun t175 => ((record_first.f k (([t172, t173, t175] : List Int))).bind fun t179 => (record_Entry.j0 k a0 l1 a2 t179))) = some (r1, r2) := by rw [if_pos rfl] at H; exact H
        clear H
        have H := H1
        clear H1
        replace H := Option.bind_eq_some_iff.mp H
        obtain ⟨t175, A110, H⟩ := H
        replace H : ((record_first.f k (([t172, t173, t175] : List Int))).bind fun t179 => (record_Entry.j0 k a0 l1 a2 t179)) = some (r1, r2) := H
        have A11 := Aside0.mk A110
        clear A110
        obtain ⟨y176, hy176⟩ : ∃ y_ : List Int, y_ = (([t172, t173, t175] : List Int)) := ⟨_, rfl⟩
        replace H : ((record_first.f k y176).bind fun t179 => (record_Entry.j0 k a0 l1 a2 t179)) = some (r1, r2) := by first | (rw [hy176]; with_reducible exact H) | (have H2_ := (Option.bind_some _ _).symm.trans H; rw [hy176]; with_reducible exact H2_) | (have H2_ := (Option.bind_some _ _).symm.trans H; with_reducible exact H2_) | with_reducible exact H | (rw [hy176]; exact H) | exact H
        have Ny176 := Aside0.mk hy176
        clear hy176
        replace H := Option.bind_eq_some_iff.mp H
        obtain ⟨t179, A120, H⟩ := H
        replace H : (record_Entry.j0 k a0 l1 a2 t179) = some (r1, r2) := H
        have A12 := Aside0.mk A120
        clear A120
        have H' := Aside0.mk H
        clear H
        go_wp2_with (first | ((with_reducible refine gate_callee (f := 27) rfl ?_); refine goesL_ (some 12) rfl rfl Tryd.func27 (by kernel_rfl) rfl #[.int .i64 a0] rfl (by (try simp only [List.map_toArray, List.map_cons, List.map_nil]); first | done | rfl | (simp only [List.length_drop, List.length_take]; rfl)) ?_; (with_reducible refine (record_number.calls a0 true _ A5.out).mono ?_); rintro e w' ⟨rfl, ⟨nd, rfl⟩⟩; refine ⟨_, rfl, ?_⟩) | ((with_reducible refine gate_callee (f := 26) rfl ?_); refine goesL_ (some 19) rfl rfl Tryd.func26 (by kernel_rfl) rfl #[.bool ((l1.length : Int) == 0), .int .i64 1] rfl (by (try simp only [List.map_toArray, List.map_cons, List.map_nil]); first | done | rfl | (simp only [List.length_drop, List.length_take]; rfl)) ?_; (with_reducible refine (record_when.calls ((l1.length : Int) == 0) 1 t172 _ A7.out).mono ?_); rintro e w' ⟨rfl, ⟨nd, rfl⟩⟩; refine ⟨_, rfl, ?_⟩) | ((with_reducible refine gate_callee (f := 26) rfl ?_); refine goesL_ (some 23) rfl rfl Tryd.func26 (by kernel_rfl) rfl #[.bool (decide ((l1.length : Int) > 2)), .int .i64 4] rfl (by (try simp only [List.map_toArray, List.map_cons, List.map_nil]); first | done | rfl | (simp only [List.length_drop, List.length_take]; rfl)) ?_; (with_reducible refine (record_when.calls (decide ((l1.length : Int) > 2)) 4 t173 _ A8.out).mono ?_); rintro e w' ⟨rfl, ⟨nd, rfl⟩⟩; refine ⟨_, rfl, ?_⟩) | ((with_reducible refine gate_callee (f := 28) rfl ?_); refine goesL_ (some 25) rfl rfl Tryd.func28 (by kernel_rfl) rfl #[.slice A1 l1.length c1, .func (.func 29) #[] #[]] rfl (by (try simp only [List.map_toArray, List.map_cons, List.map_nil]); first | done | rfl | (simp only [List.length_drop, List.length_take]; rfl)) ?_; (with_reducible refine (slices_ContainsFunc_api_Val_api_Val_at_record_bad.calls k _ _ l1  true _ ?side1 ?side2 A9.out).mono ?_); (case side1 => repeat (first | exact (Kd.C_below HR1.out (by repeat (first | (with_reducible first | exact HB.out | apply below_alloc | apply pw_below_drewN | apply below_drew1) | exact HB.out))) | (with_reducible refine Kd.C_alloc ?_ _) | (with_reducible refine Kd.C_drewN ?_ _) | (with_reducible refine Kd.C_drew ?_))); (case side2 => exact HC1.out); rintro e w13 ⟨rfl, hb⟩; refine ⟨_, rfl, ?_⟩; have n0_ := Aside0.mk (below_step (by repeat (first | (with_reducible first | exact HB.out | apply below_alloc | apply pw_below_drewN | apply below_drew1) | exact HB.out)) hb); clear HB; have HB := n0_; clear n0_; (try clear hb); (try clear hb2); (try clear hk); (try clear hi)) | ((with_reducible refine gate_callee (f := 26) rfl ?_); refine goesL_ (some 35) rfl rfl Tryd.func26 (by kernel_rfl) rfl #[.bool true, .int .i64 1] rfl (by (try simp only [List.map_toArray, List.map_cons, List.map_nil]); first | done | rfl | (simp only [List.length_drop, List.length_take]; rfl)) ?_; (with_reducible refine (record_when.calls true 1 t175 _ A11.out).mono ?_); rintro e w' ⟨rfl, ⟨nd, rfl⟩⟩; refine ⟨_, rfl, ?_⟩) | ((with_reducible refine gate_dst (N := 36) rfl ?_); (try (refine gate_guard (by rfl) ?_; dsimp only)); refine Kd.R_lit (Kd.int .i64) _ 31 ?hg (N := 36) ?hd (xs := ([t172, t173, t175] : List Int)) (inner := [.int .i64 t172, .int .i64 t173, .int .i64 t175]) (ok := fun _ => True) (okp := fun _ => True) ?hr ?hp (fun _ hk => hk) trivial (Below.refl _ _) (Nat.le_refl _) (by simp) ?_; (case hd => rfl); (case hg => rfl); (case hr => first | (go_simp; done) | (go_simp; rfl)); (case hp => exact (Reps.one (show Kd.M (Kd.int .i64) _ _ _ t172 [.int .i64 t172] from rfl) (Reps.one (show Kd.M (Kd.int .i64) _ _ _ t173 [.int .i64 t173] from rfl) (Reps.one (show Kd.M (Kd.int .i64) _ _ _ t175 [.int .i64 t175] from rfl) (Reps.none _ _))))); intro v177 w14 ho15 hb hg_ hnew_; clear hg_ hnew_; (first | rw [← Ny176.out] at ho15 | (simp only [Int.reduceToNat] at ho15; rw [← Ny176.out] at ho15)); have n0_ := Aside0.mk (Kd.R_lower ho15 (below_size (by repeat (first | (with_reducible first | exact HB.out | apply below_alloc | apply pw_below_drewN | apply below_drew1) | exact HB.out)))); have n1_ := Aside0.mk (below_step (by repeat (first | (with_reducible first | exact HB.out | apply below_alloc | apply pw_below_drewN | apply below_drew1) | exact HB.out)) hb); clear HB; have HO178 := n0_; have HB := n1_; clear n0_ n1_; clear hb ho15; obtain ⟨Ao16, co16, eo16⟩ := Kd.R_slice HO178.out; subst eo16) | ((with_reducible refine gate_callee (f := 24) rfl ?_); refine goesL_ (some 37) rfl rfl Tryd.func24 (by kernel_rfl) rfl #[.slice Ao16 y176.length co16] rfl (by (try simp only [List.map_toArray, List.map_cons, List.map_nil]); first | done | rfl | (simp only [List.length_drop, List.length_take]; rfl)) ?_; (with_reducible refine (record_first.calls k _ _ y176 t179 _ ?side1 ?side2 A12.out).mono ?_); (case side1 => repeat (first | exact (Kd.R_reads' HO178.out).2.2 | (with_reducible refine Kd.C_alloc ?_ _) | (with_reducible refine Kd.C_drewN ?_ _) | (with_reducible refine Kd.C_drew ?_))); (case side2 => exact (Kd.R_reads' HO178.out).2.1); rintro e w' ⟨rfl, ⟨nd, rfl⟩⟩; refine ⟨_, rfl, ?_⟩))
        go_meet
        case rel => exact ⟨_, (t179), (by first | rfl | (simp; done) | (simp [*]; done) | (simp [ne_nil_bytes]; done) | (simp [eq_nil_bytes]; done)), H', ⟨by first | omega | exact Nat.le_refl _⟩, ⟨by repeat (first | (with_reducible first | exact HB.out | apply below_alloc | apply pw_below_drewN | apply below_drew1) | exact HB.out)⟩⟩
      · replace c10 := Bool.eq_false_iff.mpr c10
        subst c10
        have H1 : ((slices_ContainsFunc_api_Val_api_Val_at_record_null.f k l1).bind fun t180 => (if t180 = true then ((record_when.f true 1).bind fun t181 => ((record_first.f k (([t172, t173, t181] : List Int))).bind fun t185 => (record_Entry.j0 k a0 l1 a2 t185))) else ((record_Key.f a2).bind fun t186 => ((record_when.f (!t186) 1).bind fun t187 => ((record_first.f k (([t172, t173, t187] : List Int))).bind fun t191 => (record_Entry.j0 k a0 l1 a2 t191)))))) = some (r1, r2) := by rw [if_neg (show ¬ (false = true) by decide)] at H; exact H
        clear H
        have H := H1
        clear H1
        replace H := Option.bind_eq_some_iff.mp H
        obtain ⟨t180, A170, H⟩ := H
        replace H : (if t180 = true then ((record_when.f true 1).bind fun t181 => ((record_first.f k (([t172, t173, t181] : List Int))).bind fun t185 => (record_Entry.j0 k a0 l1 a2 t185))) else ((record_Key.f a2).bind fun t186 => ((record_when.f (!t186) 1).bind fun t187 => ((record_first.f k (([t172, t173, t187] : List Int))).bind fun t191 => (record_Entry.j0 k a0 l1 a2 t191))))) = some (r1, r2) := H
        have A17 := Aside0.mk A170
        clear A170
        by_cases c18 : t180 = true
        · subst c18
          have H1 : ((record_when.f true 1).bind fun t181 => ((record_first.f k (([t172, t173, t181] : List Int))).bind fun t185 => (record_Entry.j0 k a0 l1 a2 t185))) = some (r1, r2) := by rw [if_pos rfl] at H; exact H
          clear H
          have H := H1
          clear H1
          replace H := Option.bind_eq_some_iff.mp H
          obtain ⟨t181, A190, H⟩ := H
          replace H : ((record_first.f k (([t172, t173, t181] : List Int))).bind fun t185 => (record_Entry.j0 k a0 l1 a2 t185)) = some (r1, r2) := H
          have A19 := Aside0.mk A190
          clear A190
          obtain ⟨y182, hy182⟩ : ∃ y_ : List Int, y_ = (([t172, t173, t181] : List Int)) := ⟨_, rfl⟩
          replace H : ((record_first.f k y182).bind fun t185 => (record_Entry.j0 k a0 l1 a2 t185)) = some (r1, r2) := by first | (rw [hy182]; with_reducible exact H) | (have H2_ := (Option.bind_some _ _).symm.trans H; rw [hy182]; with_reducible exact H2_) | (have H2_ := (Option.bind_some _ _).symm.trans H; with_reducible exact H2_) | with_reducible exact H | (rw [hy182]; exact H) | exact H
          have Ny182 := Aside0.mk hy182
          clear hy182
          replace H := Option.bind_eq_some_iff.mp H
          obtain ⟨t185, A200, H⟩ := H
          replace H : (record_Entry.j0 k a0 l1 a2 t185) = some (r1, r2) := H
          have A20 := Aside0.mk A200
          clear A200
          have H' := Aside0.mk H
          clear H
          go_wp2_with (first | ((with_reducible refine gate_callee (f := 27) rfl ?_); refine goesL_ (some 12) rfl rfl Tryd.func27 (by kernel_rfl) rfl #[.int .i64 a0] rfl (by (try simp only [List.map_toArray, List.map_cons, List.map_nil]); first | done | rfl | (simp only [List.length_drop, List.length_take]; rfl)) ?_; (with_reducible refine (record_number.calls a0 true _ A5.out).mono ?_); rintro e w' ⟨rfl, ⟨nd, rfl⟩⟩; refine ⟨_, rfl, ?_⟩) | ((with_reducible refine gate_callee (f := 26) rfl ?_); refine goesL_ (some 19) rfl rfl Tryd.func26 (by kernel_rfl) rfl #[.bool ((l1.length : Int) == 0), .int .i64 1] rfl (by (try simp only [List.map_toArray, List.map_cons, List.map_nil]); first | done | rfl | (simp only [List.length_drop, List.length_take]; rfl)) ?_; (with_reducible refine (record_when.calls ((l1.length : Int) == 0) 1 t172 _ A7.out).mono ?_); rintro e w' ⟨rfl, ⟨nd, rfl⟩⟩; refine ⟨_, rfl, ?_⟩) | ((with_reducible refine gate_callee (f := 26) rfl ?_); refine goesL_ (some 23) rfl rfl Tryd.func26 (by kernel_rfl) rfl #[.bool (decide ((l1.length : Int) > 2)), .int .i64 4] rfl (by (try simp only [List.map_toArray, List.map_cons, List.map_nil]); first | done | rfl | (simp only [List.length_drop, List.length_take]; rfl)) ?_; (with_reducible refine (record_when.calls (decide ((l1.length : Int) > 2)) 4 t173 _ A8.out).mono ?_); rintro e w' ⟨rfl, ⟨nd, rfl⟩⟩; refine ⟨_, rfl, ?_⟩) | ((with_reducible refine gate_callee (f := 28) rfl ?_); refine goesL_ (some 25) rfl rfl Tryd.func28 (by kernel_rfl) rfl #[.slice A1 l1.length c1, .func (.func 29) #[] #[]] rfl (by (try simp only [List.map_toArray, List.map_cons, List.map_nil]); first | done | rfl | (simp only [List.length_drop, List.length_take]; rfl)) ?_; (with_reducible refine (slices_ContainsFunc_api_Val_api_Val_at_record_bad.calls k _ _ l1  false _ ?side1 ?side2 A9.out).mono ?_); (case side1 => repeat (first | exact (Kd.C_below HR1.out (by repeat (first | (with_reducible first | exact HB.out | apply below_alloc | apply pw_below_drewN | apply below_drew1) | exact HB.out))) | (with_reducible refine Kd.C_alloc ?_ _) | (with_reducible refine Kd.C_drewN ?_ _) | (with_reducible refine Kd.C_drew ?_))); (case side2 => exact HC1.out); rintro e w21 ⟨rfl, hb⟩; refine ⟨_, rfl, ?_⟩; have n0_ := Aside0.mk (below_step (by repeat (first | (with_reducible first | exact HB.out | apply below_alloc | apply pw_below_drewN | apply below_drew1) | exact HB.out)) hb); clear HB; have HB := n0_; clear n0_; (try clear hb); (try clear hb2); (try clear hk); (try clear hi)) | (go_at_call 28; (with_reducible refine (slices_ContainsFunc_api_Val_api_Val_at_record_null.calls k _ _ l1  true _ ?side1 ?side2 A17.out).mono ?_); (case side1 => repeat (first | exact (Kd.C_below HR1.out HB.out) | (with_reducible refine Kd.C_alloc ?_ _) | (with_reducible refine Kd.C_drewN ?_ _) | (with_reducible refine Kd.C_drew ?_))); (case side2 => exact HC1.out); rintro e w22 ⟨rfl, hb⟩; have n0_ := Aside0.mk (below_step (by repeat (first | (with_reducible first | exact HB.out | apply below_alloc | apply pw_below_drewN | apply below_drew1) | exact HB.out)) hb); clear HB; have HB := n0_; clear n0_; (try clear hb); (try clear hb2); (try clear hk); (try clear hi)) | ((with_reducible refine gate_callee (f := 26) rfl ?_); refine goesL_ (some 35) rfl rfl Tryd.func26 (by kernel_rfl) rfl #[.bool true, .int .i64 1] rfl (by (try simp only [List.map_toArray, List.map_cons, List.map_nil]); first | done | rfl | (simp only [List.length_drop, List.length_take]; rfl)) ?_; (with_reducible refine (record_when.calls true 1 t181 _ A19.out).mono ?_); rintro e w' ⟨rfl, ⟨nd, rfl⟩⟩; refine ⟨_, rfl, ?_⟩) | ((with_reducible refine gate_dst (N := 36) rfl ?_); (try (refine gate_guard (by rfl) ?_; dsimp only)); refine Kd.R_lit (Kd.int .i64) _ 31 ?hg (N := 36) ?hd (xs := ([t172, t173, t181] : List Int)) (inner := [.int .i64 t172, .int .i64 t173, .int .i64 t181]) (ok := fun _ => True) (okp := fun _ => True) ?hr ?hp (fun _ hk => hk) trivial (Below.refl _ _) (Nat.le_refl _) (by simp) ?_; (case hd => rfl); (case hg => rfl); (case hr => first | (go_simp; done) | (go_simp; rfl)); (case hp => exact (Reps.one (show Kd.M (Kd.int .i64) _ _ _ t172 [.int .i64 t172] from rfl) (Reps.one (show Kd.M (Kd.int .i64) _ _ _ t173 [.int .i64 t173] from rfl) (Reps.one (show Kd.M (Kd.int .i64) _ _ _ t181 [.int .i64 t181] from rfl) (Reps.none _ _))))); intro v183 w23 ho24 hb hg_ hnew_; clear hg_ hnew_; (first | rw [← Ny182.out] at ho24 | (simp only [Int.reduceToNat] at ho24; rw [← Ny182.out] at ho24)); have n0_ := Aside0.mk (Kd.R_lower ho24 (below_size (by repeat (first | (with_reducible first | exact HB.out | apply below_alloc | apply pw_below_drewN | apply below_drew1) | exact HB.out)))); have n1_ := Aside0.mk (below_step (by repeat (first | (with_reducible first | exact HB.out | apply below_alloc | apply pw_below_drewN | apply below_drew1) | exact HB.out)) hb); clear HB; have HO184 := n0_; have HB := n1_; clear n0_ n1_; clear hb ho24; obtain ⟨Ao25, co25, eo25⟩ := Kd.R_slice HO184.out; subst eo25) | ((with_reducible refine gate_callee (f := 24) rfl ?_); refine goesL_ (some 37) rfl rfl Tryd.func24 (by kernel_rfl) rfl #[.slice Ao25 y182.length co25] rfl (by (try simp only [List.map_toArray, List.map_cons, List.map_nil]); first | done | rfl | (simp only [List.length_drop, List.length_take]; rfl)) ?_; (with_reducible refine (record_first.calls k _ _ y182 t185 _ ?side1 ?side2 A20.out).mono ?_); (case side1 => repeat (first | exact (Kd.R_reads' HO184.out).2.2 | (with_reducible refine Kd.C_alloc ?_ _) | (with_reducible refine Kd.C_drewN ?_ _) | (with_reducible refine Kd.C_drew ?_))); (case side2 => exact (Kd.R_reads' HO184.out).2.1); rintro e w' ⟨rfl, ⟨nd, rfl⟩⟩; refine ⟨_, rfl, ?_⟩))
          go_meet
          case rel => exact ⟨_, (t185), (by first | rfl | (simp; done) | (simp [*]; done) | (simp [ne_nil_bytes]; done) | (simp [eq_nil_bytes]; done)), H', ⟨by first | omega | exact Nat.le_refl _⟩, ⟨by repeat (first | (with_reducible first | exact HB.out | apply below_alloc | apply pw_below_drewN | apply below_drew1) | exact HB.out)⟩⟩
        · replace c18 := Bool.eq_false_iff.mpr c18
          subst c18
          have H1 : ((record_Key.f a2).bind fun t186 => ((record_when.f (!t186) 1).bind fun t187 => ((record_first.f k (([t172, t173, t187] : List Int))).bind fun t191 => (record_Entry.j0 k a0 l1 a2 t191)))) = some (r1, r2) := by rw [if_neg (show ¬ (false = true) by decide)] at H; exact H
          clear H
          have H := H1
          clear H1
          replace H := Option.bind_eq_some_iff.mp H
          obtain ⟨t186, A260, H⟩ := H
          replace H : ((record_when.f (!t186) 1).bind fun t187 => ((record_first.f k (([t172, t173, t187] : List Int))).bind fun t191 => (record_Entry.j0 k a0 l1 a2 t191))) = some (r1, r2) := H
          have A26 := Aside0.mk A260
          clear A260
          replace H := Option.bind_eq_some_iff.mp H
          obtain ⟨t187, A270, H⟩ := H
          replace H : ((record_first.f k (([t172, t173, t187] : List Int))).bind fun t191 => (record_Entry.j0 k a0 l1 a2 t191)) = some (r1, r2) := H
          have A27 := Aside0.mk A270
          clear A270
          obtain ⟨y188, hy188⟩ : ∃ y_ : List Int, y_ = (([t172, t173, t187] : List Int)) := ⟨_, rfl⟩
          replace H : ((record_first.f k y188).bind fun t191 => (record_Entry.j0 k a0 l1 a2 t191)) = some (r1, r2) := by first | (rw [hy188]; with_reducible exact H) | (have H2_ := (Option.bind_some _ _).symm.trans H; rw [hy188]; with_reducible exact H2_) | (have H2_ := (Option.bind_some _ _).symm.trans H; with_reducible exact H2_) | with_reducible exact H | (rw [hy188]; exact H) | exact H
          have Ny188 := Aside0.mk hy188
          clear hy188
          replace H := Option.bind_eq_some_iff.mp H
          obtain ⟨t191, A280, H⟩ := H
          replace H : (record_Entry.j0 k a0 l1 a2 t191) = some (r1, r2) := H
          have A28 := Aside0.mk A280
          clear A280
          have H' := Aside0.mk H
          clear H
          go_wp2_with (first | ((with_reducible refine gate_callee (f := 27) rfl ?_); refine goesL_ (some 12) rfl rfl Tryd.func27 (by kernel_rfl) rfl #[.int .i64 a0] rfl (by (try simp only [List.map_toArray, List.map_cons, List.map_nil]); first | done | rfl | (simp only [List.length_drop, List.length_take]; rfl)) ?_; (with_reducible refine (record_number.calls a0 true _ A5.out).mono ?_); rintro e w' ⟨rfl, ⟨nd, rfl⟩⟩; refine ⟨_, rfl, ?_⟩) | ((with_reducible refine gate_callee (f := 26) rfl ?_); refine goesL_ (some 19) rfl rfl Tryd.func26 (by kernel_rfl) rfl #[.bool ((l1.length : Int) == 0), .int .i64 1] rfl (by (try simp only [List.map_toArray, List.map_cons, List.map_nil]); first | done | rfl | (simp only [List.length_drop, List.length_take]; rfl)) ?_; (with_reducible refine (record_when.calls ((l1.length : Int) == 0) 1 t172 _ A7.out).mono ?_); rintro e w' ⟨rfl, ⟨nd, rfl⟩⟩; refine ⟨_, rfl, ?_⟩) | ((with_reducible refine gate_callee (f := 26) rfl ?_); refine goesL_ (some 23) rfl rfl Tryd.func26 (by kernel_rfl) rfl #[.bool (decide ((l1.length : Int) > 2)), .int .i64 4] rfl (by (try simp only [List.map_toArray, List.map_cons, List.map_nil]); first | done | rfl | (simp only [List.length_drop, List.length_take]; rfl)) ?_; (with_reducible refine (record_when.calls (decide ((l1.length : Int) > 2)) 4 t173 _ A8.out).mono ?_); rintro e w' ⟨rfl, ⟨nd, rfl⟩⟩; refine ⟨_, rfl, ?_⟩) | ((with_reducible refine gate_callee (f := 28) rfl ?_); refine goesL_ (some 25) rfl rfl Tryd.func28 (by kernel_rfl) rfl #[.slice A1 l1.length c1, .func (.func 29) #[] #[]] rfl (by (try simp only [List.map_toArray, List.map_cons, List.map_nil]); first | done | rfl | (simp only [List.length_drop, List.length_take]; rfl)) ?_; (with_reducible refine (slices_ContainsFunc_api_Val_api_Val_at_record_bad.calls k _ _ l1  false _ ?side1 ?side2 A9.out).mono ?_); (case side1 => repeat (first | exact (Kd.C_below HR1.out (by repeat (first | (with_reducible first | exact HB.out | apply below_alloc | apply pw_below_drewN | apply below_drew1) | exact HB.out))) | (with_reducible refine Kd.C_alloc ?_ _) | (with_reducible refine Kd.C_drewN ?_ _) | (with_reducible refine Kd.C_drew ?_))); (case side2 => exact HC1.out); rintro e w29 ⟨rfl, hb⟩; refine ⟨_, rfl, ?_⟩; have n0_ := Aside0.mk (below_step (by repeat (first | (with_reducible first | exact HB.out | apply below_alloc | apply pw_below_drewN | apply below_drew1) | exact HB.out)) hb); clear HB; have HB := n0_; clear n0_; (try clear hb); (try clear hb2); (try clear hk); (try clear hi)) | (go_at_call 28; (with_reducible refine (slices_ContainsFunc_api_Val_api_Val_at_record_null.calls k _ _ l1  false _ ?side1 ?side2 A17.out).mono ?_); (case side1 => repeat (first | exact (Kd.C_below HR1.out HB.out) | (with_reducible refine Kd.C_alloc ?_ _) | (with_reducible refine Kd.C_drewN ?_ _) | (with_reducible refine Kd.C_drew ?_))); (case side2 => exact HC1.out); rintro e w30 ⟨rfl, hb⟩; have n0_ := Aside0.mk (below_step (by repeat (first | (with_reducible first | exact HB.out | apply below_alloc | apply pw_below_drewN | apply below_drew1) | exact HB.out)) hb); clear HB; have HB := n0_; clear n0_; (try clear hb); (try clear hb2); (try clear hk); (try clear hi)) | (go_at_call 31; (with_reducible refine (record_Key.calls a2 t186 _ A26.out).mono ?_); rintro e w' ⟨rfl, ⟨nd, rfl⟩⟩) | ((with_reducible refine gate_callee (f := 26) rfl ?_); refine goesL_ (some 35) rfl rfl Tryd.func26 (by kernel_rfl) rfl #[.bool (!t186), .int .i64 1] rfl (by (try simp only [List.map_toArray, List.map_cons, List.map_nil]); first | done | rfl | (simp only [List.length_drop, List.length_take]; rfl)) ?_; (with_reducible refine (record_when.calls (!t186) 1 t187 _ A27.out).mono ?_); rintro e w' ⟨rfl, ⟨nd, rfl⟩⟩; refine ⟨_, rfl, ?_⟩) | ((with_reducible refine gate_dst (N := 36) rfl ?_); (try (refine gate_guard (by rfl) ?_; dsimp only)); refine Kd.R_lit (Kd.int .i64) _ 31 ?hg (N := 36) ?hd (xs := ([t172, t173, t187] : List Int)) (inner := [.int .i64 t172, .int .i64 t173, .int .i64 t187]) (ok := fun _ => True) (okp := fun _ => True) ?hr ?hp (fun _ hk => hk) trivial (Below.refl _ _) (Nat.le_refl _) (by simp) ?_; (case hd => rfl); (case hg => rfl); (case hr => first | (go_simp; done) | (go_simp; rfl)); (case hp => exact (Reps.one (show Kd.M (Kd.int .i64) _ _ _ t172 [.int .i64 t172] from rfl) (Reps.one (show Kd.M (Kd.int .i64) _ _ _ t173 [.int .i64 t173] from rfl) (Reps.one (show Kd.M (Kd.int .i64) _ _ _ t187 [.int .i64 t187] from rfl) (Reps.none _ _))))); intro v189 w31 ho32 hb hg_ hnew_; clear hg_ hnew_; (first | rw [← Ny188.out] at ho32 | (simp only [Int.reduceToNat] at ho32; rw [← Ny188.out] at ho32)); have n0_ := Aside0.mk (Kd.R_lower ho32 (below_size (by repeat (first | (with_reducible first | exact HB.out | apply below_alloc | apply pw_below_drewN | apply below_drew1) | exact HB.out)))); have n1_ := Aside0.mk (below_step (by repeat (first | (with_reducible first | exact HB.out | apply below_alloc | apply pw_below_drewN | apply below_drew1) | exact HB.out)) hb); clear HB; have HO190 := n0_; have HB := n1_; clear n0_ n1_; clear hb ho32; obtain ⟨Ao33, co33, eo33⟩ := Kd.R_slice HO190.out; subst eo33) | ((with_reducible refine gate_callee (f := 24) rfl ?_); refine goesL_ (some 37) rfl rfl Tryd.func24 (by kernel_rfl) rfl #[.slice Ao33 y188.length co33] rfl (by (try simp only [List.map_toArray, List.map_cons, List.map_nil]); first | done | rfl | (simp only [List.length_drop, List.length_take]; rfl)) ?_; (with_reducible refine (record_first.calls k _ _ y188 t191 _ ?side1 ?side2 A28.out).mono ?_); (case side1 => repeat (first | exact (Kd.R_reads' HO190.out).2.2 | (with_reducible refine Kd.C_alloc ?_ _) | (with_reducible refine Kd.C_drewN ?_ _) | (with_reducible refine Kd.C_drew ?_))); (case side2 => exact (Kd.R_reads' HO190.out).2.1); rintro e w' ⟨rfl, ⟨nd, rfl⟩⟩; refine ⟨_, rfl, ?_⟩))
          go_meet
          case rel => exact ⟨_, (t191), (by first | rfl | (simp; done) | (simp [*]; done) | (simp [ne_nil_bytes]; done) | (simp [eq_nil_bytes]; done)), H', ⟨by first | omega | exact Nat.le_refl _⟩, ⟨by repeat (first | (with_reducible first | exact HB.out | apply below_alloc | apply pw_below_drewN | apply below_drew1) | exact HB.out)⟩⟩
    · replace c6 := Bool.eq_false_iff.mpr c6
      subst c6
      have H1 : ((record_when.f true 1).bind fun t192 => ((record_when.f (decide ((l1.length : Int) > 2)) 4).bind fun t193 => ((slices_ContainsFunc_api_Val_api_Val_at_record_bad.f k l1).bind fun t194 => (if t194 = true then ((record_when.f true 1).bind fun t195 => ((record_first.f k (([t192, t193, t195] : List Int))).bind fun t199 => (record_Entry.j0 k a0 l1 a2 t199))) else ((slices_ContainsFunc_api_Val_api_Val_at_record_null.f k l1).bind fun t200 => (if t200 = true then ((record_when.f true 1).bind fun t201 => ((record_first.f k (([t192, t193, t201] : List Int))).bind fun t205 => (record_Entry.j0 k a0 l1 a2 t205))) else ((record_Key.f a2).bind fun t206 => ((record_when.f (!t206) 1).bind fun t207 => ((record_first.f k (([t192, t193, t207] : List Int))).bind fun t211 => (record_Entry.j0 k a0 l1 a2 t211)))))))))) = some (r1, r2) := by rw [if_neg (show ¬ (false = true) by decide)] at H; exact H
      clear H
      have H := H1
      clear H1
      replace H := Option.bind_eq_some_iff.mp H
      obtain ⟨t192, A340, H⟩ := H
      replace H : ((record_when.f (decide ((l1.length : Int) > 2)) 4).bind fun t193 => ((slices_ContainsFunc_api_Val_api_Val_at_record_bad.f k l1).bind fun t194 => (if t194 = true then ((record_when.f true 1).bind fun t195 => ((record_first.f k (([t192, t193, t195] : List Int))).bind fun t199 => (record_Entry.j0 k a0 l1 a2 t199))) else ((slices_ContainsFunc_api_Val_api_Val_at_record_null.f k l1).bind fun t200 => (if t200 = true then ((record_when.f true 1).bind fun t201 => ((record_first.f k (([t192, t193, t201] : List Int))).bind fun t205 => (record_Entry.j0 k a0 l1 a2 t205))) else ((record_Key.f a2).bind fun t206 => ((record_when.f (!t206) 1).bind fun t207 => ((record_first.f k (([t192, t193, t207] : List Int))).bind fun t211 => (record_Entry.j0 k a0 l1 a2 t211))))))))) = some (r1, r2) := H
      have A34 := Aside0.mk A340
      clear A340
      replace H := Option.bind_eq_some_iff.mp H
      obtain ⟨t193, A350, H⟩ := H
      replace H : ((slices_ContainsFunc_api_Val_api_Val_at_record_bad.f k l1).bind fun t194 => (if t194 = true then ((record_when.f true 1).bind fun t195 => ((record_first.f k (([t192, t193, t195] : List Int))).bind fun t199 => (record_Entry.j0 k a0 l1 a2 t199))) else ((slices_ContainsFunc_api_Val_api_Val_at_record_null.f k l1).bind fun t200 => (if t200 = true then ((record_when.f true 1).bind fun t201 => ((record_first.f k (([t192, t193, t201] : List Int))).bind fun t205 => (record_Entry.j0 k a0 l1 a2 t205))) else ((record_Key.f a2).bind fun t206 => ((record_when.f (!t206) 1).bind fun t207 => ((record_first.f k (([t192, t193, t207] : List Int))).bind fun t211 => (record_Entry.j0 k a0 l1 a2 t211)))))))) = some (r1, r2) := H
      have A35 := Aside0.mk A350
      clear A350
      replace H := Option.bind_eq_some_iff.mp H
      obtain ⟨t194, A360, H⟩ := H
      replace H : (if t194 = true then ((record_when.f true 1).bind fun t195 => ((record_first.f k (([t192, t193, t195] : List Int))).bind fun t199 => (record_Entry.j0 k a0 l1 a2 t199))) else ((slices_ContainsFunc_api_Val_api_Val_at_record_null.f k l1).bind fun t200 => (if t200 = true then ((record_when.f true 1).bind fun t201 => ((record_first.f k (([t192, t193, t201] : List Int))).bind fun t205 => (record_Entry.j0 k a0 l1 a2 t205))) else ((record_Key.f a2).bind fun t206 => ((record_when.f (!t206) 1).bind fun t207 => ((record_first.f k (([t192, t193, t207] : List Int))).bind fun t211 => (record_Entry.j0 k a0 l1 a2 t211))))))) = some (r1, r2) := H
      have A36 := Aside0.mk A360
      clear A360
      by_cases c37 : t194 = true
      · subst c37
        have H1 : ((record_when.f true 1).bind fun t195 => ((record_first.f k (([t192, t193, t195] : List Int))).bind fun t199 => (record_Entry.j0 k a0 l1 a2 t199))) = some (r1, r2) := by rw [if_pos rfl] at H; exact H
        clear H
        have H := H1
        clear H1
        replace H := Option.bind_eq_some_iff.mp H
        obtain ⟨t195, A380, H⟩ := H
        replace H : ((record_first.f k (([t192, t193, t195] : List Int))).bind fun t199 => (record_Entry.j0 k a0 l1 a2 t199)) = some (r1, r2) := H
        have A38 := Aside0.mk A380
        clear A380
        obtain ⟨y196, hy196⟩ : ∃ y_ : List Int, y_ = (([t192, t193, t195] : List Int)) := ⟨_, rfl⟩
        replace H : ((record_first.f k y196).bind fun t199 => (record_Entry.j0 k a0 l1 a2 t199)) = some (r1, r2) := by first | (rw [hy196]; with_reducible exact H) | (have H2_ := (Option.bind_some _ _).symm.trans H; rw [hy196]; with_reducible exact H2_) | (have H2_ := (Option.bind_some _ _).symm.trans H; with_reducible exact H2_) | with_reducible exact H | (rw [hy196]; exact H) | exact H
        have Ny196 := Aside0.mk hy196
        clear hy196
        replace H := Option.bind_eq_some_iff.mp H
        obtain ⟨t199, A390, H⟩ := H
        replace H : (record_Entry.j0 k a0 l1 a2 t199) = some (r1, r2) := H
        have A39 := Aside0.mk A390
        clear A390
        have H' := Aside0.mk H
        clear H
        go_wp2_with (first | ((with_reducible refine gate_callee (f := 27) rfl ?_); refine goesL_ (some 12) rfl rfl Tryd.func27 (by kernel_rfl) rfl #[.int .i64 a0] rfl (by (try simp only [List.map_toArray, List.map_cons, List.map_nil]); first | done | rfl | (simp only [List.length_drop, List.length_take]; rfl)) ?_; (with_reducible refine (record_number.calls a0 false _ A5.out).mono ?_); rintro e w' ⟨rfl, ⟨nd, rfl⟩⟩; refine ⟨_, rfl, ?_⟩) | ((with_reducible refine gate_callee (f := 26) rfl ?_); refine goesL_ (some 19) rfl rfl Tryd.func26 (by kernel_rfl) rfl #[.bool true, .int .i64 1] rfl (by (try simp only [List.map_toArray, List.map_cons, List.map_nil]); first | done | rfl | (simp only [List.length_drop, List.length_take]; rfl)) ?_; (with_reducible refine (record_when.calls true 1 t192 _ A34.out).mono ?_); rintro e w' ⟨rfl, ⟨nd, rfl⟩⟩; refine ⟨_, rfl, ?_⟩) | ((with_reducible refine gate_callee (f := 26) rfl ?_); refine goesL_ (some 23) rfl rfl Tryd.func26 (by kernel_rfl) rfl #[.bool (decide ((l1.length : Int) > 2)), .int .i64 4] rfl (by (try simp only [List.map_toArray, List.map_cons, List.map_nil]); first | done | rfl | (simp only [List.length_drop, List.length_take]; rfl)) ?_; (with_reducible refine (record_when.calls (decide ((l1.length : Int) > 2)) 4 t193 _ A35.out).mono ?_); rintro e w' ⟨rfl, ⟨nd, rfl⟩⟩; refine ⟨_, rfl, ?_⟩) | ((with_reducible refine gate_callee (f := 28) rfl ?_); refine goesL_ (some 25) rfl rfl Tryd.func28 (by kernel_rfl) rfl #[.slice A1 l1.length c1, .func (.func 29) #[] #[]] rfl (by (try simp only [List.map_toArray, List.map_cons, List.map_nil]); first | done | rfl | (simp only [List.length_drop, List.length_take]; rfl)) ?_; (with_reducible refine (slices_ContainsFunc_api_Val_api_Val_at_record_bad.calls k _ _ l1  true _ ?side1 ?side2 A36.out).mono ?_); (case side1 => repeat (first | exact (Kd.C_below HR1.out (by repeat (first | (with_reducible first | exact HB.out | apply below_alloc | apply pw_below_drewN | apply below_drew1) | exact HB.out))) | (with_reducible refine Kd.C_alloc ?_ _) | (with_reducible refine Kd.C_drewN ?_ _) | (with_reducible refine Kd.C_drew ?_))); (case side2 => exact HC1.out); rintro e w40 ⟨rfl, hb⟩; refine ⟨_, rfl, ?_⟩; have n0_ := Aside0.mk (below_step (by repeat (first | (with_reducible first | exact HB.out | apply below_alloc | apply pw_below_drewN | apply below_drew1) | exact HB.out)) hb); clear HB; have HB := n0_; clear n0_; (try clear hb); (try clear hb2); (try clear hk); (try clear hi)) | ((with_reducible refine gate_callee (f := 26) rfl ?_); refine goesL_ (some 35) rfl rfl Tryd.func26 (by kernel_rfl) rfl #[.bool true, .int .i64 1] rfl (by (try simp only [List.map_toArray, List.map_cons, List.map_nil]); first | done | rfl | (simp only [List.length_drop, List.length_take]; rfl)) ?_; (with_reducible refine (record_when.calls true 1 t195 _ A38.out).mono ?_); rintro e w' ⟨rfl, ⟨nd, rfl⟩⟩; refine ⟨_, rfl, ?_⟩) | ((with_reducible refine gate_dst (N := 36) rfl ?_); (try (refine gate_guard (by rfl) ?_; dsimp only)); refine Kd.R_lit (Kd.int .i64) _ 31 ?hg (N := 36) ?hd (xs := ([t192, t193, t195] : List Int)) (inner := [.int .i64 t192, .int .i64 t193, .int .i64 t195]) (ok := fun _ => True) (okp := fun _ => True) ?hr ?hp (fun _ hk => hk) trivial (Below.refl _ _) (Nat.le_refl _) (by simp) ?_; (case hd => rfl); (case hg => rfl); (case hr => first | (go_simp; done) | (go_simp; rfl)); (case hp => exact (Reps.one (show Kd.M (Kd.int .i64) _ _ _ t192 [.int .i64 t192] from rfl) (Reps.one (show Kd.M (Kd.int .i64) _ _ _ t193 [.int .i64 t193] from rfl) (Reps.one (show Kd.M (Kd.int .i64) _ _ _ t195 [.int .i64 t195] from rfl) (Reps.none _ _))))); intro v197 w41 ho42 hb hg_ hnew_; clear hg_ hnew_; (first | rw [← Ny196.out] at ho42 | (simp only [Int.reduceToNat] at ho42; rw [← Ny196.out] at ho42)); have n0_ := Aside0.mk (Kd.R_lower ho42 (below_size (by repeat (first | (with_reducible first | exact HB.out | apply below_alloc | apply pw_below_drewN | apply below_drew1) | exact HB.out)))); have n1_ := Aside0.mk (below_step (by repeat (first | (with_reducible first | exact HB.out | apply below_alloc | apply pw_below_drewN | apply below_drew1) | exact HB.out)) hb); clear HB; have HO198 := n0_; have HB := n1_; clear n0_ n1_; clear hb ho42; obtain ⟨Ao43, co43, eo43⟩ := Kd.R_slice HO198.out; subst eo43) | ((with_reducible refine gate_callee (f := 24) rfl ?_); refine goesL_ (some 37) rfl rfl Tryd.func24 (by kernel_rfl) rfl #[.slice Ao43 y196.length co43] rfl (by (try simp only [List.map_toArray, List.map_cons, List.map_nil]); first | done | rfl | (simp only [List.length_drop, List.length_take]; rfl)) ?_; (with_reducible refine (record_first.calls k _ _ y196 t199 _ ?side1 ?side2 A39.out).mono ?_); (case side1 => repeat (first | exact (Kd.R_reads' HO198.out).2.2 | (with_reducible refine Kd.C_alloc ?_ _) | (with_reducible refine Kd.C_drewN ?_ _) | (with_reducible refine Kd.C_drew ?_))); (case side2 => exact (Kd.R_reads' HO198.out).2.1); rintro e w' ⟨rfl, ⟨nd, rfl⟩⟩; refine ⟨_, rfl, ?_⟩))
        go_meet
        case rel => exact ⟨_, (t199), (by first | rfl | (simp; done) | (simp [*]; done) | (simp [ne_nil_bytes]; done) | (simp [eq_nil_bytes]; done)), H', ⟨by first | omega | exact Nat.le_refl _⟩, ⟨by repeat (first | (with_reducible first | exact HB.out | apply below_alloc | apply pw_below_drewN | apply below_drew1) | exact HB.out)⟩⟩
      · replace c37 := Bool.eq_false_iff.mpr c37
        subst c37
        have H1 : ((slices_ContainsFunc_api_Val_api_Val_at_record_null.f k l1).bind fun t200 => (if t200 = true then ((record_when.f true 1).bind fun t201 => ((record_first.f k (([t192, t193, t201] : List Int))).bind fun t205 => (record_Entry.j0 k a0 l1 a2 t205))) else ((record_Key.f a2).bind fun t206 => ((record_when.f (!t206) 1).bind fun t207 => ((record_first.f k (([t192, t193, t207] : List Int))).bind fun t211 => (record_Entry.j0 k a0 l1 a2 t211)))))) = some (r1, r2) := by rw [if_neg (show ¬ (false = true) by decide)] at H; exact H
        clear H
        have H := H1
        clear H1
        replace H := Option.bind_eq_some_iff.mp H
        obtain ⟨t200, A440, H⟩ := H
        replace H : (if t200 = true then ((record_when.f true 1).bind fun t201 => ((record_first.f k (([t192, t193, t201] : List Int))).bind fun t205 => (record_Entry.j0 k a0 l1 a2 t205))) else ((record_Key.f a2).bind fun t206 => ((record_when.f (!t206) 1).bind fun t207 => ((record_first.f k (([t192, t193, t207] : List Int))).bind fun t211 => (record_Entry.j0 k a0 l1 a2 t211))))) = some (r1, r2) := H
        have A44 := Aside0.mk A440
        clear A440
        by_cases c45 : t200 = true
        · subst c45
          have H1 : ((record_when.f true 1).bind fun t201 => ((record_first.f k (([t192, t193, t201] : List Int))).bind fun t205 => (record_Entry.j0 k a0 l1 a2 t205))) = some (r1, r2) := by rw [if_pos rfl] at H; exact H
          clear H
          have H := H1
          clear H1
          replace H := Option.bind_eq_some_iff.mp H
          obtain ⟨t201, A460, H⟩ := H
          replace H : ((record_first.f k (([t192, t193, t201] : List Int))).bind fun t205 => (record_Entry.j0 k a0 l1 a2 t205)) = some (r1, r2) := H
          have A46 := Aside0.mk A460
          clear A460
          obtain ⟨y202, hy202⟩ : ∃ y_ : List Int, y_ = (([t192, t193, t201] : List Int)) := ⟨_, rfl⟩
          replace H : ((record_first.f k y202).bind fun t205 => (record_Entry.j0 k a0 l1 a2 t205)) = some (r1, r2) := by first | (rw [hy202]; with_reducible exact H) | (have H2_ := (Option.bind_some _ _).symm.trans H; rw [hy202]; with_reducible exact H2_) | (have H2_ := (Option.bind_some _ _).symm.trans H; with_reducible exact H2_) | with_reducible exact H | (rw [hy202]; exact H) | exact H
          have Ny202 := Aside0.mk hy202
          clear hy202
          replace H := Option.bind_eq_some_iff.mp H
          obtain ⟨t205, A470, H⟩ := H
          replace H : (record_Entry.j0 k a0 l1 a2 t205) = some (r1, r2) := H
          have A47 := Aside0.mk A470
          clear A470
          have H' := Aside0.mk H
          clear H
          go_wp2_with (first | ((with_reducible refine gate_callee (f := 27) rfl ?_); refine goesL_ (some 12) rfl rfl Tryd.func27 (by kernel_rfl) rfl #[.int .i64 a0] rfl (by (try simp only [List.map_toArray, List.map_cons, List.map_nil]); first | done | rfl | (simp only [List.length_drop, List.length_take]; rfl)) ?_; (with_reducible refine (record_number.calls a0 false _ A5.out).mono ?_); rintro e w' ⟨rfl, ⟨nd, rfl⟩⟩; refine ⟨_, rfl, ?_⟩) | ((with_reducible refine gate_callee (f := 26) rfl ?_); refine goesL_ (some 19) rfl rfl Tryd.func26 (by kernel_rfl) rfl #[.bool true, .int .i64 1] rfl (by (try simp only [List.map_toArray, List.map_cons, List.map_nil]); first | done | rfl | (simp only [List.length_drop, List.length_take]; rfl)) ?_; (with_reducible refine (record_when.calls true 1 t192 _ A34.out).mono ?_); rintro e w' ⟨rfl, ⟨nd, rfl⟩⟩; refine ⟨_, rfl, ?_⟩) | ((with_reducible refine gate_callee (f := 26) rfl ?_); refine goesL_ (some 23) rfl rfl Tryd.func26 (by kernel_rfl) rfl #[.bool (decide ((l1.length : Int) > 2)), .int .i64 4] rfl (by (try simp only [List.map_toArray, List.map_cons, List.map_nil]); first | done | rfl | (simp only [List.length_drop, List.length_take]; rfl)) ?_; (with_reducible refine (record_when.calls (decide ((l1.length : Int) > 2)) 4 t193 _ A35.out).mono ?_); rintro e w' ⟨rfl, ⟨nd, rfl⟩⟩; refine ⟨_, rfl, ?_⟩) | ((with_reducible refine gate_callee (f := 28) rfl ?_); refine goesL_ (some 25) rfl rfl Tryd.func28 (by kernel_rfl) rfl #[.slice A1 l1.length c1, .func (.func 29) #[] #[]] rfl (by (try simp only [List.map_toArray, List.map_cons, List.map_nil]); first | done | rfl | (simp only [List.length_drop, List.length_take]; rfl)) ?_; (with_reducible refine (slices_ContainsFunc_api_Val_api_Val_at_record_bad.calls k _ _ l1  false _ ?side1 ?side2 A36.out).mono ?_); (case side1 => repeat (first | exact (Kd.C_below HR1.out (by repeat (first | (with_reducible first | exact HB.out | apply below_alloc | apply pw_below_drewN | apply below_drew1) | exact HB.out))) | (with_reducible refine Kd.C_alloc ?_ _) | (with_reducible refine Kd.C_drewN ?_ _) | (with_reducible refine Kd.C_drew ?_))); (case side2 => exact HC1.out); rintro e w48 ⟨rfl, hb⟩; refine ⟨_, rfl, ?_⟩; have n0_ := Aside0.mk (below_step (by repeat (first | (with_reducible first | exact HB.out | apply below_alloc | apply pw_below_drewN | apply below_drew1) | exact HB.out)) hb); clear HB; have HB := n0_; clear n0_; (try clear hb); (try clear hb2); (try clear hk); (try clear hi)) | (go_at_call 28; (with_reducible refine (slices_ContainsFunc_api_Val_api_Val_at_record_null.calls k _ _ l1  true _ ?side1 ?side2 A44.out).mono ?_); (case side1 => repeat (first | exact (Kd.C_below HR1.out HB.out) | (with_reducible refine Kd.C_alloc ?_ _) | (with_reducible refine Kd.C_drewN ?_ _) | (with_reducible refine Kd.C_drew ?_))); (case side2 => exact HC1.out); rintro e w49 ⟨rfl, hb⟩; have n0_ := Aside0.mk (below_step (by repeat (first | (with_reducible first | exact HB.out | apply below_alloc | apply pw_below_drewN | apply below_drew1) | exact HB.out)) hb); clear HB; have HB := n0_; clear n0_; (try clear hb); (try clear hb2); (try clear hk); (try clear hi)) | ((with_reducible refine gate_callee (f := 26) rfl ?_); refine goesL_ (some 35) rfl rfl Tryd.func26 (by kernel_rfl) rfl #[.bool true, .int .i64 1] rfl (by (try simp only [List.map_toArray, List.map_cons, List.map_nil]); first | done | rfl | (simp only [List.length_drop, List.length_take]; rfl)) ?_; (with_reducible refine (record_when.calls true 1 t201 _ A46.out).mono ?_); rintro e w' ⟨rfl, ⟨nd, rfl⟩⟩; refine ⟨_, rfl, ?_⟩) | ((with_reducible refine gate_dst (N := 36) rfl ?_); (try (refine gate_guard (by rfl) ?_; dsimp only)); refine Kd.R_lit (Kd.int .i64) _ 31 ?hg (N := 36) ?hd (xs := ([t192, t193, t201] : List Int)) (inner := [.int .i64 t192, .int .i64 t193, .int .i64 t201]) (ok := fun _ => True) (okp := fun _ => True) ?hr ?hp (fun _ hk => hk) trivial (Below.refl _ _) (Nat.le_refl _) (by simp) ?_; (case hd => rfl); (case hg => rfl); (case hr => first | (go_simp; done) | (go_simp; rfl)); (case hp => exact (Reps.one (show Kd.M (Kd.int .i64) _ _ _ t192 [.int .i64 t192] from rfl) (Reps.one (show Kd.M (Kd.int .i64) _ _ _ t193 [.int .i64 t193] from rfl) (Reps.one (show Kd.M (Kd.int .i64) _ _ _ t201 [.int .i64 t201] from rfl) (Reps.none _ _))))); intro v203 w50 ho51 hb hg_ hnew_; clear hg_ hnew_; (first | rw [← Ny202.out] at ho51 | (simp only [Int.reduceToNat] at ho51; rw [← Ny202.out] at ho51)); have n0_ := Aside0.mk (Kd.R_lower ho51 (below_size (by repeat (first | (with_reducible first | exact HB.out | apply below_alloc | apply pw_below_drewN | apply below_drew1) | exact HB.out)))); have n1_ := Aside0.mk (below_step (by repeat (first | (with_reducible first | exact HB.out | apply below_alloc | apply pw_below_drewN | apply below_drew1) | exact HB.out)) hb); clear HB; have HO204 := n0_; have HB := n1_; clear n0_ n1_; clear hb ho51; obtain ⟨Ao52, co52, eo52⟩ := Kd.R_slice HO204.out; subst eo52) | ((with_reducible refine gate_callee (f := 24) rfl ?_); refine goesL_ (some 37) rfl rfl Tryd.func24 (by kernel_rfl) rfl #[.slice Ao52 y202.length co52] rfl (by (try simp only [List.map_toArray, List.map_cons, List.map_nil]); first | done | rfl | (simp only [List.length_drop, List.length_take]; rfl)) ?_; (with_reducible refine (record_first.calls k _ _ y202 t205 _ ?side1 ?side2 A47.out).mono ?_); (case side1 => repeat (first | exact (Kd.R_reads' HO204.out).2.2 | (with_reducible refine Kd.C_alloc ?_ _) | (with_reducible refine Kd.C_drewN ?_ _) | (with_reducible refine Kd.C_drew ?_))); (case side2 => exact (Kd.R_reads' HO204.out).2.1); rintro e w' ⟨rfl, ⟨nd, rfl⟩⟩; refine ⟨_, rfl, ?_⟩))
          go_meet
          case rel => exact ⟨_, (t205), (by first | rfl | (simp; done) | (simp [*]; done) | (simp [ne_nil_bytes]; done) | (simp [eq_nil_bytes]; done)), H', ⟨by first | omega | exact Nat.le_refl _⟩, ⟨by repeat (first | (with_reducible first | exact HB.out | apply below_alloc | apply pw_below_drewN | apply below_drew1) | exact HB.out)⟩⟩
        · replace c45 := Bool.eq_false_iff.mpr c45
          subst c45
          have H1 : ((record_Key.f a2).bind fun t206 => ((record_when.f (!t206) 1).bind fun t207 => ((record_first.f k (([t192, t193, t207] : List Int))).bind fun t211 => (record_Entry.j0 k a0 l1 a2 t211)))) = some (r1, r2) := by rw [if_neg (show ¬ (false = true) by decide)] at H; exact H
          clear H
          have H := H1
          clear H1
          replace H := Option.bind_eq_some_iff.mp H
          obtain ⟨t206, A530, H⟩ := H
          replace H : ((record_when.f (!t206) 1).bind fun t207 => ((record_first.f k (([t192, t193, t207] : List Int))).bind fun t211 => (record_Entry.j0 k a0 l1 a2 t211))) = some (r1, r2) := H
          have A53 := Aside0.mk A530
          clear A530
          replace H := Option.bind_eq_some_iff.mp H
          obtain ⟨t207, A540, H⟩ := H
          replace H : ((record_first.f k (([t192, t193, t207] : List Int))).bind fun t211 => (record_Entry.j0 k a0 l1 a2 t211)) = some (r1, r2) := H
          have A54 := Aside0.mk A540
          clear A540
          obtain ⟨y208, hy208⟩ : ∃ y_ : List Int, y_ = (([t192, t193, t207] : List Int)) := ⟨_, rfl⟩
          replace H : ((record_first.f k y208).bind fun t211 => (record_Entry.j0 k a0 l1 a2 t211)) = some (r1, r2) := by first | (rw [hy208]; with_reducible exact H) | (have H2_ := (Option.bind_some _ _).symm.trans H; rw [hy208]; with_reducible exact H2_) | (have H2_ := (Option.bind_some _ _).symm.trans H; with_reducible exact H2_) | with_reducible exact H | (rw [hy208]; exact H) | exact H
          have Ny208 := Aside0.mk hy208
          clear hy208
          replace H := Option.bind_eq_some_iff.mp H
          obtain ⟨t211, A550, H⟩ := H
          replace H : (record_Entry.j0 k a0 l1 a2 t211) = some (r1, r2) := H
          have A55 := Aside0.mk A550
          clear A550
          have H' := Aside0.mk H
          clear H
          go_wp2_with (first | ((with_reducible refine gate_callee (f := 27) rfl ?_); refine goesL_ (some 12) rfl rfl Tryd.func27 (by kernel_rfl) rfl #[.int .i64 a0] rfl (by (try simp only [List.map_toArray, List.map_cons, List.map_nil]); first | done | rfl | (simp only [List.length_drop, List.length_take]; rfl)) ?_; (with_reducible refine (record_number.calls a0 false _ A5.out).mono ?_); rintro e w' ⟨rfl, ⟨nd, rfl⟩⟩; refine ⟨_, rfl, ?_⟩) | ((with_reducible refine gate_callee (f := 26) rfl ?_); refine goesL_ (some 19) rfl rfl Tryd.func26 (by kernel_rfl) rfl #[.bool true, .int .i64 1] rfl (by (try simp only [List.map_toArray, List.map_cons, List.map_nil]); first | done | rfl | (simp only [List.length_drop, List.length_take]; rfl)) ?_; (with_reducible refine (record_when.calls true 1 t192 _ A34.out).mono ?_); rintro e w' ⟨rfl, ⟨nd, rfl⟩⟩; refine ⟨_, rfl, ?_⟩) | ((with_reducible refine gate_callee (f := 26) rfl ?_); refine goesL_ (some 23) rfl rfl Tryd.func26 (by kernel_rfl) rfl #[.bool (decide ((l1.length : Int) > 2)), .int .i64 4] rfl (by (try simp only [List.map_toArray, List.map_cons, List.map_nil]); first | done | rfl | (simp only [List.length_drop, List.length_take]; rfl)) ?_; (with_reducible refine (record_when.calls (decide ((l1.length : Int) > 2)) 4 t193 _ A35.out).mono ?_); rintro e w' ⟨rfl, ⟨nd, rfl⟩⟩; refine ⟨_, rfl, ?_⟩) | ((with_reducible refine gate_callee (f := 28) rfl ?_); refine goesL_ (some 25) rfl rfl Tryd.func28 (by kernel_rfl) rfl #[.slice A1 l1.length c1, .func (.func 29) #[] #[]] rfl (by (try simp only [List.map_toArray, List.map_cons, List.map_nil]); first | done | rfl | (simp only [List.length_drop, List.length_take]; rfl)) ?_; (with_reducible refine (slices_ContainsFunc_api_Val_api_Val_at_record_bad.calls k _ _ l1  false _ ?side1 ?side2 A36.out).mono ?_); (case side1 => repeat (first | exact (Kd.C_below HR1.out (by repeat (first | (with_reducible first | exact HB.out | apply below_alloc | apply pw_below_drewN | apply below_drew1) | exact HB.out))) | (with_reducible refine Kd.C_alloc ?_ _) | (with_reducible refine Kd.C_drewN ?_ _) | (with_reducible refine Kd.C_drew ?_))); (case side2 => exact HC1.out); rintro e w56 ⟨rfl, hb⟩; refine ⟨_, rfl, ?_⟩; have n0_ := Aside0.mk (below_step (by repeat (first | (with_reducible first | exact HB.out | apply below_alloc | apply pw_below_drewN | apply below_drew1) | exact HB.out)) hb); clear HB; have HB := n0_; clear n0_; (try clear hb); (try clear hb2); (try clear hk); (try clear hi)) | (go_at_call 28; (with_reducible refine (slices_ContainsFunc_api_Val_api_Val_at_record_null.calls k _ _ l1  false _ ?side1 ?side2 A44.out).mono ?_); (case side1 => repeat (first | exact (Kd.C_below HR1.out HB.out) | (with_reducible refine Kd.C_alloc ?_ _) | (with_reducible refine Kd.C_drewN ?_ _) | (with_reducible refine Kd.C_drew ?_))); (case side2 => exact HC1.out); rintro e w57 ⟨rfl, hb⟩; have n0_ := Aside0.mk (below_step (by repeat (first | (with_reducible first | exact HB.out | apply below_alloc | apply pw_below_drewN | apply below_drew1) | exact HB.out)) hb); clear HB; have HB := n0_; clear n0_; (try clear hb); (try clear hb2); (try clear hk); (try clear hi)) | (go_at_call 31; (with_reducible refine (record_Key.calls a2 t206 _ A53.out).mono ?_); rintro e w' ⟨rfl, ⟨nd, rfl⟩⟩) | ((with_reducible refine gate_callee (f := 26) rfl ?_); refine goesL_ (some 35) rfl rfl Tryd.func26 (by kernel_rfl) rfl #[.bool (!t206), .int .i64 1] rfl (by (try simp only [List.map_toArray, List.map_cons, List.map_nil]); first | done | rfl | (simp only [List.length_drop, List.length_take]; rfl)) ?_; (with_reducible refine (record_when.calls (!t206) 1 t207 _ A54.out).mono ?_); rintro e w' ⟨rfl, ⟨nd, rfl⟩⟩; refine ⟨_, rfl, ?_⟩) | ((with_reducible refine gate_dst (N := 36) rfl ?_); (try (refine gate_guard (by rfl) ?_; dsimp only)); refine Kd.R_lit (Kd.int .i64) _ 31 ?hg (N := 36) ?hd (xs := ([t192, t193, t207] : List Int)) (inner := [.int .i64 t192, .int .i64 t193, .int .i64 t207]) (ok := fun _ => True) (okp := fun _ => True) ?hr ?hp (fun _ hk => hk) trivial (Below.refl _ _) (Nat.le_refl _) (by simp) ?_; (case hd => rfl); (case hg => rfl); (case hr => first | (go_simp; done) | (go_simp; rfl)); (case hp => exact (Reps.one (show Kd.M (Kd.int .i64) _ _ _ t192 [.int .i64 t192] from rfl) (Reps.one (show Kd.M (Kd.int .i64) _ _ _ t193 [.int .i64 t193] from rfl) (Reps.one (show Kd.M (Kd.int .i64) _ _ _ t207 [.int .i64 t207] from rfl) (Reps.none _ _))))); intro v209 w58 ho59 hb hg_ hnew_; clear hg_ hnew_; (first | rw [← Ny208.out] at ho59 | (simp only [Int.reduceToNat] at ho59; rw [← Ny208.out] at ho59)); have n0_ := Aside0.mk (Kd.R_lower ho59 (below_size (by repeat (first | (with_reducible first | exact HB.out | apply below_alloc | apply pw_below_drewN | apply below_drew1) | exact HB.out)))); have n1_ := Aside0.mk (below_step (by repeat (first | (with_reducible first | exact HB.out | apply below_alloc | apply pw_below_drewN | apply below_drew1) | exact HB.out)) hb); clear HB; have HO210 := n0_; have HB := n1_; clear n0_ n1_; clear hb ho59; obtain ⟨Ao60, co60, eo60⟩ := Kd.R_slice HO210.out; subst eo60) | ((with_reducible refine gate_callee (f := 24) rfl ?_); refine goesL_ (some 37) rfl rfl Tryd.func24 (by kernel_rfl) rfl #[.slice Ao60 y208.length co60] rfl (by (try simp only [List.map_toArray, List.map_cons, List.map_nil]); first | done | rfl | (simp only [List.length_drop, List.length_take]; rfl)) ?_; (with_reducible refine (record_first.calls k _ _ y208 t211 _ ?side1 ?side2 A55.out).mono ?_); (case side1 => repeat (first | exact (Kd.R_reads' HO210.out).2.2 | (with_reducible refine Kd.C_alloc ?_ _) | (with_reducible refine Kd.C_drewN ?_ _) | (with_reducible refine Kd.C_drew ?_))); (case side2 => exact (Kd.R_reads' HO210.out).2.1); rintro e w' ⟨rfl, ⟨nd, rfl⟩⟩; refine ⟨_, rfl, ?_⟩))
          go_meet
          case rel => exact ⟨_, (t211), (by first | rfl | (simp; done) | (simp [*]; done) | (simp [ne_nil_bytes]; done) | (simp [eq_nil_bytes]; done)), H', ⟨by first | omega | exact Nat.le_refl _⟩, ⟨by repeat (first | (with_reducible first | exact HB.out | apply below_alloc | apply pw_below_drewN | apply below_drew1) | exact HB.out)⟩⟩
  case rest =>
    clear HC4
    try clear c1
    try clear c2
    try clear p2
    try clear c3
    try clear c4
    try clear c6
    try clear c10
    try clear c15
    try clear c18
    try clear c24
    try clear c26
    try clear c27
    try clear c37
    try clear c45
    obtain ⟨kq, x8_3, rfl, HA, HJ3, HB⟩ := hcut
    cases kq with
    | zero => exact absurd HA.out (by simp [record_Entry.j0])
    | succ kj3 =>
      have H := HA.out
      clear HA
      simp only [record_Entry.j0] at H
      by_cases c61 : x8_3 = 0
      · rw [if_pos c61] at H
        have c61b0 : (x8_3 == 0) = true := beq_iff_eq.mpr c61
        have c61b1 : (x8_3 != 0) = false := bne_eq_false_iff_eq.mpr c61
        clear c61
        replace H := Option.bind_eq_some_iff.mp H
        obtain ⟨⟨t212, t213⟩, A620, H⟩ := H
        replace H : ((record_id2.f a0).bind fun t214 => (if t214.size + t212.size ≤ 9223372036854775807 then (if (t214 ++ t212).size + 1 ≤ 9223372036854775807 then (if ((t214 ++ t212) ++ (⟨#[0]⟩ : ByteArray)).size + a2.size ≤ 9223372036854775807 then (some (((t214 ++ t212) ++ (⟨#[0]⟩ : ByteArray)) ++ a2, 0)) else (none)) else (none)) else (none))) = some (r1, r2) := H
        have A62 := Aside0.mk A620
        clear A620
        replace H := Option.bind_eq_some_iff.mp H
        obtain ⟨t214, A630, H⟩ := H
        replace H : (if t214.size + t212.size ≤ 9223372036854775807 then (if (t214 ++ t212).size + 1 ≤ 9223372036854775807 then (if ((t214 ++ t212) ++ (⟨#[0]⟩ : ByteArray)).size + a2.size ≤ 9223372036854775807 then (some (((t214 ++ t212) ++ (⟨#[0]⟩ : ByteArray)) ++ a2, 0)) else (none)) else (none)) else (none)) = some (r1, r2) := H
        have A63 := Aside0.mk A630
        clear A630
        by_cases c64 : t214.size + t212.size ≤ 9223372036854775807
        · rw [if_pos c64] at H
          have c64b0 := eq_true c64
          have c64b1 : decide (t214.size + t212.size ≤ 9223372036854775807) = true := decide_eq_true c64
          try have c64b2 : (9223372036854775807 < t214.size + t212.size) = False := eq_false (Nat.not_lt.2 c64)
          by_cases c65 : (t214 ++ t212).size + 1 ≤ 9223372036854775807
          · rw [if_pos c65] at H
            have c65b0 := eq_true c65
            have c65b1 : decide ((t214 ++ t212).size + 1 ≤ 9223372036854775807) = true := decide_eq_true c65
            try have c65b2 : (9223372036854775807 < (t214 ++ t212).size + 1) = False := eq_false (Nat.not_lt.2 c65)
            (try have c65b4 : (9223372036854775807 < t214.size + t212.size + 1) = False := eq_false (Nat.not_lt.2 (by have z_ := c65; (try simp only [ByteArray.size_append] at z_); exact z_)))
            by_cases c66 : ((t214 ++ t212) ++ (⟨#[0]⟩ : ByteArray)).size + a2.size ≤ 9223372036854775807
            · rw [if_pos c66] at H
              have c66b0 := eq_true c66
              have c66b1 : decide (((t214 ++ t212) ++ (⟨#[0]⟩ : ByteArray)).size + a2.size ≤ 9223372036854775807) = true := decide_eq_true c66
              try have c66b2 : (9223372036854775807 < ((t214 ++ t212) ++ (⟨#[0]⟩ : ByteArray)).size + a2.size) = False := eq_false (Nat.not_lt.2 c66)
              (try have c66b4 : (9223372036854775807 < t214.size + t212.size + 1 + a2.size) = False := eq_false (Nat.not_lt.2 (by have z_ := c66; (try simp only [ByteArray.size_append] at z_); exact z_)))
              simp only [Option.some.injEq, Prod.mk.injEq] at H
              obtain ⟨rfl, rfl⟩ := H
              go_wp2_with (first | ((with_reducible refine gate_callee (f := 32) rfl ?_); refine goesL_ (some 43) rfl rfl Tryd.func32 (by kernel_rfl) rfl #[.slice A1 l1.length c1] rfl (by (try simp only [List.map_toArray, List.map_cons, List.map_nil]); first | done | rfl | (simp only [List.length_drop, List.length_take]; rfl)) ?_; (with_reducible refine (tuple_Key.calls kj3 _ _ l1 t212 t213 _ ?side1 ?side2 A62.out).mono ?_); (case side1 => repeat (first | exact (Kd.C_below HR1.out HB.out) | (with_reducible refine Kd.C_alloc ?_ _) | (with_reducible refine Kd.C_drewN ?_ _) | (with_reducible refine Kd.C_drew ?_))); (case side2 => exact HC1.out); rintro e w67 ⟨rfl, hb⟩; refine ⟨_, rfl, ?_⟩; have n0_ := Aside0.mk (below_step (by repeat (first | (with_reducible first | exact HB.out | apply below_alloc | apply pw_below_drewN | apply below_drew1) | exact HB.out)) hb); clear HB; have HB := n0_; clear n0_; (try clear hb); (try clear hb2); (try clear hk); (try clear hi)) | ((with_reducible refine gate_callee (f := 33) rfl ?_); refine goesL_ (some 47) rfl rfl Tryd.func33 (by kernel_rfl) rfl #[.int .i64 a0] rfl (by (try simp only [List.map_toArray, List.map_cons, List.map_nil]); first | done | rfl | (simp only [List.length_drop, List.length_take]; rfl)) ?_; (with_reducible refine (record_id2.calls a0 t214 _ A63.out).mono ?_); rintro e w68 ⟨rfl, hb⟩; refine ⟨_, rfl, ?_⟩; have n0_ := Aside0.mk (below_step (by repeat (first | (with_reducible first | exact HB.out | apply below_alloc | apply pw_below_drewN | apply below_drew1) | exact HB.out)) hb); clear HB; have HB := n0_; clear n0_; (try clear hb); (try clear hb2); (try clear hk); (try clear hi)))
              go_ret2
              exact ⟨by first | rfl | (simp [errW_none, errW_some] <;> rfl) | (simp [*, errW_none, errW_some] <;> rfl), by repeat (first | (with_reducible first | exact HB.out | apply below_alloc | apply pw_below_drewN | apply below_drew1) | exact HB.out)⟩
            · rw [if_neg c66] at H
              exact absurd H (by simp)
          · rw [if_neg c65] at H
            exact absurd H (by simp)
        · rw [if_neg c64] at H
          exact absurd H (by simp)
      · rw [if_neg c61] at H
        have c61b0 : (x8_3 == 0) = false := beq_eq_false_iff_ne.mpr c61
        have c61b1 : (x8_3 != 0) = true := bne_iff_ne.mpr c61
        simp only [Option.some.injEq, Prod.mk.injEq] at H
        obtain ⟨rfl, rfl⟩ := H
        go_wp2
        go_ret2
        exact ⟨by first | rfl | (simp [errW_none, errW_some] <;> rfl) | (simp [*, errW_none, errW_some] <;> rfl), by repeat (first | (with_reducible first | exact HB.out | apply below_alloc | apply pw_below_drewN | apply below_drew1) | exact HB.out)⟩

end Go.Proofs.YtieifhjjjlmkbaaDoor.POrd
