-- Written by a program of this session for this claim (mp.py, over the kit's print); Lean checks it.
import Derived.Test.YtdaidcfpikeooaaDoorPAllx0
import Derived.Test.YtdaidcfpikeooaaDoorPAllx3
import Derived.Test.YtdaidcfpikeooaaDoorPAllx5
import Derived.Test.YtdaidcfpikeooaaDoorPAllx6
import Derived.Test.YtdaidcfpikeooaaDoorPAllx7
namespace Go.Proofs.YtdaidcfpikeooaaDoor.PAll
open Go.RowKit Go.Proofs.YtdaidcfpikeooaaDoorW.PrintWords Go.Proofs.YtdaidcfpikeooaaDoorW.PrintLast Go.Proofs.YtdaidcfpikeooaaDoorW.PrintMore Go.Proofs.YtdaidcfpikeooaaDoor.Fv Go.Proofs.YtdaidcfpikeooaaDoor.Hl
attribute [local go_sem] max2_int min2_int max_two min_two max_three min_three max_four min_four str_gtr str_leq str_geq   -- for this text's walks alone
set_option linter.unusedVariables false
set_option linter.unusedSimpArgs false

/-! ### shelfmarklaw03_TupleKeeps: function 5 -/
mutual
def shelfmarklaw03_TupleKeeps.j0 : Nat → List (S37) → ByteArray → Int → Bool → Option (Bool)
  | 0, _, _, _, _ => none
  | k + 1, x0, x5, x6, x47 => if x47 = true then (some false) else (if x6 = 0 then ((tuple_Vals.f k x5).bind fun bt211 => ((tuple_Vals.f k x5).bind fun bt215 => (shelfmarklaw03_TupleKeeps.l0 k x0 bt211.1 bt215.1 0))) else (some (x5.toList == ([] : List UInt8))))
def shelfmarklaw03_TupleKeeps.l0 : Nat → List (S37) → List (S37) → List (S37) → Int → Option (Bool)
  | 0, _, _, _, _ => none
  | k + 1, x0, x7, x9, x11 => if x11 < (x7.length : Int) then (if 0 ≤ x11 then (shelfmarklaw03_TupleKeeps.l0 k x0 (x7.set (x11 : Int).toNat (⟨9, 0, (⟨#[]⟩ : ByteArray)⟩ : S37)) x9 (wrap64 (x11 + 1))) else (none)) else (if x7.length < 4398046511104 then ((shelfmarkref03_Same.f k x9 x0).bind fun t223 => (some t223)) else (none))
end
def shelfmarklaw03_TupleKeeps.f (k : Nat) (l0 : List (S37)) : Option (Bool) := (shelfmarklaw03_awake.f k).bind fun t188 => (if t188 = true then ((shelfmarkref03_Light.f k l0 200).bind fun t189 => (if t189 = true then ((some (([] : List (S37)) : List (S37))).bind fun y190 => (if y190.length + l0.length < 4398046511104 then ((some (y190 ++ l0 : List (S37))).bind fun y193 => (if y193.length < 4398046511104 then ((some (y193 ++ [(⟨7, 0, (⟨#[]⟩ : ByteArray)⟩ : S37)] : List (S37))).bind fun y196 => (if 0 ≤ (l0.length : Int) then (if (l0.length : Int) ≤ (y196.length : Int) then ((tuple_Key.f k (y196.take ((l0.length : Int) : Int).toNat)).bind fun bt203 => (if (l0.length : Int) < (y196.length : Int) then (if ((rd_T37 y196 (l0.length : Int)).f0) = 7 then ((shelfmarkref03_Same.f k (y196.take ((l0.length : Int) : Int).toNat) l0).bind fun t210 => (shelfmarklaw03_TupleKeeps.j0 k l0 bt203.1 bt203.2 (!t210))) else (shelfmarklaw03_TupleKeeps.j0 k l0 bt203.1 bt203.2 true)) else (none))) else (none)) else (none))) else (none))) else (none))) else (some true))) else (some false))
theorem shelfmarklaw03_TupleKeeps.mono_l : ∀ k, (∀ y0 y1 y2 y3, LeO (shelfmarklaw03_TupleKeeps.j0 k y0 y1 y2 y3) (shelfmarklaw03_TupleKeeps.j0 (k + 1) y0 y1 y2 y3)) ∧ (∀ y0 y1 y2 y3, LeO (shelfmarklaw03_TupleKeeps.l0 k y0 y1 y2 y3) (shelfmarklaw03_TupleKeeps.l0 (k + 1) y0 y1 y2 y3))
  | 0 => ⟨fun _ _ _ _ r h => by simp [shelfmarklaw03_TupleKeeps.j0] at h, fun _ _ _ _ r h => by simp [shelfmarklaw03_TupleKeeps.l0] at h⟩
  | k + 1 => by
    obtain ⟨ih0, ih1⟩ := shelfmarklaw03_TupleKeeps.mono_l k
    refine ⟨?_, ?_⟩
    · intro y0 y1 y2 y3
      unfold shelfmarklaw03_TupleKeeps.j0
      repeat' first
      | (with_reducible exact ih0 _ _ _ _)
      | (with_reducible exact ih1 _ _ _ _)
      | (with_reducible exact shelfmarklaw03_awake.mono _)
      | (with_reducible exact shelfmarkref03_Light.mono _ _ _)
      | (with_reducible exact shelfmarkref03_Same.mono _ _ _)
      | (with_reducible exact tuple_Key.mono _ _)
      | (with_reducible exact tuple_Vals.mono _ _)
      | (with_reducible exact LeO.refl _)
      | (with_reducible exact LeO.none _)
      | (with_reducible refine LeO.ite ?_ ?_)
      | (with_reducible refine LeO.bind ?_ (fun _ => ?_))
      | exact ih0 _ _ _ _
      | exact ih1 _ _ _ _
      | exact shelfmarklaw03_awake.mono _
      | exact shelfmarkref03_Light.mono _ _ _
      | exact shelfmarkref03_Same.mono _ _ _
      | exact tuple_Key.mono _ _
      | exact tuple_Vals.mono _ _
      | exact LeO.none _
      | refine LeO.ite ?_ ?_
      | refine LeO.bind ?_ (fun _ => ?_)
    · intro y0 y1 y2 y3
      unfold shelfmarklaw03_TupleKeeps.l0
      repeat' first
      | (with_reducible exact ih0 _ _ _ _)
      | (with_reducible exact ih1 _ _ _ _)
      | (with_reducible exact shelfmarklaw03_awake.mono _)
      | (with_reducible exact shelfmarkref03_Light.mono _ _ _)
      | (with_reducible exact shelfmarkref03_Same.mono _ _ _)
      | (with_reducible exact tuple_Key.mono _ _)
      | (with_reducible exact tuple_Vals.mono _ _)
      | (with_reducible exact LeO.refl _)
      | (with_reducible exact LeO.none _)
      | (with_reducible refine LeO.ite ?_ ?_)
      | (with_reducible refine LeO.bind ?_ (fun _ => ?_))
      | exact ih0 _ _ _ _
      | exact ih1 _ _ _ _
      | exact shelfmarklaw03_awake.mono _
      | exact shelfmarkref03_Light.mono _ _ _
      | exact shelfmarkref03_Same.mono _ _ _
      | exact tuple_Key.mono _ _
      | exact tuple_Vals.mono _ _
      | exact LeO.none _
      | refine LeO.ite ?_ ?_
      | refine LeO.bind ?_ (fun _ => ?_)
theorem shelfmarklaw03_TupleKeeps.mono : ∀ a0 k, LeO (shelfmarklaw03_TupleKeeps.f k a0) (shelfmarklaw03_TupleKeeps.f (k + 1) a0) := by
  intro a0 k
  obtain ⟨ih0, ih1⟩ := shelfmarklaw03_TupleKeeps.mono_l k
  unfold shelfmarklaw03_TupleKeeps.f
  repeat' first
      | (with_reducible exact ih0 _ _ _ _)
      | (with_reducible exact ih1 _ _ _ _)
      | (with_reducible exact shelfmarklaw03_awake.mono _)
      | (with_reducible exact shelfmarkref03_Light.mono _ _ _)
      | (with_reducible exact shelfmarkref03_Same.mono _ _ _)
      | (with_reducible exact tuple_Key.mono _ _)
      | (with_reducible exact tuple_Vals.mono _ _)
      | (with_reducible exact LeO.refl _)
      | (with_reducible exact LeO.none _)
      | (with_reducible refine LeO.ite ?_ ?_)
      | (with_reducible refine LeO.bind ?_ (fun _ => ?_))
      | exact ih0 _ _ _ _
      | exact ih1 _ _ _ _
      | exact shelfmarklaw03_awake.mono _
      | exact shelfmarkref03_Light.mono _ _ _
      | exact shelfmarkref03_Same.mono _ _ _
      | exact tuple_Key.mono _ _
      | exact tuple_Vals.mono _ _
      | exact LeO.none _
      | refine LeO.ite ?_ ?_
      | refine LeO.bind ?_ (fun _ => ?_)
set_option maxHeartbeats 3000000 in
set_option maxRecDepth 100000 in
theorem shelfmarklaw03_TupleKeeps.calls (k : Nat) (A0 : Option Addr) (c0 : Nat) (l0 : List (S37)) (r : Bool) (w : World) (hr0 : Kd.C k37 w A0 l0.length l0) (hc0 : l0.length ≤ c0) (h : shelfmarklaw03_TupleKeeps.f k l0 = some r) :
    Calls Tryd.prog 5 #[.slice A0 l0.length c0] w fun e w' => e = .returned (.bool r) ∧ Below w.heap.size w w' := by
  have hu37 := Tryd.underlying37
  have HR0 := Aside0.mk hr0
  have HC0 := Aside0.mk hc0
  clear hr0 hc0
  have HB := Aside0.mk (Below.refl w.heap.size w)
  have H : ((shelfmarklaw03_awake.f k).bind fun t188 => (if t188 = true then ((shelfmarkref03_Light.f k l0 200).bind fun t189 => (if t189 = true then ((some (([] : List (S37)) : List (S37))).bind fun y190 => (if y190.length + l0.length < 4398046511104 then ((some (y190 ++ l0 : List (S37))).bind fun y193 => (if y193.length < 4398046511104 then ((some (y193 ++ [(⟨7, 0, (⟨#[]⟩ : ByteArray)⟩ : S37)] : List (S37))).bind fun y196 => (if 0 ≤ (l0.length : Int) then (if (l0.length : Int) ≤ (y196.length : Int) then ((tuple_Key.f k (y196.take ((l0.length : Int) : Int).toNat)).bind fun bt203 => (if (l0.length : Int) < (y196.length : Int) then (if ((rd_T37 y196 (l0.length : Int)).f0) = 7 then ((shelfmarkref03_Same.f k (y196.take ((l0.length : Int) : Int).toNat) l0).bind fun t210 => (shelfmarklaw03_TupleKeeps.j0 k l0 bt203.1 bt203.2 (!t210))) else (shelfmarklaw03_TupleKeeps.j0 k l0 bt203.1 bt203.2 true)) else (none))) else (none)) else (none))) else (none))) else (none))) else (some true))) else (some false))) = some r := h
  clear h
  replace H := Option.bind_eq_some_iff.mp H
  obtain ⟨t188, A20, H⟩ := H
  replace H : (if t188 = true then ((shelfmarkref03_Light.f k l0 200).bind fun t189 => (if t189 = true then ((some (([] : List (S37)) : List (S37))).bind fun y190 => (if y190.length + l0.length < 4398046511104 then ((some (y190 ++ l0 : List (S37))).bind fun y193 => (if y193.length < 4398046511104 then ((some (y193 ++ [(⟨7, 0, (⟨#[]⟩ : ByteArray)⟩ : S37)] : List (S37))).bind fun y196 => (if 0 ≤ (l0.length : Int) then (if (l0.length : Int) ≤ (y196.length : Int) then ((tuple_Key.f k (y196.take ((l0.length : Int) : Int).toNat)).bind fun bt203 => (if (l0.length : Int) < (y196.length : Int) then (if ((rd_T37 y196 (l0.length : Int)).f0) = 7 then ((shelfmarkref03_Same.f k (y196.take ((l0.length : Int) : Int).toNat) l0).bind fun t210 => (shelfmarklaw03_TupleKeeps.j0 k l0 bt203.1 bt203.2 (!t210))) else (shelfmarklaw03_TupleKeeps.j0 k l0 bt203.1 bt203.2 true)) else (none))) else (none)) else (none))) else (none))) else (none))) else (some true))) else (some false)) = some r := H
  have A2 := Aside0.mk A20
  clear A20
  by_cases c3 : t188 = true
  · subst c3
    have H1 : ((shelfmarkref03_Light.f k l0 200).bind fun t189 => (if t189 = true then ((some (([] : List (S37)) : List (S37))).bind fun y190 => (if y190.length + l0.length < 4398046511104 then ((some (y190 ++ l0 : List (S37))).bind fun y193 => (if y193.length < 4398046511104 then ((some (y193 ++ [(⟨7, 0, (⟨#[]⟩ : ByteArray)⟩ : S37)] : List (S37))).bind fun y196 => (if 0 ≤ (l0.length : Int) then (if (l0.length : Int) ≤ (y196.length : Int) then ((tuple_Key.f k (y196.take ((l0.length : Int) : Int).toNat)).bind fun bt203 => (if (l0.length : Int) < (y196.length : Int) then (if ((rd_T37 y196 (l0.length : Int)).f0) = 7 then ((shelfmarkref03_Same.f k (y196.take ((l0.length : Int) : Int).toNat) l0).bind fun t210 => (shelfmarklaw03_TupleKeeps.j0 k l0 bt203.1 bt203.2 (!t210))) else (shelfmarklaw03_TupleKeeps.j0 k l0 bt203.1 bt203.2 true)) else (none))) else (none)) else (none))) else (none))) else (none))) else (some true))) = some r := by rw [if_pos rfl] at H; exact H
    clear H
    have H := H1
    clear H1
    replace H := Option.bind_eq_some_iff.mp H
    obtain ⟨t189, A40, H⟩ := H
    replace H : (if t189 = true then ((some (([] : List (S37)) : List (S37))).bind fun y190 => (if y190.length + l0.length < 4398046511104 then ((some (y190 ++ l0 : List (S37))).bind fun y193 => (if y193.length < 4398046511104 then ((some (y193 ++ [(⟨7, 0, (⟨#[]⟩ : ByteArray)⟩ : S37)] : List (S37))).bind fun y196 => (if 0 ≤ (l0.length : Int) then (if (l0.length : Int) ≤ (y196.length : Int) then ((tuple_Key.f k (y196.take ((l0.length : Int) : Int).toNat)).bind fun bt203 => (if (l0.length : Int) < (y196.length : Int) then (if ((rd_T37 y196 (l0.length : Int)).f0) = 7 then ((shelfmarkref03_Same.f k (y196.take ((l0.length : Int) : Int).toNat) l0).bind fun t210 => (shelfmarklaw03_TupleKeeps.j0 k l0 bt203.1 bt203.2 (!t210))) else (shelfmarklaw03_TupleKeeps.j0 k l0 bt203.1 bt203.2 true)) else (none))) else (none)) else (none))) else (none))) else (none))) else (some true)) = some r := H
    have A4 := Aside0.mk A40
    clear A40
    by_cases c5 : t189 = true
    · subst c5
      have H1 : ((some (([] : List (S37)) : List (S37))).bind fun y190 => (if y190.length + l0.length < 4398046511104 then ((some (y190 ++ l0 : List (S37))).bind fun y193 => (if y193.length < 4398046511104 then ((some (y193 ++ [(⟨7, 0, (⟨#[]⟩ : ByteArray)⟩ : S37)] : List (S37))).bind fun y196 => (if 0 ≤ (l0.length : Int) then (if (l0.length : Int) ≤ (y196.length : Int) then ((tuple_Key.f k (y196.take ((l0.length : Int) : Int).toNat)).bind fun bt203 => (if (l0.length : Int) < (y196.length : Int) then (if ((rd_T37 y196 (l0.length : Int)).f0) = 7 then ((shelfmarkref03_Same.f k (y196.take ((l0.length : Int) : Int).toNat) l0).bind fun t210 => (shelfmarklaw03_TupleKeeps.j0 k l0 bt203.1 bt203.2 (!t210))) else (shelfmarklaw03_TupleKeeps.j0 k l0 bt203.1 bt203.2 true)) else (none))) else (none)) else (none))) else (none))) else (none))) = some r := by rw [if_pos rfl] at H; exact H
      clear H
      have H := H1
      clear H1
      obtain ⟨y190, hy190⟩ : ∃ y_ : List (S37), y_ = (([] : List (S37))) := ⟨_, rfl⟩
      replace H : (if y190.length + l0.length < 4398046511104 then ((some (y190 ++ l0 : List (S37))).bind fun y193 => (if y193.length < 4398046511104 then ((some (y193 ++ [(⟨7, 0, (⟨#[]⟩ : ByteArray)⟩ : S37)] : List (S37))).bind fun y196 => (if 0 ≤ (l0.length : Int) then (if (l0.length : Int) ≤ (y196.length : Int) then ((tuple_Key.f k (y196.take ((l0.length : Int) : Int).toNat)).bind fun bt203 => (if (l0.length : Int) < (y196.length : Int) then (if ((rd_T37 y196 (l0.length : Int)).f0) = 7 then ((shelfmarkref03_Same.f k (y196.take ((l0.length : Int) : Int).toNat) l0).bind fun t210 => (shelfmarklaw03_TupleKeeps.j0 k l0 bt203.1 bt203.2 (!t210))) else (shelfmarklaw03_TupleKeeps.j0 k l0 bt203.1 bt203.2 true)) else (none))) else (none)) else (none))) else (none))) else (none)) = some r := by first | (rw [hy190]; with_reducible exact H) | (have H2_ := (Option.bind_some _ _).symm.trans H; rw [hy190]; with_reducible exact H2_) | (have H2_ := (Option.bind_some _ _).symm.trans H; with_reducible exact H2_) | with_reducible exact H | (rw [hy190]; exact H) | exact H
      have Ny190 := Aside0.mk hy190
      clear hy190
      by_cases c6 : y190.length + l0.length < 4398046511104
      · rw [if_pos c6] at H
        have LMc6 := Aside0.mk c6
        clear c6
        obtain ⟨y193, hy193⟩ : ∃ y_ : List (S37), y_ = (y190 ++ l0) := ⟨_, rfl⟩
        replace H : (if y193.length < 4398046511104 then ((some (y193 ++ [(⟨7, 0, (⟨#[]⟩ : ByteArray)⟩ : S37)] : List (S37))).bind fun y196 => (if 0 ≤ (l0.length : Int) then (if (l0.length : Int) ≤ (y196.length : Int) then ((tuple_Key.f k (y196.take ((l0.length : Int) : Int).toNat)).bind fun bt203 => (if (l0.length : Int) < (y196.length : Int) then (if ((rd_T37 y196 (l0.length : Int)).f0) = 7 then ((shelfmarkref03_Same.f k (y196.take ((l0.length : Int) : Int).toNat) l0).bind fun t210 => (shelfmarklaw03_TupleKeeps.j0 k l0 bt203.1 bt203.2 (!t210))) else (shelfmarklaw03_TupleKeeps.j0 k l0 bt203.1 bt203.2 true)) else (none))) else (none)) else (none))) else (none)) = some r := by first | (rw [hy193]; with_reducible exact H) | (have H2_ := (Option.bind_some _ _).symm.trans H; rw [hy193]; with_reducible exact H2_) | (have H2_ := (Option.bind_some _ _).symm.trans H; with_reducible exact H2_) | with_reducible exact H | (rw [hy193]; exact H) | exact H
        have Ny193 := Aside0.mk hy193
        clear hy193
        by_cases c7 : y193.length < 4398046511104
        · rw [if_pos c7] at H
          have LMc7 := Aside0.mk c7
          clear c7
          obtain ⟨y196, hy196⟩ : ∃ y_ : List (S37), y_ = (y193 ++ [(⟨7, 0, (⟨#[]⟩ : ByteArray)⟩ : S37)]) := ⟨_, rfl⟩
          replace H : (if 0 ≤ (l0.length : Int) then (if (l0.length : Int) ≤ (y196.length : Int) then ((tuple_Key.f k (y196.take ((l0.length : Int) : Int).toNat)).bind fun bt203 => (if (l0.length : Int) < (y196.length : Int) then (if ((rd_T37 y196 (l0.length : Int)).f0) = 7 then ((shelfmarkref03_Same.f k (y196.take ((l0.length : Int) : Int).toNat) l0).bind fun t210 => (shelfmarklaw03_TupleKeeps.j0 k l0 bt203.1 bt203.2 (!t210))) else (shelfmarklaw03_TupleKeeps.j0 k l0 bt203.1 bt203.2 true)) else (none))) else (none)) else (none)) = some r := by first | (rw [hy196]; with_reducible exact H) | (have H2_ := (Option.bind_some _ _).symm.trans H; rw [hy196]; with_reducible exact H2_) | (have H2_ := (Option.bind_some _ _).symm.trans H; with_reducible exact H2_) | with_reducible exact H | (rw [hy196]; exact H) | exact H
          have Ny196 := Aside0.mk hy196
          clear hy196
          by_cases c8 : 0 ≤ (l0.length : Int)
          · rw [if_pos c8] at H
            have c8b0 := eq_true c8
            have c8b1 : decide (0 ≤ (l0.length : Int)) = true := decide_eq_true c8
            clear c8
            by_cases c9 : (l0.length : Int) ≤ (y196.length : Int)
            · rw [if_pos c9] at H
              have c9b0 := eq_true c9
              have c9b1 : decide ((l0.length : Int) ≤ (y196.length : Int)) = true := decide_eq_true c9
              clear c9
              obtain ⟨y199, hy199⟩ : ∃ y_ : List (S37), y_ = (y196.take ((l0.length : Int) : Int).toNat) := ⟨_, rfl⟩
              replace H : ((tuple_Key.f k y199).bind fun bt203 => (if (l0.length : Int) < (y196.length : Int) then (if ((rd_T37 y196 (l0.length : Int)).f0) = 7 then ((shelfmarkref03_Same.f k (y196.take ((l0.length : Int) : Int).toNat) l0).bind fun t210 => (shelfmarklaw03_TupleKeeps.j0 k l0 bt203.1 bt203.2 (!t210))) else (shelfmarklaw03_TupleKeeps.j0 k l0 bt203.1 bt203.2 true)) else (none))) = some r := by first | (rw [hy199]; with_reducible exact H) | (have H2_ := (Option.bind_some _ _).symm.trans H; rw [hy199]; with_reducible exact H2_) | (have H2_ := (Option.bind_some _ _).symm.trans H; with_reducible exact H2_) | with_reducible exact H | (rw [hy199]; exact H) | exact H
              have Ny199 := Aside0.mk hy199
              clear hy199
              replace H := Option.bind_eq_some_iff.mp H
              obtain ⟨⟨t203, t204⟩, A100, H⟩ := H
              replace H : (if (l0.length : Int) < (y196.length : Int) then (if ((rd_T37 y196 (l0.length : Int)).f0) = 7 then ((shelfmarkref03_Same.f k (y196.take ((l0.length : Int) : Int).toNat) l0).bind fun t210 => (shelfmarklaw03_TupleKeeps.j0 k l0 t203 t204 (!t210))) else (shelfmarklaw03_TupleKeeps.j0 k l0 t203 t204 true)) else (none)) = some r := H
              have A10 := Aside0.mk A100
              clear A100
              have HC11 := Aside0.mk H
              clear H
              go_enter Tryd.func5, Tryd.ntmps5
              go_upto_region 8 with (first | ((with_reducible refine gate_callee (f := 8) rfl ?_); refine goesL_ (some 12) rfl rfl Tryd.func8 (by kernel_rfl) rfl #[] rfl (by (try simp only [List.map_toArray, List.map_cons, List.map_nil]); first | done | rfl | (simp only [List.length_drop, List.length_take]; rfl)) ?_; (with_reducible refine (shelfmarklaw03_awake.calls k  true _ A2.out).mono ?_); rintro e w12 ⟨rfl, hb⟩; refine ⟨_, rfl, ?_⟩; have n0_ := Aside0.mk (below_step (by repeat (first | (with_reducible first | exact HB.out | apply below_alloc | apply pw_below_drewN | apply below_drew1) | exact HB.out)) hb); clear HB; have HB := n0_; clear n0_; (try clear hb); (try clear hb2); (try clear hk); (try clear hi)) | ((with_reducible refine gate_callee (f := 9) rfl ?_); refine goesL_ (some 15) rfl rfl Tryd.func9 (by kernel_rfl) rfl #[.slice A0 l0.length c0, .int .i64 200] rfl (by (try simp only [List.map_toArray, List.map_cons, List.map_nil]); first | done | rfl | (simp only [List.length_drop, List.length_take]; rfl)) ?_; (with_reducible refine (shelfmarkref03_Light.calls k _ _ l0 200 true _ ?side1 ?side2 A4.out).mono ?_); (case side1 => repeat (first | exact (Kd.C_below HR0.out HB.out) | (with_reducible refine Kd.C_alloc ?_ _) | (with_reducible refine Kd.C_drewN ?_ _) | (with_reducible refine Kd.C_drew ?_))); (case side2 => exact HC0.out); rintro e w' ⟨rfl, ⟨nd, rfl⟩⟩; refine ⟨_, rfl, ?_⟩) | ((with_reducible refine gate_dst (N := 17) rfl ?_); (try (refine gate_guard (by rfl) ?_; dsimp only)); refine Kd.R_lit k37 _ 37 ?hg (N := 17) ?hd (xs := ([] : List (S37))) (inner := []) (ok := fun _ => True) (okp := fun _ => True) ?hr ?hp (fun _ hk => hk) trivial (Below.refl _ _) (Nat.le_refl _) (by simp) ?_; (case hd => rfl); (case hg => rfl); (case hr => first | (go_simp; done) | (go_simp; rfl)); (case hp => exact (Reps.none _ _)); intro v191 w13 ho14 hb hg_ hnew_; clear hg_ hnew_; (first | rw [← Ny190.out] at ho14 | (simp only [Int.reduceToNat] at ho14; rw [← Ny190.out] at ho14)); have n0_ := Aside0.mk (Kd.R_lower ho14 (below_size (by repeat (first | (with_reducible first | exact HB.out | apply below_alloc | apply pw_below_drewN | apply below_drew1) | exact HB.out)))); have n1_ := Aside0.mk (below_step (by repeat (first | (with_reducible first | exact HB.out | apply below_alloc | apply pw_below_drewN | apply below_drew1) | exact HB.out)) hb); clear HB; have HO192 := n0_; have HB := n1_; clear n0_ n1_; clear hb ho14) | ((with_reducible refine gate_builtin (b := .append) (xs := #[.tmp 17, .tmp 18]) rfl ?_); (try (refine gate_guard (by rfl) ?_; dsimp only)); at_builtin; refine Kd.R_append_rows k37 (w0 := w) w.heap.size rfl (.tmp 17) (.tmp 18) 22 37 (.agg #[(.int .i64 0), (.int .i64 0), (.string ⟨#[]⟩)]) 32 rfl Tryd.underlying22 info37 rfl (by decide) (by omega) v191 y190 l0 _ _ _ (fun _ => True) (fun _ => False) rfl rfl ?aO ?aR (fun _ _ h => h) (fun _ h => h.elim) ?aF ?aB ?aS ?aL ?_; (case aR => repeat (first | exact (Kd.C_below HR0.out HB.out) | (with_reducible refine Kd.C_alloc ?_ _) | (with_reducible refine Kd.C_drewN ?_ _) | (with_reducible refine Kd.C_drew ?_))); (case aB => exact (by repeat (first | (with_reducible first | exact HB.out | apply below_alloc | apply pw_below_drewN | apply below_drew1) | exact HB.out))); (case aF => exact (fun _ _ => trivial)); (case aO => exact (by (with_reducible repeat (first | apply Kd.R_alloc | apply Kd.R_drewN | apply Kd.R_drew)); exact HO192.out)); (case aS => exact (below_size (by repeat (first | (with_reducible first | exact HB.out | apply below_alloc | apply pw_below_drewN | apply below_drew1) | exact HB.out)))); (case aL => have := LMc6.out; omega); intro v194 w15 ho hb hg hat; rw [← Ny193.out] at ho; have n0_ := Aside0.mk (hb); have n1_ := Aside0.mk (ho); clear HB; clear HO192; have HB := n0_; have HO195 := n1_; clear n0_ n1_; clear ho hb hg hat) | ((with_reducible refine gate_builtin (b := .append) (xs := #[.tmp 19, .tmp 21]) rfl ?_); (try (refine gate_guard (by rfl) ?_; dsimp only)); at_builtin; refine Kd.R_append k37 (w0 := w) w.heap.size rfl (.tmp 19) (.tmp 21) 22 37 (.agg #[(.int .i64 0), (.int .i64 0), (.string ⟨#[]⟩)]) 32 rfl Tryd.underlying22 info37 rfl (by decide) (by omega) v194 y193 (⟨7, 0, (⟨#[]⟩ : ByteArray)⟩ : S37) [.int .i64 7, .int .i64 0, .string (⟨#[]⟩ : ByteArray)] (fun _ => True) (fun _ => False) rfl rfl ?aP (fun _ hk => hk.elim) ?aF ?aO ?aB ?aS ?aL ?_; (case aP => exact k37_mkM _ _ _ (⟨7, 0, (⟨#[]⟩ : ByteArray)⟩ : S37)); (case aB => exact (by repeat (first | (with_reducible first | exact HB.out | apply below_alloc | apply pw_below_drewN | apply below_drew1) | exact HB.out))); (case aF => exact (fun _ _ => trivial)); (case aO => exact (by (with_reducible repeat (first | apply Kd.R_alloc | apply Kd.R_drewN | apply Kd.R_drew)); exact HO195.out)); (case aS => exact (below_size (by repeat (first | (with_reducible first | exact HB.out | apply below_alloc | apply pw_below_drewN | apply below_drew1) | exact HB.out)))); (case aL => have := LMc7.out; omega); intro v197 w16 ho hb hg hat; rw [← Ny196.out] at ho; have n0_ := Aside0.mk (hb); have n1_ := Aside0.mk (ho); clear HB; clear HO195; have HB := n0_; have HO198 := n1_; clear n0_ n1_; clear ho hb hg hat; obtain ⟨Ao18, co18, eo18⟩ := Kd.R_slice HO198.out; subst eo18; have q17 : ((l0.length : Int) : Int) ≤ ((y196.length : Int) : Int) := of_decide_eq_true (by first | (with_reducible assumption) | assumption); obtain ⟨i017, hi017, _, hsz17, _⟩ := info_parts info37; have hroom17 : y196.length ≤ co18 := (Kd.R_reads' HO198.out).2.1; have hC17 : Kd.C k37 _ Ao18 y196.length y196 := (Kd.R_reads' HO198.out).2.2; have hcut17 := cut_to (P := Tryd.prog) 22 37 .i64 Tryd.underlying22 hi017 Ao18 y196.length co18 (l0.length : Int) (of_decide_eq_true (by first | (with_reducible assumption) | assumption)) q17 hroom17; have hr17 := Kd.C_take (m := ((l0.length : Int) : Int).toNat) hC17 (by omega); have hy17 : y199.length = ((l0.length : Int) : Int).toNat := (by rw [Ny199.out, List.length_take]; omega); rw [← Ny199.out] at hr17; rw [← hy17] at hcut17; have HR202 := Aside0.mk hr17; have HC202 := Aside0.mk (show y199.length ≤ co18 from by omega); clear hr17 hC17 hroom17 hi017 hsz17; have KY17 := Aside0.mk hy17; clear hy17; have KL17 := Aside0.mk (show ((l0.length : Int) : Int).toNat ≤ y196.length from by omega); replace q17 := eq_true q17) | ((with_reducible refine gate_callee (f := 10) rfl ?_); refine goesL_ (some 29) rfl rfl Tryd.func10 (by kernel_rfl) rfl #[.slice Ao18 y199.length co18] rfl (by (try simp only [List.map_toArray, List.map_cons, List.map_nil]); first | done | rfl | (simp only [List.length_drop, List.length_take]; rfl)) ?_; (with_reducible refine (tuple_Key.calls k _ _ y199 t203 t204 _ ?side1 ?side2 A10.out).mono ?_); (case side1 => repeat (first | exact (by repeat (first | (with_reducible exact HR202.out) | (with_reducible refine Kd.C_alloc ?_ _) | (with_reducible refine Kd.C_drewN ?_ _) | (with_reducible refine Kd.C_drew ?_) | exact HR202.out)) | (with_reducible refine Kd.C_alloc ?_ _) | (with_reducible refine Kd.C_drewN ?_ _) | (with_reducible refine Kd.C_drew ?_))); (case side2 => exact HC202.out); rintro e w19 ⟨rfl, hb⟩; refine ⟨_, rfl, ?_⟩; have n0_ := Aside0.mk (Kd.R_below (by (with_reducible repeat (first | apply Kd.R_alloc | apply Kd.R_drewN | apply Kd.R_drew)); exact HO198.out) hb); have n1_ := Aside0.mk (Kd.C_below (by repeat (first | (with_reducible exact HR202.out) | (with_reducible refine Kd.C_alloc ?_ _) | (with_reducible refine Kd.C_drewN ?_ _) | (with_reducible refine Kd.C_drew ?_) | exact HR202.out)) hb); have n2_ := Aside0.mk (below_step (by repeat (first | (with_reducible first | exact HB.out | apply below_alloc | apply pw_below_drewN | apply below_drew1) | exact HB.out)) hb); clear HO198; clear HR202; clear HB; have HO198 := n0_; have HR202 := n1_; have HB := n2_; clear n0_ n1_ n2_; (try clear hb); (try clear hb2); (try clear hk); (try clear hi)))
              (try simp only [Act.put, List.setIfInBounds_toArray, List.set_cons_zero, List.set_cons_succ])
              go_cut [47] (fun v47 wc => ∃ (kq : Nat) (x47_10 : Bool), v47 = .bool x47_10 ∧ Aside0 (shelfmarklaw03_TupleKeeps.j0 kq l0 t203 t204 x47_10 = some r) ∧ Aside0 (kq ≤ k) ∧ Aside0 (Kd.C k37 wc Ao18 y199.length y199) ∧ Aside0 (Below w.heap.size w wc))
              case first =>
                have H := HC11.out
                clear HC11
                by_cases c20 : (l0.length : Int) < (y196.length : Int)
                · rw [if_pos c20] at H
                  have c20b0 : decide ((l0.length : Int) < (y196.length : Int)) = true := decide_eq_true c20
                  have c20b1 : decide (l0.length < y196.length) = true := decide_eq_true (Int.ofNat_lt.mp c20)
                  clear c20
                  (first | rw [c20b0] | (simp only [i64_w, i32_w]; rw [c20b0]) | skip)
                  by_cases c21 : ((rd_T37 y196 (l0.length : Int)).f0) = 7
                  · rw [if_pos c21] at H
                    have c21b0 : (((rd_T37 y196 (l0.length : Int)).f0) == 7) = true := beq_iff_eq.mpr c21
                    have c21b1 : (((rd_T37 y196 (l0.length : Int)).f0) != 7) = false := bne_eq_false_iff_eq.mpr c21
                    clear c21
                    have c22b0 := eq_true (of_decide_eq_true (by first | (with_reducible assumption) | assumption) : 0 ≤ (l0.length : Int))
                    have c23b0 := eq_true (of_decide_eq_true (by first | (with_reducible assumption) | assumption) : (l0.length : Int) ≤ (y196.length : Int))
                    obtain ⟨y206, hy206⟩ : ∃ y_ : List (S37), y_ = (y196.take ((l0.length : Int) : Int).toNat) := ⟨_, rfl⟩
                    replace H : ((shelfmarkref03_Same.f k y206 l0).bind fun t210 => (shelfmarklaw03_TupleKeeps.j0 k l0 t203 t204 (!t210))) = some r := by first | (rw [hy206]; with_reducible exact H) | (have H2_ := (Option.bind_some _ _).symm.trans H; rw [hy206]; with_reducible exact H2_) | (have H2_ := (Option.bind_some _ _).symm.trans H; with_reducible exact H2_) | with_reducible exact H | (rw [hy206]; exact H) | exact H
                    have Ny206 := Aside0.mk hy206
                    clear hy206
                    replace H := Option.bind_eq_some_iff.mp H
                    obtain ⟨t210, A240, H⟩ := H
                    replace H : (shelfmarklaw03_TupleKeeps.j0 k l0 t203 t204 (!t210)) = some r := H
                    have A24 := Aside0.mk A240
                    clear A240
                    have H' := Aside0.mk H
                    clear H
                    have p205 : 0 ≤ ((l0.length : Int) : Int) := of_decide_eq_true (by first | (with_reducible assumption) | assumption)
                    have q205 : (l0.length : Int) < (y196.length : Int) := of_decide_eq_true (by first | (with_reducible assumption) | assumption)
                    obtain ⟨ad205, e205, hx205_0, hx205_1, hx205_2⟩ := at_T37 (Kd.R_reads' HO198.out).2.2 (l0.length : Int) p205 q205
                    cases e205
                    (try simp only [Go.IntWalk.toNatUp] at hx205_0)
                    (try simp only [Go.IntWalk.toNatUp] at hx205_1)
                    (try simp only [Go.IntWalk.toNatUp] at hx205_2)
                    replace p205 := eq_true p205
                    replace q205 := eq_true q205
                    have q25 : ((l0.length : Int) : Int) ≤ ((y196.length : Int) : Int) := of_decide_eq_true (by first | (with_reducible assumption) | assumption)
                    obtain ⟨i025, hi025, _, hsz25, _⟩ := info_parts info37
                    have hroom25 : y196.length ≤ co18 := (Kd.R_reads' HO198.out).2.1
                    have hC25 : Kd.C k37 _ (some ad205) y196.length y196 := (Kd.R_reads' HO198.out).2.2
                    try clear hcut17
                    have hcut25 := cut_to (P := Tryd.prog) 22 37 .i64 Tryd.underlying22 hi025 (some ad205) y196.length co18 (l0.length : Int) (of_decide_eq_true (by first | (with_reducible assumption) | assumption)) q25 hroom25
                    have hr25 := Kd.C_take (m := ((l0.length : Int) : Int).toNat) hC25 (by omega)
                    have hy25 : y206.length = ((l0.length : Int) : Int).toNat := (by rw [Ny206.out, List.length_take]; omega)
                    rw [← Ny206.out] at hr25
                    rw [← hy25] at hcut25
                    have HR209 := Aside0.mk hr25
                    have HC209 := Aside0.mk (show y206.length ≤ co18 from by omega)
                    clear hr25 hC25 hroom25 hi025 hsz25
                    have KY25 := Aside0.mk hy25
                    clear hy25
                    have KL25 := Aside0.mk (show ((l0.length : Int) : Int).toNat ≤ y196.length from by omega)
                    replace q25 := eq_true q25
                    go_wp2_with (first | (go_at_call 13; (with_reducible refine (shelfmarkref03_Same.calls k _ _ y206 _ _ l0 t210 _ ?side1 ?side2 ?side3 ?side4 A24.out).mono ?_); (case side1 => repeat (first | exact (by repeat (first | (with_reducible exact HR209.out) | (with_reducible refine Kd.C_alloc ?_ _) | (with_reducible refine Kd.C_drewN ?_ _) | (with_reducible refine Kd.C_drew ?_) | exact HR209.out)) | (with_reducible refine Kd.C_alloc ?_ _) | (with_reducible refine Kd.C_drewN ?_ _) | (with_reducible refine Kd.C_drew ?_))); (case side2 => exact HC209.out); (case side3 => repeat (first | exact (Kd.C_below HR0.out HB.out) | (with_reducible refine Kd.C_alloc ?_ _) | (with_reducible refine Kd.C_drewN ?_ _) | (with_reducible refine Kd.C_drew ?_))); (case side4 => exact HC0.out); rintro e w' ⟨rfl, ⟨nd, rfl⟩⟩))
                    go_meet
                    case rel => exact ⟨_, (!t210), (by first | rfl | (simp; done) | (simp [*]; done) | (simp [ne_nil_bytes]; done) | (simp [eq_nil_bytes]; done)), H', ⟨by first | omega | exact Nat.le_refl _⟩, ⟨by repeat (first | (with_reducible exact HR202.out) | (with_reducible refine Kd.C_alloc ?_ _) | (with_reducible refine Kd.C_drewN ?_ _) | (with_reducible refine Kd.C_drew ?_) | exact HR202.out)⟩, ⟨by repeat (first | (with_reducible first | exact HB.out | apply below_alloc | apply pw_below_drewN | apply below_drew1) | exact HB.out)⟩⟩
                  · rw [if_neg c21] at H
                    have c21b0 : (((rd_T37 y196 (l0.length : Int)).f0) == 7) = false := beq_eq_false_iff_ne.mpr c21
                    have c21b1 : (((rd_T37 y196 (l0.length : Int)).f0) != 7) = true := bne_iff_ne.mpr c21
                    have H' := Aside0.mk H
                    clear H
                    have p205 : 0 ≤ ((l0.length : Int) : Int) := of_decide_eq_true (by first | (with_reducible assumption) | assumption)
                    have q205 : (l0.length : Int) < (y196.length : Int) := of_decide_eq_true (by first | (with_reducible assumption) | assumption)
                    obtain ⟨ad205, e205, hx205_0, hx205_1, hx205_2⟩ := at_T37 (Kd.R_reads' HO198.out).2.2 (l0.length : Int) p205 q205
                    cases e205
                    (try simp only [Go.IntWalk.toNatUp] at hx205_0)
                    (try simp only [Go.IntWalk.toNatUp] at hx205_1)
                    (try simp only [Go.IntWalk.toNatUp] at hx205_2)
                    replace p205 := eq_true p205
                    replace q205 := eq_true q205
                    go_wp2
                    go_meet
                    case rel => exact ⟨_, (true), (by first | rfl | (simp; done) | (simp [*]; done) | (simp [ne_nil_bytes]; done) | (simp [eq_nil_bytes]; done)), H', ⟨by first | omega | exact Nat.le_refl _⟩, ⟨by repeat (first | (with_reducible exact HR202.out) | (with_reducible refine Kd.C_alloc ?_ _) | (with_reducible refine Kd.C_drewN ?_ _) | (with_reducible refine Kd.C_drew ?_) | exact HR202.out)⟩, ⟨by repeat (first | (with_reducible first | exact HB.out | apply below_alloc | apply pw_below_drewN | apply below_drew1) | exact HB.out)⟩⟩
                · rw [if_neg c20] at H
                  exact absurd H (by simp)
              case rest =>
                clear HC11
                try clear c1
                try clear q1
                try clear c2
                try clear p2
                try clear q2
                try clear hx2
                try clear c3
                try clear c5
                try clear c6
                try clear c7
                try clear c8
                try clear c8b0
                try clear c8b0z
                try clear c8b1
                try clear c8b1z
                try clear c9
                try clear c9b0
                try clear c9b0z
                try clear c9b1
                try clear c9b1z
                try clear c10
                try clear q17
                try clear c20
                try clear c20b0
                try clear c20b0z
                try clear c20b1
                try clear c20b1z
                try clear p20
                try clear q20
                try clear hx20
                try clear c21
                try clear c21b0
                try clear c21b0z
                try clear c21b1
                try clear c21b1z
                try clear c22
                try clear c22b0
                try clear c22b0z
                try clear c23
                try clear c23b0
                try clear c23b0z
                try clear q25
                try clear hx205_0
                try clear hx205_1
                try clear hx205_2
                try clear p205
                try clear q17
                try clear q205
                try clear q25
                obtain ⟨kq, x47_10, rfl, HA, HJ10, HR202, HB⟩ := hcut
                cases kq with
                | zero => exact absurd HA.out (by simp [shelfmarklaw03_TupleKeeps.j0])
                | succ kj10 =>
                  have H := HA.out
                  clear HA
                  simp only [shelfmarklaw03_TupleKeeps.j0] at H
                  by_cases c26 : x47_10 = true
                  · subst c26
                    have H1 : (some false) = some r := by rw [if_pos rfl] at H; exact H
                    clear H
                    have H := H1
                    clear H1
                    obtain rfl := Option.some.inj H
                    go_wp2
                    go_ret
                    exact ⟨by first | rfl | (simp [errW_none, errW_some] <;> rfl) | (simp [*, errW_none, errW_some] <;> rfl), by repeat (first | (with_reducible first | exact HB.out | apply below_alloc | apply pw_below_drewN | apply below_drew1) | exact HB.out)⟩
                  · replace c26 := Bool.eq_false_iff.mpr c26
                    subst c26
                    have H1 : (if t204 = 0 then ((tuple_Vals.f kj10 t203).bind fun bt211 => ((tuple_Vals.f kj10 t203).bind fun bt215 => (shelfmarklaw03_TupleKeeps.l0 kj10 l0 bt211.1 bt215.1 0))) else (some (t203.toList == ([] : List UInt8)))) = some r := by rw [if_neg (show ¬ (false = true) by decide)] at H; exact H
                    clear H
                    have H := H1
                    clear H1
                    by_cases c27 : t204 = 0
                    · rw [if_pos c27] at H
                      have c27b0 : (t204 == 0) = true := beq_iff_eq.mpr c27
                      have c27b1 : (t204 != 0) = false := bne_eq_false_iff_eq.mpr c27
                      clear c27
                      replace H := Option.bind_eq_some_iff.mp H
                      obtain ⟨⟨t211, t212⟩, A280, H⟩ := H
                      replace H : ((tuple_Vals.f kj10 t203).bind fun bt215 => (shelfmarklaw03_TupleKeeps.l0 kj10 l0 t211 bt215.1 0)) = some r := H
                      have A28 := Aside0.mk A280
                      clear A280
                      replace H := Option.bind_eq_some_iff.mp H
                      obtain ⟨⟨t215, t216⟩, A290, H⟩ := H
                      replace H : (shelfmarklaw03_TupleKeeps.l0 kj10 l0 t211 t215 0) = some r := H
                      have A29 := Aside0.mk A290
                      clear A290
                      have H' := Aside0.mk H
                      clear H
                      go_wp2_with (first | ((with_reducible refine gate_callee (f := 11) rfl ?_); refine goesL_ (some 54) rfl rfl Tryd.func11 (by kernel_rfl) rfl #[.string t203] rfl (by (try simp only [List.map_toArray, List.map_cons, List.map_nil]); first | done | rfl | (simp only [List.length_drop, List.length_take]; rfl)) ?_; (with_reducible refine (tuple_Vals.calls kj10 t203 t211 t212 _ A28.out).mono ?_); rintro e w30 ⟨v213, rfl, ho0, hb⟩; refine ⟨_, rfl, ?_⟩; have n0_ := Aside0.mk (Kd.R_lower ho0 (below_size (by repeat (first | (with_reducible first | exact HB.out | apply below_alloc | apply pw_below_drewN | apply below_drew1) | exact HB.out)))); have n1_ := Aside0.mk (Kd.C_below (by repeat (first | (with_reducible exact HR202.out) | (with_reducible refine Kd.C_alloc ?_ _) | (with_reducible refine Kd.C_drewN ?_ _) | (with_reducible refine Kd.C_drew ?_) | exact HR202.out)) hb); have n2_ := Aside0.mk (below_step (by repeat (first | (with_reducible first | exact HB.out | apply below_alloc | apply pw_below_drewN | apply below_drew1) | exact HB.out)) hb); clear HR202; clear HB; have HO214 := n0_; have HR202 := n1_; have HB := n2_; clear n0_ n1_ n2_; (try clear hb); (try clear hb2); (try clear hk); (try clear hi); (try clear ho0)) | ((with_reducible refine gate_callee (f := 11) rfl ?_); refine goesL_ (some 59) rfl rfl Tryd.func11 (by kernel_rfl) rfl #[.string t203] rfl (by (try simp only [List.map_toArray, List.map_cons, List.map_nil]); first | done | rfl | (simp only [List.length_drop, List.length_take]; rfl)) ?_; (with_reducible refine (tuple_Vals.calls kj10 t203 t215 t216 _ A29.out).mono ?_); rintro e w31 ⟨v217, rfl, ho0, hb⟩; refine ⟨_, rfl, ?_⟩; have n0_ := Aside0.mk (Kd.R_elder' (by (with_reducible repeat (first | apply Kd.R_alloc | apply Kd.R_drewN | apply Kd.R_drew)); exact HO214.out) (Kd.R_base ho0) hb); have n1_ := Aside0.mk (Kd.R_lower (Kd.R_new' ho0 (Kd.R_lt (by (with_reducible repeat (first | apply Kd.R_alloc | apply Kd.R_drewN | apply Kd.R_drew)); exact HO214.out))) (below_size (by repeat (first | (with_reducible first | exact HB.out | apply below_alloc | apply pw_below_drewN | apply below_drew1) | exact HB.out)))); have n2_ := Aside0.mk (Kd.C_below (by repeat (first | (with_reducible exact HR202.out) | (with_reducible refine Kd.C_alloc ?_ _) | (with_reducible refine Kd.C_drewN ?_ _) | (with_reducible refine Kd.C_drew ?_) | exact HR202.out)) hb); have n3_ := Aside0.mk (below_step (by repeat (first | (with_reducible first | exact HB.out | apply below_alloc | apply pw_below_drewN | apply below_drew1) | exact HB.out)) hb); clear HO214; clear HR202; clear HB; have HO214 := n0_; have HO218 := n1_; have HR202 := n2_; have HB := n3_; clear n0_ n1_ n2_ n3_; (try clear hb); (try clear hb2); (try clear hk); (try clear hi); (try clear ho0)))
                      go_loopg [11] kj10 (fun kq v11 w' => ∃ (x7_2 : List (S37)) (x11_2 : Int), v11 = .int .i64 x11_2 ∧ Aside0 (shelfmarklaw03_TupleKeeps.l0 kq l0 x7_2 t215 x11_2 = some r) ∧ Aside0 (kq ≤ kj10) ∧ Aside0 (Kd.R k37 37 w' w.heap.size (fun k_ => some k_ ≠ (v217 : Value).ownBlock) v213 x7_2) ∧ Aside0 (Kd.R k37 37 w' w.heap.size (fun k_ => some k_ ≠ (v213 : Value).ownBlock) v217 t215) ∧ Aside0 (Below w.heap.size w w'))
                      case atStart => exact ⟨(t211), (0), (by first | rfl | (simp; done) | (simp [*]; done) | (simp [ne_nil_bytes]; done) | (simp [eq_nil_bytes]; done)), H', ⟨Nat.le_refl _⟩, ⟨by (with_reducible repeat (first | apply Kd.R_alloc | apply Kd.R_drewN | apply Kd.R_drew)); exact Kd.R_mono HO214.out (fun _ hk => hk.2)⟩, ⟨by (with_reducible repeat (first | apply Kd.R_alloc | apply Kd.R_drewN | apply Kd.R_drew)); exact Kd.R_mono HO218.out (fun _ hk => hk.2)⟩, ⟨by repeat (first | (with_reducible first | exact HB.out | apply below_alloc | apply pw_below_drewN | apply below_drew1) | exact HB.out)⟩⟩
                      case round =>
                        clear H'
                        try clear c1
                        try clear q1
                        try clear c2
                        try clear p2
                        try clear q2
                        try clear hx2
                        try clear c3
                        try clear c5
                        try clear c6
                        try clear c7
                        try clear c8
                        try clear c8b0
                        try clear c8b0z
                        try clear c8b1
                        try clear c8b1z
                        try clear c9
                        try clear c9b0
                        try clear c9b0z
                        try clear c9b1
                        try clear c9b1z
                        try clear c10
                        try clear c11
                        try clear q17
                        try clear c20
                        try clear c20b0
                        try clear c20b0z
                        try clear c20b1
                        try clear c20b1z
                        try clear p20
                        try clear q20
                        try clear hx20
                        try clear c21
                        try clear c21b0
                        try clear c21b0z
                        try clear c21b1
                        try clear c21b1z
                        try clear c22
                        try clear c22b0
                        try clear c22b0z
                        try clear c23
                        try clear c23b0
                        try clear c23b0z
                        try clear q25
                        try clear c26
                        try clear c27
                        try clear c27b0
                        try clear c27b0z
                        try clear c27b1
                        try clear c27b1z
                        try clear hx205_0
                        try clear hx205_1
                        try clear hx205_2
                        try clear p2
                        try clear p20
                        try clear p205
                        try clear q1
                        try clear q17
                        try clear q2
                        try clear q20
                        try clear q205
                        try clear q25
                        obtain ⟨x7_2, x11_2, rfl, HA, HK2, HO_7, HO_9, HB⟩ := hrel
                        cases gk with
                        | zero => exact absurd HA.out (by simp [shelfmarklaw03_TupleKeeps.l0])
                        | succ k2 =>
                          have H := HA.out
                          clear HA
                          simp only [shelfmarklaw03_TupleKeeps.l0] at H
                          by_cases c32 : x11_2 < (x7_2.length : Int)
                          · rw [if_pos c32] at H
                            have c32b0 : decide (x11_2 < (x7_2.length : Int)) = true := decide_eq_true c32
                            clear c32
                            by_cases c33 : 0 ≤ x11_2
                            · rw [if_pos c33] at H
                              have c33b0 : decide (0 ≤ x11_2) = true := decide_eq_true c33
                              clear c33
                              obtain ⟨y219, hy219⟩ : ∃ y_ : List (S37), y_ = (x7_2.set (x11_2 : Int).toNat (⟨9, 0, (⟨#[]⟩ : ByteArray)⟩ : S37)) := ⟨_, rfl⟩
                              replace H : (shelfmarklaw03_TupleKeeps.l0 k2 l0 y219 t215 (wrap64 (x11_2 + 1))) = some r := by first | (rw [hy219]; with_reducible exact H) | (have H2_ := (Option.bind_some _ _).symm.trans H; rw [hy219]; with_reducible exact H2_) | (have H2_ := (Option.bind_some _ _).symm.trans H; with_reducible exact H2_) | with_reducible exact H | (rw [hy219]; exact H) | exact H
                              have Ny219 := Aside0.mk hy219
                              clear hy219
                              have H' := Aside0.mk H
                              clear H
                              obtain ⟨Ao35, co35, eo35⟩ := Kd.R_slice HO_7.out
                              subst eo35
                              have p34 : 0 ≤ (x11_2 : Int) := of_decide_eq_true (by first | (with_reducible assumption) | assumption)
                              have q34 : (x11_2 : Int) < ((x7_2.length : Int) : Int) := of_decide_eq_true (by first | (with_reducible assumption) | assumption)
                              obtain ⟨go34, co34, eo34, gb34, gl34, cl34, HG34⟩ := Kd.R_form HO_7.out (by omega)
                              (first | cases eo34 | (injection eo34 with ea_ en_ ec_; (first | subst ea_ | (injection ea_ with ea_; subst ea_)); subst ec_; clear en_))
                              have GB34 := Aside0.mk gb34
                              have GG34 := Aside0.mk HG34
                              clear gb34 gl34 HG34
                              obtain ⟨ce34, hcl34, hM34, hcc34, hfr34⟩ := Kd.R_elem HO_7.out z37 (x11_2 : Int) p34 q34
                              obtain rfl := k37_openM hM34
                              have hx34_0 : wr.cell? ⟨go34, (x11_2 : Int).toNat * 3, none⟩ = some (.int .i64 ((rd_T37 x7_2 x11_2).f0)) := hcc34 0 _ rfl
                              have hx34_1 : wr.cell? ⟨go34, (x11_2 : Int).toNat * 3 + 1, none⟩ = some (.int .i64 ((rd_T37 x7_2 x11_2).f1)) := hcc34 1 _ rfl
                              have hx34_2 : wr.cell? ⟨go34, (x11_2 : Int).toNat * 3 + 2, none⟩ = some (.string ((rd_T37 x7_2 x11_2).f2)) := hcc34 2 _ rfl
                              have hf34_0 : wr.frozen? ⟨go34, (x11_2 : Int).toNat * 3, none⟩ = false := hfr34 0
                              have hf34_1 : wr.frozen? ⟨go34, (x11_2 : Int).toNat * 3 + 1, none⟩ = false := hfr34 1
                              have hf34_2 : wr.frozen? ⟨go34, (x11_2 : Int).toNat * 3 + 2, none⟩ = false := hfr34 2
                              clear hcl34 hcc34 hfr34 hM34
                              replace p34 := eq_true p34
                              replace q34 := eq_true q34
                              have HX36 := Aside0.mk (show Kd.R k37 37 wr w.heap.size (fun k_ => some k_ ≠ (v217 : Value).ownBlock) (.slice (some ⟨go34, 0, none⟩) x7_2.length co35) x7_2 from (by (with_reducible repeat (first | apply Kd.R_alloc | apply Kd.R_drewN | apply Kd.R_drew)); exact HO_7.out))
                              obtain ⟨ce36, hcl36, hM36, hcc36, hfr36⟩ := Kd.R_elem HX36.out z37 (x11_2 : Int) (of_decide_eq_true (by first | (with_reducible assumption) | assumption)) (by have h_ : (x11_2 : Int) < ((x7_2.length : Int) : Int) := of_decide_eq_true (by first | (with_reducible assumption) | assumption); first | exact h_ | (have e_ := (Kd.R_reads' HO_7.out).1; omega) | simpa using h_)
                              obtain rfl := k37_openM hM36
                              have HP36 := Kd.R_seg HX36.out (x11_2 : Int) (of_decide_eq_true (by first | (with_reducible assumption) | assumption)) (by have h_ : (x11_2 : Int) < ((x7_2.length : Int) : Int) := of_decide_eq_true (by first | (with_reducible assumption) | assumption); first | exact h_ | (have e_ := (Kd.R_reads' HO_7.out).1; omega) | simpa using h_) (seg := [.int .i64 9, .int .i64 0, .string (⟨#[]⟩ : ByteArray)]) (j := 0) hcl36 hcc36 (show 3 ≤ 3 from by decide) (x' := (⟨9, 0, (⟨#[]⟩ : ByteArray)⟩ : S37)) (k37_mkM _ _ _ (⟨9, 0, (⟨#[]⟩ : ByteArray)⟩ : S37) ) (fun _ hk => hk)
                              have hx36_0 := hcc36 0 _ rfl
                              (try simp only [show (k37).sz = 3 from rfl, Nat.mul_one, Nat.add_zero] at hx36_0)
                              have hf36_0 := hfr36 0
                              (try simp only [show (k37).sz = 3 from rfl, Nat.mul_one, Nat.add_zero] at hf36_0)
                              have hx36_1 := hcc36 1 _ rfl
                              (try simp only [show (k37).sz = 3 from rfl, Nat.mul_one, Nat.add_zero] at hx36_1)
                              have hf36_1 := hfr36 1
                              (try simp only [show (k37).sz = 3 from rfl, Nat.mul_one, Nat.add_zero] at hf36_1)
                              have hx36_2 := hcc36 2 _ rfl
                              (try simp only [show (k37).sz = 3 from rfl, Nat.mul_one, Nat.add_zero] at hx36_2)
                              have hf36_2 := hfr36 2
                              (try simp only [show (k37).sz = 3 from rfl, Nat.mul_one, Nat.add_zero] at hf36_2)
                              clear hcl36 hcc36 hfr36 hM36
                              go_wp2_with (first | ((with_reducible refine gate_store (t := 37) (p := 71) rfl ?_); refine store_event (t := 37) (p := 71) (v := ?vo_w37) (w1 := (((wr.setCell ⟨go34, (x11_2 : Int).toNat * 3, none⟩ (.int .i64 9)).setCell ⟨go34, (x11_2 : Int).toNat * 3 + 1, none⟩ (.int .i64 0)).setCell ⟨go34, (x11_2 : Int).toNat * 3 + 2, none⟩ (.string (⟨#[]⟩ : ByteArray)))) ?hg ?ho ?hn ?hr ?_; (case ho => rfl); (case hg => rfl); (case hn => rfl); (case hr => first | (go_simp; done) | (go_simp; rfl)); intro w37 hw; have hg : wr.grownBy w37 (some go34) := (by rw [hw]; exact HP36.2); have hp_ : Kd.R k37 37 w37 w.heap.size (fun k_ => some k_ ≠ (v217 : Value).ownBlock) (.slice (some ⟨go34, 0, none⟩) x7_2.length co35) y219 := (by rw [hw, Ny219.out]; exact HP36.1); clear HP36; have n0_ := Aside0.mk (hp_); have n1_ := Aside0.mk (Kd.R_after (v := (.slice (some ⟨go34, 0, none⟩) x7_2.length co35)) (v1 := (.slice (some ⟨go34, 0, none⟩) x7_2.length co35)) (ok := (fun _ => True)) (by (with_reducible repeat (first | apply Kd.R_alloc | apply Kd.R_drewN | apply Kd.R_drew)); exact Kd.R_mono HO_9.out (fun _ hk => ⟨trivial, hk⟩)) hg (.inl rfl)); have n2_ := Aside0.mk ((by rw [hw]; exact below_set (below_set (below_set (HB.out) GB34.out) GB34.out) GB34.out : Below w.heap.size w w37)); clear HO_7; clear HO_9; clear HB; have HO_7 := n0_; have HO_9 := n1_; have HB := n2_; clear n0_ n1_ n2_; clear hg hw hp_))
                              go_roundg k2
                              case measure => have := HJ10.out; have := HK2.out; omega
                              case rel => exact ⟨(y219), (wrap64 (x11_2 + 1)), (by first | rfl | (simp; done) | (simp [*]; done) | (simp [ne_nil_bytes]; done) | (simp [eq_nil_bytes]; done)), H', ⟨by have := HJ10.out; have := HK2.out; omega⟩, ⟨by (with_reducible repeat (first | apply Kd.R_alloc | apply Kd.R_drewN | apply Kd.R_drew)); exact HO_7.out⟩, ⟨by (with_reducible repeat (first | apply Kd.R_alloc | apply Kd.R_drewN | apply Kd.R_drew)); exact Kd.R_mono HO_9.out (fun _ hk => hk.2)⟩, ⟨by repeat (first | (with_reducible first | exact HB.out | apply below_alloc | apply pw_below_drewN | apply below_drew1) | exact HB.out)⟩⟩
                            · rw [if_neg c33] at H
                              exact absurd H (by simp)
                          · rw [if_neg c32] at H
                            have c32b0 : decide (x11_2 < (x7_2.length : Int)) = false := decide_eq_false c32
                            clear c32
                            by_cases c38 : x7_2.length < 4398046511104
                            · rw [if_pos c38] at H
                              have LMc38 := Aside0.mk c38
                              clear c38
                              obtain ⟨y220, hy220⟩ : ∃ y_ : List (S37), y_ = (x7_2 ++ [(⟨8, 0, (⟨#[]⟩ : ByteArray)⟩ : S37)]) := ⟨_, rfl⟩
                              replace H : ((shelfmarkref03_Same.f k2 t215 l0).bind fun t223 => (some t223)) = some r := by first | (rw [hy220]; with_reducible exact H) | (have H2_ := (Option.bind_some _ _).symm.trans H; rw [hy220]; with_reducible exact H2_) | (have H2_ := (Option.bind_some _ _).symm.trans H; with_reducible exact H2_) | with_reducible exact H | (rw [hy220]; exact H) | exact H
                              have Ny220 := Aside0.mk hy220
                              clear hy220
                              replace H := Option.bind_eq_some_iff.mp H
                              obtain ⟨t223, A390, H⟩ := H
                              replace H : (some t223) = some r := H
                              have A39 := Aside0.mk A390
                              clear A390
                              obtain rfl := Option.some.inj H
                              obtain ⟨Ao40, co40, eo40⟩ := Kd.R_slice HO_7.out
                              subst eo40
                              go_wp2_with (first | ((with_reducible refine gate_builtin (b := .append) (xs := #[.tmp 72, .tmp 74]) rfl ?_); (try (refine gate_guard (by rfl) ?_; dsimp only)); at_builtin; refine Kd.R_append k37 (w0 := w) w.heap.size rfl (.tmp 72) (.tmp 74) 22 37 (.agg #[(.int .i64 0), (.int .i64 0), (.string ⟨#[]⟩)]) 32 rfl Tryd.underlying22 info37 rfl (by decide) (by omega) (.slice Ao40 x7_2.length co40) x7_2 (⟨8, 0, (⟨#[]⟩ : ByteArray)⟩ : S37) [.int .i64 8, .int .i64 0, .string (⟨#[]⟩ : ByteArray)] (fun k_ => some k_ ≠ (v217 : Value).ownBlock) (fun _ => False) rfl rfl ?aP (fun _ hk => hk.elim) ?aF ?aO ?aB ?aS ?aL ?_; (case aP => exact k37_mkM _ _ _ (⟨8, 0, (⟨#[]⟩ : ByteArray)⟩ : S37)); (case aB => exact (by repeat (first | (with_reducible first | exact HB.out | apply below_alloc | apply pw_below_drewN | apply below_drew1) | exact HB.out))); (case aF => exact (fun k_ hk => Kd.fresh' (Kd.R_lt (by (with_reducible repeat (first | apply Kd.R_alloc | apply Kd.R_drewN | apply Kd.R_drew)); exact HO_9.out)) k_ hk)); (case aO => exact (by (with_reducible repeat (first | apply Kd.R_alloc | apply Kd.R_drewN | apply Kd.R_drew)); exact HO_7.out)); (case aS => exact (below_size (by repeat (first | (with_reducible first | exact HB.out | apply below_alloc | apply pw_below_drewN | apply below_drew1) | exact HB.out)))); (case aL => have := LMc38.out; omega); intro v221 w41 ho hb hg hat; rw [← Ny220.out] at ho; have n0_ := Aside0.mk (Kd.R_after (ok := (fun _ => True)) (by (with_reducible repeat (first | apply Kd.R_alloc | apply Kd.R_drewN | apply Kd.R_drew)); exact Kd.R_mono HO_9.out (fun _ hk => ⟨trivial, hk⟩)) hg hat); have n1_ := Aside0.mk (hb); have n2_ := Aside0.mk (ho); clear HO_9; clear HB; clear HO_7; have HO_9 := n0_; have HB := n1_; have HO222 := n2_; clear n0_ n1_ n2_; clear ho hb hg hat; obtain ⟨Ao42, co42, eo42⟩ := Kd.R_slice HO_9.out; subst eo42) | ((with_reducible refine gate_callee (f := 13) rfl ?_); refine goesL_ (some 78) rfl rfl Tryd.func13 (by kernel_rfl) rfl #[.slice Ao42 t215.length co42, .slice A0 l0.length c0] rfl (by (try simp only [List.map_toArray, List.map_cons, List.map_nil]); first | done | rfl | (simp only [List.length_drop, List.length_take]; rfl)) ?_; (with_reducible refine (shelfmarkref03_Same.calls k2 _ _ t215 _ _ l0 t223 _ ?side1 ?side2 ?side3 ?side4 A39.out).mono ?_); (case side1 => repeat (first | exact (Kd.R_reads' HO_9.out).2.2 | (with_reducible refine Kd.C_alloc ?_ _) | (with_reducible refine Kd.C_drewN ?_ _) | (with_reducible refine Kd.C_drew ?_))); (case side2 => exact (Kd.R_reads' HO_9.out).2.1); (case side3 => repeat (first | exact (Kd.C_below HR0.out HB.out) | (with_reducible refine Kd.C_alloc ?_ _) | (with_reducible refine Kd.C_drewN ?_ _) | (with_reducible refine Kd.C_drew ?_))); (case side4 => exact HC0.out); rintro e w' ⟨rfl, ⟨nd, rfl⟩⟩; refine ⟨_, rfl, ?_⟩))
                              go_ret
                              exact ⟨by first | rfl | (simp [errW_none, errW_some] <;> rfl) | (simp [*, errW_none, errW_some] <;> rfl), by repeat (first | (with_reducible first | exact HB.out | apply below_alloc | apply pw_below_drewN | apply below_drew1) | exact HB.out)⟩
                            · rw [if_neg c38] at H
                              exact absurd H (by simp)
                    · rw [if_neg c27] at H
                      have c27b0 : (t204 == 0) = false := beq_eq_false_iff_ne.mpr c27
                      have c27b1 : (t204 != 0) = true := bne_iff_ne.mpr c27
                      obtain rfl := Option.some.inj H
                      go_wp2
                      go_ret
                      exact ⟨by first | rfl | (simp [errW_none, errW_some] <;> rfl) | (simp [*, errW_none, errW_some] <;> rfl), by repeat (first | (with_reducible first | exact HB.out | apply below_alloc | apply pw_below_drewN | apply below_drew1) | exact HB.out)⟩
            · rw [if_neg c9] at H
              exact absurd H (by simp)
          · rw [if_neg c8] at H
            exact absurd H (by simp)
        · rw [if_neg c7] at H
          exact absurd H (by simp)
      · rw [if_neg c6] at H
        exact absurd H (by simp)
    · replace c5 := Bool.eq_false_iff.mpr c5
      subst c5
      have H1 : (some true) = some r := by rw [if_neg (show ¬ (false = true) by decide)] at H; exact H
      clear H
      have H := H1
      clear H1
      obtain rfl := Option.some.inj H
      go_enter Tryd.func5, Tryd.ntmps5
      go_wp2_with (first | ((with_reducible refine gate_callee (f := 8) rfl ?_); refine goesL_ (some 12) rfl rfl Tryd.func8 (by kernel_rfl) rfl #[] rfl (by (try simp only [List.map_toArray, List.map_cons, List.map_nil]); first | done | rfl | (simp only [List.length_drop, List.length_take]; rfl)) ?_; (with_reducible refine (shelfmarklaw03_awake.calls k  true _ A2.out).mono ?_); rintro e w43 ⟨rfl, hb⟩; refine ⟨_, rfl, ?_⟩; have n0_ := Aside0.mk (below_step (by repeat (first | (with_reducible first | exact HB.out | apply below_alloc | apply pw_below_drewN | apply below_drew1) | exact HB.out)) hb); clear HB; have HB := n0_; clear n0_; (try clear hb); (try clear hb2); (try clear hk); (try clear hi)) | ((with_reducible refine gate_callee (f := 9) rfl ?_); refine goesL_ (some 15) rfl rfl Tryd.func9 (by kernel_rfl) rfl #[.slice A0 l0.length c0, .int .i64 200] rfl (by (try simp only [List.map_toArray, List.map_cons, List.map_nil]); first | done | rfl | (simp only [List.length_drop, List.length_take]; rfl)) ?_; (with_reducible refine (shelfmarkref03_Light.calls k _ _ l0 200 false _ ?side1 ?side2 A4.out).mono ?_); (case side1 => repeat (first | exact (Kd.C_below HR0.out HB.out) | (with_reducible refine Kd.C_alloc ?_ _) | (with_reducible refine Kd.C_drewN ?_ _) | (with_reducible refine Kd.C_drew ?_))); (case side2 => exact HC0.out); rintro e w' ⟨rfl, ⟨nd, rfl⟩⟩; refine ⟨_, rfl, ?_⟩))
      go_ret
      exact ⟨by first | rfl | (simp [errW_none, errW_some] <;> rfl) | (simp [*, errW_none, errW_some] <;> rfl), by repeat (first | (with_reducible first | exact HB.out | apply below_alloc | apply pw_below_drewN | apply below_drew1) | exact HB.out)⟩
  · replace c3 := Bool.eq_false_iff.mpr c3
    subst c3
    have H1 : (some false) = some r := by rw [if_neg (show ¬ (false = true) by decide)] at H; exact H
    clear H
    have H := H1
    clear H1
    obtain rfl := Option.some.inj H
    go_enter Tryd.func5, Tryd.ntmps5
    go_wp2_with (first | ((with_reducible refine gate_callee (f := 8) rfl ?_); refine goesL_ (some 12) rfl rfl Tryd.func8 (by kernel_rfl) rfl #[] rfl (by (try simp only [List.map_toArray, List.map_cons, List.map_nil]); first | done | rfl | (simp only [List.length_drop, List.length_take]; rfl)) ?_; (with_reducible refine (shelfmarklaw03_awake.calls k  false _ A2.out).mono ?_); rintro e w44 ⟨rfl, hb⟩; refine ⟨_, rfl, ?_⟩; have n0_ := Aside0.mk (below_step (by repeat (first | (with_reducible first | exact HB.out | apply below_alloc | apply pw_below_drewN | apply below_drew1) | exact HB.out)) hb); clear HB; have HB := n0_; clear n0_; (try clear hb); (try clear hb2); (try clear hk); (try clear hi)))
    go_ret
    exact ⟨by first | rfl | (simp [errW_none, errW_some] <;> rfl) | (simp [*, errW_none, errW_some] <;> rfl), by repeat (first | (with_reducible first | exact HB.out | apply below_alloc | apply pw_below_drewN | apply below_drew1) | exact HB.out)⟩

end Go.Proofs.YtdaidcfpikeooaaDoor.PAll
