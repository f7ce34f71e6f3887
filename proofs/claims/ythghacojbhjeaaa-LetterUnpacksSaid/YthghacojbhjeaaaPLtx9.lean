-- Written by a program of this session for this claim (mp.py, over the kit's print); Lean checks it.
import Derived.Test.YthghacojbhjeaaaPLtx0
import Derived.Test.YthghacojbhjeaaaPLtx3
import Derived.Test.YthghacojbhjeaaaPLtx4
import Derived.Test.YthghacojbhjeaaaPLtx5
import Derived.Test.YthghacojbhjeaaaPLtx6
import Derived.Test.YthghacojbhjeaaaPLtx8
namespace Go.Proofs.Ythghacojbhjeaaa.PLt
open Go.RowKit Go.Proofs.YthghacojbhjeaaaW.PrintWords Go.Proofs.YthghacojbhjeaaaW.PrintLast Go.Proofs.YthghacojbhjeaaaW.PrintMore Go.Proofs.Ythghacojbhjeaaa.Fv Go.Proofs.Ythghacojbhjeaaa.Hl
attribute [local go_sem] max2_int min2_int max_two min_two max_three min_three max_four min_four str_gtr str_leq str_geq cell_set2   -- for this text's walks alone
set_option linter.unusedVariables false
set_option linter.unusedSimpArgs false

/-! ### shelfmarklaw13_LetterUnpacks: function 3 -/
def shelfmarklaw13_LetterUnpacks.j0 : Nat → ByteArray → Int → Bool → Int → Int → Int → Int → Int → Int → Int → ByteArray → ByteArray → List (S39) → List (S41) → Int → Bool → ByteArray → Option (Bool)
 | 0, _, _, _, _, _, _, _, _, _, _, _, _, _, _, _, _, _ => none
 | k + 1, x0, x6, x45, x183000, x183001, x183002, x183003, x183004, x183005, x183006, x183007, x183008, x183009, x183010, x183011, x183012, x183013 => if x45 = true then (some false) else (if x6 = 0 then ((letter_Pack.f k x183000 x183001 x183002 x183003 x183004 x183005 x183006 x183007 x183008 x183009 x183010 x183011 x183012 x183013).bind fun bt204 => (if bt204.1.toList = x0.toList then (some (bt204.2 == 0)) else (some false))) else (some true))
def shelfmarklaw13_LetterUnpacks.f (k : Nat) (a0 : ByteArray) : Option (Bool) := (shelfmarklaw13_awake.f k).bind fun t142 => (if t142 = true then (if (a0.size : Int) > 3000 then ((letter_Unpack.f k a0).bind fun bt143 => (if (a0.size : Int) ≤ 65536 then (some true) else (some (bt143.2.2.2.2.2.2.2.2.2.2.2.2.2.2 == 4)))) else ((letter_Unpack.f k a0).bind fun bt163 => ((shelfmarkref13_Unpack.f k a0).bind fun bt183 => ((shelfmarkref13_Same.f k bt163.1 bt163.2.1 bt163.2.2.1 bt163.2.2.2.1 bt163.2.2.2.2.1 bt163.2.2.2.2.2.1 bt163.2.2.2.2.2.2.1 bt163.2.2.2.2.2.2.2.1 bt163.2.2.2.2.2.2.2.2.1 bt163.2.2.2.2.2.2.2.2.2.1 bt163.2.2.2.2.2.2.2.2.2.2.1 bt163.2.2.2.2.2.2.2.2.2.2.2.1 bt163.2.2.2.2.2.2.2.2.2.2.2.2.1 bt163.2.2.2.2.2.2.2.2.2.2.2.2.2.1 bt183.1 bt183.2.1 bt183.2.2.1 bt183.2.2.2.1 bt183.2.2.2.2.1 bt183.2.2.2.2.2.1 bt183.2.2.2.2.2.2.1 bt183.2.2.2.2.2.2.2.1 bt183.2.2.2.2.2.2.2.2.1 bt183.2.2.2.2.2.2.2.2.2.1 bt183.2.2.2.2.2.2.2.2.2.2.1 bt183.2.2.2.2.2.2.2.2.2.2.2.1 bt183.2.2.2.2.2.2.2.2.2.2.2.2.1 bt183.2.2.2.2.2.2.2.2.2.2.2.2.2.1).bind fun t203 => (if t203 = true then (shelfmarklaw13_LetterUnpacks.j0 k a0 bt163.2.2.2.2.2.2.2.2.2.2.2.2.2.2 (bt163.2.2.2.2.2.2.2.2.2.2.2.2.2.2 != bt183.2.2.2.2.2.2.2.2.2.2.2.2.2.2) bt163.1 bt163.2.1 bt163.2.2.1 bt163.2.2.2.1 bt163.2.2.2.2.1 bt163.2.2.2.2.2.1 bt163.2.2.2.2.2.2.1 bt163.2.2.2.2.2.2.2.1 bt163.2.2.2.2.2.2.2.2.1 bt163.2.2.2.2.2.2.2.2.2.1 bt163.2.2.2.2.2.2.2.2.2.2.1 bt163.2.2.2.2.2.2.2.2.2.2.2.1 bt163.2.2.2.2.2.2.2.2.2.2.2.2.1 bt163.2.2.2.2.2.2.2.2.2.2.2.2.2.1) else (shelfmarklaw13_LetterUnpacks.j0 k a0 bt163.2.2.2.2.2.2.2.2.2.2.2.2.2.2 true bt163.1 bt163.2.1 bt163.2.2.1 bt163.2.2.2.1 bt163.2.2.2.2.1 bt163.2.2.2.2.2.1 bt163.2.2.2.2.2.2.1 bt163.2.2.2.2.2.2.2.1 bt163.2.2.2.2.2.2.2.2.1 bt163.2.2.2.2.2.2.2.2.2.1 bt163.2.2.2.2.2.2.2.2.2.2.1 bt163.2.2.2.2.2.2.2.2.2.2.2.1 bt163.2.2.2.2.2.2.2.2.2.2.2.2.1 bt163.2.2.2.2.2.2.2.2.2.2.2.2.2.1)))))) else (some false))
theorem shelfmarklaw13_LetterUnpacks.mono_l : ∀ k, (∀ y0 y1 y2 y3 y4 y5 y6 y7 y8 y9 y10 y11 y12 y13 y14 y15 y16, LeO (shelfmarklaw13_LetterUnpacks.j0 k y0 y1 y2 y3 y4 y5 y6 y7 y8 y9 y10 y11 y12 y13 y14 y15 y16) (shelfmarklaw13_LetterUnpacks.j0 (k + 1) y0 y1 y2 y3 y4 y5 y6 y7 y8 y9 y10 y11 y12 y13 y14 y15 y16))
 | 0 => fun _ _ _ _ _ _ _ _ _ _ _ _ _ _ _ _ _ r h => by simp [shelfmarklaw13_LetterUnpacks.j0] at h
 | k + 1 => by
  have ih0 := shelfmarklaw13_LetterUnpacks.mono_l k
  ·intro y0 y1 y2 y3 y4 y5 y6 y7 y8 y9 y10 y11 y12 y13 y14 y15 y16
   unfold shelfmarklaw13_LetterUnpacks.j0
   repeat' first
   | (with_reducible exact ih0 _ _ _ _ _ _ _ _ _ _ _ _ _ _ _ _ _)
   | (with_reducible exact letter_Pack.mono _ _ _ _ _ _ _ _ _ _ _ _ _ _ _)
   | (with_reducible exact letter_Unpack.mono _ _)
   | (with_reducible exact shelfmarklaw13_awake.mono _)
   | (with_reducible exact shelfmarkref13_Same.mono _ _ _ _ _ _ _ _ _ _ _ _ _ _ _ _ _ _ _ _ _ _ _ _ _ _ _ _ _)
   | (with_reducible exact shelfmarkref13_Unpack.mono _ _)
   | (with_reducible exact LeO.refl _)
   | (with_reducible exact LeO.none _)
   | (with_reducible refine LeO.ite ?_ ?_)
   | (with_reducible refine LeO.bind ?_ (fun _ => ?_))
   | exact ih0 _ _ _ _ _ _ _ _ _ _ _ _ _ _ _ _ _
   | exact letter_Pack.mono _ _ _ _ _ _ _ _ _ _ _ _ _ _ _
   | exact letter_Unpack.mono _ _
   | exact shelfmarklaw13_awake.mono _
   | exact shelfmarkref13_Same.mono _ _ _ _ _ _ _ _ _ _ _ _ _ _ _ _ _ _ _ _ _ _ _ _ _ _ _ _ _
   | exact shelfmarkref13_Unpack.mono _ _
   | exact LeO.none _
   | refine LeO.ite ?_ ?_
   | refine LeO.bind ?_ (fun _ => ?_)
theorem shelfmarklaw13_LetterUnpacks.mono : ∀ a0 k, LeO (shelfmarklaw13_LetterUnpacks.f k a0) (shelfmarklaw13_LetterUnpacks.f (k + 1) a0) := by
 intro a0 k
 have ih0 := shelfmarklaw13_LetterUnpacks.mono_l k
 unfold shelfmarklaw13_LetterUnpacks.f
 repeat' first
   | (with_reducible exact ih0 _ _ _ _ _ _ _ _ _ _ _ _ _ _ _ _ _)
   | (with_reducible exact letter_Pack.mono _ _ _ _ _ _ _ _ _ _ _ _ _ _ _)
   | (with_reducible exact letter_Unpack.mono _ _)
   | (with_reducible exact shelfmarklaw13_awake.mono _)
   | (with_reducible exact shelfmarkref13_Same.mono _ _ _ _ _ _ _ _ _ _ _ _ _ _ _ _ _ _ _ _ _ _ _ _ _ _ _ _ _)
   | (with_reducible exact shelfmarkref13_Unpack.mono _ _)
   | (with_reducible exact LeO.refl _)
   | (with_reducible exact LeO.none _)
   | (with_reducible refine LeO.ite ?_ ?_)
   | (with_reducible refine LeO.bind ?_ (fun _ => ?_))
   | exact ih0 _ _ _ _ _ _ _ _ _ _ _ _ _ _ _ _ _
   | exact letter_Pack.mono _ _ _ _ _ _ _ _ _ _ _ _ _ _ _
   | exact letter_Unpack.mono _ _
   | exact shelfmarklaw13_awake.mono _
   | exact shelfmarkref13_Same.mono _ _ _ _ _ _ _ _ _ _ _ _ _ _ _ _ _ _ _ _ _ _ _ _ _ _ _ _ _
   | exact shelfmarkref13_Unpack.mono _ _
   | exact LeO.none _
   | refine LeO.ite ?_ ?_
   | refine LeO.bind ?_ (fun _ => ?_)
set_option maxHeartbeats 8000000 in
set_option maxRecDepth 100000 in
theorem shelfmarklaw13_LetterUnpacks.calls (k : Nat) (a0 : ByteArray) (r : Bool) (w : World) (h : shelfmarklaw13_LetterUnpacks.f k a0 = some r) (hlaw : r = true) :
  Calls Try.prog 3 #[.string a0] w fun e w' => e = .returned (.bool r) ∧ Below w.heap.size w w' := by
 have HLAW := Aside0.mk hlaw
 clear hlaw
 have hu27 := Try.underlying27
 have HB := Aside0.mk (Below.refl w.heap.size w)
 have H : ((shelfmarklaw13_awake.f k).bind fun t142 => (if t142 = true then (if (a0.size : Int) > 3000 then ((letter_Unpack.f k a0).bind fun bt143 => (if (a0.size : Int) ≤ 65536 then (some true) else (some (bt143.2.2.2.2.2.2.2.2.2.2.2.2.2.2 == 4)))) else ((letter_Unpack.f k a0).bind fun bt163 => ((shelfmarkref13_Unpack.f k a0).bind fun bt183 => ((shelfmarkref13_Same.f k bt163.1 bt163.2.1 bt163.2.2.1 bt163.2.2.2.1 bt163.2.2.2.2.1 bt163.2.2.2.2.2.1 bt163.2.2.2.2.2.2.1 bt163.2.2.2.2.2.2.2.1 bt163.2.2.2.2.2.2.2.2.1 bt163.2.2.2.2.2.2.2.2.2.1 bt163.2.2.2.2.2.2.2.2.2.2.1 bt163.2.2.2.2.2.2.2.2.2.2.2.1 bt163.2.2.2.2.2.2.2.2.2.2.2.2.1 bt163.2.2.2.2.2.2.2.2.2.2.2.2.2.1 bt183.1 bt183.2.1 bt183.2.2.1 bt183.2.2.2.1 bt183.2.2.2.2.1 bt183.2.2.2.2.2.1 bt183.2.2.2.2.2.2.1 bt183.2.2.2.2.2.2.2.1 bt183.2.2.2.2.2.2.2.2.1 bt183.2.2.2.2.2.2.2.2.2.1 bt183.2.2.2.2.2.2.2.2.2.2.1 bt183.2.2.2.2.2.2.2.2.2.2.2.1 bt183.2.2.2.2.2.2.2.2.2.2.2.2.1 bt183.2.2.2.2.2.2.2.2.2.2.2.2.2.1).bind fun t203 => (if t203 = true then (shelfmarklaw13_LetterUnpacks.j0 k a0 bt163.2.2.2.2.2.2.2.2.2.2.2.2.2.2 (bt163.2.2.2.2.2.2.2.2.2.2.2.2.2.2 != bt183.2.2.2.2.2.2.2.2.2.2.2.2.2.2) bt163.1 bt163.2.1 bt163.2.2.1 bt163.2.2.2.1 bt163.2.2.2.2.1 bt163.2.2.2.2.2.1 bt163.2.2.2.2.2.2.1 bt163.2.2.2.2.2.2.2.1 bt163.2.2.2.2.2.2.2.2.1 bt163.2.2.2.2.2.2.2.2.2.1 bt163.2.2.2.2.2.2.2.2.2.2.1 bt163.2.2.2.2.2.2.2.2.2.2.2.1 bt163.2.2.2.2.2.2.2.2.2.2.2.2.1 bt163.2.2.2.2.2.2.2.2.2.2.2.2.2.1) else (shelfmarklaw13_LetterUnpacks.j0 k a0 bt163.2.2.2.2.2.2.2.2.2.2.2.2.2.2 true bt163.1 bt163.2.1 bt163.2.2.1 bt163.2.2.2.1 bt163.2.2.2.2.1 bt163.2.2.2.2.2.1 bt163.2.2.2.2.2.2.1 bt163.2.2.2.2.2.2.2.1 bt163.2.2.2.2.2.2.2.2.1 bt163.2.2.2.2.2.2.2.2.2.1 bt163.2.2.2.2.2.2.2.2.2.2.1 bt163.2.2.2.2.2.2.2.2.2.2.2.1 bt163.2.2.2.2.2.2.2.2.2.2.2.2.1 bt163.2.2.2.2.2.2.2.2.2.2.2.2.2.1)))))) else (some false))) = some r := h
 clear h
 replace H := Option.bind_eq_some_iff.mp H
 obtain ⟨t142, A20, H⟩ := H
 replace H : (if t142 = true then (if (a0.size : Int) > 3000 then ((letter_Unpack.f k a0).bind fun bt143 => (if (a0.size : Int) ≤ 65536 then (some true) else (some (bt143.2.2.2.2.2.2.2.2.2.2.2.2.2.2 == 4)))) else ((letter_Unpack.f k a0).bind fun bt163 => ((shelfmarkref13_Unpack.f k a0).bind fun bt183 => ((shelfmarkref13_Same.f k bt163.1 bt163.2.1 bt163.2.2.1 bt163.2.2.2.1 bt163.2.2.2.2.1 bt163.2.2.2.2.2.1 bt163.2.2.2.2.2.2.1 bt163.2.2.2.2.2.2.2.1 bt163.2.2.2.2.2.2.2.2.1 bt163.2.2.2.2.2.2.2.2.2.1 bt163.2.2.2.2.2.2.2.2.2.2.1 bt163.2.2.2.2.2.2.2.2.2.2.2.1 bt163.2.2.2.2.2.2.2.2.2.2.2.2.1 bt163.2.2.2.2.2.2.2.2.2.2.2.2.2.1 bt183.1 bt183.2.1 bt183.2.2.1 bt183.2.2.2.1 bt183.2.2.2.2.1 bt183.2.2.2.2.2.1 bt183.2.2.2.2.2.2.1 bt183.2.2.2.2.2.2.2.1 bt183.2.2.2.2.2.2.2.2.1 bt183.2.2.2.2.2.2.2.2.2.1 bt183.2.2.2.2.2.2.2.2.2.2.1 bt183.2.2.2.2.2.2.2.2.2.2.2.1 bt183.2.2.2.2.2.2.2.2.2.2.2.2.1 bt183.2.2.2.2.2.2.2.2.2.2.2.2.2.1).bind fun t203 => (if t203 = true then (shelfmarklaw13_LetterUnpacks.j0 k a0 bt163.2.2.2.2.2.2.2.2.2.2.2.2.2.2 (bt163.2.2.2.2.2.2.2.2.2.2.2.2.2.2 != bt183.2.2.2.2.2.2.2.2.2.2.2.2.2.2) bt163.1 bt163.2.1 bt163.2.2.1 bt163.2.2.2.1 bt163.2.2.2.2.1 bt163.2.2.2.2.2.1 bt163.2.2.2.2.2.2.1 bt163.2.2.2.2.2.2.2.1 bt163.2.2.2.2.2.2.2.2.1 bt163.2.2.2.2.2.2.2.2.2.1 bt163.2.2.2.2.2.2.2.2.2.2.1 bt163.2.2.2.2.2.2.2.2.2.2.2.1 bt163.2.2.2.2.2.2.2.2.2.2.2.2.1 bt163.2.2.2.2.2.2.2.2.2.2.2.2.2.1) else (shelfmarklaw13_LetterUnpacks.j0 k a0 bt163.2.2.2.2.2.2.2.2.2.2.2.2.2.2 true bt163.1 bt163.2.1 bt163.2.2.1 bt163.2.2.2.1 bt163.2.2.2.2.1 bt163.2.2.2.2.2.1 bt163.2.2.2.2.2.2.1 bt163.2.2.2.2.2.2.2.1 bt163.2.2.2.2.2.2.2.2.1 bt163.2.2.2.2.2.2.2.2.2.1 bt163.2.2.2.2.2.2.2.2.2.2.1 bt163.2.2.2.2.2.2.2.2.2.2.2.1 bt163.2.2.2.2.2.2.2.2.2.2.2.2.1 bt163.2.2.2.2.2.2.2.2.2.2.2.2.2.1)))))) else (some false)) = some r := H
 have A2 := Aside0.mk A20
 clear A20
 by_cases c3 : t142 = true
 rotate_left
 ·replace c3 := Bool.eq_false_iff.mpr c3
  subst c3
  have H1 : (some false) = some r := by rw [if_neg (show ¬ (false = true) by decide)] at H; exact H
  clear H
  have H := H1
  clear H1
  obtain rfl := Option.some.inj H
  exact absurd HLAW.out (by decide)
 subst c3
 have H1 : (if (a0.size : Int) > 3000 then ((letter_Unpack.f k a0).bind fun bt143 => (if (a0.size : Int) ≤ 65536 then (some true) else (some (bt143.2.2.2.2.2.2.2.2.2.2.2.2.2.2 == 4)))) else ((letter_Unpack.f k a0).bind fun bt163 => ((shelfmarkref13_Unpack.f k a0).bind fun bt183 => ((shelfmarkref13_Same.f k bt163.1 bt163.2.1 bt163.2.2.1 bt163.2.2.2.1 bt163.2.2.2.2.1 bt163.2.2.2.2.2.1 bt163.2.2.2.2.2.2.1 bt163.2.2.2.2.2.2.2.1 bt163.2.2.2.2.2.2.2.2.1 bt163.2.2.2.2.2.2.2.2.2.1 bt163.2.2.2.2.2.2.2.2.2.2.1 bt163.2.2.2.2.2.2.2.2.2.2.2.1 bt163.2.2.2.2.2.2.2.2.2.2.2.2.1 bt163.2.2.2.2.2.2.2.2.2.2.2.2.2.1 bt183.1 bt183.2.1 bt183.2.2.1 bt183.2.2.2.1 bt183.2.2.2.2.1 bt183.2.2.2.2.2.1 bt183.2.2.2.2.2.2.1 bt183.2.2.2.2.2.2.2.1 bt183.2.2.2.2.2.2.2.2.1 bt183.2.2.2.2.2.2.2.2.2.1 bt183.2.2.2.2.2.2.2.2.2.2.1 bt183.2.2.2.2.2.2.2.2.2.2.2.1 bt183.2.2.2.2.2.2.2.2.2.2.2.2.1 bt183.2.2.2.2.2.2.2.2.2.2.2.2.2.1).bind fun t203 => (if t203 = true then (shelfmarklaw13_LetterUnpacks.j0 k a0 bt163.2.2.2.2.2.2.2.2.2.2.2.2.2.2 (bt163.2.2.2.2.2.2.2.2.2.2.2.2.2.2 != bt183.2.2.2.2.2.2.2.2.2.2.2.2.2.2) bt163.1 bt163.2.1 bt163.2.2.1 bt163.2.2.2.1 bt163.2.2.2.2.1 bt163.2.2.2.2.2.1 bt163.2.2.2.2.2.2.1 bt163.2.2.2.2.2.2.2.1 bt163.2.2.2.2.2.2.2.2.1 bt163.2.2.2.2.2.2.2.2.2.1 bt163.2.2.2.2.2.2.2.2.2.2.1 bt163.2.2.2.2.2.2.2.2.2.2.2.1 bt163.2.2.2.2.2.2.2.2.2.2.2.2.1 bt163.2.2.2.2.2.2.2.2.2.2.2.2.2.1) else (shelfmarklaw13_LetterUnpacks.j0 k a0 bt163.2.2.2.2.2.2.2.2.2.2.2.2.2.2 true bt163.1 bt163.2.1 bt163.2.2.1 bt163.2.2.2.1 bt163.2.2.2.2.1 bt163.2.2.2.2.2.1 bt163.2.2.2.2.2.2.1 bt163.2.2.2.2.2.2.2.1 bt163.2.2.2.2.2.2.2.2.1 bt163.2.2.2.2.2.2.2.2.2.1 bt163.2.2.2.2.2.2.2.2.2.2.1 bt163.2.2.2.2.2.2.2.2.2.2.2.1 bt163.2.2.2.2.2.2.2.2.2.2.2.2.1 bt163.2.2.2.2.2.2.2.2.2.2.2.2.2.1)))))) = some r := by rw [if_pos rfl] at H; exact H
 clear H
 have H := H1
 clear H1
 by_cases c4 : (a0.size : Int) > 3000
 ·rw [if_pos c4] at H
  have c4b0 : decide (3000 < (a0.size : Int)) = true := decide_eq_true c4
  have c4b1 : decide (3000 < a0.size) = true := decide_eq_true (by omega)
  clear c4
  replace H := Option.bind_eq_some_iff.mp H
  obtain ⟨⟨t143, t144, t145, t146, t147, t148, t149, t150, t151, t152, t155, t158, t159, t160, t161⟩, A50, H⟩ := H
  replace H : (if (a0.size : Int) ≤ 65536 then (some true) else (some (t161 == 4))) = some r := H
  have A5 := Aside0.mk A50
  clear A50
  by_cases c6 : (a0.size : Int) ≤ 65536
  ·rw [if_pos c6] at H
   have c6b0 : decide ((a0.size : Int) ≤ 65536) = true := decide_eq_true c6
   have c6b1 : decide (a0.size ≤ 65536) = true := decide_eq_true (by omega)
   clear c6
   obtain rfl := Option.some.inj H
   simp only [Option.some.injEq, Prod.mk.injEq] at H
   obtain ⟨rfl⟩ := H
   go_enter Try.func3, Try.ntmps3
   go_wp2_with (first | ((with_reducible refine gate_callee (f := 7) rfl ?_); refine goesL_ (some 10) rfl rfl Try.func7 (by kernel_rfl) rfl #[] rfl (by (try simp only [List.map_toArray, List.map_cons, List.map_nil]); first | done | rfl | (simp only [List.length_drop, List.length_take]; rfl)) ?_; (with_reducible refine (shelfmarklaw13_awake.calls k  true _ A2.out).mono ?_); rintro e w7 ⟨rfl, hb⟩; refine ⟨_, rfl, ?_⟩; have n0_ := Aside0.mk (below_step (hL HB.out) hb); clear HB; have HB := n0_; clear n0_; (try clear hb); (try clear hb2); (try clear hk); (try clear hi)) | ((with_reducible refine gate_callee (f := 8) rfl ?_); refine goesL_ (some 17) rfl rfl Try.func8 (by kernel_rfl) rfl #[.string a0] rfl (by (try simp only [List.map_toArray, List.map_cons, List.map_nil]); first | done | rfl | (simp only [List.length_drop, List.length_take]; rfl)) ?_; (with_reducible refine (letter_Unpack.calls k a0 t143 t144 t145 t146 t147 t148 t149 t150 t151 t152 t155 t158 t159 t160 t161 _ A5.out).mono ?_); rintro e w8 ⟨v153, v156, rfl, ho0, ho1, hb⟩; refine ⟨_, rfl, ?_⟩; have n0_ := Aside0.mk (Kd.R_lower ho0 (below_size (hL HB.out))); have n1_ := Aside0.mk (Kd.R_lower ho1 (below_size (hL HB.out))); have n2_ := Aside0.mk (below_step (hL HB.out) hb); clear HB; have HO154 := n0_; have HO157 := n1_; have HB := n2_; clear n0_ n1_ n2_; (try clear hb); (try clear hb2); (try clear hk); (try clear hi); (try clear ho0); (try clear ho1)) | ((with_reducible refine gate_dst (N := 3) rfl ?_); refine box_event ?hg (N := 3) ?hd (cs := #[.int .i64 0, .int .i64 0, .int .i64 0, .int .i64 0, .int .i64 0, .int .i64 0, .int .i64 0, .string (⟨#[]⟩ : ByteArray), .string (⟨#[]⟩ : ByteArray), .slice none 0 0, .slice none 0 0, .int .i64 0, .bool false, .string (⟨#[]⟩ : ByteArray)]) (t := 27) ?hr ?_; (case hd => rfl); (case hg => rfl); (case hr => first | (go_simp; done) | (go_simp; rfl)); intro gb162 hg w9 hbox hb; have n0_ := Aside0.mk (Kd.R_below (rL HO154.out) hb); have n1_ := Aside0.mk (Kd.R_below (rL HO157.out) hb); have n2_ := Aside0.mk (below_step (hL HB.out) hb); have n3_ := Aside0.mk (hbox); have n4_ := Above.mk ((by rw [hg]; exact (below_size (hL HB.out)) : w.heap.size ≤ gb162)); have n5_ := Above.mk ((by rw [hg]; exact (below_size (hL HB.out)) : w.heap.size ≤ gb162)); clear HO154; clear HO157; clear HB; have HO154 := n0_; have HO157 := n1_; have HB := n2_; have BK162 := n3_; have GW162 := n4_; have GE162 := n5_; clear n0_ n1_ n2_ n3_ n4_ n5_; clear hb hbox hg; have hcz10_0 : w9.cell? ⟨gb162, 0, none⟩ = some (.int .i64 0) := (blk_cell BK162.out 0).trans rfl; have hcz10_1 : w9.cell? ⟨gb162, 1, none⟩ = some (.int .i64 0) := (blk_cell BK162.out 1).trans rfl; have hcz10_2 : w9.cell? ⟨gb162, 2, none⟩ = some (.int .i64 0) := (blk_cell BK162.out 2).trans rfl; have hcz10_3 : w9.cell? ⟨gb162, 3, none⟩ = some (.int .i64 0) := (blk_cell BK162.out 3).trans rfl; have hcz10_4 : w9.cell? ⟨gb162, 4, none⟩ = some (.int .i64 0) := (blk_cell BK162.out 4).trans rfl; have hcz10_5 : w9.cell? ⟨gb162, 5, none⟩ = some (.int .i64 0) := (blk_cell BK162.out 5).trans rfl; have hcz10_6 : w9.cell? ⟨gb162, 6, none⟩ = some (.int .i64 0) := (blk_cell BK162.out 6).trans rfl; have hcz10_7 : w9.cell? ⟨gb162, 7, none⟩ = some (.string (⟨#[]⟩ : ByteArray)) := (blk_cell BK162.out 7).trans rfl; have hcz10_8 : w9.cell? ⟨gb162, 8, none⟩ = some (.string (⟨#[]⟩ : ByteArray)) := (blk_cell BK162.out 8).trans rfl; have hcz10_9 : w9.cell? ⟨gb162, 9, none⟩ = some (.slice none 0 0) := (blk_cell BK162.out 9).trans rfl; have hcz10_10 : w9.cell? ⟨gb162, 10, none⟩ = some (.slice none 0 0) := (blk_cell BK162.out 10).trans rfl; have hcz10_11 : w9.cell? ⟨gb162, 11, none⟩ = some (.int .i64 0) := (blk_cell BK162.out 11).trans rfl; have hcz10_12 : w9.cell? ⟨gb162, 12, none⟩ = some (.bool false) := (blk_cell BK162.out 12).trans rfl; have hcz10_13 : w9.cell? ⟨gb162, 13, none⟩ = some (.string (⟨#[]⟩ : ByteArray)) := (blk_cell BK162.out 13).trans rfl; have hfz10_0 := blk_frozen BK162.out 0; have hfz10_1 := blk_frozen BK162.out 1; have hfz10_2 := blk_frozen BK162.out 2; have hfz10_3 := blk_frozen BK162.out 3; have hfz10_4 := blk_frozen BK162.out 4; have hfz10_5 := blk_frozen BK162.out 5; have hfz10_6 := blk_frozen BK162.out 6; have hfz10_7 := blk_frozen BK162.out 7; have hfz10_8 := blk_frozen BK162.out 8; have hfz10_9 := blk_frozen BK162.out 9; have hfz10_10 := blk_frozen BK162.out 10; have hfz10_11 := blk_frozen BK162.out 11; have hfz10_12 := blk_frozen BK162.out 12; have hfz10_13 := blk_frozen BK162.out 13; obtain ⟨Ao11, co11, eo11⟩ := Kd.R_slice HO154.out; subst eo11; obtain ⟨Ao12, co12, eo12⟩ := Kd.R_slice HO157.out; subst eo12))
   go_ret
   exact ⟨by first | rfl | (simp [errW_none, errW_some] <;> rfl) | (simp [*, errW_none, errW_some] <;> rfl), hL HB.out⟩
  rw [if_neg c6] at H
  have c6b0 : decide ((a0.size : Int) ≤ 65536) = false := decide_eq_false c6
  have c6b1 : decide (a0.size ≤ 65536) = false := decide_eq_false (by omega)
  clear c6
  obtain rfl := Option.some.inj H
  simp only [Option.some.injEq, Prod.mk.injEq] at H
  obtain ⟨rfl⟩ := H
  go_enter Try.func3, Try.ntmps3
  go_wp2_with (first | ((with_reducible refine gate_callee (f := 7) rfl ?_); refine goesL_ (some 10) rfl rfl Try.func7 (by kernel_rfl) rfl #[] rfl (by (try simp only [List.map_toArray, List.map_cons, List.map_nil]); first | done | rfl | (simp only [List.length_drop, List.length_take]; rfl)) ?_; (with_reducible refine (shelfmarklaw13_awake.calls k  true _ A2.out).mono ?_); rintro e w13 ⟨rfl, hb⟩; refine ⟨_, rfl, ?_⟩; have n0_ := Aside0.mk (below_step (hL HB.out) hb); clear HB; have HB := n0_; clear n0_; (try clear hb); (try clear hb2); (try clear hk); (try clear hi)) | ((with_reducible refine gate_callee (f := 8) rfl ?_); refine goesL_ (some 17) rfl rfl Try.func8 (by kernel_rfl) rfl #[.string a0] rfl (by (try simp only [List.map_toArray, List.map_cons, List.map_nil]); first | done | rfl | (simp only [List.length_drop, List.length_take]; rfl)) ?_; (with_reducible refine (letter_Unpack.calls k a0 t143 t144 t145 t146 t147 t148 t149 t150 t151 t152 t155 t158 t159 t160 t161 _ A5.out).mono ?_); rintro e w14 ⟨v153, v156, rfl, ho0, ho1, hb⟩; refine ⟨_, rfl, ?_⟩; have n0_ := Aside0.mk (Kd.R_lower ho0 (below_size (hL HB.out))); have n1_ := Aside0.mk (Kd.R_lower ho1 (below_size (hL HB.out))); have n2_ := Aside0.mk (below_step (hL HB.out) hb); clear HB; have HO154 := n0_; have HO157 := n1_; have HB := n2_; clear n0_ n1_ n2_; (try clear hb); (try clear hb2); (try clear hk); (try clear hi); (try clear ho0); (try clear ho1)) | ((with_reducible refine gate_dst (N := 3) rfl ?_); refine box_event ?hg (N := 3) ?hd (cs := #[.int .i64 0, .int .i64 0, .int .i64 0, .int .i64 0, .int .i64 0, .int .i64 0, .int .i64 0, .string (⟨#[]⟩ : ByteArray), .string (⟨#[]⟩ : ByteArray), .slice none 0 0, .slice none 0 0, .int .i64 0, .bool false, .string (⟨#[]⟩ : ByteArray)]) (t := 27) ?hr ?_; (case hd => rfl); (case hg => rfl); (case hr => first | (go_simp; done) | (go_simp; rfl)); intro gb162 hg w15 hbox hb; have n0_ := Aside0.mk (Kd.R_below (rL HO154.out) hb); have n1_ := Aside0.mk (Kd.R_below (rL HO157.out) hb); have n2_ := Aside0.mk (below_step (hL HB.out) hb); have n3_ := Aside0.mk (hbox); have n4_ := Above.mk ((by rw [hg]; exact (below_size (hL HB.out)) : w.heap.size ≤ gb162)); have n5_ := Above.mk ((by rw [hg]; exact (below_size (hL HB.out)) : w.heap.size ≤ gb162)); clear HO154; clear HO157; clear HB; have HO154 := n0_; have HO157 := n1_; have HB := n2_; have BK162 := n3_; have GW162 := n4_; have GE162 := n5_; clear n0_ n1_ n2_ n3_ n4_ n5_; clear hb hbox hg; have hcz16_0 : w15.cell? ⟨gb162, 0, none⟩ = some (.int .i64 0) := (blk_cell BK162.out 0).trans rfl; have hcz16_1 : w15.cell? ⟨gb162, 1, none⟩ = some (.int .i64 0) := (blk_cell BK162.out 1).trans rfl; have hcz16_2 : w15.cell? ⟨gb162, 2, none⟩ = some (.int .i64 0) := (blk_cell BK162.out 2).trans rfl; have hcz16_3 : w15.cell? ⟨gb162, 3, none⟩ = some (.int .i64 0) := (blk_cell BK162.out 3).trans rfl; have hcz16_4 : w15.cell? ⟨gb162, 4, none⟩ = some (.int .i64 0) := (blk_cell BK162.out 4).trans rfl; have hcz16_5 : w15.cell? ⟨gb162, 5, none⟩ = some (.int .i64 0) := (blk_cell BK162.out 5).trans rfl; have hcz16_6 : w15.cell? ⟨gb162, 6, none⟩ = some (.int .i64 0) := (blk_cell BK162.out 6).trans rfl; have hcz16_7 : w15.cell? ⟨gb162, 7, none⟩ = some (.string (⟨#[]⟩ : ByteArray)) := (blk_cell BK162.out 7).trans rfl; have hcz16_8 : w15.cell? ⟨gb162, 8, none⟩ = some (.string (⟨#[]⟩ : ByteArray)) := (blk_cell BK162.out 8).trans rfl; have hcz16_9 : w15.cell? ⟨gb162, 9, none⟩ = some (.slice none 0 0) := (blk_cell BK162.out 9).trans rfl; have hcz16_10 : w15.cell? ⟨gb162, 10, none⟩ = some (.slice none 0 0) := (blk_cell BK162.out 10).trans rfl; have hcz16_11 : w15.cell? ⟨gb162, 11, none⟩ = some (.int .i64 0) := (blk_cell BK162.out 11).trans rfl; have hcz16_12 : w15.cell? ⟨gb162, 12, none⟩ = some (.bool false) := (blk_cell BK162.out 12).trans rfl; have hcz16_13 : w15.cell? ⟨gb162, 13, none⟩ = some (.string (⟨#[]⟩ : ByteArray)) := (blk_cell BK162.out 13).trans rfl; have hfz16_0 := blk_frozen BK162.out 0; have hfz16_1 := blk_frozen BK162.out 1; have hfz16_2 := blk_frozen BK162.out 2; have hfz16_3 := blk_frozen BK162.out 3; have hfz16_4 := blk_frozen BK162.out 4; have hfz16_5 := blk_frozen BK162.out 5; have hfz16_6 := blk_frozen BK162.out 6; have hfz16_7 := blk_frozen BK162.out 7; have hfz16_8 := blk_frozen BK162.out 8; have hfz16_9 := blk_frozen BK162.out 9; have hfz16_10 := blk_frozen BK162.out 10; have hfz16_11 := blk_frozen BK162.out 11; have hfz16_12 := blk_frozen BK162.out 12; have hfz16_13 := blk_frozen BK162.out 13; obtain ⟨Ao17, co17, eo17⟩ := Kd.R_slice HO154.out; subst eo17; obtain ⟨Ao18, co18, eo18⟩ := Kd.R_slice HO157.out; subst eo18))
  go_ret
  exact ⟨by first | rfl | (simp [errW_none, errW_some] <;> rfl) | (simp [*, errW_none, errW_some] <;> rfl), hL HB.out⟩
 rw [if_neg c4] at H
 have c4b0 : decide (3000 < (a0.size : Int)) = false := decide_eq_false c4
 have c4b1 : decide (3000 < a0.size) = false := decide_eq_false (by omega)
 clear c4
 replace H := Option.bind_eq_some_iff.mp H
 obtain ⟨⟨t163, t164, t165, t166, t167, t168, t169, t170, t171, t172, t175, t178, t179, t180, t181⟩, A190, H⟩ := H
 replace H : ((shelfmarkref13_Unpack.f k a0).bind fun bt183 => ((shelfmarkref13_Same.f k t163 t164 t165 t166 t167 t168 t169 t170 t171 t172 t175 t178 t179 t180 bt183.1 bt183.2.1 bt183.2.2.1 bt183.2.2.2.1 bt183.2.2.2.2.1 bt183.2.2.2.2.2.1 bt183.2.2.2.2.2.2.1 bt183.2.2.2.2.2.2.2.1 bt183.2.2.2.2.2.2.2.2.1 bt183.2.2.2.2.2.2.2.2.2.1 bt183.2.2.2.2.2.2.2.2.2.2.1 bt183.2.2.2.2.2.2.2.2.2.2.2.1 bt183.2.2.2.2.2.2.2.2.2.2.2.2.1 bt183.2.2.2.2.2.2.2.2.2.2.2.2.2.1).bind fun t203 => (if t203 = true then (shelfmarklaw13_LetterUnpacks.j0 k a0 t181 (t181 != bt183.2.2.2.2.2.2.2.2.2.2.2.2.2.2) t163 t164 t165 t166 t167 t168 t169 t170 t171 t172 t175 t178 t179 t180) else (shelfmarklaw13_LetterUnpacks.j0 k a0 t181 true t163 t164 t165 t166 t167 t168 t169 t170 t171 t172 t175 t178 t179 t180)))) = some r := H
 have A19 := Aside0.mk A190
 clear A190
 replace H := Option.bind_eq_some_iff.mp H
 obtain ⟨⟨t183, t184, t185, t186, t187, t188, t189, t190, t191, t192, t195, t198, t199, t200, t201⟩, A200, H⟩ := H
 replace H : ((shelfmarkref13_Same.f k t163 t164 t165 t166 t167 t168 t169 t170 t171 t172 t175 t178 t179 t180 t183 t184 t185 t186 t187 t188 t189 t190 t191 t192 t195 t198 t199 t200).bind fun t203 => (if t203 = true then (shelfmarklaw13_LetterUnpacks.j0 k a0 t181 (t181 != t201) t163 t164 t165 t166 t167 t168 t169 t170 t171 t172 t175 t178 t179 t180) else (shelfmarklaw13_LetterUnpacks.j0 k a0 t181 true t163 t164 t165 t166 t167 t168 t169 t170 t171 t172 t175 t178 t179 t180))) = some r := H
 have A20 := Aside0.mk A200
 clear A200
 have HC21 := Aside0.mk H
 clear H
 go_enter Try.func3, Try.ntmps3
 go_upto_region 8 with (first | ((with_reducible refine gate_callee (f := 7) rfl ?_); refine goesL_ (some 10) rfl rfl Try.func7 (by kernel_rfl) rfl #[] rfl (by (try simp only [List.map_toArray, List.map_cons, List.map_nil]); first | done | rfl | (simp only [List.length_drop, List.length_take]; rfl)) ?_; (with_reducible refine (shelfmarklaw13_awake.calls k  true _ A2.out).mono ?_); rintro e w22 ⟨rfl, hb⟩; refine ⟨_, rfl, ?_⟩; have n0_ := Aside0.mk (below_step (hL HB.out) hb); clear HB; have HB := n0_; clear n0_; (try clear hb); (try clear hb2); (try clear hk); (try clear hi)) | ((with_reducible refine gate_callee (f := 8) rfl ?_); refine goesL_ (some 29) rfl rfl Try.func8 (by kernel_rfl) rfl #[.string a0] rfl (by (try simp only [List.map_toArray, List.map_cons, List.map_nil]); first | done | rfl | (simp only [List.length_drop, List.length_take]; rfl)) ?_; (with_reducible refine (letter_Unpack.calls k a0 t163 t164 t165 t166 t167 t168 t169 t170 t171 t172 t175 t178 t179 t180 t181 _ A19.out).mono ?_); rintro e w23 ⟨v173, v176, rfl, ho0, ho1, hb⟩; refine ⟨_, rfl, ?_⟩; have n0_ := Aside0.mk (Kd.R_lower ho0 (below_size (hL HB.out))); have n1_ := Aside0.mk (Kd.R_lower ho1 (below_size (hL HB.out))); have n2_ := Aside0.mk (below_step (hL HB.out) hb); clear HB; have HO174 := n0_; have HO177 := n1_; have HB := n2_; clear n0_ n1_ n2_; (try clear hb); (try clear hb2); (try clear hk); (try clear hi); (try clear ho0); (try clear ho1)) | ((with_reducible refine gate_dst (N := 5) rfl ?_); refine box_event ?hg (N := 5) ?hd (cs := #[.int .i64 0, .int .i64 0, .int .i64 0, .int .i64 0, .int .i64 0, .int .i64 0, .int .i64 0, .string (⟨#[]⟩ : ByteArray), .string (⟨#[]⟩ : ByteArray), .slice none 0 0, .slice none 0 0, .int .i64 0, .bool false, .string (⟨#[]⟩ : ByteArray)]) (t := 27) ?hr ?_; (case hd => rfl); (case hg => rfl); (case hr => first | (go_simp; done) | (go_simp; rfl)); intro gb182 hg w24 hbox hb; have n0_ := Aside0.mk (Kd.R_below (rL HO174.out) hb); have n1_ := Aside0.mk (Kd.R_below (rL HO177.out) hb); have n2_ := Aside0.mk (below_step (hL HB.out) hb); have n3_ := Aside0.mk (hbox); have n4_ := Above.mk ((by rw [hg]; exact (below_size (hL HB.out)) : w.heap.size ≤ gb182)); have n5_ := Above.mk ((by rw [hg]; exact (below_size (hL HB.out)) : w.heap.size ≤ gb182)); clear HO174; clear HO177; clear HB; have HO174 := n0_; have HO177 := n1_; have HB := n2_; have BK182 := n3_; have GW182 := n4_; have GE182 := n5_; clear n0_ n1_ n2_ n3_ n4_ n5_; clear hb hbox hg; have hcz25_0 : w24.cell? ⟨gb182, 0, none⟩ = some (.int .i64 0) := (blk_cell BK182.out 0).trans rfl; have hcz25_1 : w24.cell? ⟨gb182, 1, none⟩ = some (.int .i64 0) := (blk_cell BK182.out 1).trans rfl; have hcz25_2 : w24.cell? ⟨gb182, 2, none⟩ = some (.int .i64 0) := (blk_cell BK182.out 2).trans rfl; have hcz25_3 : w24.cell? ⟨gb182, 3, none⟩ = some (.int .i64 0) := (blk_cell BK182.out 3).trans rfl; have hcz25_4 : w24.cell? ⟨gb182, 4, none⟩ = some (.int .i64 0) := (blk_cell BK182.out 4).trans rfl; have hcz25_5 : w24.cell? ⟨gb182, 5, none⟩ = some (.int .i64 0) := (blk_cell BK182.out 5).trans rfl; have hcz25_6 : w24.cell? ⟨gb182, 6, none⟩ = some (.int .i64 0) := (blk_cell BK182.out 6).trans rfl; have hcz25_7 : w24.cell? ⟨gb182, 7, none⟩ = some (.string (⟨#[]⟩ : ByteArray)) := (blk_cell BK182.out 7).trans rfl; have hcz25_8 : w24.cell? ⟨gb182, 8, none⟩ = some (.string (⟨#[]⟩ : ByteArray)) := (blk_cell BK182.out 8).trans rfl; have hcz25_9 : w24.cell? ⟨gb182, 9, none⟩ = some (.slice none 0 0) := (blk_cell BK182.out 9).trans rfl; have hcz25_10 : w24.cell? ⟨gb182, 10, none⟩ = some (.slice none 0 0) := (blk_cell BK182.out 10).trans rfl; have hcz25_11 : w24.cell? ⟨gb182, 11, none⟩ = some (.int .i64 0) := (blk_cell BK182.out 11).trans rfl; have hcz25_12 : w24.cell? ⟨gb182, 12, none⟩ = some (.bool false) := (blk_cell BK182.out 12).trans rfl; have hcz25_13 : w24.cell? ⟨gb182, 13, none⟩ = some (.string (⟨#[]⟩ : ByteArray)) := (blk_cell BK182.out 13).trans rfl; have hfz25_0 := blk_frozen BK182.out 0; have hfz25_1 := blk_frozen BK182.out 1; have hfz25_2 := blk_frozen BK182.out 2; have hfz25_3 := blk_frozen BK182.out 3; have hfz25_4 := blk_frozen BK182.out 4; have hfz25_5 := blk_frozen BK182.out 5; have hfz25_6 := blk_frozen BK182.out 6; have hfz25_7 := blk_frozen BK182.out 7; have hfz25_8 := blk_frozen BK182.out 8; have hfz25_9 := blk_frozen BK182.out 9; have hfz25_10 := blk_frozen BK182.out 10; have hfz25_11 := blk_frozen BK182.out 11; have hfz25_12 := blk_frozen BK182.out 12; have hfz25_13 := blk_frozen BK182.out 13; obtain ⟨Ao26, co26, eo26⟩ := Kd.R_slice HO174.out; subst eo26; obtain ⟨Ao27, co27, eo27⟩ := Kd.R_slice HO177.out; subst eo27) | ((with_reducible refine gate_callee (f := 9) rfl ?_); refine goesL_ (some 34) rfl rfl Try.func9 (by kernel_rfl) rfl #[.string a0] rfl (by (try simp only [List.map_toArray, List.map_cons, List.map_nil]); first | done | rfl | (simp only [List.length_drop, List.length_take]; rfl)) ?_; (with_reducible refine (shelfmarkref13_Unpack.calls k a0 t183 t184 t185 t186 t187 t188 t189 t190 t191 t192 t195 t198 t199 t200 t201 _ A20.out).mono ?_); rintro e w28 ⟨v193, v196, rfl, ho0, ho1, hb⟩; refine ⟨_, rfl, ?_⟩; have n0_ := Aside0.mk (Kd.R_elder' (by (with_reducible repeat (first | apply Kd.R_alloc | apply Kd.R_drewN | apply Kd.R_drew)); exact (Kd.R_mono (Kd.R_far (p := ⟨gb182, 13, none⟩) (Kd.R_far (p := ⟨gb182, 12, none⟩) (Kd.R_far (p := ⟨gb182, 11, none⟩) (Kd.R_far (p := ⟨gb182, 10, none⟩) (Kd.R_far (p := ⟨gb182, 9, none⟩) (Kd.R_far (p := ⟨gb182, 8, none⟩) (Kd.R_far (p := ⟨gb182, 7, none⟩) (Kd.R_far (p := ⟨gb182, 6, none⟩) (Kd.R_far (p := ⟨gb182, 5, none⟩) (Kd.R_far (p := ⟨gb182, 4, none⟩) (Kd.R_far (p := ⟨gb182, 3, none⟩) (Kd.R_far (p := ⟨gb182, 2, none⟩) (Kd.R_far (p := ⟨gb182, 1, none⟩) (Kd.R_far (p := ⟨gb182, 0, none⟩) (Kd.R_types HO174.out BK182.out (by decide)) (fun _ hk => hk.2) (.int .i64 t163)) (fun _ hk => hk.2) (.int .i64 t164)) (fun _ hk => hk.2) (.int .i64 t165)) (fun _ hk => hk.2) (.int .i64 t166)) (fun _ hk => hk.2) (.int .i64 t167)) (fun _ hk => hk.2) (.int .i64 t168)) (fun _ hk => hk.2) (.int .i64 t169)) (fun _ hk => hk.2) (.string t170)) (fun _ hk => hk.2) (.string t171)) (fun _ hk => hk.2) (.slice Ao26 t172.length co26)) (fun _ hk => hk.2) (.slice Ao27 t175.length co27)) (fun _ hk => hk.2) (.int .i64 t178)) (fun _ hk => hk.2) (.bool t179)) (fun _ hk => hk.2) (.string t180)) (fun _ h_ => h_.1))) (Kd.R_base ho0) hb); have n1_ := Aside0.mk (Kd.R_elder' (by (with_reducible repeat (first | apply Kd.R_alloc | apply Kd.R_drewN | apply Kd.R_drew)); exact (Kd.R_mono (Kd.R_far (p := ⟨gb182, 13, none⟩) (Kd.R_far (p := ⟨gb182, 12, none⟩) (Kd.R_far (p := ⟨gb182, 11, none⟩) (Kd.R_far (p := ⟨gb182, 10, none⟩) (Kd.R_far (p := ⟨gb182, 9, none⟩) (Kd.R_far (p := ⟨gb182, 8, none⟩) (Kd.R_far (p := ⟨gb182, 7, none⟩) (Kd.R_far (p := ⟨gb182, 6, none⟩) (Kd.R_far (p := ⟨gb182, 5, none⟩) (Kd.R_far (p := ⟨gb182, 4, none⟩) (Kd.R_far (p := ⟨gb182, 3, none⟩) (Kd.R_far (p := ⟨gb182, 2, none⟩) (Kd.R_far (p := ⟨gb182, 1, none⟩) (Kd.R_far (p := ⟨gb182, 0, none⟩) (Kd.R_types HO177.out BK182.out (by decide)) (fun _ hk => hk.2) (.int .i64 t163)) (fun _ hk => hk.2) (.int .i64 t164)) (fun _ hk => hk.2) (.int .i64 t165)) (fun _ hk => hk.2) (.int .i64 t166)) (fun _ hk => hk.2) (.int .i64 t167)) (fun _ hk => hk.2) (.int .i64 t168)) (fun _ hk => hk.2) (.int .i64 t169)) (fun _ hk => hk.2) (.string t170)) (fun _ hk => hk.2) (.string t171)) (fun _ hk => hk.2) (.slice Ao26 t172.length co26)) (fun _ hk => hk.2) (.slice Ao27 t175.length co27)) (fun _ hk => hk.2) (.int .i64 t178)) (fun _ hk => hk.2) (.bool t179)) (fun _ hk => hk.2) (.string t180)) (fun _ h_ => h_.1))) (Kd.R_base ho1) hb); have n2_ := Aside0.mk (Kd.R_lower (Kd.R_new' ho0 (Kd.R_lt (by (with_reducible repeat (first | apply Kd.R_alloc | apply Kd.R_drewN | apply Kd.R_drew)); exact (Kd.R_mono (Kd.R_far (p := ⟨gb182, 13, none⟩) (Kd.R_far (p := ⟨gb182, 12, none⟩) (Kd.R_far (p := ⟨gb182, 11, none⟩) (Kd.R_far (p := ⟨gb182, 10, none⟩) (Kd.R_far (p := ⟨gb182, 9, none⟩) (Kd.R_far (p := ⟨gb182, 8, none⟩) (Kd.R_far (p := ⟨gb182, 7, none⟩) (Kd.R_far (p := ⟨gb182, 6, none⟩) (Kd.R_far (p := ⟨gb182, 5, none⟩) (Kd.R_far (p := ⟨gb182, 4, none⟩) (Kd.R_far (p := ⟨gb182, 3, none⟩) (Kd.R_far (p := ⟨gb182, 2, none⟩) (Kd.R_far (p := ⟨gb182, 1, none⟩) (Kd.R_far (p := ⟨gb182, 0, none⟩) (Kd.R_types HO174.out BK182.out (by decide)) (fun _ hk => hk.2) (.int .i64 t163)) (fun _ hk => hk.2) (.int .i64 t164)) (fun _ hk => hk.2) (.int .i64 t165)) (fun _ hk => hk.2) (.int .i64 t166)) (fun _ hk => hk.2) (.int .i64 t167)) (fun _ hk => hk.2) (.int .i64 t168)) (fun _ hk => hk.2) (.int .i64 t169)) (fun _ hk => hk.2) (.string t170)) (fun _ hk => hk.2) (.string t171)) (fun _ hk => hk.2) (.slice Ao26 t172.length co26)) (fun _ hk => hk.2) (.slice Ao27 t175.length co27)) (fun _ hk => hk.2) (.int .i64 t178)) (fun _ hk => hk.2) (.bool t179)) (fun _ hk => hk.2) (.string t180)) (fun _ h_ => h_.1))))) (below_size (hL HB.out))); have n3_ := Aside0.mk (Kd.R_lower (Kd.R_new' ho1 (Kd.R_lt (by (with_reducible repeat (first | apply Kd.R_alloc | apply Kd.R_drewN | apply Kd.R_drew)); exact (Kd.R_mono (Kd.R_far (p := ⟨gb182, 13, none⟩) (Kd.R_far (p := ⟨gb182, 12, none⟩) (Kd.R_far (p := ⟨gb182, 11, none⟩) (Kd.R_far (p := ⟨gb182, 10, none⟩) (Kd.R_far (p := ⟨gb182, 9, none⟩) (Kd.R_far (p := ⟨gb182, 8, none⟩) (Kd.R_far (p := ⟨gb182, 7, none⟩) (Kd.R_far (p := ⟨gb182, 6, none⟩) (Kd.R_far (p := ⟨gb182, 5, none⟩) (Kd.R_far (p := ⟨gb182, 4, none⟩) (Kd.R_far (p := ⟨gb182, 3, none⟩) (Kd.R_far (p := ⟨gb182, 2, none⟩) (Kd.R_far (p := ⟨gb182, 1, none⟩) (Kd.R_far (p := ⟨gb182, 0, none⟩) (Kd.R_types HO177.out BK182.out (by decide)) (fun _ hk => hk.2) (.int .i64 t163)) (fun _ hk => hk.2) (.int .i64 t164)) (fun _ hk => hk.2) (.int .i64 t165)) (fun _ hk => hk.2) (.int .i64 t166)) (fun _ hk => hk.2) (.int .i64 t167)) (fun _ hk => hk.2) (.int .i64 t168)) (fun _ hk => hk.2) (.int .i64 t169)) (fun _ hk => hk.2) (.string t170)) (fun _ hk => hk.2) (.string t171)) (fun _ hk => hk.2) (.slice Ao26 t172.length co26)) (fun _ hk => hk.2) (.slice Ao27 t175.length co27)) (fun _ hk => hk.2) (.int .i64 t178)) (fun _ hk => hk.2) (.bool t179)) (fun _ hk => hk.2) (.string t180)) (fun _ h_ => h_.1))))) (below_size (hL HB.out))); have n4_ := Aside0.mk (blk_below (g := gb182) (o := .cells #[.int .i64 t163, .int .i64 t164, .int .i64 t165, .int .i64 t166, .int .i64 t167, .int .i64 t168, .int .i64 t169, .string t170, .string t171, .slice Ao26 t172.length co26, .slice Ao27 t175.length co27, .int .i64 t178, .bool t179, .string t180] 27 (0, 0)) (by (with_reducible repeat (first | refine blk_drewN ?_ _ | refine blk_drew ?_ | refine blk_alloc ?_ _)); refine blk_put (cs := #[.int .i64 t163, .int .i64 t164, .int .i64 t165, .int .i64 t166, .int .i64 t167, .int .i64 t168, .int .i64 t169, .string t170, .string t171, .slice Ao26 t172.length co26, .slice Ao27 t175.length co27, .int .i64 t178, .bool t179, .string (⟨#[]⟩ : ByteArray)]) ?_ 13 _ rfl; (with_reducible repeat (first | refine blk_drewN ?_ _ | refine blk_drew ?_ | refine blk_alloc ?_ _)); refine blk_put (cs := #[.int .i64 t163, .int .i64 t164, .int .i64 t165, .int .i64 t166, .int .i64 t167, .int .i64 t168, .int .i64 t169, .string t170, .string t171, .slice Ao26 t172.length co26, .slice Ao27 t175.length co27, .int .i64 t178, .bool false, .string (⟨#[]⟩ : ByteArray)]) ?_ 12 _ rfl; (with_reducible repeat (first | refine blk_drewN ?_ _ | refine blk_drew ?_ | refine blk_alloc ?_ _)); refine blk_put (cs := #[.int .i64 t163, .int .i64 t164, .int .i64 t165, .int .i64 t166, .int .i64 t167, .int .i64 t168, .int .i64 t169, .string t170, .string t171, .slice Ao26 t172.length co26, .slice Ao27 t175.length co27, .int .i64 0, .bool false, .string (⟨#[]⟩ : ByteArray)]) ?_ 11 _ rfl; (with_reducible repeat (first | refine blk_drewN ?_ _ | refine blk_drew ?_ | refine blk_alloc ?_ _)); refine blk_put (cs := #[.int .i64 t163, .int .i64 t164, .int .i64 t165, .int .i64 t166, .int .i64 t167, .int .i64 t168, .int .i64 t169, .string t170, .string t171, .slice Ao26 t172.length co26, .slice none 0 0, .int .i64 0, .bool false, .string (⟨#[]⟩ : ByteArray)]) ?_ 10 _ rfl; (with_reducible repeat (first | refine blk_drewN ?_ _ | refine blk_drew ?_ | refine blk_alloc ?_ _)); refine blk_put (cs := #[.int .i64 t163, .int .i64 t164, .int .i64 t165, .int .i64 t166, .int .i64 t167, .int .i64 t168, .int .i64 t169, .string t170, .string t171, .slice none 0 0, .slice none 0 0, .int .i64 0, .bool false, .string (⟨#[]⟩ : ByteArray)]) ?_ 9 _ rfl; (with_reducible repeat (first | refine blk_drewN ?_ _ | refine blk_drew ?_ | refine blk_alloc ?_ _)); refine blk_put (cs := #[.int .i64 t163, .int .i64 t164, .int .i64 t165, .int .i64 t166, .int .i64 t167, .int .i64 t168, .int .i64 t169, .string t170, .string (⟨#[]⟩ : ByteArray), .slice none 0 0, .slice none 0 0, .int .i64 0, .bool false, .string (⟨#[]⟩ : ByteArray)]) ?_ 8 _ rfl; (with_reducible repeat (first | refine blk_drewN ?_ _ | refine blk_drew ?_ | refine blk_alloc ?_ _)); refine blk_put (cs := #[.int .i64 t163, .int .i64 t164, .int .i64 t165, .int .i64 t166, .int .i64 t167, .int .i64 t168, .int .i64 t169, .string (⟨#[]⟩ : ByteArray), .string (⟨#[]⟩ : ByteArray), .slice none 0 0, .slice none 0 0, .int .i64 0, .bool false, .string (⟨#[]⟩ : ByteArray)]) ?_ 7 _ rfl; (with_reducible repeat (first | refine blk_drewN ?_ _ | refine blk_drew ?_ | refine blk_alloc ?_ _)); refine blk_put (cs := #[.int .i64 t163, .int .i64 t164, .int .i64 t165, .int .i64 t166, .int .i64 t167, .int .i64 t168, .int .i64 0, .string (⟨#[]⟩ : ByteArray), .string (⟨#[]⟩ : ByteArray), .slice none 0 0, .slice none 0 0, .int .i64 0, .bool false, .string (⟨#[]⟩ : ByteArray)]) ?_ 6 _ rfl; (with_reducible repeat (first | refine blk_drewN ?_ _ | refine blk_drew ?_ | refine blk_alloc ?_ _)); refine blk_put (cs := #[.int .i64 t163, .int .i64 t164, .int .i64 t165, .int .i64 t166, .int .i64 t167, .int .i64 0, .int .i64 0, .string (⟨#[]⟩ : ByteArray), .string (⟨#[]⟩ : ByteArray), .slice none 0 0, .slice none 0 0, .int .i64 0, .bool false, .string (⟨#[]⟩ : ByteArray)]) ?_ 5 _ rfl; (with_reducible repeat (first | refine blk_drewN ?_ _ | refine blk_drew ?_ | refine blk_alloc ?_ _)); refine blk_put (cs := #[.int .i64 t163, .int .i64 t164, .int .i64 t165, .int .i64 t166, .int .i64 0, .int .i64 0, .int .i64 0, .string (⟨#[]⟩ : ByteArray), .string (⟨#[]⟩ : ByteArray), .slice none 0 0, .slice none 0 0, .int .i64 0, .bool false, .string (⟨#[]⟩ : ByteArray)]) ?_ 4 _ rfl; (with_reducible repeat (first | refine blk_drewN ?_ _ | refine blk_drew ?_ | refine blk_alloc ?_ _)); refine blk_put (cs := #[.int .i64 t163, .int .i64 t164, .int .i64 t165, .int .i64 0, .int .i64 0, .int .i64 0, .int .i64 0, .string (⟨#[]⟩ : ByteArray), .string (⟨#[]⟩ : ByteArray), .slice none 0 0, .slice none 0 0, .int .i64 0, .bool false, .string (⟨#[]⟩ : ByteArray)]) ?_ 3 _ rfl; (with_reducible repeat (first | refine blk_drewN ?_ _ | refine blk_drew ?_ | refine blk_alloc ?_ _)); refine blk_put (cs := #[.int .i64 t163, .int .i64 t164, .int .i64 0, .int .i64 0, .int .i64 0, .int .i64 0, .int .i64 0, .string (⟨#[]⟩ : ByteArray), .string (⟨#[]⟩ : ByteArray), .slice none 0 0, .slice none 0 0, .int .i64 0, .bool false, .string (⟨#[]⟩ : ByteArray)]) ?_ 2 _ rfl; (with_reducible repeat (first | refine blk_drewN ?_ _ | refine blk_drew ?_ | refine blk_alloc ?_ _)); refine blk_put (cs := #[.int .i64 t163, .int .i64 0, .int .i64 0, .int .i64 0, .int .i64 0, .int .i64 0, .int .i64 0, .string (⟨#[]⟩ : ByteArray), .string (⟨#[]⟩ : ByteArray), .slice none 0 0, .slice none 0 0, .int .i64 0, .bool false, .string (⟨#[]⟩ : ByteArray)]) ?_ 1 _ rfl; (with_reducible repeat (first | refine blk_drewN ?_ _ | refine blk_drew ?_ | refine blk_alloc ?_ _)); refine blk_put (cs := #[.int .i64 0, .int .i64 0, .int .i64 0, .int .i64 0, .int .i64 0, .int .i64 0, .int .i64 0, .string (⟨#[]⟩ : ByteArray), .string (⟨#[]⟩ : ByteArray), .slice none 0 0, .slice none 0 0, .int .i64 0, .bool false, .string (⟨#[]⟩ : ByteArray)]) ?_ 0 _ rfl; exact bL BK182.out) hb); have n5_ := Aside0.mk (below_step (hL HB.out) hb); clear HO174; clear HO177; clear BK182; clear HB; have HO174 := n0_; have HO177 := n1_; have HO194 := n2_; have HO197 := n3_; have BK182 := n4_; have HB := n5_; clear n0_ n1_ n2_ n3_ n4_ n5_; (try clear hb); (try clear hb2); (try clear hk); (try clear hi); (try clear ho0); (try clear ho1)) | ((with_reducible refine gate_dst (N := 7) rfl ?_); refine box_event ?hg (N := 7) ?hd (cs := #[.int .i64 0, .int .i64 0, .int .i64 0, .int .i64 0, .int .i64 0, .int .i64 0, .int .i64 0, .string (⟨#[]⟩ : ByteArray), .string (⟨#[]⟩ : ByteArray), .slice none 0 0, .slice none 0 0, .int .i64 0, .bool false, .string (⟨#[]⟩ : ByteArray)]) (t := 27) ?hr ?_; (case hd => rfl); (case hg => rfl); (case hr => first | (go_simp; done) | (go_simp; rfl)); intro gb202 hg w29 hbox hb; have n0_ := Aside0.mk (Kd.R_below (rL HO174.out) hb); have n1_ := Aside0.mk (Kd.R_below (rL HO177.out) hb); have n2_ := Aside0.mk (Kd.R_below (rL HO194.out) hb); have n3_ := Aside0.mk (Kd.R_below (rL HO197.out) hb); have n4_ := Aside0.mk (blk_below (bL BK182.out) hb); have n5_ := Aside0.mk (below_step (hL HB.out) hb); have n6_ := Aside0.mk (hbox); have n7_ := Above.mk ((by rw [hg]; exact (below_size (hL HB.out)) : w.heap.size ≤ gb202)); have n8_ := Above.mk ((by rw [hg]; exact (below_size (hL HB.out)) : w.heap.size ≤ gb202)); have n9_ := Aside0.mk ((by rw [hg]; exact Nat.ne_of_lt (blk_lt (g := gb182) (o := .cells #[.int .i64 t163, .int .i64 t164, .int .i64 t165, .int .i64 t166, .int .i64 t167, .int .i64 t168, .int .i64 t169, .string t170, .string t171, .slice Ao26 t172.length co26, .slice Ao27 t175.length co27, .int .i64 t178, .bool t179, .string t180] 27 (0, 0)) (bL BK182.out)) : gb182 ≠ gb202)); have n10_ := Aside0.mk ((by rw [hg]; exact Nat.ne_of_gt (blk_lt (g := gb182) (o := .cells #[.int .i64 t163, .int .i64 t164, .int .i64 t165, .int .i64 t166, .int .i64 t167, .int .i64 t168, .int .i64 t169, .string t170, .string t171, .slice Ao26 t172.length co26, .slice Ao27 t175.length co27, .int .i64 t178, .bool t179, .string t180] 27 (0, 0)) (bL BK182.out)) : gb202 ≠ gb182)); clear HO174; clear HO177; clear HO194; clear HO197; clear BK182; clear HB; have HO174 := n0_; have HO177 := n1_; have HO194 := n2_; have HO197 := n3_; have BK182 := n4_; have HB := n5_; have BK202 := n6_; have GW202 := n7_; have GE202 := n8_; have NB182_202 := n9_; have NB202_182 := n10_; clear n0_ n1_ n2_ n3_ n4_ n5_ n6_ n7_ n8_ n9_ n10_; clear hb hbox hg; have hnb30 := NB202_182.out; have hnc30 := NB182_202.out; have hcz31_0 : w29.cell? ⟨gb202, 0, none⟩ = some (.int .i64 0) := (blk_cell BK202.out 0).trans rfl; have hcz31_1 : w29.cell? ⟨gb202, 1, none⟩ = some (.int .i64 0) := (blk_cell BK202.out 1).trans rfl; have hcz31_2 : w29.cell? ⟨gb202, 2, none⟩ = some (.int .i64 0) := (blk_cell BK202.out 2).trans rfl; have hcz31_3 : w29.cell? ⟨gb202, 3, none⟩ = some (.int .i64 0) := (blk_cell BK202.out 3).trans rfl; have hcz31_4 : w29.cell? ⟨gb202, 4, none⟩ = some (.int .i64 0) := (blk_cell BK202.out 4).trans rfl; have hcz31_5 : w29.cell? ⟨gb202, 5, none⟩ = some (.int .i64 0) := (blk_cell BK202.out 5).trans rfl; have hcz31_6 : w29.cell? ⟨gb202, 6, none⟩ = some (.int .i64 0) := (blk_cell BK202.out 6).trans rfl; have hcz31_7 : w29.cell? ⟨gb202, 7, none⟩ = some (.string (⟨#[]⟩ : ByteArray)) := (blk_cell BK202.out 7).trans rfl; have hcz31_8 : w29.cell? ⟨gb202, 8, none⟩ = some (.string (⟨#[]⟩ : ByteArray)) := (blk_cell BK202.out 8).trans rfl; have hcz31_9 : w29.cell? ⟨gb202, 9, none⟩ = some (.slice none 0 0) := (blk_cell BK202.out 9).trans rfl; have hcz31_10 : w29.cell? ⟨gb202, 10, none⟩ = some (.slice none 0 0) := (blk_cell BK202.out 10).trans rfl; have hcz31_11 : w29.cell? ⟨gb202, 11, none⟩ = some (.int .i64 0) := (blk_cell BK202.out 11).trans rfl; have hcz31_12 : w29.cell? ⟨gb202, 12, none⟩ = some (.bool false) := (blk_cell BK202.out 12).trans rfl; have hcz31_13 : w29.cell? ⟨gb202, 13, none⟩ = some (.string (⟨#[]⟩ : ByteArray)) := (blk_cell BK202.out 13).trans rfl; have hfz31_0 := blk_frozen BK202.out 0; have hfz31_1 := blk_frozen BK202.out 1; have hfz31_2 := blk_frozen BK202.out 2; have hfz31_3 := blk_frozen BK202.out 3; have hfz31_4 := blk_frozen BK202.out 4; have hfz31_5 := blk_frozen BK202.out 5; have hfz31_6 := blk_frozen BK202.out 6; have hfz31_7 := blk_frozen BK202.out 7; have hfz31_8 := blk_frozen BK202.out 8; have hfz31_9 := blk_frozen BK202.out 9; have hfz31_10 := blk_frozen BK202.out 10; have hfz31_11 := blk_frozen BK202.out 11; have hfz31_12 := blk_frozen BK202.out 12; have hfz31_13 := blk_frozen BK202.out 13; obtain ⟨Ao32, co32, eo32⟩ := Kd.R_slice HO194.out; subst eo32; obtain ⟨Ao33, co33, eo33⟩ := Kd.R_slice HO197.out; subst eo33))
 (try simp only [Act.put, sT, sZ, sS])
 go_cut [45] (fun v45 wc => ∃ (kq : Nat) (x45_20 : Bool), v45 = .bool x45_20 ∧ Aside0 (shelfmarklaw13_LetterUnpacks.j0 kq a0 t181 x45_20 t163 t164 t165 t166 t167 t168 t169 t170 t171 t172 t175 t178 t179 t180 = some r) ∧ Aside0 (kq ≤ k) ∧ Aside0 (Kd.R k39 39 wc w.heap.size (fun k_ => some k_ ≠ ((.slice Ao32 t192.length co32) : Value).ownBlock) (.slice Ao26 t172.length co26) t172) ∧ Aside0 (Kd.R k41 41 wc w.heap.size (fun k_ => some k_ ≠ ((.slice Ao33 t195.length co33) : Value).ownBlock) (.slice Ao27 t175.length co27) t175) ∧ Aside0 (Kd.R k39 39 wc w.heap.size (fun k_ => some k_ ≠ ((.slice Ao26 t172.length co26) : Value).ownBlock) (.slice Ao32 t192.length co32) t192) ∧ Aside0 (Kd.R k41 41 wc w.heap.size (fun k_ => some k_ ≠ ((.slice Ao27 t175.length co27) : Value).ownBlock) (.slice Ao33 t195.length co33) t195) ∧ Aside0 (wc.heap[gb182]? = some (.cells #[.int .i64 t163, .int .i64 t164, .int .i64 t165, .int .i64 t166, .int .i64 t167, .int .i64 t168, .int .i64 t169, .string t170, .string t171, (.slice Ao26 t172.length co26), (.slice Ao27 t175.length co27), .int .i64 t178, .bool t179, .string t180] 27 (0, 0))) ∧ Aside0 (wc.heap[gb202]? = some (.cells #[.int .i64 t183, .int .i64 t184, .int .i64 t185, .int .i64 t186, .int .i64 t187, .int .i64 t188, .int .i64 t189, .string t190, .string t191, (.slice Ao32 t192.length co32), (.slice Ao33 t195.length co33), .int .i64 t198, .bool t199, .string t200] 27 (0, 0))) ∧ Aside0 (Below w.heap.size w wc))
 case first =>
  have H := HC21.out
  clear HC21
  replace H := Option.bind_eq_some_iff.mp H
  obtain ⟨t203, A340, H⟩ := H
  replace H : (if t203 = true then (shelfmarklaw13_LetterUnpacks.j0 k a0 t181 (t181 != t201) t163 t164 t165 t166 t167 t168 t169 t170 t171 t172 t175 t178 t179 t180) else (shelfmarklaw13_LetterUnpacks.j0 k a0 t181 true t163 t164 t165 t166 t167 t168 t169 t170 t171 t172 t175 t178 t179 t180)) = some r := H
  have A34 := Aside0.mk A340
  clear A340
  by_cases c35 : t203 = true
  ·subst c35
   have H1 : (shelfmarklaw13_LetterUnpacks.j0 k a0 t181 (t181 != t201) t163 t164 t165 t166 t167 t168 t169 t170 t171 t172 t175 t178 t179 t180) = some r := by rw [if_pos rfl] at H; exact H
   clear H
   have H := H1
   clear H1
   have H' := Aside0.mk H
   clear H
   have hnb36 := NB182_202.out
   have hnc36 := NB202_182.out
   have hcz37_0 : w29.cell? ⟨gb182, 0, none⟩ = some (.int .i64 t163) := (blk_cell BK182.out 0).trans rfl
   have hcz37_1 : w29.cell? ⟨gb182, 1, none⟩ = some (.int .i64 t164) := (blk_cell BK182.out 1).trans rfl
   have hcz37_2 : w29.cell? ⟨gb182, 2, none⟩ = some (.int .i64 t165) := (blk_cell BK182.out 2).trans rfl
   have hcz37_3 : w29.cell? ⟨gb182, 3, none⟩ = some (.int .i64 t166) := (blk_cell BK182.out 3).trans rfl
   have hcz37_4 : w29.cell? ⟨gb182, 4, none⟩ = some (.int .i64 t167) := (blk_cell BK182.out 4).trans rfl
   have hcz37_5 : w29.cell? ⟨gb182, 5, none⟩ = some (.int .i64 t168) := (blk_cell BK182.out 5).trans rfl
   have hcz37_6 : w29.cell? ⟨gb182, 6, none⟩ = some (.int .i64 t169) := (blk_cell BK182.out 6).trans rfl
   have hcz37_7 : w29.cell? ⟨gb182, 7, none⟩ = some (.string t170) := (blk_cell BK182.out 7).trans rfl
   have hcz37_8 : w29.cell? ⟨gb182, 8, none⟩ = some (.string t171) := (blk_cell BK182.out 8).trans rfl
   have hcz37_9 : w29.cell? ⟨gb182, 9, none⟩ = some (.slice Ao26 t172.length co26) := (blk_cell BK182.out 9).trans rfl
   have hcz37_10 : w29.cell? ⟨gb182, 10, none⟩ = some (.slice Ao27 t175.length co27) := (blk_cell BK182.out 10).trans rfl
   have hcz37_11 : w29.cell? ⟨gb182, 11, none⟩ = some (.int .i64 t178) := (blk_cell BK182.out 11).trans rfl
   have hcz37_12 : w29.cell? ⟨gb182, 12, none⟩ = some (.bool t179) := (blk_cell BK182.out 12).trans rfl
   have hcz37_13 : w29.cell? ⟨gb182, 13, none⟩ = some (.string t180) := (blk_cell BK182.out 13).trans rfl
   have hfz37_0 := blk_frozen BK182.out 0
   have hfz37_1 := blk_frozen BK182.out 1
   have hfz37_2 := blk_frozen BK182.out 2
   have hfz37_3 := blk_frozen BK182.out 3
   have hfz37_4 := blk_frozen BK182.out 4
   have hfz37_5 := blk_frozen BK182.out 5
   have hfz37_6 := blk_frozen BK182.out 6
   have hfz37_7 := blk_frozen BK182.out 7
   have hfz37_8 := blk_frozen BK182.out 8
   have hfz37_9 := blk_frozen BK182.out 9
   have hfz37_10 := blk_frozen BK182.out 10
   have hfz37_11 := blk_frozen BK182.out 11
   have hfz37_12 := blk_frozen BK182.out 12
   have hfz37_13 := blk_frozen BK182.out 13
   have hcz38_0 : w29.cell? ⟨gb202, 0, none⟩ = some (.int .i64 0) := (blk_cell BK202.out 0).trans rfl
   have hcz38_1 : w29.cell? ⟨gb202, 1, none⟩ = some (.int .i64 0) := (blk_cell BK202.out 1).trans rfl
   have hcz38_2 : w29.cell? ⟨gb202, 2, none⟩ = some (.int .i64 0) := (blk_cell BK202.out 2).trans rfl
   have hcz38_3 : w29.cell? ⟨gb202, 3, none⟩ = some (.int .i64 0) := (blk_cell BK202.out 3).trans rfl
   have hcz38_4 : w29.cell? ⟨gb202, 4, none⟩ = some (.int .i64 0) := (blk_cell BK202.out 4).trans rfl
   have hcz38_5 : w29.cell? ⟨gb202, 5, none⟩ = some (.int .i64 0) := (blk_cell BK202.out 5).trans rfl
   have hcz38_6 : w29.cell? ⟨gb202, 6, none⟩ = some (.int .i64 0) := (blk_cell BK202.out 6).trans rfl
   have hcz38_7 : w29.cell? ⟨gb202, 7, none⟩ = some (.string (⟨#[]⟩ : ByteArray)) := (blk_cell BK202.out 7).trans rfl
   have hcz38_8 : w29.cell? ⟨gb202, 8, none⟩ = some (.string (⟨#[]⟩ : ByteArray)) := (blk_cell BK202.out 8).trans rfl
   have hcz38_9 : w29.cell? ⟨gb202, 9, none⟩ = some (.slice none 0 0) := (blk_cell BK202.out 9).trans rfl
   have hcz38_10 : w29.cell? ⟨gb202, 10, none⟩ = some (.slice none 0 0) := (blk_cell BK202.out 10).trans rfl
   have hcz38_11 : w29.cell? ⟨gb202, 11, none⟩ = some (.int .i64 0) := (blk_cell BK202.out 11).trans rfl
   have hcz38_12 : w29.cell? ⟨gb202, 12, none⟩ = some (.bool false) := (blk_cell BK202.out 12).trans rfl
   have hcz38_13 : w29.cell? ⟨gb202, 13, none⟩ = some (.string (⟨#[]⟩ : ByteArray)) := (blk_cell BK202.out 13).trans rfl
   have hfz38_0 := blk_frozen BK202.out 0
   have hfz38_1 := blk_frozen BK202.out 1
   have hfz38_2 := blk_frozen BK202.out 2
   have hfz38_3 := blk_frozen BK202.out 3
   have hfz38_4 := blk_frozen BK202.out 4
   have hfz38_5 := blk_frozen BK202.out 5
   have hfz38_6 := blk_frozen BK202.out 6
   have hfz38_7 := blk_frozen BK202.out 7
   have hfz38_8 := blk_frozen BK202.out 8
   have hfz38_9 := blk_frozen BK202.out 9
   have hfz38_10 := blk_frozen BK202.out 10
   have hfz38_11 := blk_frozen BK202.out 11
   have hfz38_12 := blk_frozen BK202.out 12
   have hfz38_13 := blk_frozen BK202.out 13
   go_wp2_with (first | ((with_reducible refine gate_callee (f := 10) rfl ?_); refine goesL_ (some 39) rfl rfl Try.func10 (by kernel_rfl) rfl #[.agg #[.int .i64 t163, .int .i64 t164, .int .i64 t165, .int .i64 t166, .int .i64 t167, .int .i64 t168, .int .i64 t169, .string t170, .string t171, .slice Ao26 t172.length co26, .slice Ao27 t175.length co27, .int .i64 t178, .bool t179, .string t180], .agg #[.int .i64 t183, .int .i64 t184, .int .i64 t185, .int .i64 t186, .int .i64 t187, .int .i64 t188, .int .i64 t189, .string t190, .string t191, .slice Ao32 t192.length co32, .slice Ao33 t195.length co33, .int .i64 t198, .bool t199, .string t200]] rfl (by (try simp only [List.map_toArray, List.map_cons, List.map_nil]); first | done | rfl | (simp only [List.length_drop, List.length_take]; rfl)) ?_; (with_reducible refine (shelfmarkref13_Same.calls k t163 t164 t165 t166 t167 t168 t169 t170 t171 _ _ t172 _ _ t175 t178 t179 t180 t183 t184 t185 t186 t187 t188 t189 t190 t191 _ _ t192 _ _ t195 t198 t199 t200 true _ ?side1 ?side2 ?side3 ?side4 ?side5 ?side6 ?side7 ?side8 A34.out).mono ?_); (case side1 => refine (Kd.R_reads' (e := 39) (base := w.heap.size) (ok := fun k_ => (True ∧ some k_ ≠ (.slice Ao32 t192.length co32 : Value).ownBlock)) (n := t172.length) (c := co26) ?_).2.2; exact (by (with_reducible repeat (first | apply Kd.R_alloc | apply Kd.R_drewN | apply Kd.R_drew)); exact (Kd.R_mono (Kd.R_far (p := ⟨gb202, 13, none⟩) (Kd.R_far (p := ⟨gb202, 12, none⟩) (Kd.R_far (p := ⟨gb202, 11, none⟩) (Kd.R_far (p := ⟨gb202, 10, none⟩) (Kd.R_far (p := ⟨gb202, 9, none⟩) (Kd.R_far (p := ⟨gb202, 8, none⟩) (Kd.R_far (p := ⟨gb202, 7, none⟩) (Kd.R_far (p := ⟨gb202, 6, none⟩) (Kd.R_far (p := ⟨gb202, 5, none⟩) (Kd.R_far (p := ⟨gb202, 4, none⟩) (Kd.R_far (p := ⟨gb202, 3, none⟩) (Kd.R_far (p := ⟨gb202, 2, none⟩) (Kd.R_far (p := ⟨gb202, 1, none⟩) (Kd.R_far (p := ⟨gb202, 0, none⟩) (Kd.R_types HO174.out BK202.out (by decide)) (fun _ hk => hk.2) (.int .i64 t183)) (fun _ hk => hk.2) (.int .i64 t184)) (fun _ hk => hk.2) (.int .i64 t185)) (fun _ hk => hk.2) (.int .i64 t186)) (fun _ hk => hk.2) (.int .i64 t187)) (fun _ hk => hk.2) (.int .i64 t188)) (fun _ hk => hk.2) (.int .i64 t189)) (fun _ hk => hk.2) (.string t190)) (fun _ hk => hk.2) (.string t191)) (fun _ hk => hk.2) (.slice Ao32 t192.length co32)) (fun _ hk => hk.2) (.slice Ao33 t195.length co33)) (fun _ hk => hk.2) (.int .i64 t198)) (fun _ hk => hk.2) (.bool t199)) (fun _ hk => hk.2) (.string t200)) (fun _ h_ => h_.1)))); (case side2 => exact (Kd.R_reads' HO174.out).2.1); (case side3 => refine (Kd.R_reads' (e := 41) (base := w.heap.size) (ok := fun k_ => (True ∧ some k_ ≠ (.slice Ao33 t195.length co33 : Value).ownBlock)) (n := t175.length) (c := co27) ?_).2.2; exact (by (with_reducible repeat (first | apply Kd.R_alloc | apply Kd.R_drewN | apply Kd.R_drew)); exact (Kd.R_mono (Kd.R_far (p := ⟨gb202, 13, none⟩) (Kd.R_far (p := ⟨gb202, 12, none⟩) (Kd.R_far (p := ⟨gb202, 11, none⟩) (Kd.R_far (p := ⟨gb202, 10, none⟩) (Kd.R_far (p := ⟨gb202, 9, none⟩) (Kd.R_far (p := ⟨gb202, 8, none⟩) (Kd.R_far (p := ⟨gb202, 7, none⟩) (Kd.R_far (p := ⟨gb202, 6, none⟩) (Kd.R_far (p := ⟨gb202, 5, none⟩) (Kd.R_far (p := ⟨gb202, 4, none⟩) (Kd.R_far (p := ⟨gb202, 3, none⟩) (Kd.R_far (p := ⟨gb202, 2, none⟩) (Kd.R_far (p := ⟨gb202, 1, none⟩) (Kd.R_far (p := ⟨gb202, 0, none⟩) (Kd.R_types HO177.out BK202.out (by decide)) (fun _ hk => hk.2) (.int .i64 t183)) (fun _ hk => hk.2) (.int .i64 t184)) (fun _ hk => hk.2) (.int .i64 t185)) (fun _ hk => hk.2) (.int .i64 t186)) (fun _ hk => hk.2) (.int .i64 t187)) (fun _ hk => hk.2) (.int .i64 t188)) (fun _ hk => hk.2) (.int .i64 t189)) (fun _ hk => hk.2) (.string t190)) (fun _ hk => hk.2) (.string t191)) (fun _ hk => hk.2) (.slice Ao32 t192.length co32)) (fun _ hk => hk.2) (.slice Ao33 t195.length co33)) (fun _ hk => hk.2) (.int .i64 t198)) (fun _ hk => hk.2) (.bool t199)) (fun _ hk => hk.2) (.string t200)) (fun _ h_ => h_.1)))); (case side4 => exact (Kd.R_reads' HO177.out).2.1); (case side5 => refine (Kd.R_reads' (e := 39) (base := w.heap.size) (ok := fun k_ => (True ∧ some k_ ≠ (.slice Ao26 t172.length co26 : Value).ownBlock)) (n := t192.length) (c := co32) ?_).2.2; exact (by (with_reducible repeat (first | apply Kd.R_alloc | apply Kd.R_drewN | apply Kd.R_drew)); exact (Kd.R_mono (Kd.R_far (p := ⟨gb202, 13, none⟩) (Kd.R_far (p := ⟨gb202, 12, none⟩) (Kd.R_far (p := ⟨gb202, 11, none⟩) (Kd.R_far (p := ⟨gb202, 10, none⟩) (Kd.R_far (p := ⟨gb202, 9, none⟩) (Kd.R_far (p := ⟨gb202, 8, none⟩) (Kd.R_far (p := ⟨gb202, 7, none⟩) (Kd.R_far (p := ⟨gb202, 6, none⟩) (Kd.R_far (p := ⟨gb202, 5, none⟩) (Kd.R_far (p := ⟨gb202, 4, none⟩) (Kd.R_far (p := ⟨gb202, 3, none⟩) (Kd.R_far (p := ⟨gb202, 2, none⟩) (Kd.R_far (p := ⟨gb202, 1, none⟩) (Kd.R_far (p := ⟨gb202, 0, none⟩) (Kd.R_types HO194.out BK202.out (by decide)) (fun _ hk => hk.2) (.int .i64 t183)) (fun _ hk => hk.2) (.int .i64 t184)) (fun _ hk => hk.2) (.int .i64 t185)) (fun _ hk => hk.2) (.int .i64 t186)) (fun _ hk => hk.2) (.int .i64 t187)) (fun _ hk => hk.2) (.int .i64 t188)) (fun _ hk => hk.2) (.int .i64 t189)) (fun _ hk => hk.2) (.string t190)) (fun _ hk => hk.2) (.string t191)) (fun _ hk => hk.2) (.slice Ao32 t192.length co32)) (fun _ hk => hk.2) (.slice Ao33 t195.length co33)) (fun _ hk => hk.2) (.int .i64 t198)) (fun _ hk => hk.2) (.bool t199)) (fun _ hk => hk.2) (.string t200)) (fun _ h_ => h_.1)))); (case side6 => exact (Kd.R_reads' HO194.out).2.1); (case side7 => refine (Kd.R_reads' (e := 41) (base := w.heap.size) (ok := fun k_ => (True ∧ some k_ ≠ (.slice Ao27 t175.length co27 : Value).ownBlock)) (n := t195.length) (c := co33) ?_).2.2; exact (by (with_reducible repeat (first | apply Kd.R_alloc | apply Kd.R_drewN | apply Kd.R_drew)); exact (Kd.R_mono (Kd.R_far (p := ⟨gb202, 13, none⟩) (Kd.R_far (p := ⟨gb202, 12, none⟩) (Kd.R_far (p := ⟨gb202, 11, none⟩) (Kd.R_far (p := ⟨gb202, 10, none⟩) (Kd.R_far (p := ⟨gb202, 9, none⟩) (Kd.R_far (p := ⟨gb202, 8, none⟩) (Kd.R_far (p := ⟨gb202, 7, none⟩) (Kd.R_far (p := ⟨gb202, 6, none⟩) (Kd.R_far (p := ⟨gb202, 5, none⟩) (Kd.R_far (p := ⟨gb202, 4, none⟩) (Kd.R_far (p := ⟨gb202, 3, none⟩) (Kd.R_far (p := ⟨gb202, 2, none⟩) (Kd.R_far (p := ⟨gb202, 1, none⟩) (Kd.R_far (p := ⟨gb202, 0, none⟩) (Kd.R_types HO197.out BK202.out (by decide)) (fun _ hk => hk.2) (.int .i64 t183)) (fun _ hk => hk.2) (.int .i64 t184)) (fun _ hk => hk.2) (.int .i64 t185)) (fun _ hk => hk.2) (.int .i64 t186)) (fun _ hk => hk.2) (.int .i64 t187)) (fun _ hk => hk.2) (.int .i64 t188)) (fun _ hk => hk.2) (.int .i64 t189)) (fun _ hk => hk.2) (.string t190)) (fun _ hk => hk.2) (.string t191)) (fun _ hk => hk.2) (.slice Ao32 t192.length co32)) (fun _ hk => hk.2) (.slice Ao33 t195.length co33)) (fun _ hk => hk.2) (.int .i64 t198)) (fun _ hk => hk.2) (.bool t199)) (fun _ hk => hk.2) (.string t200)) (fun _ h_ => h_.1)))); (case side8 => exact (Kd.R_reads' HO197.out).2.1); rintro e w39 ⟨rfl, hb⟩; refine ⟨_, rfl, ?_⟩; have n0_ := Aside0.mk (Kd.R_below (by (with_reducible repeat (first | apply Kd.R_alloc | apply Kd.R_drewN | apply Kd.R_drew)); exact (Kd.R_mono (Kd.R_far (p := ⟨gb202, 13, none⟩) (Kd.R_far (p := ⟨gb202, 12, none⟩) (Kd.R_far (p := ⟨gb202, 11, none⟩) (Kd.R_far (p := ⟨gb202, 10, none⟩) (Kd.R_far (p := ⟨gb202, 9, none⟩) (Kd.R_far (p := ⟨gb202, 8, none⟩) (Kd.R_far (p := ⟨gb202, 7, none⟩) (Kd.R_far (p := ⟨gb202, 6, none⟩) (Kd.R_far (p := ⟨gb202, 5, none⟩) (Kd.R_far (p := ⟨gb202, 4, none⟩) (Kd.R_far (p := ⟨gb202, 3, none⟩) (Kd.R_far (p := ⟨gb202, 2, none⟩) (Kd.R_far (p := ⟨gb202, 1, none⟩) (Kd.R_far (p := ⟨gb202, 0, none⟩) (Kd.R_types HO174.out BK202.out (by decide)) (fun _ hk => hk.2) (.int .i64 t183)) (fun _ hk => hk.2) (.int .i64 t184)) (fun _ hk => hk.2) (.int .i64 t185)) (fun _ hk => hk.2) (.int .i64 t186)) (fun _ hk => hk.2) (.int .i64 t187)) (fun _ hk => hk.2) (.int .i64 t188)) (fun _ hk => hk.2) (.int .i64 t189)) (fun _ hk => hk.2) (.string t190)) (fun _ hk => hk.2) (.string t191)) (fun _ hk => hk.2) (.slice Ao32 t192.length co32)) (fun _ hk => hk.2) (.slice Ao33 t195.length co33)) (fun _ hk => hk.2) (.int .i64 t198)) (fun _ hk => hk.2) (.bool t199)) (fun _ hk => hk.2) (.string t200)) (fun _ h_ => h_.1))) hb); have n1_ := Aside0.mk (Kd.R_below (by (with_reducible repeat (first | apply Kd.R_alloc | apply Kd.R_drewN | apply Kd.R_drew)); exact (Kd.R_mono (Kd.R_far (p := ⟨gb202, 13, none⟩) (Kd.R_far (p := ⟨gb202, 12, none⟩) (Kd.R_far (p := ⟨gb202, 11, none⟩) (Kd.R_far (p := ⟨gb202, 10, none⟩) (Kd.R_far (p := ⟨gb202, 9, none⟩) (Kd.R_far (p := ⟨gb202, 8, none⟩) (Kd.R_far (p := ⟨gb202, 7, none⟩) (Kd.R_far (p := ⟨gb202, 6, none⟩) (Kd.R_far (p := ⟨gb202, 5, none⟩) (Kd.R_far (p := ⟨gb202, 4, none⟩) (Kd.R_far (p := ⟨gb202, 3, none⟩) (Kd.R_far (p := ⟨gb202, 2, none⟩) (Kd.R_far (p := ⟨gb202, 1, none⟩) (Kd.R_far (p := ⟨gb202, 0, none⟩) (Kd.R_types HO177.out BK202.out (by decide)) (fun _ hk => hk.2) (.int .i64 t183)) (fun _ hk => hk.2) (.int .i64 t184)) (fun _ hk => hk.2) (.int .i64 t185)) (fun _ hk => hk.2) (.int .i64 t186)) (fun _ hk => hk.2) (.int .i64 t187)) (fun _ hk => hk.2) (.int .i64 t188)) (fun _ hk => hk.2) (.int .i64 t189)) (fun _ hk => hk.2) (.string t190)) (fun _ hk => hk.2) (.string t191)) (fun _ hk => hk.2) (.slice Ao32 t192.length co32)) (fun _ hk => hk.2) (.slice Ao33 t195.length co33)) (fun _ hk => hk.2) (.int .i64 t198)) (fun _ hk => hk.2) (.bool t199)) (fun _ hk => hk.2) (.string t200)) (fun _ h_ => h_.1))) hb); have n2_ := Aside0.mk (Kd.R_below (by (with_reducible repeat (first | apply Kd.R_alloc | apply Kd.R_drewN | apply Kd.R_drew)); exact (Kd.R_mono (Kd.R_far (p := ⟨gb202, 13, none⟩) (Kd.R_far (p := ⟨gb202, 12, none⟩) (Kd.R_far (p := ⟨gb202, 11, none⟩) (Kd.R_far (p := ⟨gb202, 10, none⟩) (Kd.R_far (p := ⟨gb202, 9, none⟩) (Kd.R_far (p := ⟨gb202, 8, none⟩) (Kd.R_far (p := ⟨gb202, 7, none⟩) (Kd.R_far (p := ⟨gb202, 6, none⟩) (Kd.R_far (p := ⟨gb202, 5, none⟩) (Kd.R_far (p := ⟨gb202, 4, none⟩) (Kd.R_far (p := ⟨gb202, 3, none⟩) (Kd.R_far (p := ⟨gb202, 2, none⟩) (Kd.R_far (p := ⟨gb202, 1, none⟩) (Kd.R_far (p := ⟨gb202, 0, none⟩) (Kd.R_types HO194.out BK202.out (by decide)) (fun _ hk => hk.2) (.int .i64 t183)) (fun _ hk => hk.2) (.int .i64 t184)) (fun _ hk => hk.2) (.int .i64 t185)) (fun _ hk => hk.2) (.int .i64 t186)) (fun _ hk => hk.2) (.int .i64 t187)) (fun _ hk => hk.2) (.int .i64 t188)) (fun _ hk => hk.2) (.int .i64 t189)) (fun _ hk => hk.2) (.string t190)) (fun _ hk => hk.2) (.string t191)) (fun _ hk => hk.2) (.slice Ao32 t192.length co32)) (fun _ hk => hk.2) (.slice Ao33 t195.length co33)) (fun _ hk => hk.2) (.int .i64 t198)) (fun _ hk => hk.2) (.bool t199)) (fun _ hk => hk.2) (.string t200)) (fun _ h_ => h_.1))) hb); have n3_ := Aside0.mk (Kd.R_below (by (with_reducible repeat (first | apply Kd.R_alloc | apply Kd.R_drewN | apply Kd.R_drew)); exact (Kd.R_mono (Kd.R_far (p := ⟨gb202, 13, none⟩) (Kd.R_far (p := ⟨gb202, 12, none⟩) (Kd.R_far (p := ⟨gb202, 11, none⟩) (Kd.R_far (p := ⟨gb202, 10, none⟩) (Kd.R_far (p := ⟨gb202, 9, none⟩) (Kd.R_far (p := ⟨gb202, 8, none⟩) (Kd.R_far (p := ⟨gb202, 7, none⟩) (Kd.R_far (p := ⟨gb202, 6, none⟩) (Kd.R_far (p := ⟨gb202, 5, none⟩) (Kd.R_far (p := ⟨gb202, 4, none⟩) (Kd.R_far (p := ⟨gb202, 3, none⟩) (Kd.R_far (p := ⟨gb202, 2, none⟩) (Kd.R_far (p := ⟨gb202, 1, none⟩) (Kd.R_far (p := ⟨gb202, 0, none⟩) (Kd.R_types HO197.out BK202.out (by decide)) (fun _ hk => hk.2) (.int .i64 t183)) (fun _ hk => hk.2) (.int .i64 t184)) (fun _ hk => hk.2) (.int .i64 t185)) (fun _ hk => hk.2) (.int .i64 t186)) (fun _ hk => hk.2) (.int .i64 t187)) (fun _ hk => hk.2) (.int .i64 t188)) (fun _ hk => hk.2) (.int .i64 t189)) (fun _ hk => hk.2) (.string t190)) (fun _ hk => hk.2) (.string t191)) (fun _ hk => hk.2) (.slice Ao32 t192.length co32)) (fun _ hk => hk.2) (.slice Ao33 t195.length co33)) (fun _ hk => hk.2) (.int .i64 t198)) (fun _ hk => hk.2) (.bool t199)) (fun _ hk => hk.2) (.string t200)) (fun _ h_ => h_.1))) hb); have n4_ := Aside0.mk (blk_below (g := gb182) (o := .cells #[.int .i64 t163, .int .i64 t164, .int .i64 t165, .int .i64 t166, .int .i64 t167, .int .i64 t168, .int .i64 t169, .string t170, .string t171, .slice Ao26 t172.length co26, .slice Ao27 t175.length co27, .int .i64 t178, .bool t179, .string t180] 27 (0, 0)) (by (with_reducible repeat (first | refine blk_drewN ?_ _ | refine blk_drew ?_ | refine blk_alloc ?_ _)); refine blk_far ?_ NB182_202.out _; (with_reducible repeat (first | refine blk_drewN ?_ _ | refine blk_drew ?_ | refine blk_alloc ?_ _)); refine blk_far ?_ NB182_202.out _; (with_reducible repeat (first | refine blk_drewN ?_ _ | refine blk_drew ?_ | refine blk_alloc ?_ _)); refine blk_far ?_ NB182_202.out _; (with_reducible repeat (first | refine blk_drewN ?_ _ | refine blk_drew ?_ | refine blk_alloc ?_ _)); refine blk_far ?_ NB182_202.out _; (with_reducible repeat (first | refine blk_drewN ?_ _ | refine blk_drew ?_ | refine blk_alloc ?_ _)); refine blk_far ?_ NB182_202.out _; (with_reducible repeat (first | refine blk_drewN ?_ _ | refine blk_drew ?_ | refine blk_alloc ?_ _)); refine blk_far ?_ NB182_202.out _; (with_reducible repeat (first | refine blk_drewN ?_ _ | refine blk_drew ?_ | refine blk_alloc ?_ _)); refine blk_far ?_ NB182_202.out _; (with_reducible repeat (first | refine blk_drewN ?_ _ | refine blk_drew ?_ | refine blk_alloc ?_ _)); refine blk_far ?_ NB182_202.out _; (with_reducible repeat (first | refine blk_drewN ?_ _ | refine blk_drew ?_ | refine blk_alloc ?_ _)); refine blk_far ?_ NB182_202.out _; (with_reducible repeat (first | refine blk_drewN ?_ _ | refine blk_drew ?_ | refine blk_alloc ?_ _)); refine blk_far ?_ NB182_202.out _; (with_reducible repeat (first | refine blk_drewN ?_ _ | refine blk_drew ?_ | refine blk_alloc ?_ _)); refine blk_far ?_ NB182_202.out _; (with_reducible repeat (first | refine blk_drewN ?_ _ | refine blk_drew ?_ | refine blk_alloc ?_ _)); refine blk_far ?_ NB182_202.out _; (with_reducible repeat (first | refine blk_drewN ?_ _ | refine blk_drew ?_ | refine blk_alloc ?_ _)); refine blk_far ?_ NB182_202.out _; (with_reducible repeat (first | refine blk_drewN ?_ _ | refine blk_drew ?_ | refine blk_alloc ?_ _)); refine blk_far ?_ NB182_202.out _; exact bL BK182.out) hb); have n5_ := Aside0.mk (blk_below (g := gb202) (o := .cells #[.int .i64 t183, .int .i64 t184, .int .i64 t185, .int .i64 t186, .int .i64 t187, .int .i64 t188, .int .i64 t189, .string t190, .string t191, .slice Ao32 t192.length co32, .slice Ao33 t195.length co33, .int .i64 t198, .bool t199, .string t200] 27 (0, 0)) (by (with_reducible repeat (first | refine blk_drewN ?_ _ | refine blk_drew ?_ | refine blk_alloc ?_ _)); refine blk_put (cs := #[.int .i64 t183, .int .i64 t184, .int .i64 t185, .int .i64 t186, .int .i64 t187, .int .i64 t188, .int .i64 t189, .string t190, .string t191, .slice Ao32 t192.length co32, .slice Ao33 t195.length co33, .int .i64 t198, .bool t199, .string (⟨#[]⟩ : ByteArray)]) ?_ 13 _ rfl; (with_reducible repeat (first | refine blk_drewN ?_ _ | refine blk_drew ?_ | refine blk_alloc ?_ _)); refine blk_put (cs := #[.int .i64 t183, .int .i64 t184, .int .i64 t185, .int .i64 t186, .int .i64 t187, .int .i64 t188, .int .i64 t189, .string t190, .string t191, .slice Ao32 t192.length co32, .slice Ao33 t195.length co33, .int .i64 t198, .bool false, .string (⟨#[]⟩ : ByteArray)]) ?_ 12 _ rfl; (with_reducible repeat (first | refine blk_drewN ?_ _ | refine blk_drew ?_ | refine blk_alloc ?_ _)); refine blk_put (cs := #[.int .i64 t183, .int .i64 t184, .int .i64 t185, .int .i64 t186, .int .i64 t187, .int .i64 t188, .int .i64 t189, .string t190, .string t191, .slice Ao32 t192.length co32, .slice Ao33 t195.length co33, .int .i64 0, .bool false, .string (⟨#[]⟩ : ByteArray)]) ?_ 11 _ rfl; (with_reducible repeat (first | refine blk_drewN ?_ _ | refine blk_drew ?_ | refine blk_alloc ?_ _)); refine blk_put (cs := #[.int .i64 t183, .int .i64 t184, .int .i64 t185, .int .i64 t186, .int .i64 t187, .int .i64 t188, .int .i64 t189, .string t190, .string t191, .slice Ao32 t192.length co32, .slice none 0 0, .int .i64 0, .bool false, .string (⟨#[]⟩ : ByteArray)]) ?_ 10 _ rfl; (with_reducible repeat (first | refine blk_drewN ?_ _ | refine blk_drew ?_ | refine blk_alloc ?_ _)); refine blk_put (cs := #[.int .i64 t183, .int .i64 t184, .int .i64 t185, .int .i64 t186, .int .i64 t187, .int .i64 t188, .int .i64 t189, .string t190, .string t191, .slice none 0 0, .slice none 0 0, .int .i64 0, .bool false, .string (⟨#[]⟩ : ByteArray)]) ?_ 9 _ rfl; (with_reducible repeat (first | refine blk_drewN ?_ _ | refine blk_drew ?_ | refine blk_alloc ?_ _)); refine blk_put (cs := #[.int .i64 t183, .int .i64 t184, .int .i64 t185, .int .i64 t186, .int .i64 t187, .int .i64 t188, .int .i64 t189, .string t190, .string (⟨#[]⟩ : ByteArray), .slice none 0 0, .slice none 0 0, .int .i64 0, .bool false, .string (⟨#[]⟩ : ByteArray)]) ?_ 8 _ rfl; (with_reducible repeat (first | refine blk_drewN ?_ _ | refine blk_drew ?_ | refine blk_alloc ?_ _)); refine blk_put (cs := #[.int .i64 t183, .int .i64 t184, .int .i64 t185, .int .i64 t186, .int .i64 t187, .int .i64 t188, .int .i64 t189, .string (⟨#[]⟩ : ByteArray), .string (⟨#[]⟩ : ByteArray), .slice none 0 0, .slice none 0 0, .int .i64 0, .bool false, .string (⟨#[]⟩ : ByteArray)]) ?_ 7 _ rfl; (with_reducible repeat (first | refine blk_drewN ?_ _ | refine blk_drew ?_ | refine blk_alloc ?_ _)); refine blk_put (cs := #[.int .i64 t183, .int .i64 t184, .int .i64 t185, .int .i64 t186, .int .i64 t187, .int .i64 t188, .int .i64 0, .string (⟨#[]⟩ : ByteArray), .string (⟨#[]⟩ : ByteArray), .slice none 0 0, .slice none 0 0, .int .i64 0, .bool false, .string (⟨#[]⟩ : ByteArray)]) ?_ 6 _ rfl; (with_reducible repeat (first | refine blk_drewN ?_ _ | refine blk_drew ?_ | refine blk_alloc ?_ _)); refine blk_put (cs := #[.int .i64 t183, .int .i64 t184, .int .i64 t185, .int .i64 t186, .int .i64 t187, .int .i64 0, .int .i64 0, .string (⟨#[]⟩ : ByteArray), .string (⟨#[]⟩ : ByteArray), .slice none 0 0, .slice none 0 0, .int .i64 0, .bool false, .string (⟨#[]⟩ : ByteArray)]) ?_ 5 _ rfl; (with_reducible repeat (first | refine blk_drewN ?_ _ | refine blk_drew ?_ | refine blk_alloc ?_ _)); refine blk_put (cs := #[.int .i64 t183, .int .i64 t184, .int .i64 t185, .int .i64 t186, .int .i64 0, .int .i64 0, .int .i64 0, .string (⟨#[]⟩ : ByteArray), .string (⟨#[]⟩ : ByteArray), .slice none 0 0, .slice none 0 0, .int .i64 0, .bool false, .string (⟨#[]⟩ : ByteArray)]) ?_ 4 _ rfl; (with_reducible repeat (first | refine blk_drewN ?_ _ | refine blk_drew ?_ | refine blk_alloc ?_ _)); refine blk_put (cs := #[.int .i64 t183, .int .i64 t184, .int .i64 t185, .int .i64 0, .int .i64 0, .int .i64 0, .int .i64 0, .string (⟨#[]⟩ : ByteArray), .string (⟨#[]⟩ : ByteArray), .slice none 0 0, .slice none 0 0, .int .i64 0, .bool false, .string (⟨#[]⟩ : ByteArray)]) ?_ 3 _ rfl; (with_reducible repeat (first | refine blk_drewN ?_ _ | refine blk_drew ?_ | refine blk_alloc ?_ _)); refine blk_put (cs := #[.int .i64 t183, .int .i64 t184, .int .i64 0, .int .i64 0, .int .i64 0, .int .i64 0, .int .i64 0, .string (⟨#[]⟩ : ByteArray), .string (⟨#[]⟩ : ByteArray), .slice none 0 0, .slice none 0 0, .int .i64 0, .bool false, .string (⟨#[]⟩ : ByteArray)]) ?_ 2 _ rfl; (with_reducible repeat (first | refine blk_drewN ?_ _ | refine blk_drew ?_ | refine blk_alloc ?_ _)); refine blk_put (cs := #[.int .i64 t183, .int .i64 0, .int .i64 0, .int .i64 0, .int .i64 0, .int .i64 0, .int .i64 0, .string (⟨#[]⟩ : ByteArray), .string (⟨#[]⟩ : ByteArray), .slice none 0 0, .slice none 0 0, .int .i64 0, .bool false, .string (⟨#[]⟩ : ByteArray)]) ?_ 1 _ rfl; (with_reducible repeat (first | refine blk_drewN ?_ _ | refine blk_drew ?_ | refine blk_alloc ?_ _)); refine blk_put (cs := #[.int .i64 0, .int .i64 0, .int .i64 0, .int .i64 0, .int .i64 0, .int .i64 0, .int .i64 0, .string (⟨#[]⟩ : ByteArray), .string (⟨#[]⟩ : ByteArray), .slice none 0 0, .slice none 0 0, .int .i64 0, .bool false, .string (⟨#[]⟩ : ByteArray)]) ?_ 0 _ rfl; exact bL BK202.out) hb); have n6_ := Aside0.mk (below_step (hL HB.out) hb); clear HO174; clear HO177; clear HO194; clear HO197; clear BK182; clear BK202; clear HB; have HO174 := n0_; have HO177 := n1_; have HO194 := n2_; have HO197 := n3_; have BK182 := n4_; have BK202 := n5_; have HB := n6_; clear n0_ n1_ n2_ n3_ n4_ n5_ n6_; (try clear hb); (try clear hb2); (try clear hk); (try clear hi)))
   go_meet
   case rel => exact ⟨_, ((t181 != t201)), (by first | rfl | (simp; done) | (simp [*]; done) | (simp [ne_nil_bytes]; done) | (simp [eq_nil_bytes]; done)), H', ⟨by first | omega | exact Nat.le_refl _⟩, ⟨by (with_reducible repeat (first | apply Kd.R_alloc | apply Kd.R_drewN | apply Kd.R_drew)); exact Kd.R_mono HO174.out (fun _ hk => hk.2)⟩, ⟨by (with_reducible repeat (first | apply Kd.R_alloc | apply Kd.R_drewN | apply Kd.R_drew)); exact Kd.R_mono HO177.out (fun _ hk => hk.2)⟩, ⟨by (with_reducible repeat (first | apply Kd.R_alloc | apply Kd.R_drewN | apply Kd.R_drew)); exact Kd.R_mono HO194.out (fun _ hk => hk.2)⟩, ⟨by (with_reducible repeat (first | apply Kd.R_alloc | apply Kd.R_drewN | apply Kd.R_drew)); exact Kd.R_mono HO197.out (fun _ hk => hk.2)⟩, ⟨by exact bL BK182.out⟩, ⟨by exact bL BK202.out⟩, ⟨hL HB.out⟩⟩
  replace c35 := Bool.eq_false_iff.mpr c35
  subst c35
  have H1 : (shelfmarklaw13_LetterUnpacks.j0 k a0 t181 true t163 t164 t165 t166 t167 t168 t169 t170 t171 t172 t175 t178 t179 t180) = some r := by rw [if_neg (show ¬ (false = true) by decide)] at H; exact H
  clear H
  have H := H1
  clear H1
  have H' := Aside0.mk H
  clear H
  have hnb40 := NB182_202.out
  have hnc40 := NB202_182.out
  have hcz41_0 : w29.cell? ⟨gb182, 0, none⟩ = some (.int .i64 t163) := (blk_cell BK182.out 0).trans rfl
  have hcz41_1 : w29.cell? ⟨gb182, 1, none⟩ = some (.int .i64 t164) := (blk_cell BK182.out 1).trans rfl
  have hcz41_2 : w29.cell? ⟨gb182, 2, none⟩ = some (.int .i64 t165) := (blk_cell BK182.out 2).trans rfl
  have hcz41_3 : w29.cell? ⟨gb182, 3, none⟩ = some (.int .i64 t166) := (blk_cell BK182.out 3).trans rfl
  have hcz41_4 : w29.cell? ⟨gb182, 4, none⟩ = some (.int .i64 t167) := (blk_cell BK182.out 4).trans rfl
  have hcz41_5 : w29.cell? ⟨gb182, 5, none⟩ = some (.int .i64 t168) := (blk_cell BK182.out 5).trans rfl
  have hcz41_6 : w29.cell? ⟨gb182, 6, none⟩ = some (.int .i64 t169) := (blk_cell BK182.out 6).trans rfl
  have hcz41_7 : w29.cell? ⟨gb182, 7, none⟩ = some (.string t170) := (blk_cell BK182.out 7).trans rfl
  have hcz41_8 : w29.cell? ⟨gb182, 8, none⟩ = some (.string t171) := (blk_cell BK182.out 8).trans rfl
  have hcz41_9 : w29.cell? ⟨gb182, 9, none⟩ = some (.slice Ao26 t172.length co26) := (blk_cell BK182.out 9).trans rfl
  have hcz41_10 : w29.cell? ⟨gb182, 10, none⟩ = some (.slice Ao27 t175.length co27) := (blk_cell BK182.out 10).trans rfl
  have hcz41_11 : w29.cell? ⟨gb182, 11, none⟩ = some (.int .i64 t178) := (blk_cell BK182.out 11).trans rfl
  have hcz41_12 : w29.cell? ⟨gb182, 12, none⟩ = some (.bool t179) := (blk_cell BK182.out 12).trans rfl
  have hcz41_13 : w29.cell? ⟨gb182, 13, none⟩ = some (.string t180) := (blk_cell BK182.out 13).trans rfl
  have hfz41_0 := blk_frozen BK182.out 0
  have hfz41_1 := blk_frozen BK182.out 1
  have hfz41_2 := blk_frozen BK182.out 2
  have hfz41_3 := blk_frozen BK182.out 3
  have hfz41_4 := blk_frozen BK182.out 4
  have hfz41_5 := blk_frozen BK182.out 5
  have hfz41_6 := blk_frozen BK182.out 6
  have hfz41_7 := blk_frozen BK182.out 7
  have hfz41_8 := blk_frozen BK182.out 8
  have hfz41_9 := blk_frozen BK182.out 9
  have hfz41_10 := blk_frozen BK182.out 10
  have hfz41_11 := blk_frozen BK182.out 11
  have hfz41_12 := blk_frozen BK182.out 12
  have hfz41_13 := blk_frozen BK182.out 13
  have hcz42_0 : w29.cell? ⟨gb202, 0, none⟩ = some (.int .i64 0) := (blk_cell BK202.out 0).trans rfl
  have hcz42_1 : w29.cell? ⟨gb202, 1, none⟩ = some (.int .i64 0) := (blk_cell BK202.out 1).trans rfl
  have hcz42_2 : w29.cell? ⟨gb202, 2, none⟩ = some (.int .i64 0) := (blk_cell BK202.out 2).trans rfl
  have hcz42_3 : w29.cell? ⟨gb202, 3, none⟩ = some (.int .i64 0) := (blk_cell BK202.out 3).trans rfl
  have hcz42_4 : w29.cell? ⟨gb202, 4, none⟩ = some (.int .i64 0) := (blk_cell BK202.out 4).trans rfl
  have hcz42_5 : w29.cell? ⟨gb202, 5, none⟩ = some (.int .i64 0) := (blk_cell BK202.out 5).trans rfl
  have hcz42_6 : w29.cell? ⟨gb202, 6, none⟩ = some (.int .i64 0) := (blk_cell BK202.out 6).trans rfl
  have hcz42_7 : w29.cell? ⟨gb202, 7, none⟩ = some (.string (⟨#[]⟩ : ByteArray)) := (blk_cell BK202.out 7).trans rfl
  have hcz42_8 : w29.cell? ⟨gb202, 8, none⟩ = some (.string (⟨#[]⟩ : ByteArray)) := (blk_cell BK202.out 8).trans rfl
  have hcz42_9 : w29.cell? ⟨gb202, 9, none⟩ = some (.slice none 0 0) := (blk_cell BK202.out 9).trans rfl
  have hcz42_10 : w29.cell? ⟨gb202, 10, none⟩ = some (.slice none 0 0) := (blk_cell BK202.out 10).trans rfl
  have hcz42_11 : w29.cell? ⟨gb202, 11, none⟩ = some (.int .i64 0) := (blk_cell BK202.out 11).trans rfl
  have hcz42_12 : w29.cell? ⟨gb202, 12, none⟩ = some (.bool false) := (blk_cell BK202.out 12).trans rfl
  have hcz42_13 : w29.cell? ⟨gb202, 13, none⟩ = some (.string (⟨#[]⟩ : ByteArray)) := (blk_cell BK202.out 13).trans rfl
  have hfz42_0 := blk_frozen BK202.out 0
  have hfz42_1 := blk_frozen BK202.out 1
  have hfz42_2 := blk_frozen BK202.out 2
  have hfz42_3 := blk_frozen BK202.out 3
  have hfz42_4 := blk_frozen BK202.out 4
  have hfz42_5 := blk_frozen BK202.out 5
  have hfz42_6 := blk_frozen BK202.out 6
  have hfz42_7 := blk_frozen BK202.out 7
  have hfz42_8 := blk_frozen BK202.out 8
  have hfz42_9 := blk_frozen BK202.out 9
  have hfz42_10 := blk_frozen BK202.out 10
  have hfz42_11 := blk_frozen BK202.out 11
  have hfz42_12 := blk_frozen BK202.out 12
  have hfz42_13 := blk_frozen BK202.out 13
  go_wp2_with (first | ((with_reducible refine gate_callee (f := 10) rfl ?_); refine goesL_ (some 39) rfl rfl Try.func10 (by kernel_rfl) rfl #[.agg #[.int .i64 t163, .int .i64 t164, .int .i64 t165, .int .i64 t166, .int .i64 t167, .int .i64 t168, .int .i64 t169, .string t170, .string t171, .slice Ao26 t172.length co26, .slice Ao27 t175.length co27, .int .i64 t178, .bool t179, .string t180], .agg #[.int .i64 t183, .int .i64 t184, .int .i64 t185, .int .i64 t186, .int .i64 t187, .int .i64 t188, .int .i64 t189, .string t190, .string t191, .slice Ao32 t192.length co32, .slice Ao33 t195.length co33, .int .i64 t198, .bool t199, .string t200]] rfl (by (try simp only [List.map_toArray, List.map_cons, List.map_nil]); first | done | rfl | (simp only [List.length_drop, List.length_take]; rfl)) ?_; (with_reducible refine (shelfmarkref13_Same.calls k t163 t164 t165 t166 t167 t168 t169 t170 t171 _ _ t172 _ _ t175 t178 t179 t180 t183 t184 t185 t186 t187 t188 t189 t190 t191 _ _ t192 _ _ t195 t198 t199 t200 false _ ?side1 ?side2 ?side3 ?side4 ?side5 ?side6 ?side7 ?side8 A34.out).mono ?_); (case side1 => refine (Kd.R_reads' (e := 39) (base := w.heap.size) (ok := fun k_ => (True ∧ some k_ ≠ (.slice Ao32 t192.length co32 : Value).ownBlock)) (n := t172.length) (c := co26) ?_).2.2; exact (by (with_reducible repeat (first | apply Kd.R_alloc | apply Kd.R_drewN | apply Kd.R_drew)); exact (Kd.R_mono (Kd.R_far (p := ⟨gb202, 13, none⟩) (Kd.R_far (p := ⟨gb202, 12, none⟩) (Kd.R_far (p := ⟨gb202, 11, none⟩) (Kd.R_far (p := ⟨gb202, 10, none⟩) (Kd.R_far (p := ⟨gb202, 9, none⟩) (Kd.R_far (p := ⟨gb202, 8, none⟩) (Kd.R_far (p := ⟨gb202, 7, none⟩) (Kd.R_far (p := ⟨gb202, 6, none⟩) (Kd.R_far (p := ⟨gb202, 5, none⟩) (Kd.R_far (p := ⟨gb202, 4, none⟩) (Kd.R_far (p := ⟨gb202, 3, none⟩) (Kd.R_far (p := ⟨gb202, 2, none⟩) (Kd.R_far (p := ⟨gb202, 1, none⟩) (Kd.R_far (p := ⟨gb202, 0, none⟩) (Kd.R_types HO174.out BK202.out (by decide)) (fun _ hk => hk.2) (.int .i64 t183)) (fun _ hk => hk.2) (.int .i64 t184)) (fun _ hk => hk.2) (.int .i64 t185)) (fun _ hk => hk.2) (.int .i64 t186)) (fun _ hk => hk.2) (.int .i64 t187)) (fun _ hk => hk.2) (.int .i64 t188)) (fun _ hk => hk.2) (.int .i64 t189)) (fun _ hk => hk.2) (.string t190)) (fun _ hk => hk.2) (.string t191)) (fun _ hk => hk.2) (.slice Ao32 t192.length co32)) (fun _ hk => hk.2) (.slice Ao33 t195.length co33)) (fun _ hk => hk.2) (.int .i64 t198)) (fun _ hk => hk.2) (.bool t199)) (fun _ hk => hk.2) (.string t200)) (fun _ h_ => h_.1)))); (case side2 => exact (Kd.R_reads' HO174.out).2.1); (case side3 => refine (Kd.R_reads' (e := 41) (base := w.heap.size) (ok := fun k_ => (True ∧ some k_ ≠ (.slice Ao33 t195.length co33 : Value).ownBlock)) (n := t175.length) (c := co27) ?_).2.2; exact (by (with_reducible repeat (first | apply Kd.R_alloc | apply Kd.R_drewN | apply Kd.R_drew)); exact (Kd.R_mono (Kd.R_far (p := ⟨gb202, 13, none⟩) (Kd.R_far (p := ⟨gb202, 12, none⟩) (Kd.R_far (p := ⟨gb202, 11, none⟩) (Kd.R_far (p := ⟨gb202, 10, none⟩) (Kd.R_far (p := ⟨gb202, 9, none⟩) (Kd.R_far (p := ⟨gb202, 8, none⟩) (Kd.R_far (p := ⟨gb202, 7, none⟩) (Kd.R_far (p := ⟨gb202, 6, none⟩) (Kd.R_far (p := ⟨gb202, 5, none⟩) (Kd.R_far (p := ⟨gb202, 4, none⟩) (Kd.R_far (p := ⟨gb202, 3, none⟩) (Kd.R_far (p := ⟨gb202, 2, none⟩) (Kd.R_far (p := ⟨gb202, 1, none⟩) (Kd.R_far (p := ⟨gb202, 0, none⟩) (Kd.R_types HO177.out BK202.out (by decide)) (fun _ hk => hk.2) (.int .i64 t183)) (fun _ hk => hk.2) (.int .i64 t184)) (fun _ hk => hk.2) (.int .i64 t185)) (fun _ hk => hk.2) (.int .i64 t186)) (fun _ hk => hk.2) (.int .i64 t187)) (fun _ hk => hk.2) (.int .i64 t188)) (fun _ hk => hk.2) (.int .i64 t189)) (fun _ hk => hk.2) (.string t190)) (fun _ hk => hk.2) (.string t191)) (fun _ hk => hk.2) (.slice Ao32 t192.length co32)) (fun _ hk => hk.2) (.slice Ao33 t195.length co33)) (fun _ hk => hk.2) (.int .i64 t198)) (fun _ hk => hk.2) (.bool t199)) (fun _ hk => hk.2) (.string t200)) (fun _ h_ => h_.1)))); (case side4 => exact (Kd.R_reads' HO177.out).2.1); (case side5 => refine (Kd.R_reads' (e := 39) (base := w.heap.size) (ok := fun k_ => (True ∧ some k_ ≠ (.slice Ao26 t172.length co26 : Value).ownBlock)) (n := t192.length) (c := co32) ?_).2.2; exact (by (with_reducible repeat (first | apply Kd.R_alloc | apply Kd.R_drewN | apply Kd.R_drew)); exact (Kd.R_mono (Kd.R_far (p := ⟨gb202, 13, none⟩) (Kd.R_far (p := ⟨gb202, 12, none⟩) (Kd.R_far (p := ⟨gb202, 11, none⟩) (Kd.R_far (p := ⟨gb202, 10, none⟩) (Kd.R_far (p := ⟨gb202, 9, none⟩) (Kd.R_far (p := ⟨gb202, 8, none⟩) (Kd.R_far (p := ⟨gb202, 7, none⟩) (Kd.R_far (p := ⟨gb202, 6, none⟩) (Kd.R_far (p := ⟨gb202, 5, none⟩) (Kd.R_far (p := ⟨gb202, 4, none⟩) (Kd.R_far (p := ⟨gb202, 3, none⟩) (Kd.R_far (p := ⟨gb202, 2, none⟩) (Kd.R_far (p := ⟨gb202, 1, none⟩) (Kd.R_far (p := ⟨gb202, 0, none⟩) (Kd.R_types HO194.out BK202.out (by decide)) (fun _ hk => hk.2) (.int .i64 t183)) (fun _ hk => hk.2) (.int .i64 t184)) (fun _ hk => hk.2) (.int .i64 t185)) (fun _ hk => hk.2) (.int .i64 t186)) (fun _ hk => hk.2) (.int .i64 t187)) (fun _ hk => hk.2) (.int .i64 t188)) (fun _ hk => hk.2) (.int .i64 t189)) (fun _ hk => hk.2) (.string t190)) (fun _ hk => hk.2) (.string t191)) (fun _ hk => hk.2) (.slice Ao32 t192.length co32)) (fun _ hk => hk.2) (.slice Ao33 t195.length co33)) (fun _ hk => hk.2) (.int .i64 t198)) (fun _ hk => hk.2) (.bool t199)) (fun _ hk => hk.2) (.string t200)) (fun _ h_ => h_.1)))); (case side6 => exact (Kd.R_reads' HO194.out).2.1); (case side7 => refine (Kd.R_reads' (e := 41) (base := w.heap.size) (ok := fun k_ => (True ∧ some k_ ≠ (.slice Ao27 t175.length co27 : Value).ownBlock)) (n := t195.length) (c := co33) ?_).2.2; exact (by (with_reducible repeat (first | apply Kd.R_alloc | apply Kd.R_drewN | apply Kd.R_drew)); exact (Kd.R_mono (Kd.R_far (p := ⟨gb202, 13, none⟩) (Kd.R_far (p := ⟨gb202, 12, none⟩) (Kd.R_far (p := ⟨gb202, 11, none⟩) (Kd.R_far (p := ⟨gb202, 10, none⟩) (Kd.R_far (p := ⟨gb202, 9, none⟩) (Kd.R_far (p := ⟨gb202, 8, none⟩) (Kd.R_far (p := ⟨gb202, 7, none⟩) (Kd.R_far (p := ⟨gb202, 6, none⟩) (Kd.R_far (p := ⟨gb202, 5, none⟩) (Kd.R_far (p := ⟨gb202, 4, none⟩) (Kd.R_far (p := ⟨gb202, 3, none⟩) (Kd.R_far (p := ⟨gb202, 2, none⟩) (Kd.R_far (p := ⟨gb202, 1, none⟩) (Kd.R_far (p := ⟨gb202, 0, none⟩) (Kd.R_types HO197.out BK202.out (by decide)) (fun _ hk => hk.2) (.int .i64 t183)) (fun _ hk => hk.2) (.int .i64 t184)) (fun _ hk => hk.2) (.int .i64 t185)) (fun _ hk => hk.2) (.int .i64 t186)) (fun _ hk => hk.2) (.int .i64 t187)) (fun _ hk => hk.2) (.int .i64 t188)) (fun _ hk => hk.2) (.int .i64 t189)) (fun _ hk => hk.2) (.string t190)) (fun _ hk => hk.2) (.string t191)) (fun _ hk => hk.2) (.slice Ao32 t192.length co32)) (fun _ hk => hk.2) (.slice Ao33 t195.length co33)) (fun _ hk => hk.2) (.int .i64 t198)) (fun _ hk => hk.2) (.bool t199)) (fun _ hk => hk.2) (.string t200)) (fun _ h_ => h_.1)))); (case side8 => exact (Kd.R_reads' HO197.out).2.1); rintro e w43 ⟨rfl, hb⟩; refine ⟨_, rfl, ?_⟩; have n0_ := Aside0.mk (Kd.R_below (by (with_reducible repeat (first | apply Kd.R_alloc | apply Kd.R_drewN | apply Kd.R_drew)); exact (Kd.R_mono (Kd.R_far (p := ⟨gb202, 13, none⟩) (Kd.R_far (p := ⟨gb202, 12, none⟩) (Kd.R_far (p := ⟨gb202, 11, none⟩) (Kd.R_far (p := ⟨gb202, 10, none⟩) (Kd.R_far (p := ⟨gb202, 9, none⟩) (Kd.R_far (p := ⟨gb202, 8, none⟩) (Kd.R_far (p := ⟨gb202, 7, none⟩) (Kd.R_far (p := ⟨gb202, 6, none⟩) (Kd.R_far (p := ⟨gb202, 5, none⟩) (Kd.R_far (p := ⟨gb202, 4, none⟩) (Kd.R_far (p := ⟨gb202, 3, none⟩) (Kd.R_far (p := ⟨gb202, 2, none⟩) (Kd.R_far (p := ⟨gb202, 1, none⟩) (Kd.R_far (p := ⟨gb202, 0, none⟩) (Kd.R_types HO174.out BK202.out (by decide)) (fun _ hk => hk.2) (.int .i64 t183)) (fun _ hk => hk.2) (.int .i64 t184)) (fun _ hk => hk.2) (.int .i64 t185)) (fun _ hk => hk.2) (.int .i64 t186)) (fun _ hk => hk.2) (.int .i64 t187)) (fun _ hk => hk.2) (.int .i64 t188)) (fun _ hk => hk.2) (.int .i64 t189)) (fun _ hk => hk.2) (.string t190)) (fun _ hk => hk.2) (.string t191)) (fun _ hk => hk.2) (.slice Ao32 t192.length co32)) (fun _ hk => hk.2) (.slice Ao33 t195.length co33)) (fun _ hk => hk.2) (.int .i64 t198)) (fun _ hk => hk.2) (.bool t199)) (fun _ hk => hk.2) (.string t200)) (fun _ h_ => h_.1))) hb); have n1_ := Aside0.mk (Kd.R_below (by (with_reducible repeat (first | apply Kd.R_alloc | apply Kd.R_drewN | apply Kd.R_drew)); exact (Kd.R_mono (Kd.R_far (p := ⟨gb202, 13, none⟩) (Kd.R_far (p := ⟨gb202, 12, none⟩) (Kd.R_far (p := ⟨gb202, 11, none⟩) (Kd.R_far (p := ⟨gb202, 10, none⟩) (Kd.R_far (p := ⟨gb202, 9, none⟩) (Kd.R_far (p := ⟨gb202, 8, none⟩) (Kd.R_far (p := ⟨gb202, 7, none⟩) (Kd.R_far (p := ⟨gb202, 6, none⟩) (Kd.R_far (p := ⟨gb202, 5, none⟩) (Kd.R_far (p := ⟨gb202, 4, none⟩) (Kd.R_far (p := ⟨gb202, 3, none⟩) (Kd.R_far (p := ⟨gb202, 2, none⟩) (Kd.R_far (p := ⟨gb202, 1, none⟩) (Kd.R_far (p := ⟨gb202, 0, none⟩) (Kd.R_types HO177.out BK202.out (by decide)) (fun _ hk => hk.2) (.int .i64 t183)) (fun _ hk => hk.2) (.int .i64 t184)) (fun _ hk => hk.2) (.int .i64 t185)) (fun _ hk => hk.2) (.int .i64 t186)) (fun _ hk => hk.2) (.int .i64 t187)) (fun _ hk => hk.2) (.int .i64 t188)) (fun _ hk => hk.2) (.int .i64 t189)) (fun _ hk => hk.2) (.string t190)) (fun _ hk => hk.2) (.string t191)) (fun _ hk => hk.2) (.slice Ao32 t192.length co32)) (fun _ hk => hk.2) (.slice Ao33 t195.length co33)) (fun _ hk => hk.2) (.int .i64 t198)) (fun _ hk => hk.2) (.bool t199)) (fun _ hk => hk.2) (.string t200)) (fun _ h_ => h_.1))) hb); have n2_ := Aside0.mk (Kd.R_below (by (with_reducible repeat (first | apply Kd.R_alloc | apply Kd.R_drewN | apply Kd.R_drew)); exact (Kd.R_mono (Kd.R_far (p := ⟨gb202, 13, none⟩) (Kd.R_far (p := ⟨gb202, 12, none⟩) (Kd.R_far (p := ⟨gb202, 11, none⟩) (Kd.R_far (p := ⟨gb202, 10, none⟩) (Kd.R_far (p := ⟨gb202, 9, none⟩) (Kd.R_far (p := ⟨gb202, 8, none⟩) (Kd.R_far (p := ⟨gb202, 7, none⟩) (Kd.R_far (p := ⟨gb202, 6, none⟩) (Kd.R_far (p := ⟨gb202, 5, none⟩) (Kd.R_far (p := ⟨gb202, 4, none⟩) (Kd.R_far (p := ⟨gb202, 3, none⟩) (Kd.R_far (p := ⟨gb202, 2, none⟩) (Kd.R_far (p := ⟨gb202, 1, none⟩) (Kd.R_far (p := ⟨gb202, 0, none⟩) (Kd.R_types HO194.out BK202.out (by decide)) (fun _ hk => hk.2) (.int .i64 t183)) (fun _ hk => hk.2) (.int .i64 t184)) (fun _ hk => hk.2) (.int .i64 t185)) (fun _ hk => hk.2) (.int .i64 t186)) (fun _ hk => hk.2) (.int .i64 t187)) (fun _ hk => hk.2) (.int .i64 t188)) (fun _ hk => hk.2) (.int .i64 t189)) (fun _ hk => hk.2) (.string t190)) (fun _ hk => hk.2) (.string t191)) (fun _ hk => hk.2) (.slice Ao32 t192.length co32)) (fun _ hk => hk.2) (.slice Ao33 t195.length co33)) (fun _ hk => hk.2) (.int .i64 t198)) (fun _ hk => hk.2) (.bool t199)) (fun _ hk => hk.2) (.string t200)) (fun _ h_ => h_.1))) hb); have n3_ := Aside0.mk (Kd.R_below (by (with_reducible repeat (first | apply Kd.R_alloc | apply Kd.R_drewN | apply Kd.R_drew)); exact (Kd.R_mono (Kd.R_far (p := ⟨gb202, 13, none⟩) (Kd.R_far (p := ⟨gb202, 12, none⟩) (Kd.R_far (p := ⟨gb202, 11, none⟩) (Kd.R_far (p := ⟨gb202, 10, none⟩) (Kd.R_far (p := ⟨gb202, 9, none⟩) (Kd.R_far (p := ⟨gb202, 8, none⟩) (Kd.R_far (p := ⟨gb202, 7, none⟩) (Kd.R_far (p := ⟨gb202, 6, none⟩) (Kd.R_far (p := ⟨gb202, 5, none⟩) (Kd.R_far (p := ⟨gb202, 4, none⟩) (Kd.R_far (p := ⟨gb202, 3, none⟩) (Kd.R_far (p := ⟨gb202, 2, none⟩) (Kd.R_far (p := ⟨gb202, 1, none⟩) (Kd.R_far (p := ⟨gb202, 0, none⟩) (Kd.R_types HO197.out BK202.out (by decide)) (fun _ hk => hk.2) (.int .i64 t183)) (fun _ hk => hk.2) (.int .i64 t184)) (fun _ hk => hk.2) (.int .i64 t185)) (fun _ hk => hk.2) (.int .i64 t186)) (fun _ hk => hk.2) (.int .i64 t187)) (fun _ hk => hk.2) (.int .i64 t188)) (fun _ hk => hk.2) (.int .i64 t189)) (fun _ hk => hk.2) (.string t190)) (fun _ hk => hk.2) (.string t191)) (fun _ hk => hk.2) (.slice Ao32 t192.length co32)) (fun _ hk => hk.2) (.slice Ao33 t195.length co33)) (fun _ hk => hk.2) (.int .i64 t198)) (fun _ hk => hk.2) (.bool t199)) (fun _ hk => hk.2) (.string t200)) (fun _ h_ => h_.1))) hb); have n4_ := Aside0.mk (blk_below (g := gb182) (o := .cells #[.int .i64 t163, .int .i64 t164, .int .i64 t165, .int .i64 t166, .int .i64 t167, .int .i64 t168, .int .i64 t169, .string t170, .string t171, .slice Ao26 t172.length co26, .slice Ao27 t175.length co27, .int .i64 t178, .bool t179, .string t180] 27 (0, 0)) (by (with_reducible repeat (first | refine blk_drewN ?_ _ | refine blk_drew ?_ | refine blk_alloc ?_ _)); refine blk_far ?_ NB182_202.out _; (with_reducible repeat (first | refine blk_drewN ?_ _ | refine blk_drew ?_ | refine blk_alloc ?_ _)); refine blk_far ?_ NB182_202.out _; (with_reducible repeat (first | refine blk_drewN ?_ _ | refine blk_drew ?_ | refine blk_alloc ?_ _)); refine blk_far ?_ NB182_202.out _; (with_reducible repeat (first | refine blk_drewN ?_ _ | refine blk_drew ?_ | refine blk_alloc ?_ _)); refine blk_far ?_ NB182_202.out _; (with_reducible repeat (first | refine blk_drewN ?_ _ | refine blk_drew ?_ | refine blk_alloc ?_ _)); refine blk_far ?_ NB182_202.out _; (with_reducible repeat (first | refine blk_drewN ?_ _ | refine blk_drew ?_ | refine blk_alloc ?_ _)); refine blk_far ?_ NB182_202.out _; (with_reducible repeat (first | refine blk_drewN ?_ _ | refine blk_drew ?_ | refine blk_alloc ?_ _)); refine blk_far ?_ NB182_202.out _; (with_reducible repeat (first | refine blk_drewN ?_ _ | refine blk_drew ?_ | refine blk_alloc ?_ _)); refine blk_far ?_ NB182_202.out _; (with_reducible repeat (first | refine blk_drewN ?_ _ | refine blk_drew ?_ | refine blk_alloc ?_ _)); refine blk_far ?_ NB182_202.out _; (with_reducible repeat (first | refine blk_drewN ?_ _ | refine blk_drew ?_ | refine blk_alloc ?_ _)); refine blk_far ?_ NB182_202.out _; (with_reducible repeat (first | refine blk_drewN ?_ _ | refine blk_drew ?_ | refine blk_alloc ?_ _)); refine blk_far ?_ NB182_202.out _; (with_reducible repeat (first | refine blk_drewN ?_ _ | refine blk_drew ?_ | refine blk_alloc ?_ _)); refine blk_far ?_ NB182_202.out _; (with_reducible repeat (first | refine blk_drewN ?_ _ | refine blk_drew ?_ | refine blk_alloc ?_ _)); refine blk_far ?_ NB182_202.out _; (with_reducible repeat (first | refine blk_drewN ?_ _ | refine blk_drew ?_ | refine blk_alloc ?_ _)); refine blk_far ?_ NB182_202.out _; exact bL BK182.out) hb); have n5_ := Aside0.mk (blk_below (g := gb202) (o := .cells #[.int .i64 t183, .int .i64 t184, .int .i64 t185, .int .i64 t186, .int .i64 t187, .int .i64 t188, .int .i64 t189, .string t190, .string t191, .slice Ao32 t192.length co32, .slice Ao33 t195.length co33, .int .i64 t198, .bool t199, .string t200] 27 (0, 0)) (by (with_reducible repeat (first | refine blk_drewN ?_ _ | refine blk_drew ?_ | refine blk_alloc ?_ _)); refine blk_put (cs := #[.int .i64 t183, .int .i64 t184, .int .i64 t185, .int .i64 t186, .int .i64 t187, .int .i64 t188, .int .i64 t189, .string t190, .string t191, .slice Ao32 t192.length co32, .slice Ao33 t195.length co33, .int .i64 t198, .bool t199, .string (⟨#[]⟩ : ByteArray)]) ?_ 13 _ rfl; (with_reducible repeat (first | refine blk_drewN ?_ _ | refine blk_drew ?_ | refine blk_alloc ?_ _)); refine blk_put (cs := #[.int .i64 t183, .int .i64 t184, .int .i64 t185, .int .i64 t186, .int .i64 t187, .int .i64 t188, .int .i64 t189, .string t190, .string t191, .slice Ao32 t192.length co32, .slice Ao33 t195.length co33, .int .i64 t198, .bool false, .string (⟨#[]⟩ : ByteArray)]) ?_ 12 _ rfl; (with_reducible repeat (first | refine blk_drewN ?_ _ | refine blk_drew ?_ | refine blk_alloc ?_ _)); refine blk_put (cs := #[.int .i64 t183, .int .i64 t184, .int .i64 t185, .int .i64 t186, .int .i64 t187, .int .i64 t188, .int .i64 t189, .string t190, .string t191, .slice Ao32 t192.length co32, .slice Ao33 t195.length co33, .int .i64 0, .bool false, .string (⟨#[]⟩ : ByteArray)]) ?_ 11 _ rfl; (with_reducible repeat (first | refine blk_drewN ?_ _ | refine blk_drew ?_ | refine blk_alloc ?_ _)); refine blk_put (cs := #[.int .i64 t183, .int .i64 t184, .int .i64 t185, .int .i64 t186, .int .i64 t187, .int .i64 t188, .int .i64 t189, .string t190, .string t191, .slice Ao32 t192.length co32, .slice none 0 0, .int .i64 0, .bool false, .string (⟨#[]⟩ : ByteArray)]) ?_ 10 _ rfl; (with_reducible repeat (first | refine blk_drewN ?_ _ | refine blk_drew ?_ | refine blk_alloc ?_ _)); refine blk_put (cs := #[.int .i64 t183, .int .i64 t184, .int .i64 t185, .int .i64 t186, .int .i64 t187, .int .i64 t188, .int .i64 t189, .string t190, .string t191, .slice none 0 0, .slice none 0 0, .int .i64 0, .bool false, .string (⟨#[]⟩ : ByteArray)]) ?_ 9 _ rfl; (with_reducible repeat (first | refine blk_drewN ?_ _ | refine blk_drew ?_ | refine blk_alloc ?_ _)); refine blk_put (cs := #[.int .i64 t183, .int .i64 t184, .int .i64 t185, .int .i64 t186, .int .i64 t187, .int .i64 t188, .int .i64 t189, .string t190, .string (⟨#[]⟩ : ByteArray), .slice none 0 0, .slice none 0 0, .int .i64 0, .bool false, .string (⟨#[]⟩ : ByteArray)]) ?_ 8 _ rfl; (with_reducible repeat (first | refine blk_drewN ?_ _ | refine blk_drew ?_ | refine blk_alloc ?_ _)); refine blk_put (cs := #[.int .i64 t183, .int .i64 t184, .int .i64 t185, .int .i64 t186, .int .i64 t187, .int .i64 t188, .int .i64 t189, .string (⟨#[]⟩ : ByteArray), .string (⟨#[]⟩ : ByteArray), .slice none 0 0, .slice none 0 0, .int .i64 0, .bool false, .string (⟨#[]⟩ : ByteArray)]) ?_ 7 _ rfl; (with_reducible repeat (first | refine blk_drewN ?_ _ | refine blk_drew ?_ | refine blk_alloc ?_ _)); refine blk_put (cs := #[.int .i64 t183, .int .i64 t184, .int .i64 t185, .int .i64 t186, .int .i64 t187, .int .i64 t188, .int .i64 0, .string (⟨#[]⟩ : ByteArray), .string (⟨#[]⟩ : ByteArray), .slice none 0 0, .slice none 0 0, .int .i64 0, .bool false, .string (⟨#[]⟩ : ByteArray)]) ?_ 6 _ rfl; (with_reducible repeat (first | refine blk_drewN ?_ _ | refine blk_drew ?_ | refine blk_alloc ?_ _)); refine blk_put (cs := #[.int .i64 t183, .int .i64 t184, .int .i64 t185, .int .i64 t186, .int .i64 t187, .int .i64 0, .int .i64 0, .string (⟨#[]⟩ : ByteArray), .string (⟨#[]⟩ : ByteArray), .slice none 0 0, .slice none 0 0, .int .i64 0, .bool false, .string (⟨#[]⟩ : ByteArray)]) ?_ 5 _ rfl; (with_reducible repeat (first | refine blk_drewN ?_ _ | refine blk_drew ?_ | refine blk_alloc ?_ _)); refine blk_put (cs := #[.int .i64 t183, .int .i64 t184, .int .i64 t185, .int .i64 t186, .int .i64 0, .int .i64 0, .int .i64 0, .string (⟨#[]⟩ : ByteArray), .string (⟨#[]⟩ : ByteArray), .slice none 0 0, .slice none 0 0, .int .i64 0, .bool false, .string (⟨#[]⟩ : ByteArray)]) ?_ 4 _ rfl; (with_reducible repeat (first | refine blk_drewN ?_ _ | refine blk_drew ?_ | refine blk_alloc ?_ _)); refine blk_put (cs := #[.int .i64 t183, .int .i64 t184, .int .i64 t185, .int .i64 0, .int .i64 0, .int .i64 0, .int .i64 0, .string (⟨#[]⟩ : ByteArray), .string (⟨#[]⟩ : ByteArray), .slice none 0 0, .slice none 0 0, .int .i64 0, .bool false, .string (⟨#[]⟩ : ByteArray)]) ?_ 3 _ rfl; (with_reducible repeat (first | refine blk_drewN ?_ _ | refine blk_drew ?_ | refine blk_alloc ?_ _)); refine blk_put (cs := #[.int .i64 t183, .int .i64 t184, .int .i64 0, .int .i64 0, .int .i64 0, .int .i64 0, .int .i64 0, .string (⟨#[]⟩ : ByteArray), .string (⟨#[]⟩ : ByteArray), .slice none 0 0, .slice none 0 0, .int .i64 0, .bool false, .string (⟨#[]⟩ : ByteArray)]) ?_ 2 _ rfl; (with_reducible repeat (first | refine blk_drewN ?_ _ | refine blk_drew ?_ | refine blk_alloc ?_ _)); refine blk_put (cs := #[.int .i64 t183, .int .i64 0, .int .i64 0, .int .i64 0, .int .i64 0, .int .i64 0, .int .i64 0, .string (⟨#[]⟩ : ByteArray), .string (⟨#[]⟩ : ByteArray), .slice none 0 0, .slice none 0 0, .int .i64 0, .bool false, .string (⟨#[]⟩ : ByteArray)]) ?_ 1 _ rfl; (with_reducible repeat (first | refine blk_drewN ?_ _ | refine blk_drew ?_ | refine blk_alloc ?_ _)); refine blk_put (cs := #[.int .i64 0, .int .i64 0, .int .i64 0, .int .i64 0, .int .i64 0, .int .i64 0, .int .i64 0, .string (⟨#[]⟩ : ByteArray), .string (⟨#[]⟩ : ByteArray), .slice none 0 0, .slice none 0 0, .int .i64 0, .bool false, .string (⟨#[]⟩ : ByteArray)]) ?_ 0 _ rfl; exact bL BK202.out) hb); have n6_ := Aside0.mk (below_step (hL HB.out) hb); clear HO174; clear HO177; clear HO194; clear HO197; clear BK182; clear BK202; clear HB; have HO174 := n0_; have HO177 := n1_; have HO194 := n2_; have HO197 := n3_; have BK182 := n4_; have BK202 := n5_; have HB := n6_; clear n0_ n1_ n2_ n3_ n4_ n5_ n6_; (try clear hb); (try clear hb2); (try clear hk); (try clear hi)))
  go_meet
  case rel => exact ⟨_, (true), (by first | rfl | (simp; done) | (simp [*]; done) | (simp [ne_nil_bytes]; done) | (simp [eq_nil_bytes]; done)), H', ⟨by first | omega | exact Nat.le_refl _⟩, ⟨by (with_reducible repeat (first | apply Kd.R_alloc | apply Kd.R_drewN | apply Kd.R_drew)); exact Kd.R_mono HO174.out (fun _ hk => hk.2)⟩, ⟨by (with_reducible repeat (first | apply Kd.R_alloc | apply Kd.R_drewN | apply Kd.R_drew)); exact Kd.R_mono HO177.out (fun _ hk => hk.2)⟩, ⟨by (with_reducible repeat (first | apply Kd.R_alloc | apply Kd.R_drewN | apply Kd.R_drew)); exact Kd.R_mono HO194.out (fun _ hk => hk.2)⟩, ⟨by (with_reducible repeat (first | apply Kd.R_alloc | apply Kd.R_drewN | apply Kd.R_drew)); exact Kd.R_mono HO197.out (fun _ hk => hk.2)⟩, ⟨by exact bL BK182.out⟩, ⟨by exact bL BK202.out⟩, ⟨hL HB.out⟩⟩
 clear HC21
 try clear c1
 try clear p2
 try clear c3
 try clear c4
 try clear c4b0
 try clear c4b0z
 try clear c4b1
 try clear c4b1z
 try clear c6
 try clear c6b0
 try clear c6b0z
 try clear c6b1
 try clear c6b1z
 try clear c7
 try clear c8
 try clear c9
 try clear c10
 try clear c30
 try clear c35
 try clear c36
 try clear c40
 try clear hcz10_0
 try clear hcz10_1
 try clear hcz10_10
 try clear hcz10_11
 try clear hcz10_12
 try clear hcz10_13
 try clear hcz10_2
 try clear hcz10_3
 try clear hcz10_4
 try clear hcz10_5
 try clear hcz10_6
 try clear hcz10_7
 try clear hcz10_8
 try clear hcz10_9
 try clear hcz16_0
 try clear hcz16_1
 try clear hcz16_10
 try clear hcz16_11
 try clear hcz16_12
 try clear hcz16_13
 try clear hcz16_2
 try clear hcz16_3
 try clear hcz16_4
 try clear hcz16_5
 try clear hcz16_6
 try clear hcz16_7
 try clear hcz16_8
 try clear hcz16_9
 try clear hcz25_0
 try clear hcz25_1
 try clear hcz25_10
 try clear hcz25_11
 try clear hcz25_12
 try clear hcz25_13
 try clear hcz25_2
 try clear hcz25_3
 try clear hcz25_4
 try clear hcz25_5
 try clear hcz25_6
 try clear hcz25_7
 try clear hcz25_8
 try clear hcz25_9
 try clear hcz31_0
 try clear hcz31_1
 try clear hcz31_10
 try clear hcz31_11
 try clear hcz31_12
 try clear hcz31_13
 try clear hcz31_2
 try clear hcz31_3
 try clear hcz31_4
 try clear hcz31_5
 try clear hcz31_6
 try clear hcz31_7
 try clear hcz31_8
 try clear hcz31_9
 try clear hcz37_0
 try clear hcz37_1
 try clear hcz37_10
 try clear hcz37_11
 try clear hcz37_12
 try clear hcz37_13
 try clear hcz37_2
 try clear hcz37_3
 try clear hcz37_4
 try clear hcz37_5
 try clear hcz37_6
 try clear hcz37_7
 try clear hcz37_8
 try clear hcz37_9
 try clear hcz38_0
 try clear hcz38_1
 try clear hcz38_10
 try clear hcz38_11
 try clear hcz38_12
 try clear hcz38_13
 try clear hcz38_2
 try clear hcz38_3
 try clear hcz38_4
 try clear hcz38_5
 try clear hcz38_6
 try clear hcz38_7
 try clear hcz38_8
 try clear hcz38_9
 try clear hcz41_0
 try clear hcz41_1
 try clear hcz41_10
 try clear hcz41_11
 try clear hcz41_12
 try clear hcz41_13
 try clear hcz41_2
 try clear hcz41_3
 try clear hcz41_4
 try clear hcz41_5
 try clear hcz41_6
 try clear hcz41_7
 try clear hcz41_8
 try clear hcz41_9
 try clear hcz42_0
 try clear hcz42_1
 try clear hcz42_10
 try clear hcz42_11
 try clear hcz42_12
 try clear hcz42_13
 try clear hcz42_2
 try clear hcz42_3
 try clear hcz42_4
 try clear hcz42_5
 try clear hcz42_6
 try clear hcz42_7
 try clear hcz42_8
 try clear hcz42_9
 try clear hfz10_0
 try clear hfz10_1
 try clear hfz10_10
 try clear hfz10_11
 try clear hfz10_12
 try clear hfz10_13
 try clear hfz10_2
 try clear hfz10_3
 try clear hfz10_4
 try clear hfz10_5
 try clear hfz10_6
 try clear hfz10_7
 try clear hfz10_8
 try clear hfz10_9
 try clear hfz16_0
 try clear hfz16_1
 try clear hfz16_10
 try clear hfz16_11
 try clear hfz16_12
 try clear hfz16_13
 try clear hfz16_2
 try clear hfz16_3
 try clear hfz16_4
 try clear hfz16_5
 try clear hfz16_6
 try clear hfz16_7
 try clear hfz16_8
 try clear hfz16_9
 try clear hfz25_0
 try clear hfz25_1
 try clear hfz25_10
 try clear hfz25_11
 try clear hfz25_12
 try clear hfz25_13
 try clear hfz25_2
 try clear hfz25_3
 try clear hfz25_4
 try clear hfz25_5
 try clear hfz25_6
 try clear hfz25_7
 try clear hfz25_8
 try clear hfz25_9
 try clear hfz31_0
 try clear hfz31_1
 try clear hfz31_10
 try clear hfz31_11
 try clear hfz31_12
 try clear hfz31_13
 try clear hfz31_2
 try clear hfz31_3
 try clear hfz31_4
 try clear hfz31_5
 try clear hfz31_6
 try clear hfz31_7
 try clear hfz31_8
 try clear hfz31_9
 try clear hfz37_0
 try clear hfz37_1
 try clear hfz37_10
 try clear hfz37_11
 try clear hfz37_12
 try clear hfz37_13
 try clear hfz37_2
 try clear hfz37_3
 try clear hfz37_4
 try clear hfz37_5
 try clear hfz37_6
 try clear hfz37_7
 try clear hfz37_8
 try clear hfz37_9
 try clear hfz38_0
 try clear hfz38_1
 try clear hfz38_10
 try clear hfz38_11
 try clear hfz38_12
 try clear hfz38_13
 try clear hfz38_2
 try clear hfz38_3
 try clear hfz38_4
 try clear hfz38_5
 try clear hfz38_6
 try clear hfz38_7
 try clear hfz38_8
 try clear hfz38_9
 try clear hfz41_0
 try clear hfz41_1
 try clear hfz41_10
 try clear hfz41_11
 try clear hfz41_12
 try clear hfz41_13
 try clear hfz41_2
 try clear hfz41_3
 try clear hfz41_4
 try clear hfz41_5
 try clear hfz41_6
 try clear hfz41_7
 try clear hfz41_8
 try clear hfz41_9
 try clear hfz42_0
 try clear hfz42_1
 try clear hfz42_10
 try clear hfz42_11
 try clear hfz42_12
 try clear hfz42_13
 try clear hfz42_2
 try clear hfz42_3
 try clear hfz42_4
 try clear hfz42_5
 try clear hfz42_6
 try clear hfz42_7
 try clear hfz42_8
 try clear hfz42_9
 obtain ⟨kq, x45_20, rfl, HA, HJ20, HO_183009, HO_183010, HO_203009, HO_203010, BK182, BK202, HB⟩ := hcut
 rcases kq with _ | kj20
 ·exact absurd HA.out (by simp [shelfmarklaw13_LetterUnpacks.j0])
 have H := HA.out
 clear HA
 simp only [shelfmarklaw13_LetterUnpacks.j0] at H
 by_cases c44 : x45_20 = true
 ·subst c44
  have H1 : (some false) = some r := by rw [if_pos rfl] at H; exact H
  clear H
  have H := H1
  clear H1
  obtain rfl := Option.some.inj H
  exact absurd HLAW.out (by decide)
 replace c44 := Bool.eq_false_iff.mpr c44
 subst c44
 have H1 : (if t181 = 0 then ((letter_Pack.f kj20 t163 t164 t165 t166 t167 t168 t169 t170 t171 t172 t175 t178 t179 t180).bind fun bt204 => (if bt204.1.toList = a0.toList then (some (bt204.2 == 0)) else (some false))) else (some true)) = some r := by rw [if_neg (show ¬ (false = true) by decide)] at H; exact H
 clear H
 have H := H1
 clear H1
 by_cases c45 : t181 = 0
 rotate_left
 ·rw [if_neg c45] at H
  have c45b0 : (t181 == 0) = false := beq_eq_false_iff_ne.mpr c45
  have c45b1 : (t181 != 0) = true := bne_iff_ne.mpr c45
  obtain rfl := Option.some.inj H
  simp only [Option.some.injEq, Prod.mk.injEq] at H
  obtain ⟨rfl⟩ := H
  go_wp2
  go_ret
  exact ⟨by first | rfl | (simp [errW_none, errW_some] <;> rfl) | (simp [*, errW_none, errW_some] <;> rfl), hL HB.out⟩
 rw [if_pos c45] at H
 have c45b0 : (t181 == 0) = true := beq_iff_eq.mpr c45
 have c45b1 : (t181 != 0) = false := bne_eq_false_iff_eq.mpr c45
 clear c45
 replace H := Option.bind_eq_some_iff.mp H
 obtain ⟨⟨t204, t205⟩, A460, H⟩ := H
 replace H : (if t204.toList = a0.toList then (some (t205 == 0)) else (some false)) = some r := H
 have A46 := Aside0.mk A460
 clear A460
 by_cases c47 : t204.toList = a0.toList
 rotate_left
 ·rw [if_neg c47] at H
  have c47b0 : (t204.toList == a0.toList) = false := beq_eq_false_iff_ne.mpr c47
  have c47b1 : (t204.toList != a0.toList) = true := bne_iff_ne.mpr c47
  obtain rfl := Option.some.inj H
  exact absurd HLAW.out (by decide)
 rw [if_pos c47] at H
 have c47b0 : (t204.toList == a0.toList) = true := beq_iff_eq.mpr c47
 have c47b1 : (t204.toList != a0.toList) = false := bne_eq_false_iff_eq.mpr c47
 clear c47
 obtain rfl := Option.some.inj H
 simp only [Option.some.injEq, Prod.mk.injEq] at H
 obtain ⟨rfl⟩ := H
 have hnb48 := NB182_202.out
 have hnc48 := NB202_182.out
 have hcz49_0 : wc.cell? ⟨gb182, 0, none⟩ = some (.int .i64 t163) := (blk_cell BK182.out 0).trans rfl
 have hcz49_1 : wc.cell? ⟨gb182, 1, none⟩ = some (.int .i64 t164) := (blk_cell BK182.out 1).trans rfl
 have hcz49_2 : wc.cell? ⟨gb182, 2, none⟩ = some (.int .i64 t165) := (blk_cell BK182.out 2).trans rfl
 have hcz49_3 : wc.cell? ⟨gb182, 3, none⟩ = some (.int .i64 t166) := (blk_cell BK182.out 3).trans rfl
 have hcz49_4 : wc.cell? ⟨gb182, 4, none⟩ = some (.int .i64 t167) := (blk_cell BK182.out 4).trans rfl
 have hcz49_5 : wc.cell? ⟨gb182, 5, none⟩ = some (.int .i64 t168) := (blk_cell BK182.out 5).trans rfl
 have hcz49_6 : wc.cell? ⟨gb182, 6, none⟩ = some (.int .i64 t169) := (blk_cell BK182.out 6).trans rfl
 have hcz49_7 : wc.cell? ⟨gb182, 7, none⟩ = some (.string t170) := (blk_cell BK182.out 7).trans rfl
 have hcz49_8 : wc.cell? ⟨gb182, 8, none⟩ = some (.string t171) := (blk_cell BK182.out 8).trans rfl
 have hcz49_9 : wc.cell? ⟨gb182, 9, none⟩ = some (.slice Ao26 t172.length co26) := (blk_cell BK182.out 9).trans rfl
 have hcz49_10 : wc.cell? ⟨gb182, 10, none⟩ = some (.slice Ao27 t175.length co27) := (blk_cell BK182.out 10).trans rfl
 have hcz49_11 : wc.cell? ⟨gb182, 11, none⟩ = some (.int .i64 t178) := (blk_cell BK182.out 11).trans rfl
 have hcz49_12 : wc.cell? ⟨gb182, 12, none⟩ = some (.bool t179) := (blk_cell BK182.out 12).trans rfl
 have hcz49_13 : wc.cell? ⟨gb182, 13, none⟩ = some (.string t180) := (blk_cell BK182.out 13).trans rfl
 have hfz49_0 := blk_frozen BK182.out 0
 have hfz49_1 := blk_frozen BK182.out 1
 have hfz49_2 := blk_frozen BK182.out 2
 have hfz49_3 := blk_frozen BK182.out 3
 have hfz49_4 := blk_frozen BK182.out 4
 have hfz49_5 := blk_frozen BK182.out 5
 have hfz49_6 := blk_frozen BK182.out 6
 have hfz49_7 := blk_frozen BK182.out 7
 have hfz49_8 := blk_frozen BK182.out 8
 have hfz49_9 := blk_frozen BK182.out 9
 have hfz49_10 := blk_frozen BK182.out 10
 have hfz49_11 := blk_frozen BK182.out 11
 have hfz49_12 := blk_frozen BK182.out 12
 have hfz49_13 := blk_frozen BK182.out 13
 go_wp2_with (first | ((with_reducible refine gate_callee (f := 11) rfl ?_); refine goesL_ (some 50) rfl rfl Try.func11 (by kernel_rfl) rfl #[.agg #[.int .i64 t163, .int .i64 t164, .int .i64 t165, .int .i64 t166, .int .i64 t167, .int .i64 t168, .int .i64 t169, .string t170, .string t171, .slice Ao26 t172.length co26, .slice Ao27 t175.length co27, .int .i64 t178, .bool t179, .string t180]] rfl (by (try simp only [List.map_toArray, List.map_cons, List.map_nil]); first | done | rfl | (simp only [List.length_drop, List.length_take]; rfl)) ?_; (with_reducible refine (letter_Pack.calls kj20 t163 t164 t165 t166 t167 t168 t169 t170 t171 _ _ t172 _ _ t175 t178 t179 t180 t204 t205 _ ?side1 ?side2 ?side3 ?side4 A46.out).mono ?_); (case side1 => repeat (first | exact (Kd.R_reads' HO_183009.out).2.2 | (with_reducible refine Kd.C_alloc ?_ _) | (with_reducible refine Kd.C_drewN ?_ _) | (with_reducible refine Kd.C_drew ?_))); (case side2 => exact (Kd.R_reads' HO_183009.out).2.1); (case side3 => repeat (first | exact (Kd.R_reads' HO_183010.out).2.2 | (with_reducible refine Kd.C_alloc ?_ _) | (with_reducible refine Kd.C_drewN ?_ _) | (with_reducible refine Kd.C_drew ?_))); (case side4 => exact (Kd.R_reads' HO_183010.out).2.1); rintro e w50 ⟨rfl, hb⟩; refine ⟨_, rfl, ?_⟩; have n0_ := Aside0.mk (Kd.R_below (rL HO_183009.out) hb); have n1_ := Aside0.mk (Kd.R_below (rL HO_183010.out) hb); have n2_ := Aside0.mk (Kd.R_below (rL HO_203009.out) hb); have n3_ := Aside0.mk (Kd.R_below (rL HO_203010.out) hb); have n4_ := Aside0.mk (blk_below (bL BK182.out) hb); have n5_ := Aside0.mk (blk_below (bL BK202.out) hb); have n6_ := Aside0.mk (below_step (hL HB.out) hb); clear HO_183009; clear HO_183010; clear HO_203009; clear HO_203010; clear BK182; clear BK202; clear HB; have HO_183009 := n0_; have HO_183010 := n1_; have HO_203009 := n2_; have HO_203010 := n3_; have BK182 := n4_; have BK202 := n5_; have HB := n6_; clear n0_ n1_ n2_ n3_ n4_ n5_ n6_; (try clear hb); (try clear hb2); (try clear hk); (try clear hi)))
 go_ret
 exact ⟨by first | rfl | (simp [errW_none, errW_some] <;> rfl) | (simp [*, errW_none, errW_some] <;> rfl), hL HB.out⟩

/-- THE ONE PURE STATEMENT of shelfmarklaw13_LetterUnpacks: yours. -/
def shelfmarklaw13_LetterUnpacks.Pure : Prop := ∀ (a0 : ByteArray), a0.size ≤ 140737488351232 → ∃ k, shelfmarklaw13_LetterUnpacks.f k a0 = some true
theorem shelfmarklaw13_LetterUnpacks.walk (P : shelfmarklaw13_LetterUnpacks.Pure) (a0 : ByteArray) (w : World) (w0 : a0.size ≤ 140737488351232) :
  Calls Try.prog 3 #[.string a0] w fun e w' => e = .returned (.bool true) ∧ Below w.heap.size w w' := by
 obtain ⟨k, h⟩ := P a0 w0
 refine (shelfmarklaw13_LetterUnpacks.calls k a0 true w h rfl).mono ?_
 rintro e w' ⟨rfl, hd⟩
 exact ⟨rfl, hd⟩

end Go.Proofs.Ythghacojbhjeaaa.PLt
