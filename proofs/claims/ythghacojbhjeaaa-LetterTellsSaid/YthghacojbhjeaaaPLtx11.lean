-- Written by a program of this session for this claim (mp.py, over the kit's print); Lean checks it.
import Derived.Test.YthghacojbhjeaaaPLtx0
import Derived.Test.YthghacojbhjeaaaPLtx3
import Derived.Test.YthghacojbhjeaaaPLtx4
import Derived.Test.YthghacojbhjeaaaPLtx5
import Derived.Test.YthghacojbhjeaaaPLtx8
import Derived.Test.YthghacojbhjeaaaPLtx10
namespace Go.Proofs.Ythghacojbhjeaaa.PLt
open Go.RowKit Go.Proofs.YthghacojbhjeaaaW.PrintWords Go.Proofs.YthghacojbhjeaaaW.PrintLast Go.Proofs.YthghacojbhjeaaaW.PrintMore Go.Proofs.Ythghacojbhjeaaa.Fv Go.Proofs.Ythghacojbhjeaaa.Hl
attribute [local go_sem] max2_int min2_int max_two min_two max_three min_three max_four min_four str_gtr str_leq str_geq cell_set2   -- for this text's walks alone
set_option linter.unusedVariables false
set_option linter.unusedSimpArgs false

/-! ### shelfmarklaw13_LetterTells: function 4 -/
mutual
def shelfmarklaw13_LetterTells.j0 : Nat → Int → Bool → Int → Int → Int → Int → Int → Int → Int → ByteArray → ByteArray → List (S39) → List (S41) → Int → Bool → ByteArray → Int → Int → Int → Int → Int → Int → Int → ByteArray → ByteArray → List (S39) → List (S41) → Int → Bool → ByteArray → Option (Bool)
 | 0, _, _, _, _, _, _, _, _, _, _, _, _, _, _, _, _, _, _, _, _, _, _, _, _, _, _, _, _, _, _ => none
 | k + 1, x2, x20, x211000, x211001, x211002, x211003, x211004, x211005, x211006, x211007, x211008, x211009, x211010, x211011, x211012, x211013, x212000, x212001, x212002, x212003, x212004, x212005, x212006, x212007, x212008, x212009, x212010, x212011, x212012, x212013 => if x20 = true then (some true) else ((letter_Pack.f k x211000 x211001 x211002 x211003 x211004 x211005 x211006 x211007 x211008 x211009 x211010 x211011 x211012 x211013).bind fun bt215 => ((letter_Pack.f k x212000 x212001 x212002 x212003 x212004 x212005 x212006 x212007 x212008 x212009 x212010 x212011 x212012 x212013).bind fun bt217 => (if bt215.2 = 0 then (shelfmarklaw13_LetterTells.j1 k x2 bt215.1 bt217.1 (bt217.2 != 0) x211000 x211001 x211002 x211003 x211004 x211005 x211006 x211007 x211008 x211009 x211010 x211011 x211012 x211013 x212000 x212001 x212002 x212003 x212004 x212005 x212006 x212007 x212008 x212009 x212010 x212011 x212012 x212013) else (shelfmarklaw13_LetterTells.j1 k x2 bt215.1 bt217.1 true x211000 x211001 x211002 x211003 x211004 x211005 x211006 x211007 x211008 x211009 x211010 x211011 x211012 x211013 x212000 x212001 x212002 x212003 x212004 x212005 x212006 x212007 x212008 x212009 x212010 x212011 x212012 x212013))))
def shelfmarklaw13_LetterTells.j1 : Nat → Int → ByteArray → ByteArray → Bool → Int → Int → Int → Int → Int → Int → Int → ByteArray → ByteArray → List (S39) → List (S41) → Int → Bool → ByteArray → Int → Int → Int → Int → Int → Int → Int → ByteArray → ByteArray → List (S39) → List (S41) → Int → Bool → ByteArray → Option (Bool)
 | 0, _, _, _, _, _, _, _, _, _, _, _, _, _, _, _, _, _, _, _, _, _, _, _, _, _, _, _, _, _, _, _, _ => none
 | k + 1, x2, x7, x9, x36, x211000, x211001, x211002, x211003, x211004, x211005, x211006, x211007, x211008, x211009, x211010, x211011, x211012, x211013, x212000, x212001, x212002, x212003, x212004, x212005, x212006, x212007, x212008, x212009, x212010, x212011, x212012, x212013 => if x36 = true then (some true) else ((shelfmarkref13_Same.f k x211000 x211001 x211002 x211003 x211004 x211005 x211006 x211007 x211008 x211009 x211010 x211011 x211012 x211013 x212000 x212001 x212002 x212003 x212004 x212005 x212006 x212007 x212008 x212009 x212010 x212011 x212012 x212013).bind fun t219 => (if ((x7.toList == x9.toList) != t219) = true then (some false) else (if x2 < 0 then (some true) else (if x2 ≥ (x7.size : Int) then (some true) else (if 0 ≤ x2 then (if x2 ≤ (x7.size : Int) then ((letter_Unpack.f k (x7.extract 0 (x2 : Int).toNat)).bind fun bt220 => (some (bt220.2.2.2.2.2.2.2.2.2.2.2.2.2.2 == 2))) else (none)) else (none))))))
end
def shelfmarklaw13_LetterTells.f (k : Nat) (a0_0 : Int) (a0_1 : Int) (a0_2 : Int) (a0_3 : Int) (a0_4 : Int) (a0_5 : Int) (a0_6 : Int) (a0_7 : ByteArray) (a0_8 : ByteArray) (l0_9 : List (S39)) (l0_10 : List (S41)) (a0_11 : Int) (a0_12 : Bool) (a0_13 : ByteArray) (a1_0 : Int) (a1_1 : Int) (a1_2 : Int) (a1_3 : Int) (a1_4 : Int) (a1_5 : Int) (a1_6 : Int) (a1_7 : ByteArray) (a1_8 : ByteArray) (l1_9 : List (S39)) (l1_10 : List (S41)) (a1_11 : Int) (a1_12 : Bool) (a1_13 : ByteArray) (a2 : Int) : Option (Bool) := (shelfmarklaw13_awake.f k).bind fun t212 => (if t212 = true then ((shelfmarkref13_Light.f k a0_0 a0_1 a0_2 a0_3 a0_4 a0_5 a0_6 a0_7 a0_8 l0_9 l0_10 a0_11 a0_12 a0_13).bind fun t213 => (if t213 = true then ((shelfmarkref13_Light.f k a1_0 a1_1 a1_2 a1_3 a1_4 a1_5 a1_6 a1_7 a1_8 l1_9 l1_10 a1_11 a1_12 a1_13).bind fun t214 => (shelfmarklaw13_LetterTells.j0 k a2 (!t214) a0_0 a0_1 a0_2 a0_3 a0_4 a0_5 a0_6 a0_7 a0_8 l0_9 l0_10 a0_11 a0_12 a0_13 a1_0 a1_1 a1_2 a1_3 a1_4 a1_5 a1_6 a1_7 a1_8 l1_9 l1_10 a1_11 a1_12 a1_13)) else (shelfmarklaw13_LetterTells.j0 k a2 true a0_0 a0_1 a0_2 a0_3 a0_4 a0_5 a0_6 a0_7 a0_8 l0_9 l0_10 a0_11 a0_12 a0_13 a1_0 a1_1 a1_2 a1_3 a1_4 a1_5 a1_6 a1_7 a1_8 l1_9 l1_10 a1_11 a1_12 a1_13))) else (some false))
theorem shelfmarklaw13_LetterTells.mono_l : ∀ k, (∀ y0 y1 y2 y3 y4 y5 y6 y7 y8 y9 y10 y11 y12 y13 y14 y15 y16 y17 y18 y19 y20 y21 y22 y23 y24 y25 y26 y27 y28 y29, LeO (shelfmarklaw13_LetterTells.j0 k y0 y1 y2 y3 y4 y5 y6 y7 y8 y9 y10 y11 y12 y13 y14 y15 y16 y17 y18 y19 y20 y21 y22 y23 y24 y25 y26 y27 y28 y29) (shelfmarklaw13_LetterTells.j0 (k + 1) y0 y1 y2 y3 y4 y5 y6 y7 y8 y9 y10 y11 y12 y13 y14 y15 y16 y17 y18 y19 y20 y21 y22 y23 y24 y25 y26 y27 y28 y29)) ∧ (∀ y0 y1 y2 y3 y4 y5 y6 y7 y8 y9 y10 y11 y12 y13 y14 y15 y16 y17 y18 y19 y20 y21 y22 y23 y24 y25 y26 y27 y28 y29 y30 y31, LeO (shelfmarklaw13_LetterTells.j1 k y0 y1 y2 y3 y4 y5 y6 y7 y8 y9 y10 y11 y12 y13 y14 y15 y16 y17 y18 y19 y20 y21 y22 y23 y24 y25 y26 y27 y28 y29 y30 y31) (shelfmarklaw13_LetterTells.j1 (k + 1) y0 y1 y2 y3 y4 y5 y6 y7 y8 y9 y10 y11 y12 y13 y14 y15 y16 y17 y18 y19 y20 y21 y22 y23 y24 y25 y26 y27 y28 y29 y30 y31))
 | 0 => ⟨fun _ _ _ _ _ _ _ _ _ _ _ _ _ _ _ _ _ _ _ _ _ _ _ _ _ _ _ _ _ _ r h => by simp [shelfmarklaw13_LetterTells.j0] at h, fun _ _ _ _ _ _ _ _ _ _ _ _ _ _ _ _ _ _ _ _ _ _ _ _ _ _ _ _ _ _ _ _ r h => by simp [shelfmarklaw13_LetterTells.j1] at h⟩
 | k + 1 => by
  obtain ⟨ih0, ih1⟩ := shelfmarklaw13_LetterTells.mono_l k
  refine ⟨?_, ?_⟩
  ·intro y0 y1 y2 y3 y4 y5 y6 y7 y8 y9 y10 y11 y12 y13 y14 y15 y16 y17 y18 y19 y20 y21 y22 y23 y24 y25 y26 y27 y28 y29
   unfold shelfmarklaw13_LetterTells.j0
   repeat' first
   | (with_reducible exact ih0 _ _ _ _ _ _ _ _ _ _ _ _ _ _ _ _ _ _ _ _ _ _ _ _ _ _ _ _ _ _)
   | (with_reducible exact ih1 _ _ _ _ _ _ _ _ _ _ _ _ _ _ _ _ _ _ _ _ _ _ _ _ _ _ _ _ _ _ _ _)
   | (with_reducible exact letter_Pack.mono _ _ _ _ _ _ _ _ _ _ _ _ _ _ _)
   | (with_reducible exact letter_Unpack.mono _ _)
   | (with_reducible exact shelfmarklaw13_awake.mono _)
   | (with_reducible exact shelfmarkref13_Light.mono _ _ _ _ _ _ _ _ _ _ _ _ _ _ _)
   | (with_reducible exact shelfmarkref13_Same.mono _ _ _ _ _ _ _ _ _ _ _ _ _ _ _ _ _ _ _ _ _ _ _ _ _ _ _ _ _)
   | (with_reducible exact LeO.refl _)
   | (with_reducible exact LeO.none _)
   | (with_reducible refine LeO.ite ?_ ?_)
   | (with_reducible refine LeO.bind ?_ (fun _ => ?_))
   | exact ih0 _ _ _ _ _ _ _ _ _ _ _ _ _ _ _ _ _ _ _ _ _ _ _ _ _ _ _ _ _ _
   | exact ih1 _ _ _ _ _ _ _ _ _ _ _ _ _ _ _ _ _ _ _ _ _ _ _ _ _ _ _ _ _ _ _ _
   | exact letter_Pack.mono _ _ _ _ _ _ _ _ _ _ _ _ _ _ _
   | exact letter_Unpack.mono _ _
   | exact shelfmarklaw13_awake.mono _
   | exact shelfmarkref13_Light.mono _ _ _ _ _ _ _ _ _ _ _ _ _ _ _
   | exact shelfmarkref13_Same.mono _ _ _ _ _ _ _ _ _ _ _ _ _ _ _ _ _ _ _ _ _ _ _ _ _ _ _ _ _
   | exact LeO.none _
   | refine LeO.ite ?_ ?_
   | refine LeO.bind ?_ (fun _ => ?_)
  ·intro y0 y1 y2 y3 y4 y5 y6 y7 y8 y9 y10 y11 y12 y13 y14 y15 y16 y17 y18 y19 y20 y21 y22 y23 y24 y25 y26 y27 y28 y29 y30 y31
   unfold shelfmarklaw13_LetterTells.j1
   repeat' first
   | (with_reducible exact ih0 _ _ _ _ _ _ _ _ _ _ _ _ _ _ _ _ _ _ _ _ _ _ _ _ _ _ _ _ _ _)
   | (with_reducible exact ih1 _ _ _ _ _ _ _ _ _ _ _ _ _ _ _ _ _ _ _ _ _ _ _ _ _ _ _ _ _ _ _ _)
   | (with_reducible exact letter_Pack.mono _ _ _ _ _ _ _ _ _ _ _ _ _ _ _)
   | (with_reducible exact letter_Unpack.mono _ _)
   | (with_reducible exact shelfmarklaw13_awake.mono _)
   | (with_reducible exact shelfmarkref13_Light.mono _ _ _ _ _ _ _ _ _ _ _ _ _ _ _)
   | (with_reducible exact shelfmarkref13_Same.mono _ _ _ _ _ _ _ _ _ _ _ _ _ _ _ _ _ _ _ _ _ _ _ _ _ _ _ _ _)
   | (with_reducible exact LeO.refl _)
   | (with_reducible exact LeO.none _)
   | (with_reducible refine LeO.ite ?_ ?_)
   | (with_reducible refine LeO.bind ?_ (fun _ => ?_))
   | exact ih0 _ _ _ _ _ _ _ _ _ _ _ _ _ _ _ _ _ _ _ _ _ _ _ _ _ _ _ _ _ _
   | exact ih1 _ _ _ _ _ _ _ _ _ _ _ _ _ _ _ _ _ _ _ _ _ _ _ _ _ _ _ _ _ _ _ _
   | exact letter_Pack.mono _ _ _ _ _ _ _ _ _ _ _ _ _ _ _
   | exact letter_Unpack.mono _ _
   | exact shelfmarklaw13_awake.mono _
   | exact shelfmarkref13_Light.mono _ _ _ _ _ _ _ _ _ _ _ _ _ _ _
   | exact shelfmarkref13_Same.mono _ _ _ _ _ _ _ _ _ _ _ _ _ _ _ _ _ _ _ _ _ _ _ _ _ _ _ _ _
   | exact LeO.none _
   | refine LeO.ite ?_ ?_
   | refine LeO.bind ?_ (fun _ => ?_)
theorem shelfmarklaw13_LetterTells.mono : ∀ a0 a1 a2 a3 a4 a5 a6 a7 a8 a9 a10 a11 a12 a13 a14 a15 a16 a17 a18 a19 a20 a21 a22 a23 a24 a25 a26 a27 a28 k, LeO (shelfmarklaw13_LetterTells.f k a0 a1 a2 a3 a4 a5 a6 a7 a8 a9 a10 a11 a12 a13 a14 a15 a16 a17 a18 a19 a20 a21 a22 a23 a24 a25 a26 a27 a28) (shelfmarklaw13_LetterTells.f (k + 1) a0 a1 a2 a3 a4 a5 a6 a7 a8 a9 a10 a11 a12 a13 a14 a15 a16 a17 a18 a19 a20 a21 a22 a23 a24 a25 a26 a27 a28) := by
 intro a0 a1 a2 a3 a4 a5 a6 a7 a8 a9 a10 a11 a12 a13 a14 a15 a16 a17 a18 a19 a20 a21 a22 a23 a24 a25 a26 a27 a28 k
 obtain ⟨ih0, ih1⟩ := shelfmarklaw13_LetterTells.mono_l k
 unfold shelfmarklaw13_LetterTells.f
 repeat' first
   | (with_reducible exact ih0 _ _ _ _ _ _ _ _ _ _ _ _ _ _ _ _ _ _ _ _ _ _ _ _ _ _ _ _ _ _)
   | (with_reducible exact ih1 _ _ _ _ _ _ _ _ _ _ _ _ _ _ _ _ _ _ _ _ _ _ _ _ _ _ _ _ _ _ _ _)
   | (with_reducible exact letter_Pack.mono _ _ _ _ _ _ _ _ _ _ _ _ _ _ _)
   | (with_reducible exact letter_Unpack.mono _ _)
   | (with_reducible exact shelfmarklaw13_awake.mono _)
   | (with_reducible exact shelfmarkref13_Light.mono _ _ _ _ _ _ _ _ _ _ _ _ _ _ _)
   | (with_reducible exact shelfmarkref13_Same.mono _ _ _ _ _ _ _ _ _ _ _ _ _ _ _ _ _ _ _ _ _ _ _ _ _ _ _ _ _)
   | (with_reducible exact LeO.refl _)
   | (with_reducible exact LeO.none _)
   | (with_reducible refine LeO.ite ?_ ?_)
   | (with_reducible refine LeO.bind ?_ (fun _ => ?_))
   | exact ih0 _ _ _ _ _ _ _ _ _ _ _ _ _ _ _ _ _ _ _ _ _ _ _ _ _ _ _ _ _ _
   | exact ih1 _ _ _ _ _ _ _ _ _ _ _ _ _ _ _ _ _ _ _ _ _ _ _ _ _ _ _ _ _ _ _ _
   | exact letter_Pack.mono _ _ _ _ _ _ _ _ _ _ _ _ _ _ _
   | exact letter_Unpack.mono _ _
   | exact shelfmarklaw13_awake.mono _
   | exact shelfmarkref13_Light.mono _ _ _ _ _ _ _ _ _ _ _ _ _ _ _
   | exact shelfmarkref13_Same.mono _ _ _ _ _ _ _ _ _ _ _ _ _ _ _ _ _ _ _ _ _ _ _ _ _ _ _ _ _
   | exact LeO.none _
   | refine LeO.ite ?_ ?_
   | refine LeO.bind ?_ (fun _ => ?_)
set_option maxHeartbeats 8000000 in
set_option maxRecDepth 100000 in
theorem shelfmarklaw13_LetterTells.calls (k : Nat) (a0_0 : Int) (a0_1 : Int) (a0_2 : Int) (a0_3 : Int) (a0_4 : Int) (a0_5 : Int) (a0_6 : Int) (a0_7 : ByteArray) (a0_8 : ByteArray) (A0_9 : Option Addr) (c0_9 : Nat) (l0_9 : List (S39)) (A0_10 : Option Addr) (c0_10 : Nat) (l0_10 : List (S41)) (a0_11 : Int) (a0_12 : Bool) (a0_13 : ByteArray) (a1_0 : Int) (a1_1 : Int) (a1_2 : Int) (a1_3 : Int) (a1_4 : Int) (a1_5 : Int) (a1_6 : Int) (a1_7 : ByteArray) (a1_8 : ByteArray) (A1_9 : Option Addr) (c1_9 : Nat) (l1_9 : List (S39)) (A1_10 : Option Addr) (c1_10 : Nat) (l1_10 : List (S41)) (a1_11 : Int) (a1_12 : Bool) (a1_13 : ByteArray) (a2 : Int) (r : Bool) (w : World) (hr0_9 : Kd.C k39 w A0_9 l0_9.length l0_9) (hc0_9 : l0_9.length ≤ c0_9) (hr0_10 : Kd.C k41 w A0_10 l0_10.length l0_10) (hc0_10 : l0_10.length ≤ c0_10) (hr1_9 : Kd.C k39 w A1_9 l1_9.length l1_9) (hc1_9 : l1_9.length ≤ c1_9) (hr1_10 : Kd.C k41 w A1_10 l1_10.length l1_10) (hc1_10 : l1_10.length ≤ c1_10) (h : shelfmarklaw13_LetterTells.f k a0_0 a0_1 a0_2 a0_3 a0_4 a0_5 a0_6 a0_7 a0_8 l0_9 l0_10 a0_11 a0_12 a0_13 a1_0 a1_1 a1_2 a1_3 a1_4 a1_5 a1_6 a1_7 a1_8 l1_9 l1_10 a1_11 a1_12 a1_13 a2 = some r) (hlaw : r = true) :
  Calls Try.prog 4 #[.agg #[.int .i64 a0_0, .int .i64 a0_1, .int .i64 a0_2, .int .i64 a0_3, .int .i64 a0_4, .int .i64 a0_5, .int .i64 a0_6, .string a0_7, .string a0_8, .slice A0_9 l0_9.length c0_9, .slice A0_10 l0_10.length c0_10, .int .i64 a0_11, .bool a0_12, .string a0_13], .agg #[.int .i64 a1_0, .int .i64 a1_1, .int .i64 a1_2, .int .i64 a1_3, .int .i64 a1_4, .int .i64 a1_5, .int .i64 a1_6, .string a1_7, .string a1_8, .slice A1_9 l1_9.length c1_9, .slice A1_10 l1_10.length c1_10, .int .i64 a1_11, .bool a1_12, .string a1_13], .int .i64 a2] w fun e w' => e = .returned (.bool r) ∧ Below w.heap.size w w' := by
 have HLAW := Aside0.mk hlaw
 clear hlaw
 have hu27 := Try.underlying27
 have HR0_9 := Aside0.mk hr0_9
 have HC0_9 := Aside0.mk hc0_9
 clear hr0_9 hc0_9
 have HR0_10 := Aside0.mk hr0_10
 have HC0_10 := Aside0.mk hc0_10
 clear hr0_10 hc0_10
 have HR1_9 := Aside0.mk hr1_9
 have HC1_9 := Aside0.mk hc1_9
 clear hr1_9 hc1_9
 have HR1_10 := Aside0.mk hr1_10
 have HC1_10 := Aside0.mk hc1_10
 clear hr1_10 hc1_10
 have HB := Aside0.mk (Below.refl w.heap.size w)
 have H : ((shelfmarklaw13_awake.f k).bind fun t212 => (if t212 = true then ((shelfmarkref13_Light.f k a0_0 a0_1 a0_2 a0_3 a0_4 a0_5 a0_6 a0_7 a0_8 l0_9 l0_10 a0_11 a0_12 a0_13).bind fun t213 => (if t213 = true then ((shelfmarkref13_Light.f k a1_0 a1_1 a1_2 a1_3 a1_4 a1_5 a1_6 a1_7 a1_8 l1_9 l1_10 a1_11 a1_12 a1_13).bind fun t214 => (shelfmarklaw13_LetterTells.j0 k a2 (!t214) a0_0 a0_1 a0_2 a0_3 a0_4 a0_5 a0_6 a0_7 a0_8 l0_9 l0_10 a0_11 a0_12 a0_13 a1_0 a1_1 a1_2 a1_3 a1_4 a1_5 a1_6 a1_7 a1_8 l1_9 l1_10 a1_11 a1_12 a1_13)) else (shelfmarklaw13_LetterTells.j0 k a2 true a0_0 a0_1 a0_2 a0_3 a0_4 a0_5 a0_6 a0_7 a0_8 l0_9 l0_10 a0_11 a0_12 a0_13 a1_0 a1_1 a1_2 a1_3 a1_4 a1_5 a1_6 a1_7 a1_8 l1_9 l1_10 a1_11 a1_12 a1_13))) else (some false))) = some r := h
 clear h
 replace H := Option.bind_eq_some_iff.mp H
 obtain ⟨t212, A40, H⟩ := H
 replace H : (if t212 = true then ((shelfmarkref13_Light.f k a0_0 a0_1 a0_2 a0_3 a0_4 a0_5 a0_6 a0_7 a0_8 l0_9 l0_10 a0_11 a0_12 a0_13).bind fun t213 => (if t213 = true then ((shelfmarkref13_Light.f k a1_0 a1_1 a1_2 a1_3 a1_4 a1_5 a1_6 a1_7 a1_8 l1_9 l1_10 a1_11 a1_12 a1_13).bind fun t214 => (shelfmarklaw13_LetterTells.j0 k a2 (!t214) a0_0 a0_1 a0_2 a0_3 a0_4 a0_5 a0_6 a0_7 a0_8 l0_9 l0_10 a0_11 a0_12 a0_13 a1_0 a1_1 a1_2 a1_3 a1_4 a1_5 a1_6 a1_7 a1_8 l1_9 l1_10 a1_11 a1_12 a1_13)) else (shelfmarklaw13_LetterTells.j0 k a2 true a0_0 a0_1 a0_2 a0_3 a0_4 a0_5 a0_6 a0_7 a0_8 l0_9 l0_10 a0_11 a0_12 a0_13 a1_0 a1_1 a1_2 a1_3 a1_4 a1_5 a1_6 a1_7 a1_8 l1_9 l1_10 a1_11 a1_12 a1_13))) else (some false)) = some r := H
 have A4 := Aside0.mk A40
 clear A40
 by_cases c5 : t212 = true
 rotate_left
 ·replace c5 := Bool.eq_false_iff.mpr c5
  subst c5
  have H1 : (some false) = some r := by rw [if_neg (show ¬ (false = true) by decide)] at H; exact H
  clear H
  have H := H1
  clear H1
  obtain rfl := Option.some.inj H
  exact absurd HLAW.out (by decide)
 subst c5
 have H1 : ((shelfmarkref13_Light.f k a0_0 a0_1 a0_2 a0_3 a0_4 a0_5 a0_6 a0_7 a0_8 l0_9 l0_10 a0_11 a0_12 a0_13).bind fun t213 => (if t213 = true then ((shelfmarkref13_Light.f k a1_0 a1_1 a1_2 a1_3 a1_4 a1_5 a1_6 a1_7 a1_8 l1_9 l1_10 a1_11 a1_12 a1_13).bind fun t214 => (shelfmarklaw13_LetterTells.j0 k a2 (!t214) a0_0 a0_1 a0_2 a0_3 a0_4 a0_5 a0_6 a0_7 a0_8 l0_9 l0_10 a0_11 a0_12 a0_13 a1_0 a1_1 a1_2 a1_3 a1_4 a1_5 a1_6 a1_7 a1_8 l1_9 l1_10 a1_11 a1_12 a1_13)) else (shelfmarklaw13_LetterTells.j0 k a2 true a0_0 a0_1 a0_2 a0_3 a0_4 a0_5 a0_6 a0_7 a0_8 l0_9 l0_10 a0_11 a0_12 a0_13 a1_0 a1_1 a1_2 a1_3 a1_4 a1_5 a1_6 a1_7 a1_8 l1_9 l1_10 a1_11 a1_12 a1_13))) = some r := by rw [if_pos rfl] at H; exact H
 clear H
 have H := H1
 clear H1
 have HC6 := Aside0.mk H
 clear H
 go_enter Try.func4, Try.ntmps4
 go_upto_region 3 with (first | ((with_reducible refine gate_dst (N := 3) rfl ?_); (try (refine gate_guard (by rfl) ?_; dsimp only)); refine box_event ?hg (N := 3) ?hd (cs := #[.int .i64 a0_0, .int .i64 a0_1, .int .i64 a0_2, .int .i64 a0_3, .int .i64 a0_4, .int .i64 a0_5, .int .i64 a0_6, .string a0_7, .string a0_8, .slice A0_9 l0_9.length c0_9, .slice A0_10 l0_10.length c0_10, .int .i64 a0_11, .bool a0_12, .string a0_13]) (t := 27) ?hr ?_; (case hd => rfl); (case hg => rfl); (case hr => first | (go_simp; done) | (go_simp; rfl)); intro gb210 hg w7 hbox hb; have n0_ := Aside0.mk (below_step (hL HB.out) hb); have n1_ := Aside0.mk (hbox); have n2_ := Above.mk ((by rw [hg]; exact (below_size (hL HB.out)) : w.heap.size ≤ gb210)); have n3_ := Above.mk ((by rw [hg]; exact (below_size (hL HB.out)) : w.heap.size ≤ gb210)); clear HB; have HB := n0_; have BK210 := n1_; have GW210 := n2_; have GE210 := n3_; clear n0_ n1_ n2_ n3_; clear hb hbox hg) | ((with_reducible refine gate_dst (N := 4) rfl ?_); (try (refine gate_guard (by rfl) ?_; dsimp only)); refine box_event ?hg (N := 4) ?hd (cs := #[.int .i64 a1_0, .int .i64 a1_1, .int .i64 a1_2, .int .i64 a1_3, .int .i64 a1_4, .int .i64 a1_5, .int .i64 a1_6, .string a1_7, .string a1_8, .slice A1_9 l1_9.length c1_9, .slice A1_10 l1_10.length c1_10, .int .i64 a1_11, .bool a1_12, .string a1_13]) (t := 27) ?hr ?_; (case hd => rfl); (case hg => rfl); (case hr => first | (go_simp; done) | (go_simp; rfl)); intro gb211 hg w8 hbox hb; have n0_ := Aside0.mk (blk_below (bL BK210.out) hb); have n1_ := Aside0.mk (below_step (hL HB.out) hb); have n2_ := Aside0.mk (hbox); have n3_ := Above.mk ((by rw [hg]; exact (below_size (hL HB.out)) : w.heap.size ≤ gb211)); have n4_ := Above.mk ((by rw [hg]; exact (below_size (hL HB.out)) : w.heap.size ≤ gb211)); have n5_ := Aside0.mk ((by rw [hg]; exact Nat.ne_of_lt (blk_lt (g := gb210) (o := .cells #[.int .i64 a0_0, .int .i64 a0_1, .int .i64 a0_2, .int .i64 a0_3, .int .i64 a0_4, .int .i64 a0_5, .int .i64 a0_6, .string a0_7, .string a0_8, .slice A0_9 l0_9.length c0_9, .slice A0_10 l0_10.length c0_10, .int .i64 a0_11, .bool a0_12, .string a0_13] 27 (0, 0)) (bL BK210.out)) : gb210 ≠ gb211)); have n6_ := Aside0.mk ((by rw [hg]; exact Nat.ne_of_gt (blk_lt (g := gb210) (o := .cells #[.int .i64 a0_0, .int .i64 a0_1, .int .i64 a0_2, .int .i64 a0_3, .int .i64 a0_4, .int .i64 a0_5, .int .i64 a0_6, .string a0_7, .string a0_8, .slice A0_9 l0_9.length c0_9, .slice A0_10 l0_10.length c0_10, .int .i64 a0_11, .bool a0_12, .string a0_13] 27 (0, 0)) (bL BK210.out)) : gb211 ≠ gb210)); clear BK210; clear HB; have BK210 := n0_; have HB := n1_; have BK211 := n2_; have GW211 := n3_; have GE211 := n4_; have NB210_211 := n5_; have NB211_210 := n6_; clear n0_ n1_ n2_ n3_ n4_ n5_ n6_; clear hb hbox hg) | ((with_reducible refine gate_callee (f := 7) rfl ?_); refine goesL_ (some 11) rfl rfl Try.func7 (by kernel_rfl) rfl #[] rfl (by (try simp only [List.map_toArray, List.map_cons, List.map_nil]); first | done | rfl | (simp only [List.length_drop, List.length_take]; rfl)) ?_; (with_reducible refine (shelfmarklaw13_awake.calls k  true _ A4.out).mono ?_); rintro e w9 ⟨rfl, hb⟩; refine ⟨_, rfl, ?_⟩; have n0_ := Aside0.mk (blk_below (bL BK210.out) hb); have n1_ := Aside0.mk (blk_below (bL BK211.out) hb); have n2_ := Aside0.mk (below_step (hL HB.out) hb); clear BK210; clear BK211; clear HB; have BK210 := n0_; have BK211 := n1_; have HB := n2_; clear n0_ n1_ n2_; (try clear hb); (try clear hb2); (try clear hk); (try clear hi)))
 (try simp only [Act.put, sT, sZ, sS])
 go_cut [20] (fun v20 wc => ∃ (kq : Nat) (x20_5 : Bool), v20 = .bool x20_5 ∧ Aside0 (shelfmarklaw13_LetterTells.j0 kq a2 x20_5 a0_0 a0_1 a0_2 a0_3 a0_4 a0_5 a0_6 a0_7 a0_8 l0_9 l0_10 a0_11 a0_12 a0_13 a1_0 a1_1 a1_2 a1_3 a1_4 a1_5 a1_6 a1_7 a1_8 l1_9 l1_10 a1_11 a1_12 a1_13 = some r) ∧ Aside0 (kq ≤ k) ∧ Aside0 (wc.heap[gb210]? = some (.cells #[.int .i64 a0_0, .int .i64 a0_1, .int .i64 a0_2, .int .i64 a0_3, .int .i64 a0_4, .int .i64 a0_5, .int .i64 a0_6, .string a0_7, .string a0_8, (.slice A0_9 l0_9.length c0_9), (.slice A0_10 l0_10.length c0_10), .int .i64 a0_11, .bool a0_12, .string a0_13] 27 (0, 0))) ∧ Aside0 (wc.heap[gb211]? = some (.cells #[.int .i64 a1_0, .int .i64 a1_1, .int .i64 a1_2, .int .i64 a1_3, .int .i64 a1_4, .int .i64 a1_5, .int .i64 a1_6, .string a1_7, .string a1_8, (.slice A1_9 l1_9.length c1_9), (.slice A1_10 l1_10.length c1_10), .int .i64 a1_11, .bool a1_12, .string a1_13] 27 (0, 0))) ∧ Aside0 (Below w.heap.size w wc))
 case first =>
  have H := HC6.out
  clear HC6
  replace H := Option.bind_eq_some_iff.mp H
  obtain ⟨t213, A100, H⟩ := H
  replace H : (if t213 = true then ((shelfmarkref13_Light.f k a1_0 a1_1 a1_2 a1_3 a1_4 a1_5 a1_6 a1_7 a1_8 l1_9 l1_10 a1_11 a1_12 a1_13).bind fun t214 => (shelfmarklaw13_LetterTells.j0 k a2 (!t214) a0_0 a0_1 a0_2 a0_3 a0_4 a0_5 a0_6 a0_7 a0_8 l0_9 l0_10 a0_11 a0_12 a0_13 a1_0 a1_1 a1_2 a1_3 a1_4 a1_5 a1_6 a1_7 a1_8 l1_9 l1_10 a1_11 a1_12 a1_13)) else (shelfmarklaw13_LetterTells.j0 k a2 true a0_0 a0_1 a0_2 a0_3 a0_4 a0_5 a0_6 a0_7 a0_8 l0_9 l0_10 a0_11 a0_12 a0_13 a1_0 a1_1 a1_2 a1_3 a1_4 a1_5 a1_6 a1_7 a1_8 l1_9 l1_10 a1_11 a1_12 a1_13)) = some r := H
  have A10 := Aside0.mk A100
  clear A100
  by_cases c11 : t213 = true
  rotate_left
  ·replace c11 := Bool.eq_false_iff.mpr c11
   subst c11
   have H1 : (shelfmarklaw13_LetterTells.j0 k a2 true a0_0 a0_1 a0_2 a0_3 a0_4 a0_5 a0_6 a0_7 a0_8 l0_9 l0_10 a0_11 a0_12 a0_13 a1_0 a1_1 a1_2 a1_3 a1_4 a1_5 a1_6 a1_7 a1_8 l1_9 l1_10 a1_11 a1_12 a1_13) = some r := by rw [if_neg (show ¬ (false = true) by decide)] at H; exact H
   clear H
   have H := H1
   clear H1
   have H' := Aside0.mk H
   clear H
   have hnb18 := NB210_211.out
   have hnc18 := NB211_210.out
   have hcz19_0 : w9.cell? ⟨gb210, 0, none⟩ = some (.int .i64 a0_0) := (blk_cell BK210.out 0).trans rfl
   have hcz19_1 : w9.cell? ⟨gb210, 1, none⟩ = some (.int .i64 a0_1) := (blk_cell BK210.out 1).trans rfl
   have hcz19_2 : w9.cell? ⟨gb210, 2, none⟩ = some (.int .i64 a0_2) := (blk_cell BK210.out 2).trans rfl
   have hcz19_3 : w9.cell? ⟨gb210, 3, none⟩ = some (.int .i64 a0_3) := (blk_cell BK210.out 3).trans rfl
   have hcz19_4 : w9.cell? ⟨gb210, 4, none⟩ = some (.int .i64 a0_4) := (blk_cell BK210.out 4).trans rfl
   have hcz19_5 : w9.cell? ⟨gb210, 5, none⟩ = some (.int .i64 a0_5) := (blk_cell BK210.out 5).trans rfl
   have hcz19_6 : w9.cell? ⟨gb210, 6, none⟩ = some (.int .i64 a0_6) := (blk_cell BK210.out 6).trans rfl
   have hcz19_7 : w9.cell? ⟨gb210, 7, none⟩ = some (.string a0_7) := (blk_cell BK210.out 7).trans rfl
   have hcz19_8 : w9.cell? ⟨gb210, 8, none⟩ = some (.string a0_8) := (blk_cell BK210.out 8).trans rfl
   have hcz19_9 : w9.cell? ⟨gb210, 9, none⟩ = some (.slice A0_9 l0_9.length c0_9) := (blk_cell BK210.out 9).trans rfl
   have hcz19_10 : w9.cell? ⟨gb210, 10, none⟩ = some (.slice A0_10 l0_10.length c0_10) := (blk_cell BK210.out 10).trans rfl
   have hcz19_11 : w9.cell? ⟨gb210, 11, none⟩ = some (.int .i64 a0_11) := (blk_cell BK210.out 11).trans rfl
   have hcz19_12 : w9.cell? ⟨gb210, 12, none⟩ = some (.bool a0_12) := (blk_cell BK210.out 12).trans rfl
   have hcz19_13 : w9.cell? ⟨gb210, 13, none⟩ = some (.string a0_13) := (blk_cell BK210.out 13).trans rfl
   have hfz19_0 := blk_frozen BK210.out 0
   have hfz19_1 := blk_frozen BK210.out 1
   have hfz19_2 := blk_frozen BK210.out 2
   have hfz19_3 := blk_frozen BK210.out 3
   have hfz19_4 := blk_frozen BK210.out 4
   have hfz19_5 := blk_frozen BK210.out 5
   have hfz19_6 := blk_frozen BK210.out 6
   have hfz19_7 := blk_frozen BK210.out 7
   have hfz19_8 := blk_frozen BK210.out 8
   have hfz19_9 := blk_frozen BK210.out 9
   have hfz19_10 := blk_frozen BK210.out 10
   have hfz19_11 := blk_frozen BK210.out 11
   have hfz19_12 := blk_frozen BK210.out 12
   have hfz19_13 := blk_frozen BK210.out 13
   go_wp2_with (first | ((with_reducible refine gate_callee (f := 12) rfl ?_); refine goesL_ (some 14) rfl rfl Try.func12 (by kernel_rfl) rfl #[.agg #[.int .i64 a0_0, .int .i64 a0_1, .int .i64 a0_2, .int .i64 a0_3, .int .i64 a0_4, .int .i64 a0_5, .int .i64 a0_6, .string a0_7, .string a0_8, .slice A0_9 l0_9.length c0_9, .slice A0_10 l0_10.length c0_10, .int .i64 a0_11, .bool a0_12, .string a0_13]] rfl (by (try simp only [List.map_toArray, List.map_cons, List.map_nil]); first | done | rfl | (simp only [List.length_drop, List.length_take]; rfl)) ?_; (with_reducible refine (shelfmarkref13_Light.calls k a0_0 a0_1 a0_2 a0_3 a0_4 a0_5 a0_6 a0_7 a0_8 _ _ l0_9 _ _ l0_10 a0_11 a0_12 a0_13 false _ ?side1 ?side2 ?side3 ?side4 A10.out).mono ?_); (case side1 => repeat (first | exact (Kd.C_below HR0_9.out HB.out) | (with_reducible refine Kd.C_alloc ?_ _) | (with_reducible refine Kd.C_drewN ?_ _) | (with_reducible refine Kd.C_drew ?_))); (case side2 => exact HC0_9.out); (case side3 => repeat (first | exact (Kd.C_below HR0_10.out HB.out) | (with_reducible refine Kd.C_alloc ?_ _) | (with_reducible refine Kd.C_drewN ?_ _) | (with_reducible refine Kd.C_drew ?_))); (case side4 => exact HC0_10.out); rintro e w20 ⟨rfl, hb⟩; refine ⟨_, rfl, ?_⟩; have n0_ := Aside0.mk (blk_below (bL BK210.out) hb); have n1_ := Aside0.mk (blk_below (bL BK211.out) hb); have n2_ := Aside0.mk (below_step (hL HB.out) hb); clear BK210; clear BK211; clear HB; have BK210 := n0_; have BK211 := n1_; have HB := n2_; clear n0_ n1_ n2_; (try clear hb); (try clear hb2); (try clear hk); (try clear hi)))
   go_meet
   case rel => exact ⟨_, (true), (by first | rfl | (simp; done) | (simp [*]; done) | (simp [ne_nil_bytes]; done) | (simp [eq_nil_bytes]; done)), H', ⟨by first | omega | exact Nat.le_refl _⟩, ⟨by exact bL BK210.out⟩, ⟨by exact bL BK211.out⟩, ⟨hL HB.out⟩⟩
  subst c11
  have H1 : ((shelfmarkref13_Light.f k a1_0 a1_1 a1_2 a1_3 a1_4 a1_5 a1_6 a1_7 a1_8 l1_9 l1_10 a1_11 a1_12 a1_13).bind fun t214 => (shelfmarklaw13_LetterTells.j0 k a2 (!t214) a0_0 a0_1 a0_2 a0_3 a0_4 a0_5 a0_6 a0_7 a0_8 l0_9 l0_10 a0_11 a0_12 a0_13 a1_0 a1_1 a1_2 a1_3 a1_4 a1_5 a1_6 a1_7 a1_8 l1_9 l1_10 a1_11 a1_12 a1_13)) = some r := by rw [if_pos rfl] at H; exact H
  clear H
  have H := H1
  clear H1
  replace H := Option.bind_eq_some_iff.mp H
  obtain ⟨t214, A120, H⟩ := H
  replace H : (shelfmarklaw13_LetterTells.j0 k a2 (!t214) a0_0 a0_1 a0_2 a0_3 a0_4 a0_5 a0_6 a0_7 a0_8 l0_9 l0_10 a0_11 a0_12 a0_13 a1_0 a1_1 a1_2 a1_3 a1_4 a1_5 a1_6 a1_7 a1_8 l1_9 l1_10 a1_11 a1_12 a1_13) = some r := H
  have A12 := Aside0.mk A120
  clear A120
  have H' := Aside0.mk H
  clear H
  have hnb13 := NB210_211.out
  have hnc13 := NB211_210.out
  have hcz14_0 : w9.cell? ⟨gb210, 0, none⟩ = some (.int .i64 a0_0) := (blk_cell BK210.out 0).trans rfl
  have hcz14_1 : w9.cell? ⟨gb210, 1, none⟩ = some (.int .i64 a0_1) := (blk_cell BK210.out 1).trans rfl
  have hcz14_2 : w9.cell? ⟨gb210, 2, none⟩ = some (.int .i64 a0_2) := (blk_cell BK210.out 2).trans rfl
  have hcz14_3 : w9.cell? ⟨gb210, 3, none⟩ = some (.int .i64 a0_3) := (blk_cell BK210.out 3).trans rfl
  have hcz14_4 : w9.cell? ⟨gb210, 4, none⟩ = some (.int .i64 a0_4) := (blk_cell BK210.out 4).trans rfl
  have hcz14_5 : w9.cell? ⟨gb210, 5, none⟩ = some (.int .i64 a0_5) := (blk_cell BK210.out 5).trans rfl
  have hcz14_6 : w9.cell? ⟨gb210, 6, none⟩ = some (.int .i64 a0_6) := (blk_cell BK210.out 6).trans rfl
  have hcz14_7 : w9.cell? ⟨gb210, 7, none⟩ = some (.string a0_7) := (blk_cell BK210.out 7).trans rfl
  have hcz14_8 : w9.cell? ⟨gb210, 8, none⟩ = some (.string a0_8) := (blk_cell BK210.out 8).trans rfl
  have hcz14_9 : w9.cell? ⟨gb210, 9, none⟩ = some (.slice A0_9 l0_9.length c0_9) := (blk_cell BK210.out 9).trans rfl
  have hcz14_10 : w9.cell? ⟨gb210, 10, none⟩ = some (.slice A0_10 l0_10.length c0_10) := (blk_cell BK210.out 10).trans rfl
  have hcz14_11 : w9.cell? ⟨gb210, 11, none⟩ = some (.int .i64 a0_11) := (blk_cell BK210.out 11).trans rfl
  have hcz14_12 : w9.cell? ⟨gb210, 12, none⟩ = some (.bool a0_12) := (blk_cell BK210.out 12).trans rfl
  have hcz14_13 : w9.cell? ⟨gb210, 13, none⟩ = some (.string a0_13) := (blk_cell BK210.out 13).trans rfl
  have hfz14_0 := blk_frozen BK210.out 0
  have hfz14_1 := blk_frozen BK210.out 1
  have hfz14_2 := blk_frozen BK210.out 2
  have hfz14_3 := blk_frozen BK210.out 3
  have hfz14_4 := blk_frozen BK210.out 4
  have hfz14_5 := blk_frozen BK210.out 5
  have hfz14_6 := blk_frozen BK210.out 6
  have hfz14_7 := blk_frozen BK210.out 7
  have hfz14_8 := blk_frozen BK210.out 8
  have hfz14_9 := blk_frozen BK210.out 9
  have hfz14_10 := blk_frozen BK210.out 10
  have hfz14_11 := blk_frozen BK210.out 11
  have hfz14_12 := blk_frozen BK210.out 12
  have hfz14_13 := blk_frozen BK210.out 13
  go_wp2_with (first | ((with_reducible refine gate_callee (f := 12) rfl ?_); refine goesL_ (some 14) rfl rfl Try.func12 (by kernel_rfl) rfl #[.agg #[.int .i64 a0_0, .int .i64 a0_1, .int .i64 a0_2, .int .i64 a0_3, .int .i64 a0_4, .int .i64 a0_5, .int .i64 a0_6, .string a0_7, .string a0_8, .slice A0_9 l0_9.length c0_9, .slice A0_10 l0_10.length c0_10, .int .i64 a0_11, .bool a0_12, .string a0_13]] rfl (by (try simp only [List.map_toArray, List.map_cons, List.map_nil]); first | done | rfl | (simp only [List.length_drop, List.length_take]; rfl)) ?_; (with_reducible refine (shelfmarkref13_Light.calls k a0_0 a0_1 a0_2 a0_3 a0_4 a0_5 a0_6 a0_7 a0_8 _ _ l0_9 _ _ l0_10 a0_11 a0_12 a0_13 true _ ?side1 ?side2 ?side3 ?side4 A10.out).mono ?_); (case side1 => repeat (first | exact (Kd.C_below HR0_9.out HB.out) | (with_reducible refine Kd.C_alloc ?_ _) | (with_reducible refine Kd.C_drewN ?_ _) | (with_reducible refine Kd.C_drew ?_))); (case side2 => exact HC0_9.out); (case side3 => repeat (first | exact (Kd.C_below HR0_10.out HB.out) | (with_reducible refine Kd.C_alloc ?_ _) | (with_reducible refine Kd.C_drewN ?_ _) | (with_reducible refine Kd.C_drew ?_))); (case side4 => exact HC0_10.out); rintro e w15 ⟨rfl, hb⟩; refine ⟨_, rfl, ?_⟩; have n0_ := Aside0.mk (blk_below (bL BK210.out) hb); have n1_ := Aside0.mk (blk_below (bL BK211.out) hb); have n2_ := Aside0.mk (below_step (hL HB.out) hb); clear BK210; clear BK211; clear HB; have BK210 := n0_; have BK211 := n1_; have HB := n2_; clear n0_ n1_ n2_; (try clear hb); (try clear hb2); (try clear hk); (try clear hi); have hcz16_0 : w15.cell? ⟨gb211, 0, none⟩ = some (.int .i64 a1_0) := (blk_cell BK211.out 0).trans rfl; have hcz16_1 : w15.cell? ⟨gb211, 1, none⟩ = some (.int .i64 a1_1) := (blk_cell BK211.out 1).trans rfl; have hcz16_2 : w15.cell? ⟨gb211, 2, none⟩ = some (.int .i64 a1_2) := (blk_cell BK211.out 2).trans rfl; have hcz16_3 : w15.cell? ⟨gb211, 3, none⟩ = some (.int .i64 a1_3) := (blk_cell BK211.out 3).trans rfl; have hcz16_4 : w15.cell? ⟨gb211, 4, none⟩ = some (.int .i64 a1_4) := (blk_cell BK211.out 4).trans rfl; have hcz16_5 : w15.cell? ⟨gb211, 5, none⟩ = some (.int .i64 a1_5) := (blk_cell BK211.out 5).trans rfl; have hcz16_6 : w15.cell? ⟨gb211, 6, none⟩ = some (.int .i64 a1_6) := (blk_cell BK211.out 6).trans rfl; have hcz16_7 : w15.cell? ⟨gb211, 7, none⟩ = some (.string a1_7) := (blk_cell BK211.out 7).trans rfl; have hcz16_8 : w15.cell? ⟨gb211, 8, none⟩ = some (.string a1_8) := (blk_cell BK211.out 8).trans rfl; have hcz16_9 : w15.cell? ⟨gb211, 9, none⟩ = some (.slice A1_9 l1_9.length c1_9) := (blk_cell BK211.out 9).trans rfl; have hcz16_10 : w15.cell? ⟨gb211, 10, none⟩ = some (.slice A1_10 l1_10.length c1_10) := (blk_cell BK211.out 10).trans rfl; have hcz16_11 : w15.cell? ⟨gb211, 11, none⟩ = some (.int .i64 a1_11) := (blk_cell BK211.out 11).trans rfl; have hcz16_12 : w15.cell? ⟨gb211, 12, none⟩ = some (.bool a1_12) := (blk_cell BK211.out 12).trans rfl; have hcz16_13 : w15.cell? ⟨gb211, 13, none⟩ = some (.string a1_13) := (blk_cell BK211.out 13).trans rfl; have hfz16_0 := blk_frozen BK211.out 0; have hfz16_1 := blk_frozen BK211.out 1; have hfz16_2 := blk_frozen BK211.out 2; have hfz16_3 := blk_frozen BK211.out 3; have hfz16_4 := blk_frozen BK211.out 4; have hfz16_5 := blk_frozen BK211.out 5; have hfz16_6 := blk_frozen BK211.out 6; have hfz16_7 := blk_frozen BK211.out 7; have hfz16_8 := blk_frozen BK211.out 8; have hfz16_9 := blk_frozen BK211.out 9; have hfz16_10 := blk_frozen BK211.out 10; have hfz16_11 := blk_frozen BK211.out 11; have hfz16_12 := blk_frozen BK211.out 12; have hfz16_13 := blk_frozen BK211.out 13) | (go_at_call 12; (with_reducible refine (shelfmarkref13_Light.calls k a1_0 a1_1 a1_2 a1_3 a1_4 a1_5 a1_6 a1_7 a1_8 _ _ l1_9 _ _ l1_10 a1_11 a1_12 a1_13 t214 _ ?side1 ?side2 ?side3 ?side4 A12.out).mono ?_); (case side1 => repeat (first | exact (Kd.C_below HR1_9.out HB.out) | (with_reducible refine Kd.C_alloc ?_ _) | (with_reducible refine Kd.C_drewN ?_ _) | (with_reducible refine Kd.C_drew ?_))); (case side2 => exact HC1_9.out); (case side3 => repeat (first | exact (Kd.C_below HR1_10.out HB.out) | (with_reducible refine Kd.C_alloc ?_ _) | (with_reducible refine Kd.C_drewN ?_ _) | (with_reducible refine Kd.C_drew ?_))); (case side4 => exact HC1_10.out); rintro e w17 ⟨rfl, hb⟩; have n0_ := Aside0.mk (blk_below (bL BK210.out) hb); have n1_ := Aside0.mk (blk_below (bL BK211.out) hb); have n2_ := Aside0.mk (below_step (hL HB.out) hb); clear BK210; clear BK211; clear HB; have BK210 := n0_; have BK211 := n1_; have HB := n2_; clear n0_ n1_ n2_; (try clear hb); (try clear hb2); (try clear hk); (try clear hi)))
  go_meet
  case rel => exact ⟨_, (!t214), (by first | rfl | (simp; done) | (simp [*]; done) | (simp [ne_nil_bytes]; done) | (simp [eq_nil_bytes]; done)), H', ⟨by first | omega | exact Nat.le_refl _⟩, ⟨by exact bL BK210.out⟩, ⟨by exact bL BK211.out⟩, ⟨hL HB.out⟩⟩
 clear HC6
 try clear c1
 try clear p2
 try clear c4
 try clear c5
 try clear c7
 try clear c11
 try clear c12
 try clear c13
 try clear c18
 try clear hcz14_0
 try clear hcz14_1
 try clear hcz14_10
 try clear hcz14_11
 try clear hcz14_12
 try clear hcz14_13
 try clear hcz14_2
 try clear hcz14_3
 try clear hcz14_4
 try clear hcz14_5
 try clear hcz14_6
 try clear hcz14_7
 try clear hcz14_8
 try clear hcz14_9
 try clear hcz16_0
 try clear hcz16_1
 try clear hcz16_10
 try clear hcz16_11
 try clear hcz16_12
 try clear hcz16_13
 try clear hcz16_2
 try clear hcz16_3
 try clear hcz16_4
 try clear hcz16_5
 try clear hcz16_6
 try clear hcz16_7
 try clear hcz16_8
 try clear hcz16_9
 try clear hcz19_0
 try clear hcz19_1
 try clear hcz19_10
 try clear hcz19_11
 try clear hcz19_12
 try clear hcz19_13
 try clear hcz19_2
 try clear hcz19_3
 try clear hcz19_4
 try clear hcz19_5
 try clear hcz19_6
 try clear hcz19_7
 try clear hcz19_8
 try clear hcz19_9
 try clear hfz14_0
 try clear hfz14_1
 try clear hfz14_10
 try clear hfz14_11
 try clear hfz14_12
 try clear hfz14_13
 try clear hfz14_2
 try clear hfz14_3
 try clear hfz14_4
 try clear hfz14_5
 try clear hfz14_6
 try clear hfz14_7
 try clear hfz14_8
 try clear hfz14_9
 try clear hfz16_0
 try clear hfz16_1
 try clear hfz16_10
 try clear hfz16_11
 try clear hfz16_12
 try clear hfz16_13
 try clear hfz16_2
 try clear hfz16_3
 try clear hfz16_4
 try clear hfz16_5
 try clear hfz16_6
 try clear hfz16_7
 try clear hfz16_8
 try clear hfz16_9
 try clear hfz19_0
 try clear hfz19_1
 try clear hfz19_10
 try clear hfz19_11
 try clear hfz19_12
 try clear hfz19_13
 try clear hfz19_2
 try clear hfz19_3
 try clear hfz19_4
 try clear hfz19_5
 try clear hfz19_6
 try clear hfz19_7
 try clear hfz19_8
 try clear hfz19_9
 obtain ⟨kq, x20_5, rfl, HA, HJ5, BK210, BK211, HB⟩ := hcut
 rcases kq with _ | kj5
 ·exact absurd HA.out (by simp [shelfmarklaw13_LetterTells.j0])
 have H := HA.out
 clear HA
 simp only [shelfmarklaw13_LetterTells.j0] at H
 by_cases c21 : x20_5 = true
 ·subst c21
  have H1 : (some true) = some r := by rw [if_pos rfl] at H; exact H
  clear H
  have H := H1
  clear H1
  obtain rfl := Option.some.inj H
  simp only [Option.some.injEq, Prod.mk.injEq] at H
  obtain ⟨rfl⟩ := H
  go_wp2
  go_ret
  exact ⟨by first | rfl | (simp [errW_none, errW_some] <;> rfl) | (simp [*, errW_none, errW_some] <;> rfl), hL HB.out⟩
 replace c21 := Bool.eq_false_iff.mpr c21
 subst c21
 have H1 : ((letter_Pack.f kj5 a0_0 a0_1 a0_2 a0_3 a0_4 a0_5 a0_6 a0_7 a0_8 l0_9 l0_10 a0_11 a0_12 a0_13).bind fun bt215 => ((letter_Pack.f kj5 a1_0 a1_1 a1_2 a1_3 a1_4 a1_5 a1_6 a1_7 a1_8 l1_9 l1_10 a1_11 a1_12 a1_13).bind fun bt217 => (if bt215.2 = 0 then (shelfmarklaw13_LetterTells.j1 kj5 a2 bt215.1 bt217.1 (bt217.2 != 0) a0_0 a0_1 a0_2 a0_3 a0_4 a0_5 a0_6 a0_7 a0_8 l0_9 l0_10 a0_11 a0_12 a0_13 a1_0 a1_1 a1_2 a1_3 a1_4 a1_5 a1_6 a1_7 a1_8 l1_9 l1_10 a1_11 a1_12 a1_13) else (shelfmarklaw13_LetterTells.j1 kj5 a2 bt215.1 bt217.1 true a0_0 a0_1 a0_2 a0_3 a0_4 a0_5 a0_6 a0_7 a0_8 l0_9 l0_10 a0_11 a0_12 a0_13 a1_0 a1_1 a1_2 a1_3 a1_4 a1_5 a1_6 a1_7 a1_8 l1_9 l1_10 a1_11 a1_12 a1_13)))) = some r := by rw [if_neg (show ¬ (false = true) by decide)] at H; exact H
 clear H
 have H := H1
 clear H1
 replace H := Option.bind_eq_some_iff.mp H
 obtain ⟨⟨t215, t216⟩, A220, H⟩ := H
 replace H : ((letter_Pack.f kj5 a1_0 a1_1 a1_2 a1_3 a1_4 a1_5 a1_6 a1_7 a1_8 l1_9 l1_10 a1_11 a1_12 a1_13).bind fun bt217 => (if t216 = 0 then (shelfmarklaw13_LetterTells.j1 kj5 a2 t215 bt217.1 (bt217.2 != 0) a0_0 a0_1 a0_2 a0_3 a0_4 a0_5 a0_6 a0_7 a0_8 l0_9 l0_10 a0_11 a0_12 a0_13 a1_0 a1_1 a1_2 a1_3 a1_4 a1_5 a1_6 a1_7 a1_8 l1_9 l1_10 a1_11 a1_12 a1_13) else (shelfmarklaw13_LetterTells.j1 kj5 a2 t215 bt217.1 true a0_0 a0_1 a0_2 a0_3 a0_4 a0_5 a0_6 a0_7 a0_8 l0_9 l0_10 a0_11 a0_12 a0_13 a1_0 a1_1 a1_2 a1_3 a1_4 a1_5 a1_6 a1_7 a1_8 l1_9 l1_10 a1_11 a1_12 a1_13))) = some r := H
 have A22 := Aside0.mk A220
 clear A220
 replace H := Option.bind_eq_some_iff.mp H
 obtain ⟨⟨t217, t218⟩, A230, H⟩ := H
 replace H : (if t216 = 0 then (shelfmarklaw13_LetterTells.j1 kj5 a2 t215 t217 (t218 != 0) a0_0 a0_1 a0_2 a0_3 a0_4 a0_5 a0_6 a0_7 a0_8 l0_9 l0_10 a0_11 a0_12 a0_13 a1_0 a1_1 a1_2 a1_3 a1_4 a1_5 a1_6 a1_7 a1_8 l1_9 l1_10 a1_11 a1_12 a1_13) else (shelfmarklaw13_LetterTells.j1 kj5 a2 t215 t217 true a0_0 a0_1 a0_2 a0_3 a0_4 a0_5 a0_6 a0_7 a0_8 l0_9 l0_10 a0_11 a0_12 a0_13 a1_0 a1_1 a1_2 a1_3 a1_4 a1_5 a1_6 a1_7 a1_8 l1_9 l1_10 a1_11 a1_12 a1_13)) = some r := H
 have A23 := Aside0.mk A230
 clear A230
 have HC24 := Aside0.mk H
 clear H
 have hnb25 := NB210_211.out
 have hnc25 := NB211_210.out
 have hcz26_0 : wc.cell? ⟨gb210, 0, none⟩ = some (.int .i64 a0_0) := (blk_cell BK210.out 0).trans rfl
 have hcz26_1 : wc.cell? ⟨gb210, 1, none⟩ = some (.int .i64 a0_1) := (blk_cell BK210.out 1).trans rfl
 have hcz26_2 : wc.cell? ⟨gb210, 2, none⟩ = some (.int .i64 a0_2) := (blk_cell BK210.out 2).trans rfl
 have hcz26_3 : wc.cell? ⟨gb210, 3, none⟩ = some (.int .i64 a0_3) := (blk_cell BK210.out 3).trans rfl
 have hcz26_4 : wc.cell? ⟨gb210, 4, none⟩ = some (.int .i64 a0_4) := (blk_cell BK210.out 4).trans rfl
 have hcz26_5 : wc.cell? ⟨gb210, 5, none⟩ = some (.int .i64 a0_5) := (blk_cell BK210.out 5).trans rfl
 have hcz26_6 : wc.cell? ⟨gb210, 6, none⟩ = some (.int .i64 a0_6) := (blk_cell BK210.out 6).trans rfl
 have hcz26_7 : wc.cell? ⟨gb210, 7, none⟩ = some (.string a0_7) := (blk_cell BK210.out 7).trans rfl
 have hcz26_8 : wc.cell? ⟨gb210, 8, none⟩ = some (.string a0_8) := (blk_cell BK210.out 8).trans rfl
 have hcz26_9 : wc.cell? ⟨gb210, 9, none⟩ = some (.slice A0_9 l0_9.length c0_9) := (blk_cell BK210.out 9).trans rfl
 have hcz26_10 : wc.cell? ⟨gb210, 10, none⟩ = some (.slice A0_10 l0_10.length c0_10) := (blk_cell BK210.out 10).trans rfl
 have hcz26_11 : wc.cell? ⟨gb210, 11, none⟩ = some (.int .i64 a0_11) := (blk_cell BK210.out 11).trans rfl
 have hcz26_12 : wc.cell? ⟨gb210, 12, none⟩ = some (.bool a0_12) := (blk_cell BK210.out 12).trans rfl
 have hcz26_13 : wc.cell? ⟨gb210, 13, none⟩ = some (.string a0_13) := (blk_cell BK210.out 13).trans rfl
 have hfz26_0 := blk_frozen BK210.out 0
 have hfz26_1 := blk_frozen BK210.out 1
 have hfz26_2 := blk_frozen BK210.out 2
 have hfz26_3 := blk_frozen BK210.out 3
 have hfz26_4 := blk_frozen BK210.out 4
 have hfz26_5 := blk_frozen BK210.out 5
 have hfz26_6 := blk_frozen BK210.out 6
 have hfz26_7 := blk_frozen BK210.out 7
 have hfz26_8 := blk_frozen BK210.out 8
 have hfz26_9 := blk_frozen BK210.out 9
 have hfz26_10 := blk_frozen BK210.out 10
 have hfz26_11 := blk_frozen BK210.out 11
 have hfz26_12 := blk_frozen BK210.out 12
 have hfz26_13 := blk_frozen BK210.out 13
 go_upto_region 7 with (first | ((with_reducible refine gate_callee (f := 11) rfl ?_); refine goesL_ (some 23) rfl rfl Try.func11 (by kernel_rfl) rfl #[.agg #[.int .i64 a0_0, .int .i64 a0_1, .int .i64 a0_2, .int .i64 a0_3, .int .i64 a0_4, .int .i64 a0_5, .int .i64 a0_6, .string a0_7, .string a0_8, .slice A0_9 l0_9.length c0_9, .slice A0_10 l0_10.length c0_10, .int .i64 a0_11, .bool a0_12, .string a0_13]] rfl (by (try simp only [List.map_toArray, List.map_cons, List.map_nil]); first | done | rfl | (simp only [List.length_drop, List.length_take]; rfl)) ?_; (with_reducible refine (letter_Pack.calls kj5 a0_0 a0_1 a0_2 a0_3 a0_4 a0_5 a0_6 a0_7 a0_8 _ _ l0_9 _ _ l0_10 a0_11 a0_12 a0_13 t215 t216 _ ?side1 ?side2 ?side3 ?side4 A22.out).mono ?_); (case side1 => repeat (first | exact (Kd.C_below HR0_9.out HB.out) | (with_reducible refine Kd.C_alloc ?_ _) | (with_reducible refine Kd.C_drewN ?_ _) | (with_reducible refine Kd.C_drew ?_))); (case side2 => exact HC0_9.out); (case side3 => repeat (first | exact (Kd.C_below HR0_10.out HB.out) | (with_reducible refine Kd.C_alloc ?_ _) | (with_reducible refine Kd.C_drewN ?_ _) | (with_reducible refine Kd.C_drew ?_))); (case side4 => exact HC0_10.out); rintro e w27 ⟨rfl, hb⟩; refine ⟨_, rfl, ?_⟩; have n0_ := Aside0.mk (blk_below (bL BK210.out) hb); have n1_ := Aside0.mk (blk_below (bL BK211.out) hb); have n2_ := Aside0.mk (below_step (hL HB.out) hb); clear BK210; clear BK211; clear HB; have BK210 := n0_; have BK211 := n1_; have HB := n2_; clear n0_ n1_ n2_; (try clear hb); (try clear hb2); (try clear hk); (try clear hi); have hcz28_0 : w27.cell? ⟨gb211, 0, none⟩ = some (.int .i64 a1_0) := (blk_cell BK211.out 0).trans rfl; have hcz28_1 : w27.cell? ⟨gb211, 1, none⟩ = some (.int .i64 a1_1) := (blk_cell BK211.out 1).trans rfl; have hcz28_2 : w27.cell? ⟨gb211, 2, none⟩ = some (.int .i64 a1_2) := (blk_cell BK211.out 2).trans rfl; have hcz28_3 : w27.cell? ⟨gb211, 3, none⟩ = some (.int .i64 a1_3) := (blk_cell BK211.out 3).trans rfl; have hcz28_4 : w27.cell? ⟨gb211, 4, none⟩ = some (.int .i64 a1_4) := (blk_cell BK211.out 4).trans rfl; have hcz28_5 : w27.cell? ⟨gb211, 5, none⟩ = some (.int .i64 a1_5) := (blk_cell BK211.out 5).trans rfl; have hcz28_6 : w27.cell? ⟨gb211, 6, none⟩ = some (.int .i64 a1_6) := (blk_cell BK211.out 6).trans rfl; have hcz28_7 : w27.cell? ⟨gb211, 7, none⟩ = some (.string a1_7) := (blk_cell BK211.out 7).trans rfl; have hcz28_8 : w27.cell? ⟨gb211, 8, none⟩ = some (.string a1_8) := (blk_cell BK211.out 8).trans rfl; have hcz28_9 : w27.cell? ⟨gb211, 9, none⟩ = some (.slice A1_9 l1_9.length c1_9) := (blk_cell BK211.out 9).trans rfl; have hcz28_10 : w27.cell? ⟨gb211, 10, none⟩ = some (.slice A1_10 l1_10.length c1_10) := (blk_cell BK211.out 10).trans rfl; have hcz28_11 : w27.cell? ⟨gb211, 11, none⟩ = some (.int .i64 a1_11) := (blk_cell BK211.out 11).trans rfl; have hcz28_12 : w27.cell? ⟨gb211, 12, none⟩ = some (.bool a1_12) := (blk_cell BK211.out 12).trans rfl; have hcz28_13 : w27.cell? ⟨gb211, 13, none⟩ = some (.string a1_13) := (blk_cell BK211.out 13).trans rfl; have hfz28_0 := blk_frozen BK211.out 0; have hfz28_1 := blk_frozen BK211.out 1; have hfz28_2 := blk_frozen BK211.out 2; have hfz28_3 := blk_frozen BK211.out 3; have hfz28_4 := blk_frozen BK211.out 4; have hfz28_5 := blk_frozen BK211.out 5; have hfz28_6 := blk_frozen BK211.out 6; have hfz28_7 := blk_frozen BK211.out 7; have hfz28_8 := blk_frozen BK211.out 8; have hfz28_9 := blk_frozen BK211.out 9; have hfz28_10 := blk_frozen BK211.out 10; have hfz28_11 := blk_frozen BK211.out 11; have hfz28_12 := blk_frozen BK211.out 12; have hfz28_13 := blk_frozen BK211.out 13) | ((with_reducible refine gate_callee (f := 11) rfl ?_); refine goesL_ (some 28) rfl rfl Try.func11 (by kernel_rfl) rfl #[.agg #[.int .i64 a1_0, .int .i64 a1_1, .int .i64 a1_2, .int .i64 a1_3, .int .i64 a1_4, .int .i64 a1_5, .int .i64 a1_6, .string a1_7, .string a1_8, .slice A1_9 l1_9.length c1_9, .slice A1_10 l1_10.length c1_10, .int .i64 a1_11, .bool a1_12, .string a1_13]] rfl (by (try simp only [List.map_toArray, List.map_cons, List.map_nil]); first | done | rfl | (simp only [List.length_drop, List.length_take]; rfl)) ?_; (with_reducible refine (letter_Pack.calls kj5 a1_0 a1_1 a1_2 a1_3 a1_4 a1_5 a1_6 a1_7 a1_8 _ _ l1_9 _ _ l1_10 a1_11 a1_12 a1_13 t217 t218 _ ?side1 ?side2 ?side3 ?side4 A23.out).mono ?_); (case side1 => repeat (first | exact (Kd.C_below HR1_9.out HB.out) | (with_reducible refine Kd.C_alloc ?_ _) | (with_reducible refine Kd.C_drewN ?_ _) | (with_reducible refine Kd.C_drew ?_))); (case side2 => exact HC1_9.out); (case side3 => repeat (first | exact (Kd.C_below HR1_10.out HB.out) | (with_reducible refine Kd.C_alloc ?_ _) | (with_reducible refine Kd.C_drewN ?_ _) | (with_reducible refine Kd.C_drew ?_))); (case side4 => exact HC1_10.out); rintro e w29 ⟨rfl, hb⟩; refine ⟨_, rfl, ?_⟩; have n0_ := Aside0.mk (blk_below (bL BK210.out) hb); have n1_ := Aside0.mk (blk_below (bL BK211.out) hb); have n2_ := Aside0.mk (below_step (hL HB.out) hb); clear BK210; clear BK211; clear HB; have BK210 := n0_; have BK211 := n1_; have HB := n2_; clear n0_ n1_ n2_; (try clear hb); (try clear hb2); (try clear hk); (try clear hi)))
 (try simp only [Act.put, sT, sZ, sS])
 go_cut [36] (fun v36 wc => ∃ (kq : Nat) (x36_23 : Bool), v36 = .bool x36_23 ∧ Aside0 (shelfmarklaw13_LetterTells.j1 kq a2 t215 t217 x36_23 a0_0 a0_1 a0_2 a0_3 a0_4 a0_5 a0_6 a0_7 a0_8 l0_9 l0_10 a0_11 a0_12 a0_13 a1_0 a1_1 a1_2 a1_3 a1_4 a1_5 a1_6 a1_7 a1_8 l1_9 l1_10 a1_11 a1_12 a1_13 = some r) ∧ Aside0 (kq ≤ kj5) ∧ Aside0 (wc.heap[gb210]? = some (.cells #[.int .i64 a0_0, .int .i64 a0_1, .int .i64 a0_2, .int .i64 a0_3, .int .i64 a0_4, .int .i64 a0_5, .int .i64 a0_6, .string a0_7, .string a0_8, (.slice A0_9 l0_9.length c0_9), (.slice A0_10 l0_10.length c0_10), .int .i64 a0_11, .bool a0_12, .string a0_13] 27 (0, 0))) ∧ Aside0 (wc.heap[gb211]? = some (.cells #[.int .i64 a1_0, .int .i64 a1_1, .int .i64 a1_2, .int .i64 a1_3, .int .i64 a1_4, .int .i64 a1_5, .int .i64 a1_6, .string a1_7, .string a1_8, (.slice A1_9 l1_9.length c1_9), (.slice A1_10 l1_10.length c1_10), .int .i64 a1_11, .bool a1_12, .string a1_13] 27 (0, 0))) ∧ Aside0 (Below w.heap.size w wc))
 case first =>
  have H := HC24.out
  clear HC24
  by_cases c30 : t216 = 0
  rotate_left
  ·rw [if_neg c30] at H
   have c30b0 : (t216 == 0) = false := beq_eq_false_iff_ne.mpr c30
   have c30b1 : (t216 != 0) = true := bne_iff_ne.mpr c30
   (first | rw [c30b0] | (simp only [i64_w, i32_w]; rw [c30b0]) | skip)
   have H' := Aside0.mk H
   clear H
   go_wp2
   go_meet
   case rel => exact ⟨_, (true), (by first | rfl | (simp; done) | (simp [*]; done) | (simp [ne_nil_bytes]; done) | (simp [eq_nil_bytes]; done)), H', ⟨by have := HJ5.out; first | omega | exact Nat.le_refl _⟩, ⟨by exact bL BK210.out⟩, ⟨by exact bL BK211.out⟩, ⟨hL HB.out⟩⟩
  rw [if_pos c30] at H
  have c30b0 : (t216 == 0) = true := beq_iff_eq.mpr c30
  have c30b1 : (t216 != 0) = false := bne_eq_false_iff_eq.mpr c30
  clear c30
  (first | rw [c30b0] | (simp only [i64_w, i32_w]; rw [c30b0]) | skip)
  have H' := Aside0.mk H
  clear H
  go_wp2
  go_meet
  case rel => exact ⟨_, ((t218 != 0)), (by first | rfl | (simp; done) | (simp [*]; done) | (simp [ne_nil_bytes]; done) | (simp [eq_nil_bytes]; done)), H', ⟨by have := HJ5.out; first | omega | exact Nat.le_refl _⟩, ⟨by exact bL BK210.out⟩, ⟨by exact bL BK211.out⟩, ⟨hL HB.out⟩⟩
 clear HC24
 try clear c1
 try clear c2
 try clear p2
 try clear c3
 try clear c4
 try clear c5
 try clear c7
 try clear c11
 try clear c12
 try clear c13
 try clear c18
 try clear c21
 try clear c25
 try clear c30
 try clear c30b0
 try clear c30b0z
 try clear c30b1
 try clear c30b1z
 try clear hcz14_0
 try clear hcz14_1
 try clear hcz14_10
 try clear hcz14_11
 try clear hcz14_12
 try clear hcz14_13
 try clear hcz14_2
 try clear hcz14_3
 try clear hcz14_4
 try clear hcz14_5
 try clear hcz14_6
 try clear hcz14_7
 try clear hcz14_8
 try clear hcz14_9
 try clear hcz16_0
 try clear hcz16_1
 try clear hcz16_10
 try clear hcz16_11
 try clear hcz16_12
 try clear hcz16_13
 try clear hcz16_2
 try clear hcz16_3
 try clear hcz16_4
 try clear hcz16_5
 try clear hcz16_6
 try clear hcz16_7
 try clear hcz16_8
 try clear hcz16_9
 try clear hcz19_0
 try clear hcz19_1
 try clear hcz19_10
 try clear hcz19_11
 try clear hcz19_12
 try clear hcz19_13
 try clear hcz19_2
 try clear hcz19_3
 try clear hcz19_4
 try clear hcz19_5
 try clear hcz19_6
 try clear hcz19_7
 try clear hcz19_8
 try clear hcz19_9
 try clear hcz26_0
 try clear hcz26_1
 try clear hcz26_10
 try clear hcz26_11
 try clear hcz26_12
 try clear hcz26_13
 try clear hcz26_2
 try clear hcz26_3
 try clear hcz26_4
 try clear hcz26_5
 try clear hcz26_6
 try clear hcz26_7
 try clear hcz26_8
 try clear hcz26_9
 try clear hcz28_0
 try clear hcz28_1
 try clear hcz28_10
 try clear hcz28_11
 try clear hcz28_12
 try clear hcz28_13
 try clear hcz28_2
 try clear hcz28_3
 try clear hcz28_4
 try clear hcz28_5
 try clear hcz28_6
 try clear hcz28_7
 try clear hcz28_8
 try clear hcz28_9
 try clear hfz14_0
 try clear hfz14_1
 try clear hfz14_10
 try clear hfz14_11
 try clear hfz14_12
 try clear hfz14_13
 try clear hfz14_2
 try clear hfz14_3
 try clear hfz14_4
 try clear hfz14_5
 try clear hfz14_6
 try clear hfz14_7
 try clear hfz14_8
 try clear hfz14_9
 try clear hfz16_0
 try clear hfz16_1
 try clear hfz16_10
 try clear hfz16_11
 try clear hfz16_12
 try clear hfz16_13
 try clear hfz16_2
 try clear hfz16_3
 try clear hfz16_4
 try clear hfz16_5
 try clear hfz16_6
 try clear hfz16_7
 try clear hfz16_8
 try clear hfz16_9
 try clear hfz19_0
 try clear hfz19_1
 try clear hfz19_10
 try clear hfz19_11
 try clear hfz19_12
 try clear hfz19_13
 try clear hfz19_2
 try clear hfz19_3
 try clear hfz19_4
 try clear hfz19_5
 try clear hfz19_6
 try clear hfz19_7
 try clear hfz19_8
 try clear hfz19_9
 try clear hfz26_0
 try clear hfz26_1
 try clear hfz26_10
 try clear hfz26_11
 try clear hfz26_12
 try clear hfz26_13
 try clear hfz26_2
 try clear hfz26_3
 try clear hfz26_4
 try clear hfz26_5
 try clear hfz26_6
 try clear hfz26_7
 try clear hfz26_8
 try clear hfz26_9
 try clear hfz28_0
 try clear hfz28_1
 try clear hfz28_10
 try clear hfz28_11
 try clear hfz28_12
 try clear hfz28_13
 try clear hfz28_2
 try clear hfz28_3
 try clear hfz28_4
 try clear hfz28_5
 try clear hfz28_6
 try clear hfz28_7
 try clear hfz28_8
 try clear hfz28_9
 try clear p2
 obtain ⟨kq, x36_23, rfl, HA, HJ23, BK210, BK211, HB⟩ := hcut
 rcases kq with _ | kj23
 ·exact absurd HA.out (by simp [shelfmarklaw13_LetterTells.j1])
 have H := HA.out
 clear HA
 simp only [shelfmarklaw13_LetterTells.j1] at H
 by_cases c31 : x36_23 = true
 ·subst c31
  have H1 : (some true) = some r := by rw [if_pos rfl] at H; exact H
  clear H
  have H := H1
  clear H1
  obtain rfl := Option.some.inj H
  simp only [Option.some.injEq, Prod.mk.injEq] at H
  obtain ⟨rfl⟩ := H
  go_wp2
  go_ret
  exact ⟨by first | rfl | (simp [errW_none, errW_some] <;> rfl) | (simp [*, errW_none, errW_some] <;> rfl), hL HB.out⟩
 replace c31 := Bool.eq_false_iff.mpr c31
 subst c31
 have H1 : ((shelfmarkref13_Same.f kj23 a0_0 a0_1 a0_2 a0_3 a0_4 a0_5 a0_6 a0_7 a0_8 l0_9 l0_10 a0_11 a0_12 a0_13 a1_0 a1_1 a1_2 a1_3 a1_4 a1_5 a1_6 a1_7 a1_8 l1_9 l1_10 a1_11 a1_12 a1_13).bind fun t219 => (if ((t215.toList == t217.toList) != t219) = true then (some false) else (if a2 < 0 then (some true) else (if a2 ≥ (t215.size : Int) then (some true) else (if 0 ≤ a2 then (if a2 ≤ (t215.size : Int) then ((letter_Unpack.f kj23 (t215.extract 0 (a2 : Int).toNat)).bind fun bt220 => (some (bt220.2.2.2.2.2.2.2.2.2.2.2.2.2.2 == 2))) else (none)) else (none)))))) = some r := by rw [if_neg (show ¬ (false = true) by decide)] at H; exact H
 clear H
 have H := H1
 clear H1
 replace H := Option.bind_eq_some_iff.mp H
 obtain ⟨t219, A320, H⟩ := H
 replace H : (if ((t215.toList == t217.toList) != t219) = true then (some false) else (if a2 < 0 then (some true) else (if a2 ≥ (t215.size : Int) then (some true) else (if 0 ≤ a2 then (if a2 ≤ (t215.size : Int) then ((letter_Unpack.f kj23 (t215.extract 0 (a2 : Int).toNat)).bind fun bt220 => (some (bt220.2.2.2.2.2.2.2.2.2.2.2.2.2.2 == 2))) else (none)) else (none))))) = some r := H
 have A32 := Aside0.mk A320
 clear A320
 by_cases c33 : ((t215.toList == t217.toList) != t219) = true
 ·rw [if_pos c33] at H
  have c33b0 : ((t215.toList == t217.toList) != t219) = true := c33
  (try (have c33b1 : decide ((t215.toList == t217.toList) = t219) = false := by simpa using c33))
  (try (have c33b2 : ((t215.toList == t217.toList) == t219) = false := by simpa using c33))
  (try (have c33b3 : ¬ ((t215.toList == t217.toList) = t219) := by simpa using c33))
  clear c33
  obtain rfl := Option.some.inj H
  exact absurd HLAW.out (by decide)
 rw [if_neg c33] at H
 have c33b0 : ((t215.toList == t217.toList) != t219) = false := by simpa using c33
 (try (have c33b1 : decide ((t215.toList == t217.toList) = t219) = true := by simpa using c33))
 (try (have c33b2 : ((t215.toList == t217.toList) == t219) = true := by simpa using c33))
 clear c33
 by_cases c34 : a2 < 0
 ·rw [if_pos c34] at H
  have c34b0 : decide (a2 < 0) = true := decide_eq_true c34
  clear c34
  obtain rfl := Option.some.inj H
  simp only [Option.some.injEq, Prod.mk.injEq] at H
  obtain ⟨rfl⟩ := H
  have hnb35 := NB210_211.out
  have hnc35 := NB211_210.out
  have hcz36_0 : wc.cell? ⟨gb210, 0, none⟩ = some (.int .i64 a0_0) := (blk_cell BK210.out 0).trans rfl
  have hcz36_1 : wc.cell? ⟨gb210, 1, none⟩ = some (.int .i64 a0_1) := (blk_cell BK210.out 1).trans rfl
  have hcz36_2 : wc.cell? ⟨gb210, 2, none⟩ = some (.int .i64 a0_2) := (blk_cell BK210.out 2).trans rfl
  have hcz36_3 : wc.cell? ⟨gb210, 3, none⟩ = some (.int .i64 a0_3) := (blk_cell BK210.out 3).trans rfl
  have hcz36_4 : wc.cell? ⟨gb210, 4, none⟩ = some (.int .i64 a0_4) := (blk_cell BK210.out 4).trans rfl
  have hcz36_5 : wc.cell? ⟨gb210, 5, none⟩ = some (.int .i64 a0_5) := (blk_cell BK210.out 5).trans rfl
  have hcz36_6 : wc.cell? ⟨gb210, 6, none⟩ = some (.int .i64 a0_6) := (blk_cell BK210.out 6).trans rfl
  have hcz36_7 : wc.cell? ⟨gb210, 7, none⟩ = some (.string a0_7) := (blk_cell BK210.out 7).trans rfl
  have hcz36_8 : wc.cell? ⟨gb210, 8, none⟩ = some (.string a0_8) := (blk_cell BK210.out 8).trans rfl
  have hcz36_9 : wc.cell? ⟨gb210, 9, none⟩ = some (.slice A0_9 l0_9.length c0_9) := (blk_cell BK210.out 9).trans rfl
  have hcz36_10 : wc.cell? ⟨gb210, 10, none⟩ = some (.slice A0_10 l0_10.length c0_10) := (blk_cell BK210.out 10).trans rfl
  have hcz36_11 : wc.cell? ⟨gb210, 11, none⟩ = some (.int .i64 a0_11) := (blk_cell BK210.out 11).trans rfl
  have hcz36_12 : wc.cell? ⟨gb210, 12, none⟩ = some (.bool a0_12) := (blk_cell BK210.out 12).trans rfl
  have hcz36_13 : wc.cell? ⟨gb210, 13, none⟩ = some (.string a0_13) := (blk_cell BK210.out 13).trans rfl
  have hfz36_0 := blk_frozen BK210.out 0
  have hfz36_1 := blk_frozen BK210.out 1
  have hfz36_2 := blk_frozen BK210.out 2
  have hfz36_3 := blk_frozen BK210.out 3
  have hfz36_4 := blk_frozen BK210.out 4
  have hfz36_5 := blk_frozen BK210.out 5
  have hfz36_6 := blk_frozen BK210.out 6
  have hfz36_7 := blk_frozen BK210.out 7
  have hfz36_8 := blk_frozen BK210.out 8
  have hfz36_9 := blk_frozen BK210.out 9
  have hfz36_10 := blk_frozen BK210.out 10
  have hfz36_11 := blk_frozen BK210.out 11
  have hfz36_12 := blk_frozen BK210.out 12
  have hfz36_13 := blk_frozen BK210.out 13
  have hcz37_0 : wc.cell? ⟨gb211, 0, none⟩ = some (.int .i64 a1_0) := (blk_cell BK211.out 0).trans rfl
  have hcz37_1 : wc.cell? ⟨gb211, 1, none⟩ = some (.int .i64 a1_1) := (blk_cell BK211.out 1).trans rfl
  have hcz37_2 : wc.cell? ⟨gb211, 2, none⟩ = some (.int .i64 a1_2) := (blk_cell BK211.out 2).trans rfl
  have hcz37_3 : wc.cell? ⟨gb211, 3, none⟩ = some (.int .i64 a1_3) := (blk_cell BK211.out 3).trans rfl
  have hcz37_4 : wc.cell? ⟨gb211, 4, none⟩ = some (.int .i64 a1_4) := (blk_cell BK211.out 4).trans rfl
  have hcz37_5 : wc.cell? ⟨gb211, 5, none⟩ = some (.int .i64 a1_5) := (blk_cell BK211.out 5).trans rfl
  have hcz37_6 : wc.cell? ⟨gb211, 6, none⟩ = some (.int .i64 a1_6) := (blk_cell BK211.out 6).trans rfl
  have hcz37_7 : wc.cell? ⟨gb211, 7, none⟩ = some (.string a1_7) := (blk_cell BK211.out 7).trans rfl
  have hcz37_8 : wc.cell? ⟨gb211, 8, none⟩ = some (.string a1_8) := (blk_cell BK211.out 8).trans rfl
  have hcz37_9 : wc.cell? ⟨gb211, 9, none⟩ = some (.slice A1_9 l1_9.length c1_9) := (blk_cell BK211.out 9).trans rfl
  have hcz37_10 : wc.cell? ⟨gb211, 10, none⟩ = some (.slice A1_10 l1_10.length c1_10) := (blk_cell BK211.out 10).trans rfl
  have hcz37_11 : wc.cell? ⟨gb211, 11, none⟩ = some (.int .i64 a1_11) := (blk_cell BK211.out 11).trans rfl
  have hcz37_12 : wc.cell? ⟨gb211, 12, none⟩ = some (.bool a1_12) := (blk_cell BK211.out 12).trans rfl
  have hcz37_13 : wc.cell? ⟨gb211, 13, none⟩ = some (.string a1_13) := (blk_cell BK211.out 13).trans rfl
  have hfz37_0 := blk_frozen BK211.out 0
  have hfz37_1 := blk_frozen BK211.out 1
  have hfz37_2 := blk_frozen BK211.out 2
  have hfz37_3 := blk_frozen BK211.out 3
  have hfz37_4 := blk_frozen BK211.out 4
  have hfz37_5 := blk_frozen BK211.out 5
  have hfz37_6 := blk_frozen BK211.out 6
  have hfz37_7 := blk_frozen BK211.out 7
  have hfz37_8 := blk_frozen BK211.out 8
  have hfz37_9 := blk_frozen BK211.out 9
  have hfz37_10 := blk_frozen BK211.out 10
  have hfz37_11 := blk_frozen BK211.out 11
  have hfz37_12 := blk_frozen BK211.out 12
  have hfz37_13 := blk_frozen BK211.out 13
  go_wp2_with (first | ((with_reducible refine gate_callee (f := 10) rfl ?_); refine goesL_ (some 42) rfl rfl Try.func10 (by kernel_rfl) rfl #[.agg #[.int .i64 a0_0, .int .i64 a0_1, .int .i64 a0_2, .int .i64 a0_3, .int .i64 a0_4, .int .i64 a0_5, .int .i64 a0_6, .string a0_7, .string a0_8, .slice A0_9 l0_9.length c0_9, .slice A0_10 l0_10.length c0_10, .int .i64 a0_11, .bool a0_12, .string a0_13], .agg #[.int .i64 a1_0, .int .i64 a1_1, .int .i64 a1_2, .int .i64 a1_3, .int .i64 a1_4, .int .i64 a1_5, .int .i64 a1_6, .string a1_7, .string a1_8, .slice A1_9 l1_9.length c1_9, .slice A1_10 l1_10.length c1_10, .int .i64 a1_11, .bool a1_12, .string a1_13]] rfl (by (try simp only [List.map_toArray, List.map_cons, List.map_nil]); first | done | rfl | (simp only [List.length_drop, List.length_take]; rfl)) ?_; (with_reducible refine (shelfmarkref13_Same.calls kj23 a0_0 a0_1 a0_2 a0_3 a0_4 a0_5 a0_6 a0_7 a0_8 _ _ l0_9 _ _ l0_10 a0_11 a0_12 a0_13 a1_0 a1_1 a1_2 a1_3 a1_4 a1_5 a1_6 a1_7 a1_8 _ _ l1_9 _ _ l1_10 a1_11 a1_12 a1_13 t219 _ ?side1 ?side2 ?side3 ?side4 ?side5 ?side6 ?side7 ?side8 A32.out).mono ?_); (case side1 => repeat (first | exact (Kd.C_below HR0_9.out HB.out) | (with_reducible refine Kd.C_alloc ?_ _) | (with_reducible refine Kd.C_drewN ?_ _) | (with_reducible refine Kd.C_drew ?_))); (case side2 => exact HC0_9.out); (case side3 => repeat (first | exact (Kd.C_below HR0_10.out HB.out) | (with_reducible refine Kd.C_alloc ?_ _) | (with_reducible refine Kd.C_drewN ?_ _) | (with_reducible refine Kd.C_drew ?_))); (case side4 => exact HC0_10.out); (case side5 => repeat (first | exact (Kd.C_below HR1_9.out HB.out) | (with_reducible refine Kd.C_alloc ?_ _) | (with_reducible refine Kd.C_drewN ?_ _) | (with_reducible refine Kd.C_drew ?_))); (case side6 => exact HC1_9.out); (case side7 => repeat (first | exact (Kd.C_below HR1_10.out HB.out) | (with_reducible refine Kd.C_alloc ?_ _) | (with_reducible refine Kd.C_drewN ?_ _) | (with_reducible refine Kd.C_drew ?_))); (case side8 => exact HC1_10.out); rintro e w38 ⟨rfl, hb⟩; refine ⟨_, rfl, ?_⟩; have n0_ := Aside0.mk (blk_below (bL BK210.out) hb); have n1_ := Aside0.mk (blk_below (bL BK211.out) hb); have n2_ := Aside0.mk (below_step (hL HB.out) hb); clear BK210; clear BK211; clear HB; have BK210 := n0_; have BK211 := n1_; have HB := n2_; clear n0_ n1_ n2_; (try clear hb); (try clear hb2); (try clear hk); (try clear hi)))
  go_ret
  exact ⟨by first | rfl | (simp [errW_none, errW_some] <;> rfl) | (simp [*, errW_none, errW_some] <;> rfl), hL HB.out⟩
 rw [if_neg c34] at H
 have c34b0 : decide (a2 < 0) = false := decide_eq_false c34
 clear c34
 by_cases c39 : a2 ≥ (t215.size : Int)
 ·rw [if_pos c39] at H
  have c39b0 : decide ((t215.size : Int) ≤ a2) = true := decide_eq_true c39
  clear c39
  obtain rfl := Option.some.inj H
  simp only [Option.some.injEq, Prod.mk.injEq] at H
  obtain ⟨rfl⟩ := H
  have hnb40 := NB210_211.out
  have hnc40 := NB211_210.out
  have hcz41_0 : wc.cell? ⟨gb210, 0, none⟩ = some (.int .i64 a0_0) := (blk_cell BK210.out 0).trans rfl
  have hcz41_1 : wc.cell? ⟨gb210, 1, none⟩ = some (.int .i64 a0_1) := (blk_cell BK210.out 1).trans rfl
  have hcz41_2 : wc.cell? ⟨gb210, 2, none⟩ = some (.int .i64 a0_2) := (blk_cell BK210.out 2).trans rfl
  have hcz41_3 : wc.cell? ⟨gb210, 3, none⟩ = some (.int .i64 a0_3) := (blk_cell BK210.out 3).trans rfl
  have hcz41_4 : wc.cell? ⟨gb210, 4, none⟩ = some (.int .i64 a0_4) := (blk_cell BK210.out 4).trans rfl
  have hcz41_5 : wc.cell? ⟨gb210, 5, none⟩ = some (.int .i64 a0_5) := (blk_cell BK210.out 5).trans rfl
  have hcz41_6 : wc.cell? ⟨gb210, 6, none⟩ = some (.int .i64 a0_6) := (blk_cell BK210.out 6).trans rfl
  have hcz41_7 : wc.cell? ⟨gb210, 7, none⟩ = some (.string a0_7) := (blk_cell BK210.out 7).trans rfl
  have hcz41_8 : wc.cell? ⟨gb210, 8, none⟩ = some (.string a0_8) := (blk_cell BK210.out 8).trans rfl
  have hcz41_9 : wc.cell? ⟨gb210, 9, none⟩ = some (.slice A0_9 l0_9.length c0_9) := (blk_cell BK210.out 9).trans rfl
  have hcz41_10 : wc.cell? ⟨gb210, 10, none⟩ = some (.slice A0_10 l0_10.length c0_10) := (blk_cell BK210.out 10).trans rfl
  have hcz41_11 : wc.cell? ⟨gb210, 11, none⟩ = some (.int .i64 a0_11) := (blk_cell BK210.out 11).trans rfl
  have hcz41_12 : wc.cell? ⟨gb210, 12, none⟩ = some (.bool a0_12) := (blk_cell BK210.out 12).trans rfl
  have hcz41_13 : wc.cell? ⟨gb210, 13, none⟩ = some (.string a0_13) := (blk_cell BK210.out 13).trans rfl
  have hfz41_0 := blk_frozen BK210.out 0
  have hfz41_1 := blk_frozen BK210.out 1
  have hfz41_2 := blk_frozen BK210.out 2
  have hfz41_3 := blk_frozen BK210.out 3
  have hfz41_4 := blk_frozen BK210.out 4
  have hfz41_5 := blk_frozen BK210.out 5
  have hfz41_6 := blk_frozen BK210.out 6
  have hfz41_7 := blk_frozen BK210.out 7
  have hfz41_8 := blk_frozen BK210.out 8
  have hfz41_9 := blk_frozen BK210.out 9
  have hfz41_10 := blk_frozen BK210.out 10
  have hfz41_11 := blk_frozen BK210.out 11
  have hfz41_12 := blk_frozen BK210.out 12
  have hfz41_13 := blk_frozen BK210.out 13
  have hcz42_0 : wc.cell? ⟨gb211, 0, none⟩ = some (.int .i64 a1_0) := (blk_cell BK211.out 0).trans rfl
  have hcz42_1 : wc.cell? ⟨gb211, 1, none⟩ = some (.int .i64 a1_1) := (blk_cell BK211.out 1).trans rfl
  have hcz42_2 : wc.cell? ⟨gb211, 2, none⟩ = some (.int .i64 a1_2) := (blk_cell BK211.out 2).trans rfl
  have hcz42_3 : wc.cell? ⟨gb211, 3, none⟩ = some (.int .i64 a1_3) := (blk_cell BK211.out 3).trans rfl
  have hcz42_4 : wc.cell? ⟨gb211, 4, none⟩ = some (.int .i64 a1_4) := (blk_cell BK211.out 4).trans rfl
  have hcz42_5 : wc.cell? ⟨gb211, 5, none⟩ = some (.int .i64 a1_5) := (blk_cell BK211.out 5).trans rfl
  have hcz42_6 : wc.cell? ⟨gb211, 6, none⟩ = some (.int .i64 a1_6) := (blk_cell BK211.out 6).trans rfl
  have hcz42_7 : wc.cell? ⟨gb211, 7, none⟩ = some (.string a1_7) := (blk_cell BK211.out 7).trans rfl
  have hcz42_8 : wc.cell? ⟨gb211, 8, none⟩ = some (.string a1_8) := (blk_cell BK211.out 8).trans rfl
  have hcz42_9 : wc.cell? ⟨gb211, 9, none⟩ = some (.slice A1_9 l1_9.length c1_9) := (blk_cell BK211.out 9).trans rfl
  have hcz42_10 : wc.cell? ⟨gb211, 10, none⟩ = some (.slice A1_10 l1_10.length c1_10) := (blk_cell BK211.out 10).trans rfl
  have hcz42_11 : wc.cell? ⟨gb211, 11, none⟩ = some (.int .i64 a1_11) := (blk_cell BK211.out 11).trans rfl
  have hcz42_12 : wc.cell? ⟨gb211, 12, none⟩ = some (.bool a1_12) := (blk_cell BK211.out 12).trans rfl
  have hcz42_13 : wc.cell? ⟨gb211, 13, none⟩ = some (.string a1_13) := (blk_cell BK211.out 13).trans rfl
  have hfz42_0 := blk_frozen BK211.out 0
  have hfz42_1 := blk_frozen BK211.out 1
  have hfz42_2 := blk_frozen BK211.out 2
  have hfz42_3 := blk_frozen BK211.out 3
  have hfz42_4 := blk_frozen BK211.out 4
  have hfz42_5 := blk_frozen BK211.out 5
  have hfz42_6 := blk_frozen BK211.out 6
  have hfz42_7 := blk_frozen BK211.out 7
  have hfz42_8 := blk_frozen BK211.out 8
  have hfz42_9 := blk_frozen BK211.out 9
  have hfz42_10 := blk_frozen BK211.out 10
  have hfz42_11 := blk_frozen BK211.out 11
  have hfz42_12 := blk_frozen BK211.out 12
  have hfz42_13 := blk_frozen BK211.out 13
  go_wp2_with (first | ((with_reducible refine gate_callee (f := 10) rfl ?_); refine goesL_ (some 42) rfl rfl Try.func10 (by kernel_rfl) rfl #[.agg #[.int .i64 a0_0, .int .i64 a0_1, .int .i64 a0_2, .int .i64 a0_3, .int .i64 a0_4, .int .i64 a0_5, .int .i64 a0_6, .string a0_7, .string a0_8, .slice A0_9 l0_9.length c0_9, .slice A0_10 l0_10.length c0_10, .int .i64 a0_11, .bool a0_12, .string a0_13], .agg #[.int .i64 a1_0, .int .i64 a1_1, .int .i64 a1_2, .int .i64 a1_3, .int .i64 a1_4, .int .i64 a1_5, .int .i64 a1_6, .string a1_7, .string a1_8, .slice A1_9 l1_9.length c1_9, .slice A1_10 l1_10.length c1_10, .int .i64 a1_11, .bool a1_12, .string a1_13]] rfl (by (try simp only [List.map_toArray, List.map_cons, List.map_nil]); first | done | rfl | (simp only [List.length_drop, List.length_take]; rfl)) ?_; (with_reducible refine (shelfmarkref13_Same.calls kj23 a0_0 a0_1 a0_2 a0_3 a0_4 a0_5 a0_6 a0_7 a0_8 _ _ l0_9 _ _ l0_10 a0_11 a0_12 a0_13 a1_0 a1_1 a1_2 a1_3 a1_4 a1_5 a1_6 a1_7 a1_8 _ _ l1_9 _ _ l1_10 a1_11 a1_12 a1_13 t219 _ ?side1 ?side2 ?side3 ?side4 ?side5 ?side6 ?side7 ?side8 A32.out).mono ?_); (case side1 => repeat (first | exact (Kd.C_below HR0_9.out HB.out) | (with_reducible refine Kd.C_alloc ?_ _) | (with_reducible refine Kd.C_drewN ?_ _) | (with_reducible refine Kd.C_drew ?_))); (case side2 => exact HC0_9.out); (case side3 => repeat (first | exact (Kd.C_below HR0_10.out HB.out) | (with_reducible refine Kd.C_alloc ?_ _) | (with_reducible refine Kd.C_drewN ?_ _) | (with_reducible refine Kd.C_drew ?_))); (case side4 => exact HC0_10.out); (case side5 => repeat (first | exact (Kd.C_below HR1_9.out HB.out) | (with_reducible refine Kd.C_alloc ?_ _) | (with_reducible refine Kd.C_drewN ?_ _) | (with_reducible refine Kd.C_drew ?_))); (case side6 => exact HC1_9.out); (case side7 => repeat (first | exact (Kd.C_below HR1_10.out HB.out) | (with_reducible refine Kd.C_alloc ?_ _) | (with_reducible refine Kd.C_drewN ?_ _) | (with_reducible refine Kd.C_drew ?_))); (case side8 => exact HC1_10.out); rintro e w43 ⟨rfl, hb⟩; refine ⟨_, rfl, ?_⟩; have n0_ := Aside0.mk (blk_below (bL BK210.out) hb); have n1_ := Aside0.mk (blk_below (bL BK211.out) hb); have n2_ := Aside0.mk (below_step (hL HB.out) hb); clear BK210; clear BK211; clear HB; have BK210 := n0_; have BK211 := n1_; have HB := n2_; clear n0_ n1_ n2_; (try clear hb); (try clear hb2); (try clear hk); (try clear hi)))
  go_ret
  exact ⟨by first | rfl | (simp [errW_none, errW_some] <;> rfl) | (simp [*, errW_none, errW_some] <;> rfl), hL HB.out⟩
 rw [if_neg c39] at H
 have c39b0 : decide ((t215.size : Int) ≤ a2) = false := decide_eq_false c39
 clear c39
 by_cases c44 : 0 ≤ a2
 rotate_left
 ·rw [if_neg c44] at H
  exact absurd H (by simp)
 rw [if_pos c44] at H
 have c44b0 := eq_true c44
 have c44b1 : decide (0 ≤ a2) = true := decide_eq_true c44
 clear c44
 by_cases c45 : a2 ≤ (t215.size : Int)
 rotate_left
 ·rw [if_neg c45] at H
  exact absurd H (by simp)
 rw [if_pos c45] at H
 have c45b0 := eq_true c45
 have c45b1 : decide (a2 ≤ (t215.size : Int)) = true := decide_eq_true c45
 clear c45
 replace H := Option.bind_eq_some_iff.mp H
 obtain ⟨⟨t220, t221, t222, t223, t224, t225, t226, t227, t228, t229, t232, t235, t236, t237, t238⟩, A460, H⟩ := H
 replace H : (some (t238 == 2)) = some r := H
 have A46 := Aside0.mk A460
 clear A460
 obtain rfl := Option.some.inj H
 simp only [Option.some.injEq, Prod.mk.injEq] at H
 obtain ⟨rfl⟩ := H
 have hnb47 := NB210_211.out
 have hnc47 := NB211_210.out
 have hcz48_0 : wc.cell? ⟨gb210, 0, none⟩ = some (.int .i64 a0_0) := (blk_cell BK210.out 0).trans rfl
 have hcz48_1 : wc.cell? ⟨gb210, 1, none⟩ = some (.int .i64 a0_1) := (blk_cell BK210.out 1).trans rfl
 have hcz48_2 : wc.cell? ⟨gb210, 2, none⟩ = some (.int .i64 a0_2) := (blk_cell BK210.out 2).trans rfl
 have hcz48_3 : wc.cell? ⟨gb210, 3, none⟩ = some (.int .i64 a0_3) := (blk_cell BK210.out 3).trans rfl
 have hcz48_4 : wc.cell? ⟨gb210, 4, none⟩ = some (.int .i64 a0_4) := (blk_cell BK210.out 4).trans rfl
 have hcz48_5 : wc.cell? ⟨gb210, 5, none⟩ = some (.int .i64 a0_5) := (blk_cell BK210.out 5).trans rfl
 have hcz48_6 : wc.cell? ⟨gb210, 6, none⟩ = some (.int .i64 a0_6) := (blk_cell BK210.out 6).trans rfl
 have hcz48_7 : wc.cell? ⟨gb210, 7, none⟩ = some (.string a0_7) := (blk_cell BK210.out 7).trans rfl
 have hcz48_8 : wc.cell? ⟨gb210, 8, none⟩ = some (.string a0_8) := (blk_cell BK210.out 8).trans rfl
 have hcz48_9 : wc.cell? ⟨gb210, 9, none⟩ = some (.slice A0_9 l0_9.length c0_9) := (blk_cell BK210.out 9).trans rfl
 have hcz48_10 : wc.cell? ⟨gb210, 10, none⟩ = some (.slice A0_10 l0_10.length c0_10) := (blk_cell BK210.out 10).trans rfl
 have hcz48_11 : wc.cell? ⟨gb210, 11, none⟩ = some (.int .i64 a0_11) := (blk_cell BK210.out 11).trans rfl
 have hcz48_12 : wc.cell? ⟨gb210, 12, none⟩ = some (.bool a0_12) := (blk_cell BK210.out 12).trans rfl
 have hcz48_13 : wc.cell? ⟨gb210, 13, none⟩ = some (.string a0_13) := (blk_cell BK210.out 13).trans rfl
 have hfz48_0 := blk_frozen BK210.out 0
 have hfz48_1 := blk_frozen BK210.out 1
 have hfz48_2 := blk_frozen BK210.out 2
 have hfz48_3 := blk_frozen BK210.out 3
 have hfz48_4 := blk_frozen BK210.out 4
 have hfz48_5 := blk_frozen BK210.out 5
 have hfz48_6 := blk_frozen BK210.out 6
 have hfz48_7 := blk_frozen BK210.out 7
 have hfz48_8 := blk_frozen BK210.out 8
 have hfz48_9 := blk_frozen BK210.out 9
 have hfz48_10 := blk_frozen BK210.out 10
 have hfz48_11 := blk_frozen BK210.out 11
 have hfz48_12 := blk_frozen BK210.out 12
 have hfz48_13 := blk_frozen BK210.out 13
 have hcz49_0 : wc.cell? ⟨gb211, 0, none⟩ = some (.int .i64 a1_0) := (blk_cell BK211.out 0).trans rfl
 have hcz49_1 : wc.cell? ⟨gb211, 1, none⟩ = some (.int .i64 a1_1) := (blk_cell BK211.out 1).trans rfl
 have hcz49_2 : wc.cell? ⟨gb211, 2, none⟩ = some (.int .i64 a1_2) := (blk_cell BK211.out 2).trans rfl
 have hcz49_3 : wc.cell? ⟨gb211, 3, none⟩ = some (.int .i64 a1_3) := (blk_cell BK211.out 3).trans rfl
 have hcz49_4 : wc.cell? ⟨gb211, 4, none⟩ = some (.int .i64 a1_4) := (blk_cell BK211.out 4).trans rfl
 have hcz49_5 : wc.cell? ⟨gb211, 5, none⟩ = some (.int .i64 a1_5) := (blk_cell BK211.out 5).trans rfl
 have hcz49_6 : wc.cell? ⟨gb211, 6, none⟩ = some (.int .i64 a1_6) := (blk_cell BK211.out 6).trans rfl
 have hcz49_7 : wc.cell? ⟨gb211, 7, none⟩ = some (.string a1_7) := (blk_cell BK211.out 7).trans rfl
 have hcz49_8 : wc.cell? ⟨gb211, 8, none⟩ = some (.string a1_8) := (blk_cell BK211.out 8).trans rfl
 have hcz49_9 : wc.cell? ⟨gb211, 9, none⟩ = some (.slice A1_9 l1_9.length c1_9) := (blk_cell BK211.out 9).trans rfl
 have hcz49_10 : wc.cell? ⟨gb211, 10, none⟩ = some (.slice A1_10 l1_10.length c1_10) := (blk_cell BK211.out 10).trans rfl
 have hcz49_11 : wc.cell? ⟨gb211, 11, none⟩ = some (.int .i64 a1_11) := (blk_cell BK211.out 11).trans rfl
 have hcz49_12 : wc.cell? ⟨gb211, 12, none⟩ = some (.bool a1_12) := (blk_cell BK211.out 12).trans rfl
 have hcz49_13 : wc.cell? ⟨gb211, 13, none⟩ = some (.string a1_13) := (blk_cell BK211.out 13).trans rfl
 have hfz49_0 := blk_frozen BK211.out 0
 have hfz49_1 := blk_frozen BK211.out 1
 have hfz49_2 := blk_frozen BK211.out 2
 have hfz49_3 := blk_frozen BK211.out 3
 have hfz49_4 := blk_frozen BK211.out 4
 have hfz49_5 := blk_frozen BK211.out 5
 have hfz49_6 := blk_frozen BK211.out 6
 have hfz49_7 := blk_frozen BK211.out 7
 have hfz49_8 := blk_frozen BK211.out 8
 have hfz49_9 := blk_frozen BK211.out 9
 have hfz49_10 := blk_frozen BK211.out 10
 have hfz49_11 := blk_frozen BK211.out 11
 have hfz49_12 := blk_frozen BK211.out 12
 have hfz49_13 := blk_frozen BK211.out 13
 go_wp2_with (first | ((with_reducible refine gate_callee (f := 10) rfl ?_); refine goesL_ (some 42) rfl rfl Try.func10 (by kernel_rfl) rfl #[.agg #[.int .i64 a0_0, .int .i64 a0_1, .int .i64 a0_2, .int .i64 a0_3, .int .i64 a0_4, .int .i64 a0_5, .int .i64 a0_6, .string a0_7, .string a0_8, .slice A0_9 l0_9.length c0_9, .slice A0_10 l0_10.length c0_10, .int .i64 a0_11, .bool a0_12, .string a0_13], .agg #[.int .i64 a1_0, .int .i64 a1_1, .int .i64 a1_2, .int .i64 a1_3, .int .i64 a1_4, .int .i64 a1_5, .int .i64 a1_6, .string a1_7, .string a1_8, .slice A1_9 l1_9.length c1_9, .slice A1_10 l1_10.length c1_10, .int .i64 a1_11, .bool a1_12, .string a1_13]] rfl (by (try simp only [List.map_toArray, List.map_cons, List.map_nil]); first | done | rfl | (simp only [List.length_drop, List.length_take]; rfl)) ?_; (with_reducible refine (shelfmarkref13_Same.calls kj23 a0_0 a0_1 a0_2 a0_3 a0_4 a0_5 a0_6 a0_7 a0_8 _ _ l0_9 _ _ l0_10 a0_11 a0_12 a0_13 a1_0 a1_1 a1_2 a1_3 a1_4 a1_5 a1_6 a1_7 a1_8 _ _ l1_9 _ _ l1_10 a1_11 a1_12 a1_13 t219 _ ?side1 ?side2 ?side3 ?side4 ?side5 ?side6 ?side7 ?side8 A32.out).mono ?_); (case side1 => repeat (first | exact (Kd.C_below HR0_9.out HB.out) | (with_reducible refine Kd.C_alloc ?_ _) | (with_reducible refine Kd.C_drewN ?_ _) | (with_reducible refine Kd.C_drew ?_))); (case side2 => exact HC0_9.out); (case side3 => repeat (first | exact (Kd.C_below HR0_10.out HB.out) | (with_reducible refine Kd.C_alloc ?_ _) | (with_reducible refine Kd.C_drewN ?_ _) | (with_reducible refine Kd.C_drew ?_))); (case side4 => exact HC0_10.out); (case side5 => repeat (first | exact (Kd.C_below HR1_9.out HB.out) | (with_reducible refine Kd.C_alloc ?_ _) | (with_reducible refine Kd.C_drewN ?_ _) | (with_reducible refine Kd.C_drew ?_))); (case side6 => exact HC1_9.out); (case side7 => repeat (first | exact (Kd.C_below HR1_10.out HB.out) | (with_reducible refine Kd.C_alloc ?_ _) | (with_reducible refine Kd.C_drewN ?_ _) | (with_reducible refine Kd.C_drew ?_))); (case side8 => exact HC1_10.out); rintro e w50 ⟨rfl, hb⟩; refine ⟨_, rfl, ?_⟩; have n0_ := Aside0.mk (blk_below (bL BK210.out) hb); have n1_ := Aside0.mk (blk_below (bL BK211.out) hb); have n2_ := Aside0.mk (below_step (hL HB.out) hb); clear BK210; clear BK211; clear HB; have BK210 := n0_; have BK211 := n1_; have HB := n2_; clear n0_ n1_ n2_; (try clear hb); (try clear hb2); (try clear hk); (try clear hi)) | ((with_reducible refine gate_callee (f := 8) rfl ?_); refine goesL_ (some 56) rfl rfl Try.func8 (by kernel_rfl) rfl #[.string (t215.extract 0 (a2 : Int).toNat)] rfl (by (try simp only [List.map_toArray, List.map_cons, List.map_nil]); first | done | rfl | (simp only [List.length_drop, List.length_take]; rfl)) ?_; (with_reducible refine (letter_Unpack.calls kj23 (t215.extract 0 (a2 : Int).toNat) t220 t221 t222 t223 t224 t225 t226 t227 t228 t229 t232 t235 t236 t237 t238 _ A46.out).mono ?_); rintro e w51 ⟨v230, v233, rfl, ho0, ho1, hb⟩; refine ⟨_, rfl, ?_⟩; have n0_ := Aside0.mk (Kd.R_lower ho0 (below_size (hL HB.out))); have n1_ := Aside0.mk (Kd.R_lower ho1 (below_size (hL HB.out))); have n2_ := Aside0.mk (blk_below (bL BK210.out) hb); have n3_ := Aside0.mk (blk_below (bL BK211.out) hb); have n4_ := Aside0.mk (below_step (hL HB.out) hb); clear BK210; clear BK211; clear HB; have HO231 := n0_; have HO234 := n1_; have BK210 := n2_; have BK211 := n3_; have HB := n4_; clear n0_ n1_ n2_ n3_ n4_; (try clear hb); (try clear hb2); (try clear hk); (try clear hi); (try clear ho0); (try clear ho1)))
 go_ret
 exact ⟨by first | rfl | (simp [errW_none, errW_some] <;> rfl) | (simp [*, errW_none, errW_some] <;> rfl), hL HB.out⟩

end Go.Proofs.Ythghacojbhjeaaa.PLt
