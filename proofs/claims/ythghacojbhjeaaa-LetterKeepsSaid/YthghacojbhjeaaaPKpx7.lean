-- Written by a program of this session for this claim (mp.py, over the kit's print); Lean checks it.
import Derived.Test.YthghacojbhjeaaaPKpx0
import Derived.Test.YthghacojbhjeaaaPKpx1
import Derived.Test.YthghacojbhjeaaaPKpx6
namespace Go.Proofs.Ythghacojbhjeaaa.PKp
open Go.RowKit Go.Proofs.YthghacojbhjeaaaW.PrintWords Go.Proofs.YthghacojbhjeaaaW.PrintLast Go.Proofs.YthghacojbhjeaaaW.PrintMore Go.Proofs.Ythghacojbhjeaaa.Fv Go.Proofs.Ythghacojbhjeaaa.Hl
attribute [local go_sem] max2_int min2_int max_two min_two max_three min_three max_four min_four str_gtr str_leq str_geq cell_set2   -- for this text's walks alone
set_option linter.unusedVariables false
set_option linter.unusedSimpArgs false

attribute [local go_sem high] eqA39
/-! ### shelfmarkref13_Same: function 10 -/
mutual
def shelfmarkref13_Same.j0 : Nat → Bool → Int → Int → Int → Int → Int → Int → Int → ByteArray → ByteArray → List (S39) → List (S41) → Int → Bool → ByteArray → Int → Int → Int → Int → Int → Int → Int → ByteArray → ByteArray → List (S39) → List (S41) → Int → Bool → ByteArray → Option (Bool)
 | 0, _, _, _, _, _, _, _, _, _, _, _, _, _, _, _, _, _, _, _, _, _, _, _, _, _, _, _, _, _ => none
 | k + 1, x23, x120000, x120001, x120002, x120003, x120004, x120005, x120006, x120007, x120008, x120009, x120010, x120011, x120012, x120013, x121000, x121001, x121002, x121003, x121004, x121005, x121006, x121007, x121008, x121009, x121010, x121011, x121012, x121013 => if x23 = true then (some false) else (shelfmarkref13_Same.l0 k 0 x120000 x120001 x120002 x120003 x120004 x120005 x120006 x120007 x120008 x120009 x120010 x120011 x120012 x120013 x121000 x121001 x121002 x121003 x121004 x121005 x121006 x121007 x121008 x121009 x121010 x121011 x121012 x121013)
def shelfmarkref13_Same.l0 : Nat → Int → Int → Int → Int → Int → Int → Int → Int → ByteArray → ByteArray → List (S39) → List (S41) → Int → Bool → ByteArray → Int → Int → Int → Int → Int → Int → Int → ByteArray → ByteArray → List (S39) → List (S41) → Int → Bool → ByteArray → Option (Bool)
 | 0, _, _, _, _, _, _, _, _, _, _, _, _, _, _, _, _, _, _, _, _, _, _, _, _, _, _, _, _, _ => none
 | k + 1, x5, x120000, x120001, x120002, x120003, x120004, x120005, x120006, x120007, x120008, x120009, x120010, x120011, x120012, x120013, x121000, x121001, x121002, x121003, x121004, x121005, x121006, x121007, x121008, x121009, x121010, x121011, x121012, x121013 => if x5 < (x120009.length : Int) then (if 0 ≤ x5 then (if x5 < (x121009.length : Int) then (if (!((((rd_T39 x120009 x5).f0).toList) == (((rd_T39 x121009 x5).f0).toList)) || (!((((rd_T39 x120009 x5).f1).toList) == (((rd_T39 x121009 x5).f1).toList)))) = true then (some false) else (shelfmarkref13_Same.l0 k (wrap64 (x5 + 1)) x120000 x120001 x120002 x120003 x120004 x120005 x120006 x120007 x120008 x120009 x120010 x120011 x120012 x120013 x121000 x121001 x121002 x121003 x121004 x121005 x121006 x121007 x121008 x121009 x121010 x121011 x121012 x121013)) else (none)) else (none)) else ((shelfmarkref13_numbers.f x120000 x120001 x120002 x120003 x120004 x120005 x120006 x120007 x120008 x120009 x120010 x120011 x120012 x120013).bind fun t124 => ((shelfmarkref13_numbers.f x121000 x121001 x121002 x121003 x121004 x121005 x121006 x121007 x121008 x121009 x121010 x121011 x121012 x121013).bind fun t127 => (shelfmarkref13_Same.l1 k t124 t127 0 x120000 x120001 x120002 x120003 x120004 x120005 x120006 x120007 x120008 x120009 x120010 x120011 x120012 x120013 x121000 x121001 x121002 x121003 x121004 x121005 x121006 x121007 x121008 x121009 x121010 x121011 x121012 x121013)))
def shelfmarkref13_Same.l1 : Nat → List Int → List Int → Int → Int → Int → Int → Int → Int → Int → Int → ByteArray → ByteArray → List (S39) → List (S41) → Int → Bool → ByteArray → Int → Int → Int → Int → Int → Int → Int → ByteArray → ByteArray → List (S39) → List (S41) → Int → Bool → ByteArray → Option (Bool)
 | 0, _, _, _, _, _, _, _, _, _, _, _, _, _, _, _, _, _, _, _, _, _, _, _, _, _, _, _, _, _, _, _ => none
 | k + 1, x6, x7, x8, x120000, x120001, x120002, x120003, x120004, x120005, x120006, x120007, x120008, x120009, x120010, x120011, x120012, x120013, x121000, x121001, x121002, x121003, x121004, x121005, x121006, x121007, x121008, x121009, x121010, x121011, x121012, x121013 => if x8 < (x6.length : Int) then (if 0 ≤ x8 then (if x8 < (x7.length : Int) then (if (rd x6 x8) = (rd x7 x8) then (shelfmarkref13_Same.l1 k x6 x7 (wrap64 (x8 + 1)) x120000 x120001 x120002 x120003 x120004 x120005 x120006 x120007 x120008 x120009 x120010 x120011 x120012 x120013 x121000 x121001 x121002 x121003 x121004 x121005 x121006 x121007 x121008 x121009 x121010 x121011 x121012 x121013) else (some false)) else (none)) else (none)) else (if x120000 = x121000 then (if (x120012 == x121012) = true then (if x120007.toList = x121007.toList then (if x120008.toList = x121008.toList then (some (x120013.toList == x121013.toList)) else (some false)) else (some false)) else (some false)) else (some false))
end
def shelfmarkref13_Same.f (k : Nat) (a0_0 : Int) (a0_1 : Int) (a0_2 : Int) (a0_3 : Int) (a0_4 : Int) (a0_5 : Int) (a0_6 : Int) (a0_7 : ByteArray) (a0_8 : ByteArray) (l0_9 : List (S39)) (l0_10 : List (S41)) (a0_11 : Int) (a0_12 : Bool) (a0_13 : ByteArray) (a1_0 : Int) (a1_1 : Int) (a1_2 : Int) (a1_3 : Int) (a1_4 : Int) (a1_5 : Int) (a1_6 : Int) (a1_7 : ByteArray) (a1_8 : ByteArray) (l1_9 : List (S39)) (l1_10 : List (S41)) (a1_11 : Int) (a1_12 : Bool) (a1_13 : ByteArray) : Option (Bool) := if (l0_9.length : Int) = (l1_9.length : Int) then ((shelfmarkref13_SameIntents.f k l0_10 l1_10).bind fun t121 => (shelfmarkref13_Same.j0 k (!t121) a0_0 a0_1 a0_2 a0_3 a0_4 a0_5 a0_6 a0_7 a0_8 l0_9 l0_10 a0_11 a0_12 a0_13 a1_0 a1_1 a1_2 a1_3 a1_4 a1_5 a1_6 a1_7 a1_8 l1_9 l1_10 a1_11 a1_12 a1_13)) else (shelfmarkref13_Same.j0 k true a0_0 a0_1 a0_2 a0_3 a0_4 a0_5 a0_6 a0_7 a0_8 l0_9 l0_10 a0_11 a0_12 a0_13 a1_0 a1_1 a1_2 a1_3 a1_4 a1_5 a1_6 a1_7 a1_8 l1_9 l1_10 a1_11 a1_12 a1_13)
theorem shelfmarkref13_Same.mono_l : ∀ k, (∀ y0 y1 y2 y3 y4 y5 y6 y7 y8 y9 y10 y11 y12 y13 y14 y15 y16 y17 y18 y19 y20 y21 y22 y23 y24 y25 y26 y27 y28, LeO (shelfmarkref13_Same.j0 k y0 y1 y2 y3 y4 y5 y6 y7 y8 y9 y10 y11 y12 y13 y14 y15 y16 y17 y18 y19 y20 y21 y22 y23 y24 y25 y26 y27 y28) (shelfmarkref13_Same.j0 (k + 1) y0 y1 y2 y3 y4 y5 y6 y7 y8 y9 y10 y11 y12 y13 y14 y15 y16 y17 y18 y19 y20 y21 y22 y23 y24 y25 y26 y27 y28)) ∧ (∀ y0 y1 y2 y3 y4 y5 y6 y7 y8 y9 y10 y11 y12 y13 y14 y15 y16 y17 y18 y19 y20 y21 y22 y23 y24 y25 y26 y27 y28, LeO (shelfmarkref13_Same.l0 k y0 y1 y2 y3 y4 y5 y6 y7 y8 y9 y10 y11 y12 y13 y14 y15 y16 y17 y18 y19 y20 y21 y22 y23 y24 y25 y26 y27 y28) (shelfmarkref13_Same.l0 (k + 1) y0 y1 y2 y3 y4 y5 y6 y7 y8 y9 y10 y11 y12 y13 y14 y15 y16 y17 y18 y19 y20 y21 y22 y23 y24 y25 y26 y27 y28)) ∧ (∀ y0 y1 y2 y3 y4 y5 y6 y7 y8 y9 y10 y11 y12 y13 y14 y15 y16 y17 y18 y19 y20 y21 y22 y23 y24 y25 y26 y27 y28 y29 y30, LeO (shelfmarkref13_Same.l1 k y0 y1 y2 y3 y4 y5 y6 y7 y8 y9 y10 y11 y12 y13 y14 y15 y16 y17 y18 y19 y20 y21 y22 y23 y24 y25 y26 y27 y28 y29 y30) (shelfmarkref13_Same.l1 (k + 1) y0 y1 y2 y3 y4 y5 y6 y7 y8 y9 y10 y11 y12 y13 y14 y15 y16 y17 y18 y19 y20 y21 y22 y23 y24 y25 y26 y27 y28 y29 y30))
 | 0 => ⟨fun _ _ _ _ _ _ _ _ _ _ _ _ _ _ _ _ _ _ _ _ _ _ _ _ _ _ _ _ _ r h => by simp [shelfmarkref13_Same.j0] at h, fun _ _ _ _ _ _ _ _ _ _ _ _ _ _ _ _ _ _ _ _ _ _ _ _ _ _ _ _ _ r h => by simp [shelfmarkref13_Same.l0] at h, fun _ _ _ _ _ _ _ _ _ _ _ _ _ _ _ _ _ _ _ _ _ _ _ _ _ _ _ _ _ _ _ r h => by simp [shelfmarkref13_Same.l1] at h⟩
 | k + 1 => by
  obtain ⟨ih0, ih1, ih2⟩ := shelfmarkref13_Same.mono_l k
  refine ⟨?_, ?_, ?_⟩
  ·intro y0 y1 y2 y3 y4 y5 y6 y7 y8 y9 y10 y11 y12 y13 y14 y15 y16 y17 y18 y19 y20 y21 y22 y23 y24 y25 y26 y27 y28
   unfold shelfmarkref13_Same.j0
   repeat' first
   | (with_reducible exact ih0 _ _ _ _ _ _ _ _ _ _ _ _ _ _ _ _ _ _ _ _ _ _ _ _ _ _ _ _ _)
   | (with_reducible exact ih1 _ _ _ _ _ _ _ _ _ _ _ _ _ _ _ _ _ _ _ _ _ _ _ _ _ _ _ _ _)
   | (with_reducible exact ih2 _ _ _ _ _ _ _ _ _ _ _ _ _ _ _ _ _ _ _ _ _ _ _ _ _ _ _ _ _ _ _)
   | (with_reducible exact shelfmarkref13_SameIntents.mono _ _ _)
   | (with_reducible exact LeO.refl _)
   | (with_reducible exact LeO.none _)
   | (with_reducible refine LeO.ite ?_ ?_)
   | (with_reducible refine LeO.bind ?_ (fun _ => ?_))
   | exact ih0 _ _ _ _ _ _ _ _ _ _ _ _ _ _ _ _ _ _ _ _ _ _ _ _ _ _ _ _ _
   | exact ih1 _ _ _ _ _ _ _ _ _ _ _ _ _ _ _ _ _ _ _ _ _ _ _ _ _ _ _ _ _
   | exact ih2 _ _ _ _ _ _ _ _ _ _ _ _ _ _ _ _ _ _ _ _ _ _ _ _ _ _ _ _ _ _ _
   | exact shelfmarkref13_SameIntents.mono _ _ _
   | exact LeO.none _
   | refine LeO.ite ?_ ?_
   | refine LeO.bind ?_ (fun _ => ?_)
  ·intro y0 y1 y2 y3 y4 y5 y6 y7 y8 y9 y10 y11 y12 y13 y14 y15 y16 y17 y18 y19 y20 y21 y22 y23 y24 y25 y26 y27 y28
   unfold shelfmarkref13_Same.l0
   repeat' first
   | (with_reducible exact ih0 _ _ _ _ _ _ _ _ _ _ _ _ _ _ _ _ _ _ _ _ _ _ _ _ _ _ _ _ _)
   | (with_reducible exact ih1 _ _ _ _ _ _ _ _ _ _ _ _ _ _ _ _ _ _ _ _ _ _ _ _ _ _ _ _ _)
   | (with_reducible exact ih2 _ _ _ _ _ _ _ _ _ _ _ _ _ _ _ _ _ _ _ _ _ _ _ _ _ _ _ _ _ _ _)
   | (with_reducible exact shelfmarkref13_SameIntents.mono _ _ _)
   | (with_reducible exact LeO.refl _)
   | (with_reducible exact LeO.none _)
   | (with_reducible refine LeO.ite ?_ ?_)
   | (with_reducible refine LeO.bind ?_ (fun _ => ?_))
   | exact ih0 _ _ _ _ _ _ _ _ _ _ _ _ _ _ _ _ _ _ _ _ _ _ _ _ _ _ _ _ _
   | exact ih1 _ _ _ _ _ _ _ _ _ _ _ _ _ _ _ _ _ _ _ _ _ _ _ _ _ _ _ _ _
   | exact ih2 _ _ _ _ _ _ _ _ _ _ _ _ _ _ _ _ _ _ _ _ _ _ _ _ _ _ _ _ _ _ _
   | exact shelfmarkref13_SameIntents.mono _ _ _
   | exact LeO.none _
   | refine LeO.ite ?_ ?_
   | refine LeO.bind ?_ (fun _ => ?_)
  ·intro y0 y1 y2 y3 y4 y5 y6 y7 y8 y9 y10 y11 y12 y13 y14 y15 y16 y17 y18 y19 y20 y21 y22 y23 y24 y25 y26 y27 y28 y29 y30
   unfold shelfmarkref13_Same.l1
   repeat' first
   | (with_reducible exact ih0 _ _ _ _ _ _ _ _ _ _ _ _ _ _ _ _ _ _ _ _ _ _ _ _ _ _ _ _ _)
   | (with_reducible exact ih1 _ _ _ _ _ _ _ _ _ _ _ _ _ _ _ _ _ _ _ _ _ _ _ _ _ _ _ _ _)
   | (with_reducible exact ih2 _ _ _ _ _ _ _ _ _ _ _ _ _ _ _ _ _ _ _ _ _ _ _ _ _ _ _ _ _ _ _)
   | (with_reducible exact shelfmarkref13_SameIntents.mono _ _ _)
   | (with_reducible exact LeO.refl _)
   | (with_reducible exact LeO.none _)
   | (with_reducible refine LeO.ite ?_ ?_)
   | (with_reducible refine LeO.bind ?_ (fun _ => ?_))
   | exact ih0 _ _ _ _ _ _ _ _ _ _ _ _ _ _ _ _ _ _ _ _ _ _ _ _ _ _ _ _ _
   | exact ih1 _ _ _ _ _ _ _ _ _ _ _ _ _ _ _ _ _ _ _ _ _ _ _ _ _ _ _ _ _
   | exact ih2 _ _ _ _ _ _ _ _ _ _ _ _ _ _ _ _ _ _ _ _ _ _ _ _ _ _ _ _ _ _ _
   | exact shelfmarkref13_SameIntents.mono _ _ _
   | exact LeO.none _
   | refine LeO.ite ?_ ?_
   | refine LeO.bind ?_ (fun _ => ?_)
theorem shelfmarkref13_Same.mono : ∀ a0 a1 a2 a3 a4 a5 a6 a7 a8 a9 a10 a11 a12 a13 a14 a15 a16 a17 a18 a19 a20 a21 a22 a23 a24 a25 a26 a27 k, LeO (shelfmarkref13_Same.f k a0 a1 a2 a3 a4 a5 a6 a7 a8 a9 a10 a11 a12 a13 a14 a15 a16 a17 a18 a19 a20 a21 a22 a23 a24 a25 a26 a27) (shelfmarkref13_Same.f (k + 1) a0 a1 a2 a3 a4 a5 a6 a7 a8 a9 a10 a11 a12 a13 a14 a15 a16 a17 a18 a19 a20 a21 a22 a23 a24 a25 a26 a27) := by
 intro a0 a1 a2 a3 a4 a5 a6 a7 a8 a9 a10 a11 a12 a13 a14 a15 a16 a17 a18 a19 a20 a21 a22 a23 a24 a25 a26 a27 k
 obtain ⟨ih0, ih1, ih2⟩ := shelfmarkref13_Same.mono_l k
 unfold shelfmarkref13_Same.f
 repeat' first
   | (with_reducible exact ih0 _ _ _ _ _ _ _ _ _ _ _ _ _ _ _ _ _ _ _ _ _ _ _ _ _ _ _ _ _)
   | (with_reducible exact ih1 _ _ _ _ _ _ _ _ _ _ _ _ _ _ _ _ _ _ _ _ _ _ _ _ _ _ _ _ _)
   | (with_reducible exact ih2 _ _ _ _ _ _ _ _ _ _ _ _ _ _ _ _ _ _ _ _ _ _ _ _ _ _ _ _ _ _ _)
   | (with_reducible exact shelfmarkref13_SameIntents.mono _ _ _)
   | (with_reducible exact LeO.refl _)
   | (with_reducible exact LeO.none _)
   | (with_reducible refine LeO.ite ?_ ?_)
   | (with_reducible refine LeO.bind ?_ (fun _ => ?_))
   | exact ih0 _ _ _ _ _ _ _ _ _ _ _ _ _ _ _ _ _ _ _ _ _ _ _ _ _ _ _ _ _
   | exact ih1 _ _ _ _ _ _ _ _ _ _ _ _ _ _ _ _ _ _ _ _ _ _ _ _ _ _ _ _ _
   | exact ih2 _ _ _ _ _ _ _ _ _ _ _ _ _ _ _ _ _ _ _ _ _ _ _ _ _ _ _ _ _ _ _
   | exact shelfmarkref13_SameIntents.mono _ _ _
   | exact LeO.none _
   | refine LeO.ite ?_ ?_
   | refine LeO.bind ?_ (fun _ => ?_)
def shelfmarkref13_Same.T6 : Bool × List (List Nat × List Nat) := (true, [([], []), ([0], [0]), ([], []), ([1, 2], [1, 2]), ([3], [3]), ([], []), ([5], [5]), ([], []), ([6, 7], [6, 7]), ([8], [8]), ([4, 9], [4, 9])])
def shelfmarkref13_Same.B6 : List Nat := [0, 1, 0, 7, 15, 0, 32, 0, 224, 480, 1023]
theorem shelfmarkref13_Same.tab6 : rtab .any (opsOf Try.f10 6) = shelfmarkref13_Same.T6 := by kernel_rfl
theorem shelfmarkref13_Same.bits6 : waitsOk shelfmarkref13_Same.T6.2 shelfmarkref13_Same.B6 = true := by kernel_rfl
def shelfmarkref13_Same.T12 : Bool × List (List Nat × List Nat) := (true, [([], []), ([], []), ([0, 1], [0, 1]), ([2], [2]), ([], []), ([], []), ([4, 5], [4, 5]), ([6], [6]), ([3, 7], [3, 7])])
def shelfmarkref13_Same.B12 : List Nat := [0, 0, 3, 7, 0, 0, 48, 112, 255]
theorem shelfmarkref13_Same.tab12 : rtab .any (opsOf Try.f10 12) = shelfmarkref13_Same.T12 := by kernel_rfl
theorem shelfmarkref13_Same.bits12 : waitsOk shelfmarkref13_Same.T12.2 shelfmarkref13_Same.B12 = true := by kernel_rfl
set_option maxHeartbeats 8000000 in
set_option maxRecDepth 100000 in
theorem shelfmarkref13_Same.calls (k : Nat) (a0_0 : Int) (a0_1 : Int) (a0_2 : Int) (a0_3 : Int) (a0_4 : Int) (a0_5 : Int) (a0_6 : Int) (a0_7 : ByteArray) (a0_8 : ByteArray) (A0_9 : Option Addr) (c0_9 : Nat) (l0_9 : List (S39)) (A0_10 : Option Addr) (c0_10 : Nat) (l0_10 : List (S41)) (a0_11 : Int) (a0_12 : Bool) (a0_13 : ByteArray) (a1_0 : Int) (a1_1 : Int) (a1_2 : Int) (a1_3 : Int) (a1_4 : Int) (a1_5 : Int) (a1_6 : Int) (a1_7 : ByteArray) (a1_8 : ByteArray) (A1_9 : Option Addr) (c1_9 : Nat) (l1_9 : List (S39)) (A1_10 : Option Addr) (c1_10 : Nat) (l1_10 : List (S41)) (a1_11 : Int) (a1_12 : Bool) (a1_13 : ByteArray) (r : Bool) (w : World) (hr0_9 : Kd.C k39 w A0_9 l0_9.length l0_9) (hc0_9 : l0_9.length ≤ c0_9) (hr0_10 : Kd.C k41 w A0_10 l0_10.length l0_10) (hc0_10 : l0_10.length ≤ c0_10) (hr1_9 : Kd.C k39 w A1_9 l1_9.length l1_9) (hc1_9 : l1_9.length ≤ c1_9) (hr1_10 : Kd.C k41 w A1_10 l1_10.length l1_10) (hc1_10 : l1_10.length ≤ c1_10) (h : shelfmarkref13_Same.f k a0_0 a0_1 a0_2 a0_3 a0_4 a0_5 a0_6 a0_7 a0_8 l0_9 l0_10 a0_11 a0_12 a0_13 a1_0 a1_1 a1_2 a1_3 a1_4 a1_5 a1_6 a1_7 a1_8 l1_9 l1_10 a1_11 a1_12 a1_13 = some r) :
  Calls Try.prog 10 #[.agg #[.int .i64 a0_0, .int .i64 a0_1, .int .i64 a0_2, .int .i64 a0_3, .int .i64 a0_4, .int .i64 a0_5, .int .i64 a0_6, .string a0_7, .string a0_8, .slice A0_9 l0_9.length c0_9, .slice A0_10 l0_10.length c0_10, .int .i64 a0_11, .bool a0_12, .string a0_13], .agg #[.int .i64 a1_0, .int .i64 a1_1, .int .i64 a1_2, .int .i64 a1_3, .int .i64 a1_4, .int .i64 a1_5, .int .i64 a1_6, .string a1_7, .string a1_8, .slice A1_9 l1_9.length c1_9, .slice A1_10 l1_10.length c1_10, .int .i64 a1_11, .bool a1_12, .string a1_13]] w fun e w' => e = .returned (.bool r) ∧ Below w.heap.size w w' := by
 have hu27 := Try.underlying27
 have hu39 := Try.underlying39
 have HR0_9 := Aside0.mk hr0_9
 have HC0_9 := Aside0.mk hc0_9
 clear hr0_9 hc0_9
 have HR0_10 := Aside0.mk hr0_10
 have HC0_10 := Aside0.mk hc0_10
 clear hr0_10 hc0_10
 have HR1_9 := Aside0.mk hr1_9
 have HC1_9 := Aside0.mk hc1_9
 clear hr1_9 hc1_9
 have HR1_10 := Aside0.mk hr1_10
 have HC1_10 := Aside0.mk hc1_10
 clear hr1_10 hc1_10
 have HB := Aside0.mk (Below.refl w.heap.size w)
 have H : (if (l0_9.length : Int) = (l1_9.length : Int) then ((shelfmarkref13_SameIntents.f k l0_10 l1_10).bind fun t121 => (shelfmarkref13_Same.j0 k (!t121) a0_0 a0_1 a0_2 a0_3 a0_4 a0_5 a0_6 a0_7 a0_8 l0_9 l0_10 a0_11 a0_12 a0_13 a1_0 a1_1 a1_2 a1_3 a1_4 a1_5 a1_6 a1_7 a1_8 l1_9 l1_10 a1_11 a1_12 a1_13)) else (shelfmarkref13_Same.j0 k true a0_0 a0_1 a0_2 a0_3 a0_4 a0_5 a0_6 a0_7 a0_8 l0_9 l0_10 a0_11 a0_12 a0_13 a1_0 a1_1 a1_2 a1_3 a1_4 a1_5 a1_6 a1_7 a1_8 l1_9 l1_10 a1_11 a1_12 a1_13)) = some r := h
 clear h
 have HC3 := Aside0.mk H
 clear H
 go_enter Try.func10, Try.ntmps10
 go_upto_region 1 with (first | ((with_reducible refine gate_dst (N := 2) rfl ?_); refine box_event ?hg (N := 2) ?hd (cs := #[.int .i64 a0_0, .int .i64 a0_1, .int .i64 a0_2, .int .i64 a0_3, .int .i64 a0_4, .int .i64 a0_5, .int .i64 a0_6, .string a0_7, .string a0_8, .slice A0_9 l0_9.length c0_9, .slice A0_10 l0_10.length c0_10, .int .i64 a0_11, .bool a0_12, .string a0_13]) (t := 27) ?hr ?_; (case hd => rfl); (case hg => rfl); (case hr => first | (go_simp; done) | (go_simp; rfl)); intro gb119 hg w4 hbox hb; have n0_ := Aside0.mk (below_step (hL HB.out) hb); have n1_ := Aside0.mk (hbox); have n2_ := Above.mk ((by rw [hg]; exact (below_size (hL HB.out)) : w.heap.size ≤ gb119)); have n3_ := Above.mk ((by rw [hg]; exact (below_size (hL HB.out)) : w.heap.size ≤ gb119)); clear HB; have HB := n0_; have BK119 := n1_; have GW119 := n2_; have GE119 := n3_; clear n0_ n1_ n2_ n3_; clear hb hbox hg) | ((with_reducible refine gate_dst (N := 3) rfl ?_); refine box_event ?hg (N := 3) ?hd (cs := #[.int .i64 a1_0, .int .i64 a1_1, .int .i64 a1_2, .int .i64 a1_3, .int .i64 a1_4, .int .i64 a1_5, .int .i64 a1_6, .string a1_7, .string a1_8, .slice A1_9 l1_9.length c1_9, .slice A1_10 l1_10.length c1_10, .int .i64 a1_11, .bool a1_12, .string a1_13]) (t := 27) ?hr ?_; (case hd => rfl); (case hg => rfl); (case hr => first | (go_simp; done) | (go_simp; rfl)); intro gb120 hg w5 hbox hb; have n0_ := Aside0.mk (blk_below (bL BK119.out) hb); have n1_ := Aside0.mk (below_step (hL HB.out) hb); have n2_ := Aside0.mk (hbox); have n3_ := Above.mk ((by rw [hg]; exact (below_size (hL HB.out)) : w.heap.size ≤ gb120)); have n4_ := Above.mk ((by rw [hg]; exact (below_size (hL HB.out)) : w.heap.size ≤ gb120)); have n5_ := Aside0.mk ((by rw [hg]; exact Nat.ne_of_lt (blk_lt (g := gb119) (o := .cells #[.int .i64 a0_0, .int .i64 a0_1, .int .i64 a0_2, .int .i64 a0_3, .int .i64 a0_4, .int .i64 a0_5, .int .i64 a0_6, .string a0_7, .string a0_8, .slice A0_9 l0_9.length c0_9, .slice A0_10 l0_10.length c0_10, .int .i64 a0_11, .bool a0_12, .string a0_13] 27 (0, 0)) (bL BK119.out)) : gb119 ≠ gb120)); have n6_ := Aside0.mk ((by rw [hg]; exact Nat.ne_of_gt (blk_lt (g := gb119) (o := .cells #[.int .i64 a0_0, .int .i64 a0_1, .int .i64 a0_2, .int .i64 a0_3, .int .i64 a0_4, .int .i64 a0_5, .int .i64 a0_6, .string a0_7, .string a0_8, .slice A0_9 l0_9.length c0_9, .slice A0_10 l0_10.length c0_10, .int .i64 a0_11, .bool a0_12, .string a0_13] 27 (0, 0)) (bL BK119.out)) : gb120 ≠ gb119)); clear BK119; clear HB; have BK119 := n0_; have HB := n1_; have BK120 := n2_; have GW120 := n3_; have GE120 := n4_; have NB119_120 := n5_; have NB120_119 := n6_; clear n0_ n1_ n2_ n3_ n4_ n5_ n6_; clear hb hbox hg))
 (try simp only [Act.put, sT, sZ, sS])
 go_cut [23] (fun v23 wc => ∃ (kq : Nat) (x23_2 : Bool), v23 = .bool x23_2 ∧ Aside0 (shelfmarkref13_Same.j0 kq x23_2 a0_0 a0_1 a0_2 a0_3 a0_4 a0_5 a0_6 a0_7 a0_8 l0_9 l0_10 a0_11 a0_12 a0_13 a1_0 a1_1 a1_2 a1_3 a1_4 a1_5 a1_6 a1_7 a1_8 l1_9 l1_10 a1_11 a1_12 a1_13 = some r) ∧ Aside0 (kq ≤ k) ∧ Aside0 (wc.heap[gb119]? = some (.cells #[.int .i64 a0_0, .int .i64 a0_1, .int .i64 a0_2, .int .i64 a0_3, .int .i64 a0_4, .int .i64 a0_5, .int .i64 a0_6, .string a0_7, .string a0_8, (.slice A0_9 l0_9.length c0_9), (.slice A0_10 l0_10.length c0_10), .int .i64 a0_11, .bool a0_12, .string a0_13] 27 (0, 0))) ∧ Aside0 (wc.heap[gb120]? = some (.cells #[.int .i64 a1_0, .int .i64 a1_1, .int .i64 a1_2, .int .i64 a1_3, .int .i64 a1_4, .int .i64 a1_5, .int .i64 a1_6, .string a1_7, .string a1_8, (.slice A1_9 l1_9.length c1_9), (.slice A1_10 l1_10.length c1_10), .int .i64 a1_11, .bool a1_12, .string a1_13] 27 (0, 0))) ∧ Aside0 (Below w.heap.size w wc))
 case first =>
  have H := HC3.out
  clear HC3
  by_cases c6 : (l0_9.length : Int) = (l1_9.length : Int)
  rotate_left
  ·rw [if_neg c6] at H
   have c6b0 : ((l0_9.length : Int) == (l1_9.length : Int)) = false := beq_eq_false_iff_ne.mpr c6
   have c6b1 : ((l0_9.length : Int) != (l1_9.length : Int)) = true := bne_iff_ne.mpr c6
   have c6b2 : (l0_9.length == l1_9.length) = false := by first | simpa using c6 | (simp at c6 ⊢; omega)
   (first | rw [c6b0] | (simp only [i64_w, i32_w]; rw [c6b0]) | skip)
   have H' := Aside0.mk H
   clear H
   have hnb11 := NB119_120.out
   have hnc11 := NB120_119.out
   have hcz12_0 : w5.cell? ⟨gb119, 0, none⟩ = some (.int .i64 a0_0) := (blk_cell BK119.out 0).trans rfl
   have hcz12_1 : w5.cell? ⟨gb119, 1, none⟩ = some (.int .i64 a0_1) := (blk_cell BK119.out 1).trans rfl
   have hcz12_2 : w5.cell? ⟨gb119, 2, none⟩ = some (.int .i64 a0_2) := (blk_cell BK119.out 2).trans rfl
   have hcz12_3 : w5.cell? ⟨gb119, 3, none⟩ = some (.int .i64 a0_3) := (blk_cell BK119.out 3).trans rfl
   have hcz12_4 : w5.cell? ⟨gb119, 4, none⟩ = some (.int .i64 a0_4) := (blk_cell BK119.out 4).trans rfl
   have hcz12_5 : w5.cell? ⟨gb119, 5, none⟩ = some (.int .i64 a0_5) := (blk_cell BK119.out 5).trans rfl
   have hcz12_6 : w5.cell? ⟨gb119, 6, none⟩ = some (.int .i64 a0_6) := (blk_cell BK119.out 6).trans rfl
   have hcz12_7 : w5.cell? ⟨gb119, 7, none⟩ = some (.string a0_7) := (blk_cell BK119.out 7).trans rfl
   have hcz12_8 : w5.cell? ⟨gb119, 8, none⟩ = some (.string a0_8) := (blk_cell BK119.out 8).trans rfl
   have hcz12_9 : w5.cell? ⟨gb119, 9, none⟩ = some (.slice A0_9 l0_9.length c0_9) := (blk_cell BK119.out 9).trans rfl
   have hcz12_10 : w5.cell? ⟨gb119, 10, none⟩ = some (.slice A0_10 l0_10.length c0_10) := (blk_cell BK119.out 10).trans rfl
   have hcz12_11 : w5.cell? ⟨gb119, 11, none⟩ = some (.int .i64 a0_11) := (blk_cell BK119.out 11).trans rfl
   have hcz12_12 : w5.cell? ⟨gb119, 12, none⟩ = some (.bool a0_12) := (blk_cell BK119.out 12).trans rfl
   have hcz12_13 : w5.cell? ⟨gb119, 13, none⟩ = some (.string a0_13) := (blk_cell BK119.out 13).trans rfl
   have hfz12_0 := blk_frozen BK119.out 0
   have hfz12_1 := blk_frozen BK119.out 1
   have hfz12_2 := blk_frozen BK119.out 2
   have hfz12_3 := blk_frozen BK119.out 3
   have hfz12_4 := blk_frozen BK119.out 4
   have hfz12_5 := blk_frozen BK119.out 5
   have hfz12_6 := blk_frozen BK119.out 6
   have hfz12_7 := blk_frozen BK119.out 7
   have hfz12_8 := blk_frozen BK119.out 8
   have hfz12_9 := blk_frozen BK119.out 9
   have hfz12_10 := blk_frozen BK119.out 10
   have hfz12_11 := blk_frozen BK119.out 11
   have hfz12_12 := blk_frozen BK119.out 12
   have hfz12_13 := blk_frozen BK119.out 13
   have hcz13_0 : w5.cell? ⟨gb120, 0, none⟩ = some (.int .i64 a1_0) := (blk_cell BK120.out 0).trans rfl
   have hcz13_1 : w5.cell? ⟨gb120, 1, none⟩ = some (.int .i64 a1_1) := (blk_cell BK120.out 1).trans rfl
   have hcz13_2 : w5.cell? ⟨gb120, 2, none⟩ = some (.int .i64 a1_2) := (blk_cell BK120.out 2).trans rfl
   have hcz13_3 : w5.cell? ⟨gb120, 3, none⟩ = some (.int .i64 a1_3) := (blk_cell BK120.out 3).trans rfl
   have hcz13_4 : w5.cell? ⟨gb120, 4, none⟩ = some (.int .i64 a1_4) := (blk_cell BK120.out 4).trans rfl
   have hcz13_5 : w5.cell? ⟨gb120, 5, none⟩ = some (.int .i64 a1_5) := (blk_cell BK120.out 5).trans rfl
   have hcz13_6 : w5.cell? ⟨gb120, 6, none⟩ = some (.int .i64 a1_6) := (blk_cell BK120.out 6).trans rfl
   have hcz13_7 : w5.cell? ⟨gb120, 7, none⟩ = some (.string a1_7) := (blk_cell BK120.out 7).trans rfl
   have hcz13_8 : w5.cell? ⟨gb120, 8, none⟩ = some (.string a1_8) := (blk_cell BK120.out 8).trans rfl
   have hcz13_9 : w5.cell? ⟨gb120, 9, none⟩ = some (.slice A1_9 l1_9.length c1_9) := (blk_cell BK120.out 9).trans rfl
   have hcz13_10 : w5.cell? ⟨gb120, 10, none⟩ = some (.slice A1_10 l1_10.length c1_10) := (blk_cell BK120.out 10).trans rfl
   have hcz13_11 : w5.cell? ⟨gb120, 11, none⟩ = some (.int .i64 a1_11) := (blk_cell BK120.out 11).trans rfl
   have hcz13_12 : w5.cell? ⟨gb120, 12, none⟩ = some (.bool a1_12) := (blk_cell BK120.out 12).trans rfl
   have hcz13_13 : w5.cell? ⟨gb120, 13, none⟩ = some (.string a1_13) := (blk_cell BK120.out 13).trans rfl
   have hfz13_0 := blk_frozen BK120.out 0
   have hfz13_1 := blk_frozen BK120.out 1
   have hfz13_2 := blk_frozen BK120.out 2
   have hfz13_3 := blk_frozen BK120.out 3
   have hfz13_4 := blk_frozen BK120.out 4
   have hfz13_5 := blk_frozen BK120.out 5
   have hfz13_6 := blk_frozen BK120.out 6
   have hfz13_7 := blk_frozen BK120.out 7
   have hfz13_8 := blk_frozen BK120.out 8
   have hfz13_9 := blk_frozen BK120.out 9
   have hfz13_10 := blk_frozen BK120.out 10
   have hfz13_11 := blk_frozen BK120.out 11
   have hfz13_12 := blk_frozen BK120.out 12
   have hfz13_13 := blk_frozen BK120.out 13
   go_wp2
   go_meet
   case rel => exact ⟨_, (true), (by first | rfl | (simp; done) | (simp [*]; done) | (simp [ne_nil_bytes]; done) | (simp [eq_nil_bytes]; done)), H', ⟨by first | omega | exact Nat.le_refl _⟩, ⟨by exact bL BK119.out⟩, ⟨by exact bL BK120.out⟩, ⟨hL HB.out⟩⟩
  rw [if_pos c6] at H
  have c6b0 : ((l0_9.length : Int) == (l1_9.length : Int)) = true := beq_iff_eq.mpr c6
  have c6b1 : ((l0_9.length : Int) != (l1_9.length : Int)) = false := bne_eq_false_iff_eq.mpr c6
  have c6b2 : (l0_9.length == l1_9.length) = true := by first | simpa using c6 | (simp at c6 ⊢; omega)
  clear c6
  (first | rw [c6b0] | (simp only [i64_w, i32_w]; rw [c6b0]) | skip)
  replace H := Option.bind_eq_some_iff.mp H
  obtain ⟨t121, A70, H⟩ := H
  replace H : (shelfmarkref13_Same.j0 k (!t121) a0_0 a0_1 a0_2 a0_3 a0_4 a0_5 a0_6 a0_7 a0_8 l0_9 l0_10 a0_11 a0_12 a0_13 a1_0 a1_1 a1_2 a1_3 a1_4 a1_5 a1_6 a1_7 a1_8 l1_9 l1_10 a1_11 a1_12 a1_13) = some r := H
  have A7 := Aside0.mk A70
  clear A70
  have H' := Aside0.mk H
  clear H
  have hnb8 := NB119_120.out
  have hnc8 := NB120_119.out
  have hcz9_0 : w5.cell? ⟨gb119, 0, none⟩ = some (.int .i64 a0_0) := (blk_cell BK119.out 0).trans rfl
  have hcz9_1 : w5.cell? ⟨gb119, 1, none⟩ = some (.int .i64 a0_1) := (blk_cell BK119.out 1).trans rfl
  have hcz9_2 : w5.cell? ⟨gb119, 2, none⟩ = some (.int .i64 a0_2) := (blk_cell BK119.out 2).trans rfl
  have hcz9_3 : w5.cell? ⟨gb119, 3, none⟩ = some (.int .i64 a0_3) := (blk_cell BK119.out 3).trans rfl
  have hcz9_4 : w5.cell? ⟨gb119, 4, none⟩ = some (.int .i64 a0_4) := (blk_cell BK119.out 4).trans rfl
  have hcz9_5 : w5.cell? ⟨gb119, 5, none⟩ = some (.int .i64 a0_5) := (blk_cell BK119.out 5).trans rfl
  have hcz9_6 : w5.cell? ⟨gb119, 6, none⟩ = some (.int .i64 a0_6) := (blk_cell BK119.out 6).trans rfl
  have hcz9_7 : w5.cell? ⟨gb119, 7, none⟩ = some (.string a0_7) := (blk_cell BK119.out 7).trans rfl
  have hcz9_8 : w5.cell? ⟨gb119, 8, none⟩ = some (.string a0_8) := (blk_cell BK119.out 8).trans rfl
  have hcz9_9 : w5.cell? ⟨gb119, 9, none⟩ = some (.slice A0_9 l0_9.length c0_9) := (blk_cell BK119.out 9).trans rfl
  have hcz9_10 : w5.cell? ⟨gb119, 10, none⟩ = some (.slice A0_10 l0_10.length c0_10) := (blk_cell BK119.out 10).trans rfl
  have hcz9_11 : w5.cell? ⟨gb119, 11, none⟩ = some (.int .i64 a0_11) := (blk_cell BK119.out 11).trans rfl
  have hcz9_12 : w5.cell? ⟨gb119, 12, none⟩ = some (.bool a0_12) := (blk_cell BK119.out 12).trans rfl
  have hcz9_13 : w5.cell? ⟨gb119, 13, none⟩ = some (.string a0_13) := (blk_cell BK119.out 13).trans rfl
  have hfz9_0 := blk_frozen BK119.out 0
  have hfz9_1 := blk_frozen BK119.out 1
  have hfz9_2 := blk_frozen BK119.out 2
  have hfz9_3 := blk_frozen BK119.out 3
  have hfz9_4 := blk_frozen BK119.out 4
  have hfz9_5 := blk_frozen BK119.out 5
  have hfz9_6 := blk_frozen BK119.out 6
  have hfz9_7 := blk_frozen BK119.out 7
  have hfz9_8 := blk_frozen BK119.out 8
  have hfz9_9 := blk_frozen BK119.out 9
  have hfz9_10 := blk_frozen BK119.out 10
  have hfz9_11 := blk_frozen BK119.out 11
  have hfz9_12 := blk_frozen BK119.out 12
  have hfz9_13 := blk_frozen BK119.out 13
  have hcz10_0 : w5.cell? ⟨gb120, 0, none⟩ = some (.int .i64 a1_0) := (blk_cell BK120.out 0).trans rfl
  have hcz10_1 : w5.cell? ⟨gb120, 1, none⟩ = some (.int .i64 a1_1) := (blk_cell BK120.out 1).trans rfl
  have hcz10_2 : w5.cell? ⟨gb120, 2, none⟩ = some (.int .i64 a1_2) := (blk_cell BK120.out 2).trans rfl
  have hcz10_3 : w5.cell? ⟨gb120, 3, none⟩ = some (.int .i64 a1_3) := (blk_cell BK120.out 3).trans rfl
  have hcz10_4 : w5.cell? ⟨gb120, 4, none⟩ = some (.int .i64 a1_4) := (blk_cell BK120.out 4).trans rfl
  have hcz10_5 : w5.cell? ⟨gb120, 5, none⟩ = some (.int .i64 a1_5) := (blk_cell BK120.out 5).trans rfl
  have hcz10_6 : w5.cell? ⟨gb120, 6, none⟩ = some (.int .i64 a1_6) := (blk_cell BK120.out 6).trans rfl
  have hcz10_7 : w5.cell? ⟨gb120, 7, none⟩ = some (.string a1_7) := (blk_cell BK120.out 7).trans rfl
  have hcz10_8 : w5.cell? ⟨gb120, 8, none⟩ = some (.string a1_8) := (blk_cell BK120.out 8).trans rfl
  have hcz10_9 : w5.cell? ⟨gb120, 9, none⟩ = some (.slice A1_9 l1_9.length c1_9) := (blk_cell BK120.out 9).trans rfl
  have hcz10_10 : w5.cell? ⟨gb120, 10, none⟩ = some (.slice A1_10 l1_10.length c1_10) := (blk_cell BK120.out 10).trans rfl
  have hcz10_11 : w5.cell? ⟨gb120, 11, none⟩ = some (.int .i64 a1_11) := (blk_cell BK120.out 11).trans rfl
  have hcz10_12 : w5.cell? ⟨gb120, 12, none⟩ = some (.bool a1_12) := (blk_cell BK120.out 12).trans rfl
  have hcz10_13 : w5.cell? ⟨gb120, 13, none⟩ = some (.string a1_13) := (blk_cell BK120.out 13).trans rfl
  have hfz10_0 := blk_frozen BK120.out 0
  have hfz10_1 := blk_frozen BK120.out 1
  have hfz10_2 := blk_frozen BK120.out 2
  have hfz10_3 := blk_frozen BK120.out 3
  have hfz10_4 := blk_frozen BK120.out 4
  have hfz10_5 := blk_frozen BK120.out 5
  have hfz10_6 := blk_frozen BK120.out 6
  have hfz10_7 := blk_frozen BK120.out 7
  have hfz10_8 := blk_frozen BK120.out 8
  have hfz10_9 := blk_frozen BK120.out 9
  have hfz10_10 := blk_frozen BK120.out 10
  have hfz10_11 := blk_frozen BK120.out 11
  have hfz10_12 := blk_frozen BK120.out 12
  have hfz10_13 := blk_frozen BK120.out 13
  go_wp2_with (first | (go_at_call 27; (with_reducible refine (shelfmarkref13_SameIntents.calls k _ _ l0_10 _ _ l1_10 t121 _ ?side1 ?side2 ?side3 ?side4 A7.out).mono ?_); (case side1 => repeat (first | exact (Kd.C_below HR0_10.out HB.out) | (with_reducible refine Kd.C_alloc ?_ _) | (with_reducible refine Kd.C_drewN ?_ _) | (with_reducible refine Kd.C_drew ?_))); (case side2 => exact HC0_10.out); (case side3 => repeat (first | exact (Kd.C_below HR1_10.out HB.out) | (with_reducible refine Kd.C_alloc ?_ _) | (with_reducible refine Kd.C_drewN ?_ _) | (with_reducible refine Kd.C_drew ?_))); (case side4 => exact HC1_10.out); rintro e w' ⟨rfl, ⟨nd, rfl⟩⟩))
  go_meet
  case rel => exact ⟨_, (!t121), (by first | rfl | (simp; done) | (simp [*]; done) | (simp [ne_nil_bytes]; done) | (simp [eq_nil_bytes]; done)), H', ⟨by first | omega | exact Nat.le_refl _⟩, ⟨by exact bL BK119.out⟩, ⟨by exact bL BK120.out⟩, ⟨hL HB.out⟩⟩
 clear HC3
 try clear c1
 try clear p2
 try clear c6
 try clear c6b0
 try clear c6b0z
 try clear c6b1
 try clear c6b1z
 try clear c6b2
 try clear c6b2z
 try clear c8
 try clear c10
 try clear c11
 try clear hcz10_0
 try clear hcz10_1
 try clear hcz10_10
 try clear hcz10_11
 try clear hcz10_12
 try clear hcz10_13
 try clear hcz10_2
 try clear hcz10_3
 try clear hcz10_4
 try clear hcz10_5
 try clear hcz10_6
 try clear hcz10_7
 try clear hcz10_8
 try clear hcz10_9
 try clear hcz12_0
 try clear hcz12_1
 try clear hcz12_10
 try clear hcz12_11
 try clear hcz12_12
 try clear hcz12_13
 try clear hcz12_2
 try clear hcz12_3
 try clear hcz12_4
 try clear hcz12_5
 try clear hcz12_6
 try clear hcz12_7
 try clear hcz12_8
 try clear hcz12_9
 try clear hcz13_0
 try clear hcz13_1
 try clear hcz13_10
 try clear hcz13_11
 try clear hcz13_12
 try clear hcz13_13
 try clear hcz13_2
 try clear hcz13_3
 try clear hcz13_4
 try clear hcz13_5
 try clear hcz13_6
 try clear hcz13_7
 try clear hcz13_8
 try clear hcz13_9
 try clear hcz9_0
 try clear hcz9_1
 try clear hcz9_10
 try clear hcz9_11
 try clear hcz9_12
 try clear hcz9_13
 try clear hcz9_2
 try clear hcz9_3
 try clear hcz9_4
 try clear hcz9_5
 try clear hcz9_6
 try clear hcz9_7
 try clear hcz9_8
 try clear hcz9_9
 try clear hfz10_0
 try clear hfz10_1
 try clear hfz10_10
 try clear hfz10_11
 try clear hfz10_12
 try clear hfz10_13
 try clear hfz10_2
 try clear hfz10_3
 try clear hfz10_4
 try clear hfz10_5
 try clear hfz10_6
 try clear hfz10_7
 try clear hfz10_8
 try clear hfz10_9
 try clear hfz12_0
 try clear hfz12_1
 try clear hfz12_10
 try clear hfz12_11
 try clear hfz12_12
 try clear hfz12_13
 try clear hfz12_2
 try clear hfz12_3
 try clear hfz12_4
 try clear hfz12_5
 try clear hfz12_6
 try clear hfz12_7
 try clear hfz12_8
 try clear hfz12_9
 try clear hfz13_0
 try clear hfz13_1
 try clear hfz13_10
 try clear hfz13_11
 try clear hfz13_12
 try clear hfz13_13
 try clear hfz13_2
 try clear hfz13_3
 try clear hfz13_4
 try clear hfz13_5
 try clear hfz13_6
 try clear hfz13_7
 try clear hfz13_8
 try clear hfz13_9
 try clear hfz9_0
 try clear hfz9_1
 try clear hfz9_10
 try clear hfz9_11
 try clear hfz9_12
 try clear hfz9_13
 try clear hfz9_2
 try clear hfz9_3
 try clear hfz9_4
 try clear hfz9_5
 try clear hfz9_6
 try clear hfz9_7
 try clear hfz9_8
 try clear hfz9_9
 obtain ⟨kq, x23_2, rfl, HA, HJ2, BK119, BK120, HB⟩ := hcut
 rcases kq with _ | kj2
 ·exact absurd HA.out (by simp [shelfmarkref13_Same.j0])
 have H := HA.out
 clear HA
 simp only [shelfmarkref13_Same.j0] at H
 by_cases c14 : x23_2 = true
 ·subst c14
  have H1 : (some false) = some r := by rw [if_pos rfl] at H; exact H
  clear H
  have H := H1
  clear H1
  obtain rfl := Option.some.inj H
  simp only [Option.some.injEq, Prod.mk.injEq] at H
  obtain ⟨rfl⟩ := H
  go_wp2
  go_ret
  exact ⟨by first | rfl | (simp [errW_none, errW_some] <;> rfl) | (simp [*, errW_none, errW_some] <;> rfl), hL HB.out⟩
 replace c14 := Bool.eq_false_iff.mpr c14
 subst c14
 have H1 : (shelfmarkref13_Same.l0 kj2 0 a0_0 a0_1 a0_2 a0_3 a0_4 a0_5 a0_6 a0_7 a0_8 l0_9 l0_10 a0_11 a0_12 a0_13 a1_0 a1_1 a1_2 a1_3 a1_4 a1_5 a1_6 a1_7 a1_8 l1_9 l1_10 a1_11 a1_12 a1_13) = some r := by rw [if_neg (show ¬ (false = true) by decide)] at H; exact H
 clear H
 have H := H1
 clear H1
 have H' := Aside0.mk H
 clear H
 go_wp2
 go_loopg [5] kj2 (fun kq v5 w' => ∃ (x5_2 : Int), v5 = .int .i64 x5_2 ∧ Aside0 (shelfmarkref13_Same.l0 kq x5_2 a0_0 a0_1 a0_2 a0_3 a0_4 a0_5 a0_6 a0_7 a0_8 l0_9 l0_10 a0_11 a0_12 a0_13 a1_0 a1_1 a1_2 a1_3 a1_4 a1_5 a1_6 a1_7 a1_8 l1_9 l1_10 a1_11 a1_12 a1_13 = some r) ∧ Aside0 (kq ≤ kj2) ∧ Aside0 (w'.heap[gb119]? = some (.cells #[.int .i64 a0_0, .int .i64 a0_1, .int .i64 a0_2, .int .i64 a0_3, .int .i64 a0_4, .int .i64 a0_5, .int .i64 a0_6, .string a0_7, .string a0_8, (.slice A0_9 l0_9.length c0_9), (.slice A0_10 l0_10.length c0_10), .int .i64 a0_11, .bool a0_12, .string a0_13] 27 (0, 0))) ∧ Aside0 (w'.heap[gb120]? = some (.cells #[.int .i64 a1_0, .int .i64 a1_1, .int .i64 a1_2, .int .i64 a1_3, .int .i64 a1_4, .int .i64 a1_5, .int .i64 a1_6, .string a1_7, .string a1_8, (.slice A1_9 l1_9.length c1_9), (.slice A1_10 l1_10.length c1_10), .int .i64 a1_11, .bool a1_12, .string a1_13] 27 (0, 0))) ∧ Aside0 (Below w.heap.size w w'))
 case atStart => exact ⟨(0), (by first | rfl | (simp; done) | (simp [*]; done) | (simp [ne_nil_bytes]; done) | (simp [eq_nil_bytes]; done)), H', ⟨Nat.le_refl _⟩, ⟨by exact bL BK119.out⟩, ⟨by exact bL BK120.out⟩, ⟨hL HB.out⟩⟩
 clear H'
 try clear c1
 try clear p2
 try clear c6
 try clear c6b0
 try clear c6b0z
 try clear c6b1
 try clear c6b1z
 try clear c6b2
 try clear c6b2z
 try clear c8
 try clear c10
 try clear c11
 try clear c14
 try clear hcz10_0
 try clear hcz10_1
 try clear hcz10_10
 try clear hcz10_11
 try clear hcz10_12
 try clear hcz10_13
 try clear hcz10_2
 try clear hcz10_3
 try clear hcz10_4
 try clear hcz10_5
 try clear hcz10_6
 try clear hcz10_7
 try clear hcz10_8
 try clear hcz10_9
 try clear hcz12_0
 try clear hcz12_1
 try clear hcz12_10
 try clear hcz12_11
 try clear hcz12_12
 try clear hcz12_13
 try clear hcz12_2
 try clear hcz12_3
 try clear hcz12_4
 try clear hcz12_5
 try clear hcz12_6
 try clear hcz12_7
 try clear hcz12_8
 try clear hcz12_9
 try clear hcz13_0
 try clear hcz13_1
 try clear hcz13_10
 try clear hcz13_11
 try clear hcz13_12
 try clear hcz13_13
 try clear hcz13_2
 try clear hcz13_3
 try clear hcz13_4
 try clear hcz13_5
 try clear hcz13_6
 try clear hcz13_7
 try clear hcz13_8
 try clear hcz13_9
 try clear hcz9_0
 try clear hcz9_1
 try clear hcz9_10
 try clear hcz9_11
 try clear hcz9_12
 try clear hcz9_13
 try clear hcz9_2
 try clear hcz9_3
 try clear hcz9_4
 try clear hcz9_5
 try clear hcz9_6
 try clear hcz9_7
 try clear hcz9_8
 try clear hcz9_9
 try clear hfz10_0
 try clear hfz10_1
 try clear hfz10_10
 try clear hfz10_11
 try clear hfz10_12
 try clear hfz10_13
 try clear hfz10_2
 try clear hfz10_3
 try clear hfz10_4
 try clear hfz10_5
 try clear hfz10_6
 try clear hfz10_7
 try clear hfz10_8
 try clear hfz10_9
 try clear hfz12_0
 try clear hfz12_1
 try clear hfz12_10
 try clear hfz12_11
 try clear hfz12_12
 try clear hfz12_13
 try clear hfz12_2
 try clear hfz12_3
 try clear hfz12_4
 try clear hfz12_5
 try clear hfz12_6
 try clear hfz12_7
 try clear hfz12_8
 try clear hfz12_9
 try clear hfz13_0
 try clear hfz13_1
 try clear hfz13_10
 try clear hfz13_11
 try clear hfz13_12
 try clear hfz13_13
 try clear hfz13_2
 try clear hfz13_3
 try clear hfz13_4
 try clear hfz13_5
 try clear hfz13_6
 try clear hfz13_7
 try clear hfz13_8
 try clear hfz13_9
 try clear hfz9_0
 try clear hfz9_1
 try clear hfz9_10
 try clear hfz9_11
 try clear hfz9_12
 try clear hfz9_13
 try clear hfz9_2
 try clear hfz9_3
 try clear hfz9_4
 try clear hfz9_5
 try clear hfz9_6
 try clear hfz9_7
 try clear hfz9_8
 try clear hfz9_9
 try clear p2
 obtain ⟨x5_2, rfl, HA, HK2, BK119, BK120, HB⟩ := hrel
 rcases gk with _ | k2
 ·exact absurd HA.out (by simp [shelfmarkref13_Same.l0])
 have H := HA.out
 clear HA
 simp only [shelfmarkref13_Same.l0] at H
 by_cases c15 : x5_2 < (l0_9.length : Int)
 ·rw [if_pos c15] at H
  have c15b0 : decide (x5_2 < (l0_9.length : Int)) = true := decide_eq_true c15
  clear c15
  by_cases c16 : 0 ≤ x5_2
  rotate_left
  ·rw [if_neg c16] at H
   exact absurd H (by simp)
  rw [if_pos c16] at H
  have c16b0 : decide (0 ≤ x5_2) = true := decide_eq_true c16
  clear c16
  by_cases c17 : x5_2 < (l1_9.length : Int)
  rotate_left
  ·rw [if_neg c17] at H
   exact absurd H (by simp)
  rw [if_pos c17] at H
  have c17b0 : decide (x5_2 < (l1_9.length : Int)) = true := decide_eq_true c17
  clear c17
  by_cases c18 : (!((((rd_T39 l0_9 x5_2).f0).toList) == (((rd_T39 l1_9 x5_2).f0).toList)) || (!((((rd_T39 l0_9 x5_2).f1).toList) == (((rd_T39 l1_9 x5_2).f1).toList)))) = true
  ·rw [if_pos c18] at H
   have c18b0 : (!((((rd_T39 l0_9 x5_2).f0).toList) == (((rd_T39 l1_9 x5_2).f0).toList)) || (!((((rd_T39 l0_9 x5_2).f1).toList) == (((rd_T39 l1_9 x5_2).f1).toList)))) = true := c18
   clear c18
   obtain rfl := Option.some.inj H
   simp only [Option.some.injEq, Prod.mk.injEq] at H
   obtain ⟨rfl⟩ := H
   have hnb19 := NB119_120.out
   have hnc19 := NB120_119.out
   have hcz20_0 : wr.cell? ⟨gb119, 0, none⟩ = some (.int .i64 a0_0) := (blk_cell BK119.out 0).trans rfl
   have hcz20_1 : wr.cell? ⟨gb119, 1, none⟩ = some (.int .i64 a0_1) := (blk_cell BK119.out 1).trans rfl
   have hcz20_2 : wr.cell? ⟨gb119, 2, none⟩ = some (.int .i64 a0_2) := (blk_cell BK119.out 2).trans rfl
   have hcz20_3 : wr.cell? ⟨gb119, 3, none⟩ = some (.int .i64 a0_3) := (blk_cell BK119.out 3).trans rfl
   have hcz20_4 : wr.cell? ⟨gb119, 4, none⟩ = some (.int .i64 a0_4) := (blk_cell BK119.out 4).trans rfl
   have hcz20_5 : wr.cell? ⟨gb119, 5, none⟩ = some (.int .i64 a0_5) := (blk_cell BK119.out 5).trans rfl
   have hcz20_6 : wr.cell? ⟨gb119, 6, none⟩ = some (.int .i64 a0_6) := (blk_cell BK119.out 6).trans rfl
   have hcz20_7 : wr.cell? ⟨gb119, 7, none⟩ = some (.string a0_7) := (blk_cell BK119.out 7).trans rfl
   have hcz20_8 : wr.cell? ⟨gb119, 8, none⟩ = some (.string a0_8) := (blk_cell BK119.out 8).trans rfl
   have hcz20_9 : wr.cell? ⟨gb119, 9, none⟩ = some (.slice A0_9 l0_9.length c0_9) := (blk_cell BK119.out 9).trans rfl
   have hcz20_10 : wr.cell? ⟨gb119, 10, none⟩ = some (.slice A0_10 l0_10.length c0_10) := (blk_cell BK119.out 10).trans rfl
   have hcz20_11 : wr.cell? ⟨gb119, 11, none⟩ = some (.int .i64 a0_11) := (blk_cell BK119.out 11).trans rfl
   have hcz20_12 : wr.cell? ⟨gb119, 12, none⟩ = some (.bool a0_12) := (blk_cell BK119.out 12).trans rfl
   have hcz20_13 : wr.cell? ⟨gb119, 13, none⟩ = some (.string a0_13) := (blk_cell BK119.out 13).trans rfl
   have hfz20_0 := blk_frozen BK119.out 0
   have hfz20_1 := blk_frozen BK119.out 1
   have hfz20_2 := blk_frozen BK119.out 2
   have hfz20_3 := blk_frozen BK119.out 3
   have hfz20_4 := blk_frozen BK119.out 4
   have hfz20_5 := blk_frozen BK119.out 5
   have hfz20_6 := blk_frozen BK119.out 6
   have hfz20_7 := blk_frozen BK119.out 7
   have hfz20_8 := blk_frozen BK119.out 8
   have hfz20_9 := blk_frozen BK119.out 9
   have hfz20_10 := blk_frozen BK119.out 10
   have hfz20_11 := blk_frozen BK119.out 11
   have hfz20_12 := blk_frozen BK119.out 12
   have hfz20_13 := blk_frozen BK119.out 13
   try go_wp2
   have n0_ := Aside0.mk (blk_drew BK119.out)
   have n1_ := Aside0.mk (blk_drew BK120.out)
   have n2_ := Aside0.mk (below_drew1 HB.out)
   clear BK119
   clear BK120
   clear HB
   have BK119 := n0_
   have BK120 := n1_
   have HB := n2_
   clear n0_ n1_ n2_
   have p122 : 0 ≤ (x5_2 : Int) := of_decide_eq_true (by first | (with_reducible assumption) | assumption)
   have q122 : x5_2 < (l0_9.length : Int) := of_decide_eq_true (by first | (with_reducible assumption) | assumption)
   obtain ⟨ad122, e122, hx122_0, hx122_1⟩ := at_T39 HR0_9.out x5_2 p122 q122
   have hw122_1 := hx122_1
   have hw122_0 := hx122_0
   cases e122
   replace hx122_0 := (HB.out.cell (World.block_lt_of_cell? w _ hx122_0)).trans hx122_0
   replace hx122_1 := (HB.out.cell (World.block_lt_of_cell? w _ hx122_1)).trans hx122_1
   replace p122 := eq_true p122
   replace q122 := eq_true q122
   have p123 : 0 ≤ (x5_2 : Int) := of_decide_eq_true (by first | (with_reducible assumption) | assumption)
   have q123 : x5_2 < (l1_9.length : Int) := of_decide_eq_true (by first | (with_reducible assumption) | assumption)
   obtain ⟨ad123, e123, hx123_0, hx123_1⟩ := at_T39 HR1_9.out x5_2 p123 q123
   have hw123_1 := hx123_1
   have hw123_0 := hx123_0
   cases e123
   replace hx123_0 := (HB.out.cell (World.block_lt_of_cell? w _ hx123_0)).trans hx123_0
   replace hx123_1 := (HB.out.cell (World.block_lt_of_cell? w _ hx123_1)).trans hx123_1
   replace p123 := eq_true p123
   replace q123 := eq_true q123
   refine start_ (n := 11) (S := fun w' => w'.cell? ⟨gb119, 0, none⟩ = some (.int .i64 a0_0) ∧ w'.cell? ⟨gb119, 1, none⟩ = some (.int .i64 a0_1) ∧ w'.cell? ⟨gb119, 2, none⟩ = some (.int .i64 a0_2) ∧ w'.cell? ⟨gb119, 3, none⟩ = some (.int .i64 a0_3) ∧ w'.cell? ⟨gb119, 4, none⟩ = some (.int .i64 a0_4) ∧ w'.cell? ⟨gb119, 5, none⟩ = some (.int .i64 a0_5) ∧ w'.cell? ⟨gb119, 6, none⟩ = some (.int .i64 a0_6) ∧ w'.cell? ⟨gb119, 7, none⟩ = some (.string a0_7) ∧ w'.cell? ⟨gb119, 8, none⟩ = some (.string a0_8) ∧ w'.cell? ⟨gb119, 9, none⟩ = some (.slice (some ad122) l0_9.length c0_9) ∧ w'.cell? ⟨gb119, 10, none⟩ = some (.slice A0_10 l0_10.length c0_10) ∧ w'.cell? ⟨gb119, 11, none⟩ = some (.int .i64 a0_11) ∧ w'.cell? ⟨gb119, 12, none⟩ = some (.bool a0_12) ∧ w'.cell? ⟨gb119, 13, none⟩ = some (.string a0_13) ∧ w'.cell? ⟨gb120, 0, none⟩ = some (.int .i64 a1_0) ∧ w'.cell? ⟨gb120, 1, none⟩ = some (.int .i64 a1_1) ∧ w'.cell? ⟨gb120, 2, none⟩ = some (.int .i64 a1_2) ∧ w'.cell? ⟨gb120, 3, none⟩ = some (.int .i64 a1_3) ∧ w'.cell? ⟨gb120, 4, none⟩ = some (.int .i64 a1_4) ∧ w'.cell? ⟨gb120, 5, none⟩ = some (.int .i64 a1_5) ∧ w'.cell? ⟨gb120, 6, none⟩ = some (.int .i64 a1_6) ∧ w'.cell? ⟨gb120, 7, none⟩ = some (.string a1_7) ∧ w'.cell? ⟨gb120, 8, none⟩ = some (.string a1_8) ∧ w'.cell? ⟨gb120, 9, none⟩ = some (.slice (some ad123) l1_9.length c1_9) ∧ w'.cell? ⟨gb120, 10, none⟩ = some (.slice A1_10 l1_10.length c1_10) ∧ w'.cell? ⟨gb120, 11, none⟩ = some (.int .i64 a1_11) ∧ w'.cell? ⟨gb120, 12, none⟩ = some (.bool a1_12) ∧ w'.cell? ⟨gb120, 13, none⟩ = some (.string a1_13) ∧ w'.cell? (ad122.add ((x5_2).toNat * 2)) = some (.string ((rd_T39 l0_9 x5_2).f0)) ∧ w'.cell? ⟨(ad122.add ((x5_2).toNat * 2)).block, (ad122.add ((x5_2).toNat * 2)).off + 1, none⟩ = some (.string ((rd_T39 l0_9 x5_2).f1)) ∧ w'.cell? (ad123.add ((x5_2).toNat * 2)) = some (.string ((rd_T39 l1_9 x5_2).f0)) ∧ w'.cell? ⟨(ad123.add ((x5_2).toNat * 2)).block, (ad123.add ((x5_2).toNat * 2)).off + 1, none⟩ = some (.string ((rd_T39 l1_9 x5_2).f1))) (ds := []) #[false, false, false, false, false, false, false, false, false, false, false] (by kernel_rfl) rfl rfl ⟨(blk_cell BK119.out 0).trans rfl, (blk_cell BK119.out 1).trans rfl, (blk_cell BK119.out 2).trans rfl, (blk_cell BK119.out 3).trans rfl, (blk_cell BK119.out 4).trans rfl, (blk_cell BK119.out 5).trans rfl, (blk_cell BK119.out 6).trans rfl, (blk_cell BK119.out 7).trans rfl, (blk_cell BK119.out 8).trans rfl, (blk_cell BK119.out 9).trans rfl, (blk_cell BK119.out 10).trans rfl, (blk_cell BK119.out 11).trans rfl, (blk_cell BK119.out 12).trans rfl, (blk_cell BK119.out 13).trans rfl, (blk_cell BK120.out 0).trans rfl, (blk_cell BK120.out 1).trans rfl, (blk_cell BK120.out 2).trans rfl, (blk_cell BK120.out 3).trans rfl, (blk_cell BK120.out 4).trans rfl, (blk_cell BK120.out 5).trans rfl, (blk_cell BK120.out 6).trans rfl, (blk_cell BK120.out 7).trans rfl, (blk_cell BK120.out 8).trans rfl, (blk_cell BK120.out 9).trans rfl, (blk_cell BK120.out 10).trans rfl, (blk_cell BK120.out 11).trans rfl, (blk_cell BK120.out 12).trans rfl, (blk_cell BK120.out 13).trans rfl, ((HB.out.cell (World.block_lt_of_cell? w _ hw122_0)).trans hw122_0), ((HB.out.cell (World.block_lt_of_cell? w _ hw122_1)).trans hw122_1), ((HB.out.cell (World.block_lt_of_cell? w _ hw123_0)).trans hw123_0), ((HB.out.cell (World.block_lt_of_cell? w _ hw123_1)).trans hw123_1)⟩ (fun hHeld => ?_); refine with_tabW shelfmarkref13_Same.tab6 shelfmarkref13_Same.bits6 (fun HT_ HW_ => ?_)
   generalize wr.drew = w21 at BK119 BK120 HB hx122_0 hx122_1 hx123_0 hx123_1 hHeld ⊢
   refine pure_ (i := 0) (N := some 31) (v := ?_) (a' := ?_) #[true, false, false, false, false, false, false, false, false, false, false] rfl rfl (any_of HT_.out (by kernel_rfl)) (fun _ _ _ h => h) (Or.inl ⟨by rfl, ?_⟩) ?_ ?_
   rotate_left
   ·intro w'
    go_simp
    with_reducible rfl
   rotate_left
   ·simp only [Act.put, sT, sZ, sS, i64_w, i32_w]
    rfl
   refine pure_ (i := 2) (N := some 33) (v := ?_) (a' := ?_) #[true, false, true, false, false, false, false, false, false, false, false] rfl rfl (any_of HT_.out (by kernel_rfl)) (fun _ _ _ h => h) (Or.inl ⟨by rfl, ?_⟩) ?_ ?_
   rotate_left
   ·intro w'
    go_simp
    with_reducible rfl
   rotate_left
   ·simp only [Act.put, sT, sZ, sS, i64_w, i32_w]
    rfl
   refine pure_ (i := 5) (N := some 36) (v := ?_) (a' := ?_) #[true, false, true, false, false, true, false, false, false, false, false] rfl rfl (any_of HT_.out (by kernel_rfl)) (fun _ _ _ h => h) (Or.inl ⟨by rfl, ?_⟩) ?_ ?_
   rotate_left
   ·intro w'
    go_simp
    with_reducible rfl
   rotate_left
   ·simp only [Act.put, sT, sZ, sS, i64_w, i32_w]
    rfl
   refine pure_ (i := 7) (N := some 38) (v := ?_) (a' := ?_) #[true, false, true, false, false, true, false, true, false, false, false] rfl rfl (any_of HT_.out (by kernel_rfl)) (fun _ _ _ h => h) (Or.inl ⟨by rfl, ?_⟩) ?_ ?_
   rotate_left
   ·intro w'
    go_simp
    with_reducible rfl
   rotate_left
   ·simp only [Act.put, sT, sZ, sS, i64_w, i32_w]
    rfl
   refine take_ (i := 1) (N := some 32) (v := ?_) (a' := ?_) #[true, true, true, false, false, true, false, true, false, false, false] rfl rfl (take_ofW HT_.out HW_.out (by kernel_rfl)) (fun _ _ _ h => h) (Or.inl ⟨by rfl, ?_⟩) hHeld ?_ ?_
   rotate_left
   ·rintro w' ⟨s0, s1, s2, s3, s4, s5, s6, s7, s8, s9, s10, s11, s12, s13, s14, s15, s16, s17, s18, s19, s20, s21, s22, s23, s24, s25, s26, s27, s28, s29, s30, s31⟩
    go_simp
    with_reducible rfl
   rotate_left
   ·simp only [Act.put, sT, sZ, sS, i64_w, i32_w]
    rfl
   refine pure_ (i := 3) (N := some 34) (v := ?_) (a' := ?_) #[true, true, true, true, false, true, false, true, false, false, false] rfl rfl (any_of HT_.out (by kernel_rfl)) (fun _ _ _ h => h) (Or.inl ⟨by rfl, ?_⟩) ?_ ?_
   rotate_left
   ·intro w'
    go_simp
    with_reducible rfl
   rotate_left
   ·simp only [Act.put, sT, sZ, sS, i64_w, i32_w]
    rfl
   refine take_ (i := 4) (N := some 35) (v := ?_) (a' := ?_) #[true, true, true, true, true, true, false, true, false, false, false] rfl rfl (take_ofW HT_.out HW_.out (by kernel_rfl)) (fun _ _ _ h => h) (Or.inl ⟨by rfl, ?_⟩) hHeld ?_ ?_
   rotate_left
   ·rintro w' ⟨s0, s1, s2, s3, s4, s5, s6, s7, s8, s9, s10, s11, s12, s13, s14, s15, s16, s17, s18, s19, s20, s21, s22, s23, s24, s25, s26, s27, s28, s29, s30, s31⟩
    go_simp
    with_reducible rfl
   rotate_left
   ·simp only [Act.put, sT, sZ, sS, i64_w, i32_w]
    rfl
   refine take_ (i := 6) (N := some 37) (v := ?_) (a' := ?_) #[true, true, true, true, true, true, true, true, false, false, false] rfl rfl (take_ofW HT_.out HW_.out (by kernel_rfl)) (fun _ _ _ h => h) (Or.inl ⟨by rfl, ?_⟩) hHeld ?_ ?_
   rotate_left
   ·rintro w' ⟨s0, s1, s2, s3, s4, s5, s6, s7, s8, s9, s10, s11, s12, s13, s14, s15, s16, s17, s18, s19, s20, s21, s22, s23, s24, s25, s26, s27, s28, s29, s30, s31⟩
    go_simp
    with_reducible rfl
   rotate_left
   ·simp only [Act.put, sT, sZ, sS, i64_w, i32_w]
    rfl
   refine pure_ (i := 8) (N := some 39) (v := ?_) (a' := ?_) #[true, true, true, true, true, true, true, true, true, false, false] rfl rfl (any_of HT_.out (by kernel_rfl)) (fun _ _ _ h => h) (Or.inl ⟨by rfl, ?_⟩) ?_ ?_
   rotate_left
   ·intro w'
    go_simp
    with_reducible rfl
   rotate_left
   ·simp only [Act.put, sT, sZ, sS, i64_w, i32_w]
    rfl
   refine take_ (i := 9) (N := some 40) (v := ?_) (a' := ?_) #[true, true, true, true, true, true, true, true, true, true, false] rfl rfl (take_ofW HT_.out HW_.out (by kernel_rfl)) (fun _ _ _ h => h) (Or.inl ⟨by rfl, ?_⟩) hHeld ?_ ?_
   rotate_left
   ·rintro w' ⟨s0, s1, s2, s3, s4, s5, s6, s7, s8, s9, s10, s11, s12, s13, s14, s15, s16, s17, s18, s19, s20, s21, s22, s23, s24, s25, s26, s27, s28, s29, s30, s31⟩
    go_simp
    with_reducible rfl
   rotate_left
   ·simp only [Act.put, sT, sZ, sS, i64_w, i32_w]
    rfl
   refine pure_ (i := 10) (N := some 41) (v := ?_) (a' := ?_) #[true, true, true, true, true, true, true, true, true, true, true] rfl rfl (any_of HT_.out (by kernel_rfl)) (fun _ _ _ h => h) (Or.inl ⟨by rfl, ?_⟩) ?_ ?_
   rotate_left
   ·intro w'
    go_simp
    with_reducible rfl
   rotate_left
   ·simp only [Act.put, sT, sZ, sS, i64_w, i32_w]
    rfl
   refine done_ (done_of HT_.out (by kernel_rfl)) ?_
   try go_wp2
   go_ret
   exact ⟨by first | rfl | (simp [errW_none, errW_some] <;> rfl) | (simp [*, errW_none, errW_some] <;> rfl), hL HB.out⟩
  rw [if_neg c18] at H
  have c18b0 : (!((((rd_T39 l0_9 x5_2).f0).toList) == (((rd_T39 l1_9 x5_2).f0).toList)) || (!((((rd_T39 l0_9 x5_2).f1).toList) == (((rd_T39 l1_9 x5_2).f1).toList)))) = false := by simpa using c18
  clear c18
  have H' := Aside0.mk H
  clear H
  have hnb22 := NB119_120.out
  have hnc22 := NB120_119.out
  have hcz23_0 : wr.cell? ⟨gb119, 0, none⟩ = some (.int .i64 a0_0) := (blk_cell BK119.out 0).trans rfl
  have hcz23_1 : wr.cell? ⟨gb119, 1, none⟩ = some (.int .i64 a0_1) := (blk_cell BK119.out 1).trans rfl
  have hcz23_2 : wr.cell? ⟨gb119, 2, none⟩ = some (.int .i64 a0_2) := (blk_cell BK119.out 2).trans rfl
  have hcz23_3 : wr.cell? ⟨gb119, 3, none⟩ = some (.int .i64 a0_3) := (blk_cell BK119.out 3).trans rfl
  have hcz23_4 : wr.cell? ⟨gb119, 4, none⟩ = some (.int .i64 a0_4) := (blk_cell BK119.out 4).trans rfl
  have hcz23_5 : wr.cell? ⟨gb119, 5, none⟩ = some (.int .i64 a0_5) := (blk_cell BK119.out 5).trans rfl
  have hcz23_6 : wr.cell? ⟨gb119, 6, none⟩ = some (.int .i64 a0_6) := (blk_cell BK119.out 6).trans rfl
  have hcz23_7 : wr.cell? ⟨gb119, 7, none⟩ = some (.string a0_7) := (blk_cell BK119.out 7).trans rfl
  have hcz23_8 : wr.cell? ⟨gb119, 8, none⟩ = some (.string a0_8) := (blk_cell BK119.out 8).trans rfl
  have hcz23_9 : wr.cell? ⟨gb119, 9, none⟩ = some (.slice A0_9 l0_9.length c0_9) := (blk_cell BK119.out 9).trans rfl
  have hcz23_10 : wr.cell? ⟨gb119, 10, none⟩ = some (.slice A0_10 l0_10.length c0_10) := (blk_cell BK119.out 10).trans rfl
  have hcz23_11 : wr.cell? ⟨gb119, 11, none⟩ = some (.int .i64 a0_11) := (blk_cell BK119.out 11).trans rfl
  have hcz23_12 : wr.cell? ⟨gb119, 12, none⟩ = some (.bool a0_12) := (blk_cell BK119.out 12).trans rfl
  have hcz23_13 : wr.cell? ⟨gb119, 13, none⟩ = some (.string a0_13) := (blk_cell BK119.out 13).trans rfl
  have hfz23_0 := blk_frozen BK119.out 0
  have hfz23_1 := blk_frozen BK119.out 1
  have hfz23_2 := blk_frozen BK119.out 2
  have hfz23_3 := blk_frozen BK119.out 3
  have hfz23_4 := blk_frozen BK119.out 4
  have hfz23_5 := blk_frozen BK119.out 5
  have hfz23_6 := blk_frozen BK119.out 6
  have hfz23_7 := blk_frozen BK119.out 7
  have hfz23_8 := blk_frozen BK119.out 8
  have hfz23_9 := blk_frozen BK119.out 9
  have hfz23_10 := blk_frozen BK119.out 10
  have hfz23_11 := blk_frozen BK119.out 11
  have hfz23_12 := blk_frozen BK119.out 12
  have hfz23_13 := blk_frozen BK119.out 13
  try go_wp2
  have n0_ := Aside0.mk (blk_drew BK119.out)
  have n1_ := Aside0.mk (blk_drew BK120.out)
  have n2_ := Aside0.mk (below_drew1 HB.out)
  clear BK119
  clear BK120
  clear HB
  have BK119 := n0_
  have BK120 := n1_
  have HB := n2_
  clear n0_ n1_ n2_
  have p122 : 0 ≤ (x5_2 : Int) := of_decide_eq_true (by first | (with_reducible assumption) | assumption)
  have q122 : x5_2 < (l0_9.length : Int) := of_decide_eq_true (by first | (with_reducible assumption) | assumption)
  obtain ⟨ad122, e122, hx122_0, hx122_1⟩ := at_T39 HR0_9.out x5_2 p122 q122
  have hw122_1 := hx122_1
  have hw122_0 := hx122_0
  cases e122
  replace hx122_0 := (HB.out.cell (World.block_lt_of_cell? w _ hx122_0)).trans hx122_0
  replace hx122_1 := (HB.out.cell (World.block_lt_of_cell? w _ hx122_1)).trans hx122_1
  replace p122 := eq_true p122
  replace q122 := eq_true q122
  have p123 : 0 ≤ (x5_2 : Int) := of_decide_eq_true (by first | (with_reducible assumption) | assumption)
  have q123 : x5_2 < (l1_9.length : Int) := of_decide_eq_true (by first | (with_reducible assumption) | assumption)
  obtain ⟨ad123, e123, hx123_0, hx123_1⟩ := at_T39 HR1_9.out x5_2 p123 q123
  have hw123_1 := hx123_1
  have hw123_0 := hx123_0
  cases e123
  replace hx123_0 := (HB.out.cell (World.block_lt_of_cell? w _ hx123_0)).trans hx123_0
  replace hx123_1 := (HB.out.cell (World.block_lt_of_cell? w _ hx123_1)).trans hx123_1
  replace p123 := eq_true p123
  replace q123 := eq_true q123
  refine start_ (n := 11) (S := fun w' => w'.cell? ⟨gb119, 0, none⟩ = some (.int .i64 a0_0) ∧ w'.cell? ⟨gb119, 1, none⟩ = some (.int .i64 a0_1) ∧ w'.cell? ⟨gb119, 2, none⟩ = some (.int .i64 a0_2) ∧ w'.cell? ⟨gb119, 3, none⟩ = some (.int .i64 a0_3) ∧ w'.cell? ⟨gb119, 4, none⟩ = some (.int .i64 a0_4) ∧ w'.cell? ⟨gb119, 5, none⟩ = some (.int .i64 a0_5) ∧ w'.cell? ⟨gb119, 6, none⟩ = some (.int .i64 a0_6) ∧ w'.cell? ⟨gb119, 7, none⟩ = some (.string a0_7) ∧ w'.cell? ⟨gb119, 8, none⟩ = some (.string a0_8) ∧ w'.cell? ⟨gb119, 9, none⟩ = some (.slice (some ad122) l0_9.length c0_9) ∧ w'.cell? ⟨gb119, 10, none⟩ = some (.slice A0_10 l0_10.length c0_10) ∧ w'.cell? ⟨gb119, 11, none⟩ = some (.int .i64 a0_11) ∧ w'.cell? ⟨gb119, 12, none⟩ = some (.bool a0_12) ∧ w'.cell? ⟨gb119, 13, none⟩ = some (.string a0_13) ∧ w'.cell? ⟨gb120, 0, none⟩ = some (.int .i64 a1_0) ∧ w'.cell? ⟨gb120, 1, none⟩ = some (.int .i64 a1_1) ∧ w'.cell? ⟨gb120, 2, none⟩ = some (.int .i64 a1_2) ∧ w'.cell? ⟨gb120, 3, none⟩ = some (.int .i64 a1_3) ∧ w'.cell? ⟨gb120, 4, none⟩ = some (.int .i64 a1_4) ∧ w'.cell? ⟨gb120, 5, none⟩ = some (.int .i64 a1_5) ∧ w'.cell? ⟨gb120, 6, none⟩ = some (.int .i64 a1_6) ∧ w'.cell? ⟨gb120, 7, none⟩ = some (.string a1_7) ∧ w'.cell? ⟨gb120, 8, none⟩ = some (.string a1_8) ∧ w'.cell? ⟨gb120, 9, none⟩ = some (.slice (some ad123) l1_9.length c1_9) ∧ w'.cell? ⟨gb120, 10, none⟩ = some (.slice A1_10 l1_10.length c1_10) ∧ w'.cell? ⟨gb120, 11, none⟩ = some (.int .i64 a1_11) ∧ w'.cell? ⟨gb120, 12, none⟩ = some (.bool a1_12) ∧ w'.cell? ⟨gb120, 13, none⟩ = some (.string a1_13) ∧ w'.cell? (ad122.add ((x5_2).toNat * 2)) = some (.string ((rd_T39 l0_9 x5_2).f0)) ∧ w'.cell? ⟨(ad122.add ((x5_2).toNat * 2)).block, (ad122.add ((x5_2).toNat * 2)).off + 1, none⟩ = some (.string ((rd_T39 l0_9 x5_2).f1)) ∧ w'.cell? (ad123.add ((x5_2).toNat * 2)) = some (.string ((rd_T39 l1_9 x5_2).f0)) ∧ w'.cell? ⟨(ad123.add ((x5_2).toNat * 2)).block, (ad123.add ((x5_2).toNat * 2)).off + 1, none⟩ = some (.string ((rd_T39 l1_9 x5_2).f1))) (ds := []) #[false, false, false, false, false, false, false, false, false, false, false] (by kernel_rfl) rfl rfl ⟨(blk_cell BK119.out 0).trans rfl, (blk_cell BK119.out 1).trans rfl, (blk_cell BK119.out 2).trans rfl, (blk_cell BK119.out 3).trans rfl, (blk_cell BK119.out 4).trans rfl, (blk_cell BK119.out 5).trans rfl, (blk_cell BK119.out 6).trans rfl, (blk_cell BK119.out 7).trans rfl, (blk_cell BK119.out 8).trans rfl, (blk_cell BK119.out 9).trans rfl, (blk_cell BK119.out 10).trans rfl, (blk_cell BK119.out 11).trans rfl, (blk_cell BK119.out 12).trans rfl, (blk_cell BK119.out 13).trans rfl, (blk_cell BK120.out 0).trans rfl, (blk_cell BK120.out 1).trans rfl, (blk_cell BK120.out 2).trans rfl, (blk_cell BK120.out 3).trans rfl, (blk_cell BK120.out 4).trans rfl, (blk_cell BK120.out 5).trans rfl, (blk_cell BK120.out 6).trans rfl, (blk_cell BK120.out 7).trans rfl, (blk_cell BK120.out 8).trans rfl, (blk_cell BK120.out 9).trans rfl, (blk_cell BK120.out 10).trans rfl, (blk_cell BK120.out 11).trans rfl, (blk_cell BK120.out 12).trans rfl, (blk_cell BK120.out 13).trans rfl, ((HB.out.cell (World.block_lt_of_cell? w _ hw122_0)).trans hw122_0), ((HB.out.cell (World.block_lt_of_cell? w _ hw122_1)).trans hw122_1), ((HB.out.cell (World.block_lt_of_cell? w _ hw123_0)).trans hw123_0), ((HB.out.cell (World.block_lt_of_cell? w _ hw123_1)).trans hw123_1)⟩ (fun hHeld => ?_); refine with_tabW shelfmarkref13_Same.tab6 shelfmarkref13_Same.bits6 (fun HT_ HW_ => ?_)
  generalize wr.drew = w24 at BK119 BK120 HB hx122_0 hx122_1 hx123_0 hx123_1 hHeld ⊢
  refine pure_ (i := 0) (N := some 31) (v := ?_) (a' := ?_) #[true, false, false, false, false, false, false, false, false, false, false] rfl rfl (any_of HT_.out (by kernel_rfl)) (fun _ _ _ h => h) (Or.inl ⟨by rfl, ?_⟩) ?_ ?_
  rotate_left
  ·intro w'
   go_simp
   with_reducible rfl
  rotate_left
  ·simp only [Act.put, sT, sZ, sS, i64_w, i32_w]
   rfl
  refine pure_ (i := 2) (N := some 33) (v := ?_) (a' := ?_) #[true, false, true, false, false, false, false, false, false, false, false] rfl rfl (any_of HT_.out (by kernel_rfl)) (fun _ _ _ h => h) (Or.inl ⟨by rfl, ?_⟩) ?_ ?_
  rotate_left
  ·intro w'
   go_simp
   with_reducible rfl
  rotate_left
  ·simp only [Act.put, sT, sZ, sS, i64_w, i32_w]
   rfl
  refine pure_ (i := 5) (N := some 36) (v := ?_) (a' := ?_) #[true, false, true, false, false, true, false, false, false, false, false] rfl rfl (any_of HT_.out (by kernel_rfl)) (fun _ _ _ h => h) (Or.inl ⟨by rfl, ?_⟩) ?_ ?_
  rotate_left
  ·intro w'
   go_simp
   with_reducible rfl
  rotate_left
  ·simp only [Act.put, sT, sZ, sS, i64_w, i32_w]
   rfl
  refine pure_ (i := 7) (N := some 38) (v := ?_) (a' := ?_) #[true, false, true, false, false, true, false, true, false, false, false] rfl rfl (any_of HT_.out (by kernel_rfl)) (fun _ _ _ h => h) (Or.inl ⟨by rfl, ?_⟩) ?_ ?_
  rotate_left
  ·intro w'
   go_simp
   with_reducible rfl
  rotate_left
  ·simp only [Act.put, sT, sZ, sS, i64_w, i32_w]
   rfl
  refine take_ (i := 1) (N := some 32) (v := ?_) (a' := ?_) #[true, true, true, false, false, true, false, true, false, false, false] rfl rfl (take_ofW HT_.out HW_.out (by kernel_rfl)) (fun _ _ _ h => h) (Or.inl ⟨by rfl, ?_⟩) hHeld ?_ ?_
  rotate_left
  ·rintro w' ⟨s0, s1, s2, s3, s4, s5, s6, s7, s8, s9, s10, s11, s12, s13, s14, s15, s16, s17, s18, s19, s20, s21, s22, s23, s24, s25, s26, s27, s28, s29, s30, s31⟩
   go_simp
   with_reducible rfl
  rotate_left
  ·simp only [Act.put, sT, sZ, sS, i64_w, i32_w]
   rfl
  refine pure_ (i := 3) (N := some 34) (v := ?_) (a' := ?_) #[true, true, true, true, false, true, false, true, false, false, false] rfl rfl (any_of HT_.out (by kernel_rfl)) (fun _ _ _ h => h) (Or.inl ⟨by rfl, ?_⟩) ?_ ?_
  rotate_left
  ·intro w'
   go_simp
   with_reducible rfl
  rotate_left
  ·simp only [Act.put, sT, sZ, sS, i64_w, i32_w]
   rfl
  refine take_ (i := 4) (N := some 35) (v := ?_) (a' := ?_) #[true, true, true, true, true, true, false, true, false, false, false] rfl rfl (take_ofW HT_.out HW_.out (by kernel_rfl)) (fun _ _ _ h => h) (Or.inl ⟨by rfl, ?_⟩) hHeld ?_ ?_
  rotate_left
  ·rintro w' ⟨s0, s1, s2, s3, s4, s5, s6, s7, s8, s9, s10, s11, s12, s13, s14, s15, s16, s17, s18, s19, s20, s21, s22, s23, s24, s25, s26, s27, s28, s29, s30, s31⟩
   go_simp
   with_reducible rfl
  rotate_left
  ·simp only [Act.put, sT, sZ, sS, i64_w, i32_w]
   rfl
  refine take_ (i := 6) (N := some 37) (v := ?_) (a' := ?_) #[true, true, true, true, true, true, true, true, false, false, false] rfl rfl (take_ofW HT_.out HW_.out (by kernel_rfl)) (fun _ _ _ h => h) (Or.inl ⟨by rfl, ?_⟩) hHeld ?_ ?_
  rotate_left
  ·rintro w' ⟨s0, s1, s2, s3, s4, s5, s6, s7, s8, s9, s10, s11, s12, s13, s14, s15, s16, s17, s18, s19, s20, s21, s22, s23, s24, s25, s26, s27, s28, s29, s30, s31⟩
   go_simp
   with_reducible rfl
  rotate_left
  ·simp only [Act.put, sT, sZ, sS, i64_w, i32_w]
   rfl
  refine pure_ (i := 8) (N := some 39) (v := ?_) (a' := ?_) #[true, true, true, true, true, true, true, true, true, false, false] rfl rfl (any_of HT_.out (by kernel_rfl)) (fun _ _ _ h => h) (Or.inl ⟨by rfl, ?_⟩) ?_ ?_
  rotate_left
  ·intro w'
   go_simp
   with_reducible rfl
  rotate_left
  ·simp only [Act.put, sT, sZ, sS, i64_w, i32_w]
   rfl
  refine take_ (i := 9) (N := some 40) (v := ?_) (a' := ?_) #[true, true, true, true, true, true, true, true, true, true, false] rfl rfl (take_ofW HT_.out HW_.out (by kernel_rfl)) (fun _ _ _ h => h) (Or.inl ⟨by rfl, ?_⟩) hHeld ?_ ?_
  rotate_left
  ·rintro w' ⟨s0, s1, s2, s3, s4, s5, s6, s7, s8, s9, s10, s11, s12, s13, s14, s15, s16, s17, s18, s19, s20, s21, s22, s23, s24, s25, s26, s27, s28, s29, s30, s31⟩
   go_simp
   with_reducible rfl
  rotate_left
  ·simp only [Act.put, sT, sZ, sS, i64_w, i32_w]
   rfl
  refine pure_ (i := 10) (N := some 41) (v := ?_) (a' := ?_) #[true, true, true, true, true, true, true, true, true, true, true] rfl rfl (any_of HT_.out (by kernel_rfl)) (fun _ _ _ h => h) (Or.inl ⟨by rfl, ?_⟩) ?_ ?_
  rotate_left
  ·intro w'
   go_simp
   with_reducible rfl
  rotate_left
  ·simp only [Act.put, sT, sZ, sS, i64_w, i32_w]
   rfl
  refine done_ (done_of HT_.out (by kernel_rfl)) ?_
  try go_wp2
  go_roundg k2
  case measure => have := HJ2.out; have := HK2.out; omega
  case rel => exact ⟨(wrap64 (x5_2 + 1)), (by first | rfl | (simp; done) | (simp [*]; done) | (simp [ne_nil_bytes]; done) | (simp [eq_nil_bytes]; done)), H', ⟨by have := HJ2.out; have := HK2.out; omega⟩, ⟨by exact bL BK119.out⟩, ⟨by exact bL BK120.out⟩, ⟨hL HB.out⟩⟩
 rw [if_neg c15] at H
 have c15b0 : decide (x5_2 < (l0_9.length : Int)) = false := decide_eq_false c15
 clear c15
 replace H := Option.bind_eq_some_iff.mp H
 obtain ⟨t124, A250, H⟩ := H
 replace H : ((shelfmarkref13_numbers.f a1_0 a1_1 a1_2 a1_3 a1_4 a1_5 a1_6 a1_7 a1_8 l1_9 l1_10 a1_11 a1_12 a1_13).bind fun t127 => (shelfmarkref13_Same.l1 k2 t124 t127 0 a0_0 a0_1 a0_2 a0_3 a0_4 a0_5 a0_6 a0_7 a0_8 l0_9 l0_10 a0_11 a0_12 a0_13 a1_0 a1_1 a1_2 a1_3 a1_4 a1_5 a1_6 a1_7 a1_8 l1_9 l1_10 a1_11 a1_12 a1_13)) = some r := H
 have A25 := Aside0.mk A250
 clear A250
 replace H := Option.bind_eq_some_iff.mp H
 obtain ⟨t127, A260, H⟩ := H
 replace H : (shelfmarkref13_Same.l1 k2 t124 t127 0 a0_0 a0_1 a0_2 a0_3 a0_4 a0_5 a0_6 a0_7 a0_8 l0_9 l0_10 a0_11 a0_12 a0_13 a1_0 a1_1 a1_2 a1_3 a1_4 a1_5 a1_6 a1_7 a1_8 l1_9 l1_10 a1_11 a1_12 a1_13) = some r := H
 have A26 := Aside0.mk A260
 clear A260
 have H' := Aside0.mk H
 clear H
 have hnb27 := NB119_120.out
 have hnc27 := NB120_119.out
 have hcz28_0 : wr.cell? ⟨gb119, 0, none⟩ = some (.int .i64 a0_0) := (blk_cell BK119.out 0).trans rfl
 have hcz28_1 : wr.cell? ⟨gb119, 1, none⟩ = some (.int .i64 a0_1) := (blk_cell BK119.out 1).trans rfl
 have hcz28_2 : wr.cell? ⟨gb119, 2, none⟩ = some (.int .i64 a0_2) := (blk_cell BK119.out 2).trans rfl
 have hcz28_3 : wr.cell? ⟨gb119, 3, none⟩ = some (.int .i64 a0_3) := (blk_cell BK119.out 3).trans rfl
 have hcz28_4 : wr.cell? ⟨gb119, 4, none⟩ = some (.int .i64 a0_4) := (blk_cell BK119.out 4).trans rfl
 have hcz28_5 : wr.cell? ⟨gb119, 5, none⟩ = some (.int .i64 a0_5) := (blk_cell BK119.out 5).trans rfl
 have hcz28_6 : wr.cell? ⟨gb119, 6, none⟩ = some (.int .i64 a0_6) := (blk_cell BK119.out 6).trans rfl
 have hcz28_7 : wr.cell? ⟨gb119, 7, none⟩ = some (.string a0_7) := (blk_cell BK119.out 7).trans rfl
 have hcz28_8 : wr.cell? ⟨gb119, 8, none⟩ = some (.string a0_8) := (blk_cell BK119.out 8).trans rfl
 have hcz28_9 : wr.cell? ⟨gb119, 9, none⟩ = some (.slice A0_9 l0_9.length c0_9) := (blk_cell BK119.out 9).trans rfl
 have hcz28_10 : wr.cell? ⟨gb119, 10, none⟩ = some (.slice A0_10 l0_10.length c0_10) := (blk_cell BK119.out 10).trans rfl
 have hcz28_11 : wr.cell? ⟨gb119, 11, none⟩ = some (.int .i64 a0_11) := (blk_cell BK119.out 11).trans rfl
 have hcz28_12 : wr.cell? ⟨gb119, 12, none⟩ = some (.bool a0_12) := (blk_cell BK119.out 12).trans rfl
 have hcz28_13 : wr.cell? ⟨gb119, 13, none⟩ = some (.string a0_13) := (blk_cell BK119.out 13).trans rfl
 have hfz28_0 := blk_frozen BK119.out 0
 have hfz28_1 := blk_frozen BK119.out 1
 have hfz28_2 := blk_frozen BK119.out 2
 have hfz28_3 := blk_frozen BK119.out 3
 have hfz28_4 := blk_frozen BK119.out 4
 have hfz28_5 := blk_frozen BK119.out 5
 have hfz28_6 := blk_frozen BK119.out 6
 have hfz28_7 := blk_frozen BK119.out 7
 have hfz28_8 := blk_frozen BK119.out 8
 have hfz28_9 := blk_frozen BK119.out 9
 have hfz28_10 := blk_frozen BK119.out 10
 have hfz28_11 := blk_frozen BK119.out 11
 have hfz28_12 := blk_frozen BK119.out 12
 have hfz28_13 := blk_frozen BK119.out 13
 try go_wp2
 have n0_ := Aside0.mk (blk_drew BK119.out)
 have n1_ := Aside0.mk (blk_drew BK120.out)
 have n2_ := Aside0.mk (below_drew1 HB.out)
 clear BK119
 clear BK120
 clear HB
 have BK119 := n0_
 have BK120 := n1_
 have HB := n2_
 clear n0_ n1_ n2_
 refine start_ (n := 6) (S := fun w' => w'.cell? ⟨gb119, 0, none⟩ = some (.int .i64 a0_0) ∧ w'.cell? ⟨gb119, 1, none⟩ = some (.int .i64 a0_1) ∧ w'.cell? ⟨gb119, 2, none⟩ = some (.int .i64 a0_2) ∧ w'.cell? ⟨gb119, 3, none⟩ = some (.int .i64 a0_3) ∧ w'.cell? ⟨gb119, 4, none⟩ = some (.int .i64 a0_4) ∧ w'.cell? ⟨gb119, 5, none⟩ = some (.int .i64 a0_5) ∧ w'.cell? ⟨gb119, 6, none⟩ = some (.int .i64 a0_6) ∧ w'.cell? ⟨gb119, 7, none⟩ = some (.string a0_7) ∧ w'.cell? ⟨gb119, 8, none⟩ = some (.string a0_8) ∧ w'.cell? ⟨gb119, 9, none⟩ = some (.slice A0_9 l0_9.length c0_9) ∧ w'.cell? ⟨gb119, 10, none⟩ = some (.slice A0_10 l0_10.length c0_10) ∧ w'.cell? ⟨gb119, 11, none⟩ = some (.int .i64 a0_11) ∧ w'.cell? ⟨gb119, 12, none⟩ = some (.bool a0_12) ∧ w'.cell? ⟨gb119, 13, none⟩ = some (.string a0_13) ∧ w'.cell? ⟨gb120, 0, none⟩ = some (.int .i64 a1_0) ∧ w'.cell? ⟨gb120, 1, none⟩ = some (.int .i64 a1_1) ∧ w'.cell? ⟨gb120, 2, none⟩ = some (.int .i64 a1_2) ∧ w'.cell? ⟨gb120, 3, none⟩ = some (.int .i64 a1_3) ∧ w'.cell? ⟨gb120, 4, none⟩ = some (.int .i64 a1_4) ∧ w'.cell? ⟨gb120, 5, none⟩ = some (.int .i64 a1_5) ∧ w'.cell? ⟨gb120, 6, none⟩ = some (.int .i64 a1_6) ∧ w'.cell? ⟨gb120, 7, none⟩ = some (.string a1_7) ∧ w'.cell? ⟨gb120, 8, none⟩ = some (.string a1_8) ∧ w'.cell? ⟨gb120, 9, none⟩ = some (.slice A1_9 l1_9.length c1_9) ∧ w'.cell? ⟨gb120, 10, none⟩ = some (.slice A1_10 l1_10.length c1_10) ∧ w'.cell? ⟨gb120, 11, none⟩ = some (.int .i64 a1_11) ∧ w'.cell? ⟨gb120, 12, none⟩ = some (.bool a1_12) ∧ w'.cell? ⟨gb120, 13, none⟩ = some (.string a1_13)) (ds := []) #[false, false, false, false, false, false] (by kernel_rfl) rfl rfl ⟨(blk_cell BK119.out 0).trans rfl, (blk_cell BK119.out 1).trans rfl, (blk_cell BK119.out 2).trans rfl, (blk_cell BK119.out 3).trans rfl, (blk_cell BK119.out 4).trans rfl, (blk_cell BK119.out 5).trans rfl, (blk_cell BK119.out 6).trans rfl, (blk_cell BK119.out 7).trans rfl, (blk_cell BK119.out 8).trans rfl, (blk_cell BK119.out 9).trans rfl, (blk_cell BK119.out 10).trans rfl, (blk_cell BK119.out 11).trans rfl, (blk_cell BK119.out 12).trans rfl, (blk_cell BK119.out 13).trans rfl, (blk_cell BK120.out 0).trans rfl, (blk_cell BK120.out 1).trans rfl, (blk_cell BK120.out 2).trans rfl, (blk_cell BK120.out 3).trans rfl, (blk_cell BK120.out 4).trans rfl, (blk_cell BK120.out 5).trans rfl, (blk_cell BK120.out 6).trans rfl, (blk_cell BK120.out 7).trans rfl, (blk_cell BK120.out 8).trans rfl, (blk_cell BK120.out 9).trans rfl, (blk_cell BK120.out 10).trans rfl, (blk_cell BK120.out 11).trans rfl, (blk_cell BK120.out 12).trans rfl, (blk_cell BK120.out 13).trans rfl⟩ (fun hHeld => ?_)
 generalize wr.drew = w29 at BK119 BK120 HB hHeld ⊢
 refine take_ (i := 0) (N := some 42) (v := ?_) (a' := ?_) #[true, false, false, false, false, false] rfl rfl (by kernel_rfl) (fun _ _ _ h => h) (Or.inl ⟨by rfl, ?_⟩) hHeld ?_ ?_
 rotate_left
 ·rintro w' ⟨s0, s1, s2, s3, s4, s5, s6, s7, s8, s9, s10, s11, s12, s13, s14, s15, s16, s17, s18, s19, s20, s21, s22, s23, s24, s25, s26, s27⟩
  go_simp
  with_reducible rfl
 rotate_left
 ·simp only [Act.put, sT, sZ, sS, i64_w, i32_w]
  rfl
 refine take_ (i := 2) (N := some 44) (v := ?_) (a' := ?_) #[true, false, true, false, false, false] rfl rfl (by kernel_rfl) (fun _ _ _ h => h) (Or.inl ⟨by rfl, ?_⟩) hHeld ?_ ?_
 rotate_left
 ·rintro w' ⟨s0, s1, s2, s3, s4, s5, s6, s7, s8, s9, s10, s11, s12, s13, s14, s15, s16, s17, s18, s19, s20, s21, s22, s23, s24, s25, s26, s27⟩
  go_simp
  with_reducible rfl
 rotate_left
 ·simp only [Act.put, sT, sZ, sS, i64_w, i32_w]
  rfl
 refine one_ (i := 1) (N := some 43) #[true, true, true, false, false, false] rfl rfl (by kernel_rfl) (by decide) (fun K hK => ?_)
 refine goes_ Try.func28 (by kernel_rfl) rfl #[.agg #[.int .i64 a0_0, .int .i64 a0_1, .int .i64 a0_2, .int .i64 a0_3, .int .i64 a0_4, .int .i64 a0_5, .int .i64 a0_6, .string a0_7, .string a0_8, .slice A0_9 l0_9.length c0_9, .slice A0_10 l0_10.length c0_10, .int .i64 a0_11, .bool a0_12, .string a0_13]] (by rfl) rfl rfl (by (try simp only [List.map_toArray, List.map_cons, List.map_nil]); first | done | rfl | (simp only [List.length_drop, List.length_take]; rfl)) ?_
 with_reducible refine (shelfmarkref13_numbers.calls a0_0 a0_1 a0_2 a0_3 a0_4 a0_5 a0_6 a0_7 a0_8 _ _ l0_9 _ _ l0_10 a0_11 a0_12 a0_13 t124 _ ?side1 ?side2 ?side3 ?side4 A25.out).mono ?_
 (case side1 => repeat (first | exact (Kd.C_below HR0_9.out HB.out) | (with_reducible refine Kd.C_alloc ?_ _) | (with_reducible refine Kd.C_drewN ?_ _) | (with_reducible refine Kd.C_drew ?_)))
 (case side2 => exact HC0_9.out)
 (case side3 => repeat (first | exact (Kd.C_below HR0_10.out HB.out) | (with_reducible refine Kd.C_alloc ?_ _) | (with_reducible refine Kd.C_drewN ?_ _) | (with_reducible refine Kd.C_drew ?_)))
 (case side4 => exact HC0_10.out)
 rintro e w30 ⟨v125, rfl, ho0, hb⟩
 refine ⟨_, rfl, ?_⟩
 have n0_ := Aside0.mk (Kd.R_lower ho0 (below_size (hL HB.out)))
 have n1_ := Aside0.mk (blk_below (bL BK119.out) hb)
 have n2_ := Aside0.mk (blk_below (bL BK120.out) hb)
 have n3_ := Aside0.mk (below_step (hL HB.out) hb)
 clear BK119
 clear BK120
 clear HB
 have HO126 := n0_
 have BK119 := n1_
 have BK120 := n2_
 have HB := n3_
 clear n0_ n1_ n2_ n3_
 (try clear hb)
 (try clear hb2)
 (try clear hk)
 (try clear hi)
 (try clear ho0)
 refine hK.out _ _ ⟨(blk_cell BK119.out 0).trans rfl, (blk_cell BK119.out 1).trans rfl, (blk_cell BK119.out 2).trans rfl, (blk_cell BK119.out 3).trans rfl, (blk_cell BK119.out 4).trans rfl, (blk_cell BK119.out 5).trans rfl, (blk_cell BK119.out 6).trans rfl, (blk_cell BK119.out 7).trans rfl, (blk_cell BK119.out 8).trans rfl, (blk_cell BK119.out 9).trans rfl, (blk_cell BK119.out 10).trans rfl, (blk_cell BK119.out 11).trans rfl, (blk_cell BK119.out 12).trans rfl, (blk_cell BK119.out 13).trans rfl, (blk_cell BK120.out 0).trans rfl, (blk_cell BK120.out 1).trans rfl, (blk_cell BK120.out 2).trans rfl, (blk_cell BK120.out 3).trans rfl, (blk_cell BK120.out 4).trans rfl, (blk_cell BK120.out 5).trans rfl, (blk_cell BK120.out 6).trans rfl, (blk_cell BK120.out 7).trans rfl, (blk_cell BK120.out 8).trans rfl, (blk_cell BK120.out 9).trans rfl, (blk_cell BK120.out 10).trans rfl, (blk_cell BK120.out 11).trans rfl, (blk_cell BK120.out 12).trans rfl, (blk_cell BK120.out 13).trans rfl⟩ (fun hHeld => ?_)
 clear hK K
 refine norm_ (a' := ?_) ?_ ?_
 rotate_left
 ·show Act.put _ (some 43) _ = _
  simp only [Act.put, sT, sZ, sS, i64_w, i32_w]
  rfl
 refine one_ (i := 3) (N := some 45) #[true, true, true, true, false, false] rfl rfl (by kernel_rfl) (by decide) (fun K hK => ?_)
 refine goes_ Try.func28 (by kernel_rfl) rfl #[.agg #[.int .i64 a1_0, .int .i64 a1_1, .int .i64 a1_2, .int .i64 a1_3, .int .i64 a1_4, .int .i64 a1_5, .int .i64 a1_6, .string a1_7, .string a1_8, .slice A1_9 l1_9.length c1_9, .slice A1_10 l1_10.length c1_10, .int .i64 a1_11, .bool a1_12, .string a1_13]] (by rfl) rfl rfl (by (try simp only [List.map_toArray, List.map_cons, List.map_nil]); first | done | rfl | (simp only [List.length_drop, List.length_take]; rfl)) ?_
 with_reducible refine (shelfmarkref13_numbers.calls a1_0 a1_1 a1_2 a1_3 a1_4 a1_5 a1_6 a1_7 a1_8 _ _ l1_9 _ _ l1_10 a1_11 a1_12 a1_13 t127 _ ?side1 ?side2 ?side3 ?side4 A26.out).mono ?_
 (case side1 => repeat (first | exact (Kd.C_below HR1_9.out HB.out) | (with_reducible refine Kd.C_alloc ?_ _) | (with_reducible refine Kd.C_drewN ?_ _) | (with_reducible refine Kd.C_drew ?_)))
 (case side2 => exact HC1_9.out)
 (case side3 => repeat (first | exact (Kd.C_below HR1_10.out HB.out) | (with_reducible refine Kd.C_alloc ?_ _) | (with_reducible refine Kd.C_drewN ?_ _) | (with_reducible refine Kd.C_drew ?_)))
 (case side4 => exact HC1_10.out)
 rintro e w31 ⟨v128, rfl, ho0, hb⟩
 refine ⟨_, rfl, ?_⟩
 have n0_ := Aside0.mk (Kd.R_elder' (rL HO126.out) (Kd.R_base ho0) hb)
 have n1_ := Aside0.mk (Kd.R_lower (Kd.R_new' ho0 (Kd.R_lt (rL HO126.out))) (below_size (hL HB.out)))
 have n2_ := Aside0.mk (blk_below (bL BK119.out) hb)
 have n3_ := Aside0.mk (blk_below (bL BK120.out) hb)
 have n4_ := Aside0.mk (below_step (hL HB.out) hb)
 clear HO126
 clear BK119
 clear BK120
 clear HB
 have HO126 := n0_
 have HO129 := n1_
 have BK119 := n2_
 have BK120 := n3_
 have HB := n4_
 clear n0_ n1_ n2_ n3_ n4_
 (try clear hb)
 (try clear hb2)
 (try clear hk)
 (try clear hi)
 (try clear ho0)
 refine hK.out _ _ ⟨(blk_cell BK119.out 0).trans rfl, (blk_cell BK119.out 1).trans rfl, (blk_cell BK119.out 2).trans rfl, (blk_cell BK119.out 3).trans rfl, (blk_cell BK119.out 4).trans rfl, (blk_cell BK119.out 5).trans rfl, (blk_cell BK119.out 6).trans rfl, (blk_cell BK119.out 7).trans rfl, (blk_cell BK119.out 8).trans rfl, (blk_cell BK119.out 9).trans rfl, (blk_cell BK119.out 10).trans rfl, (blk_cell BK119.out 11).trans rfl, (blk_cell BK119.out 12).trans rfl, (blk_cell BK119.out 13).trans rfl, (blk_cell BK120.out 0).trans rfl, (blk_cell BK120.out 1).trans rfl, (blk_cell BK120.out 2).trans rfl, (blk_cell BK120.out 3).trans rfl, (blk_cell BK120.out 4).trans rfl, (blk_cell BK120.out 5).trans rfl, (blk_cell BK120.out 6).trans rfl, (blk_cell BK120.out 7).trans rfl, (blk_cell BK120.out 8).trans rfl, (blk_cell BK120.out 9).trans rfl, (blk_cell BK120.out 10).trans rfl, (blk_cell BK120.out 11).trans rfl, (blk_cell BK120.out 12).trans rfl, (blk_cell BK120.out 13).trans rfl⟩ (fun hHeld => ?_)
 clear hK K
 refine norm_ (a' := ?_) ?_ ?_
 rotate_left
 ·show Act.put _ (some 45) _ = _
  simp only [Act.put, sT, sZ, sS, i64_w, i32_w]
  rfl
 refine pure_ (i := 4) (N := some 6) (v := ?_) (a' := ?_) #[true, true, true, true, true, false] rfl rfl (by kernel_rfl) (fun _ _ _ h => h) (Or.inl ⟨by rfl, ?_⟩) ?_ ?_
 rotate_left
 ·intro w'
  go_simp
  with_reducible rfl
 rotate_left
 ·simp only [Act.put, sT, sZ, sS, i64_w, i32_w]
  rfl
 refine pure_ (i := 5) (N := some 7) (v := ?_) (a' := ?_) #[true, true, true, true, true, true] rfl rfl (by kernel_rfl) (fun _ _ _ h => h) (Or.inl ⟨by rfl, ?_⟩) ?_ ?_
 rotate_left
 ·intro w'
  go_simp
  with_reducible rfl
 rotate_left
 ·simp only [Act.put, sT, sZ, sS, i64_w, i32_w]
  rfl
 refine done_ (by kernel_rfl) ?_
 try go_wp2
 go_loopg [8] k2 (fun kq v8 w' => ∃ (x8_3 : Int), v8 = .int .i64 x8_3 ∧ Aside0 (shelfmarkref13_Same.l1 kq t124 t127 x8_3 a0_0 a0_1 a0_2 a0_3 a0_4 a0_5 a0_6 a0_7 a0_8 l0_9 l0_10 a0_11 a0_12 a0_13 a1_0 a1_1 a1_2 a1_3 a1_4 a1_5 a1_6 a1_7 a1_8 l1_9 l1_10 a1_11 a1_12 a1_13 = some r) ∧ Aside0 (kq ≤ k2) ∧ Aside0 (Kd.R (Kd.int .i64) 3 w' w.heap.size (fun k_ => some k_ ≠ (v128 : Value).ownBlock) v125 t124) ∧ Aside0 (Kd.R (Kd.int .i64) 3 w' w.heap.size (fun k_ => some k_ ≠ (v125 : Value).ownBlock) v128 t127) ∧ Aside0 (w'.heap[gb119]? = some (.cells #[.int .i64 a0_0, .int .i64 a0_1, .int .i64 a0_2, .int .i64 a0_3, .int .i64 a0_4, .int .i64 a0_5, .int .i64 a0_6, .string a0_7, .string a0_8, (.slice A0_9 l0_9.length c0_9), (.slice A0_10 l0_10.length c0_10), .int .i64 a0_11, .bool a0_12, .string a0_13] 27 (0, 0))) ∧ Aside0 (w'.heap[gb120]? = some (.cells #[.int .i64 a1_0, .int .i64 a1_1, .int .i64 a1_2, .int .i64 a1_3, .int .i64 a1_4, .int .i64 a1_5, .int .i64 a1_6, .string a1_7, .string a1_8, (.slice A1_9 l1_9.length c1_9), (.slice A1_10 l1_10.length c1_10), .int .i64 a1_11, .bool a1_12, .string a1_13] 27 (0, 0))) ∧ Aside0 (Below w.heap.size w w'))
 case atStart => exact ⟨(0), (by first | rfl | (simp; done) | (simp [*]; done) | (simp [ne_nil_bytes]; done) | (simp [eq_nil_bytes]; done)), H', ⟨Nat.le_refl _⟩, ⟨by (with_reducible repeat (first | apply Kd.R_alloc | apply Kd.R_drewN | apply Kd.R_drew)); exact Kd.R_mono HO126.out (fun _ hk => hk.2)⟩, ⟨by (with_reducible repeat (first | apply Kd.R_alloc | apply Kd.R_drewN | apply Kd.R_drew)); exact Kd.R_mono HO129.out (fun _ hk => hk.2)⟩, ⟨by exact bL BK119.out⟩, ⟨by exact bL BK120.out⟩, ⟨hL HB.out⟩⟩
 clear H'
 try clear c1
 try clear p1
 try clear q1
 try clear hx1
 try clear c2
 try clear p2
 try clear p6
 try clear p12
 try clear q12
 try clear hx12
 try clear c15
 try clear c15b0
 try clear c15b0z
 try clear c16
 try clear c16b0
 try clear c16b0z
 try clear c17
 try clear c17b0
 try clear c17b0z
 try clear c18
 try clear c18b0
 try clear c18b0z
 try clear c19
 try clear c22
 try clear c27
 try clear c28
 try clear hcz12_6
 try clear hcz12_7
 try clear hcz12_8
 try clear hcz12_9
 try clear hcz13_0
 try clear hcz13_1
 try clear hcz13_10
 try clear hcz13_11
 try clear hcz13_12
 try clear hcz13_13
 try clear hcz13_2
 try clear hcz13_3
 try clear hcz13_4
 try clear hcz13_5
 try clear hcz13_6
 try clear hcz13_7
 try clear hcz13_8
 try clear hcz13_9
 try clear hcz20_0
 try clear hcz20_1
 try clear hcz20_10
 try clear hcz20_11
 try clear hcz20_12
 try clear hcz20_13
 try clear hcz20_2
 try clear hcz20_3
 try clear hcz20_4
 try clear hcz20_5
 try clear hcz20_6
 try clear hcz20_7
 try clear hcz20_8
 try clear hcz20_9
 try clear hcz23_0
 try clear hcz23_1
 try clear hcz23_10
 try clear hcz23_11
 try clear hcz23_12
 try clear hcz23_13
 try clear hcz23_2
 try clear hcz23_3
 try clear hcz23_4
 try clear hcz23_5
 try clear hcz23_6
 try clear hcz23_7
 try clear hcz23_8
 try clear hcz23_9
 try clear hcz28_0
 try clear hcz28_1
 try clear hcz28_10
 try clear hcz28_11
 try clear hcz28_12
 try clear hcz28_13
 try clear hcz28_2
 try clear hcz28_3
 try clear hcz28_4
 try clear hcz28_5
 try clear hcz28_6
 try clear hcz28_7
 try clear hcz28_8
 try clear hcz28_9
 try clear hcz9_0
 try clear hcz9_1
 try clear hcz9_10
 try clear hcz9_11
 try clear hcz9_12
 try clear hcz9_13
 try clear hcz9_2
 try clear hcz9_3
 try clear hcz9_4
 try clear hcz9_5
 try clear hcz9_6
 try clear hcz9_7
 try clear hcz9_8
 try clear hcz9_9
 try clear hfz10_0
 try clear hfz10_1
 try clear hfz10_10
 try clear hfz10_11
 try clear hfz10_12
 try clear hfz10_13
 try clear hfz10_2
 try clear hfz10_3
 try clear hfz10_4
 try clear hfz10_5
 try clear hfz10_6
 try clear hfz10_7
 try clear hfz10_8
 try clear hfz10_9
 try clear hfz12_0
 try clear hfz12_1
 try clear hfz12_10
 try clear hfz12_11
 try clear hfz12_12
 try clear hfz12_13
 try clear hfz12_2
 try clear hfz12_3
 try clear hfz12_4
 try clear hfz12_5
 try clear hfz12_6
 try clear hfz12_7
 try clear hfz12_8
 try clear hfz12_9
 try clear hfz13_0
 try clear hfz13_1
 try clear hfz13_10
 try clear hfz13_11
 try clear hfz13_12
 try clear hfz13_13
 try clear hfz13_2
 try clear hfz13_3
 try clear hfz13_4
 try clear hfz13_5
 try clear hfz13_6
 try clear hfz13_7
 try clear hfz13_8
 try clear hfz13_9
 try clear hfz20_0
 try clear hfz20_1
 try clear hfz20_10
 try clear hfz20_11
 try clear hfz20_12
 try clear hfz20_13
 try clear hfz20_2
 try clear hfz20_3
 try clear hfz20_4
 try clear hfz20_5
 try clear hfz20_6
 try clear hfz20_7
 try clear hfz20_8
 try clear hfz20_9
 try clear hfz23_0
 try clear hfz23_1
 try clear hfz23_10
 try clear hfz23_11
 try clear hfz23_12
 try clear hfz23_13
 try clear hfz23_2
 try clear hfz23_3
 try clear hfz23_4
 try clear hfz23_5
 try clear hfz23_6
 try clear hfz23_7
 try clear hfz23_8
 try clear hfz23_9
 try clear hfz28_0
 try clear hfz28_1
 try clear hfz28_10
 try clear hfz28_11
 try clear hfz28_12
 try clear hfz28_13
 try clear hfz28_2
 try clear hfz28_3
 try clear hfz28_4
 try clear hfz28_5
 try clear hfz28_6
 try clear hfz28_7
 try clear hfz28_8
 try clear hfz28_9
 try clear hfz9_0
 try clear hfz9_1
 try clear hfz9_10
 try clear hfz9_11
 try clear hfz9_12
 try clear hfz9_13
 try clear hfz9_2
 try clear hfz9_3
 try clear hfz9_4
 try clear hfz9_5
 try clear hfz9_6
 try clear hfz9_7
 try clear hfz9_8
 try clear hfz9_9
 try clear hx122_0
 try clear hx122_1
 try clear hx123_0
 try clear hx123_1
 try clear p122
 try clear p123
 try clear p2
 try clear q122
 try clear q123
 obtain ⟨x8_3, rfl, HA, HK3, HO_6, HO_7, BK119, BK120, HB⟩ := hrel
 rcases gk with _ | k3
 ·exact absurd HA.out (by simp [shelfmarkref13_Same.l1])
 have H := HA.out
 clear HA
 simp only [shelfmarkref13_Same.l1] at H
 by_cases c32 : x8_3 < (t124.length : Int)
 ·rw [if_pos c32] at H
  have c32b0 : decide (x8_3 < (t124.length : Int)) = true := decide_eq_true c32
  clear c32
  by_cases c33 : 0 ≤ x8_3
  rotate_left
  ·rw [if_neg c33] at H
   exact absurd H (by simp)
  rw [if_pos c33] at H
  have c33b0 : decide (0 ≤ x8_3) = true := decide_eq_true c33
  clear c33
  by_cases c34 : x8_3 < (t127.length : Int)
  rotate_left
  ·rw [if_neg c34] at H
   exact absurd H (by simp)
  rw [if_pos c34] at H
  have c34b0 : decide (x8_3 < (t127.length : Int)) = true := decide_eq_true c34
  clear c34
  by_cases c35 : (rd t124 x8_3) = (rd t127 x8_3)
  rotate_left
  ·rw [if_neg c35] at H
   have c35b0 : ((rd t124 x8_3) == (rd t127 x8_3)) = false := beq_eq_false_iff_ne.mpr c35
   have c35b1 : ((rd t124 x8_3) != (rd t127 x8_3)) = true := bne_iff_ne.mpr c35
   obtain rfl := Option.some.inj H
   simp only [Option.some.injEq, Prod.mk.injEq] at H
   obtain ⟨rfl⟩ := H
   obtain ⟨Ao39, co39, eo39⟩ := Kd.R_slice HO_6.out
   subst eo39
   try go_wp2
   have n0_ := Aside0.mk (Kd.R_drew HO_6.out)
   have n1_ := Aside0.mk (Kd.R_drew HO_7.out)
   have n2_ := Aside0.mk (blk_drew BK119.out)
   have n3_ := Aside0.mk (blk_drew BK120.out)
   have n4_ := Aside0.mk (below_drew1 HB.out)
   clear HO_6
   clear HO_7
   clear BK119
   clear BK120
   clear HB
   have HO_6 := n0_
   have HO_7 := n1_
   have BK119 := n2_
   have BK120 := n3_
   have HB := n4_
   clear n0_ n1_ n2_ n3_ n4_
   have p130 : 0 ≤ (x8_3 : Int) := of_decide_eq_true (by first | (with_reducible assumption) | assumption)
   have q130 : x8_3 < (t124.length : Int) := of_decide_eq_true (by first | (with_reducible assumption) | assumption)
   obtain ⟨ad130, e130, hx130_0⟩ := Kd.at_int (Kd.R_reads' HO_6.out).2.2 x8_3 p130 q130
   cases e130
   replace p130 := eq_true p130
   replace q130 := eq_true q130
   obtain ⟨Ao41, co41, eo41⟩ := Kd.R_slice HO_7.out
   (first | subst eo41 | (injection eo41 with f1_ f2_ f3_; have f4_ := f1_.symm; have f5_ := f3_.symm; clear f1_ f2_ f3_; subst f4_; subst f5_))
   have p131 : 0 ≤ (x8_3 : Int) := of_decide_eq_true (by first | (with_reducible assumption) | assumption)
   have q131 : x8_3 < (t127.length : Int) := of_decide_eq_true (by first | (with_reducible assumption) | assumption)
   obtain ⟨ad131, e131, hx131_0⟩ := Kd.at_int (Kd.R_reads' HO_7.out).2.2 x8_3 p131 q131
   cases e131
   replace p131 := eq_true p131
   replace q131 := eq_true q131
   refine start_ (n := 9) (S := fun w' => w'.cell? (ad130.add (x8_3).toNat) = some (.int .i64 (rd t124 x8_3)) ∧ w'.cell? (ad131.add (x8_3).toNat) = some (.int .i64 (rd t127 x8_3))) (ds := []) #[false, false, false, false, false, false, false, false, false] (by kernel_rfl) rfl rfl ⟨hx130_0, hx131_0⟩ (fun hHeld => ?_); refine with_tabW shelfmarkref13_Same.tab12 shelfmarkref13_Same.bits12 (fun HT_ HW_ => ?_)
   generalize wr.drew = w40 at HO_6 HO_7 BK119 BK120 HB hx130_0 hx131_0 hHeld ⊢
   refine pure_ (i := 0) (N := some 52) (v := ?_) (a' := ?_) #[true, false, false, false, false, false, false, false, false] rfl rfl (any_of HT_.out (by kernel_rfl)) (fun _ _ _ h => h) (Or.inl ⟨by rfl, ?_⟩) ?_ ?_
   rotate_left
   ·intro w'
    go_simp
    with_reducible rfl
   rotate_left
   ·simp only [Act.put, sT, sZ, sS, i64_w, i32_w]
    rfl
   refine pure_ (i := 1) (N := some 53) (v := ?_) (a' := ?_) #[true, true, false, false, false, false, false, false, false] rfl rfl (any_of HT_.out (by kernel_rfl)) (fun _ _ _ h => h) (Or.inl ⟨by rfl, ?_⟩) ?_ ?_
   rotate_left
   ·intro w'
    go_simp
    with_reducible rfl
   rotate_left
   ·simp only [Act.put, sT, sZ, sS, i64_w, i32_w]
    rfl
   refine pure_ (i := 2) (N := some 54) (v := ?_) (a' := ?_) #[true, true, true, false, false, false, false, false, false] rfl rfl (any_of HT_.out (by kernel_rfl)) (fun _ _ _ h => h) (Or.inl ⟨by rfl, ?_⟩) ?_ ?_
   rotate_left
   ·intro w'
    go_simp
    with_reducible rfl
   rotate_left
   ·simp only [Act.put, sT, sZ, sS, i64_w, i32_w]
    rfl
   refine pure_ (i := 4) (N := some 56) (v := ?_) (a' := ?_) #[true, true, true, false, true, false, false, false, false] rfl rfl (any_of HT_.out (by kernel_rfl)) (fun _ _ _ h => h) (Or.inl ⟨by rfl, ?_⟩) ?_ ?_
   rotate_left
   ·intro w'
    go_simp
    with_reducible rfl
   rotate_left
   ·simp only [Act.put, sT, sZ, sS, i64_w, i32_w]
    rfl
   refine pure_ (i := 5) (N := some 57) (v := ?_) (a' := ?_) #[true, true, true, false, true, true, false, false, false] rfl rfl (any_of HT_.out (by kernel_rfl)) (fun _ _ _ h => h) (Or.inl ⟨by rfl, ?_⟩) ?_ ?_
   rotate_left
   ·intro w'
    go_simp
    with_reducible rfl
   rotate_left
   ·simp only [Act.put, sT, sZ, sS, i64_w, i32_w]
    rfl
   refine pure_ (i := 6) (N := some 58) (v := ?_) (a' := ?_) #[true, true, true, false, true, true, true, false, false] rfl rfl (any_of HT_.out (by kernel_rfl)) (fun _ _ _ h => h) (Or.inl ⟨by rfl, ?_⟩) ?_ ?_
   rotate_left
   ·intro w'
    go_simp
    with_reducible rfl
   rotate_left
   ·simp only [Act.put, sT, sZ, sS, i64_w, i32_w]
    rfl
   refine take_ (i := 3) (N := some 55) (v := ?_) (a' := ?_) #[true, true, true, true, true, true, true, false, false] rfl rfl (take_ofW HT_.out HW_.out (by kernel_rfl)) (fun _ _ _ h => h) (Or.inl ⟨by rfl, ?_⟩) hHeld ?_ ?_
   rotate_left
   ·rintro w' ⟨s0, s1⟩
    go_simp
    with_reducible rfl
   rotate_left
   ·simp only [Act.put, sT, sZ, sS, i64_w, i32_w]
    rfl
   refine take_ (i := 7) (N := some 59) (v := ?_) (a' := ?_) #[true, true, true, true, true, true, true, true, false] rfl rfl (take_ofW HT_.out HW_.out (by kernel_rfl)) (fun _ _ _ h => h) (Or.inl ⟨by rfl, ?_⟩) hHeld ?_ ?_
   rotate_left
   ·rintro w' ⟨s0, s1⟩
    go_simp
    with_reducible rfl
   rotate_left
   ·simp only [Act.put, sT, sZ, sS, i64_w, i32_w]
    rfl
   refine pure_ (i := 8) (N := some 60) (v := ?_) (a' := ?_) #[true, true, true, true, true, true, true, true, true] rfl rfl (any_of HT_.out (by kernel_rfl)) (fun _ _ _ h => h) (Or.inl ⟨by rfl, ?_⟩) ?_ ?_
   rotate_left
   ·intro w'
    go_simp
    with_reducible rfl
   rotate_left
   ·simp only [Act.put, sT, sZ, sS, i64_w, i32_w]
    rfl
   refine done_ (done_of HT_.out (by kernel_rfl)) ?_
   try go_wp2
   go_ret
   exact ⟨by first | rfl | (simp [errW_none, errW_some] <;> rfl) | (simp [*, errW_none, errW_some] <;> rfl), hL HB.out⟩
  rw [if_pos c35] at H
  have c35b0 : ((rd t124 x8_3) == (rd t127 x8_3)) = true := beq_iff_eq.mpr c35
  have c35b1 : ((rd t124 x8_3) != (rd t127 x8_3)) = false := bne_eq_false_iff_eq.mpr c35
  clear c35
  have H' := Aside0.mk H
  clear H
  obtain ⟨Ao36, co36, eo36⟩ := Kd.R_slice HO_6.out
  subst eo36
  try go_wp2
  have n0_ := Aside0.mk (Kd.R_drew HO_6.out)
  have n1_ := Aside0.mk (Kd.R_drew HO_7.out)
  have n2_ := Aside0.mk (blk_drew BK119.out)
  have n3_ := Aside0.mk (blk_drew BK120.out)
  have n4_ := Aside0.mk (below_drew1 HB.out)
  clear HO_6
  clear HO_7
  clear BK119
  clear BK120
  clear HB
  have HO_6 := n0_
  have HO_7 := n1_
  have BK119 := n2_
  have BK120 := n3_
  have HB := n4_
  clear n0_ n1_ n2_ n3_ n4_
  have p130 : 0 ≤ (x8_3 : Int) := of_decide_eq_true (by first | (with_reducible assumption) | assumption)
  have q130 : x8_3 < (t124.length : Int) := of_decide_eq_true (by first | (with_reducible assumption) | assumption)
  obtain ⟨ad130, e130, hx130_0⟩ := Kd.at_int (Kd.R_reads' HO_6.out).2.2 x8_3 p130 q130
  cases e130
  replace p130 := eq_true p130
  replace q130 := eq_true q130
  obtain ⟨Ao38, co38, eo38⟩ := Kd.R_slice HO_7.out
  (first | subst eo38 | (injection eo38 with f1_ f2_ f3_; have f4_ := f1_.symm; have f5_ := f3_.symm; clear f1_ f2_ f3_; subst f4_; subst f5_))
  have p131 : 0 ≤ (x8_3 : Int) := of_decide_eq_true (by first | (with_reducible assumption) | assumption)
  have q131 : x8_3 < (t127.length : Int) := of_decide_eq_true (by first | (with_reducible assumption) | assumption)
  obtain ⟨ad131, e131, hx131_0⟩ := Kd.at_int (Kd.R_reads' HO_7.out).2.2 x8_3 p131 q131
  cases e131
  replace p131 := eq_true p131
  replace q131 := eq_true q131
  refine start_ (n := 9) (S := fun w' => w'.cell? (ad130.add (x8_3).toNat) = some (.int .i64 (rd t124 x8_3)) ∧ w'.cell? (ad131.add (x8_3).toNat) = some (.int .i64 (rd t127 x8_3))) (ds := []) #[false, false, false, false, false, false, false, false, false] (by kernel_rfl) rfl rfl ⟨hx130_0, hx131_0⟩ (fun hHeld => ?_); refine with_tabW shelfmarkref13_Same.tab12 shelfmarkref13_Same.bits12 (fun HT_ HW_ => ?_)
  generalize wr.drew = w37 at HO_6 HO_7 BK119 BK120 HB hx130_0 hx131_0 hHeld ⊢
  refine pure_ (i := 0) (N := some 52) (v := ?_) (a' := ?_) #[true, false, false, false, false, false, false, false, false] rfl rfl (any_of HT_.out (by kernel_rfl)) (fun _ _ _ h => h) (Or.inl ⟨by rfl, ?_⟩) ?_ ?_
  rotate_left
  ·intro w'
   go_simp
   with_reducible rfl
  rotate_left
  ·simp only [Act.put, sT, sZ, sS, i64_w, i32_w]
   rfl
  refine pure_ (i := 1) (N := some 53) (v := ?_) (a' := ?_) #[true, true, false, false, false, false, false, false, false] rfl rfl (any_of HT_.out (by kernel_rfl)) (fun _ _ _ h => h) (Or.inl ⟨by rfl, ?_⟩) ?_ ?_
  rotate_left
  ·intro w'
   go_simp
   with_reducible rfl
  rotate_left
  ·simp only [Act.put, sT, sZ, sS, i64_w, i32_w]
   rfl
  refine pure_ (i := 2) (N := some 54) (v := ?_) (a' := ?_) #[true, true, true, false, false, false, false, false, false] rfl rfl (any_of HT_.out (by kernel_rfl)) (fun _ _ _ h => h) (Or.inl ⟨by rfl, ?_⟩) ?_ ?_
  rotate_left
  ·intro w'
   go_simp
   with_reducible rfl
  rotate_left
  ·simp only [Act.put, sT, sZ, sS, i64_w, i32_w]
   rfl
  refine pure_ (i := 4) (N := some 56) (v := ?_) (a' := ?_) #[true, true, true, false, true, false, false, false, false] rfl rfl (any_of HT_.out (by kernel_rfl)) (fun _ _ _ h => h) (Or.inl ⟨by rfl, ?_⟩) ?_ ?_
  rotate_left
  ·intro w'
   go_simp
   with_reducible rfl
  rotate_left
  ·simp only [Act.put, sT, sZ, sS, i64_w, i32_w]
   rfl
  refine pure_ (i := 5) (N := some 57) (v := ?_) (a' := ?_) #[true, true, true, false, true, true, false, false, false] rfl rfl (any_of HT_.out (by kernel_rfl)) (fun _ _ _ h => h) (Or.inl ⟨by rfl, ?_⟩) ?_ ?_
  rotate_left
  ·intro w'
   go_simp
   with_reducible rfl
  rotate_left
  ·simp only [Act.put, sT, sZ, sS, i64_w, i32_w]
   rfl
  refine pure_ (i := 6) (N := some 58) (v := ?_) (a' := ?_) #[true, true, true, false, true, true, true, false, false] rfl rfl (any_of HT_.out (by kernel_rfl)) (fun _ _ _ h => h) (Or.inl ⟨by rfl, ?_⟩) ?_ ?_
  rotate_left
  ·intro w'
   go_simp
   with_reducible rfl
  rotate_left
  ·simp only [Act.put, sT, sZ, sS, i64_w, i32_w]
   rfl
  refine take_ (i := 3) (N := some 55) (v := ?_) (a' := ?_) #[true, true, true, true, true, true, true, false, false] rfl rfl (take_ofW HT_.out HW_.out (by kernel_rfl)) (fun _ _ _ h => h) (Or.inl ⟨by rfl, ?_⟩) hHeld ?_ ?_
  rotate_left
  ·rintro w' ⟨s0, s1⟩
   go_simp
   with_reducible rfl
  rotate_left
  ·simp only [Act.put, sT, sZ, sS, i64_w, i32_w]
   rfl
  refine take_ (i := 7) (N := some 59) (v := ?_) (a' := ?_) #[true, true, true, true, true, true, true, true, false] rfl rfl (take_ofW HT_.out HW_.out (by kernel_rfl)) (fun _ _ _ h => h) (Or.inl ⟨by rfl, ?_⟩) hHeld ?_ ?_
  rotate_left
  ·rintro w' ⟨s0, s1⟩
   go_simp
   with_reducible rfl
  rotate_left
  ·simp only [Act.put, sT, sZ, sS, i64_w, i32_w]
   rfl
  refine pure_ (i := 8) (N := some 60) (v := ?_) (a' := ?_) #[true, true, true, true, true, true, true, true, true] rfl rfl (any_of HT_.out (by kernel_rfl)) (fun _ _ _ h => h) (Or.inl ⟨by rfl, ?_⟩) ?_ ?_
  rotate_left
  ·intro w'
   go_simp
   with_reducible rfl
  rotate_left
  ·simp only [Act.put, sT, sZ, sS, i64_w, i32_w]
   rfl
  refine done_ (done_of HT_.out (by kernel_rfl)) ?_
  try go_wp2
  go_roundg k3
  case measure => have := HJ2.out; have := HK2.out; have := HK3.out; omega
  case rel => exact ⟨(wrap64 (x8_3 + 1)), (by first | rfl | (simp; done) | (simp [*]; done) | (simp [ne_nil_bytes]; done) | (simp [eq_nil_bytes]; done)), H', ⟨by have := HJ2.out; have := HK2.out; have := HK3.out; omega⟩, ⟨by exact rL HO_6.out⟩, ⟨by exact rL HO_7.out⟩, ⟨by exact bL BK119.out⟩, ⟨by exact bL BK120.out⟩, ⟨hL HB.out⟩⟩
 rw [if_neg c32] at H
 have c32b0 : decide (x8_3 < (t124.length : Int)) = false := decide_eq_false c32
 clear c32
 by_cases c42 : a0_0 = a1_0
 rotate_left
 ·rw [if_neg c42] at H
  have c42b0 : (a0_0 == a1_0) = false := beq_eq_false_iff_ne.mpr c42
  have c42b1 : (a0_0 != a1_0) = true := bne_iff_ne.mpr c42
  obtain rfl := Option.some.inj H
  simp only [Option.some.injEq, Prod.mk.injEq] at H
  obtain ⟨rfl⟩ := H
  obtain ⟨Ao62, co62, eo62⟩ := Kd.R_slice HO_6.out
  subst eo62
  have hnb63 := NB119_120.out
  have hnc63 := NB120_119.out
  have hcz64_0 : wr.cell? ⟨gb119, 0, none⟩ = some (.int .i64 a0_0) := (blk_cell BK119.out 0).trans rfl
  have hcz64_1 : wr.cell? ⟨gb119, 1, none⟩ = some (.int .i64 a0_1) := (blk_cell BK119.out 1).trans rfl
  have hcz64_2 : wr.cell? ⟨gb119, 2, none⟩ = some (.int .i64 a0_2) := (blk_cell BK119.out 2).trans rfl
  have hcz64_3 : wr.cell? ⟨gb119, 3, none⟩ = some (.int .i64 a0_3) := (blk_cell BK119.out 3).trans rfl
  have hcz64_4 : wr.cell? ⟨gb119, 4, none⟩ = some (.int .i64 a0_4) := (blk_cell BK119.out 4).trans rfl
  have hcz64_5 : wr.cell? ⟨gb119, 5, none⟩ = some (.int .i64 a0_5) := (blk_cell BK119.out 5).trans rfl
  have hcz64_6 : wr.cell? ⟨gb119, 6, none⟩ = some (.int .i64 a0_6) := (blk_cell BK119.out 6).trans rfl
  have hcz64_7 : wr.cell? ⟨gb119, 7, none⟩ = some (.string a0_7) := (blk_cell BK119.out 7).trans rfl
  have hcz64_8 : wr.cell? ⟨gb119, 8, none⟩ = some (.string a0_8) := (blk_cell BK119.out 8).trans rfl
  have hcz64_9 : wr.cell? ⟨gb119, 9, none⟩ = some (.slice A0_9 l0_9.length c0_9) := (blk_cell BK119.out 9).trans rfl
  have hcz64_10 : wr.cell? ⟨gb119, 10, none⟩ = some (.slice A0_10 l0_10.length c0_10) := (blk_cell BK119.out 10).trans rfl
  have hcz64_11 : wr.cell? ⟨gb119, 11, none⟩ = some (.int .i64 a0_11) := (blk_cell BK119.out 11).trans rfl
  have hcz64_12 : wr.cell? ⟨gb119, 12, none⟩ = some (.bool a0_12) := (blk_cell BK119.out 12).trans rfl
  have hcz64_13 : wr.cell? ⟨gb119, 13, none⟩ = some (.string a0_13) := (blk_cell BK119.out 13).trans rfl
  have hfz64_0 := blk_frozen BK119.out 0
  have hfz64_1 := blk_frozen BK119.out 1
  have hfz64_2 := blk_frozen BK119.out 2
  have hfz64_3 := blk_frozen BK119.out 3
  have hfz64_4 := blk_frozen BK119.out 4
  have hfz64_5 := blk_frozen BK119.out 5
  have hfz64_6 := blk_frozen BK119.out 6
  have hfz64_7 := blk_frozen BK119.out 7
  have hfz64_8 := blk_frozen BK119.out 8
  have hfz64_9 := blk_frozen BK119.out 9
  have hfz64_10 := blk_frozen BK119.out 10
  have hfz64_11 := blk_frozen BK119.out 11
  have hfz64_12 := blk_frozen BK119.out 12
  have hfz64_13 := blk_frozen BK119.out 13
  have hcz65_0 : wr.cell? ⟨gb120, 0, none⟩ = some (.int .i64 a1_0) := (blk_cell BK120.out 0).trans rfl
  have hcz65_1 : wr.cell? ⟨gb120, 1, none⟩ = some (.int .i64 a1_1) := (blk_cell BK120.out 1).trans rfl
  have hcz65_2 : wr.cell? ⟨gb120, 2, none⟩ = some (.int .i64 a1_2) := (blk_cell BK120.out 2).trans rfl
  have hcz65_3 : wr.cell? ⟨gb120, 3, none⟩ = some (.int .i64 a1_3) := (blk_cell BK120.out 3).trans rfl
  have hcz65_4 : wr.cell? ⟨gb120, 4, none⟩ = some (.int .i64 a1_4) := (blk_cell BK120.out 4).trans rfl
  have hcz65_5 : wr.cell? ⟨gb120, 5, none⟩ = some (.int .i64 a1_5) := (blk_cell BK120.out 5).trans rfl
  have hcz65_6 : wr.cell? ⟨gb120, 6, none⟩ = some (.int .i64 a1_6) := (blk_cell BK120.out 6).trans rfl
  have hcz65_7 : wr.cell? ⟨gb120, 7, none⟩ = some (.string a1_7) := (blk_cell BK120.out 7).trans rfl
  have hcz65_8 : wr.cell? ⟨gb120, 8, none⟩ = some (.string a1_8) := (blk_cell BK120.out 8).trans rfl
  have hcz65_9 : wr.cell? ⟨gb120, 9, none⟩ = some (.slice A1_9 l1_9.length c1_9) := (blk_cell BK120.out 9).trans rfl
  have hcz65_10 : wr.cell? ⟨gb120, 10, none⟩ = some (.slice A1_10 l1_10.length c1_10) := (blk_cell BK120.out 10).trans rfl
  have hcz65_11 : wr.cell? ⟨gb120, 11, none⟩ = some (.int .i64 a1_11) := (blk_cell BK120.out 11).trans rfl
  have hcz65_12 : wr.cell? ⟨gb120, 12, none⟩ = some (.bool a1_12) := (blk_cell BK120.out 12).trans rfl
  have hcz65_13 : wr.cell? ⟨gb120, 13, none⟩ = some (.string a1_13) := (blk_cell BK120.out 13).trans rfl
  have hfz65_0 := blk_frozen BK120.out 0
  have hfz65_1 := blk_frozen BK120.out 1
  have hfz65_2 := blk_frozen BK120.out 2
  have hfz65_3 := blk_frozen BK120.out 3
  have hfz65_4 := blk_frozen BK120.out 4
  have hfz65_5 := blk_frozen BK120.out 5
  have hfz65_6 := blk_frozen BK120.out 6
  have hfz65_7 := blk_frozen BK120.out 7
  have hfz65_8 := blk_frozen BK120.out 8
  have hfz65_9 := blk_frozen BK120.out 9
  have hfz65_10 := blk_frozen BK120.out 10
  have hfz65_11 := blk_frozen BK120.out 11
  have hfz65_12 := blk_frozen BK120.out 12
  have hfz65_13 := blk_frozen BK120.out 13
  go_wp2
  go_ret
  exact ⟨by first | rfl | (simp [errW_none, errW_some] <;> rfl) | (simp [*, errW_none, errW_some] <;> rfl), hL HB.out⟩
 rw [if_pos c42] at H
 have c42b0 : (a0_0 == a1_0) = true := beq_iff_eq.mpr c42
 have c42b1 : (a0_0 != a1_0) = false := bne_eq_false_iff_eq.mpr c42
 clear c42
 by_cases c43 : (a0_12 == a1_12) = true
 rotate_left
 ·rw [if_neg c43] at H
  have c43b0 : (a0_12 == a1_12) = false := by simpa using c43
  (try (have c43b1 : decide (a0_12 = a1_12) = false := by simpa using c43))
  (try (have c43b2 : (a0_12 == a1_12) = false := by simpa using c43))
  (try (have c43b3 : ¬ (a0_12 = a1_12) := by simpa using c43))
  clear c43
  obtain rfl := Option.some.inj H
  simp only [Option.some.injEq, Prod.mk.injEq] at H
  obtain ⟨rfl⟩ := H
  obtain ⟨Ao58, co58, eo58⟩ := Kd.R_slice HO_6.out
  subst eo58
  have hnb59 := NB119_120.out
  have hnc59 := NB120_119.out
  have hcz60_0 : wr.cell? ⟨gb119, 0, none⟩ = some (.int .i64 a0_0) := (blk_cell BK119.out 0).trans rfl
  have hcz60_1 : wr.cell? ⟨gb119, 1, none⟩ = some (.int .i64 a0_1) := (blk_cell BK119.out 1).trans rfl
  have hcz60_2 : wr.cell? ⟨gb119, 2, none⟩ = some (.int .i64 a0_2) := (blk_cell BK119.out 2).trans rfl
  have hcz60_3 : wr.cell? ⟨gb119, 3, none⟩ = some (.int .i64 a0_3) := (blk_cell BK119.out 3).trans rfl
  have hcz60_4 : wr.cell? ⟨gb119, 4, none⟩ = some (.int .i64 a0_4) := (blk_cell BK119.out 4).trans rfl
  have hcz60_5 : wr.cell? ⟨gb119, 5, none⟩ = some (.int .i64 a0_5) := (blk_cell BK119.out 5).trans rfl
  have hcz60_6 : wr.cell? ⟨gb119, 6, none⟩ = some (.int .i64 a0_6) := (blk_cell BK119.out 6).trans rfl
  have hcz60_7 : wr.cell? ⟨gb119, 7, none⟩ = some (.string a0_7) := (blk_cell BK119.out 7).trans rfl
  have hcz60_8 : wr.cell? ⟨gb119, 8, none⟩ = some (.string a0_8) := (blk_cell BK119.out 8).trans rfl
  have hcz60_9 : wr.cell? ⟨gb119, 9, none⟩ = some (.slice A0_9 l0_9.length c0_9) := (blk_cell BK119.out 9).trans rfl
  have hcz60_10 : wr.cell? ⟨gb119, 10, none⟩ = some (.slice A0_10 l0_10.length c0_10) := (blk_cell BK119.out 10).trans rfl
  have hcz60_11 : wr.cell? ⟨gb119, 11, none⟩ = some (.int .i64 a0_11) := (blk_cell BK119.out 11).trans rfl
  have hcz60_12 : wr.cell? ⟨gb119, 12, none⟩ = some (.bool a0_12) := (blk_cell BK119.out 12).trans rfl
  have hcz60_13 : wr.cell? ⟨gb119, 13, none⟩ = some (.string a0_13) := (blk_cell BK119.out 13).trans rfl
  have hfz60_0 := blk_frozen BK119.out 0
  have hfz60_1 := blk_frozen BK119.out 1
  have hfz60_2 := blk_frozen BK119.out 2
  have hfz60_3 := blk_frozen BK119.out 3
  have hfz60_4 := blk_frozen BK119.out 4
  have hfz60_5 := blk_frozen BK119.out 5
  have hfz60_6 := blk_frozen BK119.out 6
  have hfz60_7 := blk_frozen BK119.out 7
  have hfz60_8 := blk_frozen BK119.out 8
  have hfz60_9 := blk_frozen BK119.out 9
  have hfz60_10 := blk_frozen BK119.out 10
  have hfz60_11 := blk_frozen BK119.out 11
  have hfz60_12 := blk_frozen BK119.out 12
  have hfz60_13 := blk_frozen BK119.out 13
  have hcz61_0 : wr.cell? ⟨gb120, 0, none⟩ = some (.int .i64 a1_0) := (blk_cell BK120.out 0).trans rfl
  have hcz61_1 : wr.cell? ⟨gb120, 1, none⟩ = some (.int .i64 a1_1) := (blk_cell BK120.out 1).trans rfl
  have hcz61_2 : wr.cell? ⟨gb120, 2, none⟩ = some (.int .i64 a1_2) := (blk_cell BK120.out 2).trans rfl
  have hcz61_3 : wr.cell? ⟨gb120, 3, none⟩ = some (.int .i64 a1_3) := (blk_cell BK120.out 3).trans rfl
  have hcz61_4 : wr.cell? ⟨gb120, 4, none⟩ = some (.int .i64 a1_4) := (blk_cell BK120.out 4).trans rfl
  have hcz61_5 : wr.cell? ⟨gb120, 5, none⟩ = some (.int .i64 a1_5) := (blk_cell BK120.out 5).trans rfl
  have hcz61_6 : wr.cell? ⟨gb120, 6, none⟩ = some (.int .i64 a1_6) := (blk_cell BK120.out 6).trans rfl
  have hcz61_7 : wr.cell? ⟨gb120, 7, none⟩ = some (.string a1_7) := (blk_cell BK120.out 7).trans rfl
  have hcz61_8 : wr.cell? ⟨gb120, 8, none⟩ = some (.string a1_8) := (blk_cell BK120.out 8).trans rfl
  have hcz61_9 : wr.cell? ⟨gb120, 9, none⟩ = some (.slice A1_9 l1_9.length c1_9) := (blk_cell BK120.out 9).trans rfl
  have hcz61_10 : wr.cell? ⟨gb120, 10, none⟩ = some (.slice A1_10 l1_10.length c1_10) := (blk_cell BK120.out 10).trans rfl
  have hcz61_11 : wr.cell? ⟨gb120, 11, none⟩ = some (.int .i64 a1_11) := (blk_cell BK120.out 11).trans rfl
  have hcz61_12 : wr.cell? ⟨gb120, 12, none⟩ = some (.bool a1_12) := (blk_cell BK120.out 12).trans rfl
  have hcz61_13 : wr.cell? ⟨gb120, 13, none⟩ = some (.string a1_13) := (blk_cell BK120.out 13).trans rfl
  have hfz61_0 := blk_frozen BK120.out 0
  have hfz61_1 := blk_frozen BK120.out 1
  have hfz61_2 := blk_frozen BK120.out 2
  have hfz61_3 := blk_frozen BK120.out 3
  have hfz61_4 := blk_frozen BK120.out 4
  have hfz61_5 := blk_frozen BK120.out 5
  have hfz61_6 := blk_frozen BK120.out 6
  have hfz61_7 := blk_frozen BK120.out 7
  have hfz61_8 := blk_frozen BK120.out 8
  have hfz61_9 := blk_frozen BK120.out 9
  have hfz61_10 := blk_frozen BK120.out 10
  have hfz61_11 := blk_frozen BK120.out 11
  have hfz61_12 := blk_frozen BK120.out 12
  have hfz61_13 := blk_frozen BK120.out 13
  go_wp2
  go_ret
  exact ⟨by first | rfl | (simp [errW_none, errW_some] <;> rfl) | (simp [*, errW_none, errW_some] <;> rfl), hL HB.out⟩
 rw [if_pos c43] at H
 have c43b0 : (a0_12 == a1_12) = true := c43
 (try (have c43b1 : decide (a0_12 = a1_12) = true := by simpa using c43))
 (try (have c43b2 : (a0_12 == a1_12) = true := by simpa using c43))
 clear c43
 by_cases c44 : a0_7.toList = a1_7.toList
 rotate_left
 ·rw [if_neg c44] at H
  have c44b0 : (a0_7.toList == a1_7.toList) = false := beq_eq_false_iff_ne.mpr c44
  have c44b1 : (a0_7.toList != a1_7.toList) = true := bne_iff_ne.mpr c44
  obtain rfl := Option.some.inj H
  simp only [Option.some.injEq, Prod.mk.injEq] at H
  obtain ⟨rfl⟩ := H
  obtain ⟨Ao54, co54, eo54⟩ := Kd.R_slice HO_6.out
  subst eo54
  have hnb55 := NB119_120.out
  have hnc55 := NB120_119.out
  have hcz56_0 : wr.cell? ⟨gb119, 0, none⟩ = some (.int .i64 a0_0) := (blk_cell BK119.out 0).trans rfl
  have hcz56_1 : wr.cell? ⟨gb119, 1, none⟩ = some (.int .i64 a0_1) := (blk_cell BK119.out 1).trans rfl
  have hcz56_2 : wr.cell? ⟨gb119, 2, none⟩ = some (.int .i64 a0_2) := (blk_cell BK119.out 2).trans rfl
  have hcz56_3 : wr.cell? ⟨gb119, 3, none⟩ = some (.int .i64 a0_3) := (blk_cell BK119.out 3).trans rfl
  have hcz56_4 : wr.cell? ⟨gb119, 4, none⟩ = some (.int .i64 a0_4) := (blk_cell BK119.out 4).trans rfl
  have hcz56_5 : wr.cell? ⟨gb119, 5, none⟩ = some (.int .i64 a0_5) := (blk_cell BK119.out 5).trans rfl
  have hcz56_6 : wr.cell? ⟨gb119, 6, none⟩ = some (.int .i64 a0_6) := (blk_cell BK119.out 6).trans rfl
  have hcz56_7 : wr.cell? ⟨gb119, 7, none⟩ = some (.string a0_7) := (blk_cell BK119.out 7).trans rfl
  have hcz56_8 : wr.cell? ⟨gb119, 8, none⟩ = some (.string a0_8) := (blk_cell BK119.out 8).trans rfl
  have hcz56_9 : wr.cell? ⟨gb119, 9, none⟩ = some (.slice A0_9 l0_9.length c0_9) := (blk_cell BK119.out 9).trans rfl
  have hcz56_10 : wr.cell? ⟨gb119, 10, none⟩ = some (.slice A0_10 l0_10.length c0_10) := (blk_cell BK119.out 10).trans rfl
  have hcz56_11 : wr.cell? ⟨gb119, 11, none⟩ = some (.int .i64 a0_11) := (blk_cell BK119.out 11).trans rfl
  have hcz56_12 : wr.cell? ⟨gb119, 12, none⟩ = some (.bool a0_12) := (blk_cell BK119.out 12).trans rfl
  have hcz56_13 : wr.cell? ⟨gb119, 13, none⟩ = some (.string a0_13) := (blk_cell BK119.out 13).trans rfl
  have hfz56_0 := blk_frozen BK119.out 0
  have hfz56_1 := blk_frozen BK119.out 1
  have hfz56_2 := blk_frozen BK119.out 2
  have hfz56_3 := blk_frozen BK119.out 3
  have hfz56_4 := blk_frozen BK119.out 4
  have hfz56_5 := blk_frozen BK119.out 5
  have hfz56_6 := blk_frozen BK119.out 6
  have hfz56_7 := blk_frozen BK119.out 7
  have hfz56_8 := blk_frozen BK119.out 8
  have hfz56_9 := blk_frozen BK119.out 9
  have hfz56_10 := blk_frozen BK119.out 10
  have hfz56_11 := blk_frozen BK119.out 11
  have hfz56_12 := blk_frozen BK119.out 12
  have hfz56_13 := blk_frozen BK119.out 13
  have hcz57_0 : wr.cell? ⟨gb120, 0, none⟩ = some (.int .i64 a1_0) := (blk_cell BK120.out 0).trans rfl
  have hcz57_1 : wr.cell? ⟨gb120, 1, none⟩ = some (.int .i64 a1_1) := (blk_cell BK120.out 1).trans rfl
  have hcz57_2 : wr.cell? ⟨gb120, 2, none⟩ = some (.int .i64 a1_2) := (blk_cell BK120.out 2).trans rfl
  have hcz57_3 : wr.cell? ⟨gb120, 3, none⟩ = some (.int .i64 a1_3) := (blk_cell BK120.out 3).trans rfl
  have hcz57_4 : wr.cell? ⟨gb120, 4, none⟩ = some (.int .i64 a1_4) := (blk_cell BK120.out 4).trans rfl
  have hcz57_5 : wr.cell? ⟨gb120, 5, none⟩ = some (.int .i64 a1_5) := (blk_cell BK120.out 5).trans rfl
  have hcz57_6 : wr.cell? ⟨gb120, 6, none⟩ = some (.int .i64 a1_6) := (blk_cell BK120.out 6).trans rfl
  have hcz57_7 : wr.cell? ⟨gb120, 7, none⟩ = some (.string a1_7) := (blk_cell BK120.out 7).trans rfl
  have hcz57_8 : wr.cell? ⟨gb120, 8, none⟩ = some (.string a1_8) := (blk_cell BK120.out 8).trans rfl
  have hcz57_9 : wr.cell? ⟨gb120, 9, none⟩ = some (.slice A1_9 l1_9.length c1_9) := (blk_cell BK120.out 9).trans rfl
  have hcz57_10 : wr.cell? ⟨gb120, 10, none⟩ = some (.slice A1_10 l1_10.length c1_10) := (blk_cell BK120.out 10).trans rfl
  have hcz57_11 : wr.cell? ⟨gb120, 11, none⟩ = some (.int .i64 a1_11) := (blk_cell BK120.out 11).trans rfl
  have hcz57_12 : wr.cell? ⟨gb120, 12, none⟩ = some (.bool a1_12) := (blk_cell BK120.out 12).trans rfl
  have hcz57_13 : wr.cell? ⟨gb120, 13, none⟩ = some (.string a1_13) := (blk_cell BK120.out 13).trans rfl
  have hfz57_0 := blk_frozen BK120.out 0
  have hfz57_1 := blk_frozen BK120.out 1
  have hfz57_2 := blk_frozen BK120.out 2
  have hfz57_3 := blk_frozen BK120.out 3
  have hfz57_4 := blk_frozen BK120.out 4
  have hfz57_5 := blk_frozen BK120.out 5
  have hfz57_6 := blk_frozen BK120.out 6
  have hfz57_7 := blk_frozen BK120.out 7
  have hfz57_8 := blk_frozen BK120.out 8
  have hfz57_9 := blk_frozen BK120.out 9
  have hfz57_10 := blk_frozen BK120.out 10
  have hfz57_11 := blk_frozen BK120.out 11
  have hfz57_12 := blk_frozen BK120.out 12
  have hfz57_13 := blk_frozen BK120.out 13
  go_wp2
  go_ret
  exact ⟨by first | rfl | (simp [errW_none, errW_some] <;> rfl) | (simp [*, errW_none, errW_some] <;> rfl), hL HB.out⟩
 rw [if_pos c44] at H
 have c44b0 : (a0_7.toList == a1_7.toList) = true := beq_iff_eq.mpr c44
 have c44b1 : (a0_7.toList != a1_7.toList) = false := bne_eq_false_iff_eq.mpr c44
 clear c44
 by_cases c45 : a0_8.toList = a1_8.toList
 rotate_left
 ·rw [if_neg c45] at H
  have c45b0 : (a0_8.toList == a1_8.toList) = false := beq_eq_false_iff_ne.mpr c45
  have c45b1 : (a0_8.toList != a1_8.toList) = true := bne_iff_ne.mpr c45
  obtain rfl := Option.some.inj H
  simp only [Option.some.injEq, Prod.mk.injEq] at H
  obtain ⟨rfl⟩ := H
  obtain ⟨Ao50, co50, eo50⟩ := Kd.R_slice HO_6.out
  subst eo50
  have hnb51 := NB119_120.out
  have hnc51 := NB120_119.out
  have hcz52_0 : wr.cell? ⟨gb119, 0, none⟩ = some (.int .i64 a0_0) := (blk_cell BK119.out 0).trans rfl
  have hcz52_1 : wr.cell? ⟨gb119, 1, none⟩ = some (.int .i64 a0_1) := (blk_cell BK119.out 1).trans rfl
  have hcz52_2 : wr.cell? ⟨gb119, 2, none⟩ = some (.int .i64 a0_2) := (blk_cell BK119.out 2).trans rfl
  have hcz52_3 : wr.cell? ⟨gb119, 3, none⟩ = some (.int .i64 a0_3) := (blk_cell BK119.out 3).trans rfl
  have hcz52_4 : wr.cell? ⟨gb119, 4, none⟩ = some (.int .i64 a0_4) := (blk_cell BK119.out 4).trans rfl
  have hcz52_5 : wr.cell? ⟨gb119, 5, none⟩ = some (.int .i64 a0_5) := (blk_cell BK119.out 5).trans rfl
  have hcz52_6 : wr.cell? ⟨gb119, 6, none⟩ = some (.int .i64 a0_6) := (blk_cell BK119.out 6).trans rfl
  have hcz52_7 : wr.cell? ⟨gb119, 7, none⟩ = some (.string a0_7) := (blk_cell BK119.out 7).trans rfl
  have hcz52_8 : wr.cell? ⟨gb119, 8, none⟩ = some (.string a0_8) := (blk_cell BK119.out 8).trans rfl
  have hcz52_9 : wr.cell? ⟨gb119, 9, none⟩ = some (.slice A0_9 l0_9.length c0_9) := (blk_cell BK119.out 9).trans rfl
  have hcz52_10 : wr.cell? ⟨gb119, 10, none⟩ = some (.slice A0_10 l0_10.length c0_10) := (blk_cell BK119.out 10).trans rfl
  have hcz52_11 : wr.cell? ⟨gb119, 11, none⟩ = some (.int .i64 a0_11) := (blk_cell BK119.out 11).trans rfl
  have hcz52_12 : wr.cell? ⟨gb119, 12, none⟩ = some (.bool a0_12) := (blk_cell BK119.out 12).trans rfl
  have hcz52_13 : wr.cell? ⟨gb119, 13, none⟩ = some (.string a0_13) := (blk_cell BK119.out 13).trans rfl
  have hfz52_0 := blk_frozen BK119.out 0
  have hfz52_1 := blk_frozen BK119.out 1
  have hfz52_2 := blk_frozen BK119.out 2
  have hfz52_3 := blk_frozen BK119.out 3
  have hfz52_4 := blk_frozen BK119.out 4
  have hfz52_5 := blk_frozen BK119.out 5
  have hfz52_6 := blk_frozen BK119.out 6
  have hfz52_7 := blk_frozen BK119.out 7
  have hfz52_8 := blk_frozen BK119.out 8
  have hfz52_9 := blk_frozen BK119.out 9
  have hfz52_10 := blk_frozen BK119.out 10
  have hfz52_11 := blk_frozen BK119.out 11
  have hfz52_12 := blk_frozen BK119.out 12
  have hfz52_13 := blk_frozen BK119.out 13
  have hcz53_0 : wr.cell? ⟨gb120, 0, none⟩ = some (.int .i64 a1_0) := (blk_cell BK120.out 0).trans rfl
  have hcz53_1 : wr.cell? ⟨gb120, 1, none⟩ = some (.int .i64 a1_1) := (blk_cell BK120.out 1).trans rfl
  have hcz53_2 : wr.cell? ⟨gb120, 2, none⟩ = some (.int .i64 a1_2) := (blk_cell BK120.out 2).trans rfl
  have hcz53_3 : wr.cell? ⟨gb120, 3, none⟩ = some (.int .i64 a1_3) := (blk_cell BK120.out 3).trans rfl
  have hcz53_4 : wr.cell? ⟨gb120, 4, none⟩ = some (.int .i64 a1_4) := (blk_cell BK120.out 4).trans rfl
  have hcz53_5 : wr.cell? ⟨gb120, 5, none⟩ = some (.int .i64 a1_5) := (blk_cell BK120.out 5).trans rfl
  have hcz53_6 : wr.cell? ⟨gb120, 6, none⟩ = some (.int .i64 a1_6) := (blk_cell BK120.out 6).trans rfl
  have hcz53_7 : wr.cell? ⟨gb120, 7, none⟩ = some (.string a1_7) := (blk_cell BK120.out 7).trans rfl
  have hcz53_8 : wr.cell? ⟨gb120, 8, none⟩ = some (.string a1_8) := (blk_cell BK120.out 8).trans rfl
  have hcz53_9 : wr.cell? ⟨gb120, 9, none⟩ = some (.slice A1_9 l1_9.length c1_9) := (blk_cell BK120.out 9).trans rfl
  have hcz53_10 : wr.cell? ⟨gb120, 10, none⟩ = some (.slice A1_10 l1_10.length c1_10) := (blk_cell BK120.out 10).trans rfl
  have hcz53_11 : wr.cell? ⟨gb120, 11, none⟩ = some (.int .i64 a1_11) := (blk_cell BK120.out 11).trans rfl
  have hcz53_12 : wr.cell? ⟨gb120, 12, none⟩ = some (.bool a1_12) := (blk_cell BK120.out 12).trans rfl
  have hcz53_13 : wr.cell? ⟨gb120, 13, none⟩ = some (.string a1_13) := (blk_cell BK120.out 13).trans rfl
  have hfz53_0 := blk_frozen BK120.out 0
  have hfz53_1 := blk_frozen BK120.out 1
  have hfz53_2 := blk_frozen BK120.out 2
  have hfz53_3 := blk_frozen BK120.out 3
  have hfz53_4 := blk_frozen BK120.out 4
  have hfz53_5 := blk_frozen BK120.out 5
  have hfz53_6 := blk_frozen BK120.out 6
  have hfz53_7 := blk_frozen BK120.out 7
  have hfz53_8 := blk_frozen BK120.out 8
  have hfz53_9 := blk_frozen BK120.out 9
  have hfz53_10 := blk_frozen BK120.out 10
  have hfz53_11 := blk_frozen BK120.out 11
  have hfz53_12 := blk_frozen BK120.out 12
  have hfz53_13 := blk_frozen BK120.out 13
  go_wp2
  go_ret
  exact ⟨by first | rfl | (simp [errW_none, errW_some] <;> rfl) | (simp [*, errW_none, errW_some] <;> rfl), hL HB.out⟩
 rw [if_pos c45] at H
 have c45b0 : (a0_8.toList == a1_8.toList) = true := beq_iff_eq.mpr c45
 have c45b1 : (a0_8.toList != a1_8.toList) = false := bne_eq_false_iff_eq.mpr c45
 clear c45
 obtain rfl := Option.some.inj H
 simp only [Option.some.injEq, Prod.mk.injEq] at H
 obtain ⟨rfl⟩ := H
 obtain ⟨Ao46, co46, eo46⟩ := Kd.R_slice HO_6.out
 subst eo46
 have hnb47 := NB119_120.out
 have hnc47 := NB120_119.out
 have hcz48_0 : wr.cell? ⟨gb119, 0, none⟩ = some (.int .i64 a0_0) := (blk_cell BK119.out 0).trans rfl
 have hcz48_1 : wr.cell? ⟨gb119, 1, none⟩ = some (.int .i64 a0_1) := (blk_cell BK119.out 1).trans rfl
 have hcz48_2 : wr.cell? ⟨gb119, 2, none⟩ = some (.int .i64 a0_2) := (blk_cell BK119.out 2).trans rfl
 have hcz48_3 : wr.cell? ⟨gb119, 3, none⟩ = some (.int .i64 a0_3) := (blk_cell BK119.out 3).trans rfl
 have hcz48_4 : wr.cell? ⟨gb119, 4, none⟩ = some (.int .i64 a0_4) := (blk_cell BK119.out 4).trans rfl
 have hcz48_5 : wr.cell? ⟨gb119, 5, none⟩ = some (.int .i64 a0_5) := (blk_cell BK119.out 5).trans rfl
 have hcz48_6 : wr.cell? ⟨gb119, 6, none⟩ = some (.int .i64 a0_6) := (blk_cell BK119.out 6).trans rfl
 have hcz48_7 : wr.cell? ⟨gb119, 7, none⟩ = some (.string a0_7) := (blk_cell BK119.out 7).trans rfl
 have hcz48_8 : wr.cell? ⟨gb119, 8, none⟩ = some (.string a0_8) := (blk_cell BK119.out 8).trans rfl
 have hcz48_9 : wr.cell? ⟨gb119, 9, none⟩ = some (.slice A0_9 l0_9.length c0_9) := (blk_cell BK119.out 9).trans rfl
 have hcz48_10 : wr.cell? ⟨gb119, 10, none⟩ = some (.slice A0_10 l0_10.length c0_10) := (blk_cell BK119.out 10).trans rfl
 have hcz48_11 : wr.cell? ⟨gb119, 11, none⟩ = some (.int .i64 a0_11) := (blk_cell BK119.out 11).trans rfl
 have hcz48_12 : wr.cell? ⟨gb119, 12, none⟩ = some (.bool a0_12) := (blk_cell BK119.out 12).trans rfl
 have hcz48_13 : wr.cell? ⟨gb119, 13, none⟩ = some (.string a0_13) := (blk_cell BK119.out 13).trans rfl
 have hfz48_0 := blk_frozen BK119.out 0
 have hfz48_1 := blk_frozen BK119.out 1
 have hfz48_2 := blk_frozen BK119.out 2
 have hfz48_3 := blk_frozen BK119.out 3
 have hfz48_4 := blk_frozen BK119.out 4
 have hfz48_5 := blk_frozen BK119.out 5
 have hfz48_6 := blk_frozen BK119.out 6
 have hfz48_7 := blk_frozen BK119.out 7
 have hfz48_8 := blk_frozen BK119.out 8
 have hfz48_9 := blk_frozen BK119.out 9
 have hfz48_10 := blk_frozen BK119.out 10
 have hfz48_11 := blk_frozen BK119.out 11
 have hfz48_12 := blk_frozen BK119.out 12
 have hfz48_13 := blk_frozen BK119.out 13
 have hcz49_0 : wr.cell? ⟨gb120, 0, none⟩ = some (.int .i64 a1_0) := (blk_cell BK120.out 0).trans rfl
 have hcz49_1 : wr.cell? ⟨gb120, 1, none⟩ = some (.int .i64 a1_1) := (blk_cell BK120.out 1).trans rfl
 have hcz49_2 : wr.cell? ⟨gb120, 2, none⟩ = some (.int .i64 a1_2) := (blk_cell BK120.out 2).trans rfl
 have hcz49_3 : wr.cell? ⟨gb120, 3, none⟩ = some (.int .i64 a1_3) := (blk_cell BK120.out 3).trans rfl
 have hcz49_4 : wr.cell? ⟨gb120, 4, none⟩ = some (.int .i64 a1_4) := (blk_cell BK120.out 4).trans rfl
 have hcz49_5 : wr.cell? ⟨gb120, 5, none⟩ = some (.int .i64 a1_5) := (blk_cell BK120.out 5).trans rfl
 have hcz49_6 : wr.cell? ⟨gb120, 6, none⟩ = some (.int .i64 a1_6) := (blk_cell BK120.out 6).trans rfl
 have hcz49_7 : wr.cell? ⟨gb120, 7, none⟩ = some (.string a1_7) := (blk_cell BK120.out 7).trans rfl
 have hcz49_8 : wr.cell? ⟨gb120, 8, none⟩ = some (.string a1_8) := (blk_cell BK120.out 8).trans rfl
 have hcz49_9 : wr.cell? ⟨gb120, 9, none⟩ = some (.slice A1_9 l1_9.length c1_9) := (blk_cell BK120.out 9).trans rfl
 have hcz49_10 : wr.cell? ⟨gb120, 10, none⟩ = some (.slice A1_10 l1_10.length c1_10) := (blk_cell BK120.out 10).trans rfl
 have hcz49_11 : wr.cell? ⟨gb120, 11, none⟩ = some (.int .i64 a1_11) := (blk_cell BK120.out 11).trans rfl
 have hcz49_12 : wr.cell? ⟨gb120, 12, none⟩ = some (.bool a1_12) := (blk_cell BK120.out 12).trans rfl
 have hcz49_13 : wr.cell? ⟨gb120, 13, none⟩ = some (.string a1_13) := (blk_cell BK120.out 13).trans rfl
 have hfz49_0 := blk_frozen BK120.out 0
 have hfz49_1 := blk_frozen BK120.out 1
 have hfz49_2 := blk_frozen BK120.out 2
 have hfz49_3 := blk_frozen BK120.out 3
 have hfz49_4 := blk_frozen BK120.out 4
 have hfz49_5 := blk_frozen BK120.out 5
 have hfz49_6 := blk_frozen BK120.out 6
 have hfz49_7 := blk_frozen BK120.out 7
 have hfz49_8 := blk_frozen BK120.out 8
 have hfz49_9 := blk_frozen BK120.out 9
 have hfz49_10 := blk_frozen BK120.out 10
 have hfz49_11 := blk_frozen BK120.out 11
 have hfz49_12 := blk_frozen BK120.out 12
 have hfz49_13 := blk_frozen BK120.out 13
 go_wp2
 go_ret
 exact ⟨by first | rfl | (simp [errW_none, errW_some] <;> rfl) | (simp [*, errW_none, errW_some] <;> rfl), hL HB.out⟩

end Go.Proofs.Ythghacojbhjeaaa.PKp
