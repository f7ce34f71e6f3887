/- DERIVED. The keys of rows stand as the rows do. Conditions: those that each lemma names. -/
import Derived.Test.YtdaidcfpikeooaaDoorTv
import Derived.Test.YtdaidcfpikeooaaDoorTc
namespace Go.Proofs.YtdaidcfpikeooaaDoor.To
open Go.RowKit Go.Proofs.YtdaidcfpikeooaaDoor.PAll Go.Proofs.YtdaidcfpikeooaaDoorW.PrintWords Go.Proofs.YtdaidcfpikeooaaDoorW.PrintLast Go.Proofs.YtdaidcfpikeooaaDoor.Hl Go.Proofs.YtdaidcfpikeooaaDoor.Tl Go.Proofs.YtdaidcfpikeooaaDoor.Tb Go.Proofs.YtdaidcfpikeooaaDoor.Tk Go.Proofs.YtdaidcfpikeooaaDoor.Tc Go.Proofs.YtdaidcfpikeooaaDoor.Tr Go.Proofs.YtdaidcfpikeooaaDoor.Tu
set_option linter.unusedSimpArgs false
set_option linter.unusedVariables false
theorem less_cons (c d : UInt8) (s t : List UInt8) : Op.bytesLess (c :: s) (d :: t) = if c = d then Op.bytesLess s t else decide (c < d) := by
  by_cases h : c = d
  · subst h; simp [Op.bytesLess]
  · have h' : (c == d) = false := beq_eq_false_iff_ne.2 h
    simp [Op.bytesLess, h, h']
theorem zero_lt {d : UInt8} (h : d ≠ 0) : (0 : UInt8) < d := by
  rw [UInt8.lt_iff_toNat_lt]
  have : d.toNat ≠ 0 := fun e => h (UInt8.toNat_inj.1 e)
  show 0 < d.toNat; omega
theorem not_lt_zero (d : UInt8) : ¬ d < (0 : UInt8) := by
  rw [UInt8.lt_iff_toNat_lt]; show ¬ d.toNat < 0; omega
theorem text_less (X Y : List UInt8) : ∀ s t : List UInt8, Op.bytesLess (turn s ++ 0 :: 0 :: X) (turn t ++ 0 :: 0 :: Y) = if s = t then Op.bytesLess X Y else Op.bytesLess s t
  | [], [] => by
    show Op.bytesLess (0 :: 0 :: X) (0 :: 0 :: Y) = _
    simp [Op.bytesLess]
  | [], d :: t => by
    by_cases h : d = 0
    · subst h; rw [turn_zero]
      show Op.bytesLess (0 :: 0 :: X) (0 :: 255 :: (turn t ++ 0 :: 0 :: Y)) = _
      simp [Op.bytesLess]
    · rw [turn_other h]
      show Op.bytesLess (0 :: 0 :: X) (d :: (turn t ++ 0 :: 0 :: Y)) = _
      rw [less_cons, if_neg (fun e => h e.symm)]
      simp [Op.bytesLess, zero_lt h]
  | c :: s, [] => by
    by_cases h : c = 0
    · subst h; rw [turn_zero]
      show Op.bytesLess (0 :: 255 :: (turn s ++ 0 :: 0 :: X)) (0 :: 0 :: Y) = _
      simp [Op.bytesLess]
    · rw [turn_other h]
      show Op.bytesLess (c :: (turn s ++ 0 :: 0 :: X)) (0 :: 0 :: Y) = _
      rw [less_cons, if_neg h]
      simp [Op.bytesLess, not_lt_zero]
  | c :: s, d :: t => by
    have ih := text_less X Y s t
    by_cases h : c = d
    · subst h
      rw [less_cons c c, if_pos rfl]
      have e : (c :: s = c :: t) = (s = t) := by simp
      simp only [e]
      rw [← ih]
      by_cases hc : c = 0
      · subst hc
        rw [turn_zero, turn_zero]
        show Op.bytesLess (0 :: 255 :: (turn s ++ 0 :: 0 :: X)) (0 :: 255 :: (turn t ++ 0 :: 0 :: Y)) = _
        rw [less_cons, if_pos rfl, less_cons, if_pos rfl]
      · rw [turn_other hc, turn_other hc]
        show Op.bytesLess (c :: (turn s ++ 0 :: 0 :: X)) (c :: (turn t ++ 0 :: 0 :: Y)) = _
        rw [less_cons, if_pos rfl]
    · have e : ¬ (c :: s = d :: t) := fun e => h (by injection e)
      rw [if_neg e, less_cons c d s t, if_neg h]
      have hd : ∀ (x : UInt8) (u : List UInt8), ∃ z, turn (x :: u) = x :: z := by
        intro x u
        by_cases hx : x = 0
        · subst hx; exact ⟨_, turn_zero u⟩
        · exact ⟨_, turn_other hx u⟩
      obtain ⟨z1, e1⟩ := hd c s
      obtain ⟨z2, e2⟩ := hd d t
      rw [e1, e2]
      show Op.bytesLess (c :: (z1 ++ 0 :: 0 :: X)) (d :: (z2 ++ 0 :: 0 :: Y)) = _
      rw [less_cons, if_neg h]
theorem ofNat_lt {a b : Int} (h0 : 0 ≤ a) (h1 : a < 256) (h2 : 0 ≤ b) (h3 : b < 256) : (UInt8.ofNat a.toNat = UInt8.ofNat b.toNat ↔ a = b) ∧ (UInt8.ofNat a.toNat < UInt8.ofNat b.toNat ↔ a < b) := by
  constructor
  · rw [← UInt8.toNat_inj, UInt8.toNat_ofNat', UInt8.toNat_ofNat']; omega
  · rw [UInt8.lt_iff_toNat_lt, UInt8.toNat_ofNat', UInt8.toNat_ofNat']; omega
theorem be_less (X Y : List UInt8) (A B : Int) (hA : 0 ≤ A) (hB : 0 ≤ B) (m : Nat) : m ≤ 8 → Op.bytesLess (toB (beFrom A m) ++ X) (toB (beFrom B m) ++ Y) = if A % 256 ^ m = B % 256 ^ m then Op.bytesLess X Y else decide (A % 256 ^ m < B % 256 ^ m) := by
  induction m with
  | zero =>
    intro _
    show Op.bytesLess X Y = _
    rw [if_pos (by simp)]
  | succ m ih =>
    intro hm
    have ih := ih (by omega)
    have e : ∀ Z : Int, toB (beFrom Z (m + 1)) = UInt8.ofNat ((shr .u64 Z ((8 * m : Nat) : Int)) % 256).toNat :: toB (beFrom Z m) := fun _ => rfl
    rw [e, e, shr_eq A m (by omega), shr_eq B m (by omega)]
    show Op.bytesLess (_ :: (toB (beFrom A m) ++ X)) (_ :: (toB (beFrom B m) ++ Y)) = _
    rw [less_cons, Int.pow_succ, emod_step A hA, emod_step B hB]
    have hp : (0 : Int) < 256 ^ m := Int.pow_pos (by decide)
    have ra := Int.emod_nonneg A (show (256 : Int) ^ m ≠ 0 by omega)
    have ra' := Int.emod_lt_of_pos A hp
    have rb := Int.emod_nonneg B (show (256 : Int) ^ m ≠ 0 by omega)
    have rb' := Int.emod_lt_of_pos B hp
    have a0 : 0 ≤ A / 256 ^ m % 256 ∧ A / 256 ^ m % 256 < 256 := by omega
    have b0 : 0 ≤ B / 256 ^ m % 256 ∧ B / 256 ^ m % 256 < 256 := by omega
    obtain ⟨q1, q2⟩ := ofNat_lt a0.1 a0.2 b0.1 b0.2
    generalize A / 256 ^ m % 256 = a at *
    generalize B / 256 ^ m % 256 = b at *
    generalize A % 256 ^ m = x at *
    generalize B % 256 ^ m = y at *
    generalize (256 : Int) ^ m = P at *
    by_cases h : a = b
    · subst h
      rw [if_pos rfl, ih]
      have e1 : (x + P * a = y + P * a) = (x = y) := by rw [eq_iff_iff]; omega
      have e2 : (x + P * a < y + P * a) = (x < y) := by rw [eq_iff_iff]; omega
      simp only [e1, e2]
    · rw [if_neg (fun e => h (q1.1 e))]
      rcases Int.lt_or_gt_of_ne h with hl | hl
      · have hm1 : P * a + P ≤ P * b := by
          have := Int.mul_le_mul_of_nonneg_left (show a + 1 ≤ b by omega) (Int.le_of_lt hp)
          rw [Int.mul_add, Int.mul_one] at this; exact this
        rw [if_neg (by omega), decide_eq_true (q2.2 hl), decide_eq_true (show x + P * a < y + P * b by omega)]
      · have hm1 : P * b + P ≤ P * a := by
          have := Int.mul_le_mul_of_nonneg_left (show b + 1 ≤ a by omega) (Int.le_of_lt hp)
          rw [Int.mul_add, Int.mul_one] at this; exact this
        rw [if_neg (by omega), decide_eq_false (fun e => by have := q2.1 e; omega), decide_eq_false (show ¬ x + P * a < y + P * b by omega)]
theorem topN_order {n m : Int} (h0 : -9223372036854775808 ≤ n) (h1 : n < 9223372036854775808) (h2 : -9223372036854775808 ≤ m) (h3 : m < 9223372036854775808) : (topN n = topN m ↔ n = m) ∧ (topN n < topN m ↔ n < m) := by
  unfold topN; omega
theorem kind_of {v : S37} (hg : good v = true) : (v.f0 = 0 ∧ v.f1 = 0 ∧ v.f2 = ByteArray.empty) ∨ (v.f0 = 1 ∧ v.f2 = ByteArray.empty) ∨ (v.f0 = 2 ∧ v.f1 = 0) := by
  have hg' : goodB v.f0 v.f1 v.f2 = true := hg
  unfold goodB at hg'
  by_cases k0 : v.f0 = 0
  · rw [if_pos k0, Bool.and_eq_true] at hg'
    exact .inl ⟨k0, by simpa using hg'.1, empty_of _ (by simpa using hg'.2)⟩
  · rw [if_neg k0] at hg'
    by_cases k1 : v.f0 = 1
    · rw [if_pos k1] at hg'
      exact .inr (.inl ⟨k1, empty_of _ (by simpa using hg')⟩)
    · rw [if_neg k1] at hg'
      by_cases k2 : v.f0 = 2
      · rw [if_pos k2, Bool.and_eq_true] at hg'
        exact .inr (.inr ⟨k2, by simpa using hg'.1⟩)
      · rw [if_neg k2] at hg'; cases hg'
theorem formB_kind {v : S37} (hg : good v = true) : ∃ t, formB v = UInt8.ofNat (v.f0 + 1).toNat :: t := by
  rcases kind_of hg with ⟨k, _⟩ | ⟨k, _⟩ | ⟨k, _⟩
  · exact ⟨[], by unfold formB; rw [if_neg (by omega), if_neg (by omega), k]; rfl⟩
  · exact ⟨_, by unfold formB; rw [if_pos k, k]; rfl⟩
  · exact ⟨_, by unfold formB; rw [if_neg (by omega), if_pos k, k]; rfl⟩
theorem less_asym : ∀ s t : List UInt8, Op.bytesLess s t = true → Op.bytesLess t s = false
  | [], [], h => by simp [Op.bytesLess] at h
  | [], _ :: _, _ => by simp [Op.bytesLess]
  | _ :: _, [], h => by simp [Op.bytesLess] at h
  | c :: s, d :: t, h => by
    rw [less_cons] at h ⊢
    by_cases e : c = d
    · rw [if_pos e] at h; rw [if_pos e.symm]; exact less_asym s t h
    · rw [if_neg e] at h; rw [if_neg (fun x => e x.symm)]
      rw [decide_eq_true_eq, UInt8.lt_iff_toNat_lt] at h
      rw [decide_eq_false_iff_not, UInt8.lt_iff_toNat_lt]; omega
theorem less_tri : ∀ s t : List UInt8, Op.bytesLess s t = false → Op.bytesLess t s = false → s = t
  | [], [], _, _ => rfl
  | [], _ :: _, h, _ => by simp [Op.bytesLess] at h
  | _ :: _, [], _, h => by simp [Op.bytesLess] at h
  | c :: s, d :: t, h, h2 => by
    rw [less_cons] at h h2
    by_cases e : c = d
    · rw [if_pos e] at h; rw [if_pos e.symm] at h2
      rw [e, less_tri s t h h2]
    · rw [if_neg e, decide_eq_false_iff_not, UInt8.lt_iff_toNat_lt] at h
      rw [if_neg (fun x => e x.symm), decide_eq_false_iff_not, UInt8.lt_iff_toNat_lt] at h2
      exact absurd (UInt8.toNat_inj.1 (by omega)) e
theorem list_inj {a b : ByteArray} (h : a.toList = b.toList) : a = b := by
  rw [Lib.toList_data, Lib.toList_data] at h
  cases a; cases b
  simp only [ByteArray.mk.injEq]
  exact Array.toList_inj.1 h
theorem cmpI_anti (a b : Int) : cmpI b a = -(cmpI a b) := by
  unfold cmpI; split <;> split <;> (try split) <;> omega
theorem cmpS_anti (a b : ByteArray) : cmpS b a = -(cmpS a b) := by
  unfold cmpS
  by_cases h : Op.bytesLess a.toList b.toList = true
  · have := less_asym _ _ h
    simp [h, this]
  · by_cases h2 : Op.bytesLess b.toList a.toList = true
    · simp [h, h2]
    · simp [h, h2]
theorem valC_anti (v w : S37) : valC w v = -(valC v w) := by
  unfold valC
  rw [cmpI_anti v.f0 w.f0, cmpI_anti v.f1 w.f1, cmpS_anti v.f2 w.f2]
  split <;> split <;> (try split) <;> (try split) <;> omega
theorem cmpR_anti : ∀ a b : List S37, cmpR b a = -(cmpR a b)
  | [], [] => rfl
  | [], _ :: _ => rfl
  | _ :: _, [] => rfl
  | v :: a, w :: b => by
    show (if valC w v = 0 then cmpR b a else valC w v) = -(if valC v w = 0 then cmpR a b else valC v w)
    rw [cmpR_anti a b, valC_anti v w]
    split <;> split <;> omega
theorem cmpR_range : ∀ a b : List S37, -1 ≤ cmpR a b ∧ cmpR a b ≤ 1
  | [], [] => by simp [cmpR]
  | [], _ :: _ => by simp [cmpR]
  | _ :: _, [] => by simp [cmpR]
  | v :: a, w :: b => by
    have h := cmpR_range a b
    have hv : -1 ≤ valC v w ∧ valC v w ≤ 1 := by
      unfold valC cmpI cmpS
      constructor <;> (repeat' split) <;> omega
    show -1 ≤ (if valC v w = 0 then cmpR a b else valC v w) ∧ (if valC v w = 0 then cmpR a b else valC v w) ≤ 1
    split
    · exact h
    · exact hv
theorem val_less (v w : S37) (hv : good v = true) (hw : good w = true) (v0 : -9223372036854775808 ≤ v.f1 ∧ v.f1 < 9223372036854775808) (w0 : -9223372036854775808 ≤ w.f1 ∧ w.f1 < 9223372036854775808) (X Y : List UInt8) : Op.bytesLess (formB v ++ X) (formB w ++ Y) = if valC v w = 0 then Op.bytesLess X Y else decide (valC v w < 0) := by
  by_cases h0 : v.f0 = w.f0
  · rw [val_below v w hv hw]
    unfold belowB
    rw [if_pos h0, if_pos h0.symm]
    rcases kind_of hv with ⟨k, _, e⟩ | ⟨k, e⟩ | ⟨k, e⟩
    · have e2 : w.f2 = ByteArray.empty := by
        rcases kind_of hw with ⟨k2, _, e2⟩ | ⟨k2, e2⟩ | ⟨k2, e2⟩
        · exact e2
        · exact e2
        · exfalso; omega
      have f1 : formB v = [1] := by unfold formB; rw [if_neg (by omega), if_neg (by omega)]
      have f2 : formB w = [1] := by unfold formB; rw [if_neg (by omega), if_neg (by omega)]
      rw [f1, f2, e, e2, if_neg (show ¬ v.f0 = 1 by omega), if_neg (show ¬ w.f0 = 1 by omega)]
      show Op.bytesLess (1 :: X) (1 :: Y) = _
      rw [less_cons, if_pos rfl, less_irr]
      simp
    · have k2 : w.f0 = 1 := by omega
      have f1 : formB v = 2 :: toB (beFrom (topN v.f1) 8) := by unfold formB; rw [if_pos k]
      have f2 : formB w = 2 :: toB (beFrom (topN w.f1) 8) := by unfold formB; rw [if_pos k2]
      obtain ⟨o1, o2⟩ := topN_order v0.1 v0.2 w0.1 w0.2
      obtain ⟨o3, o4⟩ := topN_order w0.1 w0.2 v0.1 v0.2
      have rv : 0 ≤ topN v.f1 ∧ topN v.f1 < 18446744073709551616 := by unfold topN; omega
      have rw' : 0 ≤ topN w.f1 ∧ topN w.f1 < 18446744073709551616 := by unfold topN; omega
      rw [f1, f2, if_pos k, if_pos k2]
      show Op.bytesLess (2 :: (toB (beFrom (topN v.f1) 8) ++ X)) (2 :: (toB (beFrom (topN w.f1) 8) ++ Y)) = _
      rw [less_cons, if_pos rfl, be_less X Y _ _ rv.1 rw'.1 8 (by omega), show (256 : Int) ^ 8 = 18446744073709551616 by decide, Int.emod_eq_of_lt rv.1 rv.2, Int.emod_eq_of_lt rw'.1 rw'.2]
      by_cases a1 : v.f1 < w.f1
      · have n : ¬ topN v.f1 = topN w.f1 := fun e => by have := o1.1 e; omega
        simp [a1, n, o2.2 a1]
      · by_cases a2 : w.f1 < v.f1
        · have n : ¬ topN v.f1 = topN w.f1 := fun e => by have := o1.1 e; omega
          have n2 : ¬ topN v.f1 < topN w.f1 := fun e => by have := o2.1 e; omega
          simp [a1, a2, n]
          exact Int.not_lt.1 n2
        · have n : topN v.f1 = topN w.f1 := o1.2 (by omega)
          simp [a1, a2, n]
    · have k2 : w.f0 = 2 := by omega
      have f1 : formB v = 3 :: (turn v.f2.data.toList ++ [0, 0]) := by unfold formB; rw [if_neg (by omega), if_pos k]
      have f2 : formB w = 3 :: (turn w.f2.data.toList ++ [0, 0]) := by unfold formB; rw [if_neg (by omega), if_pos k2]
      rw [f1, f2, if_neg (show ¬ v.f0 = 1 by omega), if_neg (show ¬ w.f0 = 1 by omega), Lib.toList_data, Lib.toList_data]
      have e1 : ((3 : UInt8) :: (turn v.f2.data.toList ++ [0, 0])) ++ X = 3 :: (turn v.f2.data.toList ++ 0 :: 0 :: X) := by simp
      have e2 : ((3 : UInt8) :: (turn w.f2.data.toList ++ [0, 0])) ++ Y = 3 :: (turn w.f2.data.toList ++ 0 :: 0 :: Y) := by simp
      rw [e1, e2, less_cons, if_pos rfl, text_less]
      by_cases h1 : Op.bytesLess v.f2.data.toList w.f2.data.toList = true
      · have n : ¬ v.f2.data.toList = w.f2.data.toList := fun e => by rw [e, less_irr] at h1; cases h1
        rw [if_neg n, h1]; simp
      · have h1' : Op.bytesLess v.f2.data.toList w.f2.data.toList = false := by simpa using h1
        by_cases h2 : Op.bytesLess w.f2.data.toList v.f2.data.toList = true
        · have n : ¬ v.f2.data.toList = w.f2.data.toList := fun e => by rw [e, less_irr] at h2; cases h2
          rw [if_neg n, h1', h2]; simp
        · have h2' : Op.bytesLess w.f2.data.toList v.f2.data.toList = false := by simpa using h2
          rw [if_pos (less_tri _ _ h1' h2'), h1', h2']; simp
  · have hvk : 0 ≤ v.f0 ∧ v.f0 ≤ 2 := by rcases kind_of hv with ⟨k, _⟩ | ⟨k, _⟩ | ⟨k, _⟩ <;> omega
    have hwk : 0 ≤ w.f0 ∧ w.f0 ≤ 2 := by rcases kind_of hw with ⟨k, _⟩ | ⟨k, _⟩ | ⟨k, _⟩ <;> omega
    obtain ⟨t1, f1⟩ := formB_kind hv
    obtain ⟨t2, f2⟩ := formB_kind hw
    obtain ⟨q1, q2⟩ := ofNat_lt (a := v.f0 + 1) (b := w.f0 + 1) (by omega) (by omega) (by omega) (by omega)
    rw [f1, f2]
    show Op.bytesLess (_ :: (t1 ++ X)) (_ :: (t2 ++ Y)) = _
    rw [less_cons, if_neg (fun e => h0 (by have := q1.1 e; omega)), val_below v w hv hw]
    unfold belowB
    rw [if_neg h0, if_neg (show ¬ w.f0 = v.f0 from fun e => h0 e.symm)]
    by_cases a1 : v.f0 < w.f0
    · rw [decide_eq_true (q2.2 (by omega)), decide_eq_true a1]; simp
    · have a2 : w.f0 < v.f0 := by omega
      rw [decide_eq_false (fun e => by have := q2.1 e; omega), decide_eq_false a1, decide_eq_true a2]; simp
theorem row_less : ∀ a b : List S37, a.all good = true → b.all good = true → (∀ v ∈ a, -9223372036854775808 ≤ v.f1 ∧ v.f1 < 9223372036854775808) → (∀ v ∈ b, -9223372036854775808 ≤ v.f1 ∧ v.f1 < 9223372036854775808) → Op.bytesLess (rowB a) (rowB b) = decide (cmpR a b < 0)
  | [], [], _, _, _, _ => rfl
  | [], w :: b, _, _, _, _ => by
    obtain ⟨c, t, h, _⟩ := formB_head w
    show Op.bytesLess [] (formB w ++ rowB b) = _
    rw [h]; rfl
  | v :: a, [], _, _, _, _ => by
    obtain ⟨c, t, h, _⟩ := formB_head v
    show Op.bytesLess (formB v ++ rowB a) [] = _
    rw [h]; rfl
  | v :: a, w :: b, ga, gb, ra, rb => by
    rw [List.all_cons, Bool.and_eq_true] at ga gb
    show Op.bytesLess (formB v ++ rowB a) (formB w ++ rowB b) = decide ((if valC v w = 0 then cmpR a b else valC v w) < 0)
    rw [val_less v w ga.1 gb.1 (ra v (by simp)) (rb w (by simp)), row_less a b ga.2 gb.2 (fun u h => ra u (by simp [h])) (fun u h => rb u (by simp [h]))]
    split <;> rfl
end Go.Proofs.YtdaidcfpikeooaaDoor.To
