/- DERIVED. What the printed functions come to, as far as this law asks it. Conditions: those that each lemma names. -/
import Derived.Test.YtkkfkccfnfjbiaaHy
import Derived.RowKit
import Derived.Laws.BytesArg
import Derived.Laws.Strings
import Derived.OpenShut
import Derived.Test.YtkkfkccfnfjbiaaPAllx5
import Derived.Test.YtkkfkccfnfjbiaaPAllx6
import Derived.Test.YtkkfkccfnfjbiaaPAllx7
import Derived.Test.YtkkfkccfnfjbiaaPAllx8
import Derived.Test.YtkkfkccfnfjbiaaPAllx9
import Derived.Test.YtkkfkccfnfjbiaaPAllx10
import Derived.Test.YtkkfkccfnfjbiaaPAllx11
import Derived.Test.YtkkfkccfnfjbiaaPAllx12
import Derived.Test.YtkkfkccfnfjbiaaPAllx13
import Derived.Test.YtkkfkccfnfjbiaaPAllx15
import Derived.Test.YtkkfkccfnfjbiaaPAllx18
import Derived.Test.YtkkfkccfnfjbiaaPAllx26
import Derived.Test.YtkkfkccfnfjbiaaPAllx27
namespace Go.Proofs.Ytkkfkccfnfjbiaa.Ra
open Go.RowKit Go.Proofs.Ytkkfkccfnfjbiaa.PAll Go.Proofs.YtkkfkccfnfjbiaaW.PrintWords Go.Proofs.YtkkfkccfnfjbiaaW.PrintLast Go.Proofs.Ytkkfkccfnfjbiaa.Ht Go.Proofs.Ytkkfkccfnfjbiaa.Hu Go.Proofs.Ytkkfkccfnfjbiaa.Hv
set_option linter.unusedSimpArgs false
set_option linter.unusedVariables false
theorem bl_eq : ∀ (x y : List UInt8), Op.bytesLess x y = decide (x < y)
  | [], [] => by simp [Op.bytesLess]
  | _ :: _, [] => by simp [Op.bytesLess]
  | [], _ :: _ => by simp [Op.bytesLess]
  | a :: x, b :: y => by
    rw [Op.bytesLess, bl_eq x y]
    simp only [List.cons_lt_cons_iff]
    by_cases h1 : a < b <;> by_cases h2 : a = b <;> by_cases h3 : x < y <;> simp [h1, h2, h3]
/-- A change's key. -/
def K (c : S37) : List UInt8 := c.f0.toList
/-- A head's key. -/
def KH (x : S56) : List UInt8 := K (rd_T37 x.f0 0)
theorem less_iff (x y : S56) : lessB x y = true ↔ KH x < KH y ∨ (KH x = KH y ∧ x.f1 < y.f1) := by
  unfold lessB
  rw [bl_eq, bl_eq]
  show (decide (KH x < KH y) || (!(decide (KH y < KH x)) && decide (x.f1 < y.f1))) = true ↔ _
  simp only [Bool.or_eq_true, decide_eq_true_eq, Bool.and_eq_true, Bool.not_eq_true', decide_eq_false_iff_not]
  constructor
  · rintro (h | ⟨h1, h2⟩)
    · exact .inl h
    · by_cases h3 : KH x < KH y
      · exact .inl h3
      · exact .inr ⟨List.le_antisymm h1 h3, h2⟩
  · rintro (h | ⟨h1, h2⟩)
    · exact .inl h
    · exact .inr ⟨by rw [h1]; exact List.lt_irrefl _, h2⟩
def le (x y : S56) : Prop := lessB y x = false
theorem le_iff (x y : S56) : le x y ↔ KH x < KH y ∨ (KH x = KH y ∧ x.f1 ≤ y.f1) := by
  unfold le
  rw [← Bool.not_eq_true, less_iff]
  constructor
  · intro h
    have h1 : ¬ KH y < KH x := fun h1 => h (.inl h1)
    by_cases h2 : KH x < KH y
    · exact .inl h2
    · have h3 : KH x = KH y := List.le_antisymm h1 h2
      exact .inr ⟨h3, by have : ¬ y.f1 < x.f1 := fun h4 => h (.inr ⟨h3.symm, h4⟩); omega⟩
  · rintro (h | ⟨h, h1⟩) (h2 | ⟨h2, h3⟩)
    · exact List.lt_irrefl _ (List.lt_trans h h2)
    · rw [h2] at h; exact List.lt_irrefl _ h
    · rw [h] at h2; exact List.lt_irrefl _ h2
    · omega
end Go.Proofs.Ytkkfkccfnfjbiaa.Ra
namespace Go.Proofs.Ytkkfkccfnfjbiaa.Rb
open Go.RowKit Go.Proofs.Ytkkfkccfnfjbiaa.PAll Go.Proofs.YtkkfkccfnfjbiaaW.PrintWords Go.Proofs.YtkkfkccfnfjbiaaW.PrintLast Go.Proofs.Ytkkfkccfnfjbiaa.Ht Go.Proofs.Ytkkfkccfnfjbiaa.Hu Go.Proofs.Ytkkfkccfnfjbiaa.Hv Go.Proofs.Ytkkfkccfnfjbiaa.Hw Go.Proofs.Ytkkfkccfnfjbiaa.Ra
set_option linter.unusedSimpArgs false
set_option linter.unusedVariables false
def Sorted (l : List S37) : Prop := l.Pairwise (fun a b => K a < K b)
theorem Sorted.ext {a b : List S37} (ha : Sorted a) (hb : Sorted b) (h : ∀ c, c ∈ a ↔ c ∈ b) : a = b := by
  induction a generalizing b with
  | nil => cases b with
    | nil => rfl
    | cons y t => exact absurd ((h y).2 (by simp)) (by simp)
  | cons x s ih =>
    cases b with
    | nil => exact absurd ((h x).1 (by simp)) (by simp)
    | cons y t =>
      obtain ⟨hx, hs⟩ := List.pairwise_cons.1 ha
      obtain ⟨hy, ht⟩ := List.pairwise_cons.1 hb
      have hxy : x = y := by
        rcases List.mem_cons.1 ((h x).1 (by simp)) with e | e
        · exact e
        · rcases List.mem_cons.1 ((h y).2 (by simp)) with e2 | e2
          · exact e2.symm
          · exact absurd (List.lt_trans (hx y e2) (hy x e)) (List.lt_irrefl _)
      subst hxy
      congr 1
      refine ih hs ht fun c => ⟨fun hc => ?_, fun hc => ?_⟩
      · rcases List.mem_cons.1 ((h c).1 (List.mem_cons_of_mem _ hc)) with e | e
        · subst e; exact absurd (hx c hc) (List.lt_irrefl _)
        · exact e
      · rcases List.mem_cons.1 ((h c).2 (List.mem_cons_of_mem _ hc)) with e | e
        · subst e; exact absurd (hy c hc) (List.lt_irrefl _)
        · exact e
theorem Sorted.key {l : List S37} (h : Sorted l) {a b : S37} (ha : a ∈ l) (hb : b ∈ l) (hk : K a = K b) : a = b := by
  induction l with
  | nil => cases ha
  | cons x t ih =>
    obtain ⟨hx, ht⟩ := List.pairwise_cons.1 h
    rcases List.mem_cons.1 ha with e1 | h1 <;> rcases List.mem_cons.1 hb with e2 | h2
    · exact e1.trans e2.symm
    · exact absurd (hx _ h2) (by rw [← hk, e1]; exact List.lt_irrefl _)
    · exact absurd (hx _ h1) (by rw [hk, e2]; exact List.lt_irrefl _)
    · exact ih ht h1 h2
/-- c is what the first of the heads that know its key has. -/
def Has (vs : List S56) (c : S37) : Prop := ∃ h ∈ vs, c ∈ h.f0 ∧ ∀ h' ∈ vs, ∀ c' ∈ h'.f0, K c' = K c → h.f1 ≤ h'.f1
theorem Has.drop_nil {x : S56} {t : List S56} (hx : x.f0 = []) (c : S37) : Has (x :: t) c ↔ Has t c := by
  constructor
  · rintro ⟨y, h1, h2, h3⟩
    rcases List.mem_cons.1 h1 with rfl | h1
    · rw [hx] at h2; cases h2
    · exact ⟨y, h1, h2, fun h' hh => h3 h' (List.mem_cons_of_mem _ hh)⟩
  · rintro ⟨y, h1, h2, h3⟩
    refine ⟨y, List.mem_cons_of_mem _ h1, h2, fun h' hh c' hc' he => ?_⟩
    rcases List.mem_cons.1 hh with rfl | hh
    · rw [hx] at hc'; cases hc'
    · exact h3 h' hh c' hc' he
theorem key_le {l : List S37} {c : S37} {r : List S37} (h : Sorted (c :: r)) {d : S37} (hd : d ∈ c :: r) : ¬ K d < K c := by
  rcases List.mem_cons.1 hd with rfl | hd
  · exact List.lt_irrefl _
  · exact fun h1 => List.lt_irrefl _ (List.lt_trans h1 ((List.pairwise_cons.1 h).1 d hd))
theorem not_lt_trans {a b c : List UInt8} (h : ¬ b < a) (k : ¬ c < b) : ¬ c < a := fun h1 => k (by
  by_cases h2 : a < b
  · exact List.lt_trans h1 h2
  · rw [← List.le_antisymm h h2]; exact h1)
/-- What stands in another head stands behind the least head. -/
theorem behind {h y : S56} {c : S37} {r : List S37} (e : h.f0 = c :: r) (hy : Sorted y.f0) (hle : le h y) {d : S37} (hd : d ∈ y.f0) : ¬ K d < K c := by
  cases hl : y.f0 with
  | nil => rw [hl] at hd; cases hd
  | cons q s =>
    rw [hl] at hd hy
    have h1 := key_le hy (l := []) hd
    have e1 : KH h = K c := by unfold KH; rw [e]; rfl
    have e2 : KH y = K q := by unfold KH; rw [hl]; rfl
    have h2 : ¬ K q < K c := by
      rw [le_iff, e1, e2] at hle
      rcases hle with hle | ⟨hle, _⟩
      · exact fun h3 => List.lt_irrefl _ (List.lt_trans hle h3)
      · rw [hle]; exact List.lt_irrefl _
    exact not_lt_trans h2 h1
end Go.Proofs.Ytkkfkccfnfjbiaa.Rb
namespace Go.Proofs.Ytkkfkccfnfjbiaa.Rc
open Go.RowKit Go.Proofs.Ytkkfkccfnfjbiaa.PAll Go.Proofs.YtkkfkccfnfjbiaaW.PrintWords Go.Proofs.YtkkfkccfnfjbiaaW.PrintLast Go.Proofs.Ytkkfkccfnfjbiaa.Ht Go.Proofs.Ytkkfkccfnfjbiaa.Hu Go.Proofs.Ytkkfkccfnfjbiaa.Hv Go.Proofs.Ytkkfkccfnfjbiaa.Hw Go.Proofs.Ytkkfkccfnfjbiaa.Ra Go.Proofs.Ytkkfkccfnfjbiaa.Rb
set_option linter.unusedSimpArgs false
set_option linter.unusedVariables false
theorem w64 {x : Int} (h0 : -9223372036854775808 ≤ x) (h1 : x < 9223372036854775808) : wrap64 x = x := Go.IntWalk.wrap64_in _ (by omega)
theorem rd_get (l : List S37) (i : Nat) (h : i < l.length) : rd_T37 l (i : Int) = l[i] := by
  unfold rd_T37
  rw [Int.toNat_natCast, List.getD_eq_getElem?_getD, List.getElem?_eq_getElem h]; rfl
theorem up1 {i : Nat} (h : i < 9223372036854775807) : wrap64 ((i : Int) + 1) = ((i + 1 : Nat) : Int) := by rw [w64 (by omega) (by omega)]; omega
def tidyB (c : S37) : Bool := !c.f2 || decide (c.f1.toList = [])
def chainB : Option (List UInt8) → List S37 → Bool
  | _, [] => true
  | none, c :: t => tidyB c && chainB (some (K c)) t
  | some q, c :: t => decide (q < K c) && (tidyB c && chainB (some (K c)) t)
def rightB (l : List S37) : Bool := chainB none l
def prev (l : List S37) : Nat → Option (List UInt8)
  | 0 => none
  | i + 1 => some (K (rd_T37 l (i : Int)))
theorem right_l0 (l : List S37) (hl : l.length < 9223372036854775807) : ∀ (m i : Nat), i + m = l.length → Ev (fun k => run_Right.l0 k l l (l.length : Int) (i : Int)) (chainB (prev l i) (l.drop i))
  | 0, i, h => by
    refine Ev.step (fun _ => run_Right.l0.eq_2 ..) ?_
    rw [List.drop_eq_nil_of_le (by omega)]
    simp only [if_neg (show ¬ (i : Int) < (l.length : Int) by omega)]
    cases prev l i <;> exact Ev.now _
  | m + 1, i, h => by
    have hi : i < l.length := by omega
    refine Ev.step (fun _ => run_Right.l0.eq_2 ..) ?_
    simp only [if_pos (show (i : Int) < (l.length : Int) by omega), if_pos (show (0 : Int) ≤ (i : Int) by omega), rd_get l i hi]
    have ih := right_l0 l hl m (i + 1) (by omega)
    rw [List.drop_eq_getElem_cons hi]
    have hp : prev l (i + 1) = some (K l[i]) := by show some _ = _; rw [rd_get l i hi]
    rw [hp] at ih
    rw [up1 (by omega)]
    have hrest : Ev (fun n => if l[i].f2 = true then (if (l[i].f1).toList = ([] : List UInt8) then run_Right.l0 n l l (l.length : Int) ((i + 1 : Nat) : Int) else some false) else run_Right.l0 n l l (l.length : Int) ((i + 1 : Nat) : Int)) (tidyB l[i] && chainB (some (K l[i])) (l.drop (i + 1))) := by
      unfold tidyB
      by_cases h1 : l[i].f2 = true
      · simp only [if_pos h1]
        by_cases h2 : (l[i].f1).toList = []
        · simp only [if_pos h2, h1, h2, decide_true, Bool.or_true, Bool.true_and]; exact ih
        · simp only [if_neg h2, h1, h2, decide_false, Bool.not_true, Bool.or_false, Bool.false_and]; exact Ev.now _
      · simp only [if_neg h1]
        rw [show l[i].f2 = false by simpa using h1]
        simp only [Bool.not_false, Bool.true_or, Bool.true_and]; exact ih
    cases i with
    | zero =>
      simp only [if_neg (show ¬ ((0 : Nat) : Int) > 0 by omega)]
      exact hrest
    | succ j =>
      simp only [if_pos (show ((j + 1 : Nat) : Int) > 0 by omega)]
      have hw : wrap64 (((j + 1 : Nat) : Int) - 1) = (j : Int) := by rw [w64 (by omega) (by omega)]; omega
      simp only [hw, if_pos (show (0 : Int) ≤ (j : Int) by omega), if_pos (show (j : Int) < (l.length : Int) by omega)]
      show Ev _ (decide (K (rd_T37 l (j : Int)) < K l[j + 1]) && _)
      rw [bl_eq]
      by_cases h3 : K (rd_T37 l (j : Int)) < K l[j + 1]
      · have h3' : decide ((rd_T37 l (j : Int)).f0.toList < l[j + 1].f0.toList) = true := decide_eq_true h3
        simp only [h3', if_true, h3, decide_true, Bool.true_and]
        exact hrest
      · have h3' : decide ((rd_T37 l (j : Int)).f0.toList < l[j + 1].f0.toList) = false := decide_eq_false h3
        simp only [h3', Bool.false_eq_true, if_false, h3, decide_false, Bool.false_and]
        exact Ev.now _
theorem right_ev (l : List S37) (hl : l.length < 9223372036854775807) : Ev (fun k => run_Right.f k l) (rightB l) := by
  unfold run_Right.f
  exact right_l0 l hl l.length 0 (by omega)
theorem ref_right_l0 (l : List S37) (hl : l.length < 9223372036854775807) : ∀ (m i : Nat), i + m = l.length → Ev (fun k => shelfmarkref09_Right.l0 k l (i : Int)) (chainB (prev l i) (l.drop i))
  | 0, i, h => by
    refine Ev.step (fun _ => shelfmarkref09_Right.l0.eq_2 ..) ?_
    rw [List.drop_eq_nil_of_le (by omega)]
    simp only [if_neg (show ¬ (i : Int) < (l.length : Int) by omega)]
    cases prev l i <;> exact Ev.now _
  | m + 1, i, h => by
    have hi : i < l.length := by omega
    have ih := ref_right_l0 l hl m (i + 1) (by omega)
    have hp : prev l (i + 1) = some (K l[i]) := by show some _ = _; rw [rd_get l i hi]
    rw [hp] at ih
    have hj : ∀ b : Bool, Ev (fun k => shelfmarkref09_Right.j1 k l (i : Int) b) (if b = true then false else match prev l i with | none => chainB (some (K l[i])) (l.drop (i + 1)) | some q => decide (q < K l[i]) && chainB (some (K l[i])) (l.drop (i + 1))) := by
      intro b
      refine Ev.step (fun _ => shelfmarkref09_Right.j1.eq_2 ..) ?_
      cases b with
      | true => simp only [if_true]; exact Ev.now _
      | false =>
        simp only [Bool.false_eq_true, if_false]
        rw [up1 (by omega)]
        cases i with
        | zero =>
          simp only [if_neg (show ¬ ((0 : Nat) : Int) > 0 by omega)]
          exact ih
        | succ j =>
          simp only [if_pos (show ((j + 1 : Nat) : Int) > 0 by omega)]
          have hw : wrap64 (((j + 1 : Nat) : Int) - 1) = (j : Int) := by rw [w64 (by omega) (by omega)]; omega
          simp only [hw, if_pos (show (0 : Int) ≤ (j : Int) by omega), if_pos (show (j : Int) < (l.length : Int) by omega), if_pos (show (0 : Int) ≤ ((j + 1 : Nat) : Int) by omega), if_pos (show ((j + 1 : Nat) : Int) < (l.length : Int) by omega)]
          show Ev _ (decide (K (rd_T37 l (j : Int)) < K l[j + 1]) && _)
          rw [bl_eq, rd_get l (j + 1) hi]
          by_cases h3 : K (rd_T37 l (j : Int)) < K l[j + 1]
          · have h3' : decide ((rd_T37 l (j : Int)).f0.toList < l[j + 1].f0.toList) = true := decide_eq_true h3
            simp only [h3', if_true, h3, decide_true, Bool.true_and]
            exact ih
          · have h3' : decide ((rd_T37 l (j : Int)).f0.toList < l[j + 1].f0.toList) = false := decide_eq_false h3
            simp only [h3', Bool.false_eq_true, if_false, h3, decide_false, Bool.false_and]
            exact Ev.now _
    refine Ev.step (fun _ => shelfmarkref09_Right.l0.eq_2 ..) ?_
    simp only [if_pos (show (i : Int) < (l.length : Int) by omega), if_pos (show (0 : Int) ≤ (i : Int) by omega), rd_get l i hi]
    rw [List.drop_eq_getElem_cons hi]
    have hfin : chainB (prev l i) (l[i] :: l.drop (i + 1)) = (if (!(tidyB l[i])) = true then false else match prev l i with | none => chainB (some (K l[i])) (l.drop (i + 1)) | some q => decide (q < K l[i]) && chainB (some (K l[i])) (l.drop (i + 1))) := by
      cases hq : prev l i <;> simp only [chainB] <;> cases tidyB l[i] <;> simp
    rw [hfin]
    unfold tidyB
    by_cases h1 : l[i].f2 = true
    · simp only [if_pos h1, h1]
      have : (!(!true || decide ((l[i].f1).toList = []))) = ((l[i].f1).toList != []) := by
        by_cases h2 : (l[i].f1).toList = [] <;> simp [h2]
      rw [this]
      exact hj _
    · simp only [if_neg h1]
      have : (!(!l[i].f2 || decide ((l[i].f1).toList = []))) = false := by
        rw [show l[i].f2 = false by simpa using h1]; simp
      rw [this]
      exact hj _
theorem ref_right_ev (l : List S37) (hl : l.length < 9223372036854775807) : Ev (fun k => shelfmarkref09_Right.f k l) (rightB l) := by
  unfold shelfmarkref09_Right.f
  exact ref_right_l0 l hl l.length 0 (by omega)
end Go.Proofs.Ytkkfkccfnfjbiaa.Rc
namespace Go.Proofs.Ytkkfkccfnfjbiaa.Rd
open Go.RowKit Go.Proofs.Ytkkfkccfnfjbiaa.PAll Go.Proofs.YtkkfkccfnfjbiaaW.PrintWords Go.Proofs.YtkkfkccfnfjbiaaW.PrintLast Go.Proofs.Ytkkfkccfnfjbiaa.Ht Go.Proofs.Ytkkfkccfnfjbiaa.Hu Go.Proofs.Ytkkfkccfnfjbiaa.Hv Go.Proofs.Ytkkfkccfnfjbiaa.Hw Go.Proofs.Ytkkfkccfnfjbiaa.Ra Go.Proofs.Ytkkfkccfnfjbiaa.Rb Go.Proofs.Ytkkfkccfnfjbiaa.Rc
set_option linter.unusedSimpArgs false
set_option linter.unusedVariables false
theorem Ev_map {α β : Type} {g : Nat → Option α} {a : α} (f : α → β) (h : Ev g a) : Ev (fun k => (g k).map f) (f a) := by
  obtain ⟨n, hn⟩ := h
  exact ⟨n, fun k hk => by show (g k).map f = _; rw [hn k hk]; rfl⟩
theorem same_l0 (l : List S37) (hl : l.length < 9223372036854775807) : ∀ (m i : Nat), i + m = l.length → Ev (fun k => shelfmarkref09_Same.l0 k l l (i : Int)) true
  | 0, i, h => by
    refine Ev.step (fun _ => shelfmarkref09_Same.l0.eq_2 ..) (Ev.congr (fun k => ?_) (Ev.now _))
    rw [if_neg (by omega)]
  | m + 1, i, h => by
    refine Ev.step (fun _ => shelfmarkref09_Same.l0.eq_2 ..) (Ev.congr (fun k => ?_) (same_l0 l hl m (i + 1) (by omega)))
    rw [if_pos (by omega), if_pos (by omega), if_pos (by omega), if_neg (by simp), up1 (by omega)]
theorem same_ev (l : List S37) (hl : l.length < 9223372036854775807) : Ev (fun k => shelfmarkref09_Same.f k l l) true := by
  unfold shelfmarkref09_Same.f
  simp only [if_true]
  exact same_l0 l hl l.length 0 (by omega)
end Go.Proofs.Ytkkfkccfnfjbiaa.Rd
namespace Go.Proofs.Ytkkfkccfnfjbiaa.Re
open Go.RowKit Go.Proofs.Ytkkfkccfnfjbiaa.PAll Go.Proofs.YtkkfkccfnfjbiaaW.PrintWords Go.Proofs.YtkkfkccfnfjbiaaW.PrintLast Go.Proofs.Ytkkfkccfnfjbiaa.Ra Go.Proofs.Ytkkfkccfnfjbiaa.Rb Go.Proofs.Ytkkfkccfnfjbiaa.Rc Go.Proofs.Ytkkfkccfnfjbiaa.Rd
set_option linter.unusedSimpArgs false
set_option linter.unusedVariables false
theorem mn_le (n : Nat) : 0 ≤ mn (n : Int) 4001 ∧ mn (n : Int) 4001 ≤ 4001 := by unfold mn; omega
end Go.Proofs.Ytkkfkccfnfjbiaa.Re
namespace Go.Proofs.Ytkkfkccfnfjbiaa.Pk
open Go.RowKit

/-- Every number of the list is a byte. -/
def Bytes (l : List Int) : Prop := ∀ x ∈ l, 0 ≤ x ∧ x < 256

theorem Bytes.nil : Bytes [] := fun _ h => by cases h
theorem Bytes.cons {c : Int} {l : List Int} (h0 : 0 ≤ c) (h1 : c < 256) (h : Bytes l) : Bytes (c :: l) := by
  intro x hx
  rcases List.mem_cons.1 hx with rfl | hx
  · exact ⟨h0, h1⟩
  · exact h x hx
theorem Bytes.head {c : Int} {l : List Int} (h : Bytes (c :: l)) : 0 ≤ c ∧ c < 256 := h c (List.mem_cons_self ..)
theorem Bytes.tail {c : Int} {l : List Int} (h : Bytes (c :: l)) : Bytes l := fun x hx => h x (List.mem_cons_of_mem _ hx)
theorem Bytes.append {a b : List Int} (ha : Bytes a) (hb : Bytes b) : Bytes (a ++ b) := by
  intro x hx
  rcases List.mem_append.1 hx with h | h
  · exact ha x h
  · exact hb x h
theorem Bytes.drop {l : List Int} (h : Bytes l) (i : Nat) : Bytes (l.drop i) := fun x hx => h x (List.mem_of_mem_drop hx)
theorem Bytes.take {l : List Int} (h : Bytes l) (i : Nat) : Bytes (l.take i) := fun x hx => h x (List.mem_of_mem_take hx)
theorem Bytes.left {a b : List Int} (h : Bytes (a ++ b)) : Bytes a := fun x hx => h x (List.mem_append_left _ hx)
theorem Bytes.get {l : List Int} (h : Bytes l) (i : Nat) : 0 ≤ l.getD i 0 ∧ l.getD i 0 < 256 := by
  by_cases hi : i < l.length
  · have : l.getD i 0 = l[i] := by simp [List.getD, hi]
    rw [this]
    exact h _ (List.getElem_mem hi)
  · have : l.getD i 0 = 0 := by simp [List.getD, hi]
    rw [this]
    omega

/-! ### The form of a number -/

/-- The form of a number. -/
def encN (n : Nat) : List Int := if n < 128 then [(n : Int)] else ((128 + n % 128 : Nat) : Int) :: encN (n / 128)
termination_by n
decreasing_by omega

theorem encN_small {n : Nat} (h : n < 128) : encN n = [(n : Int)] := by rw [encN, if_pos h]
theorem encN_great {n : Nat} (h : ¬ n < 128) : encN n = ((128 + n % 128 : Nat) : Int) :: encN (n / 128) := by rw [encN, if_neg h]

theorem encN_bytes (n : Nat) : Bytes (encN n) := by
  induction n using Nat.strongRecOn with
  | _ n ih =>
    by_cases h : n < 128
    · rw [encN_small h]; exact Bytes.cons (by omega) (by omega) Bytes.nil
    · rw [encN_great h]; exact Bytes.cons (by omega) (by omega) (ih _ (by omega))

theorem encN_pos (n : Nat) : 0 < (encN n).length := by
  by_cases h : n < 128
  · rw [encN_small h]; simp
  · rw [encN_great h]; simp

theorem encN_len (n : Nat) : ∀ j : Nat, 0 < j → n < 128 ^ j → (encN n).length ≤ j := by
  induction n using Nat.strongRecOn with
  | _ n ih =>
    intro j hj hn
    by_cases h : n < 128
    · rw [encN_small h]; simp; omega
    · rw [encN_great h]
      obtain ⟨j, rfl⟩ : ∃ i, j = i + 1 := ⟨j - 1, by omega⟩
      have h1 : n / 128 < 128 ^ j := by
        rw [Nat.pow_succ] at hn
        exact Nat.div_lt_of_lt_mul (by rw [Nat.mul_comm]; exact hn)
      have hj' : 0 < j := by
        rcases Nat.eq_zero_or_pos j with rfl | hp
        · simp at hn; omega
        · exact hp
      have := ih (n / 128) (by omega) j hj' h1
      simp; omega

theorem pow9 : (128 : Nat) ^ 9 = 9223372036854775808 := by decide

theorem encN_le {n : Nat} (h : n < 9223372036854775808) : (encN n).length ≤ 9 := encN_len n 9 (by decide) (by rw [pow9]; exact h)

/-- What is read of a number from a list of bytes on: k bytes are behind, acc is what they told, p is the place. -/
def gn : List Int → Nat → Int → Int → Int × Int × Int
  | [], _, _, _ => (0, 0, 2)
  | c :: r, k, acc, p => if 127 < c ∧ k = 8 ∨ c = 0 ∧ 0 < k then (0, 0, 3) else if c < 128 then (acc + c * 128 ^ k, p + 1, 0) else gn r (k + 1) (acc + (c - 128) * 128 ^ k) (p + 1)

/-- GetNum. -/
def getN (b : List Int) (p : Int) : Int × Int × Int := if p < 0 ∨ (b.length : Int) < p then (0, 0, 1) else gn (b.drop p.toNat) 0 0 p

theorem gn_enc (n : Nat) : ∀ (k : Nat) (acc p : Int) (rest : List Int), k ≤ 8 → n < 128 ^ (9 - k) → (0 < k → 0 < n) →
    gn (encN n ++ rest) k acc p = (acc + n * 128 ^ k, p + (encN n).length, 0) := by
  induction n using Nat.strongRecOn with
  | _ n ih =>
    intro k acc p rest hk hn h0
    by_cases h : n < 128
    · rw [encN_small h]
      simp only [List.cons_append, List.nil_append, gn, List.length_cons, List.length_nil]
      rw [if_neg (by omega), if_pos (by omega)]
      simp
    · rw [encN_great h]
      have hk8 : k ≠ 8 := by
        rintro rfl
        simp at hn
        omega
      have h1 : n / 128 < 128 ^ (9 - (k + 1)) := by
        have e : 9 - k = (9 - (k + 1)) + 1 := by omega
        rw [e, Nat.pow_succ] at hn
        exact Nat.div_lt_of_lt_mul (by rw [Nat.mul_comm]; exact hn)
      simp only [List.cons_append, gn]
      rw [if_neg (by omega), if_neg (by omega), ih (n / 128) (by omega) (k + 1) _ _ rest (by omega) h1 (by omega)]
      have e1 : (((128 + n % 128 : Nat) : Int) - 128) = ((n % 128 : Nat) : Int) := by omega
      have e2 : (n : Int) = ((n % 128 : Nat) : Int) + ((n / 128 : Nat) : Int) * 128 := by omega
      rw [e1]
      refine Prod.ext ?_ (Prod.ext ?_ rfl)
      · show acc + ((n % 128 : Nat) : Int) * 128 ^ k + ((n / 128 : Nat) : Int) * 128 ^ (k + 1) = acc + (n : Int) * 128 ^ k
        rw [Int.pow_succ]
        generalize (128 : Int) ^ k = q
        rw [e2, Int.add_mul, Int.mul_assoc _ 128 q, Int.mul_comm 128 q, Int.add_assoc]
      · show p + 1 + ((encN (n / 128)).length : Int) = p + ((encN (n / 128)).length + 1 : Nat)
        omega

theorem gn_inv (l : List Int) : ∀ (k : Nat) (acc p v q : Int), Bytes l → k ≤ 8 → gn l k acc p = (v, q, 0) →
    ∃ n rest, l = encN n ++ rest ∧ v = acc + (n : Int) * 128 ^ k ∧ q = p + (encN n).length ∧ n < 128 ^ (9 - k) ∧ (0 < k → 0 < n) := by
  induction l with
  | nil => intro k acc p v q _ _ h; simp [gn] at h
  | cons c r ih =>
    intro k acc p v q hb hk h
    have hc := hb.head
    simp only [gn] at h
    by_cases h1 : 127 < c ∧ k = 8 ∨ c = 0 ∧ 0 < k
    · rw [if_pos h1] at h; simp at h
    · rw [if_neg h1] at h
      by_cases h2 : c < 128
      · rw [if_pos h2] at h
        simp only [Prod.mk.injEq] at h
        have hp : 128 ^ 1 ≤ 128 ^ (9 - k) := Nat.pow_le_pow_right (by decide) (by omega)
        refine ⟨c.toNat, r, ?_, ?_, ?_, ?_, ?_⟩
        · rw [encN_small (by omega)]
          simp; omega
        · rw [show (c.toNat : Int) = c by omega]; exact h.1.symm
        · rw [encN_small (by omega)]; simp; omega
        · omega
        · omega
      · rw [if_neg h2] at h
        obtain ⟨n, rest, hl, hv, hq, hn, hn0⟩ := ih (k + 1) _ _ v q hb.tail (by omega) h
        have hn1 : 0 < n := hn0 (by omega)
        have hm : (128 * n + (c - 128).toNat) / 128 = n := by omega
        have hr : (128 * n + (c - 128).toNat) % 128 = (c - 128).toNat := by omega
        have hg : ¬ 128 * n + (c - 128).toNat < 128 := by omega
        refine ⟨128 * n + (c - 128).toNat, rest, ?_, ?_, ?_, ?_, ?_⟩
        · rw [encN_great hg, hm, hr, hl]
          simp; omega
        · rw [hv, Int.pow_succ]
          have e : ((128 * n + (c - 128).toNat : Nat) : Int) = (n : Int) * 128 + (c - 128) := by omega
          rw [e, Int.add_mul, Int.mul_assoc, Int.mul_comm 128 ((128 : Int) ^ k), Int.add_assoc, Int.add_comm ((c - 128) * 128 ^ k)]
        · rw [encN_great hg, hm, hq]
          simp; omega
        · have e : 9 - k = (9 - (k + 1)) + 1 := by omega
          rw [e, Nat.pow_succ]
          omega
        · omega

/-- Beside an error nothing is told. -/
theorem gn_err (l : List Int) : ∀ (k : Nat) (acc p v q e : Int), gn l k acc p = (v, q, e) → e ≠ 0 → v = 0 ∧ q = 0 ∧ (e = 2 ∨ e = 3) := by
  induction l with
  | nil => intro k acc p v q e h he; simp [gn] at h; omega
  | cons c r ih =>
    intro k acc p v q e h he
    simp only [gn] at h
    by_cases h1 : 127 < c ∧ k = 8 ∨ c = 0 ∧ 0 < k
    · rw [if_pos h1] at h; simp at h; omega
    · rw [if_neg h1] at h
      by_cases h2 : c < 128
      · rw [if_pos h2] at h; simp at h; omega
      · rw [if_neg h2] at h; exact ih _ _ _ _ _ _ h he

theorem getN_err {b : List Int} {p v q e : Int} (h : getN b p = (v, q, e)) (he : e ≠ 0) : v = 0 ∧ q = 0 ∧ (e = 1 ∨ e = 2 ∨ e = 3) := by
  unfold getN at h
  by_cases h1 : p < 0 ∨ (b.length : Int) < p
  · rw [if_pos h1] at h; simp at h; omega
  · rw [if_neg h1] at h
    have := gn_err _ _ _ _ _ _ _ h he
    omega

/-- What is read is a form, and it stands there. -/
theorem getN_inv {b : List Int} {p v q : Int} (hb : Bytes b) (h : getN b p = (v, q, 0)) :
    0 ≤ p ∧ ∃ n : Nat, v = n ∧ n < 9223372036854775808 ∧ q = p + (encN n).length ∧ q ≤ b.length ∧ (b.take q.toNat).drop p.toNat = encN n ∧ ∃ rest, b.drop p.toNat = encN n ++ rest := by
  unfold getN at h
  by_cases h1 : p < 0 ∨ (b.length : Int) < p
  · rw [if_pos h1] at h; simp at h
  · rw [if_neg h1] at h
    obtain ⟨n, rest, hl, hv, hq, hn, _⟩ := gn_inv _ _ _ _ _ _ (hb.drop _) (by omega) h
    have hlen : (b.drop p.toNat).length = b.length - p.toNat := List.length_drop ..
    rw [hl, List.length_append] at hlen
    refine ⟨by omega, n, ?_, ?_, hq, by omega, ?_, rest, hl⟩
    · rw [hv]; simp
    · rw [← pow9]; simpa using hn
    · rw [List.drop_take, hl, show q.toNat - p.toNat = (encN n).length by omega]
      simp

/-- A form is read as it was. -/
theorem getN_enc {b : List Int} {p : Int} {n : Nat} {rest : List Int} (h0 : 0 ≤ p) (h1 : p ≤ b.length) (hn : n < 9223372036854775808) (hd : b.drop p.toNat = encN n ++ rest) :
    getN b p = ((n : Int), p + (encN n).length, 0) := by
  unfold getN
  rw [if_neg (by omega), hd, gn_enc n 0 0 p rest (by omega) (by rw [← pow9] at hn; exact hn) (by omega)]
  simp

/-! ### The form of a text, and of a list of texts -/

/-- The form of a text (a list of bytes). -/
def encT (s : List Int) : List Int := encN s.length ++ s
theorem encT_pos (s : List Int) : 0 < (encT s).length := by
  have := encN_pos s.length
  unfold encT
  rw [List.length_append]
  omega

theorem encT_bytes {s : List Int} (h : Bytes s) : Bytes (encT s) := (encN_bytes _).append h
/-- GetText. -/
def getT (b : List Int) (p most : Int) : List Int × Int × Int :=
  if (getN b p).2.2 = 0 then
    if most < (getN b p).1 then ([], 0, 4)
    else if (b.length : Int) - (getN b p).2.1 < (getN b p).1 then ([], 0, 2)
    else ((b.take ((getN b p).2.1 + (getN b p).1).toNat).drop (getN b p).2.1.toNat, (getN b p).2.1 + (getN b p).1, 0)
  else ([], 0, (getN b p).2.2)

/-- What is read is a text's form, and it stands there. -/
theorem getT_inv {b : List Int} {p most q : Int} {s : List Int} (hb : Bytes b) (h : getT b p most = (s, q, 0)) :
    0 ≤ p ∧ q = p + (encT s).length ∧ q ≤ b.length ∧ (s.length : Int) ≤ most ∧ (b.take q.toNat).drop p.toNat = encT s ∧ Bytes s ∧ s.length < 9223372036854775808 ∧ ∃ rest, b.drop p.toNat = encT s ++ rest := by
  unfold getT at h
  by_cases h0 : (getN b p).2.2 = 0
  · rw [if_pos h0] at h
    obtain ⟨hp, n, hv, hn, hq, hqb, hcut, rest, hrest⟩ := getN_inv (b := b) (p := p) (v := (getN b p).1) (q := (getN b p).2.1) hb (by rw [← h0])
    by_cases h1 : most < (getN b p).1
    · rw [if_pos h1] at h; simp at h
    · rw [if_neg h1] at h
      by_cases h2 : (b.length : Int) - (getN b p).2.1 < (getN b p).1
      · rw [if_pos h2] at h; simp at h
      · rw [if_neg h2] at h
        simp only [Prod.mk.injEq] at h
        obtain ⟨hs, hq', _⟩ := h
        rw [hv] at hs hq' h1 h2
        generalize hm : (getN b p).2.1 = m at *
        have hlen : s.length = n := by
          rw [← hs, List.length_drop, List.length_take]
          omega
        have hsr : s = rest.take n := by
          rw [← hs, List.drop_take, show (m + (n : Int)).toNat - m.toNat = n by omega]
          have e : b.drop m.toNat = rest := by
            have := congrArg (List.drop (encN n).length) hrest
            rw [List.drop_drop, List.drop_left] at this
            rw [← this, show m.toNat = p.toNat + (encN n).length by omega]
          rw [e]
        have hr2 : b.drop p.toNat = encT s ++ rest.drop n := by
          rw [hrest]
          unfold encT
          rw [hlen, List.append_assoc]
          congr 1
          rw [hsr, List.take_append_drop]
        have hle : (encT s).length = (encN n).length + n := by unfold encT; rw [List.length_append, hlen]
        refine ⟨hp, by omega, by omega, by omega, ?_, ?_, by omega, rest.drop n, hr2⟩
        · rw [List.drop_take, hr2, show q.toNat - p.toNat = (encT s).length by omega]
          simp
        · rw [← hs]; exact (hb.take _).drop _
  · rw [if_neg h0] at h
    simp at h
    exact absurd h.2.2 h0

/-- A text's form is read as it was. -/
theorem getT_enc {b : List Int} {p most : Int} {s rest : List Int} (h0 : 0 ≤ p) (h1 : p ≤ b.length) (hn : s.length < 9223372036854775808) (hm : (s.length : Int) ≤ most) (hd : b.drop p.toNat = encT s ++ rest) :
    getT b p most = (s, p + (encT s).length, 0) := by
  have hN := getN_enc (b := b) (p := p) (n := s.length) (rest := s ++ rest) h0 h1 hn (by rw [hd]; unfold encT; rw [List.append_assoc])
  have hle : (encT s).length = (encN s.length).length + s.length := by unfold encT; rw [List.length_append]
  have hlen : (b.drop p.toNat).length = b.length - p.toNat := List.length_drop ..
  rw [hd, List.length_append] at hlen
  unfold getT
  rw [hN]
  simp only
  rw [if_pos trivial, if_neg (by omega), if_neg (by omega)]
  refine Prod.ext ?_ (Prod.ext ?_ rfl)
  · show (b.take (p + ((encN s.length).length : Int) + (s.length : Int)).toNat).drop (p + ((encN s.length).length : Int)).toNat = s
    rw [List.drop_take, show (p + ((encN s.length).length : Int)).toNat = p.toNat + (encN s.length).length by omega, ← List.drop_drop, hd]
    unfold encT
    rw [List.append_assoc, List.drop_left, show (p + ((encN s.length).length : Int) + (s.length : Int)).toNat - (p.toNat + (encN s.length).length) = s.length by omega]
    simp
  · show p + ((encN s.length).length : Int) + (s.length : Int) = p + ((encT s).length : Int)
    omega

/-! ### Forms that are cut off -/

end Go.Proofs.Ytkkfkccfnfjbiaa.Pk
namespace Go.Proofs.Ytkkfkccfnfjbiaa.PAllEv
open Go.RowKit Go.Proofs.Ytkkfkccfnfjbiaa.PAll Go.Proofs.YtkkfkccfnfjbiaaW.PrintWords Go.Proofs.YtkkfkccfnfjbiaaW.PrintLast Go.Proofs.YtkkfkccfnfjbiaaW.PrintMore Go.Proofs.Ytkkfkccfnfjbiaa.Pk
set_option linter.unusedVariables false
set_option linter.unusedSimpArgs false

theorem w64 {x : Int} (h0 : -9223372036854775808 ≤ x) (h1 : x < 9223372036854775808) : wrap64 x = x := by unfold wrap64; omega

theorem bytes_of_wf {l : List Int} (h : ∀ x ∈ l, (Lit.int .u8 x).wf = true) : Bytes l := by
  intro x hx
  have := h x hx
  have := bounds_u8 this
  omega

theorem pow_128 (i : Nat) : (2 : Int) ^ (7 * i) = 128 ^ i := by
  rw [Int.pow_mul]
  rfl

theorem cast_pow (i : Nat) : (((128 : Nat) ^ i : Nat) : Int) = (128 : Int) ^ i := by rw [Int.natCast_pow]; rfl

theorem pow_le9 {i : Nat} (h : i ≤ 9) : (128 : Int) ^ i ≤ 9223372036854775808 := by
  have h1 : (128 : Nat) ^ i ≤ 9223372036854775808 := by rw [← pow9]; exact Nat.pow_le_pow_right (by decide) h
  rw [← cast_pow]
  exact Int.ofNat_le.2 h1

theorem pow8 : (128 : Nat) ^ 8 = 72057594037927936 := by decide

theorem pow_le8 {i : Nat} (h : i ≤ 8) : (128 : Int) ^ i ≤ 72057594037927936 := by
  have h1 : (128 : Nat) ^ i ≤ 72057594037927936 := by rw [← pow8]; exact Nat.pow_le_pow_right (by decide) h
  rw [← cast_pow]
  exact Int.ofNat_le.2 h1

theorem pow_pos (i : Nat) : (1 : Int) ≤ 128 ^ i := by
  have : 0 < (128 : Nat) ^ i := Nat.pow_pos (by decide)
  exact_mod_cast this

theorem and127 {c : Int} (h0 : 0 ≤ c) (h1 : c < 256) : Go.bits .and .u8 c 127 = c % 128 := by
  have := bits_mask .u8 8 (by decide) wraps_u8 7 (by decide) c h0 (by simpa using h1)
  simpa using this

theorem or128 {y : Int} (h0 : 0 ≤ y) (h1 : y < 256) : Go.bits .or .u8 y 128 = 128 + y % 128 := by
  have e : ∀ y : Fin 256, Go.bits .or .u8 (y.val : Int) 128 = 128 + (y.val : Int) % 128 := by decide +kernel
  have := e ⟨y.toNat, by omega⟩
  simp only at this
  rw [show ((y.toNat : Nat) : Int) = y by omega] at this
  exact this

theorem wraps_i64 (n : Int) (h₀ : 0 ≤ n) (h₁ : n < 2 ^ 63) : IntKind.i64.wrap n = n := by
  rw [IntKind.wrap_i64]
  have : (2 : Int) ^ 63 = 9223372036854775808 := by decide
  omega

/-- A number's next seven bits are laid above those that are there. -/
theorem or_shl {acc c : Int} {i : Nat} (hi : i ≤ 8) (ha0 : 0 ≤ acc) (ha : acc < 128 ^ i) (hc0 : 0 ≤ c) (hc : c < 128) :
    Go.bits .or .i64 acc (shl .i64 c (7 * i)) = acc + c * 128 ^ i := by
  have hp := pow_pos i
  have hp9 := pow_le9 (i := i + 1) (by omega)
  rw [Int.pow_succ] at hp9
  have hs : shl .i64 c (7 * (i : Int)) = c * 128 ^ i := by
    unfold shl
    rw [show (7 * (i : Int)).toNat = 7 * i by omega, show min (7 * i) (IntKind.bits .i64) = 7 * i from Nat.min_eq_left (by show 7 * i ≤ 64; omega), pow_128, IntKind.wrap_i64]
    have h1 : c * 128 ^ i ≤ 127 * 128 ^ i := Int.mul_le_mul_of_nonneg_right (by omega) (by omega)
    have h2 : 0 ≤ c * 128 ^ i := Int.mul_nonneg hc0 (by omega)
    omega
  rw [hs]
  have h1 : c * 128 ^ i ≤ 127 * 128 ^ i := Int.mul_le_mul_of_nonneg_right (by omega) (by omega)
  have h2 : 0 ≤ c * 128 ^ i := Int.mul_nonneg hc0 (by omega)
  have hcomm : Go.bits .or .i64 acc (c * 128 ^ i) = Go.bits .or .i64 (c * 128 ^ i) acc := by
    simp only [bits, BitVec.or_comm]
  rw [hcomm, bits_join .i64 63 (by decide) wraps_i64 (7 * i) (c * 128 ^ i) acc h2 (by rw [pow_128]; exact Int.mul_emod_left _ _)]
  · omega
  · have : (2 : Int) ^ 63 = 9223372036854775808 := by decide
    omega
  · exact ha0
  · rw [pow_128]; exact ha
  · have : (2 : Int) ^ 63 = 9223372036854775808 := by decide
    omega

theorem rd_drop {b : List Int} {c : Int} {r : List Int} {i : Nat} (h : b.drop i = c :: r) : rd b (i : Int) = c ∧ i < b.length ∧ b.drop (i + 1) = r := by
  have hi : i < b.length := by
    rcases Nat.lt_or_ge i b.length with h1 | h1
    · exact h1
    · rw [List.drop_eq_nil_of_le h1] at h; cases h
  rw [List.drop_eq_getElem_cons hi] at h
  injection h with h1 h2
  refine ⟨?_, hi, h2⟩
  unfold rd
  simp [List.getD, hi, h1]

theorem drop_nil {b : List Int} {i : Nat} (h : b.drop i = []) : b.length ≤ i := by simpa using h

/-- pack.GetNum's loop. -/
theorem GetNum_l0 (b : List Int) (p : Int) (hb : Bytes b) (hp0 : 0 ≤ p) (hp : p + b.length < 9223372036854775000) (r : List Int) : ∀ (i : Nat) (acc : Int), b.drop i = r → i ≤ 8 → 0 ≤ acc → acc < 128 ^ i → i ≤ b.length →
    Ev (fun k => pack_GetNum.l0 k p acc b (b.length : Int) (i : Int)) (gn r i acc (p + i)) := by
  induction r with
  | nil =>
    intro i acc hd hi ha0 ha hil
    have hl := drop_nil hd
    refine Ev.step (fun _ => pack_GetNum.l0.eq_2 ..) ?_
    simp only [if_neg (show ¬ (i : Int) < (b.length : Int) by omega), gn]
    exact Ev.now _
  | cons c r ih =>
    intro i acc hd hi ha0 ha hil
    obtain ⟨hc, hlt, hd'⟩ := rd_drop hd
    have hcb : 0 ≤ c ∧ c < 256 := by rw [← hc]; exact hb.get _
    have hor := or_shl (c := c % 128) hi ha0 ha (by omega) (by omega)
    have hp9 := pow_le9 (i := i + 1) (by omega)
    have hpp := pow_pos i
    have hmul : c % 128 * 128 ^ i ≤ 127 * 128 ^ i := Int.mul_le_mul_of_nonneg_right (by omega) (by omega)
    have hmul0 : 0 ≤ c % 128 * 128 ^ i := Int.mul_nonneg (by omega) (by omega)
    refine Ev.step (fun _ => pack_GetNum.l0.eq_2 ..) ?_
    simp only [if_pos (show (i : Int) < (b.length : Int) by omega), if_pos (show (0 : Int) ≤ (i : Int) by omega), hc, and127 hcb.1 hcb.2,
      w64 (x := 7 * (i : Int)) (by omega) (by omega), w64 (x := c % 128) (by omega) (by omega), if_pos (show (0 : Int) ≤ 7 * (i : Int) by omega), hor]
    have tail : ∀ t : Bool, t = decide (127 < c ∧ i = 8 ∨ c = 0 ∧ 0 < i) → Ev (fun k => pack_GetNum.j3 k p (acc + c % 128 * 128 ^ i) (i : Int) c b (b.length : Int) (i : Int) t) (gn (c :: r) i acc (p + i)) := by
      intro t ht
      refine Ev.step (fun _ => pack_GetNum.j3.eq_2 ..) ?_
      simp only [gn]
      by_cases h1 : 127 < c ∧ i = 8 ∨ c = 0 ∧ 0 < i
      · rw [if_pos h1]
        simp only [ht, decide_eq_true h1, if_true]
        exact Ev.now _
      · rw [if_neg h1]
        simp only [ht, decide_eq_false h1, Bool.false_eq_true, if_false]
        by_cases h2 : c < 128
        · simp only [if_pos h2]
          rw [Int.emod_eq_of_lt hcb.1 h2, w64 (x := p + (i : Int)) (by omega) (by omega), w64 (x := p + (i : Int) + 1) (by omega) (by omega)]
          exact Ev.now _
        · simp only [if_neg h2]
          rw [w64 (x := (i : Int) + 1) (by omega) (by omega), show c % 128 = c - 128 by omega, show ((i : Int) + 1) = ((i + 1 : Nat) : Int) by omega, show p + (i : Int) + 1 = p + ((i + 1 : Nat) : Int) by omega]
          rw [show c % 128 = c - 128 by omega] at hmul hmul0
          refine ih (i + 1) _ hd' (by omega) (by omega) ?_ (by omega)
          rw [Int.pow_succ]
          omega
    by_cases h : c > 127
    · simp only [if_pos h]
      refine Ev.step (fun _ => pack_GetNum.j2.eq_2 ..) ?_
      by_cases h8 : (i : Int) = 8
      · have e : ((i : Int) == 8) = true := by simpa using h8
        simp only [e, if_true]
        exact tail true (by symm; exact decide_eq_true (by omega))
      · have e : ((i : Int) == 8) = false := by simpa using h8
        simp only [e, Bool.false_eq_true, if_false, if_neg (show ¬ c = 0 by omega)]
        exact tail false (by symm; exact decide_eq_false (by omega))
    · simp only [if_neg h]
      refine Ev.step (fun _ => pack_GetNum.j2.eq_2 ..) ?_
      simp only [Bool.false_eq_true, if_false]
      by_cases h0 : c = 0
      · simp only [if_pos h0]
        refine tail _ ?_
        rw [Bool.eq_iff_iff, decide_eq_true_iff, decide_eq_true_iff]
        omega
      · simp only [if_neg h0]
        exact tail false (by symm; exact decide_eq_false (by omega))

theorem GetNum_ev (b : List Int) (p : Int) (hb : Bytes b) (hl : b.length ≤ 140737488351232) : Ev (fun k => pack_GetNum.f k b p) (getN b p) := by
  unfold pack_GetNum.f getN
  by_cases h0 : p < 0
  · rw [if_pos (Or.inl h0)]
    simp only [if_pos h0]
    refine Ev.step (fun _ => pack_GetNum.j0.eq_2 ..) ?_
    exact Ev.now _
  · simp only [if_neg h0]
    refine Ev.step (fun _ => pack_GetNum.j0.eq_2 ..) ?_
    by_cases h1 : (b.length : Int) < p
    · rw [if_pos (Or.inr h1)]
      simp only [decide_eq_true (show p > (b.length : Int) from h1), if_true]
      exact Ev.now _
    · rw [if_neg (by omega)]
      simp only [decide_eq_false (show ¬ p > (b.length : Int) from h1), Bool.false_eq_true, if_false, if_pos (show (0 : Int) ≤ p by omega), if_pos (show p ≤ (b.length : Int) by omega)]
      have := GetNum_l0 (b.drop p.toNat) p (hb.drop _) (by omega) (by have : (b.drop p.toNat).length ≤ b.length := by rw [List.length_drop]; omega
                                                                      omega) (b.drop p.toNat) 0 0 (by simp) (by omega) (by omega) (by simp) (by omega)
      simpa using this
/-- pack.Num's loop. -/
theorem Num_l0 (n : Nat) : ∀ acc : List Int, acc.length + (encN n).length ≤ 1000 → Ev (fun k => pack_Num.l0 k (n : Int) acc) (acc ++ encN n) := by
  induction n using Nat.strongRecOn with
  | _ n ih =>
    intro acc ha
    refine Ev.step (fun _ => pack_Num.l0.eq_2 ..) ?_
    by_cases h : n < 128
    · rw [encN_small h]
      simp only [if_neg (show ¬ (n : Int) > 127 by omega), if_pos (show acc.length < 140737488355328 by omega), Int.emod_eq_of_lt (show (0 : Int) ≤ n by omega) (show (n : Int) < 256 by omega)]
      exact Ev.now _
    · have ho := or128 (y := (n : Int) % 256) (by omega) (by omega)
      rw [encN_great h] at ha ⊢
      simp only [List.length_cons] at ha
      simp only [if_pos (show (n : Int) > 127 by omega), if_pos (show acc.length < 140737488355328 by omega), ho]
      have := ih (n / 128) (by omega) (acc ++ [((128 + n % 128 : Nat) : Int)]) (by simp; omega)
      rw [List.append_assoc] at this
      rw [show (128 : Int) + (n : Int) % 256 % 128 = ((128 + n % 128 : Nat) : Int) by omega, show (n : Int) / 128 = ((n / 128 : Nat) : Int) by omega]
      exact this

theorem Num_ev (n : Nat) (hn : n < 9223372036854775808) : Ev (fun k => pack_Num.f k (n : Int)) (encN n) := by
  unfold pack_Num.f
  simp only [if_neg (show ¬ (n : Int) < 0 by omega)]
  have := encN_le hn
  exact Num_l0 n [] (by simp; omega)

theorem bytesOf_bytes (s : ByteArray) : Bytes (bytesOf s) := by
  intro x hx
  unfold bytesOf at hx
  obtain ⟨b, _, rfl⟩ := List.mem_map.1 hx
  have := b.toNat_lt
  omega

theorem strOfNums_bytesOf (s : ByteArray) : strOfNums (bytesOf s) = s := by
  cases s with
  | mk d =>
    unfold strOfNums bytesOf
    congr 1
    rw [List.map_map]
    have : ((fun n : Int => UInt8.ofNat n.toNat) ∘ fun b : UInt8 => (b.toNat : Int)) = id := by
      funext b
      simp
    rw [this, List.map_id]

theorem bytesOf_strOfNums {l : List Int} (h : Bytes l) : bytesOf (strOfNums l) = l := by
  unfold bytesOf
  rw [strOfNums_data, List.map_map]
  have e : ∀ x ∈ l, ((fun b : UInt8 => (b.toNat : Int)) ∘ fun n : Int => UInt8.ofNat n.toNat) x = x := by
    intro x hx
    have := h x hx
    show ((UInt8.ofNat x.toNat).toNat : Int) = x
    rw [UInt8.toNat_ofNat']
    omega
  exact (List.map_congr_left e).trans (by simp)

theorem bytesOf_size (s : ByteArray) : (bytesOf s).length = s.size := bytesOf_length s

theorem rdOf_drop {α : Type} {d : α} {b : List α} {c : α} {r : List α} {i : Nat} (h : b.drop i = c :: r) : rdOf d b (i : Int) = c ∧ i < b.length ∧ b.drop (i + 1) = r := by
  have hi : i < b.length := by
    rcases Nat.lt_or_ge i b.length with h1 | h1
    · exact h1
    · rw [List.drop_eq_nil_of_le h1] at h; cases h
  rw [List.drop_eq_getElem_cons hi] at h
  injection h with h1 h2
  refine ⟨?_, hi, h2⟩
  unfold rdOf
  simp [List.getD, hi, h1]

theorem dropd_nil {α : Type} {b : List α} {i : Nat} (h : b.drop i = []) : b.length ≤ i := by simpa using h

theorem Text_ev (s : ByteArray) (hs : s.size ≤ 140737488351232) : Ev (fun k => pack_Text.f k s) (encT (bytesOf s)) := by
  unfold pack_Text.f
  have hb := encN_le (n := s.size) (by omega)
  refine Ev.bind (Num_ev s.size (by omega)) ?_
  simp only [if_pos (show (encN s.size).length + s.size < 140737488355328 by omega)]
  unfold encT
  rw [bytesOf_size]
  exact Ev.now _
/-- What pack.GetText answers. -/
theorem GetText_ev (b : List Int) (p most : Int) (hb : Bytes b) (hl : b.length ≤ 140737488351232) :
    Ev (fun k => pack_GetText.f k b p most) (strOfNums (getT b p most).1, (getT b p most).2.1, (getT b p most).2.2) := by
  unfold pack_GetText.f
  refine Ev.bind (GetNum_ev b p hb hl) ?_
  unfold getT
  by_cases h0 : (getN b p).2.2 = 0
  · obtain ⟨hp, n, hv, hn, hq, hqb, _⟩ := getN_inv (b := b) (p := p) (v := (getN b p).1) (q := (getN b p).2.1) hb (by rw [← h0])
    simp only [if_pos h0]
    by_cases h1 : most < (getN b p).1
    · simp only [if_pos (show (getN b p).1 > most from h1), if_pos h1]
      exact Ev.now _
    · simp only [if_neg (show ¬ (getN b p).1 > most from h1), if_neg h1, w64 (x := (b.length : Int) - (getN b p).2.1) (by omega) (by omega)]
      by_cases h2 : (b.length : Int) - (getN b p).2.1 < (getN b p).1
      · simp only [if_pos (show (getN b p).1 > (b.length : Int) - (getN b p).2.1 from h2), if_pos h2]
        exact Ev.now _
      · simp only [if_neg (show ¬ (getN b p).1 > (b.length : Int) - (getN b p).2.1 from h2), if_neg h2, w64 (x := (getN b p).2.1 + (getN b p).1) (by omega) (by omega),
          if_pos (show (0 : Int) ≤ (getN b p).2.1 by omega), if_pos (show (getN b p).2.1 ≤ (getN b p).2.1 + (getN b p).1 by omega), if_pos (show (getN b p).2.1 + (getN b p).1 ≤ (b.length : Int) by omega)]
        exact Ev.now _
  · simp only [if_neg h0]
    exact Ev.now _
/-- The reference's answer: a number, a place, an error. -/
theorem refGetNum_l0 (b : List Int) (hb : Bytes b) (hl : b.length ≤ 140737488351232) (r : List Int) : ∀ (p i : Nat) (acc : Int), b.drop p = r → i ≤ 8 → 0 ≤ acc → acc < 128 ^ i → p ≤ b.length →
    Ev (fun k => shelfmarkref01_GetNum.l0 k b (p : Int) acc (128 ^ i) (i : Int)) ((gn r i acc p).1, (⟨#[]⟩ : ByteArray), ([] : List ByteArray), (gn r i acc p).2.1, (gn r i acc p).2.2) := by
  induction r with
  | nil =>
    intro p i acc hd hi ha0 ha hil
    have hl := drop_nil hd
    refine Ev.step (fun _ => shelfmarkref01_GetNum.l0.eq_2 ..) ?_
    simp only [if_pos (show (i : Int) < 9 by omega), if_pos (show (p : Int) ≥ (b.length : Int) by omega), gn]
    exact Ev.now _
  | cons c r ih =>
    intro p i acc hd hi ha0 ha hil
    obtain ⟨hc, hlt, hd'⟩ := rd_drop hd
    have hcb : 0 ≤ c ∧ c < 256 := by rw [← hc]; exact hb.get _
    have hp9 := pow_le9 (i := i + 1) (by omega)
    have hpp := pow_pos i
    have hmul : c % 128 * 128 ^ i ≤ 127 * 128 ^ i := Int.mul_le_mul_of_nonneg_right (by omega) (by omega)
    have hmul0 : 0 ≤ c % 128 * 128 ^ i := Int.mul_nonneg (by omega) (by omega)
    rw [Int.pow_succ] at hp9
    have htm : Int.tmod c 128 = c % 128 := Int.tmod_eq_emod_of_nonneg hcb.1
    refine Ev.step (fun _ => shelfmarkref01_GetNum.l0.eq_2 ..) ?_
    simp only [if_pos (show (i : Int) < 9 by omega), if_neg (show ¬ (p : Int) ≥ (b.length : Int) by omega), if_pos (show (0 : Int) ≤ (p : Int) by omega), if_pos (show (p : Int) < (b.length : Int) by omega), hc, w64 (x := c) (by omega) (by omega), w64 (x := (p : Int) + 1) (by omega) (by omega)]
    have tail : ∀ t : Bool, t = decide (127 < c ∧ i = 8 ∨ c = 0 ∧ 0 < i) → Ev (fun k => shelfmarkref01_GetNum.j2 k b ((p : Int) + 1) acc (128 ^ i) (i : Int) c t) ((gn (c :: r) i acc p).1, (⟨#[]⟩ : ByteArray), ([] : List ByteArray), (gn (c :: r) i acc p).2.1, (gn (c :: r) i acc p).2.2) := by
      intro t ht
      refine Ev.step (fun _ => shelfmarkref01_GetNum.j2.eq_2 ..) ?_
      simp only [gn]
      by_cases h1 : 127 < c ∧ i = 8 ∨ c = 0 ∧ 0 < i
      · rw [if_pos h1]
        simp only [ht, decide_eq_true h1, if_true]
        exact Ev.now _
      · rw [if_neg h1]
        simp only [ht, decide_eq_false h1, Bool.false_eq_true, if_false, htm, w64 (x := c % 128 * 128 ^ i) (by omega) (by omega), w64 (x := acc + c % 128 * 128 ^ i) (by omega) (by omega)]
        by_cases h2 : c < 128
        · simp only [if_pos h2]
          rw [Int.emod_eq_of_lt hcb.1 h2]
          exact Ev.now _
        · simp only [if_neg h2]
          have hp8 := pow_le8 (i := i) (by omega)
          rw [show c % 128 = c - 128 by omega] at hmul hmul0 ⊢
          have hi7 : i ≤ 7 := by omega
          have hp8' := pow_le8 (i := i + 1) (by omega)
          have := ih (p + 1) (i + 1) (acc + (c - 128) * 128 ^ i) hd' (by omega) (by omega) (by rw [Int.pow_succ]; omega) (by omega)
          rw [w64 (x := (i : Int) + 1) (by omega) (by omega), w64 (x := 128 ^ i * 128) (by omega) (by rw [← Int.pow_succ]; omega), ← Int.pow_succ]
          simpa using this
    by_cases h : c ≥ 128
    · simp only [if_pos h]
      by_cases h8 : (i : Int) = 8
      · simp only [if_pos h8]
        exact tail true (by symm; exact decide_eq_true (by omega))
      · simp only [if_neg h8, if_neg (show ¬ c = 0 by omega)]
        exact tail false (by symm; exact decide_eq_false (by omega))
    · simp only [if_neg h]
      by_cases h0 : c = 0
      · simp only [if_pos h0]
        refine tail _ ?_
        rw [Bool.eq_iff_iff, decide_eq_true_iff, decide_eq_true_iff]
        omega
      · simp only [if_neg h0]
        exact tail false (by symm; exact decide_eq_false (by omega))

theorem refGetNum_ev (b : List Int) (p : Int) (hb : Bytes b) (hl : b.length ≤ 140737488351232) : Ev (fun k => shelfmarkref01_GetNum.f k b p) ((getN b p).1, (⟨#[]⟩ : ByteArray), ([] : List ByteArray), (getN b p).2.1, (getN b p).2.2) := by
  unfold shelfmarkref01_GetNum.f getN
  by_cases h0 : p < 0
  · rw [if_pos (Or.inl h0)]
    simp only [if_pos h0]
    refine Ev.step (fun _ => shelfmarkref01_GetNum.j0.eq_2 ..) ?_
    exact Ev.now _
  · simp only [if_neg h0]
    refine Ev.step (fun _ => shelfmarkref01_GetNum.j0.eq_2 ..) ?_
    by_cases h1 : (b.length : Int) < p
    · rw [if_pos (Or.inr h1)]
      simp only [decide_eq_true (show p > (b.length : Int) from h1), if_true]
      exact Ev.now _
    · rw [if_neg (by omega)]
      simp only [decide_eq_false (show ¬ p > (b.length : Int) from h1), Bool.false_eq_true, if_false]
      have := refGetNum_l0 b hb hl (b.drop p.toNat) p.toNat 0 0 rfl (by omega) (by omega) (by simp) (by omega)
      rw [show ((p.toNat : Nat) : Int) = p by omega] at this
      simpa using this
/-- The reference's answer: a text, a place, an error. -/
theorem refGetText_ev (b : List Int) (p most : Int) (hb : Bytes b) (hl : b.length ≤ 140737488351232) :
    Ev (fun k => shelfmarkref01_GetText.f k b p most) (0, strOfNums (getT b p most).1, ([] : List ByteArray), (getT b p most).2.1, (getT b p most).2.2) := by
  unfold shelfmarkref01_GetText.f
  refine Ev.bind (refGetNum_ev b p hb hl) ?_
  unfold getT
  by_cases h0 : (getN b p).2.2 = 0
  · obtain ⟨hp, n, hv, hn, hq, hqb, _⟩ := getN_inv (b := b) (p := p) (v := (getN b p).1) (q := (getN b p).2.1) hb (by rw [← h0])
    simp only [if_pos h0]
    by_cases h1 : most < (getN b p).1
    · simp only [if_pos (show (getN b p).1 > most from h1), if_pos h1]
      exact Ev.now _
    · simp only [if_neg (show ¬ (getN b p).1 > most from h1), if_neg h1, w64 (x := (b.length : Int) - (getN b p).2.1) (by omega) (by omega)]
      by_cases h2 : (b.length : Int) - (getN b p).2.1 < (getN b p).1
      · simp only [if_pos (show (getN b p).1 > (b.length : Int) - (getN b p).2.1 from h2), if_pos h2]
        exact Ev.now _
      · simp only [if_neg (show ¬ (getN b p).1 > (b.length : Int) - (getN b p).2.1 from h2), if_neg h2, w64 (x := (getN b p).2.1 + (getN b p).1) (by omega) (by omega),
          if_pos (show (0 : Int) ≤ (getN b p).2.1 by omega), if_pos (show (getN b p).2.1 ≤ (getN b p).2.1 + (getN b p).1 by omega), if_pos (show (getN b p).2.1 + (getN b p).1 ≤ (b.length : Int) by omega)]
        exact Ev.now _
  · have he := getN_err (b := b) (p := p) (v := (getN b p).1) (q := (getN b p).2.1) (e := (getN b p).2.2) rfl h0
    simp only [if_neg h0, he.1, he.2.1]
    exact Ev.now _
theorem refNum_ev (n : Nat) (hn : n < 9223372036854775808) : Ev (fun k => shelfmarkref01_Num.f k (n : Int)) (encN n) := by
  induction n using Nat.strongRecOn with
  | _ n ih =>
    refine Ev.step (fun _ => shelfmarkref01_Num.f.eq_2 ..) ?_
    simp only [if_neg (show ¬ (n : Int) < 0 by omega)]
    by_cases h : n < 128
    · rw [encN_small h]
      simp only [if_pos (show (n : Int) < 128 by omega), Int.emod_eq_of_lt (show (0 : Int) ≤ n by omega) (show (n : Int) < 256 by omega)]
      exact Ev.now _
    · rw [encN_great h]
      have hb := encN_le (n := n / 128) (by omega)
      simp only [if_neg (show ¬ (n : Int) < 128 by omega), Int.tmod_eq_emod_of_nonneg (show (0 : Int) ≤ n by omega), Int.tdiv_eq_ediv_of_nonneg (show (0 : Int) ≤ n by omega), Option.bind_some]
      rw [w64 (x := 128 + (n : Int) % 128) (by omega) (by omega), w64 (x := (n : Int) / 128) (by omega) (by omega), show (128 + (n : Int) % 128) % 256 = ((128 + n % 128 : Nat) : Int) by omega, show (n : Int) / 128 = ((n / 128 : Nat) : Int) by omega]
      refine Ev.bind (ih (n / 128) (by omega) (by omega)) ?_
      simp only [if_pos (show [((128 + n % 128 : Nat) : Int)].length + (encN (n / 128)).length < 140737488355328 by simp; omega)]
      exact Ev.now _

theorem refText_ev (s : ByteArray) (hs : s.size ≤ 140737488351232) : Ev (fun k => shelfmarkref01_Text.f k s) (encT (bytesOf s)) := by
  unfold shelfmarkref01_Text.f
  have hb := encN_le (n := s.size) (by omega)
  refine Ev.bind (refNum_ev s.size (by omega)) ?_
  simp only [if_pos (show (encN s.size).length + s.size < 140737488355328 by omega)]
  unfold encT
  rw [bytesOf_size]
  exact Ev.now _

theorem rdL_drop {b : List (List Int)} {c : List Int} {r : List (List Int)} {i : Nat} (h : b.drop i = c :: r) : rd_L8 b (i : Int) = c ∧ i < b.length ∧ b.drop (i + 1) = r := by
  obtain ⟨h1, h2, h3⟩ := rdOf_drop (d := ([] : List Int)) h
  refine ⟨?_, h2, h3⟩
  rw [← h1]
  rfl

theorem Concat_l1 (l : List (List Int)) (hl : l.length < 9223372036854775807) (r : List (List Int)) : ∀ (i : Nat) (acc : List Int), l.drop i = r → acc.length + r.flatten.length < 140737488355328 → i ≤ l.length →
    Ev (fun k => slices_Concat_byte_byte.l1 k acc l (l.length : Int) (i : Int)) (acc ++ r.flatten) := by
  induction r with
  | nil =>
    intro i acc hd _ _
    have hi := dropd_nil hd
    refine Ev.step (fun _ => slices_Concat_byte_byte.l1.eq_2 ..) ?_
    simp only [if_neg (show ¬ (i : Int) < (l.length : Int) by omega)]
    simpa using Ev.now acc
  | cons s r ih =>
    intro i acc hd ha hil
    obtain ⟨hc, hlt, hd'⟩ := rdL_drop hd
    rw [List.flatten_cons, List.length_append] at ha
    refine Ev.step (fun _ => slices_Concat_byte_byte.l1.eq_2 ..) ?_
    simp only [if_pos (show (i : Int) < (l.length : Int) by omega), if_pos (show (0 : Int) ≤ (i : Int) by omega), hc, if_pos (show acc.length + s.length < 140737488355328 by omega)]
    rw [w64 (x := (i : Int) + 1) (by omega) (by omega), show ((i : Int) + 1) = ((i + 1 : Nat) : Int) by omega, List.flatten_cons, ← List.append_assoc]
    exact ih (i + 1) _ hd' (by rw [List.length_append]; omega) (by omega)

theorem Concat_l0 (l : List (List Int)) (hl : l.length < 9223372036854775807) (ht : l.flatten.length ≤ 140737488351232) (r : List (List Int)) : ∀ (i n : Nat), l.drop i = r → n + r.flatten.length ≤ 140737488351232 → i ≤ l.length →
    Ev (fun k => slices_Concat_byte_byte.l0 k l (n : Int) l (l.length : Int) (i : Int)) l.flatten := by
  induction r with
  | nil =>
    intro i n hd hn _
    have hi := dropd_nil hd
    refine Ev.step (fun _ => slices_Concat_byte_byte.l0.eq_2 ..) ?_
    simp only [if_neg (show ¬ (i : Int) < (l.length : Int) by omega)]
    have hg : slices_Grow_byte_byte.f ([] : List Int) (n : Int) = some [] := by
      unfold slices_Grow_byte_byte.f
      rw [if_pos (by simp), if_pos (by omega), if_pos (by omega)]
    simp only [hg, Option.bind_some]
    simpa using Concat_l1 l hl l 0 [] (by simp) (by simp only [List.length_nil]; omega) (by omega)
  | cons s r ih =>
    intro i n hd hn hil
    obtain ⟨hc, hlt, hd'⟩ := rdL_drop hd
    rw [List.flatten_cons, List.length_append] at hn
    refine Ev.step (fun _ => slices_Concat_byte_byte.l0.eq_2 ..) ?_
    simp only [if_pos (show (i : Int) < (l.length : Int) by omega), if_pos (show (0 : Int) ≤ (i : Int) by omega), hc, w64 (x := (n : Int) + (s.length : Int)) (by omega) (by omega), if_neg (show ¬ (n : Int) + (s.length : Int) < 0 by omega)]
    rw [w64 (x := (i : Int) + 1) (by omega) (by omega), show ((i : Int) + 1) = ((i + 1 : Nat) : Int) by omega, show (n : Int) + (s.length : Int) = ((n + s.length : Nat) : Int) by omega]
    exact ih (i + 1) _ hd' (by omega) (by omega)

/-- What pack.Join answers. -/
theorem Join_ev (l : List (List Int)) (hl : l.length < 9223372036854775807) (ht : l.flatten.length ≤ 140737488351232) : Ev (fun k => pack_Join.f k l) l.flatten := by
  unfold pack_Join.f slices_Concat_byte_byte.f
  refine Ev.bind (Concat_l0 l hl ht l 0 0 (by simp) (by omega) (by omega)) ?_
  exact Ev.now _

end Go.Proofs.Ytkkfkccfnfjbiaa.PAllEv
namespace Go.Proofs.Ytkkfkccfnfjbiaa.Rp
open Go.RowKit Go.Proofs.Ytkkfkccfnfjbiaa.PAll Go.Proofs.YtkkfkccfnfjbiaaW.PrintWords Go.Proofs.YtkkfkccfnfjbiaaW.PrintLast Go.Proofs.Ytkkfkccfnfjbiaa.Pk Go.Proofs.Ytkkfkccfnfjbiaa.PAllEv Go.Proofs.Ytkkfkccfnfjbiaa.Ra Go.Proofs.Ytkkfkccfnfjbiaa.Rb Go.Proofs.Ytkkfkccfnfjbiaa.Rc Go.Proofs.Ytkkfkccfnfjbiaa.Rd Go.Proofs.Ytkkfkccfnfjbiaa.Re Go.Proofs.Ytkkfkccfnfjbiaa.Ja Go.Proofs.Ytkkfkccfnfjbiaa.Jb Go.Proofs.Ytkkfkccfnfjbiaa.Jc
set_option linter.unusedSimpArgs false
set_option linter.unusedVariables false
theorem light2_l0 (l : List S37) (hl : l.length ≤ 1000) : ∀ (m i : Nat) (x : Int), i + m = l.length → 0 ≤ x → x ≤ 20000 → ∃ b, Ev (fun k => shelfmarkref09_Light.l0 k l x (i : Int)) b ∧ (b = true → x ≤ 4000 ∧ ∀ c ∈ l.drop i, c.f0.size ≤ 4000 ∧ c.f1.size ≤ 4000)
  | 0, i, x, h, h0, h1 => ⟨decide (x ≤ 4000), by
    refine Ev.step (fun _ => shelfmarkref09_Light.l0.eq_2 ..) (Ev.congr (fun k => ?_) (Ev.now _))
    rw [if_neg (by omega)], fun e => ⟨of_decide_eq_true e, fun c hc => by rw [List.drop_eq_nil_of_le (by omega)] at hc; cases hc⟩⟩
  | m + 1, i, x, h, h0, h1 => by
    have hi : i < l.length := by omega
    by_cases hx : x ≤ 4000
    · have ha := mn_le (rd_T37 l (i : Int)).f0.size
      have hb := mn_le (rd_T37 l (i : Int)).f1.size
      obtain ⟨b, ih, hbt⟩ := light2_l0 l hl m (i + 1) (x + mn ((rd_T37 l (i : Int)).f0.size : Int) 4001 + mn ((rd_T37 l (i : Int)).f1.size : Int) 4001) (by omega) (by omega) (by omega)
      refine ⟨b, Ev.step (fun _ => shelfmarkref09_Light.l0.eq_2 ..) (Ev.congr (fun k => ?_) ih), fun e => ⟨hx, fun c hc => ?_⟩⟩
      · rw [if_pos (by omega), if_pos hx, if_pos (by omega), up1 (by omega), Rc.w64 (x := x + _) (by omega) (by omega), Rc.w64 (by omega) (by omega)]
      · obtain ⟨h2, h3⟩ := hbt e
        have e1 : l.drop i = l[i] :: l.drop (i + 1) := List.drop_eq_getElem_cons hi
        rw [e1] at hc
        rcases List.mem_cons.1 hc with rfl | hc
        · rw [rd_get l i hi] at h2 ha hb
          unfold mn at h2 ha hb
          omega
        · exact h3 c hc
    · refine ⟨decide (x ≤ 4000), Ev.step (fun _ => shelfmarkref09_Light.l0.eq_2 ..) (Ev.congr (fun k => ?_) (Ev.now _)), fun e => absurd (of_decide_eq_true e) hx⟩
      rw [if_pos (by omega), if_neg hx]
theorem light2_ev (l : List S37) : ∃ b, Ev (fun k => shelfmarkref09_Light.f k l 60) b ∧ (b = true → l.length ≤ 60 ∧ ∀ c ∈ l, c.f0.size ≤ 4000 ∧ c.f1.size ≤ 4000) := by
  unfold shelfmarkref09_Light.f
  by_cases h : (l.length : Int) > 60
  · refine ⟨false, ?_, (fun e => by cases e)⟩
    simp only [if_pos h]
    exact Ev.now _
  · obtain ⟨b, hb, h2⟩ := light2_l0 l (by omega) l.length 0 0 (by omega) (by omega) (by omega)
    refine ⟨b, ?_, fun e => ⟨by omega, (h2 e).2⟩⟩
    simp only [if_neg h]
    exact hb
def gone (c : S37) : Nat := if c.f2 = true then 1 else 0
def encC (c : S37) : List Int := encT (bytesOf c.f0) ++ ((gone c : Int) :: encT (bytesOf c.f1))
def encCs (l : List S37) : List Int := l.flatMap encC
theorem encCs_cons (c : S37) (t : List S37) : encCs (c :: t) = encC c ++ encCs t := by simp [encCs]
def packL (l : List S37) : List Int := encN l.length ++ encCs l
theorem encT_len (s : ByteArray) (h : s.size ≤ 4000) : (encT (bytesOf s)).length ≤ 4009 := by
  unfold encT
  rw [List.length_append, bytesOf_size]
  have := encN_le (n := s.size) (by omega)
  omega
theorem encC_len (c : S37) (h : c.f0.size ≤ 4000 ∧ c.f1.size ≤ 4000) : (encC c).length ≤ 8019 := by
  unfold encC
  rw [List.length_append, List.length_cons]
  have h1 := encT_len c.f0 h.1
  have h2 := encT_len c.f1 h.2
  omega
theorem encCs_len : ∀ (l : List S37), (∀ c ∈ l, c.f0.size ≤ 4000 ∧ c.f1.size ≤ 4000) → (encCs l).length ≤ l.length * 8019
  | [], _ => by simp [encCs]
  | c :: t, h => by
    have h1 := encC_len c (h c (by simp))
    have h2 := encCs_len t (fun d hd => h d (List.mem_cons_of_mem _ hd))
    have e : encCs (c :: t) = encC c ++ encCs t := by simp [encCs]
    rw [e, List.length_append, List.length_cons, Nat.add_mul]
    omega
theorem gone_lt (c : S37) : gone c < 128 := by unfold gone; split <;> omega
theorem pack_l0 (l : List S37) (hl : l.length ≤ 4000) (hs : ∀ c ∈ l, c.f0.size ≤ 4000 ∧ c.f1.size ≤ 4000) : ∀ (m i : Nat) (out : List Int), i + m = l.length → out.length ≤ 10 + i * 8019 → Ev (fun k => run_Pack.l0 k out l (l.length : Int) (i : Int)) (out ++ encCs (l.drop i), 0)
  | 0, i, out, h, ho => by
    rw [List.drop_eq_nil_of_le (by omega), show encCs [] = [] from rfl, List.append_nil]
    exact Ev.step (fun _ => run_Pack.l0.eq_2 ..) (Ev.congr (fun k => if_neg (by omega)) (Ev.now _))
  | m + 1, i, out, h, ho => by
    have hi : i < l.length := by omega
    have hc := hs l[i] (List.getElem_mem hi)
    have hlen := encC_len l[i] hc
    have e : l.drop i = l[i] :: l.drop (i + 1) := List.drop_eq_getElem_cons hi
    have ee : encCs (l.drop i) = encC l[i] ++ encCs (l.drop (i + 1)) := by rw [e, encCs_cons]
    have ih := pack_l0 l hl hs m (i + 1) (out ++ encC l[i]) (by omega) (by rw [List.length_append]; omega)
    rw [List.append_assoc, ← ee] at ih
    have hj : ∀ x7 : Int, x7 = (gone l[i] : Int) → Ev (fun k => run_Pack.j1 k out x7 l (l.length : Int) (i : Int) l[i].f0 l[i].f1 l[i].f2) (out ++ encCs (l.drop i), 0) := by
      rintro x7 rfl
      refine Ev.step (fun _ => run_Pack.j1.eq_2 ..) ?_
      refine Ev.bind (Text_ev l[i].f0 (by omega)) (Ev.bind (Num_ev (gone l[i]) (by have := gone_lt l[i]; omega)) (Ev.bind (Text_ev l[i].f1 (by omega)) (Ev.bind (Join_ev _ (by simp) ?_) ?_)))
      · rw [encN_small (gone_lt _)]
        have e3 : ([encT (bytesOf l[i].f0), [(gone l[i] : Int)], encT (bytesOf l[i].f1)] : List (List Int)).flatten = encC l[i] := by simp [encC]
        rw [e3]; omega
      · have e3 : ([encT (bytesOf l[i].f0), encN (gone l[i]), encT (bytesOf l[i].f1)] : List (List Int)).flatten = encC l[i] := by rw [encN_small (gone_lt _)]; simp [encC]
        rw [e3]
        refine Ev.congr (fun k => ?_) ih
        rw [if_pos (by omega), up1 (by omega)]
    refine Ev.step (fun _ => run_Pack.l0.eq_2 ..) ?_
    by_cases hg : l[i].f2 = true
    · refine Ev.congr (fun k => ?_) (hj 1 (by unfold gone; rw [if_pos hg]; rfl))
      rw [if_pos (by omega), if_pos (by omega), if_pos (by omega), rd_get l i hi, if_pos hg]
    · refine Ev.congr (fun k => ?_) (hj 0 (by unfold gone; rw [if_neg hg]; rfl))
      rw [if_pos (by omega), if_pos (by omega), if_pos (by omega), rd_get l i hi, if_neg hg]
theorem pack_ev (l : List S37) (hl : l.length ≤ 4000) (hs : ∀ c ∈ l, c.f0.size ≤ 4000 ∧ c.f1.size ≤ 4000) : Ev (fun k => run_Pack.f k l) (if rightB l = true then (packL l, 0) else ([], 3)) := by
  unfold run_Pack.f
  refine Ev.bind (right_ev l (by omega)) ?_
  cases rightB l with
  | false => simp only [Bool.false_eq_true, if_false]; exact Ev.now _
  | true =>
    simp only [if_true]
    exact Ev.bind (Num_ev l.length (by omega)) (pack_l0 l hl hs l.length 0 _ (by omega) (by have := encN_le (n := l.length) (by omega); omega))
theorem rpack_l0 (l : List S37) (hl : l.length ≤ 4000) (hs : ∀ c ∈ l, c.f0.size ≤ 4000 ∧ c.f1.size ≤ 4000) : ∀ (m i : Nat) (out : List Int), i + m = l.length → out.length ≤ 10 + i * 8019 → Ev (fun k => shelfmarkref09_Pack.l0 k l out (i : Int)) (out ++ encCs (l.drop i), 0)
  | 0, i, out, h, ho => by
    rw [List.drop_eq_nil_of_le (by omega), show encCs [] = [] from rfl, List.append_nil]
    exact Ev.step (fun _ => shelfmarkref09_Pack.l0.eq_2 ..) (Ev.congr (fun k => if_neg (by omega)) (Ev.now _))
  | m + 1, i, out, h, ho => by
    have hi : i < l.length := by omega
    have hc := hs l[i] (List.getElem_mem hi)
    have hlen := encC_len l[i] hc
    have h1 := encT_len l[i].f0 hc.1
    have h2 := encT_len l[i].f1 hc.2
    have e : l.drop i = l[i] :: l.drop (i + 1) := List.drop_eq_getElem_cons hi
    have ee : encCs (l.drop i) = encC l[i] ++ encCs (l.drop (i + 1)) := by rw [e, encCs_cons]
    have ih := rpack_l0 l hl hs m (i + 1) (out ++ encC l[i]) (by omega) (by rw [List.length_append]; omega)
    rw [List.append_assoc, ← ee] at ih
    refine Ev.step (fun _ => shelfmarkref09_Pack.l0.eq_2 ..) (Ev.congr (fun k => by rw [if_pos (by omega), if_pos (by omega), rd_get l i hi]) (Ev.bind (refText_ev l[i].f0 (by omega)) ?_))
    have q1 : out.length + (encT (bytesOf l[i].f0)).length < 140737488355328 := by omega
    have q2 : (out ++ encT (bytesOf l[i].f0)).length < 140737488355328 := by rw [List.length_append]; omega
    refine Ev.congr (fun k => by rw [if_pos q1, Option.bind_some]) ?_
    by_cases hg : l[i].f2 = true
    · have ez : out ++ encT (bytesOf l[i].f0) ++ [1] ++ encT (bytesOf l[i].f1) = out ++ encC l[i] := by unfold encC gone; rw [if_pos hg]; simp
      have q3 : (out ++ encT (bytesOf l[i].f0) ++ [1]).length + (encT (bytesOf l[i].f1)).length < 140737488355328 := by simp only [List.length_append, List.length_cons, List.length_nil]; omega
      refine Ev.congr (fun k => by rw [if_pos hg, if_pos q2, Option.bind_some]) (Ev.bind (refText_ev l[i].f1 (by omega)) (Ev.congr (fun k => ?_) ih))
      rw [if_pos q3, up1 (by omega), ez]
    · have ez : out ++ encT (bytesOf l[i].f0) ++ [0] ++ encT (bytesOf l[i].f1) = out ++ encC l[i] := by unfold encC gone; rw [if_neg hg]; simp
      have q3 : (out ++ encT (bytesOf l[i].f0) ++ [0]).length + (encT (bytesOf l[i].f1)).length < 140737488355328 := by simp only [List.length_append, List.length_cons, List.length_nil]; omega
      refine Ev.congr (fun k => by rw [if_neg hg, if_pos q2, Option.bind_some]) (Ev.bind (refText_ev l[i].f1 (by omega)) (Ev.congr (fun k => ?_) ih))
      rw [if_pos q3, up1 (by omega), ez]
theorem rpack_ev (l : List S37) (hl : l.length ≤ 4000) (hs : ∀ c ∈ l, c.f0.size ≤ 4000 ∧ c.f1.size ≤ 4000) : Ev (fun k => shelfmarkref09_Pack.f k l) (if rightB l = true then (packL l, 0) else ([], 3)) := by
  unfold shelfmarkref09_Pack.f
  refine Ev.bind (ref_right_ev l (by omega)) ?_
  cases rightB l with
  | false => simp only [Bool.false_eq_true, if_false]; exact Ev.now _
  | true =>
    simp only [if_true]
    exact Ev.bind (refNum_ev l.length (by omega)) (rpack_l0 l hl hs l.length 0 _ (by omega) (by have := encN_le (n := l.length) (by omega); omega))
end Go.Proofs.Ytkkfkccfnfjbiaa.Rp
namespace Go.Proofs.Ytkkfkccfnfjbiaa.Rq
open Go.RowKit Go.Proofs.Ytkkfkccfnfjbiaa.PAll Go.Proofs.YtkkfkccfnfjbiaaW.PrintWords Go.Proofs.YtkkfkccfnfjbiaaW.PrintLast Go.Proofs.Ytkkfkccfnfjbiaa.Pk Go.Proofs.Ytkkfkccfnfjbiaa.PAllEv Go.Proofs.Ytkkfkccfnfjbiaa.Ra Go.Proofs.Ytkkfkccfnfjbiaa.Rb Go.Proofs.Ytkkfkccfnfjbiaa.Rc Go.Proofs.Ytkkfkccfnfjbiaa.Rd Go.Proofs.Ytkkfkccfnfjbiaa.Re Go.Proofs.Ytkkfkccfnfjbiaa.Ja Go.Proofs.Ytkkfkccfnfjbiaa.Jb Go.Proofs.Ytkkfkccfnfjbiaa.Jc Go.Proofs.Ytkkfkccfnfjbiaa.Rp
set_option linter.unusedSimpArgs false
set_option linter.unusedVariables false
/-- A text, however long it may be. -/
def tx (b : List Int) (p : Int) : List Int × Int × Int := getT b p 9223372036854775807
theorem tx_room (b : List Int) (p : Int) (hb : Bytes b) : (strOfNums (getT b p (b.length : Int)).1, (getT b p (b.length : Int)).2.1, if (getT b p (b.length : Int)).2.2 = 4 then 2 else (getT b p (b.length : Int)).2.2) = (strOfNums (tx b p).1, (tx b p).2.1, (tx b p).2.2) := by
  unfold tx getT
  by_cases h0 : (getN b p).2.2 = 0
  · obtain ⟨hp, n, hv, hn, hq, hqb, _⟩ := getN_inv (b := b) (p := p) (v := (getN b p).1) (q := (getN b p).2.1) hb (by rw [← h0])
    rw [if_pos h0, if_pos h0, hv, if_neg (show ¬ (9223372036854775807 : Int) < (n : Int) by omega)]
    by_cases h1 : (b.length : Int) < (n : Int)
    · rw [if_pos h1, if_pos (show (b.length : Int) - (getN b p).2.1 < (n : Int) by omega)]
      simp
    · rw [if_neg h1]
      by_cases h2 : (b.length : Int) - (getN b p).2.1 < (n : Int)
      · rw [if_pos h2]; simp
      · rw [if_neg h2]; simp
  · rw [if_neg h0, if_neg h0]
    have := (getN_err (b := b) (p := p) (v := (getN b p).1) (q := (getN b p).2.1) (e := (getN b p).2.2) rfl h0).2.2
    rw [if_neg (show ¬ (getN b p).2.2 = 4 by omega)]
theorem textF_ev (b : List Int) (p : Int) (hb : Bytes b) (hl : b.length ≤ 140737488351232) : Ev (fun k => textF k b p 0) (strOfNums (tx b p).1, (tx b p).2.1, (tx b p).2.2) := by
  rw [← tx_room b p hb]
  unfold textF
  simp only [if_true]
  exact Ev_map (fun r : ByteArray × Int × Int => (r.1, r.2.1, if r.2.2 = 4 then 2 else r.2.2)) (GetText_ev b p (b.length : Int) hb hl)
theorem textF_err (b : List Int) (p e : Int) (he : e ≠ 0) : Ev (fun k => textF k b p e) (⟨#[]⟩, p, e) := by
  unfold textF
  simp only [if_neg he]
  exact Ev.now _
theorem numF_ev (b : List Int) (p : Int) (hb : Bytes b) (hl : b.length ≤ 140737488351232) : Ev (fun k => numF k b p 0) (getN b p) := by
  unfold numF
  simp only [if_true]
  exact GetNum_ev b p hb hl
theorem numF_err (b : List Int) (p e : Int) (he : e ≠ 0) : Ev (fun k => numF k b p e) (0, p, e) := by
  unfold numF
  simp only [if_neg he]
  exact Ev.now _
/-- Behind an error nothing is read. -/
theorem stop_ev (b : List Int) (n p e : Int) (out : List S37) (he : e ≠ 0) : Ev (fun k => (unpL k b n p e out).bind (endL k b)) ([], e) := by
  have h : Ev (fun k => unpL k b n p e out) (out, p, e) := by
    refine Ev.step (fun _ => unpL.eq_2 ..) (Ev.congr (fun k => if_neg (fun h => he h.2)) (Ev.now _))
  refine Ev.bind h ?_
  unfold endL
  simp only [if_neg he]
  exact Ev.now _
theorem turnE_err {e : Int} (he : e ≠ 0) (g : Int) : turnE e g = e := by unfold turnE; rw [if_neg (fun h => he h.1)]
/-- One round with its end. -/
theorem round_ev {b : List Int} {n p : Int} {out : List S37} {R : List S37 × Int} (hn : n > 0) (ho : out.length < 1000000) {x y z} (hx : Ev (fun k => textF k b p 0) x) (hy : Ev (fun k => numF k b x.2.1 x.2.2) y) (hz : Ev (fun k => textF k b y.2.1 (turnE y.2.2 y.1)) z)
    (h : Ev (fun k => (unpL k b (wrap64 (n - 1)) z.2.1 z.2.2 (out ++ [⟨x.1, z.1, y.1 == 1⟩])).bind (endL k b)) R) : Ev (fun k => (unpL k b n p 0 out).bind (endL k b)) R := by
  obtain ⟨a, ha⟩ := hx
  obtain ⟨c, hc⟩ := hy
  obtain ⟨d, hd⟩ := hz
  obtain ⟨e, he⟩ := h
  refine ⟨a + c + d + e + 1, fun k hk => ?_⟩
  obtain ⟨j, rfl⟩ : ∃ j, k = j + 1 := ⟨k - 1, by omega⟩
  show (unpL (j + 1) b n p 0 out).bind (endL (j + 1) b) = _
  have h1 := ha j (by omega)
  have h2 := hc j (by omega)
  have h3 := hd j (by omega)
  have h4 := he j (by omega)
  simp only at h1 h2 h3 h4
  rw [unpL, if_pos ⟨hn, rfl⟩, if_pos ho, h1, Option.bind_some, h2, Option.bind_some, h3, Option.bind_some]
  obtain ⟨res, h5, h6⟩ := Option.bind_eq_some_iff.1 h4
  rw [h5, Option.bind_some]
  exact (show LeO (endL j b res) (endL (j + 1) b res) from LeO.ite (LeO.ite (LeO.bind (run_Right.mono _ _) fun _ => LeO.refl _) (LeO.refl _)) (LeO.refl _)) _ h6
theorem end_ev (b : List Int) (p : Int) (out : List S37) (ho : out.length < 9223372036854775807) : Ev (fun k => endL k b (out, p, 0)) (if p = (b.length : Int) then (if rightB out = true then (out, 0) else ([], 3)) else ([], 3)) := by
  unfold endL
  simp only [if_true]
  by_cases h : p = (b.length : Int)
  · simp only [if_pos h]
    refine Ev.bind (right_ev out ho) ?_
    cases rightB out with
    | true => simp only [if_true]; exact Ev.now _
    | false => simp only [Bool.false_eq_true, if_false]; exact Ev.now _
  · simp only [if_neg h]; exact Ev.now _
theorem endR_ev (b : List Int) (p : Int) (out : List S37) (ho : out.length < 9223372036854775807) : Ev (fun k => endR k b p out) (if p = (b.length : Int) then (if rightB out = true then (out, 0) else ([], 3)) else ([], 3)) := by
  unfold endR
  by_cases h : p = (b.length : Int)
  · simp only [if_pos h]
    refine Ev.bind (ref_right_ev out ho) ?_
    cases rightB out with
    | true => simp only [if_true]; exact Ev.now _
    | false => simp only [Bool.false_eq_true, if_false]; exact Ev.now _
  · simp only [if_neg h]; exact Ev.now _
theorem drop_add {b : List Int} {p q : Int} {x rest : List Int} (hp : 0 ≤ p) (h : b.drop p.toNat = x ++ rest) (hq : q = p + x.length) : b.drop p.toNat = x ++ b.drop q.toNat := by
  have e : q.toNat = p.toNat + x.length := by omega
  rw [e, ← List.drop_drop, h, List.drop_left]
theorem gone_le (c : S37) : gone c ≤ 1 := by unfold gone; split <;> omega
theorem encCs_ge : ∀ us : List S37, us.length ≤ (encCs us).length
  | [] => by simp
  | c :: t => by
    have h := encCs_ge t
    rw [encCs_cons, List.length_append, List.length_cons]
    unfold encC
    rw [List.length_append, List.length_cons]
    omega
theorem both (b : List Int) (hb : Bytes b) (hl : b.length < 1000000) : ∀ (m n p : Nat) (out : List S37) (i : Int), b.length - p ≤ m → p ≤ b.length → out.length ≤ p → 0 ≤ i → i + n < 9223372036854775808 →
    ∃ r : List S37 × Int, Ev (fun k => (unpL k b (n : Int) (p : Int) 0 out).bind (endL k b)) r ∧ Ev (fun k => ruL k b (i + n) (p : Int) i out) r ∧ (r.2 ≠ 0 → r.1 = []) ∧ (r.2 = 0 → rightB r.1 = true ∧ ∃ us, r.1 = out ++ us ∧ us.length = n ∧ b.drop p = encCs us)
  | m, 0, p, out, i, hm, hp, ho, hi, hn => by
    refine ⟨_, Ev.bind (Ev.step (fun _ => unpL.eq_2 ..) (Ev.congr (fun k => if_neg (fun h => by have := h.1; omega)) (Ev.now _))) (end_ev b p out (by omega)), Ev.step (fun _ => ruL.eq_2 ..) (Ev.congr (fun k => if_neg (by omega)) (endR_ev b p out (by omega))), ?_⟩
    by_cases h : (p : Int) = (b.length : Int)
    · rw [if_pos h]
      cases hr : rightB out with
      | true => exact ⟨fun h1 => absurd rfl h1, fun _ => ⟨hr, [], by simp, rfl, by rw [List.drop_eq_nil_of_le (by omega)]; rfl⟩⟩
      | false => exact ⟨fun _ => rfl, (fun h1 => by cases h1)⟩
    · rw [if_neg h]
      exact ⟨fun _ => rfl, (fun h1 => by cases h1)⟩
  | 0, n + 1, p, out, i, hm, hp, ho, hi, hn => by
    -- nothing is left: the text's number is cut off
    have hx : ∀ q : Int, getN b p = (0, 0, 2) := fun _ => by unfold getN; rw [if_neg (by omega), Int.toNat_natCast, List.drop_eq_nil_of_le (by omega)]; rfl
    have ht : tx b p = ([], 0, 2) := by unfold tx getT; rw [hx 0]; rfl
    have hh : Ev (fun k => textF k b p 0) (strOfNums [], 0, 2) := by have := textF_ev b p hb (by omega); rw [ht] at this; exact this
    refine ⟨([], 2), round_ev (by omega) (by omega) hh (numF_err b 0 2 (by decide)) (by rw [turnE_err (by decide)]; exact textF_err b 0 2 (by decide)) (stop_ev b _ _ 2 _ (by decide)), ?_, fun _ => rfl, (fun h1 => by cases h1)⟩
    have h2 := refGetText_ev b (p : Int) 9223372036854775807 hb (by omega)
    rw [show getT b p 9223372036854775807 = ([], 0, 2) from ht] at h2
    exact Ev.step (fun _ => ruL.eq_2 ..) (Ev.congr (fun k => if_pos (by omega)) (Ev.bind h2 (Ev.congr (fun k => if_neg (by decide)) (Ev.now _))))
  | m + 1, n + 1, p, out, i, hm, hp, ho, hi, hn => by
    have hT := textF_ev b p hb (by omega)
    have hRT := refGetText_ev b (p : Int) 9223372036854775807 hb (by omega)
    obtain ⟨s1, q1, e1, ht⟩ : ∃ s q e, tx b p = (s, q, e) := ⟨_, _, _, rfl⟩
    rw [ht] at hT
    rw [show getT b p 9223372036854775807 = (s1, q1, e1) from ht] at hRT
    have hout : out.length < 1000000 := by omega
    have hpos : ((n + 1 : Nat) : Int) > 0 := by omega
    have href : ∀ {R : List S37 × Int}, Ev (fun k => (fun t : Int × ByteArray × List ByteArray × Int × Int => if t.2.2.2.2 = 0 then ((shelfmarkref01_GetNum.f k b t.2.2.2.1).bind fun g => if g.2.2.2.2 = 0 then (if g.1 > 1 then some ([], 3) else ((shelfmarkref01_GetText.f k b g.2.2.2.1 9223372036854775807).bind fun v => if v.2.2.2.2 = 0 then (if out.length < 1000000 then ruL k b (i + (n + 1 : Nat)) v.2.2.2.1 (wrap64 (i + 1)) (out ++ [⟨t.2.1, v.2.1, g.1 == 1⟩]) else none) else some ([], v.2.2.2.2))) else some ([], g.2.2.2.2)) else some ([], t.2.2.2.2)) (0, strOfNums s1, ([] : List ByteArray), q1, e1)) R → Ev (fun k => ruL k b (i + (n + 1 : Nat)) (p : Int) i out) R := fun h => Ev.step (fun _ => ruL.eq_2 ..) (Ev.congr (fun k => if_pos (by omega)) (Ev.bind hRT h))
    by_cases he1 : e1 = 0
    rotate_left
    · refine ⟨([], e1), round_ev hpos hout hT (numF_err b q1 e1 he1) (by rw [turnE_err he1]; exact textF_err b q1 e1 he1) (stop_ev b _ _ _ _ he1), href ?_, fun _ => rfl, fun h1 => absurd h1 he1⟩
      simp only [if_neg he1]
      exact Ev.now _
    subst he1
    obtain ⟨_, hq1, hq1l, _, _, hs1, _, rest1, hr1⟩ := getT_inv (b := b) (p := (p : Int)) (most := 9223372036854775807) (s := s1) (q := q1) hb ht
    have hd1 : b.drop p = encT s1 ++ b.drop q1.toNat := by have := drop_add (p := (p : Int)) (by omega) hr1 hq1; rwa [Int.toNat_natCast] at this
    have hN := numF_ev b q1 hb (by omega)
    have hRN := refGetNum_ev b q1 hb (by omega)
    obtain ⟨v, q2, e2, hg⟩ : ∃ v q e, getN b q1 = (v, q, e) := ⟨_, _, _, rfl⟩
    rw [hg] at hN hRN
    by_cases he2 : e2 = 0
    rotate_left
    · refine ⟨([], e2), round_ev hpos hout hT hN (by rw [turnE_err he2]; exact textF_err b q2 e2 he2) (stop_ev b _ _ _ _ he2), href ?_, fun _ => rfl, fun h1 => absurd h1 he2⟩
      simp only [if_true]
      refine Ev.bind hRN ?_
      simp only [if_neg he2]
      exact Ev.now _
    subst he2
    obtain ⟨_, ng, hv, hng, hq2, hq2l, _, rest2, hr2⟩ := getN_inv (b := b) (p := q1) (v := v) (q := q2) hb hg
    subst hv
    have hd2 : b.drop q1.toNat = encN ng ++ b.drop q2.toNat := drop_add (by omega) hr2 hq2
    have hlen1 := encT_pos s1
    have hlen2 := encN_pos ng
    by_cases hg1 : ((ng : Int)) > 1
    · have h3 : turnE 0 (ng : Int) = 3 := by unfold turnE; rw [if_pos ⟨rfl, hg1⟩]
      refine ⟨([], 3), round_ev hpos hout hT hN (by rw [h3]; exact textF_err b q2 3 (by decide)) (stop_ev b _ _ 3 _ (by decide)), href ?_, fun _ => rfl, (fun h1 => by cases h1)⟩
      simp only [if_true]
      refine Ev.bind hRN ?_
      simp only [if_true, if_pos hg1]
      exact Ev.now _
    have h3 : turnE 0 (ng : Int) = 0 := by unfold turnE; rw [if_neg (fun h => hg1 h.2)]
    have hV := textF_ev b q2 hb (by omega)
    have hRV := refGetText_ev b q2 9223372036854775807 hb (by omega)
    obtain ⟨s3, q3, e3, hv⟩ : ∃ s q e, tx b q2 = (s, q, e) := ⟨_, _, _, rfl⟩
    rw [hv] at hV
    rw [show getT b q2 9223372036854775807 = (s3, q3, e3) from hv] at hRV
    by_cases he3 : e3 = 0
    rotate_left
    · refine ⟨([], e3), round_ev hpos hout hT hN (by rw [h3]; exact hV) (stop_ev b _ _ _ _ he3), href ?_, fun _ => rfl, fun h1 => absurd h1 he3⟩
      simp only [if_true]
      refine Ev.bind hRN ?_
      simp only [if_true, if_neg hg1]
      refine Ev.bind hRV ?_
      simp only [if_neg he3]
      exact Ev.now _
    subst he3
    obtain ⟨_, hq3, hq3l, _, _, hs3, _, rest3, hr3⟩ := getT_inv (b := b) (p := q2) (most := 9223372036854775807) (s := s3) (q := q3) hb hv
    have hd3 : b.drop q2.toNat = encT s3 ++ b.drop q3.toNat := drop_add (by omega) hr3 hq3
    have hlen3 := encT_pos s3
    obtain ⟨p3, hp3⟩ : ∃ p3 : Nat, q3 = (p3 : Int) := ⟨q3.toNat, by omega⟩
    subst hp3
    obtain ⟨r, h4, h5, h6, h7⟩ := both b hb hl m n p3 (out ++ [⟨strOfNums s1, strOfNums s3, (ng : Int) == 1⟩]) (i + 1) (by omega) (by omega) (by rw [List.length_append, List.length_cons, List.length_nil]; omega) (by omega) (by omega)
    refine ⟨r, round_ev hpos hout hT hN (by rw [h3]; exact hV) ?_, href ?_, h6, fun h8 => ?_⟩
    · rw [Rc.w64 (by omega) (by omega), show ((n + 1 : Nat) : Int) - 1 = (n : Int) by omega]
      exact h4
    · simp only [if_true]
      refine Ev.bind hRN ?_
      simp only [if_true, if_neg hg1]
      refine Ev.bind hRV ?_
      simp only [if_true, if_pos hout]
      rw [Rc.w64 (by omega) (by omega), show i + ((n + 1 : Nat) : Int) = i + 1 + (n : Int) by omega]
      exact h5
    · obtain ⟨h9, us, hu1, hu2, hu3⟩ := h7 h8
      refine ⟨h9, ⟨strOfNums s1, strOfNums s3, (ng : Int) == 1⟩ :: us, by rw [hu1]; simp, by rw [List.length_cons, hu2], ?_⟩
      rw [encCs_cons, hd1, hd2, hd3, Int.toNat_natCast, hu3]
      unfold encC
      have hgone : (gone ⟨strOfNums s1, strOfNums s3, (ng : Int) == 1⟩) = ng := by
        unfold gone
        by_cases h1 : ng = 1
        · subst h1; rfl
        · have : ng = 0 := by omega
          subst this; rfl
      rw [hgone, bytesOf_strOfNums hs1, bytesOf_strOfNums hs3, encN_small (by omega)]
      simp
theorem unpack_both (b : List Int) (hb : Bytes b) (hl : b.length < 1000000) : ∃ r : List S37 × Int, Ev (fun k => PAll.run_Unpack.f k b) r ∧ Ev (fun k => PAll.shelfmarkref09_Unpack.f k b) r ∧ (r.2 ≠ 0 → r.1 = []) ∧ (r.2 = 0 → rightB r.1 = true ∧ b = packL r.1) := by
  have hN := numF_ev b 0 hb (by omega)
  have hRN := refGetNum_ev b 0 hb (by omega)
  obtain ⟨v, q, e, hg⟩ : ∃ v q e, getN b 0 = (v, q, e) := ⟨_, _, _, rfl⟩
  rw [hg] at hN hRN
  by_cases he : e = 0
  · subst he
    obtain ⟨_, n, hv, hn, hq, hql, _, rest, hr⟩ := getN_inv (b := b) (p := 0) (v := v) (q := q) hb hg
    subst hv
    have hd : b.drop (0 : Int).toNat = encN n ++ b.drop q.toNat := drop_add (by omega) hr hq
    have hpos := encN_pos n
    obtain ⟨p, hp⟩ : ∃ p : Nat, q = (p : Int) := ⟨q.toNat, by omega⟩
    subst hp
    obtain ⟨r, h4, h5, h6, h7⟩ := both b hb hl b.length n p [] 0 (by omega) (by omega) (by simp) (by omega) (by omega)
    refine ⟨r, ?_, ?_, h6, fun h8 => ?_⟩
    · exact Ev.bind (f := fun k x => (unpL k b x.1 x.2.1 x.2.2 []).bind fun r => endL k b r) hN h4
    · refine Ev.bind (f := fun k x => if x.2.2.2.2 = 0 then ruL k b x.1 x.2.2.2.1 0 [] else some ([], x.2.2.2.2)) hRN ?_
      simp only [if_true]
      rw [show (0 : Int) + (n : Int) = (n : Int) by omega] at h5
      exact h5
    · obtain ⟨h9, us, hu1, hu2, hu3⟩ := h7 h8
      refine ⟨h9, ?_⟩
      rw [show (0 : Int).toNat = 0 from rfl, List.drop_zero, Int.toNat_natCast, hu3, ← hu2] at hd
      have : r.1 = us := by rw [hu1]; rfl
      rw [this]
      exact hd
  · have hst : Ev (fun k => (unpL k b v q e []).bind fun r => endL k b r) ([], e) := stop_ev b _ _ _ _ he
    refine ⟨([], e), Ev.bind (f := fun k (x : Int × Int × Int) => (unpL k b x.1 x.2.1 x.2.2 []).bind fun r => endL k b r) hN hst, ?_, fun _ => rfl, fun h1 => absurd h1 he⟩
    refine Ev.bind (f := fun k x => if x.2.2.2.2 = 0 then ruL k b x.1 x.2.2.2.1 0 [] else some ([], x.2.2.2.2)) hRN ?_
    simp only [if_neg he]
    exact Ev.now _
/-- What was put is read as it was. -/
theorem enc_ev (b : List Int) (hb : Bytes b) (hl : b.length < 1000000) : ∀ (us : List S37) (p : Nat) (out : List S37), b.drop p = encCs us → p ≤ b.length → out.length ≤ p → (∀ c ∈ us, c.f0.size ≤ 4000 ∧ c.f1.size ≤ 4000) → rightB (out ++ us) = true → Ev (fun k => (unpL k b (us.length : Int) (p : Int) 0 out).bind (endL k b)) (out ++ us, 0)
  | [], p, out, hd, hp, ho, hs, hr => by
    have hpe : p = b.length := by have := congrArg List.length hd; rw [List.length_drop] at this; simp [encCs] at this; omega
    have h := end_ev b (p : Int) out (by omega)
    rw [List.append_nil] at hr ⊢
    rw [if_pos (by omega), if_pos hr] at h
    exact Ev.bind (Ev.step (fun _ => unpL.eq_2 ..) (Ev.congr (fun k => if_neg (fun h => by have := h.1; simp at this)) (Ev.now _))) h
  | c :: us, p, out, hd, hp, ho, hs, hr => by
    have hc := hs c (by simp)
    rw [encCs_cons] at hd
    unfold encC at hd
    have hd1 : b.drop (p : Int).toNat = encT (bytesOf c.f0) ++ ((gone c : Int) :: encT (bytesOf c.f1) ++ encCs us) := by rw [Int.toNat_natCast, hd, List.append_assoc]
    have h1 := getT_enc (b := b) (p := (p : Int)) (most := 9223372036854775807) (by omega) (by omega) (by rw [bytesOf_size]; omega) (by rw [bytesOf_size]; omega) hd1
    have hlb : (encT (bytesOf c.f0)).length + ((gone c : Int) :: encT (bytesOf c.f1) ++ encCs us).length = b.length - p := by have := congrArg List.length hd1; rw [List.length_drop, List.length_append, Int.toNat_natCast] at this; omega
    obtain ⟨q1, hq1⟩ : ∃ q1 : Nat, p + (encT (bytesOf c.f0)).length = q1 := ⟨_, rfl⟩
    have hd2 : b.drop q1 = encN (gone c) ++ (encT (bytesOf c.f1) ++ encCs us) := by
      rw [← hq1, ← List.drop_drop, show b.drop p = b.drop (p : Int).toNat by rw [Int.toNat_natCast], hd1, List.drop_left, encN_small (gone_lt c)]; rfl
    have hle : q1 ≤ b.length := by simp only [List.length_append, List.length_cons] at hlb; omega
    have h2 := getN_enc (b := b) (p := (q1 : Int)) (n := gone c) (rest := encT (bytesOf c.f1) ++ encCs us) (by omega) (by omega) (by have := gone_lt c; omega) (by rw [Int.toNat_natCast]; exact hd2)
    have hel : (encN (gone c)).length = 1 := by rw [encN_small (gone_lt c)]; rfl
    have hd3 : b.drop (q1 + 1) = encT (bytesOf c.f1) ++ encCs us := by rw [← List.drop_drop, hd2, ← hel, List.drop_left]
    have hle3 : q1 + 1 + (encT (bytesOf c.f1)).length ≤ b.length := by simp only [List.length_append, List.length_cons] at hlb; omega
    have h3 := getT_enc (b := b) (p := ((q1 + 1 : Nat) : Int)) (most := 9223372036854775807) (s := bytesOf c.f1) (rest := encCs us) (by omega) (by omega) (by rw [bytesOf_size]; omega) (by rw [bytesOf_size]; omega) (by rw [Int.toNat_natCast]; exact hd3)
    have hT := textF_ev b (p : Int) hb (by omega)
    rw [show tx b (p : Int) = _ from h1, show (p : Int) + ((encT (bytesOf c.f0)).length : Int) = (q1 : Int) by omega] at hT
    have hN := numF_ev b (q1 : Int) hb (by omega)
    rw [h2, hel, show (q1 : Int) + ((1 : Nat) : Int) = ((q1 + 1 : Nat) : Int) by omega] at hN
    have hV := textF_ev b ((q1 + 1 : Nat) : Int) hb (by omega)
    obtain ⟨q3, hq3⟩ : ∃ q3 : Nat, q1 + 1 + (encT (bytesOf c.f1)).length = q3 := ⟨_, rfl⟩
    rw [show tx b ((q1 + 1 : Nat) : Int) = _ from h3, show ((q1 + 1 : Nat) : Int) + ((encT (bytesOf c.f1)).length : Int) = (q3 : Int) by omega] at hV
    have hturn : turnE 0 (gone c : Int) = 0 := by unfold turnE; rw [if_neg]; rintro ⟨_, h⟩; have := gone_le c; omega
    have hpos := encT_pos (bytesOf c.f0)
    have hcc : (⟨strOfNums (bytesOf c.f0), strOfNums (bytesOf c.f1), (gone c : Int) == 1⟩ : S37) = c := by
      rw [strOfNums_bytesOf, strOfNums_bytesOf]
      obtain ⟨x, y, z⟩ := c
      cases z <;> rfl
    have ih := enc_ev b hb hl us q3 (out ++ [c]) (by rw [← hq3, ← List.drop_drop, hd3, List.drop_left]) (by omega) (by rw [List.length_append, List.length_cons, List.length_nil]; omega) (fun d hd => hs d (List.mem_cons_of_mem _ hd)) (by rw [List.append_assoc]; exact hr)
    rw [List.append_assoc] at ih
    refine round_ev (by simp) (by omega) hT hN (by rw [hturn]; exact hV) ?_
    simp only [hcc]
    rw [Rc.w64 (by rw [List.length_cons]; omega) (by rw [List.length_cons]; have : us.length ≤ (encCs us).length := encCs_ge us; simp only [List.length_append, List.length_cons] at hlb; omega), show (((c :: us).length : Nat) : Int) - 1 = (us.length : Int) by rw [List.length_cons]; omega]
    exact ih
theorem encCs_bytes : ∀ us : List S37, Bytes (encCs us)
  | [] => Bytes.nil
  | c :: t => by
    rw [encCs_cons]
    unfold encC
    have h := gone_lt c
    exact ((encT_bytes (bytesOf_bytes _)).append (Bytes.cons (by omega) (by omega) (encT_bytes (bytesOf_bytes _)))).append (encCs_bytes t)
theorem packed_small : ∀ (us : List S37), ∀ c ∈ us, c.f0.size ≤ (encCs us).length ∧ c.f1.size ≤ (encCs us).length
  | x :: t, c, h => by
    rw [encCs_cons, List.length_append]
    rcases List.mem_cons.1 h with rfl | h
    · unfold encC encT
      simp only [List.length_append, List.length_cons, bytesOf_size]
      omega
    · have := packed_small t c h
      omega
theorem unpack_enc (l : List S37) (hl : l.length ≤ 60) (hs : ∀ c ∈ l, c.f0.size ≤ 4000 ∧ c.f1.size ≤ 4000) (hr : rightB l = true) : Ev (fun k => PAll.run_Unpack.f k (packL l)) (l, 0) := by
  have hb : Bytes (packL l) := (encN_bytes _).append (encCs_bytes l)
  have h1 := encCs_len l hs
  have h2 := encN_le (n := l.length) (by omega)
  have hlen : (packL l).length = (encN l.length).length + (encCs l).length := by unfold packL; rw [List.length_append]
  have hN := numF_ev (packL l) 0 hb (by omega)
  rw [getN_enc (b := packL l) (p := 0) (n := l.length) (rest := encCs l) (by omega) (by omega) (by omega) rfl] at hN
  have h3 := enc_ev (packL l) hb (by omega) l (encN l.length).length [] (by unfold packL; rw [List.drop_left]) (by omega) (by simp) hs hr
  rw [Int.zero_add] at hN
  exact Ev.bind (f := fun k (x : Int × Int × Int) => (unpL k (packL l) x.1 x.2.1 x.2.2 []).bind fun r => endL k (packL l) r) hN h3
end Go.Proofs.Ytkkfkccfnfjbiaa.Rq
