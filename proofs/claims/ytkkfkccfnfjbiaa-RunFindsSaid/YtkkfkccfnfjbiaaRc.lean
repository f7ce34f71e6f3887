/- DERIVED. Runs: what Right, put, Make and Merge of both sides come to, from some number of rounds on. Conditions: those that each lemma names. -/
import Derived.Test.YtkkfkccfnfjbiaaRb
import Derived.Test.YtkkfkccfnfjbiaaPAllx10
import Derived.Test.YtkkfkccfnfjbiaaPAllx11
import Derived.Test.YtkkfkccfnfjbiaaPAllx11
import Derived.Test.YtkkfkccfnfjbiaaPAllx12
import Derived.Test.YtkkfkccfnfjbiaaPAllx13
import Derived.Test.YtkkfkccfnfjbiaaPAllx5
import Derived.Test.YtkkfkccfnfjbiaaPAllx6
namespace Go.Proofs.Ytkkfkccfnfjbiaa.Rc
open Go.RowKit Go.Proofs.Ytkkfkccfnfjbiaa.PAll Go.Proofs.YtkkfkccfnfjbiaaW.PrintWords Go.Proofs.YtkkfkccfnfjbiaaW.PrintLast Go.Proofs.Ytkkfkccfnfjbiaa.Ht Go.Proofs.Ytkkfkccfnfjbiaa.Hu Go.Proofs.Ytkkfkccfnfjbiaa.Hv Go.Proofs.Ytkkfkccfnfjbiaa.Hw Go.Proofs.Ytkkfkccfnfjbiaa.Ra Go.Proofs.Ytkkfkccfnfjbiaa.Rb
set_option linter.unusedSimpArgs false
set_option linter.unusedVariables false
theorem w64 {x : Int} (h0 : -9223372036854775808 ≤ x) (h1 : x < 9223372036854775808) : wrap64 x = x := Go.IntWalk.wrap64_in _ (by omega)
theorem rd_get (l : List S37) (i : Nat) (h : i < l.length) : rd_T37 l (i : Int) = l[i] := by
  unfold rd_T37
  rw [Int.toNat_natCast, List.getD_eq_getElem?_getD, List.getElem?_eq_getElem h]; rfl
theorem rdL_get (l : List (List S37)) (i : Nat) (h : i < l.length) : rd_L4 l (i : Int) = l[i] := by
  unfold rd_L4
  rw [Int.toNat_natCast, List.getD_eq_getElem?_getD, List.getElem?_eq_getElem h]; rfl
theorem up1 {i : Nat} (h : i < 9223372036854775807) : wrap64 ((i : Int) + 1) = ((i + 1 : Nat) : Int) := by rw [w64 (by omega) (by omega)]; omega
def tidyB (c : S37) : Bool := !c.f2 || decide (c.f1.toList = [])
def chainB : Option (List UInt8) → List S37 → Bool
  | _, [] => true
  | none, c :: t => tidyB c && chainB (some (K c)) t
  | some q, c :: t => decide (q < K c) && (tidyB c && chainB (some (K c)) t)
def rightB (l : List S37) : Bool := chainB none l
def prev (l : List S37) : Nat → Option (List UInt8)
  | 0 => none
  | i + 1 => some (K (rd_T37 l (i : Int)))
theorem right_l0 (l : List S37) (hl : l.length < 9223372036854775807) : ∀ (m i : Nat), i + m = l.length → Ev (fun k => run_Right.l0 k l l (l.length : Int) (i : Int)) (chainB (prev l i) (l.drop i))
  | 0, i, h => by
    refine Ev.step (fun _ => run_Right.l0.eq_2 ..) ?_
    rw [List.drop_eq_nil_of_le (by omega)]
    simp only [if_neg (show ¬ (i : Int) < (l.length : Int) by omega)]
    cases prev l i <;> exact Ev.now _
  | m + 1, i, h => by
    have hi : i < l.length := by omega
    refine Ev.step (fun _ => run_Right.l0.eq_2 ..) ?_
    simp only [if_pos (show (i : Int) < (l.length : Int) by omega), if_pos (show (0 : Int) ≤ (i : Int) by omega), rd_get l i hi]
    have ih := right_l0 l hl m (i + 1) (by omega)
    rw [List.drop_eq_getElem_cons hi]
    have hp : prev l (i + 1) = some (K l[i]) := by show some _ = _; rw [rd_get l i hi]
    rw [hp] at ih
    rw [up1 (by omega)]
    have hrest : Ev (fun n => if l[i].f2 = true then (if (l[i].f1).toList = ([] : List UInt8) then run_Right.l0 n l l (l.length : Int) ((i + 1 : Nat) : Int) else some false) else run_Right.l0 n l l (l.length : Int) ((i + 1 : Nat) : Int)) (tidyB l[i] && chainB (some (K l[i])) (l.drop (i + 1))) := by
      unfold tidyB
      by_cases h1 : l[i].f2 = true
      · simp only [if_pos h1]
        by_cases h2 : (l[i].f1).toList = []
        · simp only [if_pos h2, h1, h2, decide_true, Bool.or_true, Bool.true_and]; exact ih
        · simp only [if_neg h2, h1, h2, decide_false, Bool.not_true, Bool.or_false, Bool.false_and]; exact Ev.now _
      · simp only [if_neg h1]
        rw [show l[i].f2 = false by simpa using h1]
        simp only [Bool.not_false, Bool.true_or, Bool.true_and]; exact ih
    cases i with
    | zero =>
      simp only [if_neg (show ¬ ((0 : Nat) : Int) > 0 by omega)]
      exact hrest
    | succ j =>
      simp only [if_pos (show ((j + 1 : Nat) : Int) > 0 by omega)]
      have hw : wrap64 (((j + 1 : Nat) : Int) - 1) = (j : Int) := by rw [w64 (by omega) (by omega)]; omega
      simp only [hw, if_pos (show (0 : Int) ≤ (j : Int) by omega), if_pos (show (j : Int) < (l.length : Int) by omega)]
      show Ev _ (decide (K (rd_T37 l (j : Int)) < K l[j + 1]) && _)
      rw [bl_eq]
      by_cases h3 : K (rd_T37 l (j : Int)) < K l[j + 1]
      · have h3' : decide ((rd_T37 l (j : Int)).f0.toList < l[j + 1].f0.toList) = true := decide_eq_true h3
        simp only [h3', if_true, h3, decide_true, Bool.true_and]
        exact hrest
      · have h3' : decide ((rd_T37 l (j : Int)).f0.toList < l[j + 1].f0.toList) = false := decide_eq_false h3
        simp only [h3', Bool.false_eq_true, if_false, h3, decide_false, Bool.false_and]
        exact Ev.now _
theorem right_ev (l : List S37) (hl : l.length < 9223372036854775807) : Ev (fun k => run_Right.f k l) (rightB l) := by
  unfold run_Right.f
  exact right_l0 l hl l.length 0 (by omega)
theorem ref_right_l0 (l : List S37) (hl : l.length < 9223372036854775807) : ∀ (m i : Nat), i + m = l.length → Ev (fun k => shelfmarkref09_Right.l0 k l (i : Int)) (chainB (prev l i) (l.drop i))
  | 0, i, h => by
    refine Ev.step (fun _ => shelfmarkref09_Right.l0.eq_2 ..) ?_
    rw [List.drop_eq_nil_of_le (by omega)]
    simp only [if_neg (show ¬ (i : Int) < (l.length : Int) by omega)]
    cases prev l i <;> exact Ev.now _
  | m + 1, i, h => by
    have hi : i < l.length := by omega
    have ih := ref_right_l0 l hl m (i + 1) (by omega)
    have hp : prev l (i + 1) = some (K l[i]) := by show some _ = _; rw [rd_get l i hi]
    rw [hp] at ih
    have hj : ∀ b : Bool, Ev (fun k => shelfmarkref09_Right.j1 k l (i : Int) b) (if b = true then false else match prev l i with | none => chainB (some (K l[i])) (l.drop (i + 1)) | some q => decide (q < K l[i]) && chainB (some (K l[i])) (l.drop (i + 1))) := by
      intro b
      refine Ev.step (fun _ => shelfmarkref09_Right.j1.eq_2 ..) ?_
      cases b with
      | true => simp only [if_true]; exact Ev.now _
      | false =>
        simp only [Bool.false_eq_true, if_false]
        rw [up1 (by omega)]
        cases i with
        | zero =>
          simp only [if_neg (show ¬ ((0 : Nat) : Int) > 0 by omega)]
          exact ih
        | succ j =>
          simp only [if_pos (show ((j + 1 : Nat) : Int) > 0 by omega)]
          have hw : wrap64 (((j + 1 : Nat) : Int) - 1) = (j : Int) := by rw [w64 (by omega) (by omega)]; omega
          simp only [hw, if_pos (show (0 : Int) ≤ (j : Int) by omega), if_pos (show (j : Int) < (l.length : Int) by omega), if_pos (show (0 : Int) ≤ ((j + 1 : Nat) : Int) by omega), if_pos (show ((j + 1 : Nat) : Int) < (l.length : Int) by omega)]
          show Ev _ (decide (K (rd_T37 l (j : Int)) < K l[j + 1]) && _)
          rw [bl_eq, rd_get l (j + 1) hi]
          by_cases h3 : K (rd_T37 l (j : Int)) < K l[j + 1]
          · have h3' : decide ((rd_T37 l (j : Int)).f0.toList < l[j + 1].f0.toList) = true := decide_eq_true h3
            simp only [h3', if_true, h3, decide_true, Bool.true_and]
            exact ih
          · have h3' : decide ((rd_T37 l (j : Int)).f0.toList < l[j + 1].f0.toList) = false := decide_eq_false h3
            simp only [h3', Bool.false_eq_true, if_false, h3, decide_false, Bool.false_and]
            exact Ev.now _
    refine Ev.step (fun _ => shelfmarkref09_Right.l0.eq_2 ..) ?_
    simp only [if_pos (show (i : Int) < (l.length : Int) by omega), if_pos (show (0 : Int) ≤ (i : Int) by omega), rd_get l i hi]
    rw [List.drop_eq_getElem_cons hi]
    have hfin : chainB (prev l i) (l[i] :: l.drop (i + 1)) = (if (!(tidyB l[i])) = true then false else match prev l i with | none => chainB (some (K l[i])) (l.drop (i + 1)) | some q => decide (q < K l[i]) && chainB (some (K l[i])) (l.drop (i + 1))) := by
      cases hq : prev l i <;> simp only [chainB] <;> cases tidyB l[i] <;> simp
    rw [hfin]
    unfold tidyB
    by_cases h1 : l[i].f2 = true
    · simp only [if_pos h1, h1]
      have : (!(!true || decide ((l[i].f1).toList = []))) = ((l[i].f1).toList != []) := by
        by_cases h2 : (l[i].f1).toList = [] <;> simp [h2]
      rw [this]
      exact hj _
    · simp only [if_neg h1]
      have : (!(!l[i].f2 || decide ((l[i].f1).toList = []))) = false := by
        rw [show l[i].f2 = false by simpa using h1]; simp
      rw [this]
      exact hj _
theorem ref_right_ev (l : List S37) (hl : l.length < 9223372036854775807) : Ev (fun k => shelfmarkref09_Right.f k l) (rightB l) := by
  unfold shelfmarkref09_Right.f
  exact ref_right_l0 l hl l.length 0 (by omega)
theorem chain_iff : ∀ (l : List S37) (q : Option (List UInt8)), chainB q l = true ↔ (∀ a, q = some a → ∀ c ∈ l, a < K c) ∧ Sorted l ∧ ∀ c ∈ l, tidyB c = true
  | [], q => by
    cases q <;> simp [chainB, Sorted]
  | c :: t, q => by
    have ih := chain_iff t (some (K c))
    have hs : Sorted (c :: t) ↔ (∀ d ∈ t, K c < K d) ∧ Sorted t := List.pairwise_cons
    cases q with
    | none =>
      simp only [chainB, Bool.and_eq_true, ih, hs, List.forall_mem_cons]
      constructor
      · rintro ⟨h1, h2, h3, h4⟩
        exact ⟨(fun a ha => by cases ha), ⟨h2 _ rfl, h3⟩, h1, h4⟩
      · rintro ⟨_, ⟨h2, h3⟩, h1, h4⟩
        exact ⟨h1, (fun a ha d hd => by cases ha; exact h2 d hd), h3, h4⟩
    | some a =>
      simp only [chainB, Bool.and_eq_true, ih, hs, decide_eq_true_eq, List.forall_mem_cons]
      constructor
      · rintro ⟨h0, h1, h2, h3, h4⟩
        exact ⟨(fun b hb => by cases hb; exact ⟨h0, fun d hd => List.lt_trans h0 (h2 _ rfl d hd)⟩), ⟨h2 _ rfl, h3⟩, h1, h4⟩
      · rintro ⟨h0, ⟨h2, h3⟩, h1, h4⟩
        exact ⟨(h0 a rfl).1, h1, (fun b hb d hd => by cases hb; exact h2 d hd), h3, h4⟩
theorem right_iff (l : List S37) : rightB l = true ↔ Sorted l ∧ ∀ c ∈ l, tidyB c = true := by
  unfold rightB
  rw [chain_iff]
  exact ⟨fun h => h.2, fun h => ⟨(fun a ha => by cases ha), h⟩⟩
theorem rightL_ev : ∀ ls : List (List S37), (∀ l ∈ ls, l.length < 9223372036854775807) → Ev (fun k => rightL k ls) (ls.all rightB)
  | [], _ => Ev.now _
  | l :: t, h => by
    have ih := rightL_ev t (fun x hx => h x (List.mem_cons_of_mem _ hx))
    show Ev (fun k => (run_Right.f k l).bind fun b => if b = true then rightL k t else some false) _
    refine Ev.bind (right_ev l (h l (by simp))) ?_
    rw [List.all_cons]
    cases rightB l with
    | true => simp only [if_true, Bool.true_and]; exact ih
    | false => simp only [Bool.false_eq_true, if_false, Bool.false_and]; exact Ev.now _
def putL : List S37 → S37 → List S37
  | [], c => [c]
  | x :: t, c => if K x < K c then x :: putL t c else if K x = K c then c :: t else c :: x :: t
def norm (c : S37) : S37 := if c.f2 = true then ⟨c.f0, ⟨#[]⟩, c.f2⟩ else c
theorem norm_key (c : S37) : K (norm c) = K c := by unfold norm; split <;> rfl
theorem nil_of_toList {b : ByteArray} (h : b.toList = []) : b = ⟨#[]⟩ := by
  have h2 : b.data.toList = [] := by rw [← ByteArray.toList_eq]; exact h
  cases b with
  | mk d => cases d with
    | mk l => simp at h2; subst h2; rfl
theorem norm_tidy {c : S37} (h : tidyB c = true) : norm c = c := by
  unfold norm
  split
  · rename_i h1
    unfold tidyB at h
    rw [h1] at h
    have h2 : c.f1.toList = [] := by simpa using h
    obtain ⟨a, b, g⟩ := c
    have h3 : b = ⟨#[]⟩ := nil_of_toList h2
    rw [h3]
  · rfl
theorem putL_len (c : S37) : ∀ l, (putL l c).length ≤ l.length + 1
  | [] => by simp [putL]
  | x :: t => by
    have := putL_len c t
    simp only [putL]
    split
    · simp only [List.length_cons]; omega
    · split <;> simp
theorem put_l0 (l : List S37) (a b : ByteArray) (g : Bool) (hl : l.length < 3518437208000) : ∀ (m i : Nat), i + m = l.length → Ev (fun k => shelfmarkref09_put.l0 k l (l.take i) (i : Int) a b g) (l.take i ++ putL (l.drop i) ⟨a, b, g⟩)
  | 0, i, h => by
    have hlt : (l.take i).length = i := by rw [List.length_take]; omega
    have hdn : l.drop i = [] := List.drop_eq_nil_of_le (by omega)
    have q5 : (l.take i ++ [(⟨a, b, g⟩ : S37)]).length + (l.drop ((i : Int)).toNat).length < 3518437208883 := by rw [List.length_append, hlt, List.length_drop]; simp only [List.length_cons, List.length_nil]; omega
    refine Ev.step (fun _ => shelfmarkref09_put.l0.eq_2 ..) (Ev.congr (fun k => ?_) (Ev.now _))
    rw [if_neg (show ¬ (i : Int) < (l.length : Int) by omega), if_pos (show (l.take i).length < 3518437208883 by omega), Option.bind_some, if_pos (show (0 : Int) ≤ (i : Int) by omega), if_pos (show (i : Int) ≤ (l.length : Int) by omega), Option.bind_some, if_pos q5, Int.toNat_natCast, hdn, List.append_nil]
    rfl
  | m + 1, i, h => by
    have hi : i < l.length := by omega
    have hlt : (l.take i).length = i := by rw [List.length_take]; omega
    have ih := put_l0 l a b g hl m (i + 1) (by omega)
    have e : l.drop i = l[i] :: l.drop (i + 1) := List.drop_eq_getElem_cons hi
    have et : l.take (i + 1) = l.take i ++ [l[i]] := List.take_succ_eq_append_getElem hi
    have hup := up1 (show i < 9223372036854775807 by omega)
    have hg := rd_get l i hi
    by_cases h1 : K l[i] < K (⟨a, b, g⟩ : S37)
    · have h1' : Op.bytesLess l[i].f0.toList a.toList = true := by rw [bl_eq]; exact decide_eq_true h1
      rw [et, List.append_assoc] at ih
      rw [e, putL, if_pos h1]
      refine Ev.step (fun _ => shelfmarkref09_put.l0.eq_2 ..) (Ev.congr (fun k => ?_) ih)
      rw [if_pos (show (i : Int) < (l.length : Int) by omega), if_pos (show (0 : Int) ≤ (i : Int) by omega), hg, if_pos h1', if_pos (show (l.take i).length < 3518437208883 by omega), hup]
    · have h1' : ¬ Op.bytesLess l[i].f0.toList a.toList = true := by rw [bl_eq]; exact fun h5 => h1 (of_decide_eq_true h5)
      rw [e, putL, if_neg h1]
      refine Ev.step (fun _ => shelfmarkref09_put.l0.eq_2 ..) (Ev.congr (fun k => ?_) (Ev.now _))
      rw [if_pos (show (i : Int) < (l.length : Int) by omega), if_pos (show (0 : Int) ≤ (i : Int) by omega), hg, if_neg h1', if_pos (show (l.take i).length < 3518437208883 by omega), Option.bind_some]
      by_cases h2 : K l[i] = K (⟨a, b, g⟩ : S37)
      · have q7 : (l.take i ++ [(⟨a, b, g⟩ : S37)]).length + (l.drop (((i + 1 : Nat) : Int)).toNat).length < 3518437208883 := by rw [List.length_append, hlt, List.length_drop]; simp only [List.length_cons, List.length_nil]; omega
        rw [if_pos h2, if_pos (show l[i].f0.toList = a.toList from h2), hup, if_pos (show (0 : Int) ≤ ((i + 1 : Nat) : Int) by omega), if_pos (show ((i + 1 : Nat) : Int) ≤ (l.length : Int) by omega), Option.bind_some, if_pos q7, Int.toNat_natCast, List.append_assoc]
        rfl
      · have q7 : (l.take i ++ [(⟨a, b, g⟩ : S37)]).length + (l.drop ((i : Int)).toNat).length < 3518437208883 := by rw [List.length_append, hlt, List.length_drop]; simp only [List.length_cons, List.length_nil]; omega
        rw [if_neg h2, if_neg (show ¬ l[i].f0.toList = a.toList from h2), if_pos (show (i : Int) ≤ (l.length : Int) by omega), Option.bind_some, if_pos q7, Int.toNat_natCast, e, List.append_assoc]
        rfl
theorem put_ev (l : List S37) (c : S37) (hl : l.length < 3518437208000) : Ev (fun k => shelfmarkref09_put.f k l c.f0 c.f1 c.f2) (putL l (norm c)) := by
  unfold shelfmarkref09_put.f norm
  by_cases h : c.f2 = true
  · simp only [if_pos h]
    refine Ev.step (fun _ => shelfmarkref09_put.j0.eq_2 ..) ?_
    exact put_l0 l c.f0 ⟨#[]⟩ c.f2 hl l.length 0 (by omega)
  · simp only [if_neg h]
    refine Ev.step (fun _ => shelfmarkref09_put.j0.eq_2 ..) ?_
    exact put_l0 l c.f0 c.f1 c.f2 hl l.length 0 (by omega)
/-- One change after the other. -/
def putsL (out l : List S37) : List S37 := l.foldl (fun o c => putL o (norm c)) out
theorem putAll_len : ∀ (l out : List S37), (putsL out l).length ≤ out.length + l.length
  | [], out => Nat.le_refl _
  | c :: t, out => by
    have := putAll_len t (putL out (norm c))
    have h2 := putL_len (norm c) out
    show (putsL (putL out (norm c)) t).length ≤ _
    rw [List.length_cons]
    omega
theorem make_l0 (l : List S37) (hll : l.length < 9223372036854775807) : ∀ (m i : Nat) (out : List S37), i + m = l.length → out.length + m < 3518437208000 → Ev (fun k => shelfmarkref09_Make.l0 k l out (i : Int)) (putsL out (l.drop i))
  | 0, i, out, h, hl => by
    refine Ev.step (fun _ => shelfmarkref09_Make.l0.eq_2 ..) ?_
    rw [List.drop_eq_nil_of_le (by omega)]
    simp only [if_neg (show ¬ (i : Int) < (l.length : Int) by omega)]
    exact Ev.now _
  | m + 1, i, out, h, hl => by
    have hi : i < l.length := by omega
    refine Ev.step (fun _ => shelfmarkref09_Make.l0.eq_2 ..) ?_
    simp only [if_pos (show (i : Int) < (l.length : Int) by omega), if_pos (show (0 : Int) ≤ (i : Int) by omega), rd_get l i hi]
    refine Ev.bind (put_ev out l[i] (by omega)) ?_
    rw [List.drop_eq_getElem_cons hi, up1 (by omega)]
    exact make_l0 l hll m (i + 1) _ (by omega) (by have := putL_len (norm l[i]) out; omega)
theorem make_ev (l : List S37) (hl : l.length < 3518437208000) : Ev (fun k => shelfmarkref09_Make.f k l) (putsL [] l) := by
  unfold shelfmarkref09_Make.f
  exact make_l0 l (by omega) l.length 0 [] (by omega) (by simpa using hl)
end Go.Proofs.Ytkkfkccfnfjbiaa.Rc
