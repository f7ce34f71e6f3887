/- DERIVED. What is found of a key, what a range has, and what is there: both sides. Conditions: those that each lemma names. -/
import Derived.Test.YtkkfkccfnfjbiaaRe
import Derived.Test.YtkkfkccfnfjbiaaPAllx14
import Derived.Test.YtkkfkccfnfjbiaaPAllx15
import Derived.Test.YtkkfkccfnfjbiaaPAllx15
import Derived.Test.YtkkfkccfnfjbiaaPAllx16
import Derived.Test.YtkkfkccfnfjbiaaPAllx17
import Derived.Test.YtkkfkccfnfjbiaaPAllx18
import Derived.Test.YtkkfkccfnfjbiaaPAllx19
namespace Go.Proofs.Ytkkfkccfnfjbiaa.Rg
open Go.RowKit Go.Proofs.Ytkkfkccfnfjbiaa.PAll Go.Proofs.YtkkfkccfnfjbiaaW.PrintWords Go.Proofs.YtkkfkccfnfjbiaaW.PrintLast Go.Proofs.Ytkkfkccfnfjbiaa.Ht Go.Proofs.Ytkkfkccfnfjbiaa.Ra Go.Proofs.Ytkkfkccfnfjbiaa.Rb Go.Proofs.Ytkkfkccfnfjbiaa.Rc Go.Proofs.Ytkkfkccfnfjbiaa.Rd Go.Proofs.Ytkkfkccfnfjbiaa.Re
set_option linter.unusedSimpArgs false
set_option linter.unusedVariables false
theorem seek_1 (c : S37) (a : ByteArray) : run_seek_1.f c.f0 c.f1 c.f2 a = some (if K c < a.toList then -1 else if a.toList < K c then 1 else 0) := by
  unfold run_seek_1.f
  rw [cmp_str, bl_eq, bl_eq]
  simp only [Option.bind_some, decide_eq_true_eq]
  rfl
/-- Below place i the keys are less than a, from there on they are not. -/
def At (l : List S37) (a : List UInt8) (i : Nat) : Prop := i ≤ l.length ∧ (∀ m (h : m < l.length), m < i → K l[m] < a) ∧ ∀ m (h : m < l.length), i ≤ m → ¬ K l[m] < a
def hit (l : List S37) (a : List UInt8) (i : Nat) : Bool := if h : i < l.length then decide (K l[i] = a) else false
theorem bs_l0 (l : List S37) (hl : l.length < 1000000) (hs : Sorted l) (a : ByteArray) : ∀ (m i j : Nat), j - i ≤ m → i ≤ j → j ≤ l.length → (∀ q (h : q < l.length), q < i → K l[q] < a.toList) → (∀ q (h : q < l.length), j ≤ q → ¬ K l[q] < a.toList) →
    ∃ r, At l a.toList r ∧ Ev (fun k => slices_BinarySearchFunc_api_Change_api_Change_string_at_run_seek_1.l0 k l a (l.length : Int) (i : Int) (j : Int)) ((r : Int), hit l a.toList r)
  | 0, i, j, h, hij, hj, h1, h2 => by
    obtain rfl : i = j := by omega
    refine ⟨i, ⟨hj, h1, h2⟩, Ev.step (fun _ => slices_BinarySearchFunc_api_Change_api_Change_string_at_run_seek_1.l0.eq_2 ..) ?_⟩
    by_cases hi : i < l.length
    · refine Ev.congr (fun k => ?_) (Ev.now _)
      rw [if_neg (by omega), if_pos (by omega), if_pos (by omega), if_pos (by omega), rd_get l i hi]
      show (run_seek_1.f _ _ _ _).bind _ = _
      rw [seek_1, Option.bind_some]
      unfold hit
      rw [dif_pos hi]
      have h3 := h2 i hi (Nat.le_refl _)
      rw [if_neg h3]
      by_cases h4 : a.toList < K l[i]
      · rw [if_pos h4, decide_eq_false (fun e => by rw [e] at h4; exact List.lt_irrefl _ h4)]; rfl
      · rw [if_neg h4, decide_eq_true (List.le_antisymm h4 h3)]; rfl
    · refine Ev.congr (fun k => ?_) (Ev.now _)
      unfold hit
      rw [if_neg (by omega), if_neg (by omega), dif_neg hi]
  | m + 1, i, j, h, hij, hj, h1, h2 => by
    by_cases he : i = j
    · exact bs_l0 l hl hs a 0 i j (by omega) hij hj h1 h2
    · have hm : wrap64 ((IntKind.u64.wrap (wrap64 ((i : Int) + (j : Int)))) / 2) = (((i + j) / 2 : Nat) : Int) := by
        rw [w64 (x := (i : Int) + j) (by omega) (by omega)]
        have : IntKind.u64.wrap ((i : Int) + j) = (i : Int) + j := by
          rw [IntKind.wrap_u64]; omega
        rw [this, w64 (by omega) (by omega)]
        omega
      obtain ⟨q, hq⟩ : ∃ q, (i + j) / 2 = q := ⟨_, rfl⟩
      rw [hq] at hm
      have hql : q < l.length := by omega
      by_cases hk : K l[q] < a.toList
      · obtain ⟨r, hr, ih⟩ := bs_l0 l hl hs a m (q + 1) j (by omega) (by omega) hj (fun p hp hlt => by
          by_cases e : p = q
          · subst e; exact hk
          · exact List.lt_trans (List.pairwise_iff_getElem.1 hs p q hp hql (by omega)) hk) h2
        refine ⟨r, hr, Ev.step (fun _ => slices_BinarySearchFunc_api_Change_api_Change_string_at_run_seek_1.l0.eq_2 ..) (Ev.congr (fun k => ?_) ih)⟩
        rw [hm, if_pos (by omega), if_pos (by omega), if_pos (by omega), rd_get l q hql]
        show (run_seek_1.f _ _ _ _).bind _ = _
        rw [seek_1, Option.bind_some, if_pos hk, if_pos (by decide), up1 (by omega)]
      · obtain ⟨r, hr, ih⟩ := bs_l0 l hl hs a m i q (by omega) (by omega) (by omega) h1 (fun p hp hle => by
          by_cases e : p = q
          · subst e; exact hk
          · exact fun hlt => hk (List.lt_trans (List.pairwise_iff_getElem.1 hs q p hql hp (by omega)) hlt))
        refine ⟨r, hr, Ev.step (fun _ => slices_BinarySearchFunc_api_Change_api_Change_string_at_run_seek_1.l0.eq_2 ..) (Ev.congr (fun k => ?_) ih)⟩
        rw [hm, if_pos (by omega), if_pos (by omega), if_pos (by omega), rd_get l q hql]
        show (run_seek_1.f _ _ _ _).bind _ = _
        rw [seek_1, Option.bind_some, if_neg hk]
        by_cases h4 : a.toList < K l[q]
        · rw [if_pos h4, if_neg (by decide)]
        · rw [if_neg h4, if_neg (by decide)]
theorem seek_ev (l : List S37) (hl : l.length < 1000000) (hs : Sorted l) (a : ByteArray) : ∃ r, At l a.toList r ∧ Ev (fun k => run_seek.f k l a) ((r : Int), hit l a.toList r) := by
  obtain ⟨r, hr, h⟩ := bs_l0 l hl hs a l.length 0 l.length (by omega) (by omega) (Nat.le_refl _) (fun q hq h => by omega) (fun q hq h => by omega)
  refine ⟨r, hr, ?_⟩
  unfold run_seek.f
  exact Ev.bind h (Ev.now _)
def findL (l : List S37) (a : List UInt8) : ByteArray × ByteArray × Bool × Bool := match l.find? (fun c => decide (K c = a)) with
  | some c => (c.f0, c.f1, c.f2, true)
  | none => (⟨#[]⟩, ⟨#[]⟩, false, false)
theorem find_at {l : List S37} (hs : Sorted l) {a : List UInt8} {r : Nat} (hr : At l a r) : findL l a = if h : r < l.length then (if K l[r] = a then ((l[r]).f0, (l[r]).f1, (l[r]).f2, true) else (⟨#[]⟩, ⟨#[]⟩, false, false)) else (⟨#[]⟩, ⟨#[]⟩, false, false) := by
  unfold findL
  by_cases h : r < l.length
  · rw [dif_pos h]
    by_cases hk : K l[r] = a
    · rw [if_pos hk]
      cases hf : l.find? (fun c => decide (K c = a)) with
      | none => exact absurd hk (by have := List.find?_eq_none.1 hf l[r] (List.getElem_mem h); simpa using this)
      | some c =>
        have h1 := List.find?_some hf
        have h2 : K c = a := by simpa using h1
        rw [hs.key (List.mem_of_find?_eq_some hf) (List.getElem_mem h) (h2.trans hk.symm)]
    · rw [if_neg hk]
      have : l.find? (fun c => decide (K c = a)) = none := by
        rw [List.find?_eq_none]
        intro c hc
        obtain ⟨m, hm, rfl⟩ := List.getElem_of_mem hc
        simp only [decide_eq_true_eq]
        intro e
        rcases Nat.lt_trichotomy m r with h1 | h1 | h1
        · have := hr.2.1 m hm h1; rw [e] at this; exact List.lt_irrefl _ this
        · subst h1; exact hk e
        · have h2 := List.pairwise_iff_getElem.1 hs r m h hm h1
          have h2' : K l[r] < K l[m] := h2
          rw [e] at h2'
          exact hr.2.2 r h (Nat.le_refl _) h2'
      rw [this]
  · rw [dif_neg h]
    have : l.find? (fun c => decide (K c = a)) = none := by
      rw [List.find?_eq_none]
      intro c hc
      obtain ⟨m, hm, rfl⟩ := List.getElem_of_mem hc
      simp only [decide_eq_true_eq]
      intro e
      have := hr.2.1 m hm (by omega); rw [e] at this; exact List.lt_irrefl _ this
    rw [this]
theorem Find_ev (l : List S37) (hl : l.length < 1000000) (a : ByteArray) : Ev (fun k => run_Find.f k l a) (if rightB l = true then findL l a.toList else (⟨#[]⟩, ⟨#[]⟩, false, false)) := by
  unfold run_Find.f
  refine Ev.bind (right_ev l (by omega)) ?_
  cases hb : rightB l with
  | false => simp only [Bool.false_eq_true, if_false]; exact Ev.now _
  | true =>
    simp only [if_true]
    have hs := ((right_iff l).1 hb).1
    obtain ⟨r, hr, h⟩ := seek_ev l hl hs a
    refine Ev.bind h ?_
    rw [find_at hs hr]
    unfold hit
    by_cases hlt : r < l.length
    · simp only [dif_pos hlt]
      by_cases hk : K l[r] = a.toList
      · refine Ev.congr (fun k => ?_) (Ev.now _)
        rw [if_pos (decide_eq_true hk), if_pos (by omega), if_pos (by omega), rd_get l r hlt, if_pos hk]
      · refine Ev.congr (fun k => ?_) (Ev.now _)
        rw [if_neg (by simpa using hk), if_neg hk]
    · simp only [dif_neg hlt, Bool.false_eq_true, if_false]
      exact Ev.now _
theorem RFind_l0 (l : List S37) (hl : l.length < 1000000) (hb : rightB l = true) (a : ByteArray) : ∀ (m i : Nat), i + m = l.length → Ev (fun k => shelfmarkref09_Find.l0 k l a (i : Int)) (findL (l.drop i) a.toList)
  | 0, i, h => by
    rw [List.drop_eq_nil_of_le (by omega)]
    refine Ev.step (fun _ => shelfmarkref09_Find.l0.eq_2 ..) (Ev.congr (fun k => if_neg (by omega)) ?_)
    refine Ev.step (fun _ => shelfmarkref09_Find.j1.eq_2 ..) (Ev.congr (fun k => if_neg (by decide)) (Ev.now _))
  | m + 1, i, h => by
    have hi : i < l.length := by omega
    have ih := RFind_l0 l hl hb a m (i + 1) (by omega)
    have e : l.drop i = l[i] :: l.drop (i + 1) := List.drop_eq_getElem_cons hi
    have hr := ref_right_ev l (by omega)
    rw [hb] at hr
    refine Ev.step (fun _ => shelfmarkref09_Find.l0.eq_2 ..) (Ev.congr (fun k => if_pos (by omega)) (Ev.bind hr ?_))
    refine Ev.step (fun _ => shelfmarkref09_Find.j1.eq_2 ..) (Ev.congr (fun k => if_pos rfl) ?_)
    rw [e]
    by_cases hk : K l[i] = a.toList
    · refine Ev.congr (fun k => ?_) (Ev.now _)
      rw [if_pos (by omega), if_pos (by omega), rd_get l i hi, if_pos (show l[i].f0.toList = a.toList from hk)]
      unfold findL
      rw [List.find?_cons_of_pos (by simpa using hk)]
    · have e2 : findL (l[i] :: l.drop (i + 1)) a.toList = findL (l.drop (i + 1)) a.toList := by
        unfold findL
        rw [List.find?_cons_of_neg (by simpa using hk)]
      rw [e2]
      refine Ev.congr (fun k => ?_) ih
      rw [if_pos (by omega), if_pos (by omega), rd_get l i hi, if_neg (show ¬ l[i].f0.toList = a.toList from hk), up1 (by omega)]
theorem RFind_ev (l : List S37) (hl : l.length < 1000000) (a : ByteArray) : Ev (fun k => shelfmarkref09_Find.f k l a) (if rightB l = true then findL l a.toList else (⟨#[]⟩, ⟨#[]⟩, false, false)) := by
  unfold shelfmarkref09_Find.f
  cases hb : rightB l with
  | true => simp only [if_true]; exact RFind_l0 l hl hb a l.length 0 (by omega)
  | false =>
    simp only [Bool.false_eq_true, if_false]
    by_cases h0 : l.length = 0
    · rw [List.eq_nil_of_length_eq_zero h0] at hb; cases hb
    · have hr := ref_right_ev l (by omega)
      rw [hb] at hr
      refine Ev.step (fun _ => shelfmarkref09_Find.l0.eq_2 ..) (Ev.congr (fun k => if_pos (by omega)) (Ev.bind hr ?_))
      exact Ev.step (fun _ => shelfmarkref09_Find.j1.eq_2 ..) (Ev.congr (fun k => if_neg (by decide)) (Ev.now _))
/-- Does the range have it? -/
def inB (lo hi : List UInt8) (c : S37) : Bool := !decide (K c < lo) && (decide (hi = []) || decide (K c < hi))
theorem clone_ev (l : List S37) (hl : l.length < 1000000) : slices_Clone_api_Change_api_Change.f l = some l := by
  unfold slices_Clone_api_Change_api_Change.f
  rw [Option.bind_some, if_pos (show ([] : List S37).length + l.length < 3518437208883 by rw [List.length_nil]; omega)]
  rfl
theorem slice_at {l : List S37} {lo hi : List UInt8} {i j : Nat} (h1 : At l lo i) (h2 : if hi = [] then j = l.length else At l hi j) : l.filter (inB lo hi) = (l.take (max i j)).drop i := by
  have hj : j ≤ l.length := by
    by_cases e : hi = []
    · rw [if_pos e] at h2; omega
    · rw [if_neg e] at h2; exact h2.1
  have hsplit : l = l.take i ++ ((l.take (max i j)).drop i ++ l.drop (max i j)) := by
    rw [← List.append_assoc]
    have : l.take i ++ (l.take (max i j)).drop i = l.take (max i j) := by
      conv => rhs; rw [← List.take_append_drop i (l.take (max i j)), List.take_take, Nat.min_eq_left (by omega)]
    rw [this, List.take_append_drop]
  have f1 : (l.take i).filter (inB lo hi) = [] := by
    rw [List.filter_eq_nil_iff]
    intro c hc
    obtain ⟨m, hm, rfl⟩ := List.getElem_of_mem hc
    rw [List.length_take] at hm
    rw [List.getElem_take]
    have := h1.2.1 m (by omega) (by omega)
    unfold inB
    rw [decide_eq_true this]; simp
  have f2 : ((l.take (max i j)).drop i).filter (inB lo hi) = (l.take (max i j)).drop i := by
    rw [List.filter_eq_self]
    intro c hc
    obtain ⟨m, hm, rfl⟩ := List.getElem_of_mem hc
    rw [List.length_drop, List.length_take] at hm
    rw [List.getElem_drop, List.getElem_take]
    have := h1.2.2 (i + m) (by omega) (by omega)
    unfold inB
    rw [decide_eq_false this]
    by_cases e : hi = []
    · rw [decide_eq_true e]; rfl
    · rw [if_neg e] at h2
      rw [decide_eq_true (h2.2.1 (i + m) (by omega) (by omega))]; simp
  have f3 : (l.drop (max i j)).filter (inB lo hi) = [] := by
    rw [List.filter_eq_nil_iff]
    intro c hc
    obtain ⟨m, hm, rfl⟩ := List.getElem_of_mem hc
    rw [List.length_drop] at hm
    rw [List.getElem_drop]
    unfold inB
    by_cases e : hi = []
    · rw [if_pos e] at h2; omega
    · rw [if_neg e] at h2
      rw [decide_eq_false e, decide_eq_false (h2.2.2 (max i j + m) (by omega) (by omega))]; simp
  conv => lhs; rw [hsplit, List.filter_append, List.filter_append, f1, f2, f3]
  simp
theorem Slice_ev (l : List S37) (hl : l.length < 1000000) (lo hi : ByteArray) : Ev (fun k => run_Slice.f k l lo hi) (if rightB l = true then l.filter (inB lo.toList hi.toList) else []) := by
  unfold run_Slice.f
  refine Ev.bind (right_ev l (by omega)) ?_
  cases hb : rightB l with
  | false => simp only [Bool.false_eq_true, if_false]; exact Ev.now _
  | true =>
    simp only [if_true]
    have hs := ((right_iff l).1 hb).1
    obtain ⟨i, hi1, h1⟩ := seek_ev l hl hs lo
    refine Ev.bind h1 ?_
    have hil := hi1.1
    by_cases e : hi.toList = []
    · have hmx : mx (i : Int) (l.length : Int) = (l.length : Int) := by unfold mx; omega
      rw [slice_at (j := l.length) hi1 (by rw [if_pos e])]
      refine Ev.congr (fun k => ?_) (Ev.now _)
      rw [if_pos e, hmx, if_pos (by omega), if_pos (by omega), if_pos (by omega), Int.toNat_natCast, Int.toNat_natCast, clone_ev _ (by rw [List.length_drop, List.length_take]; omega), Option.bind_some, Nat.max_eq_right (by omega)]
    · obtain ⟨j, hj1, h2⟩ := seek_ev l hl hs hi
      have hjl := hj1.1
      have hmx : mx (i : Int) (j : Int) = ((max i j : Nat) : Int) := by unfold mx; omega
      rw [slice_at (j := j) hi1 (by rw [if_neg e]; exact hj1)]
      refine Ev.congr (fun k => if_neg e) (Ev.bind h2 (Ev.congr (fun k => ?_) (Ev.now _)))
      rw [hmx, if_pos (by omega), if_pos (by omega), if_pos (by omega), Int.toNat_natCast, Int.toNat_natCast, clone_ev _ (by rw [List.length_drop, List.length_take]; omega), Option.bind_some]
theorem RSlice_l0 (l : List S37) (hl : l.length < 1000000) (hb : rightB l = true) (lo hi : ByteArray) : ∀ (m i : Nat) (out : List S37), i + m = l.length → out.length ≤ i → Ev (fun k => shelfmarkref09_Slice.l0 k l out (i : Int) lo hi) (out ++ (l.drop i).filter (inB lo.toList hi.toList))
  | 0, i, out, h, ho => by
    rw [List.drop_eq_nil_of_le (by omega)]
    refine Ev.step (fun _ => shelfmarkref09_Slice.l0.eq_2 ..) (Ev.congr (fun k => if_neg (by omega)) ?_)
    refine Ev.step (fun _ => shelfmarkref09_Slice.j1.eq_2 ..) (Ev.congr (fun k => if_neg (by decide)) ?_)
    rw [List.filter_nil, List.append_nil]
    exact Ev.now _
  | m + 1, i, out, h, ho => by
    have hi' : i < l.length := by omega
    have e : l.drop i = l[i] :: l.drop (i + 1) := List.drop_eq_getElem_cons hi'
    have hr := ref_right_ev l (by omega)
    rw [hb] at hr
    refine Ev.step (fun _ => shelfmarkref09_Slice.l0.eq_2 ..) (Ev.congr (fun k => if_pos (by omega)) (Ev.bind hr ?_))
    refine Ev.step (fun _ => shelfmarkref09_Slice.j1.eq_2 ..) (Ev.congr (fun k => if_pos rfl) ?_)
    rw [e]
    have ihs := RSlice_l0 l hl hb lo hi m (i + 1) out (by omega) (by omega)
    have ihk := RSlice_l0 l hl hb lo hi m (i + 1) (out ++ [l[i]]) (by omega) (by simp; omega)
    rw [List.append_assoc] at ihk
    by_cases h1 : K l[i] < lo.toList
    · rw [List.filter_cons_of_neg (by unfold inB; rw [decide_eq_true h1]; simp)]
      refine Ev.congr (fun k => ?_) ihs
      rw [if_pos (by omega), if_pos (by omega), rd_get l i hi', if_pos (show Op.bytesLess l[i].f0.toList lo.toList = true by rw [bl_eq]; exact decide_eq_true h1), up1 (by omega)]
    · have h1' : ¬ Op.bytesLess l[i].f0.toList lo.toList = true := by rw [bl_eq]; exact fun h5 => h1 (of_decide_eq_true h5)
      by_cases h2 : hi.toList = []
      · rw [List.filter_cons_of_pos (by unfold inB; rw [decide_eq_false h1, decide_eq_true h2]; rfl)]
        refine Ev.congr (fun k => ?_) ihk
        rw [if_pos (by omega), if_pos (by omega), rd_get l i hi', if_neg h1', if_pos h2, if_pos (show out.length < 3518437208883 by omega), up1 (by omega)]
      · by_cases h3 : K l[i] < hi.toList
        · rw [List.filter_cons_of_pos (by unfold inB; rw [decide_eq_false h1, decide_eq_true h3]; simp)]
          refine Ev.congr (fun k => ?_) ihk
          rw [if_pos (by omega), if_pos (by omega), rd_get l i hi', if_neg h1', if_neg h2, if_pos (show Op.bytesLess l[i].f0.toList hi.toList = true by rw [bl_eq]; exact decide_eq_true h3), if_pos (show out.length < 3518437208883 by omega), up1 (by omega)]
        · rw [List.filter_cons_of_neg (by unfold inB; rw [decide_eq_false h2, decide_eq_false h3]; simp)]
          refine Ev.congr (fun k => ?_) ihs
          rw [if_pos (by omega), if_pos (by omega), rd_get l i hi', if_neg h1', if_neg h2, if_neg (show ¬ Op.bytesLess l[i].f0.toList hi.toList = true by rw [bl_eq]; exact fun h5 => h3 (of_decide_eq_true h5)), up1 (by omega)]
theorem RSlice_ev (l : List S37) (hl : l.length < 1000000) (lo hi : ByteArray) : Ev (fun k => shelfmarkref09_Slice.f k l lo hi) (if rightB l = true then l.filter (inB lo.toList hi.toList) else []) := by
  unfold shelfmarkref09_Slice.f
  cases hb : rightB l with
  | true => simp only [if_true]; exact RSlice_l0 l hl hb lo hi l.length 0 [] (by omega) (by simp)
  | false =>
    simp only [Bool.false_eq_true, if_false]
    by_cases h0 : l.length = 0
    · rw [List.eq_nil_of_length_eq_zero h0] at hb; cases hb
    · have hr := ref_right_ev l (by omega)
      rw [hb] at hr
      refine Ev.step (fun _ => shelfmarkref09_Slice.l0.eq_2 ..) (Ev.congr (fun k => if_pos (by omega)) (Ev.bind hr ?_))
      exact Ev.step (fun _ => shelfmarkref09_Slice.j1.eq_2 ..) (Ev.congr (fun k => if_neg (by decide)) (Ev.now _))
def liveL (l : List S37) : List S64 := (l.filter (fun c => !c.f2)).map (fun c => ⟨c.f0, c.f1⟩)
theorem Live_l0 (l : List S37) (hl : l.length < 1000000) : ∀ (m i : Nat) (out : List S64), i + m = l.length → out.length ≤ i → Ev (fun k => run_Live.l0 k out l (l.length : Int) (i : Int)) (out ++ liveL (l.drop i))
  | 0, i, out, h, ho => by
    rw [List.drop_eq_nil_of_le (by omega)]
    refine Ev.step (fun _ => run_Live.l0.eq_2 ..) (Ev.congr (fun k => if_neg (by omega)) ?_)
    rw [show liveL [] = [] from rfl, List.append_nil]
    exact Ev.now _
  | m + 1, i, out, h, ho => by
    have hi' : i < l.length := by omega
    have e : l.drop i = l[i] :: l.drop (i + 1) := List.drop_eq_getElem_cons hi'
    refine Ev.step (fun _ => run_Live.l0.eq_2 ..) ?_
    rw [e]
    by_cases h1 : l[i].f2 = true
    · have e2 : liveL (l[i] :: l.drop (i + 1)) = liveL (l.drop (i + 1)) := by unfold liveL; rw [List.filter_cons_of_neg (by rw [h1]; simp)]
      rw [e2]
      refine Ev.congr (fun k => ?_) (Live_l0 l hl m (i + 1) out (by omega) (by omega))
      rw [if_pos (by omega), if_pos (by omega), if_pos (by omega), rd_get l i hi', if_pos h1, up1 (by omega)]
    · have e2 : liveL (l[i] :: l.drop (i + 1)) = ⟨l[i].f0, l[i].f1⟩ :: liveL (l.drop (i + 1)) := by unfold liveL; rw [List.filter_cons_of_pos (by simpa using h1)]; rfl
      rw [e2]
      have ih := Live_l0 l hl m (i + 1) (out ++ [⟨l[i].f0, l[i].f1⟩]) (by omega) (by simp; omega)
      rw [List.append_assoc] at ih
      refine Ev.congr (fun k => ?_) ih
      rw [if_pos (by omega), if_pos (by omega), if_pos (by omega), rd_get l i hi', if_neg h1, if_pos (show out.length < 4398046511104 by omega), up1 (by omega)]
theorem Live_ev (l : List S37) (hl : l.length < 1000000) : Ev (fun k => run_Live.f k l) (if rightB l = true then liveL l else []) := by
  unfold run_Live.f
  refine Ev.bind (right_ev l (by omega)) ?_
  cases rightB l with
  | false => simp only [Bool.false_eq_true, if_false]; exact Ev.now _
  | true => simp only [if_true]; exact Live_l0 l hl l.length 0 [] (by omega) (by simp)
theorem RLive_l0 (l : List S37) (hl : l.length < 1000000) (hb : rightB l = true) : ∀ (m i : Nat) (out : List S64), i + m = l.length → out.length ≤ i → Ev (fun k => shelfmarkref09_Live.l0 k l out (i : Int)) (out ++ liveL (l.drop i))
  | 0, i, out, h, ho => by
    rw [List.drop_eq_nil_of_le (by omega)]
    refine Ev.step (fun _ => shelfmarkref09_Live.l0.eq_2 ..) (Ev.congr (fun k => if_neg (by omega)) ?_)
    refine Ev.step (fun _ => shelfmarkref09_Live.j1.eq_2 ..) (Ev.congr (fun k => if_neg (by decide)) ?_)
    rw [show liveL [] = [] from rfl, List.append_nil]
    exact Ev.now _
  | m + 1, i, out, h, ho => by
    have hi' : i < l.length := by omega
    have e : l.drop i = l[i] :: l.drop (i + 1) := List.drop_eq_getElem_cons hi'
    have hr := ref_right_ev l (by omega)
    rw [hb] at hr
    refine Ev.step (fun _ => shelfmarkref09_Live.l0.eq_2 ..) (Ev.congr (fun k => if_pos (by omega)) (Ev.bind hr ?_))
    refine Ev.step (fun _ => shelfmarkref09_Live.j1.eq_2 ..) (Ev.congr (fun k => if_pos rfl) ?_)
    rw [e]
    by_cases h1 : l[i].f2 = true
    · have e2 : liveL (l[i] :: l.drop (i + 1)) = liveL (l.drop (i + 1)) := by unfold liveL; rw [List.filter_cons_of_neg (by rw [h1]; simp)]
      rw [e2]
      refine Ev.congr (fun k => ?_) (RLive_l0 l hl hb m (i + 1) out (by omega) (by omega))
      rw [if_pos (by omega), if_pos (by omega), rd_get l i hi', if_pos h1, up1 (by omega)]
    · have e2 : liveL (l[i] :: l.drop (i + 1)) = ⟨l[i].f0, l[i].f1⟩ :: liveL (l.drop (i + 1)) := by unfold liveL; rw [List.filter_cons_of_pos (by simpa using h1)]; rfl
      rw [e2]
      have ih := RLive_l0 l hl hb m (i + 1) (out ++ [⟨l[i].f0, l[i].f1⟩]) (by omega) (by simp; omega)
      rw [List.append_assoc] at ih
      refine Ev.congr (fun k => ?_) ih
      rw [if_pos (by omega), if_pos (by omega), rd_get l i hi', if_neg h1, if_pos (show out.length < 4398046511104 by omega), up1 (by omega)]
theorem RLive_ev (l : List S37) (hl : l.length < 1000000) : Ev (fun k => shelfmarkref09_Live.f k l) (if rightB l = true then liveL l else []) := by
  unfold shelfmarkref09_Live.f
  cases hb : rightB l with
  | true => simp only [if_true]; exact RLive_l0 l hl hb l.length 0 [] (by omega) (by simp)
  | false =>
    simp only [Bool.false_eq_true, if_false]
    by_cases h0 : l.length = 0
    · rw [List.eq_nil_of_length_eq_zero h0] at hb; cases hb
    · have hr := ref_right_ev l (by omega)
      rw [hb] at hr
      refine Ev.step (fun _ => shelfmarkref09_Live.l0.eq_2 ..) (Ev.congr (fun k => if_pos (by omega)) (Ev.bind hr ?_))
      exact Ev.step (fun _ => shelfmarkref09_Live.j1.eq_2 ..) (Ev.congr (fun k => if_neg (by decide)) (Ev.now _))
theorem pairs_l0 (l : List S64) (hl : l.length < 9223372036854775807) : ∀ (m i : Nat), i + m = l.length → Ev (fun k => shelfmarkref09_SamePairs.l0 k l l (i : Int)) true
  | 0, i, h => by
    refine Ev.step (fun _ => shelfmarkref09_SamePairs.l0.eq_2 ..) (Ev.congr (fun k => ?_) (Ev.now _))
    rw [if_neg (by omega)]
  | m + 1, i, h => by
    refine Ev.step (fun _ => shelfmarkref09_SamePairs.l0.eq_2 ..) (Ev.congr (fun k => ?_) (pairs_l0 l hl m (i + 1) (by omega)))
    rw [if_pos (by omega), if_pos (by omega), if_pos (by omega), if_neg (by simp), up1 (by omega)]
theorem pairs_ev (l : List S64) (hl : l.length < 9223372036854775807) : Ev (fun k => shelfmarkref09_SamePairs.f k l l) true := by
  unfold shelfmarkref09_SamePairs.f
  simp only [if_true]
  exact pairs_l0 l hl l.length 0 (by omega)
end Go.Proofs.Ytkkfkccfnfjbiaa.Rg
