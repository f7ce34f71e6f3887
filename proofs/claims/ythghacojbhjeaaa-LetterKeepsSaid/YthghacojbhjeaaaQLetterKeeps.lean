/- DERIVED. What the printed functions come to, as far as this law asks it. Conditions: those that each lemma names. -/
import Derived.RowKit
import Derived.Laws.BytesArg
import Derived.Laws.Strings
import Derived.OpenShut
import Derived.Test.YthghacojbhjeaaaLp
import Derived.Test.YthghacojbhjeaaaPKpx6
import Derived.Test.YthghacojbhjeaaaPKpx7
import Derived.Test.YthghacojbhjeaaaPKpx8
import Derived.Test.YthghacojbhjeaaaPKpx11
import Derived.Test.YthghacojbhjeaaaPKpx15
namespace Go.Proofs.Ythghacojbhjeaaa.Pk
open Go.RowKit

/-- Every number of the list is a byte. -/
def Bytes (l : List Int) : Prop := ∀ x ∈ l, 0 ≤ x ∧ x < 256

theorem Bytes.nil : Bytes [] := fun _ h => by cases h
theorem Bytes.cons {c : Int} {l : List Int} (h0 : 0 ≤ c) (h1 : c < 256) (h : Bytes l) : Bytes (c :: l) := by
  intro x hx
  rcases List.mem_cons.1 hx with rfl | hx
  · exact ⟨h0, h1⟩
  · exact h x hx
theorem Bytes.drop {l : List Int} (h : Bytes l) (i : Nat) : Bytes (l.drop i) := fun x hx => h x (List.mem_of_mem_drop hx)
/-! ### The form of a number -/


/-! ### The form of a text, and of a list of texts -/

/-! ### Forms that are cut off -/

end Go.Proofs.Ythghacojbhjeaaa.Pk
namespace Go.Proofs.Ythghacojbhjeaaa.PKpEv
open Go.RowKit Go.Proofs.Ythghacojbhjeaaa.PKp Go.Proofs.YthghacojbhjeaaaW.PrintWords Go.Proofs.YthghacojbhjeaaaW.PrintLast Go.Proofs.YthghacojbhjeaaaW.PrintMore Go.Proofs.Ythghacojbhjeaaa.Pk
set_option linter.unusedVariables false
set_option linter.unusedSimpArgs false

theorem w64 {x : Int} (h0 : -9223372036854775808 ≤ x) (h1 : x < 9223372036854775808) : wrap64 x = x := by unfold wrap64; omega

theorem rd_drop {b : List Int} {c : Int} {r : List Int} {i : Nat} (h : b.drop i = c :: r) : rd b (i : Int) = c ∧ i < b.length ∧ b.drop (i + 1) = r := by
  have hi : i < b.length := by
    rcases Nat.lt_or_ge i b.length with h1 | h1
    · exact h1
    · rw [List.drop_eq_nil_of_le h1] at h; cases h
  rw [List.drop_eq_getElem_cons hi] at h
  injection h with h1 h2
  refine ⟨?_, hi, h2⟩
  unfold rd
  simp [List.getD, hi, h1]

theorem strOfNums_bytesOf (s : ByteArray) : strOfNums (bytesOf s) = s := by
  cases s with
  | mk d =>
    unfold strOfNums bytesOf
    congr 1
    rw [List.map_map]
    have : ((fun n : Int => UInt8.ofNat n.toNat) ∘ fun b : UInt8 => (b.toNat : Int)) = id := by
      funext b
      simp
    rw [this, List.map_id]

theorem rdOf_drop {α : Type} {d : α} {b : List α} {c : α} {r : List α} {i : Nat} (h : b.drop i = c :: r) : rdOf d b (i : Int) = c ∧ i < b.length ∧ b.drop (i + 1) = r := by
  have hi : i < b.length := by
    rcases Nat.lt_or_ge i b.length with h1 | h1
    · exact h1
    · rw [List.drop_eq_nil_of_le h1] at h; cases h
  rw [List.drop_eq_getElem_cons hi] at h
  injection h with h1 h2
  refine ⟨?_, hi, h2⟩
  unfold rdOf
  simp [List.getD, hi, h1]

theorem dropd_nil {α : Type} {b : List α} {i : Nat} (h : b.drop i = []) : b.length ≤ i := by simpa using h

end Go.Proofs.Ythghacojbhjeaaa.PKpEv
namespace Go.Proofs.Ythghacojbhjeaaa.Pi0
open Go Go.RowKit Go.Proofs.Ythghacojbhjeaaa.PKp Go.Proofs.YthghacojbhjeaaaW.PrintWords Go.Proofs.YthghacojbhjeaaaW.PrintLast Go.Proofs.YthghacojbhjeaaaW.PrintMore Go.Proofs.Ythghacojbhjeaaa.Pk Go.Proofs.Ythghacojbhjeaaa.PKpEv
set_option linter.unusedSimpArgs false
set_option linter.unusedVariables false
def szP (ps : List S39) : Nat := (ps.map fun p => p.f0.size + p.f1.size).sum
def szI (is_ : List S41) : Nat := (is_.map fun p => p.f0.size).sum
theorem mn_small {a : Nat} : mn (a : Int) 100001 = ((min a 100001 : Nat) : Int) := by unfold mn; split <;> omega
theorem mn_small0 {a : Nat} : mn (a : Int) 100000 = ((min a 100000 : Nat) : Int) := by unfold mn; split <;> omega
theorem light1 (kd n1 n2 n3 n4 n5 n6 : Int) (s t : ByteArray) (ps : List S39) (is_ : List S41) (co : Int) (y : Bool) (b : ByteArray) (hI : is_.length ≤ 300) (r : List S41) : ∀ (i n : Nat), is_.drop i = r → i ≤ is_.length → n ≤ 1000000 →
    ∃ v, Ev (fun k => shelfmarkref13_Light.l1 k (n : Int) (i : Int) kd n1 n2 n3 n4 n5 n6 s t ps is_ co y b) v ∧ (v = true → n + szI r ≤ 100000) := by
  induction r with
  | nil =>
    intro i n hd hi hn
    have hi2 := dropd_nil hd
    refine ⟨decide ((n : Int) ≤ 100000), Ev.step (fun _ => shelfmarkref13_Light.l1.eq_2 ..) ?_, fun h => ?_⟩
    · simp only [if_neg (show ¬ (i : Int) < (is_.length : Int) by omega)]
      exact Ev.now _
    · have := of_decide_eq_true h
      simp only [szI, List.map_nil, List.sum_nil]
      omega
  | cons c r ih =>
    intro i n hd hi hn
    obtain ⟨hc0, hlt, hd'⟩ := rdOf_drop (d := z41) hd
    have hc : rd_T41 is_ (i : Int) = c := hc0
    by_cases hb : (n : Int) ≤ 100000
    · obtain ⟨v, hv, hb2⟩ := ih (i + 1) (n + min c.f0.size 100001) hd' (by omega) (by omega)
      refine ⟨v, Ev.step (fun _ => shelfmarkref13_Light.l1.eq_2 ..) ?_, fun h => ?_⟩
      · simp only [if_pos (show (i : Int) < (is_.length : Int) by omega), if_pos (show (0 : Int) ≤ (i : Int) by omega), hc, if_pos hb, mn_small]
        rw [w64 (x := (i : Int) + 1) (by omega) (by omega), show ((i : Int) + 1) = ((i + 1 : Nat) : Int) by omega, w64 (x := (n : Int) + _) (by omega) (by omega), ← Int.natCast_add]
        exact hv
      · have := hb2 h
        simp only [szI, List.map_cons, List.sum_cons] at this ⊢
        omega
    · refine ⟨false, Ev.step (fun _ => shelfmarkref13_Light.l1.eq_2 ..) ?_, fun h => by cases h⟩
      simp only [if_pos (show (i : Int) < (is_.length : Int) by omega), if_neg hb, decide_eq_false hb]
      exact Ev.now _
theorem light0 (kd n1 n2 n3 n4 n5 n6 : Int) (s t : ByteArray) (ps : List S39) (is_ : List S41) (co : Int) (y : Bool) (b : ByteArray) (hP : ps.length ≤ 300) (hI : is_.length ≤ 300) (r : List S39) : ∀ (i n : Nat), ps.drop i = r → i ≤ ps.length → n ≤ 300002 →
    ∃ v, Ev (fun k => shelfmarkref13_Light.l0 k (n : Int) (i : Int) kd n1 n2 n3 n4 n5 n6 s t ps is_ co y b) v ∧ (v = true → n + szP r + szI is_ ≤ 100000) := by
  have hj : ∀ n : Nat, n ≤ 300002 → ∃ v, Ev (fun k => shelfmarkref13_Light.j2 k (n : Int) kd n1 n2 n3 n4 n5 n6 s t ps is_ co y b) v ∧ (v = true → n + szI is_ ≤ 100000) := by
    intro n hn
    obtain ⟨v, hv, h⟩ := light1 kd n1 n2 n3 n4 n5 n6 s t ps is_ co y b hI is_ 0 n (by simp) (by omega) (by omega)
    exact ⟨v, Ev.step (fun _ => shelfmarkref13_Light.j2.eq_2 ..) hv, h⟩
  induction r with
  | nil =>
    intro i n hd hi hn
    have hi2 := dropd_nil hd
    obtain ⟨v, hv, h⟩ := hj n hn
    refine ⟨v, Ev.step (fun _ => shelfmarkref13_Light.l0.eq_2 ..) ?_, fun h2 => ?_⟩
    · simp only [if_neg (show ¬ (i : Int) < (ps.length : Int) by omega)]
      exact hv
    · have := h h2
      simp only [szP, List.map_nil, List.sum_nil]
      omega
  | cons c r ih =>
    intro i n hd hi hn
    obtain ⟨hc0, hlt, hd'⟩ := rdOf_drop (d := z39) hd
    have hc : rd_T39 ps (i : Int) = c := hc0
    by_cases hb : (n : Int) ≤ 100000
    · obtain ⟨v, hv, hb2⟩ := ih (i + 1) (n + min c.f0.size 100001 + min c.f1.size 100001) hd' (by omega) (by omega)
      refine ⟨v, Ev.step (fun _ => shelfmarkref13_Light.l0.eq_2 ..) ?_, fun h => ?_⟩
      · simp only [if_pos (show (i : Int) < (ps.length : Int) by omega), if_pos (show (0 : Int) ≤ (i : Int) by omega), hc, if_pos hb, mn_small]
        rw [w64 (x := (i : Int) + 1) (by omega) (by omega), show ((i : Int) + 1) = ((i + 1 : Nat) : Int) by omega, w64 (x := (n : Int) + _) (by omega) (by omega), ← Int.natCast_add, w64 (x := ((n + min c.f0.size 100001 : Nat) : Int) + _) (by omega) (by omega), ← Int.natCast_add]
        exact hv
      · have := hb2 h
        simp only [szP, List.map_cons, List.sum_cons] at this ⊢
        omega
    · obtain ⟨v, hv, h⟩ := hj n hn
      refine ⟨v, Ev.step (fun _ => shelfmarkref13_Light.l0.eq_2 ..) ?_, fun h2 => ?_⟩
      · simp only [if_pos (show (i : Int) < (ps.length : Int) by omega), if_neg hb]
        exact hv
      · have := h h2
        omega
/-- What Light lets in. -/
structure LightP (ps : List S39) (is_ : List S41) : Prop where
  hp : ps.length ≤ 300
  hi : is_.length ≤ 300
  sz : szP ps + szI is_ ≤ 100000
theorem Light_ev (kd n1 n2 n3 n4 n5 n6 : Int) (s t : ByteArray) (ps : List S39) (is_ : List S41) (co : Int) (y : Bool) (b : ByteArray) :
    ∃ v, Ev (fun k => shelfmarkref13_Light.f k kd n1 n2 n3 n4 n5 n6 s t ps is_ co y b) v ∧ (v = true → LightP ps is_) := by
  have hj : ∃ v, Ev (fun k => shelfmarkref13_Light.j0 k (decide ((ps.length : Int) > 300 ∨ (is_.length : Int) > 300)) kd n1 n2 n3 n4 n5 n6 s t ps is_ co y b) v ∧ (v = true → LightP ps is_) := by
    by_cases h : (ps.length : Int) > 300 ∨ (is_.length : Int) > 300
    · refine ⟨false, Ev.step (fun _ => shelfmarkref13_Light.j0.eq_2 ..) ?_, fun h => by cases h⟩
      simp only [decide_eq_true h, if_true]
      exact Ev.now _
    · have hP : ps.length ≤ 300 := by have := fun x => h (.inl x); omega
      have hI : is_.length ≤ 300 := by have := fun x => h (.inr x); omega
      obtain ⟨v, hv, h2⟩ := light0 kd n1 n2 n3 n4 n5 n6 s t ps is_ co y b hP hI ps 0 (min s.size 100000 + min t.size 100000 + min b.size 100000) (by simp) (by omega) (by omega)
      refine ⟨v, Ev.step (fun _ => shelfmarkref13_Light.j0.eq_2 ..) ?_, fun h3 => ⟨hP, hI, by have := h2 h3; omega⟩⟩
      simp only [decide_eq_false h, Bool.false_eq_true, if_false, mn_small0]
      rw [← Int.natCast_add, ← Int.natCast_add]
      exact hv
  unfold shelfmarkref13_Light.f
  by_cases hp : (ps.length : Int) > 300
  · simp only [if_pos hp]
    rwa [decide_eq_true (.inl hp)] at hj
  · simp only [if_neg hp]
    have e : decide ((ps.length : Int) > 300 ∨ (is_.length : Int) > 300) = decide ((is_.length : Int) > 300) := by simp [hp]
    rwa [e] at hj
theorem szP_mem {p : S39} : ∀ {ps : List S39}, p ∈ ps → p.f0.size + p.f1.size ≤ szP ps
  | c :: l, h => by
    simp only [szP, List.map_cons, List.sum_cons]
    rcases List.mem_cons.1 h with rfl | h
    · omega
    · have := szP_mem h
      simp only [szP] at this
      omega
end Go.Proofs.Ythghacojbhjeaaa.Pi0
namespace Go.Proofs.Ythghacojbhjeaaa.Pj
open Go Go.RowKit Go.Proofs.Ythghacojbhjeaaa.PKp Go.Proofs.YthghacojbhjeaaaW.PrintWords Go.Proofs.YthghacojbhjeaaaW.PrintLast Go.Proofs.YthghacojbhjeaaaW.PrintMore Go.Proofs.Ythghacojbhjeaaa.Pk Go.Proofs.Ythghacojbhjeaaa.PKpEv
set_option linter.unusedSimpArgs false
set_option linter.unusedVariables false
theorem toList_eq {a b : ByteArray} : a.toList = b.toList ↔ a = b := by
  constructor
  · intro h
    rw [ByteArray.toList_eq, ByteArray.toList_eq] at h
    have h2 : bytesOf a = bytesOf b := by unfold bytesOf; rw [h]
    rw [← strOfNums_bytesOf a, h2, strOfNums_bytesOf]
  · intro h
    rw [h]
theorem beq_str (a b : ByteArray) : ((a.toList == b.toList) = true) ↔ a = b := by
  rw [beq_iff_eq, toList_eq]
theorem s41_eq {a b : S41} : (!((a.f0.toList) == (b.f0.toList)) || (!((a.f1) == (b.f1)) || (!((a.f2) == (b.f2))))) = true ↔ ¬ a = b := by
  cases a with
  | mk a0 a1 a2 =>
    cases b with
    | mk b0 b1 b2 =>
      simp only [S41.mk.injEq, Bool.or_eq_true, Bool.not_eq_true', ← Bool.not_eq_true, beq_iff_eq, toList_eq]
      constructor
      · rintro (h | h | h) ⟨e1, e2, e3⟩
        · exact h e1
        · exact h e2
        · exact h e3
      · intro h
        by_cases h0 : a0 = b0
        · by_cases h1 : a1 = b1
          · exact .inr (.inr fun h2 => h ⟨h0, h1, h2⟩)
          · exact .inr (.inl h1)
        · exact .inl h0
theorem s39_eq {a b : S39} : (!((a.f0.toList) == (b.f0.toList)) || (!((a.f1.toList) == (b.f1.toList)))) = true ↔ ¬ a = b := by
  cases a with
  | mk a0 a1 =>
    cases b with
    | mk b0 b1 =>
      simp only [S39.mk.injEq, Bool.or_eq_true, Bool.not_eq_true', ← Bool.not_eq_true, beq_iff_eq, toList_eq]
      constructor
      · rintro (h | h) ⟨e1, e2⟩
        · exact h e1
        · exact h e2
      · intro h
        by_cases h0 : a0 = b0
        · exact .inr fun h1 => h ⟨h0, h1⟩
        · exact .inl h0
theorem cut_cons {α : Type} {a : List α} {i : Nat} (h : i < a.length) : ∃ c r, a.drop i = c :: r := ⟨_, _, List.drop_eq_getElem_cons h⟩
theorem same41 (xs ys : List S41) (hl : xs.length = ys.length) (hb : xs.length < 9223372036854775807) (r : List S41) : ∀ i : Nat, xs.drop i = r → i ≤ xs.length → ∃ v, Ev (fun k => shelfmarkref13_SameIntents.l0 k xs ys (i : Int)) v ∧ (v = true ↔ xs.drop i = ys.drop i) := by
  induction r with
  | nil =>
    intro i hd hi
    have hi2 := dropd_nil hd
    refine ⟨true, Ev.step (fun _ => shelfmarkref13_SameIntents.l0.eq_2 ..) ?_, ?_⟩
    · simp only [if_neg (show ¬ (i : Int) < (xs.length : Int) by omega)]
      exact Ev.now _
    · rw [hd, List.drop_eq_nil_of_le (show ys.length ≤ i by omega)]
      simp
  | cons c r ih =>
    intro i hd hi
    obtain ⟨hc0, hlt, hd'⟩ := rdOf_drop (d := z41) hd
    have hc : rd_T41 xs (i : Int) = c := hc0
    obtain ⟨d, r2, hy⟩ := cut_cons (a := ys) (i := i) (by omega)
    obtain ⟨hy0, hlt2, hy'⟩ := rdOf_drop (d := z41) hy
    have hyc : rd_T41 ys (i : Int) = d := hy0
    by_cases he : c = d
    · obtain ⟨v, hv, h⟩ := ih (i + 1) hd' (by omega)
      refine ⟨v, Ev.step (fun _ => shelfmarkref13_SameIntents.l0.eq_2 ..) ?_, ?_⟩
      · simp only [if_pos (show (i : Int) < (xs.length : Int) by omega), if_pos (show (0 : Int) ≤ (i : Int) by omega), if_pos (show (i : Int) < (ys.length : Int) by omega), hc, hyc]
        refine Ev.congr (fun k => by rw [if_neg (fun x => s41_eq.1 x he), w64 (x := (i : Int) + 1) (by omega) (by omega), show ((i : Int) + 1) = ((i + 1 : Nat) : Int) by omega]) hv
      · rw [h, hd', hy', hd, hy, he]
        simp
    · refine ⟨false, Ev.step (fun _ => shelfmarkref13_SameIntents.l0.eq_2 ..) ?_, ?_⟩
      · simp only [if_pos (show (i : Int) < (xs.length : Int) by omega), if_pos (show (0 : Int) ≤ (i : Int) by omega), if_pos (show (i : Int) < (ys.length : Int) by omega), hc, hyc]
        refine Ev.congr (fun k => by rw [if_pos (s41_eq.2 he)]) (Ev.now _)
      · rw [hd, hy]
        simp [he]
theorem intents_ev (xs ys : List S41) (hb : xs.length < 9223372036854775807) : ∃ v, Ev (fun k => shelfmarkref13_SameIntents.f k xs ys) v ∧ (v = true ↔ xs = ys) := by
  unfold shelfmarkref13_SameIntents.f
  by_cases hl : (xs.length : Int) = (ys.length : Int)
  · obtain ⟨v, hv, h⟩ := same41 xs ys (by omega) hb xs 0 (by simp) (by omega)
    refine ⟨v, ?_, by simpa using h⟩
    simp only [if_pos hl]
    exact hv
  · refine ⟨false, ?_, ?_⟩
    · simp only [if_neg hl]
      exact Ev.now _
    · simp only [Bool.false_eq_true, false_iff]
      rintro rfl
      exact hl rfl
theorem same1 (a b : S27) (xs ys : List Int) (hl : xs.length = ys.length) (hb : xs.length < 9223372036854775807) (r : List Int) : ∀ i : Nat, xs.drop i = r → i ≤ xs.length → ∃ v, Ev (fun k => shelfmarkref13_Same.l1 k xs ys (i : Int) a.f0 a.f1 a.f2 a.f3 a.f4 a.f5 a.f6 a.f7 a.f8 a.f9 a.f10 a.f11 a.f12 a.f13 b.f0 b.f1 b.f2 b.f3 b.f4 b.f5 b.f6 b.f7 b.f8 b.f9 b.f10 b.f11 b.f12 b.f13) v ∧ (v = true ↔ xs.drop i = ys.drop i ∧ a.f0 = b.f0 ∧ a.f12 = b.f12 ∧ a.f7 = b.f7 ∧ a.f8 = b.f8 ∧ a.f13 = b.f13) := by
  induction r with
  | nil =>
    intro i hd hi
    have hi2 := dropd_nil hd
    by_cases hall : a.f0 = b.f0 ∧ a.f12 = b.f12 ∧ a.f7 = b.f7 ∧ a.f8 = b.f8
    · obtain ⟨h0, h12, h7, h8⟩ := hall
      refine ⟨a.f13.toList == b.f13.toList, Ev.step (fun _ => shelfmarkref13_Same.l1.eq_2 ..) ?_, ?_⟩
      · simp only [if_neg (show ¬ (i : Int) < (xs.length : Int) by omega), if_pos h0, h12, beq_self_eq_true, if_true, h7, h8]
        exact Ev.now _
      · rw [hd, List.drop_eq_nil_of_le (show ys.length ≤ i by omega), beq_str]
        simp [h0, h12, h7, h8]
    · refine ⟨false, Ev.step (fun _ => shelfmarkref13_Same.l1.eq_2 ..) ?_, ?_⟩
      · simp only [if_neg (show ¬ (i : Int) < (xs.length : Int) by omega), toList_eq, beq_iff_eq]
        refine Ev.congr (f := fun _ => some false) (fun k => ?_) (Ev.now _)
        split
        · split
          · split
            · split
              · exact absurd ⟨by assumption, by assumption, by assumption, by assumption⟩ hall
              · rfl
            · rfl
          · rfl
        · rfl
      · simp only [Bool.false_eq_true, false_iff]
        rintro ⟨_, h0, h12, h7, h8, _⟩
        exact hall ⟨h0, h12, h7, h8⟩
  | cons c r ih =>
    intro i hd hi
    obtain ⟨hc, hlt, hd'⟩ := rd_drop hd
    obtain ⟨d, r2, hy⟩ := cut_cons (a := ys) (i := i) (by omega)
    obtain ⟨hyc, hlt2, hy'⟩ := rd_drop hy
    by_cases he : c = d
    · obtain ⟨v, hv, h⟩ := ih (i + 1) hd' (by omega)
      refine ⟨v, Ev.step (fun _ => shelfmarkref13_Same.l1.eq_2 ..) ?_, ?_⟩
      · simp only [if_pos (show (i : Int) < (xs.length : Int) by omega), if_pos (show (0 : Int) ≤ (i : Int) by omega), if_pos (show (i : Int) < (ys.length : Int) by omega), hc, hyc, if_pos he]
        refine Ev.congr (fun k => by rw [w64 (x := (i : Int) + 1) (by omega) (by omega), show ((i : Int) + 1) = ((i + 1 : Nat) : Int) by omega]) hv
      · rw [h, hd', hy', hd, hy, he]
        simp
    · refine ⟨false, Ev.step (fun _ => shelfmarkref13_Same.l1.eq_2 ..) ?_, ?_⟩
      · simp only [if_pos (show (i : Int) < (xs.length : Int) by omega), if_pos (show (0 : Int) ≤ (i : Int) by omega), if_pos (show (i : Int) < (ys.length : Int) by omega), hc, hyc, if_neg he]
        exact Ev.now _
      · rw [hd, hy]
        simp [he]
def Rest (a b : S27) : Prop := (a.f1 = b.f1 ∧ a.f2 = b.f2 ∧ a.f3 = b.f3 ∧ a.f4 = b.f4 ∧ a.f5 = b.f5 ∧ a.f6 = b.f6 ∧ a.f11 = b.f11) ∧ a.f0 = b.f0 ∧ a.f12 = b.f12 ∧ a.f7 = b.f7 ∧ a.f8 = b.f8 ∧ a.f13 = b.f13
theorem same0 (a b : S27) (hl : a.f9.length = b.f9.length) (hb : a.f9.length < 9223372036854775807) (r : List S39) : ∀ i : Nat, a.f9.drop i = r → i ≤ a.f9.length → ∃ v, Ev (fun k => shelfmarkref13_Same.l0 k (i : Int) a.f0 a.f1 a.f2 a.f3 a.f4 a.f5 a.f6 a.f7 a.f8 a.f9 a.f10 a.f11 a.f12 a.f13 b.f0 b.f1 b.f2 b.f3 b.f4 b.f5 b.f6 b.f7 b.f8 b.f9 b.f10 b.f11 b.f12 b.f13) v ∧ (v = true ↔ a.f9.drop i = b.f9.drop i ∧ Rest a b) := by
  induction r with
  | nil =>
    intro i hd hi
    have hi2 := dropd_nil hd
    obtain ⟨v, hv, h⟩ := same1 a b [a.f1, a.f2, a.f3, a.f4, a.f5, a.f6, a.f11] [b.f1, b.f2, b.f3, b.f4, b.f5, b.f6, b.f11] rfl (by simp) _ 0 rfl (by omega)
    refine ⟨v, Ev.step (fun _ => shelfmarkref13_Same.l0.eq_2 ..) ?_, ?_⟩
    · simp only [if_neg (show ¬ (i : Int) < (a.f9.length : Int) by omega)]
      refine Ev.congr (f := fun k => shelfmarkref13_Same.l1 k [a.f1, a.f2, a.f3, a.f4, a.f5, a.f6, a.f11] [b.f1, b.f2, b.f3, b.f4, b.f5, b.f6, b.f11] ((0 : Nat) : Int) a.f0 a.f1 a.f2 a.f3 a.f4 a.f5 a.f6 a.f7 a.f8 a.f9 a.f10 a.f11 a.f12 a.f13 b.f0 b.f1 b.f2 b.f3 b.f4 b.f5 b.f6 b.f7 b.f8 b.f9 b.f10 b.f11 b.f12 b.f13) (fun k => rfl) hv
    · rw [h, hd, List.drop_eq_nil_of_le (show b.f9.length ≤ i by omega)]
      unfold Rest
      simp
  | cons c r ih =>
    intro i hd hi
    obtain ⟨hc0, hlt, hd'⟩ := rdOf_drop (d := z39) hd
    have hc : rd_T39 a.f9 (i : Int) = c := hc0
    obtain ⟨d, r2, hy⟩ := cut_cons (a := b.f9) (i := i) (by omega)
    obtain ⟨hy0, hlt2, hy'⟩ := rdOf_drop (d := z39) hy
    have hyc : rd_T39 b.f9 (i : Int) = d := hy0
    by_cases he : c = d
    · obtain ⟨v, hv, h⟩ := ih (i + 1) hd' (by omega)
      refine ⟨v, Ev.step (fun _ => shelfmarkref13_Same.l0.eq_2 ..) ?_, ?_⟩
      · simp only [if_pos (show (i : Int) < (a.f9.length : Int) by omega), if_pos (show (0 : Int) ≤ (i : Int) by omega), if_pos (show (i : Int) < (b.f9.length : Int) by omega), hc, hyc]
        refine Ev.congr (fun k => by rw [if_neg (fun x => s39_eq.1 x he), w64 (x := (i : Int) + 1) (by omega) (by omega), show ((i : Int) + 1) = ((i + 1 : Nat) : Int) by omega]) hv
      · rw [h, hd', hy', hd, hy, he]
        simp
    · refine ⟨false, Ev.step (fun _ => shelfmarkref13_Same.l0.eq_2 ..) ?_, ?_⟩
      · simp only [if_pos (show (i : Int) < (a.f9.length : Int) by omega), if_pos (show (0 : Int) ≤ (i : Int) by omega), if_pos (show (i : Int) < (b.f9.length : Int) by omega), hc, hyc]
        refine Ev.congr (fun k => by rw [if_pos (s39_eq.2 he)]) (Ev.now _)
      · rw [hd, hy]
        simp [he]
/-- Same says whether two letters are one. -/
theorem Same_ev (a b : S27) (h9 : a.f9.length < 9223372036854775807) (h10 : a.f10.length < 9223372036854775807) : ∃ v, Ev (fun k => shelfmarkref13_Same.f k a.f0 a.f1 a.f2 a.f3 a.f4 a.f5 a.f6 a.f7 a.f8 a.f9 a.f10 a.f11 a.f12 a.f13 b.f0 b.f1 b.f2 b.f3 b.f4 b.f5 b.f6 b.f7 b.f8 b.f9 b.f10 b.f11 b.f12 b.f13) v ∧ (v = true ↔ a = b) := by
  unfold shelfmarkref13_Same.f
  by_cases hl : (a.f9.length : Int) = (b.f9.length : Int)
  · obtain ⟨u, hu, h⟩ := intents_ev a.f10 b.f10 h10
    cases u with
    | false =>
      refine ⟨false, ?_, ?_⟩
      · simp only [if_pos hl]
        refine Ev.bind hu (Ev.step (fun _ => shelfmarkref13_Same.j0.eq_2 ..) ?_)
        exact Ev.now _
      · simp only [Bool.false_eq_true, false_iff] at h ⊢
        rintro rfl
        exact h rfl
    | true =>
      obtain ⟨v, hv, hr⟩ := same0 a b (by omega) h9 a.f9 0 (by simp) (by omega)
      refine ⟨v, ?_, ?_⟩
      · simp only [if_pos hl]
        refine Ev.bind hu (Ev.step (fun _ => shelfmarkref13_Same.j0.eq_2 ..) ?_)
        exact hv
      · have e10 := h.1 rfl
        rw [hr]
        constructor
        · rintro ⟨e9, ⟨e1, e2, e3, e4, e5, e6, e11⟩, e0, e12, e7, e8, e13⟩
          cases a
          cases b
          simp only [List.drop_zero] at e9
          simp only at *
          subst e0 e1 e2 e3 e4 e5 e6 e7 e8 e9 e10 e11 e12 e13
          rfl
        · rintro rfl
          exact ⟨rfl, ⟨rfl, rfl, rfl, rfl, rfl, rfl, rfl⟩, rfl, rfl, rfl, rfl, rfl⟩
  · refine ⟨false, ?_, ?_⟩
    · simp only [if_neg hl]
      refine Ev.step (fun _ => shelfmarkref13_Same.j0.eq_2 ..) ?_
      exact Ev.now _
    · simp only [Bool.false_eq_true, false_iff]
      rintro rfl
      exact hl rfl
end Go.Proofs.Ythghacojbhjeaaa.Pj
namespace Go.Proofs.Ythghacojbhjeaaa.Pm
open Go Go.RowKit Go.Proofs.Ythghacojbhjeaaa.PKp Go.Proofs.YthghacojbhjeaaaW.PrintWords Go.Proofs.YthghacojbhjeaaaW.PrintLast Go.Proofs.YthghacojbhjeaaaW.PrintMore Go.Proofs.Ythghacojbhjeaaa.Pk Go.Proofs.Ythghacojbhjeaaa.PKpEv Go.Proofs.Ythghacojbhjeaaa.Lm Go.Proofs.Ythghacojbhjeaaa.Pi0 Go.Proofs.Ythghacojbhjeaaa.Pj
set_option linter.unusedSimpArgs false
set_option linter.unusedVariables false
theorem loop39 (xs ys : List S39) (hl : xs.length = ys.length) (hb : xs.length < 9223372036854775807) (r : List S39) : ∀ i : Nat, xs.drop i = r → i ≤ xs.length → ∃ v, Ev (fun k => slices_Equal_api_Pair_api_Pair.l0 k xs ys (xs.length : Int) (i : Int)) v ∧ (v = true ↔ xs.drop i = ys.drop i) := by
  induction r with
  | nil =>
    intro i hd hi
    have hi2 := dropd_nil hd
    refine ⟨true, Ev.step (fun _ => slices_Equal_api_Pair_api_Pair.l0.eq_2 ..) ?_, ?_⟩
    · simp only [if_neg (show ¬ (i : Int) < (xs.length : Int) by omega)]
      exact Ev.now _
    · rw [hd, List.drop_eq_nil_of_le (show ys.length ≤ i by omega)]
      simp
  | cons c r ih =>
    intro i hd hi
    obtain ⟨hc0, hlt, hd'⟩ := rdOf_drop (d := z39) hd
    have hc : rd_T39 xs (i : Int) = c := hc0
    obtain ⟨d, r2, hy⟩ := cut_cons (a := ys) (i := i) (by omega)
    obtain ⟨hy0, hlt2, hy'⟩ := rdOf_drop (d := z39) hy
    have hyc : rd_T39 ys (i : Int) = d := hy0
    by_cases he : c = d
    · obtain ⟨v, hv, h⟩ := ih (i + 1) hd' (by omega)
      refine ⟨v, Ev.step (fun _ => slices_Equal_api_Pair_api_Pair.l0.eq_2 ..) ?_, ?_⟩
      · simp only [if_pos (show (i : Int) < (xs.length : Int) by omega), if_pos (show (0 : Int) ≤ (i : Int) by omega), if_pos (show (i : Int) < (ys.length : Int) by omega), hc, hyc]
        refine Ev.congr (fun k => by rw [if_neg (fun x => s39_eq.1 x he), w64 (x := (i : Int) + 1) (by omega) (by omega), show ((i : Int) + 1) = ((i + 1 : Nat) : Int) by omega]) hv
      · rw [h, hd', hy', hd, hy, he]
        simp
    · refine ⟨false, Ev.step (fun _ => slices_Equal_api_Pair_api_Pair.l0.eq_2 ..) ?_, ?_⟩
      · simp only [if_pos (show (i : Int) < (xs.length : Int) by omega), if_pos (show (0 : Int) ≤ (i : Int) by omega), if_pos (show (i : Int) < (ys.length : Int) by omega), hc, hyc]
        refine Ev.congr (fun k => by rw [if_pos (s39_eq.2 he)]) (Ev.now _)
      · rw [hd, hy]
        simp [he]
theorem Eq39_ev (xs ys : List S39) (hb : xs.length < 9223372036854775807) : ∃ v, Ev (fun k => slices_Equal_api_Pair_api_Pair.f k xs ys) v ∧ (v = true ↔ xs = ys) := by
  unfold slices_Equal_api_Pair_api_Pair.f
  by_cases hl : (xs.length : Int) = (ys.length : Int)
  · obtain ⟨v, hv, h⟩ := loop39 xs ys (by omega) hb xs 0 (by simp) (by omega)
    refine ⟨v, ?_, by simpa using h⟩
    simp only [if_pos hl]
    exact hv
  · refine ⟨false, ?_, ?_⟩
    · simp only [if_neg hl]
      exact Ev.now _
    · simp only [Bool.false_eq_true, false_iff]
      rintro rfl
      exact hl rfl
theorem loop41 (xs ys : List S41) (hl : xs.length = ys.length) (hb : xs.length < 9223372036854775807) (r : List S41) : ∀ i : Nat, xs.drop i = r → i ≤ xs.length → ∃ v, Ev (fun k => slices_Equal_api_Intent_api_Intent.l0 k xs ys (xs.length : Int) (i : Int)) v ∧ (v = true ↔ xs.drop i = ys.drop i) := by
  induction r with
  | nil =>
    intro i hd hi
    have hi2 := dropd_nil hd
    refine ⟨true, Ev.step (fun _ => slices_Equal_api_Intent_api_Intent.l0.eq_2 ..) ?_, ?_⟩
    · simp only [if_neg (show ¬ (i : Int) < (xs.length : Int) by omega)]
      exact Ev.now _
    · rw [hd, List.drop_eq_nil_of_le (show ys.length ≤ i by omega)]
      simp
  | cons c r ih =>
    intro i hd hi
    obtain ⟨hc0, hlt, hd'⟩ := rdOf_drop (d := z41) hd
    have hc : rd_T41 xs (i : Int) = c := hc0
    obtain ⟨d, r2, hy⟩ := cut_cons (a := ys) (i := i) (by omega)
    obtain ⟨hy0, hlt2, hy'⟩ := rdOf_drop (d := z41) hy
    have hyc : rd_T41 ys (i : Int) = d := hy0
    by_cases he : c = d
    · obtain ⟨v, hv, h⟩ := ih (i + 1) hd' (by omega)
      refine ⟨v, Ev.step (fun _ => slices_Equal_api_Intent_api_Intent.l0.eq_2 ..) ?_, ?_⟩
      · simp only [if_pos (show (i : Int) < (xs.length : Int) by omega), if_pos (show (0 : Int) ≤ (i : Int) by omega), if_pos (show (i : Int) < (ys.length : Int) by omega), hc, hyc]
        refine Ev.congr (fun k => by rw [if_neg (fun x => s41_eq.1 x he), w64 (x := (i : Int) + 1) (by omega) (by omega), show ((i : Int) + 1) = ((i + 1 : Nat) : Int) by omega]) hv
      · rw [h, hd', hy', hd, hy, he]
        simp
    · refine ⟨false, Ev.step (fun _ => slices_Equal_api_Intent_api_Intent.l0.eq_2 ..) ?_, ?_⟩
      · simp only [if_pos (show (i : Int) < (xs.length : Int) by omega), if_pos (show (0 : Int) ≤ (i : Int) by omega), if_pos (show (i : Int) < (ys.length : Int) by omega), hc, hyc]
        refine Ev.congr (fun k => by rw [if_pos (s41_eq.2 he)]) (Ev.now _)
      · rw [hd, hy]
        simp [he]
theorem Eq41_ev (xs ys : List S41) (hb : xs.length < 9223372036854775807) : ∃ v, Ev (fun k => slices_Equal_api_Intent_api_Intent.f k xs ys) v ∧ (v = true ↔ xs = ys) := by
  unfold slices_Equal_api_Intent_api_Intent.f
  by_cases hl : (xs.length : Int) = (ys.length : Int)
  · obtain ⟨v, hv, h⟩ := loop41 xs ys (by omega) hb xs 0 (by simp) (by omega)
    refine ⟨v, ?_, by simpa using h⟩
    simp only [if_pos hl]
    exact hv
  · refine ⟨false, ?_, ?_⟩
    · simp only [if_neg hl]
      exact Ev.now _
    · simp only [Bool.false_eq_true, false_iff]
      rintro rfl
      exact hl rfl
theorem sameF_iff {a b : S27} {ep ei : Bool} (hp : ep = true ↔ a.f9 = b.f9) (hi : ei = true ↔ a.f10 = b.f10) : sameF a b ep ei = true ↔ a = b := by
  cases a
  cases b
  simp only at hp hi
  simp only [sameF, g0F, allEq, nsS, tsS, eqN, eqT, List.zip_cons_cons, List.zip_nil_right, List.take_succ_cons, List.take_zero, List.take_nil, List.all_cons, List.all_nil, Bool.and_eq_true, Bool.and_true, beq_iff_eq, toList_eq, hp, hi, S27.mk.injEq]
  constructor
  · rintro ⟨⟨⟨⟨⟨h0, h11⟩, h12⟩, h1, h2, h3, h4, h5, h6⟩, h7, h8, h13⟩, h9, h10⟩
    exact ⟨h0, h1, h2, h3, h4, h5, h6, h7, h8, h9, h10, h11, h12, h13⟩
  · rintro ⟨h0, h1, h2, h3, h4, h5, h6, h7, h8, h9, h10, h11, h12, h13⟩
    exact ⟨⟨⟨⟨⟨h0, h11⟩, h12⟩, h1, h2, h3, h4, h5, h6⟩, h7, h8, h13⟩, h9, h10⟩
theorem awake_ev : Ev (fun k => shelfmarklaw13_awake.f k) true := Ev.of shelfmarklaw13_awake.mono (k := 40) (by decide +kernel)
theorem light_ev (x : S27) : ∃ v, Ev (fun k => shelfmarkref13_Light.f k x.f0 x.f1 x.f2 x.f3 x.f4 x.f5 x.f6 x.f7 x.f8 x.f9 x.f10 x.f11 x.f12 x.f13) v ∧ (v = true → LightP x.f9 x.f10) := Light_ev ..
end Go.Proofs.Ythghacojbhjeaaa.Pm
