/- DERIVED. What Cut and Vals come to, from some number of rounds on. Conditions: those that each lemma names. -/
import Derived.Test.YtdaidcfpikeooaaDoorPAllx5
import Derived.Test.YtdaidcfpikeooaaDoorTr
namespace Go.Proofs.YtdaidcfpikeooaaDoor.Tu
open Go.RowKit Go.Proofs.YtdaidcfpikeooaaDoor.PAll Go.Proofs.YtdaidcfpikeooaaDoorW.PrintWords Go.Proofs.YtdaidcfpikeooaaDoorW.PrintLast Go.Proofs.YtdaidcfpikeooaaDoor.Hl Go.Proofs.YtdaidcfpikeooaaDoor.Tl Go.Proofs.YtdaidcfpikeooaaDoor.Tb Go.Proofs.YtdaidcfpikeooaaDoor.Tk Go.Proofs.YtdaidcfpikeooaaDoor.Tr
set_option linter.unusedSimpArgs false
set_option linter.unusedVariables false
/-- What is read of the value that a text begins with. -/
def oneR (s : ByteArray) : Int × Int × ByteArray × Int × Int := (oneS s s.data.toList).getD (0, 0, ByteArray.empty, 0, 3)
/-- Does a text begin with no value? -/
def stops (s : ByteArray) : Bool := match s.data.toList with
  | [] => true
  | c :: _ => c == 0
def cutF : Nat → ByteArray → List S37 → List S37 × ByteArray × Int
  | 0, s, l => if stops s = true then (l, s, 0) else ([], ⟨#[]⟩, 4)
  | m + 1, s, l => if stops s = true then (l, s, 0) else if (oneR s).2.2.2.2 = 0 then cutF m (s.extract (oneR s).2.2.2.1.toNat s.size) (l ++ [⟨(oneR s).1, (oneR s).2.1, (oneR s).2.2.1⟩]) else ([], ⟨#[]⟩, (oneR s).2.2.2.2)
theorem cut_l0 : ∀ (m : Nat) (s : ByteArray) (l : List S37), l.length + m = 4 → s.size ≤ 140737488351232 → Ev (fun k => tuple_Cut.l0 k s l) (cutF m s l) := by
  have halt : ∀ (s : ByteArray) (l : List S37), Ev (fun k => tuple_Cut.j1 k s l false) (l, s, 0) := by
    intro s l
    refine Ev.step (fun _ => tuple_Cut.j1.eq_2 ..) ?_
    simp only [Bool.false_eq_true, if_false]
    exact Ev.now _
  have enter : ∀ (s : ByteArray) (l : List S37) (r : List S37 × ByteArray × Int), (stops s = true → r = (l, s, 0)) → (stops s = false → Ev (fun k => tuple_Cut.j1 k s l true) r) → Ev (fun k => tuple_Cut.l0 k s l) r := by
    intro s l r h1 h2
    refine Ev.step (fun _ => tuple_Cut.l0.eq_2 ..) ?_
    by_cases h : s.toList = ([] : List UInt8)
    · simp only [if_pos h]
      rw [h1 (by unfold stops; rw [← Lib.toList_data, h])]
      exact halt s l
    · simp only [if_neg h]
      have hp : 0 < s.size := by
        rcases Nat.eq_zero_or_pos s.size with h0 | h0
        · exact absurd (by rw [Lib.toList_data]; exact List.eq_nil_of_length_eq_zero (by rw [data_length]; exact h0)) h
        · exact h0
      simp only [if_pos (show (0 : Int) < (s.size : Int) by omega)]
      obtain ⟨d1, d2⟩ := bt_drop s 0 hp
      rw [List.drop_zero] at d1
      rw [show bt s 0 = ((s[0]'hp).toNat : Int) from d2]
      by_cases hz : s[0] = 0
      · have e : (((s[0]'hp).toNat : Int) != 0) = false := by rw [hz]; rfl
        simp only [e]
        rw [h1 (by unfold stops; rw [d1]; simp [hz])]
        exact halt s l
      · have e : (((s[0]'hp).toNat : Int) != 0) = true := by
          rw [bne_iff_ne]; intro e; apply hz; exact UInt8.toNat_inj.1 (by show _ = 0; omega)
        simp only [e]
        exact h2 (by unfold stops; rw [d1]; simpa using hz)
  intro m
  induction m with
  | zero =>
    intro s l hl hs
    refine enter s l _ (fun h => by unfold cutF; rw [if_pos h]) (fun h => ?_)
    refine Ev.step (fun _ => tuple_Cut.j1.eq_2 ..) ?_
    unfold cutF
    simp only [h, Bool.false_eq_true, if_false, if_true, if_pos (show (l.length : Int) = 4 by omega)]
    exact Ev.now _
  | succ m ih =>
    intro s l hl hs
    refine enter s l _ (fun h => by unfold cutF; rw [if_pos h]) (fun h => ?_)
    refine Ev.step (fun _ => tuple_Cut.j1.eq_2 ..) ?_
    have hne : ∃ c t, s.data.toList = c :: t := by
      cases hd : s.data.toList with
      | nil => unfold stops at h; rw [hd] at h; cases h
      | cons c t => exact ⟨c, t, rfl⟩
    obtain ⟨c, t, hd⟩ := hne
    have ho : tuple_one.f s = some (oneR s) := by
      unfold tuple_one.f oneR
      rw [if_pos hs, hd, oneS]
      rfl
    unfold cutF
    simp only [h, Bool.false_eq_true, if_false, if_true, if_neg (show ¬ (l.length : Int) = 4 by omega), ho, Option.bind_some]
    by_cases he : (oneR s).2.2.2.2 = 0
    · have hg : oneS s s.data.toList = some ((oneR s).1, (oneR s).2.1, (oneR s).2.2.1, (oneR s).2.2.2.1, 0) := by
        rw [← he]
        unfold oneR
        rw [hd, oneS]
        rfl
      obtain ⟨_, hn, R, hR⟩ := one_got s _ _ _ _ hg
      have hlen : (oneR s).2.2.2.1 ≤ (s.size : Int) := by
        rw [hn, ← data_length s, hR, List.length_append]; omega
      simp only [if_pos he, if_pos (show l.length < 4398046511104 by omega), if_pos (show (0 : Int) ≤ (oneR s).2.2.2.1 by rw [hn]; omega), if_pos hlen]
      exact ih _ _ (by rw [List.length_append]; simp; omega) (by rw [ByteArray.size_extract]; omega)
    · simp only [if_neg he]
      exact Ev.now _
theorem cut_ev (s : ByteArray) (hs : s.size ≤ 140737488351232) : Ev (fun k => tuple_Cut.f k s) (cutF 4 s []) := by
  unfold tuple_Cut.f
  exact cut_l0 4 s [] rfl hs
/-- What Vals answers. -/
def valsR (s : ByteArray) : List S37 × Int := if (cutF 4 s []).2.2 = 0 then (if (cutF 4 s []).2.1.toList = ([] : List UInt8) then ((cutF 4 s []).1, 0) else ([], 3)) else ([], (cutF 4 s []).2.2)
theorem vals_ev (s : ByteArray) (hs : s.size ≤ 140737488351232) : Ev (fun k => tuple_Vals.f k s) (valsR s) := by
  unfold tuple_Vals.f valsR
  refine Ev.bind (cut_ev s hs) ?_
  by_cases h : (cutF 4 s []).2.2 = 0
  · simp only [if_pos h]
    refine Ev.step (fun _ => tuple_Vals.j0.eq_2 ..) ?_
    by_cases h2 : (cutF 4 s []).2.1.toList = ([] : List UInt8)
    · simp only [h2, bne_self_eq_false, Bool.false_eq_true, if_false, if_true, if_pos h]
      exact Ev.now _
    · have h3 : ((cutF 4 s []).2.1.toList != ([] : List UInt8)) = true := by simpa using h2
      simp only [h3, if_true, if_neg h2]
      exact Ev.now _
  · simp only [if_neg h]
    refine Ev.step (fun _ => tuple_Vals.j0.eq_2 ..) ?_
    simp only [Bool.false_eq_true, if_false, if_neg h]
    exact Ev.now _
def rowB (a : List S37) : List UInt8 := a.flatMap formB
theorem formB_head (v : S37) : ∃ c t, formB v = c :: t ∧ c ≠ 0 := by
  unfold formB
  split
  · exact ⟨_, _, rfl, by decide⟩
  · split
    · exact ⟨_, _, rfl, by decide⟩
    · exact ⟨_, _, rfl, by decide⟩
/-- What was put is read as it was. -/
theorem cut_put (R : List UInt8) (hR : R = [] ∨ ∃ X, R = 0 :: X) : ∀ (w : List S37) (m : Nat) (s : ByteArray) (l : List S37), w.length ≤ m → w.all good = true → (∀ v ∈ w, -9223372036854775808 ≤ v.f1 ∧ v.f1 < 9223372036854775808) → s.data.toList = rowB w ++ R → cutF m s l = (l ++ w, ⟨R.toArray⟩, 0)
  | [], m, s, l, hm, hg, hw, hs => by
    have hs' : s.data.toList = R := by simpa [rowB] using hs
    have e : s = ⟨R.toArray⟩ := by rw [← hs']
    have hst : stops s = true := by
      unfold stops
      rw [hs']
      rcases hR with rfl | ⟨X, rfl⟩
      · rfl
      · rfl
    cases m with
    | zero => unfold cutF; rw [if_pos hst, List.append_nil, ← e]
    | succ m => unfold cutF; rw [if_pos hst, List.append_nil, ← e]
  | v :: w, m, s, l, hm, hg, hw, hs => by
    cases m with
    | zero => simp at hm
    | succ m =>
      rw [List.all_cons, Bool.and_eq_true] at hg
      obtain ⟨w0, w1⟩ := hw v (by simp)
      have hs1 : s.data.toList = formB v ++ (rowB w ++ R) := by rw [hs]; simp [rowB]
      obtain ⟨c, t, hc, hc0⟩ := formB_head v
      have hst : ¬ stops s = true := by
        unfold stops
        rw [hs1, hc]
        simpa using hc0
      have ho := one_put v hg.1 w0 w1 s _ hs1
      have hr : oneR s = (v.f0, v.f1, v.f2, ((formB v).length : Int), 0) := by unfold oneR; rw [ho]; rfl
      unfold cutF
      rw [if_neg hst, hr, if_pos rfl]
      have hx : (s.extract (formB v).length s.size).data.toList = rowB w ++ R := by
        have h1 : (s.extract (formB v).length s.size).data.toList = s.data.toList.drop (formB v).length := Lib.extract_to_end s _
        rw [h1, hs1, List.drop_left]
      have := cut_put R hR w m (s.extract (formB v).length s.size) (l ++ [v]) (by simpa using hm) hg.2 (fun u hu => hw u (by simp [hu])) hx
      rw [Int.toNat_natCast, this, List.append_assoc]
      rfl
theorem key_bytes (a : List S37) : (strOfNums (keyL a)).data.toList = rowB a := by
  have h : keyL a = ints (rowB a) := by
    unfold keyL rowB ints
    rw [List.map_flatMap]
    congr 1
    funext v
    exact (ints_formB v).symm
  rw [h]
  show ((ints (rowB a)).map fun n => UInt8.ofNat n.toNat).toArray.toList = _
  rw [List.toList_toArray]
  exact toB_ints _
end Go.Proofs.YtdaidcfpikeooaaDoor.Tu
