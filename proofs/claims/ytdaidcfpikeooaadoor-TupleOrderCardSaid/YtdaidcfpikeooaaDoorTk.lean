/- DERIVED. The bytes of a value and the key of a row, as the layer and as its reference make them. Conditions: those that each lemma names. -/
import Derived.Test.YtdaidcfpikeooaaDoorPAllx12
import Derived.Test.YtdaidcfpikeooaaDoorPAllx3
import Derived.Test.YtdaidcfpikeooaaDoorTl
import Derived.Test.YtdaidcfpikeooaaDoorTb
namespace Go.Proofs.YtdaidcfpikeooaaDoor.Tk
open Go.RowKit Go.Proofs.YtdaidcfpikeooaaDoor.PAll Go.Proofs.YtdaidcfpikeooaaDoorW.PrintWords Go.Proofs.YtdaidcfpikeooaaDoorW.PrintLast Go.Proofs.YtdaidcfpikeooaaDoor.Hl Go.Proofs.YtdaidcfpikeooaaDoor.Tl Go.Proofs.YtdaidcfpikeooaaDoor.Tb
set_option linter.unusedSimpArgs false
set_option linter.unusedVariables false
def ints (l : List UInt8) : List Int := l.map fun b => (b.toNat : Int)
/-- A text's bytes in a key. -/
def esc (s : ByteArray) : List Int := ints (bytesTurn 0 [0, 255] s.data.toList)
/-- A number of 64 bits, the sign turned. -/
def topN (n : Int) : Int := (n % 18446744073709551616 + 9223372036854775808) % 18446744073709551616
/-- A value's bytes. -/
def form (v : S37) : List Int := if v.f0 = 1 then 2 :: beFrom (topN v.f1) 8 else if v.f0 = 2 then 3 :: (esc v.f2 ++ [0, 0]) else [1]
theorem esc_count (l : List UInt8) : (bytesTurn 0 [0, 255] l).length ≤ 2 * l.length := by
  induction l with
  | nil => simp [bytesTurn]
  | cons b l ih =>
    unfold bytesTurn at *
    rw [List.flatMap_cons, List.length_append, List.length_cons]
    by_cases h : b = 0
    · rw [if_pos h]; simp only [List.length_cons, List.length_nil]; omega
    · rw [if_neg h]; simp only [List.length_cons, List.length_nil]; omega
theorem esc_len (s : ByteArray) : (esc s).length ≤ 2 * s.size := by
  unfold esc ints
  rw [List.length_map, ← data_length]
  exact esc_count _
theorem form_l0 (X : Int) : ∀ (m : Nat) (acc : List Int), m ≤ 8 → acc.length + m < 1000 → Ev (fun k => tuple_form.l0 k acc X (((8 * m : Nat) : Int) - 8)) (acc ++ beFrom X m)
  | 0, acc, h, hl => by
    refine Ev.step (fun _ => tuple_form.l0.eq_2 ..) ?_
    simp only [if_neg (show ¬ (((8 * 0 : Nat) : Int) - 8 ≥ 0) by omega), beFrom, List.append_nil]
    exact Ev.now _
  | m + 1, acc, h, hl => by
    refine Ev.step (fun _ => tuple_form.l0.eq_2 ..) ?_
    have e : (((8 * (m + 1) : Nat) : Int) - 8) = ((8 * m : Nat) : Int) := by omega
    simp only [if_pos (show (((8 * (m + 1) : Nat) : Int) - 8 ≥ 0) by omega), if_pos (show (0 : Int) ≤ ((8 * (m + 1) : Nat) : Int) - 8 by omega), if_pos (show acc.length < 140737488355328 by omega)]
    rw [w64 (by omega) (by omega), e]
    have := form_l0 X m (acc ++ [(shr .u64 X ((8 * m : Nat) : Int)) % 256]) (by omega) (by simp; omega)
    rw [List.append_assoc] at this
    exact this
theorem put_l0 (X : Int) : ∀ (m : Nat) (acc : List Int) (i : Nat), i + m = 8 → acc.length + m < 1000 → Ev (fun k => shelfmarkref03_put.l0 k acc X (i : Int)) (acc ++ beFrom X m)
  | 0, acc, i, h, hl => by
    refine Ev.step (fun _ => shelfmarkref03_put.l0.eq_2 ..) ?_
    simp only [if_neg (show ¬ ((i : Int) < 8) by omega), beFrom, List.append_nil]
    exact Ev.now _
  | m + 1, acc, i, h, hl => by
    refine Ev.step (fun _ => shelfmarkref03_put.l0.eq_2 ..) ?_
    have e : IntKind.u64.wrap (wrap64 (56 - wrap64 (8 * (i : Int)))) = ((8 * m : Nat) : Int) := by
      rw [w64 (x := 8 * (i : Int)) (by omega) (by omega), w64 (by omega) (by omega), wrap_u64]; omega
    simp only [if_pos (show ((i : Int) < 8) by omega), e, if_pos (show (0 : Int) ≤ ((8 * m : Nat) : Int) by omega), if_pos (show acc.length < 140737488355328 by omega)]
    rw [w64 (by omega) (by omega)]
    have := put_l0 X m (acc ++ [(shr .u64 X ((8 * m : Nat) : Int)) % 256]) (i + 1) (by omega) (by simp; omega)
    rw [List.append_assoc] at this
    exact this
theorem form_ev (v : S37) (hg : good v = true) : Ev (fun k => tuple_form.f k v.f0 v.f1 v.f2) (form v) := by
  unfold tuple_form.f form
  have hg' : goodB v.f0 v.f1 v.f2 = true := hg
  unfold goodB at hg'
  simp only [Option.bind_some]
  by_cases h1 : v.f0 = 1
  · simp only [h1, if_true]
    rw [w64 (by omega) (by omega), wrap_u64, bits_top _ (by omega) (by omega)]
    exact form_l0 (topN v.f1) 8 [2] (by omega) (by simp)
  · simp only [if_neg h1]
    by_cases h2 : v.f0 = 2
    · rw [if_neg (by omega), if_neg h1, if_pos h2] at hg'
      simp only [Bool.and_eq_true, decide_eq_true_eq] at hg'
      have hs : v.f2.size ≤ 32 := by omega
      have hc : v.f2.data.toList.count 0 ≤ 32 := Nat.le_trans List.count_le_length (by rw [data_length]; exact hs)
      have hcs : v.f2.size + v.f2.data.toList.count 0 * (⟨#[0, 255]⟩ : ByteArray).size ≤ 140737488355328 := by
        show v.f2.size + v.f2.data.toList.count 0 * 2 ≤ _; omega
      have hR : strings_ReplaceAll.f v.f2 (⟨#[0]⟩ : ByteArray) (⟨#[0, 255]⟩ : ByteArray) = some ⟨(bytesTurn 0 [0, 255] v.f2.data.toList).toArray⟩ := by
        unfold strings_ReplaceAll.f
        simp only []
        rw [if_pos (by rw [Lib.toList_data, Lib.toList_data]; decide), if_pos hcs]
      have hb : bytesOf ⟨(bytesTurn 0 [0, 255] v.f2.data.toList).toArray⟩ = esc v.f2 := by simp [bytesOf, esc, ints]
      have hl := esc_len v.f2
      have hz : (⟨(bytesTurn 0 [0, 255] v.f2.data.toList).toArray⟩ : ByteArray).size = (esc v.f2).length := by rw [← bytesOf_length, hb]
      simp only [h2, if_true, hR, Option.bind_some, hb, hz]
      rw [w64 (by omega) (by omega)]
      simp only [if_pos (show ([(2 + 1 : Int) % 256] : List Int).length + (esc v.f2).length < 140737488355328 by simp; omega)]
      rw [if_pos (show ([(2 + 1 : Int) % 256] ++ esc v.f2).length + ([0, 0] : List Int).length < 140737488355328 by simp; omega)]
      exact Ev.now _
    · have h0 : v.f0 = 0 := by
        apply Classical.byContradiction; intro h0
        rw [if_neg h0, if_neg h1, if_neg h2] at hg'; cases hg'
      simp only [h0, if_neg (show ¬ ((0 : Int) = 2) by decide)]
      rw [w64 (by omega) (by omega)]
      exact Ev.now _
theorem bt_drop (s : ByteArray) (i : Nat) (h : i < s.size) : s.data.toList.drop i = (s[i]'h) :: s.data.toList.drop (i + 1) ∧ bt s (i : Int) = ((s[i]'h).toNat : Int) := by
  refine ⟨drop_byte s i h, ?_⟩
  exact (bt_at s (i : Int) h).symm
theorem put_l1 (s : ByteArray) (hs : s.size ≤ 1000) (f0 f1 : Int) : ∀ (m i : Nat) (acc : List Int), i + m = s.size → acc.length + 2 * m < 10000 → Ev (fun k => shelfmarkref03_put.l1 k acc (i : Int) f0 f1 s) (acc ++ ints (bytesTurn 0 [0, 255] (s.data.toList.drop i)) ++ [0, 0])
  | 0, i, acc, h, hl => by
    refine Ev.step (fun _ => shelfmarkref03_put.l1.eq_2 ..) ?_
    rw [List.drop_eq_nil_of_le (by rw [data_length]; omega)]
    simp only [if_neg (show ¬ ((i : Int) < (s.size : Int)) by omega), Option.bind_some, if_pos (show acc.length + ([0, 0] : List Int).length < 140737488355328 by simp; omega)]
    simpa [bytesTurn, ints] using Ev.now (acc ++ [0, 0])
  | m + 1, i, acc, h, hl => by
    have hi : i < s.size := by omega
    obtain ⟨h1, h2⟩ := bt_drop s i hi
    refine Ev.step (fun _ => shelfmarkref03_put.l1.eq_2 ..) ?_
    simp only [if_pos (show (i : Int) < (s.size : Int) by omega), if_pos (show (0 : Int) ≤ (i : Int) by omega), if_pos (show acc.length < 140737488355328 by omega), Option.bind_some, h2]
    rw [w64 (by omega) (by omega), h1]
    by_cases hz : s[i] = 0
    · have hz' : ((s[i]'hi).toNat : Int) = 0 := by rw [hz]; rfl
      simp only [hz', if_true]
      simp only [if_pos (show (acc ++ [(0 : Int)]).length < 140737488355328 by simp; omega)]
      have := put_l1 s hs f0 f1 m (i + 1) (acc ++ [0] ++ [255]) (by omega) (by simp; omega)
      rw [show bytesTurn 0 [0, 255] (s[i] :: s.data.toList.drop (i + 1)) = [0, 255] ++ bytesTurn 0 [0, 255] (s.data.toList.drop (i + 1)) from by unfold bytesTurn; rw [List.flatMap_cons, if_pos hz]]
      simpa [ints] using this
    · have hz' : ¬ ((s[i]'hi).toNat : Int) = 0 := by
        intro e; apply hz; exact UInt8.toNat_inj.1 (by show _ = 0; omega)
      simp only [if_neg hz']
      have := put_l1 s hs f0 f1 m (i + 1) (acc ++ [((s[i]'hi).toNat : Int)]) (by omega) (by simp; omega)
      rw [show bytesTurn 0 [0, 255] (s[i] :: s.data.toList.drop (i + 1)) = [s[i]] ++ bytesTurn 0 [0, 255] (s.data.toList.drop (i + 1)) from by unfold bytesTurn; rw [List.flatMap_cons, if_neg hz]]
      simpa [ints] using this
theorem put_ev (v : S37) (hg : good v = true) : Ev (fun k => shelfmarkref03_put.f k v.f0 v.f1 v.f2) (form v) := by
  unfold shelfmarkref03_put.f form
  have hg' : goodB v.f0 v.f1 v.f2 = true := hg
  unfold goodB at hg'
  by_cases h1 : v.f0 = 1
  · simp only [h1, if_true, wrap_u64]
    exact put_l0 (topN v.f1) 8 [2] 0 (by omega) (by simp)
  · simp only [if_neg h1]
    by_cases h2 : v.f0 = 2
    · rw [if_neg (by omega), if_neg h1, if_pos h2] at hg'
      simp only [Bool.and_eq_true, decide_eq_true_eq] at hg'
      simp only [h2, if_true]
      have := put_l1 v.f2 (by omega) 2 v.f1 v.f2.size 0 [3] (by omega) (by simp; omega)
      rw [List.drop_zero] at this
      simpa [esc] using this
    · simp only [if_neg h2]
      exact Ev.now _
theorem form_len (v : S37) (hg : good v = true) : (form v).length ≤ 67 := by
  have hg' : goodB v.f0 v.f1 v.f2 = true := hg
  unfold goodB at hg'
  unfold form
  by_cases h1 : v.f0 = 1
  · rw [if_pos h1]; simp [beFrom_length]
  · rw [if_neg h1]
    by_cases h2 : v.f0 = 2
    · rw [if_neg (by omega), if_neg h1, if_pos h2] at hg'
      simp only [Bool.and_eq_true, decide_eq_true_eq] at hg'
      rw [if_pos h2]
      have := esc_len v.f2
      simp only [List.length_cons, List.length_append, List.length_nil]
      omega
    · rw [if_neg h2]; simp
/-- The bytes of a row's key. -/
def keyL (l : List S37) : List Int := l.flatMap form
theorem key_l0 (l : List S37) (hl : l.length ≤ 4) (hg : l.all good = true) : ∀ (m i : Nat) (acc : List Int), i + m = l.length → acc.length + 67 * m < 10000 → Ev (fun k => tuple_Key.l0 k acc l (l.length : Int) (i : Int)) (strOfNums (acc ++ keyL (l.drop i)), 0)
  | 0, i, acc, h, ha => by
    refine Ev.step (fun _ => tuple_Key.l0.eq_2 ..) ?_
    rw [List.drop_eq_nil_of_le (by omega)]
    simp only [if_neg (show ¬ (i : Int) < (l.length : Int) by omega)]
    simpa [keyL] using Ev.now (strOfNums acc, (0 : Int))
  | m + 1, i, acc, h, ha => by
    have hi : i < l.length := by omega
    have hgi : good l[i] = true := List.all_eq_true.1 hg _ (List.getElem_mem hi)
    have hf := form_len _ hgi
    refine Ev.step (fun _ => tuple_Key.l0.eq_2 ..) ?_
    simp only [if_pos (show (i : Int) < (l.length : Int) by omega), if_pos (show (0 : Int) ≤ (i : Int) by omega), rd_get l i hi]
    refine Ev.bind (form_ev _ hgi) ?_
    simp only [if_pos (show acc.length + (form l[i]).length < 140737488355328 by omega)]
    rw [w64 (by omega) (by omega), drop_get l i hi]
    have := key_l0 l hl hg m (i + 1) (acc ++ form l[i]) (by omega) (by rw [List.length_append]; omega)
    rw [List.append_assoc] at this
    exact this
theorem refKey_l0 (l : List S37) (hl : l.length ≤ 4) (hg : l.all good = true) : ∀ (m i : Nat) (acc : List Int), i + m = l.length → acc.length + 67 * m < 10000 → Ev (fun k => shelfmarkref03_Key.l0 k l acc (i : Int)) (strOfNums (acc ++ keyL (l.drop i)), 0)
  | 0, i, acc, h, ha => by
    refine Ev.step (fun _ => shelfmarkref03_Key.l0.eq_2 ..) ?_
    rw [List.drop_eq_nil_of_le (by omega)]
    simp only [if_neg (show ¬ (i : Int) < (l.length : Int) by omega)]
    simpa [keyL] using Ev.now (strOfNums acc, (0 : Int))
  | m + 1, i, acc, h, ha => by
    have hi : i < l.length := by omega
    have hgi : good l[i] = true := List.all_eq_true.1 hg _ (List.getElem_mem hi)
    have hf := form_len _ hgi
    refine Ev.step (fun _ => shelfmarkref03_Key.l0.eq_2 ..) ?_
    simp only [if_pos (show (i : Int) < (l.length : Int) by omega), if_pos (show (0 : Int) ≤ (i : Int) by omega), rd_get l i hi]
    refine Ev.bind (put_ev _ hgi) ?_
    simp only [if_pos (show acc.length + (form l[i]).length < 140737488355328 by omega)]
    rw [w64 (by omega) (by omega), drop_get l i hi]
    have := refKey_l0 l hl hg m (i + 1) (acc ++ form l[i]) (by omega) (by rw [List.length_append]; omega)
    rw [List.append_assoc] at this
    exact this
theorem row_ok {l : List S37} (h : rowE l = 0) : l.length ≤ 4 ∧ l.all good = true := by
  unfold rowE at h
  split at h
  · cases h
  · split at h
    · exact ⟨by omega, by assumption⟩
    · cases h
/-- What Key answers. -/
def keyR (l : List S37) : ByteArray × Int := if rowE l = 0 then (strOfNums (keyL l), 0) else (⟨#[]⟩, rowE l)
theorem key_ev (l : List S37) : Ev (fun k => tuple_Key.f k l) (keyR l) := by
  unfold tuple_Key.f keyR
  refine Ev.bind (row_ev l) ?_
  by_cases h : rowE l = 0
  · obtain ⟨h1, h2⟩ := row_ok h
    simp only [h, if_true]
    have := key_l0 l h1 h2 l.length 0 [] (by omega) (by simp; omega)
    rw [List.drop_zero, List.nil_append] at this
    exact this
  · simp only [if_neg h]
    exact Ev.now _
theorem refKey_ev (l : List S37) : Ev (fun k => shelfmarkref03_Key.f k l) (keyR l) := by
  unfold shelfmarkref03_Key.f keyR
  refine Ev.bind (refRow_ev l) ?_
  by_cases h : rowE l = 0
  · obtain ⟨h1, h2⟩ := row_ok h
    simp only [h, if_true]
    have := refKey_l0 l h1 h2 l.length 0 [] (by omega) (by simp; omega)
    rw [List.drop_zero, List.nil_append] at this
    exact this
  · simp only [if_neg h]
    exact Ev.now _
end Go.Proofs.YtdaidcfpikeooaaDoor.Tk
