/- DERIVED. What is read of a text is what was put, and the other way round. Conditions: those that each lemma names. -/
import Derived.Test.YtdaidcfpikeooaaDoorTk
namespace Go.Proofs.YtdaidcfpikeooaaDoor.Tr
open Go.RowKit Go.Proofs.YtdaidcfpikeooaaDoor.PAll Go.Proofs.YtdaidcfpikeooaaDoorW.PrintWords Go.Proofs.YtdaidcfpikeooaaDoorW.PrintLast Go.Proofs.YtdaidcfpikeooaaDoor.Hl Go.Proofs.YtdaidcfpikeooaaDoor.Tl Go.Proofs.YtdaidcfpikeooaaDoor.Tb Go.Proofs.YtdaidcfpikeooaaDoor.Tk
set_option linter.unusedSimpArgs false
set_option linter.unusedVariables false
abbrev turn (t : List UInt8) : List UInt8 := bytesTurn 0 [0, 255] t
theorem turn_zero (t : List UInt8) : turn (0 :: t) = 0 :: 255 :: turn t := by
  unfold turn bytesTurn; rw [List.flatMap_cons, if_pos rfl]; rfl
theorem turn_other {c : UInt8} (h : c ≠ 0) (t : List UInt8) : turn (c :: t) = c :: turn t := by
  unfold turn bytesTurn; rw [List.flatMap_cons, if_neg h]; rfl
theorem cons_app (t rest : List UInt8) : ∃ d X, turn t ++ 0 :: 0 :: rest = d :: X := by
  cases h : turn t with
  | nil => exact ⟨_, _, rfl⟩
  | cons d X => exact ⟨_, _, rfl⟩
theorem text_put (rest : List UInt8) : ∀ (t acc : List UInt8) (n : Nat), textS (turn t ++ 0 :: 0 :: rest) acc n = if 32 < (acc ++ t).length then (0, 0, ByteArray.empty, 0, 4) else (2, 0, ⟨(acc ++ t).toArray⟩, ((n + (turn t).length + 2 : Nat) : Int), 0)
  | [], acc, n => by
    show textS (0 :: 0 :: rest) acc n = _
    rw [textS, if_pos rfl, if_pos rfl, List.append_nil]; rfl
  | c :: t, acc, n => by
    by_cases h : c = 0
    · subst h
      rw [turn_zero]
      show textS (0 :: 255 :: (turn t ++ 0 :: 0 :: rest)) acc n = _
      rw [textS, if_pos rfl, if_neg (by decide), if_pos rfl, text_put rest t (acc ++ [0]) (n + 2)]
      simp only [List.append_assoc, List.singleton_append, List.length_cons]
      rw [show n + 2 + (turn t).length + 2 = n + ((turn t).length + 1 + 1) + 2 by omega]
    · rw [turn_other h]
      obtain ⟨d, X, hX⟩ := cons_app t rest
      show textS (c :: (turn t ++ 0 :: 0 :: rest)) acc n = _
      have := text_put rest t (acc ++ [c]) (n + 1)
      rw [hX] at this ⊢
      rw [textS, if_neg h, this]
      simp only [List.append_assoc, List.singleton_append, List.length_cons]
      rw [show n + 1 + (turn t).length + 2 = n + ((turn t).length + 1) + 2 by omega]
theorem text_got : ∀ (l acc : List UInt8) (n : Nat) (k x : Int) (s : ByteArray) (m : Int), textS l acc n = (k, x, s, m, 0) → ∃ t rest, l = turn t ++ 0 :: 0 :: rest ∧ k = 2 ∧ x = 0 ∧ s = ⟨(acc ++ t).toArray⟩ ∧ m = ((n + (turn t).length + 2 : Nat) : Int) ∧ (acc ++ t).length ≤ 32
  | [], acc, n, k, x, s, m, h => by simp [textS] at h
  | [_], acc, n, k, x, s, m, h => by simp [textS] at h
  | c :: d :: l, acc, n, k, x, s, m, h => by
    rw [textS] at h
    by_cases h1 : c = 0
    · subst h1
      rw [if_pos rfl] at h
      by_cases h2 : d = 0
      · subst h2
        rw [if_pos rfl] at h
        by_cases h3 : 32 < acc.length
        · rw [if_pos h3] at h; simp at h
        · rw [if_neg h3] at h
          simp only [Prod.mk.injEq] at h
          obtain ⟨rfl, rfl, rfl, rfl, _⟩ := h
          exact ⟨[], l, rfl, rfl, rfl, by rw [List.append_nil], rfl, by rw [List.append_nil]; omega⟩
      · rw [if_neg h2] at h
        by_cases h3 : d = 255
        · subst h3
          rw [if_pos rfl] at h
          obtain ⟨t, rest, e1, e2, e3, e4, e5, e6⟩ := text_got l (acc ++ [0]) (n + 2) k x s m h
          refine ⟨0 :: t, rest, by rw [turn_zero, e1]; rfl, e2, e3, by rw [e4]; simp, ?_, by simpa using e6⟩
          rw [e5, turn_zero]; simp only [List.length_cons]; omega
        · rw [if_neg h3] at h; simp at h
    · rw [if_neg h1] at h
      obtain ⟨t, rest, e1, e2, e3, e4, e5, e6⟩ := text_got (d :: l) (acc ++ [c]) (n + 1) k x s m h
      refine ⟨c :: t, rest, by rw [turn_other h1, e1]; rfl, e2, e3, by rw [e4]; simp, ?_, by simpa using e6⟩
      rw [e5, turn_other h1]; simp only [List.length_cons]; omega
theorem topN_range (n : Int) : 0 ≤ topN n ∧ topN n < 18446744073709551616 := by unfold topN; omega
theorem int_back (n : Int) (h0 : -9223372036854775808 ≤ n) (h1 : n < 9223372036854775808) : beInt (beNum (beFrom (topN n) 8)) = n := by
  obtain ⟨h2, h3⟩ := topN_range n
  rw [num_from _ h2 h3]
  unfold beInt
  rw [bits_top _ h2 h3]
  have h4 : (topN n + 9223372036854775808) % 18446744073709551616 = n % 18446744073709551616 := by unfold topN; omega
  rw [h4]
  unfold wrap64
  omega
theorem be_line (cs : List Int) : ∀ z : Int, be cs z = z * 256 ^ cs.length + be cs 0 := by
  induction cs with
  | nil => intro z; simp [be]
  | cons c cs ih =>
    intro z
    have e : ∀ y : Int, be (c :: cs) y = be cs (y * 256 + c) := fun _ => rfl
    rw [e, e, ih (z * 256 + c), ih (0 * 256 + c), List.length_cons, Int.pow_succ, Int.add_mul, Int.zero_mul, Int.zero_add, Int.mul_assoc, Int.mul_comm 256]
    omega
theorem be_small (cs : List Int) (hb : ∀ c ∈ cs, 0 ≤ c ∧ c < 256) : 0 ≤ be cs 0 ∧ be cs 0 < 256 ^ cs.length := by
  have := be_lt cs 0 1 hb (by omega) (by omega)
  rwa [Int.one_mul] at this
theorem from_be (cs : List Int) : ∀ z : Int, cs.length ≤ 8 → (∀ c ∈ cs, 0 ≤ c ∧ c < 256) → beFrom (be cs z) cs.length = cs := by
  induction cs with
  | nil => intro z _ _; rfl
  | cons c cs ih =>
    intro z hl hb
    rw [List.length_cons] at hl
    have hb' : ∀ d ∈ cs, 0 ≤ d ∧ d < 256 := fun d hd => hb d (by simp [hd])
    have hc := hb c (by simp)
    have e : be (c :: cs) z = be cs (z * 256 + c) := rfl
    obtain ⟨s0, s1⟩ := be_small cs hb'
    have hp : (0 : Int) < 256 ^ cs.length := Int.pow_pos (by decide)
    have hd : be cs (z * 256 + c) / 256 ^ cs.length = z * 256 + c := by
      rw [be_line cs, Int.add_comm, Int.add_mul_ediv_right _ _ (by omega), Int.ediv_eq_zero_of_lt s0 s1, Int.zero_add]
    rw [e, List.length_cons, beFrom, ih _ (by omega) hb', shr_eq _ _ (by omega), hd]
    congr 1
    omega
theorem bytes_back (cs : List Int) (hl : cs.length = 8) (hb : ∀ c ∈ cs, 0 ≤ c ∧ c < 256) : beFrom (topN (beInt (beNum cs))) 8 = cs := by
  have hn : beNum cs = be cs 0 := num_be cs 0 hb (by omega) (by omega) (by rw [hl]; decide)
  obtain ⟨s0, s1⟩ := be_small cs hb
  rw [hl] at s1
  have s2 : be cs 0 < 18446744073709551616 := by
    have : (256 : Int) ^ 8 = 18446744073709551616 := by decide
    omega
  have h4 : topN (beInt (beNum cs)) = be cs 0 := by
    rw [hn]
    unfold beInt
    rw [bits_top _ s0 s2]
    unfold topN wrap64
    omega
  have := from_be cs 0 (by omega) hb
  rw [hl] at this
  rw [h4, this]
def toB (l : List Int) : List UInt8 := l.map fun n => UInt8.ofNat n.toNat
theorem ints_toB (l : List Int) (hb : ∀ c ∈ l, 0 ≤ c ∧ c < 256) : ints (toB l) = l := by
  unfold ints toB
  rw [List.map_map]
  conv => rhs; rw [← List.map_id l]
  refine List.map_congr_left (fun c hc => ?_)
  have := hb c hc
  show ((UInt8.ofNat c.toNat).toNat : Int) = c
  rw [UInt8.toNat_ofNat']
  omega
theorem toB_ints (l : List UInt8) : toB (ints l) = l := by
  unfold ints toB
  rw [List.map_map]
  conv => rhs; rw [← List.map_id l]
  refine List.map_congr_left (fun c hc => ?_)
  simp
/-- A value's bytes. -/
def formB (v : S37) : List UInt8 := if v.f0 = 1 then 2 :: toB (beFrom (topN v.f1) 8) else if v.f0 = 2 then 3 :: (turn v.f2.data.toList ++ [0, 0]) else [1]
theorem ints_formB (v : S37) : ints (formB v) = form v := by
  unfold formB form
  split
  · show (2 : Int) :: ints (toB _) = _
    rw [ints_toB _ (beFrom_bytes _ 8)]
  · split
    · unfold esc ints; simp
    · rfl
theorem formB_length (v : S37) : (formB v).length = (form v).length := by rw [← ints_formB]; simp [ints]
theorem empty_of (s : ByteArray) (h : s.toList = []) : s = ByteArray.empty := by
  rw [Lib.toList_data] at h
  cases s with
  | mk d =>
    have : d = #[] := Array.toList_inj.1 (by simpa using h)
    subst this; rfl
theorem mk_list (s : ByteArray) : (⟨s.data.toList.toArray⟩ : ByteArray) = s := by cases s; rfl
theorem bytesOf_mid (s : ByteArray) : bytesOf (s.extract 1 9) = ints ((s.data.toList.drop 1).take 8) := by
  unfold bytesOf ints
  congr 1
  simp [ByteArray.data_extract, Array.toList_extract, List.extract_eq_take_drop]
theorem one_put (v : S37) (hg : good v = true) (h0 : -9223372036854775808 ≤ v.f1) (h1 : v.f1 < 9223372036854775808) (s : ByteArray) (R : List UInt8) (hs : s.data.toList = formB v ++ R) : oneS s s.data.toList = some (v.f0, v.f1, v.f2, ((formB v).length : Int), 0) := by
  have hg' : goodB v.f0 v.f1 v.f2 = true := hg
  unfold goodB at hg'
  by_cases k1 : v.f0 = 1
  · rw [if_neg (by omega), if_pos k1] at hg'
    have ef : v.f2 = ByteArray.empty := empty_of _ (by simpa using hg')
    have hf : formB v = 2 :: toB (beFrom (topN v.f1) 8) := by unfold formB; rw [if_pos k1]
    have hl8 : (toB (beFrom (topN v.f1) 8)).length = 8 := by unfold toB; rw [List.length_map, beFrom_length]
    have hsz : ¬ s.size < 9 := by
      have : s.data.toList.length = s.size := data_length s
      rw [hs, hf, List.length_append, List.length_cons, hl8] at this
      omega
    have hb : bytesOf (s.extract 1 9) = beFrom (topN v.f1) 8 := by
      rw [bytesOf_mid, hs, hf]
      show ints ((toB _ ++ R).take 8) = _
      rw [List.take_append_of_le_length (by omega), List.take_of_length_le (by omega), ints_toB _ (beFrom_bytes _ 8)]
    rw [hs, hf, List.cons_append, oneS, if_neg (by decide), if_pos rfl, if_neg hsz, hb, int_back _ h0 h1, k1, ef, List.length_cons, hl8]
    rfl
  · by_cases k2 : v.f0 = 2
    · rw [if_neg (by omega), if_neg k1, if_pos k2] at hg'
      simp only [Bool.and_eq_true, decide_eq_true_eq] at hg'
      have e1 : v.f1 = 0 := by simpa using hg'.1
      have hf : formB v = 3 :: (turn v.f2.data.toList ++ [0, 0]) := by unfold formB; rw [if_neg k1, if_pos k2]
      have ht := text_put R v.f2.data.toList [] 1
      rw [List.nil_append, if_neg (by rw [data_length]; omega), mk_list] at ht
      have hd : s.data.toList.drop 1 = turn v.f2.data.toList ++ 0 :: 0 :: R := by rw [hs, hf]; simp
      rw [hd.symm] at ht
      have h3 : s.data.toList = 3 :: (turn v.f2.data.toList ++ [0, 0] ++ R) := by rw [hs, hf]; rfl
      have ho : oneS s s.data.toList = some (textS (s.data.toList.drop 1) [] 1) := by
        conv => lhs; arg 2; rw [h3]
        rw [oneS, if_neg (by decide), if_neg (by decide), if_pos rfl]
      rw [ho, ht, k2, e1, hf]
      simp only [List.length_cons, List.length_append, List.length_nil]
      rw [show 1 + (turn v.f2.data.toList).length + 2 = (turn v.f2.data.toList).length + (0 + 1 + 1) + 1 by omega]
    · have k0 : v.f0 = 0 := by
        apply Classical.byContradiction; intro k0
        rw [if_neg k0, if_neg k1, if_neg k2] at hg'; cases hg'
      rw [if_pos k0] at hg'
      simp only [Bool.and_eq_true] at hg'
      have e1 : v.f1 = 0 := by simpa using hg'.1
      have ef : v.f2 = ByteArray.empty := empty_of _ (by simpa using hg'.2)
      have hf : formB v = [1] := by unfold formB; rw [if_neg k1, if_neg k2]
      rw [hs, hf, List.cons_append, oneS, if_pos rfl, k0, e1, ef]
      rfl
theorem ints_bytes (l : List UInt8) : ∀ c ∈ ints l, 0 ≤ c ∧ c < 256 := by
  intro c hc
  unfold ints at hc
  obtain ⟨b, _, rfl⟩ := List.mem_map.1 hc
  have := b.toNat_lt
  omega
theorem one_got (s : ByteArray) (k x : Int) (str : ByteArray) (n : Int) (h : oneS s s.data.toList = some (k, x, str, n, 0)) : good ⟨k, x, str⟩ = true ∧ n = ((formB ⟨k, x, str⟩).length : Int) ∧ ∃ R, s.data.toList = formB ⟨k, x, str⟩ ++ R := by
  cases hl : s.data.toList with
  | nil => rw [hl] at h; cases h
  | cons c l =>
    rw [hl, oneS] at h
    simp only [Option.some.injEq] at h
    by_cases h1 : c = 1
    · rw [if_pos h1] at h
      simp only [Prod.mk.injEq] at h
      obtain ⟨rfl, rfl, rfl, rfl, _⟩ := h
      subst h1
      exact ⟨by decide +kernel, rfl, l, rfl⟩
    · rw [if_neg h1] at h
      by_cases h2 : c = 2
      · rw [if_pos h2] at h
        by_cases h3 : s.size < 9
        · rw [if_pos h3] at h; simp at h
        · rw [if_neg h3] at h
          simp only [Prod.mk.injEq] at h
          obtain ⟨rfl, rfl, rfl, rfl, _⟩ := h
          subst h2
          have hsz : l.length + 1 = s.size := by rw [← data_length, hl]; rfl
          have hb : bytesOf (s.extract 1 9) = ints (l.take 8) := by rw [bytesOf_mid, hl]; rfl
          have hlen : (ints (l.take 8)).length = 8 := by unfold ints; rw [List.length_map, List.length_take]; omega
          have hf : formB ⟨1, beInt (beNum (bytesOf (s.extract 1 9))), ByteArray.empty⟩ = 2 :: l.take 8 := by
            unfold formB
            rw [if_pos rfl]
            show 2 :: toB (beFrom (topN (beInt (beNum (bytesOf (s.extract 1 9))))) 8) = _
            rw [hb, bytes_back _ hlen (ints_bytes _), toB_ints]
          rw [hf]
          have he : ByteArray.empty.toList = ([] : List UInt8) := by rw [Lib.toList_data]; rfl
          refine ⟨by simp [good, goodB, he], by simp; omega, l.drop 8, by simp⟩
      · rw [if_neg h2] at h
        by_cases h3 : c = 3
        · rw [if_pos h3, hl] at h
          subst h3
          obtain ⟨t, rest, e1, rfl, rfl, rfl, rfl, e6⟩ := text_got _ _ _ _ _ _ _ h
          rw [List.nil_append] at e6
          have e1' : l = turn t ++ 0 :: 0 :: rest := by simpa using e1
          have hf : formB ⟨2, 0, ⟨([] ++ t).toArray⟩⟩ = 3 :: (turn t ++ [0, 0]) := by unfold formB; rw [if_neg (show ¬ ((2 : Int) = 1) by decide), if_pos rfl]; simp
          rw [hf]
          refine ⟨?_, by simp only [List.length_cons, List.length_append, List.length_nil]; omega, rest, by rw [e1']; simp⟩
          have hs : (⟨([] ++ t).toArray⟩ : ByteArray).size = t.length := by rw [← data_length]; simp
          unfold good goodB
          rw [if_neg (show ¬ ((2 : Int) = 0) by decide), if_neg (show ¬ ((2 : Int) = 1) by decide), if_pos rfl]
          simp only [hs, beq_self_eq_true, Bool.true_and, decide_eq_true_eq]
          omega
        · rw [if_neg h3] at h; simp at h
end Go.Proofs.YtdaidcfpikeooaaDoor.Tr
