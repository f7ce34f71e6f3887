/- DERIVED. What Cut and Parse of both sides come to, from some number of rounds on. Conditions: those that each lemma names. DERIVED. What Parse of both sides comes to, from some number of rounds on. Conditions: those that each lemma names. DERIVED. An act on both boxes: both tell the same and come to the same. Conditions: those that each lemma names. -/
import Derived.Test.YtdaikljbljcagaaHl
import Derived.Laws.BitsLemmas
import Derived.Test.YtdaikljbljcagaaPAllx12
import Derived.Test.YtdaikljbljcagaaPAllx19
import Derived.Test.YtdaikljbljcagaaPAllx14
import Derived.Test.YtdaikljbljcagaaPAllx21
import Derived.Test.YtdaikljbljcagaaMs
import Derived.Test.YtdaikljbljcagaaPv
namespace Go.Proofs.Ytdaikljbljcagaa.Cu
open Go.RowKit Go.Proofs.Ytdaikljbljcagaa.PAll Go.Proofs.YtdaikljbljcagaaW.PrintWords Go.Proofs.YtdaikljbljcagaaW.PrintLast Go.Proofs.Ytdaikljbljcagaa.Hl
set_option linter.unusedSimpArgs false
set_option linter.unusedVariables false
/-- Is a value good? -/
def goodB (k n : Int) (s : ByteArray) : Bool := if k = 0 then (n == 0 && (s.toList == ([] : List UInt8))) else if k = 1 then s.toList == ([] : List UInt8) else if k = 2 then (n == 0 && decide ((s.size : Int) ≤ 32)) else false
def good (v : S105) : Bool := goodB v.f0 v.f1 v.f2
theorem wrap_u64 (n : Int) : IntKind.u64.wrap n = n % 18446744073709551616 := by simp [IntKind.wrap, IntKind.bits, IntKind.signed]
theorem xor_low (b : Nat) (h : b < 9223372036854775808) : b ^^^ 9223372036854775808 = b + 9223372036854775808 := by
  have h1 : b + 9223372036854775808 = 2 ^ 63 * 1 ||| b := by
    rw [← Nat.two_pow_add_eq_or_of_lt (i := 63) (by simpa using h) 1]; omega
  rw [h1]
  apply Nat.eq_of_testBit_eq
  intro i
  rw [Nat.testBit_xor, Nat.testBit_or, show (9223372036854775808 : Nat) = 2 ^ 63 from rfl, Nat.mul_one, Nat.testBit_two_pow]
  by_cases hi : 63 = i
  · subst hi
    rw [Nat.testBit_lt_two_pow (show b < 2 ^ 63 by simpa using h)]
    simp
  · simp [hi]
theorem xor_top (a : Nat) (h : a < 18446744073709551616) : a ^^^ 9223372036854775808 = (a + 9223372036854775808) % 18446744073709551616 := by
  by_cases h1 : a < 9223372036854775808
  · rw [xor_low a h1]; omega
  · obtain ⟨b, rfl⟩ : ∃ b, a = b + 9223372036854775808 := ⟨a - 9223372036854775808, by omega⟩
    rw [← xor_low b (by omega), Nat.xor_assoc, Nat.xor_self, Nat.xor_zero, xor_low b (by omega)]
    omega
theorem bits_top (x : Int) (h0 : 0 ≤ x) (h1 : x < 18446744073709551616) : bits .xor .u64 x 9223372036854775808 = (x + 9223372036854775808) % 18446744073709551616 := by
  obtain ⟨a, rfl⟩ := Int.eq_ofNat_of_zero_le h0
  have h2 : a < 18446744073709551616 := by omega
  have h3 : a % 2 ^ IntKind.u64.bits = a := Nat.mod_eq_of_lt (by simpa [IntKind.bits] using h2)
  have h4 : 9223372036854775808 % 2 ^ IntKind.u64.bits = 9223372036854775808 := by decide
  have h5 := xor_top a h2
  simp only [bits, show (9223372036854775808 : Int) = ((9223372036854775808 : Nat) : Int) from rfl, BitVec.ofInt_natCast, BitVec.toNat_xor, BitVec.toNat_ofNat, h3, h4, h5]
  rw [wrap_u64]
  omega
theorem next_eq (x c : Int) (hx : 0 ≤ x) (hx1 : x < 72057594037927936) (hc : 0 ≤ c) (hc1 : c < 256) : beNext x c = x * 256 + c := by
  unfold beNext
  rw [wrap_u64, wrap_u64, Int.emod_eq_of_lt (by omega) (by omega), Int.emod_eq_of_lt (by omega) (by omega)]
  exact bits_join .u64 64 (by decide) (fun n h0 h1 => by rw [wrap_u64]; exact Int.emod_eq_of_lt h0 (by simpa using h1)) 8 (x * 256) c (by omega) (by simp) (by simp; omega) hc (by simpa using hc1) (by simp; omega)
/-- The number of some bytes, the greatest first. -/
def be (l : List Int) (x : Int) : Int := l.foldl (fun x c => x * 256 + c) x
theorem be_lt : ∀ (l : List Int) (x B : Int), (∀ c ∈ l, 0 ≤ c ∧ c < 256) → 0 ≤ x → x < B → 0 ≤ be l x ∧ be l x < B * 256 ^ l.length
  | [], x, B, _, h0, h1 => by simp [be]; omega
  | c :: l, x, B, hb, h0, h1 => by
    have hc := hb c (by simp)
    have := be_lt l (x * 256 + c) (B * 256) (fun d hd => hb d (by simp [hd])) (by omega) (by omega)
    rw [show be (c :: l) x = be l (x * 256 + c) from rfl, List.length_cons, Int.pow_succ, Int.mul_comm (256 ^ l.length) 256, ← Int.mul_assoc]
    exact this
theorem pow_cast (k : Nat) : ((256 ^ k : Nat) : Int) = (256 : Int) ^ k := by rw [Int.natCast_pow]; rfl
theorem num_be (l : List Int) : ∀ (x : Int), (∀ c ∈ l, 0 ≤ c ∧ c < 256) → 0 ≤ x → l.length ≤ 8 → x < 256 ^ (8 - l.length) → l.foldl beNext x = be l x := by
  induction l with
  | nil => intro x _ _ _ _; rfl
  | cons c l ih =>
    intro x hb h0 h2 h3
    have hc := hb c (by simp)
    rw [List.length_cons] at h2 h3
    have hx : x < 72057594037927936 := by
      have h5 : (256 : Int) ^ (8 - (l.length + 1)) ≤ 256 ^ 7 := by
        have := Nat.pow_le_pow_right (show 0 < 256 by decide) (show 8 - (l.length + 1) ≤ 7 by omega)
        rw [← pow_cast, ← pow_cast]
        exact Int.ofNat_le.2 this
      have h6 : (256 : Int) ^ 7 = 72057594037927936 := by decide
      omega
    show l.foldl beNext (beNext x c) = be l (x * 256 + c)
    rw [next_eq x c h0 hx hc.1 hc.2]
    have h7 : x * 256 + c < 256 ^ (8 - l.length) := by
      rw [show 8 - l.length = (8 - (l.length + 1)) + 1 by omega, Int.pow_succ]
      omega
    exact ih _ (fun d hd => hb d (by simp [hd])) (by omega) (by omega) h7
/-- The bytes of a number, the greatest first. -/
def beFrom (X : Int) : Nat → List Int
  | 0 => []
  | m + 1 => (shr .u64 X ((8 * m : Nat) : Int)) % 256 :: beFrom X m
theorem shr_eq (X : Int) (m : Nat) (h : m ≤ 8) : shr .u64 X ((8 * m : Nat) : Int) = X / 256 ^ m := by
  unfold shr
  rw [Int.toNat_natCast, Nat.min_eq_left (show 8 * m ≤ IntKind.u64.bits by simp [IntKind.bits]; omega), Int.pow_mul]
  rfl
def ints (l : List UInt8) : List Int := l.map fun b => (b.toNat : Int)
/-- A number of 64 bits, the sign turned. -/
def topN (n : Int) : Int := (n % 18446744073709551616 + 9223372036854775808) % 18446744073709551616
theorem bt_drop (s : ByteArray) (i : Nat) (h : i < s.size) : s.data.toList.drop i = (s[i]'h) :: s.data.toList.drop (i + 1) ∧ bt s (i : Int) = ((s[i]'h).toNat : Int) := by
  refine ⟨drop_byte s i h, ?_⟩
  exact (bt_at s (i : Int) h).symm
abbrev turn (t : List UInt8) : List UInt8 := bytesTurn 0 [0, 255] t
theorem turn_zero (t : List UInt8) : turn (0 :: t) = 0 :: 255 :: turn t := by
  unfold turn bytesTurn; rw [List.flatMap_cons, if_pos rfl]; rfl
theorem turn_other {c : UInt8} (h : c ≠ 0) (t : List UInt8) : turn (c :: t) = c :: turn t := by
  unfold turn bytesTurn; rw [List.flatMap_cons, if_neg h]; rfl
theorem text_got : ∀ (l acc : List UInt8) (n : Nat) (k x : Int) (s : ByteArray) (m : Int), textS l acc n = (k, x, s, m, 0) → ∃ t rest, l = turn t ++ 0 :: 0 :: rest ∧ k = 2 ∧ x = 0 ∧ s = ⟨(acc ++ t).toArray⟩ ∧ m = ((n + (turn t).length + 2 : Nat) : Int) ∧ (acc ++ t).length ≤ 32
  | [], acc, n, k, x, s, m, h => by simp [textS] at h
  | [_], acc, n, k, x, s, m, h => by simp [textS] at h
  | c :: d :: l, acc, n, k, x, s, m, h => by
    rw [textS] at h
    by_cases h1 : c = 0
    · subst h1
      rw [if_pos rfl] at h
      by_cases h2 : d = 0
      · subst h2
        rw [if_pos rfl] at h
        by_cases h3 : 32 < acc.length
        · rw [if_pos h3] at h; simp at h
        · rw [if_neg h3] at h
          simp only [Prod.mk.injEq] at h
          obtain ⟨rfl, rfl, rfl, rfl, _⟩ := h
          exact ⟨[], l, rfl, rfl, rfl, by rw [List.append_nil], rfl, by rw [List.append_nil]; omega⟩
      · rw [if_neg h2] at h
        by_cases h3 : d = 255
        · subst h3
          rw [if_pos rfl] at h
          obtain ⟨t, rest, e1, e2, e3, e4, e5, e6⟩ := text_got l (acc ++ [0]) (n + 2) k x s m h
          refine ⟨0 :: t, rest, by rw [turn_zero, e1]; rfl, e2, e3, by rw [e4]; simp, ?_, by simpa using e6⟩
          rw [e5, turn_zero]; simp only [List.length_cons]; omega
        · rw [if_neg h3] at h; simp at h
    · rw [if_neg h1] at h
      obtain ⟨t, rest, e1, e2, e3, e4, e5, e6⟩ := text_got (d :: l) (acc ++ [c]) (n + 1) k x s m h
      refine ⟨c :: t, rest, by rw [turn_other h1, e1]; rfl, e2, e3, by rw [e4]; simp, ?_, by simpa using e6⟩
      rw [e5, turn_other h1]; simp only [List.length_cons]; omega
theorem be_line (cs : List Int) : ∀ z : Int, be cs z = z * 256 ^ cs.length + be cs 0 := by
  induction cs with
  | nil => intro z; simp [be]
  | cons c cs ih =>
    intro z
    have e : ∀ y : Int, be (c :: cs) y = be cs (y * 256 + c) := fun _ => rfl
    rw [e, e, ih (z * 256 + c), ih (0 * 256 + c), List.length_cons, Int.pow_succ, Int.add_mul, Int.zero_mul, Int.zero_add, Int.mul_assoc, Int.mul_comm 256]
    omega
theorem be_small (cs : List Int) (hb : ∀ c ∈ cs, 0 ≤ c ∧ c < 256) : 0 ≤ be cs 0 ∧ be cs 0 < 256 ^ cs.length := by
  have := be_lt cs 0 1 hb (by omega) (by omega)
  rwa [Int.one_mul] at this
theorem from_be (cs : List Int) : ∀ z : Int, cs.length ≤ 8 → (∀ c ∈ cs, 0 ≤ c ∧ c < 256) → beFrom (be cs z) cs.length = cs := by
  induction cs with
  | nil => intro z _ _; rfl
  | cons c cs ih =>
    intro z hl hb
    rw [List.length_cons] at hl
    have hb' : ∀ d ∈ cs, 0 ≤ d ∧ d < 256 := fun d hd => hb d (by simp [hd])
    have hc := hb c (by simp)
    have e : be (c :: cs) z = be cs (z * 256 + c) := rfl
    obtain ⟨s0, s1⟩ := be_small cs hb'
    have hp : (0 : Int) < 256 ^ cs.length := Int.pow_pos (by decide)
    have hd : be cs (z * 256 + c) / 256 ^ cs.length = z * 256 + c := by
      rw [be_line cs, Int.add_comm, Int.add_mul_ediv_right _ _ (by omega), Int.ediv_eq_zero_of_lt s0 s1, Int.zero_add]
    rw [e, List.length_cons, beFrom, ih _ (by omega) hb', shr_eq _ _ (by omega), hd]
    congr 1
    omega
theorem bytes_back (cs : List Int) (hl : cs.length = 8) (hb : ∀ c ∈ cs, 0 ≤ c ∧ c < 256) : beFrom (topN (beInt (beNum cs))) 8 = cs := by
  have hn : beNum cs = be cs 0 := num_be cs 0 hb (by omega) (by omega) (by rw [hl]; decide)
  obtain ⟨s0, s1⟩ := be_small cs hb
  rw [hl] at s1
  have s2 : be cs 0 < 18446744073709551616 := by
    have : (256 : Int) ^ 8 = 18446744073709551616 := by decide
    omega
  have h4 : topN (beInt (beNum cs)) = be cs 0 := by
    rw [hn]
    unfold beInt
    rw [bits_top _ s0 s2]
    unfold topN wrap64
    omega
  have := from_be cs 0 (by omega) hb
  rw [hl] at this
  rw [h4, this]
def toB (l : List Int) : List UInt8 := l.map fun n => UInt8.ofNat n.toNat
theorem toB_ints (l : List UInt8) : toB (ints l) = l := by
  unfold ints toB
  rw [List.map_map]
  conv => rhs; rw [← List.map_id l]
  refine List.map_congr_left (fun c hc => ?_)
  simp
/-- A value's bytes. -/
def formB (v : S105) : List UInt8 := if v.f0 = 1 then 2 :: toB (beFrom (topN v.f1) 8) else if v.f0 = 2 then 3 :: (turn v.f2.data.toList ++ [0, 0]) else [1]
theorem bytesOf_mid (s : ByteArray) : bytesOf (s.extract 1 9) = ints ((s.data.toList.drop 1).take 8) := by
  unfold bytesOf ints
  congr 1
  simp [ByteArray.data_extract, Array.toList_extract, List.extract_eq_take_drop]
theorem ints_bytes (l : List UInt8) : ∀ c ∈ ints l, 0 ≤ c ∧ c < 256 := by
  intro c hc
  unfold ints at hc
  obtain ⟨b, _, rfl⟩ := List.mem_map.1 hc
  have := b.toNat_lt
  omega
theorem one_got (s : ByteArray) (k x : Int) (str : ByteArray) (n : Int) (h : oneS s s.data.toList = some (k, x, str, n, 0)) : good ⟨k, x, str⟩ = true ∧ n = ((formB ⟨k, x, str⟩).length : Int) ∧ ∃ R, s.data.toList = formB ⟨k, x, str⟩ ++ R := by
  cases hl : s.data.toList with
  | nil => rw [hl] at h; cases h
  | cons c l =>
    rw [hl, oneS] at h
    simp only [Option.some.injEq] at h
    by_cases h1 : c = 1
    · rw [if_pos h1] at h
      simp only [Prod.mk.injEq] at h
      obtain ⟨rfl, rfl, rfl, rfl, _⟩ := h
      subst h1
      exact ⟨by decide +kernel, rfl, l, rfl⟩
    · rw [if_neg h1] at h
      by_cases h2 : c = 2
      · rw [if_pos h2] at h
        by_cases h3 : s.size < 9
        · rw [if_pos h3] at h; simp at h
        · rw [if_neg h3] at h
          simp only [Prod.mk.injEq] at h
          obtain ⟨rfl, rfl, rfl, rfl, _⟩ := h
          subst h2
          have hsz : l.length + 1 = s.size := by rw [← data_length, hl]; rfl
          have hb : bytesOf (s.extract 1 9) = ints (l.take 8) := by rw [bytesOf_mid, hl]; rfl
          have hlen : (ints (l.take 8)).length = 8 := by unfold ints; rw [List.length_map, List.length_take]; omega
          have hf : formB ⟨1, beInt (beNum (bytesOf (s.extract 1 9))), ByteArray.empty⟩ = 2 :: l.take 8 := by
            unfold formB
            rw [if_pos rfl]
            show 2 :: toB (beFrom (topN (beInt (beNum (bytesOf (s.extract 1 9))))) 8) = _
            rw [hb, bytes_back _ hlen (ints_bytes _), toB_ints]
          rw [hf]
          have he : ByteArray.empty.toList = ([] : List UInt8) := by rw [Lib.toList_data]; rfl
          refine ⟨by simp [good, goodB, he], by simp; omega, l.drop 8, by simp⟩
      · rw [if_neg h2] at h
        by_cases h3 : c = 3
        · rw [if_pos h3, hl] at h
          subst h3
          obtain ⟨t, rest, e1, rfl, rfl, rfl, rfl, e6⟩ := text_got _ _ _ _ _ _ _ h
          rw [List.nil_append] at e6
          have e1' : l = turn t ++ 0 :: 0 :: rest := by simpa using e1
          have hf : formB ⟨2, 0, ⟨([] ++ t).toArray⟩⟩ = 3 :: (turn t ++ [0, 0]) := by unfold formB; rw [if_neg (show ¬ ((2 : Int) = 1) by decide), if_pos rfl]; simp
          rw [hf]
          refine ⟨?_, by simp only [List.length_cons, List.length_append, List.length_nil]; omega, rest, by rw [e1']; simp⟩
          have hs : (⟨([] ++ t).toArray⟩ : ByteArray).size = t.length := by rw [← data_length]; simp
          unfold good goodB
          rw [if_neg (show ¬ ((2 : Int) = 0) by decide), if_neg (show ¬ ((2 : Int) = 1) by decide), if_pos rfl]
          simp only [hs, beq_self_eq_true, Bool.true_and, decide_eq_true_eq]
          omega
        · rw [if_neg h3] at h; simp at h
/-- What is read of the value that a text begins with. -/
def oneR (s : ByteArray) : Int × Int × ByteArray × Int × Int := (oneS s s.data.toList).getD (0, 0, ByteArray.empty, 0, 3)
/-- Does a text begin with no value? -/
def stops (s : ByteArray) : Bool := match s.data.toList with
  | [] => true
  | c :: _ => c == 0
def cutF : Nat → ByteArray → List S105 → List S105 × ByteArray × Int
  | 0, s, l => if stops s = true then (l, s, 0) else ([], ⟨#[]⟩, 4)
  | m + 1, s, l => if stops s = true then (l, s, 0) else if (oneR s).2.2.2.2 = 0 then cutF m (s.extract (oneR s).2.2.2.1.toNat s.size) (l ++ [⟨(oneR s).1, (oneR s).2.1, (oneR s).2.2.1⟩]) else ([], ⟨#[]⟩, (oneR s).2.2.2.2)
theorem cut_l0 : ∀ (m : Nat) (s : ByteArray) (l : List S105), l.length + m = 4 → s.size ≤ 140737488351232 → Ev (fun k => tuple_Cut.l0 k s l) (cutF m s l) := by
  have halt : ∀ (s : ByteArray) (l : List S105), Ev (fun k => tuple_Cut.j1 k s l false) (l, s, 0) := by
    intro s l
    refine Ev.step (fun _ => tuple_Cut.j1.eq_2 ..) ?_
    simp only [Bool.false_eq_true, if_false]
    exact Ev.now _
  have enter : ∀ (s : ByteArray) (l : List S105) (r : List S105 × ByteArray × Int), (stops s = true → r = (l, s, 0)) → (stops s = false → Ev (fun k => tuple_Cut.j1 k s l true) r) → Ev (fun k => tuple_Cut.l0 k s l) r := by
    intro s l r h1 h2
    refine Ev.step (fun _ => tuple_Cut.l0.eq_2 ..) ?_
    by_cases h : s.toList = ([] : List UInt8)
    · simp only [if_pos h]
      rw [h1 (by unfold stops; rw [← Lib.toList_data, h])]
      exact halt s l
    · simp only [if_neg h]
      have hp : 0 < s.size := by
        rcases Nat.eq_zero_or_pos s.size with h0 | h0
        · exact absurd (by rw [Lib.toList_data]; exact List.eq_nil_of_length_eq_zero (by rw [data_length]; exact h0)) h
        · exact h0
      simp only [if_pos (show (0 : Int) < (s.size : Int) by omega)]
      obtain ⟨d1, d2⟩ := bt_drop s 0 hp
      rw [List.drop_zero] at d1
      rw [show bt s 0 = ((s[0]'hp).toNat : Int) from d2]
      by_cases hz : s[0] = 0
      · have e : (((s[0]'hp).toNat : Int) != 0) = false := by rw [hz]; rfl
        simp only [e]
        rw [h1 (by unfold stops; rw [d1]; simp [hz])]
        exact halt s l
      · have e : (((s[0]'hp).toNat : Int) != 0) = true := by
          rw [bne_iff_ne]; intro e; apply hz; exact UInt8.toNat_inj.1 (by show _ = 0; omega)
        simp only [e]
        exact h2 (by unfold stops; rw [d1]; simpa using hz)
  intro m
  induction m with
  | zero =>
    intro s l hl hs
    refine enter s l _ (fun h => by unfold cutF; rw [if_pos h]) (fun h => ?_)
    refine Ev.step (fun _ => tuple_Cut.j1.eq_2 ..) ?_
    unfold cutF
    simp only [h, Bool.false_eq_true, if_false, if_true, if_pos (show (l.length : Int) = 4 by omega)]
    exact Ev.now _
  | succ m ih =>
    intro s l hl hs
    refine enter s l _ (fun h => by unfold cutF; rw [if_pos h]) (fun h => ?_)
    refine Ev.step (fun _ => tuple_Cut.j1.eq_2 ..) ?_
    have hne : ∃ c t, s.data.toList = c :: t := by
      cases hd : s.data.toList with
      | nil => unfold stops at h; rw [hd] at h; cases h
      | cons c t => exact ⟨c, t, rfl⟩
    obtain ⟨c, t, hd⟩ := hne
    have ho : tuple_one.f s = some (oneR s) := by
      unfold tuple_one.f oneR
      rw [if_pos hs, hd, oneS]
      rfl
    unfold cutF
    simp only [h, Bool.false_eq_true, if_false, if_true, if_neg (show ¬ (l.length : Int) = 4 by omega), ho, Option.bind_some]
    by_cases he : (oneR s).2.2.2.2 = 0
    · have hg : oneS s s.data.toList = some ((oneR s).1, (oneR s).2.1, (oneR s).2.2.1, (oneR s).2.2.2.1, 0) := by
        rw [← he]
        unfold oneR
        rw [hd, oneS]
        rfl
      obtain ⟨_, hn, R, hR⟩ := one_got s _ _ _ _ hg
      have hlen : (oneR s).2.2.2.1 ≤ (s.size : Int) := by
        rw [hn, ← data_length s, hR, List.length_append]; omega
      simp only [if_pos he, if_pos (show l.length < 4398046511104 by omega), if_pos (show (0 : Int) ≤ (oneR s).2.2.2.1 by rw [hn]; omega), if_pos hlen]
      exact ih _ _ (by rw [List.length_append]; simp; omega) (by rw [ByteArray.size_extract]; omega)
    · simp only [if_neg he]
      exact Ev.now _
theorem cut_ev (s : ByteArray) (hs : s.size ≤ 140737488351232) : Ev (fun k => tuple_Cut.f k s) (cutF 4 s []) := by
  unfold tuple_Cut.f
  exact cut_l0 4 s [] rfl hs
theorem strOfNums_map (l : List UInt8) : strOfNums (l.map fun b => (b.toNat : Int)) = ⟨l.toArray⟩ := by
  unfold strOfNums
  rw [List.map_map]
  have : ((fun n : Int => UInt8.ofNat n.toNat) ∘ fun b : UInt8 => (b.toNat : Int)) = id := by
    funext b
    simp
  rw [this, List.map_id]
theorem w64c {x : Int} (h0 : -9223372036854775808 ≤ x) (h1 : x < 9223372036854775808) : wrap64 x = x := Go.IntWalk.wrap64_in _ (by omega)
theorem nx1 {i : Nat} (h : i < 9223372036854775807) : wrap64 ((i : Int) + 1) = ((i + 1 : Nat) : Int) := by rw [w64c (by omega) (by omega)]; omega
theorem byte_cases (c : UInt8) (n : Nat) (hn : n < 256) : ((c.toNat : Int) = (n : Int)) ↔ c = UInt8.ofNat n := by
  constructor
  · intro h
    apply UInt8.toNat_inj.1
    rw [UInt8.toNat_ofNat', Nat.mod_eq_of_lt hn]
    omega
  · rintro rfl
    rw [UInt8.toNat_ofNat', Nat.mod_eq_of_lt hn]
theorem data_at {s : ByteArray} {i : Nat} {c : UInt8} {t : List UInt8} (h : s.data.toList.drop i = c :: t) : i < s.size ∧ bt s (i : Int) = (c.toNat : Int) ∧ s.data.toList.drop (i + 1) = t := by
  have hlt : i < s.size := by
    have := congrArg List.length h
    rw [List.length_drop, data_length, List.length_cons] at this
    omega
  obtain ⟨h1, h2⟩ := bt_drop s i hlt
  rw [h] at h1
  injection h1 with h3 h4
  exact ⟨hlt, by rw [h2, h3], h4.symm⟩
theorem data_end {s : ByteArray} {i : Nat} (h : s.data.toList.drop i = []) : s.size ≤ i := by
  have := congrArg List.length h
  rw [List.length_drop, data_length, List.length_nil] at this
  omega
theorem u8_ne {c : UInt8} {n : Nat} (hn : n < 256) (h : c ≠ UInt8.ofNat n) : ¬ ((c.toNat : Int) = (n : Int)) := fun e => h ((byte_cases c n hn).1 e)
theorem u8_ne0 {c : UInt8} (h : ¬ c = 0) : ¬ ((c.toNat : Int) = 0) := u8_ne (n := 0) (by decide) h
theorem u8_ne255 {c : UInt8} (h : ¬ c = 255) : ¬ ((c.toNat : Int) = 255) := u8_ne (n := 255) (by decide) h
theorem last_eq (a : Nat) (h : a < 9223372036854775800) : wrap64 (wrap64 ((a : Int) + 2) - 1) = ((a + 1 : Nat) : Int) := by
  rw [w64c (x := (a : Int) + 2) (by omega) (by omega), w64c (by omega) (by omega)]; omega
theorem two_eq (a : Nat) (h : a < 9223372036854775800) : wrap64 ((a : Int) + 2) = ((a + 2 : Nat) : Int) := by rw [w64c (by omega) (by omega)]; omega
theorem dn_eq (n : Nat) (h : n < 9223372036854775800) : wrap64 ((n : Int) - 1) = (n : Int) - 1 := w64c (by omega) (by omega)
theorem ints_len (a : List UInt8) : (ints a).length = a.length := by unfold ints; rw [List.length_map]
theorem ints_snoc (a : List UInt8) (c : UInt8) : ints (a ++ [c]) = ints a ++ [(c.toNat : Int)] := by unfold ints; rw [List.map_append]; rfl
theorem beq_f {a b : Int} (h : a ≠ b) : (a == b) = false := beq_eq_false_iff_ne.2 h
section
variable {s : ByteArray} {l : List S105} {A : Nat} {x9 : List Int} {out : List S105 × ByteArray × Int}
/-- Behind the text's end. -/
theorem l2_end (h : s.size ≤ A) : Ev (fun k => shelfmarkref03_Cut.l2 k s l (A : Int) x9) ([], ⟨#[]⟩, 2) := by
  refine Ev.step (fun _ => shelfmarkref03_Cut.l2.eq_2 ..) (Ev.congr (fun k => if_pos (by omega)) ?_)
  exact Ev.step (fun _ => shelfmarkref03_Cut.j4.eq_2 ..) (Ev.congr (fun k => if_pos rfl) (Ev.now _))
/-- A byte that is no zero. -/
theorem l2_other (hs : s.size ≤ 140737488351232) (h : A < s.size) (hx : x9.length < 140737488355328) (hb : ¬ bt s (A : Int) = 0) (hr : Ev (fun k => shelfmarkref03_Cut.l2 k s l ((A + 1 : Nat) : Int) (x9 ++ [bt s (A : Int)])) out) : Ev (fun k => shelfmarkref03_Cut.l2 k s l (A : Int) x9) out := by
  have hj : Ev (fun k => shelfmarkref03_Cut.j4 k s l (A : Int) x9 false) out := by
    refine Ev.step (fun _ => shelfmarkref03_Cut.j4.eq_2 ..) (Ev.congr (fun k => ?_) hr)
    rw [if_neg (by decide), if_pos (by omega), if_pos (by omega), if_neg hb, if_pos hx, nx1 (by omega)]
  refine Ev.step (fun _ => shelfmarkref03_Cut.l2.eq_2 ..) (Ev.congr (fun k => ?_) hj)
  rw [if_neg (by omega), if_pos (by omega), if_pos (by omega), if_neg hb]
/-- A zero at the end. -/
theorem l2_last (hs : s.size ≤ 140737488351232) (h : A + 1 = s.size) (hb : bt s (A : Int) = 0) : Ev (fun k => shelfmarkref03_Cut.l2 k s l (A : Int) x9) ([], ⟨#[]⟩, 2) := by
  have hj : Ev (fun k => shelfmarkref03_Cut.j4 k s l (A : Int) x9 true) ([], ⟨#[]⟩, 2) := Ev.step (fun _ => shelfmarkref03_Cut.j4.eq_2 ..) (Ev.congr (fun k => if_pos rfl) (Ev.now _))
  refine Ev.step (fun _ => shelfmarkref03_Cut.l2.eq_2 ..) (Ev.congr (fun k => ?_) hj)
  rw [if_neg (by omega), if_pos (by omega), if_pos (by omega), if_pos hb, dn_eq _ (by omega)]
  congr 1
  exact beq_iff_eq.2 (by omega)
/-- A zero and the byte behind it. -/
theorem l2_zero (hs : s.size ≤ 140737488351232) (h : A + 1 < s.size) (hb : bt s (A : Int) = 0) (b : Bool) (h1 : bt s ((A + 1 : Nat) : Int) = 0 → b = false) (h2 : ¬ bt s ((A + 1 : Nat) : Int) = 0 → b = (bt s ((A + 1 : Nat) : Int) != 255)) (hr : Ev (fun k => shelfmarkref03_Cut.j5 k s l (A : Int) x9 b) out) : Ev (fun k => shelfmarkref03_Cut.l2 k s l (A : Int) x9) out := by
  have hj : Ev (fun k => shelfmarkref03_Cut.j4 k s l (A : Int) x9 false) out := by
    refine Ev.step (fun _ => shelfmarkref03_Cut.j4.eq_2 ..) (Ev.congr (fun k => ?_) hr)
    rw [if_neg (by decide), if_pos (by omega), if_pos (by omega), if_pos hb, nx1 (by omega), if_pos (by omega), if_pos (by omega)]
    by_cases hd : bt s ((A + 1 : Nat) : Int) = 0
    · rw [if_pos hd, h1 hd]
    · rw [if_neg hd, h2 hd]
  refine Ev.step (fun _ => shelfmarkref03_Cut.l2.eq_2 ..) (Ev.congr (fun k => ?_) hj)
  rw [if_neg (by omega), if_pos (by omega), if_pos (by omega), if_pos hb, dn_eq _ (by omega)]
  congr 1
  exact beq_f (by omega)
theorem j5_err : Ev (fun k => shelfmarkref03_Cut.j5 k s l (A : Int) x9 true) ([], ⟨#[]⟩, 3) := Ev.step (fun _ => shelfmarkref03_Cut.j5.eq_2 ..) (Ev.congr (fun k => if_pos rfl) (Ev.now _))
theorem j5_long (hs : s.size ≤ 140737488351232) (h : A + 1 < s.size) (hb : bt s ((A + 1 : Nat) : Int) = 0) (hx : (x9.length : Int) > 32) : Ev (fun k => shelfmarkref03_Cut.j5 k s l (A : Int) x9 false) ([], ⟨#[]⟩, 4) := by
  refine Ev.step (fun _ => shelfmarkref03_Cut.j5.eq_2 ..) (Ev.congr (fun k => ?_) (Ev.now _))
  rw [if_neg (by decide), last_eq _ (by omega), if_pos (by omega), if_pos (by omega), if_pos hb, if_pos hx]
theorem j5_done (hs : s.size ≤ 140737488351232) (hl : l.length ≤ 4) (h : A + 1 < s.size) (hb : bt s ((A + 1 : Nat) : Int) = 0) (hx : ¬ (x9.length : Int) > 32) (hr : Ev (fun k => shelfmarkref03_Cut.l0 k s (l ++ [⟨2, 0, strOfNums x9⟩]) ((A + 2 : Nat) : Int)) out) : Ev (fun k => shelfmarkref03_Cut.j5 k s l (A : Int) x9 false) out := by
  refine Ev.step (fun _ => shelfmarkref03_Cut.j5.eq_2 ..) (Ev.congr (fun k => ?_) hr)
  rw [if_neg (by decide), last_eq _ (by omega), if_pos (by omega), if_pos (by omega), if_pos hb, if_neg hx, if_pos (by omega), two_eq _ (by omega)]
theorem j5_turn (hs : s.size ≤ 140737488351232) (h : A + 1 < s.size) (hx : x9.length < 140737488355328) (hb : ¬ bt s ((A + 1 : Nat) : Int) = 0) (hr : Ev (fun k => shelfmarkref03_Cut.l2 k s l ((A + 2 : Nat) : Int) (x9 ++ [0])) out) : Ev (fun k => shelfmarkref03_Cut.j5 k s l (A : Int) x9 false) out := by
  refine Ev.step (fun _ => shelfmarkref03_Cut.j5.eq_2 ..) (Ev.congr (fun k => ?_) hr)
  rw [if_neg (by decide), last_eq _ (by omega), if_pos (by omega), if_pos (by omega), if_neg hb, if_pos hx, two_eq _ (by omega)]
end
/-- The reference's loop over a text's bytes. -/
theorem ref_text (s : ByteArray) (hs : s.size ≤ 140737488351232) (l : List S105) (hl : l.length ≤ 4) (base : Nat) : ∀ (m n : Nat) (acc : List UInt8), s.size - (base + n) ≤ m → acc.length ≤ base + n → base + n ≤ s.size →
    ((textS (s.data.toList.drop (base + n)) acc n).2.2.2.2 ≠ 0 → Ev (fun k => shelfmarkref03_Cut.l2 k s l ((base + n : Nat) : Int) (ints acc)) ([], ⟨#[]⟩, (textS (s.data.toList.drop (base + n)) acc n).2.2.2.2)) ∧
    ((textS (s.data.toList.drop (base + n)) acc n).2.2.2.2 = 0 → ∀ out, Ev (fun k => shelfmarkref03_Cut.l0 k s (l ++ [⟨(textS (s.data.toList.drop (base + n)) acc n).1, (textS (s.data.toList.drop (base + n)) acc n).2.1, (textS (s.data.toList.drop (base + n)) acc n).2.2.1⟩]) ((base : Int) + (textS (s.data.toList.drop (base + n)) acc n).2.2.2.1)) out → Ev (fun k => shelfmarkref03_Cut.l2 k s l ((base + n : Nat) : Int) (ints acc)) out) := by
  intro m
  induction m with
  | zero =>
    intro n acc hm hacc hn
    have e : s.data.toList.drop (base + n) = [] := List.drop_eq_nil_of_le (by rw [data_length]; omega)
    rw [e]
    exact ⟨fun _ => l2_end (by omega), fun h => by simp [textS] at h⟩
  | succ m ih =>
    intro n acc hm hacc hn
    have hx9 : (ints acc).length < 140737488355328 := by rw [ints_len]; omega
    rcases hd : s.data.toList.drop (base + n) with _ | ⟨c, t⟩
    · have := data_end hd
      exact ⟨fun _ => l2_end this, fun h => by simp [textS] at h⟩
    · obtain ⟨hlt, hb, ht⟩ := data_at hd
      rcases ht2 : t with _ | ⟨d, t2⟩
      · subst ht2
        have hend := data_end ht
        refine ⟨fun _ => ?_, fun h => by simp [textS] at h⟩
        by_cases hc : c = 0
        · exact l2_last hs (by omega) (by rw [hb, hc]; rfl)
        · exact l2_other hs hlt hx9 (by rw [hb]; exact u8_ne0 hc) (l2_end hend)
      · subst ht2
        obtain ⟨hlt2, hb2, ht3⟩ := data_at ht
        by_cases hc : c = 0
        · subst hc
          have hb0 : bt s ((base + n : Nat) : Int) = 0 := by rw [hb]; rfl
          by_cases hd0 : d = 0
          · subst hd0
            rw [show textS (0 :: 0 :: t2) acc n = if 32 < acc.length then ((0, 0, ByteArray.empty, 0, 4) : Int × Int × ByteArray × Int × Int) else (2, 0, ⟨acc.toArray⟩, ((n + 2 : Nat) : Int), 0) by rw [textS, if_pos rfl, if_pos rfl]]
            have hb3 : bt s ((base + n + 1 : Nat) : Int) = 0 := by rw [hb2]; rfl
            by_cases h32 : 32 < acc.length
            · rw [if_pos h32]
              exact ⟨fun _ => l2_zero hs hlt2 hb0 false (fun _ => rfl) (fun h => absurd hb3 h) (j5_long hs hlt2 hb3 (by rw [ints_len]; omega)), fun h => by simp at h⟩
            · rw [if_neg h32]
              refine ⟨fun h => absurd rfl h, fun _ out h => l2_zero hs hlt2 hb0 false (fun _ => rfl) (fun h => absurd hb3 h) (j5_done hs hl hlt2 hb3 (by rw [ints_len]; omega) ?_)⟩
              have e1 : strOfNums (ints acc) = ⟨acc.toArray⟩ := strOfNums_map acc
              have e2 : ((base + n + 2 : Nat) : Int) = (base : Int) + ((n + 2 : Nat) : Int) := by omega
              rw [e1, e2]
              exact h
          · have hb3 : ¬ bt s ((base + n + 1 : Nat) : Int) = 0 := by rw [hb2]; exact u8_ne0 hd0
            by_cases hd255 : d = 255
            · subst hd255
              have ih2 := ih (n + 2) (acc ++ [0]) (by omega) (by rw [List.length_append, List.length_singleton]; omega) (by omega)
              rw [show base + (n + 2) = base + n + 1 + 1 by omega, ht3] at ih2
              rw [show textS (0 :: 255 :: t2) acc n = textS t2 (acc ++ [0]) (n + 2) by rw [textS, if_pos rfl, if_neg (by decide), if_pos rfl]]
              have hj : ∀ out, Ev (fun k => shelfmarkref03_Cut.l2 k s l ((base + n + 1 + 1 : Nat) : Int) (ints (acc ++ [0]))) out → Ev (fun k => shelfmarkref03_Cut.l2 k s l ((base + n : Nat) : Int) (ints acc)) out := by
                intro out h
                rw [ints_snoc] at h
                exact l2_zero hs hlt2 hb0 false (fun h => absurd h hb3) (fun _ => by rw [hb2]; rfl) (j5_turn hs hlt2 hx9 hb3 h)
              exact ⟨fun h => hj _ (ih2.1 h), fun h out k => hj _ (ih2.2 h out k)⟩
            · rw [show textS (0 :: d :: t2) acc n = (0, 0, ByteArray.empty, 0, 3) by rw [textS, if_pos rfl, if_neg hd0, if_neg hd255]]
              exact ⟨fun _ => l2_zero hs hlt2 hb0 true (fun h => absurd h hb3) (fun _ => by rw [hb2]; exact (bne_iff_ne.2 (u8_ne255 hd255)).symm) j5_err, fun h => by simp at h⟩
        · have hb0 : ¬ bt s ((base + n : Nat) : Int) = 0 := by rw [hb]; exact u8_ne0 hc
          have ih2 := ih (n + 1) (acc ++ [c]) (by omega) (by rw [List.length_append, List.length_singleton]; omega) (by omega)
          rw [show base + (n + 1) = base + n + 1 by omega, ht] at ih2
          rw [show textS (c :: d :: t2) acc n = textS (d :: t2) (acc ++ [c]) (n + 1) by rw [textS, if_neg hc]]
          have hj : ∀ out, Ev (fun k => shelfmarkref03_Cut.l2 k s l ((base + n + 1 : Nat) : Int) (ints (acc ++ [c]))) out → Ev (fun k => shelfmarkref03_Cut.l2 k s l ((base + n : Nat) : Int) (ints acc)) out := by
            intro out h
            rw [ints_snoc, ← hb] at h
            exact l2_other hs hlt hx9 hb0 h
          exact ⟨fun h => hj _ (ih2.1 h), fun h out k => hj _ (ih2.2 h out k)⟩
/-- The reference's loop over a number's eight bytes. -/
theorem ref_num (s : ByteArray) (hs : s.size ≤ 140737488351232) (l : List S105) (hl : l.length ≤ 4) : ∀ (m i at_ : Nat) (x : Int), i + m = 8 → at_ ≤ s.size → 0 ≤ x → x < 256 ^ i →
    (s.size < at_ + m → Ev (fun k => shelfmarkref03_Cut.l1 k s l (at_ : Int) x (i : Int)) ([], ⟨#[]⟩, 2)) ∧
    (at_ + m ≤ s.size → ∀ out, Ev (fun k => shelfmarkref03_Cut.l0 k s (l ++ [⟨1, beInt (be (ints ((s.data.toList.drop at_).take m)) x), ⟨#[]⟩⟩]) ((at_ + m : Nat) : Int)) out → Ev (fun k => shelfmarkref03_Cut.l1 k s l (at_ : Int) x (i : Int)) out) := by
  intro m
  induction m with
  | zero =>
    intro i at_ x hi hat hx0 hx1
    obtain rfl : i = 8 := by omega
    refine ⟨fun h => by omega, fun _ out h => ?_⟩
    refine Ev.step (fun _ => shelfmarkref03_Cut.l1.eq_2 ..) (Ev.congr (fun k => ?_) h)
    rw [if_neg (by decide), if_pos (by omega)]
    have e8 : (256 : Int) ^ 8 = 18446744073709551616 := by decide
    have hx2 : x < 18446744073709551616 := by rw [e8] at hx1; exact hx1
    have e : beInt (be (ints ((s.data.toList.drop at_).take 0)) x) = wrap64 (IntKind.u64.wrap (x - 9223372036854775808)) := by
      rw [List.take_zero]
      show beInt x = _
      unfold beInt
      rw [bits_top x hx0 hx2, wrap_u64]
      congr 1
      omega
    rw [e]
    rfl
  | succ m ih =>
    intro i at_ x hi hat hx0 hx1
    by_cases hend : s.size ≤ at_
    · refine ⟨fun _ => ?_, fun h => by omega⟩
      refine Ev.step (fun _ => shelfmarkref03_Cut.l1.eq_2 ..) (Ev.congr (fun k => ?_) (Ev.now _))
      rw [if_pos (by omega), if_pos (by omega)]
    · obtain ⟨d1, d2⟩ := bt_drop s at_ (by omega)
      obtain ⟨c, hc⟩ : ∃ c, c = (s[at_]'(by omega)) := ⟨_, rfl⟩
      rw [← hc] at d1 d2
      have hc1 := UInt8.toNat_lt c
      have hp : (256 : Int) ^ (i + 1) = 256 ^ i * 256 := Int.pow_succ ..
      have hle : (256 : Int) ^ i ≤ 72057594037927936 := by
        have : (256 : Int) ^ i ≤ 256 ^ 7 := by
          rcases (show i = 0 ∨ i = 1 ∨ i = 2 ∨ i = 3 ∨ i = 4 ∨ i = 5 ∨ i = 6 ∨ i = 7 by omega) with rfl | rfl | rfl | rfl | rfl | rfl | rfl | rfl <;> decide
        exact Int.le_trans this (by decide)
      have hx2 : x * 256 + (c.toNat : Int) < 256 ^ (i + 1) := by rw [hp]; omega
      have ih2 := ih (i + 1) (at_ + 1) (x * 256 + (c.toNat : Int)) (by omega) (by omega) (by omega) hx2
      have hstep : ∀ out, Ev (fun k => shelfmarkref03_Cut.l1 k s l ((at_ + 1 : Nat) : Int) (x * 256 + (c.toNat : Int)) ((i + 1 : Nat) : Int)) out → Ev (fun k => shelfmarkref03_Cut.l1 k s l (at_ : Int) x (i : Int)) out := by
        intro out h
        refine Ev.step (fun _ => shelfmarkref03_Cut.l1.eq_2 ..) (Ev.congr (fun k => ?_) h)
        rw [if_pos (by omega), if_neg (by omega), if_pos (by omega), if_pos (by omega), d2, nx1 (by omega), nx1 (by omega)]
        congr 1
        rw [wrap_u64, wrap_u64, wrap_u64]
        omega
      refine ⟨fun h => hstep _ (ih2.1 (by omega)), fun h out k => hstep _ (ih2.2 (by omega) out ?_)⟩
      have e : be (ints ((s.data.toList.drop at_).take (m + 1))) x = be (ints ((s.data.toList.drop (at_ + 1)).take m)) (x * 256 + (c.toNat : Int)) := by
        rw [d1, List.take_succ_cons]
        rfl
      rw [← e, show at_ + 1 + m = at_ + (m + 1) by omega]
      exact k
theorem extract_data (s : ByteArray) (i : Nat) : (s.extract i s.size).data.toList = s.data.toList.drop i := by
  have h := data_length s
  rw [ByteArray.data_extract, Array.toList_extract]
  simp [List.extract]
  exact List.take_of_length_le (by rw [List.length_drop]; omega)
theorem extract_extract (s : ByteArray) (i j : Nat) (h : i + j ≤ s.size) : (s.extract i s.size).extract j (s.extract i s.size).size = s.extract (i + j) s.size := by
  apply ByteArray.ext
  apply Array.toList_inj.1
  rw [extract_data, extract_data, extract_data, List.drop_drop]
theorem num_bytes (cs : List UInt8) (h : cs.length = 8) : beNum (ints cs) = be (ints cs) 0 := by
  unfold beNum
  exact num_be (ints cs) 0 (fun c hc => by
    unfold ints at hc
    rw [List.mem_map] at hc
    obtain ⟨b, _, rfl⟩ := hc
    have := UInt8.toNat_lt b
    omega) (Int.le_refl _) (by unfold ints; rw [List.length_map]; omega) (by unfold ints; rw [List.length_map, h]; decide)
theorem bytesOf_ints (s : ByteArray) : bytesOf s = ints s.data.toList := rfl
theorem refcut_l0 (s : ByteArray) (hs : s.size ≤ 140737488351232) : ∀ (m at_ : Nat) (l : List S105), l.length + m = 4 → at_ ≤ s.size → Ev (fun k => shelfmarkref03_Cut.l0 k s l (at_ : Int)) (cutF m (s.extract at_ s.size) l) := by
  have enter : ∀ (at_ : Nat) (l : List S105) (r : List S105 × ByteArray × Int), at_ ≤ s.size → (stops (s.extract at_ s.size) = true → r = (l, s.extract at_ s.size, 0)) → (∀ c t, s.data.toList.drop at_ = c :: t → c ≠ 0 → Ev (fun k => shelfmarkref03_Cut.j1 k s l (at_ : Int) true) r) → Ev (fun k => shelfmarkref03_Cut.l0 k s l (at_ : Int)) r := by
    intro at_ l r hat h1 h2
    have hstop : stops (s.extract at_ s.size) = true → Ev (fun k => shelfmarkref03_Cut.j1 k s l (at_ : Int) false) r := by
      intro h
      rw [h1 h]
      refine Ev.step (fun _ => shelfmarkref03_Cut.j1.eq_2 ..) (Ev.congr (fun k => ?_) (Ev.now _))
      rw [if_neg (by decide), if_pos (by omega), if_pos (by omega), Int.toNat_natCast]
    rcases hd : s.data.toList.drop at_ with _ | ⟨c, t⟩
    · have hend := data_end hd
      refine Ev.step (fun _ => shelfmarkref03_Cut.l0.eq_2 ..) (Ev.congr (fun k => if_neg (by omega)) (hstop ?_))
      unfold stops
      rw [extract_data, hd]
    · obtain ⟨hlt, hb, _⟩ := data_at hd
      by_cases hc : c = 0
      · refine Ev.step (fun _ => shelfmarkref03_Cut.l0.eq_2 ..) (Ev.congr (fun k => ?_) (hstop ?_))
        · rw [if_pos (by omega), if_pos (by omega), hb, hc]; rfl
        · unfold stops
          rw [extract_data, hd, hc]; rfl
      · refine Ev.step (fun _ => shelfmarkref03_Cut.l0.eq_2 ..) (Ev.congr (fun k => ?_) (h2 c t hd hc))
        rw [if_pos (by omega), if_pos (by omega), hb]
        congr 1
        rw [bne_iff_ne]
        intro e
        exact hc (by apply UInt8.toNat_inj.1; show _ = 0; omega)
  intro m
  induction m with
  | zero =>
    intro at_ l hl hat
    refine enter at_ l _ hat (fun h => by unfold cutF; rw [if_pos h]) (fun c t hd hc => ?_)
    have hns : stops (s.extract at_ s.size) = false := by
      unfold stops
      rw [extract_data, hd]
      simpa using hc
    unfold cutF
    rw [if_neg (by rw [hns]; decide)]
    refine Ev.step (fun _ => shelfmarkref03_Cut.j1.eq_2 ..) (Ev.congr (fun k => ?_) (Ev.now _))
    rw [if_pos rfl, if_pos (by omega)]
  | succ m ih =>
    intro at_ l hl hat
    refine enter at_ l _ hat (fun h => by unfold cutF; rw [if_pos h]) (fun c t hd hc => ?_)
    have hns : stops (s.extract at_ s.size) = false := by
      unfold stops
      rw [extract_data, hd]
      simpa using hc
    obtain ⟨hlt, hb, ht⟩ := data_at hd
    have hone : oneS (s.extract at_ s.size) (c :: t) = some (oneR (s.extract at_ s.size)) := by
      unfold oneR
      rw [extract_data, hd, oneS]
      rfl
    have hbase : ∀ r : Nat, at_ + r ≤ s.size → s.extract (at_ + r) s.size = (s.extract at_ s.size).extract r (s.extract at_ s.size).size := fun r h => (extract_extract s at_ r h).symm
    have hsz : (s.extract at_ s.size).size = s.size - at_ := by rw [ByteArray.size_extract]; omega
    obtain ⟨R, hR⟩ : ∃ R, R = oneR (s.extract at_ s.size) := ⟨_, rfl⟩
    rw [cutF, if_neg (by rw [hns]; decide), ← hR]
    rw [← hR, oneS] at hone
    have hone2 := (Option.some.inj hone).symm
    have hstep : ∀ out, (∀ k, (if (bt s (at_ : Int)) = 1 then (if l.length < 4398046511104 then (shelfmarkref03_Cut.l0 k s (l ++ [(⟨0, 0, (⟨#[]⟩ : ByteArray)⟩ : S105)]) (wrap64 ((at_ : Int) + 1))) else (none)) else (if (bt s (at_ : Int)) = 2 then (shelfmarkref03_Cut.l1 k s l (wrap64 ((at_ : Int) + 1)) 0 0) else (if (bt s (at_ : Int)) = 3 then (shelfmarkref03_Cut.l2 k s l (wrap64 ((at_ : Int) + 1)) (([] : List Int))) else (some (([] : List S105), (⟨#[]⟩ : ByteArray), 3))))) = out k) → ∀ r, Ev out r → Ev (fun k => shelfmarkref03_Cut.j1 k s l (at_ : Int) true) r := by
      intro out h r hr
      refine Ev.step (fun _ => shelfmarkref03_Cut.j1.eq_2 ..) (Ev.congr (fun k => ?_) hr)
      rw [if_pos rfl, if_neg (by omega), if_pos (by omega), if_pos (by omega)]
      exact h k
    by_cases c1 : c = 1
    · have hb1 : bt s (at_ : Int) = 1 := by rw [hb, c1]; rfl
      rw [if_pos c1] at hone2
      rw [hone2]
      have h2 := ih (at_ + 1) (l ++ [⟨0, 0, ByteArray.empty⟩]) (by rw [List.length_append, List.length_singleton]; omega) (by omega)
      rw [hbase 1 (by omega)] at h2
      refine hstep _ (fun k => ?_) _ h2
      rw [if_pos hb1, if_pos (by omega), nx1 (by omega)]
      rfl
    · rw [if_neg c1] at hone2
      have hb1 : ¬ bt s (at_ : Int) = 1 := by rw [hb]; intro e; exact c1 (by apply UInt8.toNat_inj.1; show _ = 1; omega)
      by_cases c2 : c = 2
      · have hb2 : bt s (at_ : Int) = 2 := by rw [hb, c2]; rfl
        rw [if_pos c2] at hone2
        have hnum := ref_num s hs l (by omega) 8 0 (at_ + 1) 0 (by omega) (by omega) (Int.le_refl _) (by decide)
        by_cases hshort : (s.extract at_ s.size).size < 9
        · rw [if_pos hshort] at hone2
          rw [hone2, if_neg (by decide)]
          refine hstep _ (fun k => ?_) _ (hnum.1 (by omega))
          rw [if_neg hb1, if_pos hb2, nx1 (by omega)]
          rfl
        · rw [if_neg hshort] at hone2
          rw [hone2, if_pos rfl]
          have e8 : beInt (beNum (bytesOf ((s.extract at_ s.size).extract 1 9))) = beInt (be (ints ((s.data.toList.drop (at_ + 1)).take 8)) 0) := by
            have e9 : bytesOf ((s.extract at_ s.size).extract 1 9) = ints ((s.data.toList.drop (at_ + 1)).take 8) := by
              rw [bytesOf_ints, ByteArray.data_extract, Array.toList_extract, extract_data]
              simp only [List.extract_eq_take_drop, List.drop_drop]
            rw [e9, num_bytes _ (by rw [List.length_take, List.length_drop, data_length]; omega)]
          have h2 := ih (at_ + 9) (l ++ [⟨1, beInt (beNum (bytesOf ((s.extract at_ s.size).extract 1 9))), ByteArray.empty⟩]) (by rw [List.length_append, List.length_singleton]; omega) (by omega)
          rw [hbase 9 (by omega), e8] at h2
          rw [e8]
          refine hstep _ (fun k => ?_) _ (hnum.2 (by omega) _ h2)
          rw [if_neg hb1, if_pos hb2, nx1 (by omega)]
          rfl
      · rw [if_neg c2] at hone2
        have hb2 : ¬ bt s (at_ : Int) = 2 := by rw [hb]; intro e; exact c2 (by apply UInt8.toNat_inj.1; show _ = 2; omega)
        by_cases c3 : c = 3
        · have hb3 : bt s (at_ : Int) = 3 := by rw [hb, c3]; rfl
          rw [if_pos c3, extract_data, List.drop_drop] at hone2
          have htxt := ref_text s hs l (by omega) at_ (s.size - (at_ + 1)) 1 [] (Nat.le_refl _) (by simp) (by omega)
          rw [← hone2] at htxt
          have hgo : ∀ out, Ev (fun k => shelfmarkref03_Cut.l2 k s l ((at_ + 1 : Nat) : Int) (ints [])) out → Ev (fun k => shelfmarkref03_Cut.j1 k s l (at_ : Int) true) out := by
            intro out h
            refine hstep _ (fun k => ?_) _ h
            rw [if_neg hb1, if_neg hb2, if_pos hb3, nx1 (by omega)]
            rfl
          by_cases he : R.2.2.2.2 = 0
          · rw [if_pos he]
            have hg : textS (s.data.toList.drop (at_ + 1)) [] 1 = (R.1, R.2.1, R.2.2.1, R.2.2.2.1, 0) := by rw [← hone2, ← he]
            obtain ⟨tt, rest, e1, _, _, _, e5, _⟩ := text_got _ _ _ _ _ _ _ hg
            have hlen : at_ + (1 + (turn tt).length + 2) ≤ s.size := by
              have := congrArg List.length e1
              rw [List.length_drop, data_length, List.length_append, List.length_cons, List.length_cons] at this
              omega
            have h2 := ih (at_ + (1 + (turn tt).length + 2)) (l ++ [⟨R.1, R.2.1, R.2.2.1⟩]) (by rw [List.length_append, List.length_singleton]; omega) hlen
            rw [hbase _ hlen] at h2
            rw [e5, Int.toNat_natCast]
            refine hgo _ (htxt.2 he _ ?_)
            rw [e5, show (at_ : Int) + ((1 + (turn tt).length + 2 : Nat) : Int) = ((at_ + (1 + (turn tt).length + 2) : Nat) : Int) by omega]
            exact h2
          · rw [if_neg he]
            exact hgo _ (htxt.1 he)
        · rw [if_neg c3] at hone2
          have hb3 : ¬ bt s (at_ : Int) = 3 := by rw [hb]; intro e; exact c3 (by apply UInt8.toNat_inj.1; show _ = 3; omega)
          rw [hone2, if_neg (by decide)]
          refine hstep _ (fun k => ?_) _ (Ev.now _)
          rw [if_neg hb1, if_neg hb2, if_neg hb3]
theorem refcut_ev (s : ByteArray) (hs : s.size ≤ 140737488351232) : Ev (fun k => shelfmarkref03_Cut.f k s) (cutF 4 s []) := by
  have h := refcut_l0 s hs 4 0 [] rfl (Nat.zero_le _)
  rwa [show s.extract 0 s.size = s by apply ByteArray.ext; apply Array.toList_inj.1; rw [extract_data, List.drop_zero]] at h
end Go.Proofs.Ytdaikljbljcagaa.Cu
namespace Go.Proofs.Ytdaikljbljcagaa.Cp
open Go.RowKit Go.Proofs.Ytdaikljbljcagaa.PAll Go.Proofs.YtdaikljbljcagaaW.PrintWords Go.Proofs.YtdaikljbljcagaaW.PrintLast Go.Proofs.Ytdaikljbljcagaa.Hl Go.Proofs.Ytdaikljbljcagaa.Cu
set_option linter.unusedSimpArgs false
set_option linter.unusedVariables false
theorem rdV_get (l : List S105) (i : Nat) (h : i < l.length) : rd_T105 l (i : Int) = l[i] := by
  unfold rd_T105
  rw [Int.toNat_natCast, List.getD_eq_getElem?_getD, List.getElem?_eq_getElem h]; rfl
def nullIn (l : List S105) : Bool := l.any (fun v => v.f0 == 0)
theorem null_l0 (l : List S105) (hl : l.length < 1000000) : ∀ (s i : Nat), l.length - i ≤ s → i ≤ l.length → ∃ r : Int, Ev (fun k => slices_IndexFunc_api_Val_api_Val_at_record_null.l0 k l (l.length : Int) (i : Int)) r ∧ (decide (r ≥ 0) = nullIn (l.drop i)) := by
  intro s
  induction s with
  | zero =>
    intro i hs hi
    obtain rfl : i = l.length := by omega
    refine ⟨-1, Ev.step (fun _ => slices_IndexFunc_api_Val_api_Val_at_record_null.l0.eq_2 ..) (Ev.congr (fun k => if_neg (by omega)) (Ev.now _)), ?_⟩
    rw [List.drop_length]; rfl
  | succ s ih =>
    intro i hs hi
    by_cases hlt : i < l.length
    · rw [List.drop_eq_getElem_cons hlt]
      by_cases h : l[i].f0 = 0
      · refine ⟨(i : Int), Ev.step (fun _ => slices_IndexFunc_api_Val_api_Val_at_record_null.l0.eq_2 ..) (Ev.congr (fun k => ?_) (Ev.now _)), ?_⟩
        · rw [if_pos (by omega), if_pos (by omega), if_pos (by omega), rdV_get l i hlt]
          show (record_null.f _ _ _).bind _ = _
          rw [show record_null.f l[i].f0 l[i].f1 l[i].f2 = some true by unfold record_null.f; rw [h]; rfl, Option.bind_some, if_pos rfl]
        · rw [show nullIn (l[i] :: l.drop (i + 1)) = true by unfold nullIn; rw [List.any_cons, h]; rfl]
          exact decide_eq_true (by omega)
      · obtain ⟨r, h1, h2⟩ := ih (i + 1) (by omega) (by omega)
        refine ⟨r, Ev.step (fun _ => slices_IndexFunc_api_Val_api_Val_at_record_null.l0.eq_2 ..) (Ev.congr (fun k => ?_) h1), ?_⟩
        · rw [if_pos (by omega), if_pos (by omega), if_pos (by omega), rdV_get l i hlt]
          show (record_null.f _ _ _).bind _ = _
          rw [show record_null.f l[i].f0 l[i].f1 l[i].f2 = some false by unfold record_null.f; rw [beq_eq_false_iff_ne.2 h], Option.bind_some, if_neg (by decide), nx1 (by omega)]
        · rw [h2, show nullIn (l[i] :: l.drop (i + 1)) = nullIn (l.drop (i + 1)) by unfold nullIn; rw [List.any_cons, beq_eq_false_iff_ne.2 h, Bool.false_or]]
    · obtain rfl : i = l.length := by omega
      refine ⟨-1, Ev.step (fun _ => slices_IndexFunc_api_Val_api_Val_at_record_null.l0.eq_2 ..) (Ev.congr (fun k => if_neg (by omega)) (Ev.now _)), ?_⟩
      rw [List.drop_length]; rfl
theorem null_ev (l : List S105) (hl : l.length < 1000000) : Ev (fun k => slices_ContainsFunc_api_Val_api_Val_at_record_null.f k l) (nullIn l) := by
  obtain ⟨r, h1, h2⟩ := null_l0 l hl l.length 0 (by omega) (by omega)
  rw [List.drop_zero] at h2
  unfold slices_ContainsFunc_api_Val_api_Val_at_record_null.f
  refine Ev.bind h1 ?_
  rw [← h2]
  exact Ev.now _
theorem full_l0 (l : List S105) (hl : l.length < 1000000) : ∀ (s i : Nat), l.length - i ≤ s → i ≤ l.length → Ev (fun k => shelfmarkref04_full.l0 k l (i : Int)) (!nullIn (l.drop i)) := by
  intro s
  induction s with
  | zero =>
    intro i hs hi
    obtain rfl : i = l.length := by omega
    rw [List.drop_length]
    exact Ev.step (fun _ => shelfmarkref04_full.l0.eq_2 ..) (Ev.congr (fun k => if_neg (by omega)) (Ev.now _))
  | succ s ih =>
    intro i hs hi
    by_cases hlt : i < l.length
    · rw [List.drop_eq_getElem_cons hlt]
      by_cases h : l[i].f0 = 0
      · rw [show nullIn (l[i] :: l.drop (i + 1)) = true by unfold nullIn; rw [List.any_cons, h]; rfl]
        refine Ev.step (fun _ => shelfmarkref04_full.l0.eq_2 ..) (Ev.congr (fun k => ?_) (Ev.now _))
        rw [if_pos (by omega), if_pos (by omega), rdV_get l i hlt, if_pos h]; rfl
      · rw [show nullIn (l[i] :: l.drop (i + 1)) = nullIn (l.drop (i + 1)) by unfold nullIn; rw [List.any_cons, beq_eq_false_iff_ne.2 h, Bool.false_or]]
        refine Ev.step (fun _ => shelfmarkref04_full.l0.eq_2 ..) (Ev.congr (fun k => ?_) (ih (i + 1) (by omega) (by omega)))
        rw [if_pos (by omega), if_pos (by omega), rdV_get l i hlt, if_neg h, nx1 (by omega)]
    · obtain rfl : i = l.length := by omega
      rw [List.drop_length]
      exact Ev.step (fun _ => shelfmarkref04_full.l0.eq_2 ..) (Ev.congr (fun k => if_neg (by omega)) (Ev.now _))
theorem full_ev (l : List S105) (hl : l.length < 1000000) : Ev (fun k => shelfmarkref04_full.f k l) (!nullIn l) := by
  have := full_l0 l hl l.length 0 (by omega) (by omega)
  rwa [List.drop_zero] at this
theorem cutF_len : ∀ (m : Nat) (s : ByteArray) (l : List S105), (cutF m s l).1.length ≤ l.length + m
  | 0, s, l => by unfold cutF; split <;> simp
  | m + 1, s, l => by
    unfold cutF
    split
    · simp
    · split
      · have := cutF_len m (s.extract (oneR s).2.2.2.1.toNat s.size) (l ++ [⟨(oneR s).1, (oneR s).2.1, (oneR s).2.2.1⟩])
        rw [List.length_append, List.length_singleton] at this
        omega
      · simp
/-- What Parse answers. -/
def keyB (s : ByteArray) : Bool := decide (1 ≤ s.size) && decide (s.size ≤ 16)
def badT (x : List S105 × ByteArray × Int) : Bool := decide (x.1.length < 1) || (decide (2 < x.1.length) || (nullIn x.1 || (decide (x.2.1.toList = ([] : List UInt8)) || !keyB (x.2.1.extract 1 x.2.1.size))))
def parseT (b1 : Int) (x : List S105 × ByteArray × Int) : Int × List S105 × ByteArray × Int :=
  if x.2.2 = 0 then (if badT x = true then (0, [], ⟨#[]⟩, 3) else (b1, x.1, x.2.1.extract 1 x.2.1.size, 0)) else (0, [], ⟨#[]⟩, x.2.2)
def parseR (s : ByteArray) : Int × List S105 × ByteArray × Int :=
  if s.size < 2 then (0, [], ⟨#[]⟩, 2) else if bt s 0 = 0 ∧ 1 ≤ bt s 1 ∧ bt s 1 ≤ 6 then parseT (bt s 1) (cutF 4 (s.extract 2 s.size) []) else (0, [], ⟨#[]⟩, 3)
theorem id_eq (s : ByteArray) : Go.bits .or .i64 (wrap64 ((wrap64 (bt s 0)) * 256)) (wrap64 (bt s 1)) = bt s 0 * 256 + bt s 1 := by
  have h0 := bt_range s 0
  have h1 := bt_range s 1
  rw [w64c (x := bt s 0) (by omega) (by omega), w64c (x := bt s 1) (by omega) (by omega), w64c (by omega) (by omega)]
  exact bits_join .i64 16 (by decide) (fun n h0 h1 => (i64_w n).trans (Go.IntWalk.wrap64_in _ (by simp at h1; omega))) 8 (bt s 0 * 256) (bt s 1) (by omega) (by simp) (by simp; omega) h1.1 (by simp; omega) (by simp; omega)
theorem keyB_code (s : ByteArray) : record_Key.f s = some (keyB s) := by
  unfold record_Key.f keyB
  by_cases h : 1 ≤ s.size
  · rw [if_pos (by omega), decide_eq_true h, Bool.true_and]
    congr 1
    by_cases h2 : s.size ≤ 16
    · rw [decide_eq_true h2, decide_eq_true (by omega)]
    · rw [decide_eq_false h2, decide_eq_false (by omega)]
  · rw [if_neg (by omega), decide_eq_false h, Bool.false_and]
theorem keyB_ref (s : ByteArray) : shelfmarkref04_Key.f s = some (keyB s) := by
  unfold shelfmarkref04_Key.f keyB
  by_cases h : 1 ≤ s.size
  · rw [if_pos (by omega), decide_eq_true h, Bool.true_and]
    congr 1
    by_cases h2 : s.size ≤ 16
    · rw [decide_eq_true h2, decide_eq_true (by omega)]
    · rw [decide_eq_false h2, decide_eq_false (by omega)]
  · rw [if_neg (by omega), decide_eq_false h, Bool.false_and]
theorem ne_size {s : ByteArray} (h : ¬ s.toList = ([] : List UInt8)) : 1 ≤ s.size := by
  rcases Nat.eq_zero_or_pos s.size with h0 | h0
  · exact absurd (by rw [Lib.toList_data]; exact List.eq_nil_of_length_eq_zero (by rw [data_length]; exact h0)) h
  · exact h0
theorem parse_ev (s : ByteArray) (hs : s.size ≤ 140737488351232) : Ev (fun k => record_Parse.f k s) (parseR s) := by
  unfold record_Parse.f parseR
  by_cases h2 : s.size < 2
  · rw [if_pos h2]
    exact Ev.congr (fun k => if_pos (by omega)) (Ev.now _)
  · rw [if_neg h2]
    have h0 := bt_range s 0
    have h1 := bt_range s 1
    refine Ev.congr (fun k => by rw [if_neg (by omega), if_pos (by omega), if_pos (by omega), id_eq]) ?_
    have hnum : record_number.f (bt s 0 * 256 + bt s 1) = some (decide (bt s 0 = 0 ∧ 1 ≤ bt s 1 ∧ bt s 1 ≤ 6)) := by
      unfold record_number.f
      by_cases h : bt s 0 = 0 ∧ 1 ≤ bt s 1 ∧ bt s 1 ≤ 6
      · rw [if_pos (by omega), decide_eq_true h, decide_eq_true (by omega)]
      · rw [decide_eq_false h]
        split
        · rw [decide_eq_false (by omega)]
        · rfl
    refine Ev.congr (fun k => by rw [hnum, Option.bind_some]) ?_
    by_cases h : bt s 0 = 0 ∧ 1 ≤ bt s 1 ∧ bt s 1 ≤ 6
    · rw [if_pos h]
      refine Ev.congr (fun k => by rw [if_pos (decide_eq_true h), if_pos (by omega)]) ?_
      obtain ⟨x, hx⟩ : ∃ x, x = cutF 4 (s.extract 2 s.size) [] := ⟨_, rfl⟩
      have hc := cut_ev (s.extract 2 s.size) (by rw [ByteArray.size_extract]; omega)
      have hl : x.1.length ≤ 4 := by rw [hx]; have := cutF_len 4 (s.extract 2 s.size) []; simpa using this
      rw [← hx] at hc ⊢
      refine Ev.bind hc ?_
      unfold parseT
      by_cases he : x.2.2 = 0
      · rw [if_pos he]
        refine Ev.congr (fun k => if_pos he) ?_
        by_cases l0 : x.1.length < 1
        · rw [if_pos (show badT x = true by unfold badT; rw [decide_eq_true l0]; rfl)]
          exact Ev.congr (fun k => if_pos (by omega)) (Ev.now _)
        · refine Ev.congr (fun k => if_neg (by omega)) ?_
          by_cases l1 : 2 < x.1.length
          · rw [if_pos (show badT x = true by unfold badT; rw [decide_eq_true l1, decide_eq_false l0]; rfl)]
            exact Ev.congr (fun k => if_pos (by omega)) (Ev.now _)
          · refine Ev.congr (fun k => if_neg (by omega)) ?_
            refine Ev.bind (null_ev x.1 (by omega)) ?_
            by_cases l2 : nullIn x.1 = true
            · rw [if_pos (show badT x = true by unfold badT; rw [l2]; simp)]
              exact Ev.congr (fun k => if_pos l2) (Ev.now _)
            · refine Ev.congr (fun k => if_neg l2) ?_
              by_cases l3 : x.2.1.toList = ([] : List UInt8)
              · rw [if_pos (show badT x = true by unfold badT; rw [decide_eq_true l3]; simp)]
                exact Ev.congr (fun k => if_pos l3) (Ev.now _)
              · have := ne_size l3
                refine Ev.congr (fun k => by rw [if_neg l3, if_pos (by omega), keyB_code, Option.bind_some]) ?_
                by_cases l4 : keyB (x.2.1.extract 1 x.2.1.size) = false
                · rw [if_pos (show badT x = true by unfold badT; rw [l4]; simp)]
                  exact Ev.congr (fun k => if_neg (by rw [l4]; decide)) (Ev.now _)
                · rw [if_neg (show ¬ badT x = true by unfold badT; rw [decide_eq_false l0, decide_eq_false l1, decide_eq_false l3]; simp at l2 l4 ⊢; exact ⟨l2, l4⟩)]
                  refine Ev.congr (fun k => if_pos (by simpa using l4)) ?_
                  rw [show bt s 0 * 256 + bt s 1 = bt s 1 by omega]
                  exact Ev.now _
      · rw [if_neg he]
        exact Ev.congr (fun k => if_neg he) (Ev.now _)
    · rw [if_neg h]
      exact Ev.congr (fun k => if_neg (by rw [decide_eq_false h]; decide)) (Ev.now _)
theorem refparse_ev (s : ByteArray) (hs : s.size ≤ 140737488351232) : Ev (fun k => shelfmarkref04_Parse.f k s) (parseR s) := by
  unfold shelfmarkref04_Parse.f parseR
  have hbad : Ev (fun k => shelfmarkref04_Parse.j0 k s true) (0, [], ⟨#[]⟩, 3) := Ev.step (fun _ => shelfmarkref04_Parse.j0.eq_2 ..) (Ev.congr (fun k => if_pos rfl) (Ev.now _))
  by_cases h2 : s.size < 2
  · rw [if_pos h2]
    exact Ev.congr (fun k => if_pos (by omega)) (Ev.now _)
  · rw [if_neg h2]
    have h0 := bt_range s 0
    have h1 := bt_range s 1
    refine Ev.congr (fun k => by rw [if_neg (by omega), if_pos (by omega)]) ?_
    by_cases c0 : bt s 0 = 0
    · refine Ev.congr (fun k => by rw [if_pos c0, if_pos (by omega)]) ?_
      by_cases c1 : bt s 1 < 1
      · rw [if_neg (by omega)]
        exact Ev.congr (fun k => if_pos c1) hbad
      · refine Ev.congr (fun k => if_neg c1) ?_
        by_cases c2 : bt s 1 > 6
        · rw [if_neg (by omega), decide_eq_true c2]
          exact hbad
        · rw [if_pos (by omega), decide_eq_false c2]
          refine Ev.step (fun _ => shelfmarkref04_Parse.j0.eq_2 ..) (Ev.congr (fun k => by rw [if_neg (by decide), if_pos (by omega)]) ?_)
          obtain ⟨x, hx⟩ : ∃ x, x = cutF 4 (s.extract 2 s.size) [] := ⟨_, rfl⟩
          have hc := refcut_ev (s.extract 2 s.size) (by rw [ByteArray.size_extract]; omega)
          have hl : x.1.length ≤ 4 := by rw [hx]; have := cutF_len 4 (s.extract 2 s.size) []; simpa using this
          rw [← hx] at hc ⊢
          refine Ev.bind hc ?_
          unfold parseT
          by_cases he : x.2.2 = 0
          · rw [if_pos he]
            refine Ev.congr (fun k => if_pos he) ?_
            by_cases l0 : x.1.length < 1
            · rw [if_pos (show badT x = true by unfold badT; rw [decide_eq_true l0]; rfl)]
              exact Ev.congr (fun k => if_pos (by omega)) (Ev.now _)
            · refine Ev.congr (fun k => if_neg (by omega)) ?_
              by_cases l1 : 2 < x.1.length
              · rw [if_pos (show badT x = true by unfold badT; rw [decide_eq_true l1, decide_eq_false l0]; rfl)]
                exact Ev.congr (fun k => if_pos (by omega)) (Ev.now _)
              · refine Ev.congr (fun k => if_neg (by omega)) ?_
                refine Ev.bind (full_ev x.1 (by omega)) ?_
                by_cases l2 : nullIn x.1 = true
                · rw [if_pos (show badT x = true by unfold badT; rw [l2]; simp)]
                  exact Ev.congr (fun k => if_neg (by rw [l2]; decide)) (Ev.now _)
                · refine Ev.congr (fun k => if_pos (by simpa using l2)) ?_
                  by_cases l3 : x.2.1.toList = ([] : List UInt8)
                  · rw [if_pos (show badT x = true by unfold badT; rw [decide_eq_true l3]; simp)]
                    exact Ev.congr (fun k => if_pos l3) (Ev.now _)
                  · have := ne_size l3
                    refine Ev.congr (fun k => by rw [if_neg l3, if_pos (by omega), keyB_ref, Option.bind_some]) ?_
                    by_cases l4 : keyB (x.2.1.extract 1 x.2.1.size) = false
                    · rw [if_pos (show badT x = true by unfold badT; rw [l4]; simp)]
                      exact Ev.congr (fun k => if_neg (by rw [l4]; decide)) (Ev.now _)
                    · rw [if_neg (show ¬ badT x = true by unfold badT; rw [decide_eq_false l0, decide_eq_false l1, decide_eq_false l3]; simp at l2 l4 ⊢; exact ⟨l2, l4⟩)]
                      refine Ev.congr (fun k => by rw [if_pos (by simpa using l4), if_pos (by omega), w64c (by omega) (by omega)]) (Ev.now _)
          · rw [if_neg he]
            exact Ev.congr (fun k => if_neg he) (Ev.now _)
    · rw [if_neg (fun h => c0 h.1)]
      exact Ev.congr (fun k => if_neg c0) hbad
end Go.Proofs.Ytdaikljbljcagaa.Cp
namespace Go.Proofs.Ytdaikljbljcagaa.Uj
open Go.RowKit Go.Proofs.Ytdaikljbljcagaa.Na Go.Proofs.Ytdaikljbljcagaa.Pn Go.Proofs.Ytdaikljbljcagaa.Pq Go.Proofs.Ytdaikljbljcagaa.PAll Go.Proofs.YtdaikljbljcagaaW.PrintWords Go.Proofs.YtdaikljbljcagaaW.PrintLast Go.Proofs.Ytdaikljbljcagaa.Ma Go.Proofs.Ytdaikljbljcagaa.Mc Go.Proofs.Ytdaikljbljcagaa.Me Go.Proofs.Ytdaikljbljcagaa.Mf Go.Proofs.Ytdaikljbljcagaa.Mi Go.Proofs.Ytdaikljbljcagaa.Mk Go.Proofs.Ytdaikljbljcagaa.Ml Go.Proofs.Ytdaikljbljcagaa.Mp Go.Proofs.Ytdaikljbljcagaa.Ms Go.Proofs.Ytdaikljbljcagaa.Pv Go.Proofs.Ytdaikljbljcagaa.Cp
set_option linter.unusedSimpArgs false
set_option linter.unusedVariables false
theorem bytes_eq {a b : ByteArray} : a.toList = b.toList ↔ a = b := by
  constructor
  · intro h
    rw [Lib.toList_data, Lib.toList_data] at h
    exact ByteArray.ext (Array.toList_inj.1 h)
  · rintro rfl; rfl
theorem namedIn_iff2 (l : List S29) (x : S29) : namedIn l x = true ↔ ∃ y ∈ l, y.f0 = x.f0 ∧ y.f1 = x.f1 := by
  unfold namedIn
  rw [List.any_eq_true]
  constructor
  · rintro ⟨y, hy, h⟩
    rw [Bool.and_eq_true, decide_eq_true_eq, decide_eq_true_eq] at h
    exact ⟨y, hy, bytes_eq.1 h.1, h.2⟩
  · rintro ⟨y, hy, h1, h2⟩
    refine ⟨y, hy, ?_⟩
    rw [Bool.and_eq_true, decide_eq_true_eq, decide_eq_true_eq]
    exact ⟨bytes_eq.2 h1, h2⟩
/-- The counts of some names. -/
def Inv (f : ByteArray → Int → Int) (o : List S29) (b : Int) : Prop := ∀ x : S29, 0 ≤ f x.f0 x.f1 ∧ f x.f0 x.f1 ≤ b ∧ (0 < f x.f0 x.f1 ↔ namedIn o x = true)
theorem namedIn_snoc (o : List S29) (y x : S29) : namedIn (o ++ [y]) x = true ↔ namedIn o x = true ∨ (x.f0 = y.f0 ∧ x.f1 = y.f1) := by
  rw [namedIn_iff2, namedIn_iff2]
  constructor
  · rintro ⟨z, hz, h⟩
    rcases List.mem_append.1 hz with hz | hz
    · exact .inl ⟨z, hz, h⟩
    · rw [List.mem_singleton.1 hz] at h
      exact .inr ⟨h.1.symm, h.2.symm⟩
  · rintro (⟨z, hz, h⟩ | h)
    · exact ⟨z, List.mem_append_left _ hz, h⟩
    · exact ⟨y, List.mem_append_right _ (List.mem_singleton.2 rfl), h.1.symm, h.2.symm⟩
theorem Inv.set {f : ByteArray → Int → Int} {o o2 : List S29} {b c : Int} {y : S29} (h : Inv f o b) (hc : 0 < c ∧ c ≤ b + 1) (ho : ∀ x, namedIn o2 x = true ↔ namedIn o x = true ∨ (x.f0 = y.f0 ∧ x.f1 = y.f1)) : Inv (setN f y.f0 y.f1 c) o2 (b + 1) := by
  intro x
  unfold setN
  by_cases hx : x.f0 = y.f0 ∧ x.f1 = y.f1
  · rw [if_pos hx]
    exact ⟨by omega, hc.2, fun _ => (ho x).2 (.inr hx), fun _ => hc.1⟩
  · rw [if_neg hx]
    obtain ⟨h1, h2, h3⟩ := h x
    exact ⟨h1, by omega, by rw [h3, ho]; exact ⟨.inl, fun h => h.resolve_right hx⟩⟩
theorem onceG_new : ∀ (t o : List S29) (f : ByteArray → Int → Int) (b : Int), Inv f o b → b + t.length < 1000000000000 → onceG o t = o ++ newF f t
  | [], o, f, b, _, _ => (List.append_nil o).symm
  | x :: t, o, f, b, h, hb => by
    rw [List.length_cons] at hb
    obtain ⟨h1, h2, h3⟩ := h x
    have hw : wrap64 (f x.f0 x.f1 + 1) = f x.f0 x.f1 + 1 := Pv.w64 (by omega) (by omega)
    show onceG (if namedIn o x = true then o else o ++ [x]) t = o ++ ((if wrap64 (f x.f0 x.f1 + 1) = 1 then [x] else []) ++ newF (setN f x.f0 x.f1 (wrap64 (f x.f0 x.f1 + 1))) t)
    rw [hw]
    by_cases hn : namedIn o x = true
    · have := h3.2 hn
      rw [if_pos hn, if_neg (by omega), List.nil_append]
      exact onceG_new t o _ (b + 1) (h.set (y := x) (by omega) (fun z => ⟨.inl, fun hz => hz.elim id (fun e => by
        rw [namedIn_iff2] at hn ⊢
        obtain ⟨y, hy, e1, e2⟩ := hn
        exact ⟨y, hy, e1.trans e.1.symm, e2.trans e.2.symm⟩)⟩)) (by omega)
    · have : ¬ 0 < f x.f0 x.f1 := fun k => hn (h3.1 k)
      rw [if_neg hn, if_pos (by omega)]
      rw [onceG_new t (o ++ [x]) _ (b + 1) (h.set (y := x) (c := f x.f0 x.f1 + 1) (by omega) (fun z => namedIn_snoc o x z)) (by omega), List.append_assoc]
theorem inv_names (l : List S29) : Inv (namesF l) l (l.length + 1) := by
  have : ∀ (n : Nat) (l : List S29), l.length = n → Inv (namesF l) l (l.length + 1) := by
    intro n
    induction n with
    | zero =>
      intro l h
      obtain rfl := List.eq_nil_of_length_eq_zero h
      intro x
      exact ⟨Int.le_refl _, by show (0 : Int) ≤ _; simp, by simp [namesF, namedIn]⟩
    | succ n ih =>
      intro l h
      rcases List.eq_nil_or_concat l with rfl | ⟨t, y, rfl⟩
      · simp at h
      · rw [List.concat_eq_append] at *
        have ht : t.length = n := by simp at h; omega
        have h1 := (ih t ht).set (y := y) (c := 1) (o2 := t ++ [y]) (by omega) (fun z => namedIn_snoc t y z)
        rw [namesF_snoc]
        intro x
        obtain ⟨k1, k2, k3⟩ := h1 x
        exact ⟨k1, by rw [List.length_append, List.length_singleton]; omega, k3⟩
  exact this _ l rfl
theorem once_new (l m : List S29) (h : l.length + m.length < 1000000000) : onceG l m = l ++ newF (namesF l) m := onceG_new m l _ _ (inv_names l) (by omega)
theorem named_eq (m : List S29) (x : S29) : named m x = namedIn m x := by
  unfold named
  rw [Bool.eq_iff_iff, decide_eq_true_eq]
  exact (inv_names m x).2.2
theorem add_eq (mo : Int) (l m : List S29) (bad : Bool) (h : l.length + m.length < 1000000000) (h0 : 0 ≤ mo) (h1 : mo < 9223372036854775808) : addE mo l m bad = raddE mo l m bad ∧ addL mo l m bad = raddL mo l m bad := by
  have e : addE mo l m bad = raddE mo l m bad := by
    unfold addE raddE
    rw [once_new l m h, Pv.w64 (x := mo - (l.length : Int)) (by omega) (by omega), List.length_append]
    cases bad with
    | true => rfl
    | false =>
      show (if ((newF (namesF l) m).length : Int) > mo - (l.length : Int) then (6 : Int) else 0) = if ((l.length + (newF (namesF l) m).length : Nat) : Int) > mo then 6 else 0
      by_cases hf : ((newF (namesF l) m).length : Int) > mo - (l.length : Int)
      · rw [if_pos hf, if_pos (by omega)]
      · rw [if_neg hf, if_neg (by omega)]
  exact ⟨e, by unfold addL raddL; rw [e, once_new l m h]⟩
/-- An intent's error by its entry. -/
def pe0 (x : S29) : Int := (parseR x.f0).2.2.2
theorem right_ev (x : S29) (hx : x.f0.size ≤ 140737488351232) : Ev (fun k => outbox_right.f k x.f0 x.f1 x.f2) (!badI pe0 x) := by
  unfold outbox_right.f badI
  refine Ev.bind (parse_ev x.f0 hx) ?_
  show Ev (fun k => if pe0 x = 0 then _ else _) _
  by_cases h : pe0 x = 0
  · rw [h]
    refine Ev.congr (fun k => if_pos rfl) ?_
    by_cases h1 : x.f1 < 1
    · rw [decide_eq_true h1]
      exact Ev.congr (fun k => if_neg (by omega)) (Ev.now _)
    · rw [decide_eq_false h1]
      refine Ev.congr (fun k => if_pos (by omega)) ?_
      by_cases h2 : x.f1 > 1099511627776
      · rw [decide_eq_true h2, decide_eq_false (by omega)]; exact Ev.now _
      · rw [decide_eq_false h2, decide_eq_true (by omega)]; exact Ev.now _
  · rw [beq_eq_false_iff_ne.2 h]
    exact Ev.congr (fun k => if_neg h) (Ev.now _)
theorem bad_l0 (l : List S29) (hl : l.length < 4611686018427387904) (hz : ∀ x ∈ l, x.f0.size ≤ 140737488351232) : ∀ (s i : Nat), l.length - i ≤ s → i ≤ l.length → ∃ r : Int, Ev (fun k => slices_IndexFunc_api_Intent_api_Intent_at_outbox_Box_Add_1.l0 k l (l.length : Int) (i : Int)) r ∧ (decide (r ≥ 0) = (l.drop i).any (badI pe0)) := by
  intro s
  induction s with
  | zero =>
    intro i hs hi
    obtain rfl : i = l.length := by omega
    refine ⟨-1, Ev.step (fun _ => slices_IndexFunc_api_Intent_api_Intent_at_outbox_Box_Add_1.l0.eq_2 ..) (Ev.congr (fun k => if_neg (by omega)) (Ev.now _)), ?_⟩
    rw [List.drop_length]; rfl
  | succ s ih =>
    intro i hs hi
    by_cases hlt : i < l.length
    · rw [List.drop_eq_getElem_cons hlt, List.any_cons]
      have hr := right_ev l[i] (hz _ (List.getElem_mem hlt))
      have hc : Ev (fun k => outbox_Box_Add_1.f k l[i].f0 l[i].f1 l[i].f2) (badI pe0 l[i]) := by
        unfold outbox_Box_Add_1.f
        refine Ev.bind hr ?_
        rw [Bool.not_not]
        exact Ev.now _
      by_cases h : badI pe0 l[i] = true
      · rw [h] at hc ⊢
        refine ⟨(i : Int), Ev.step (fun _ => slices_IndexFunc_api_Intent_api_Intent_at_outbox_Box_Add_1.l0.eq_2 ..) (Ev.congr (fun k => by rw [if_pos (by omega), if_pos (by omega), if_pos (by omega), rd_get l i hlt]) (Ev.bind hc ?_)), ?_⟩
        · exact Ev.congr (fun k => if_pos rfl) (Ev.now _)
        · exact decide_eq_true (by omega)
      · replace h : badI pe0 l[i] = false := by simpa using h
        rw [h] at hc ⊢
        obtain ⟨r, h1, h2⟩ := ih (i + 1) (by omega) (by omega)
        refine ⟨r, Ev.step (fun _ => slices_IndexFunc_api_Intent_api_Intent_at_outbox_Box_Add_1.l0.eq_2 ..) (Ev.congr (fun k => by rw [if_pos (by omega), if_pos (by omega), if_pos (by omega), rd_get l i hlt]) (Ev.bind hc ?_)), ?_⟩
        · exact Ev.congr (fun k => by rw [if_neg (by decide), up1 (by omega)]) h1
        · rw [h2, Bool.false_or]
    · obtain rfl : i = l.length := by omega
      refine ⟨-1, Ev.step (fun _ => slices_IndexFunc_api_Intent_api_Intent_at_outbox_Box_Add_1.l0.eq_2 ..) (Ev.congr (fun k => if_neg (by omega)) (Ev.now _)), ?_⟩
      rw [List.drop_length]; rfl
theorem bad_ev (l : List S29) (hl : l.length < 4611686018427387904) (hz : ∀ x ∈ l, x.f0.size ≤ 140737488351232) : Ev (fun k => slices_ContainsFunc_api_Intent_api_Intent_at_outbox_Box_Add_1.f k l) (l.any (badI pe0)) := by
  obtain ⟨r, h1, h2⟩ := bad_l0 l hl hz l.length 0 (by omega) (by omega)
  rw [List.drop_zero] at h2
  unfold slices_ContainsFunc_api_Intent_api_Intent_at_outbox_Box_Add_1.f
  refine Ev.bind h1 ?_
  rw [← h2]
  exact Ev.now _
theorem filter_len (p : S29 → Bool) : ∀ l : List S29, (l.filter p).length + (l.filter (fun x => !p x)).length = l.length
  | [] => rfl
  | x :: l => by
    have := filter_len p l
    by_cases h : p x = true
    · rw [List.filter_cons_of_pos h, List.filter_cons_of_neg (by rw [h]; decide)]
      simp only [List.length_cons]; omega
    · rw [List.filter_cons_of_neg h, List.filter_cons_of_pos (by simpa using h)]
      simp only [List.length_cons]; omega
theorem filter_ext {p q : S29 → Bool} {l : List S29} (h : ∀ x ∈ l, p x = q x) : l.filter p = l.filter q := List.filter_congr h
theorem named_inR (lo hi : ByteArray) (l : List S29) (x : S29) (hx : x ∈ l) : namedIn (l.filter (inR lo hi)) x = inR lo hi x := by
  rw [Bool.eq_iff_iff, namedIn_iff2]
  constructor
  · rintro ⟨y, hy, e, _⟩
    have := (List.mem_filter.1 hy).2
    unfold inR at this ⊢
    rw [← e]; exact this
  · intro h
    exact ⟨x, List.mem_filter.2 ⟨hx, h⟩, rfl, rfl⟩
/-- What an act makes of the intents that wait. -/
def actL (mo : Int) (l : List S29) (a : S45) : List S29 :=
  if a.f0 = 1 then raddL mo l a.f1 (a.f1.any (badI pe0)) else if a.f0 = 2 then l.filter (fun x => !namedIn a.f1 x) else if a.f0 = 5 then l.filter (fun x => !inR a.f3.f0 a.f3.f1 x) else l
theorem raddL_len (mo : Int) (l m : List S29) (bad : Bool) : (raddL mo l m bad).length ≤ l.length + m.length := by
  unfold raddL
  split
  · exact onceG_len l m
  · omega
theorem onceG_mem (x : S29) : ∀ (m l : List S29), x ∈ onceG l m → x ∈ l ∨ x ∈ m
  | [], l, h => .inl h
  | y :: m, l, h => by
    have h2 : x ∈ onceG (if namedIn l y = true then l else l ++ [y]) m := h
    rcases onceG_mem x m _ h2 with h3 | h3
    · split at h3
      · exact .inl h3
      · rcases List.mem_append.1 h3 with h4 | h4
        · exact .inl h4
        · rw [List.mem_singleton.1 h4]; exact .inr List.mem_cons_self
    · exact .inr (List.mem_cons_of_mem _ h3)
theorem actL_len (mo : Int) (l : List S29) (a : S45) : (actL mo l a).length ≤ l.length + a.f1.length := by
  unfold actL
  split
  · exact raddL_len mo l a.f1 _
  · split
    · have := List.length_filter_le (fun x => !namedIn a.f1 x) l; omega
    · split
      · have := List.length_filter_le (fun x => !inR a.f3.f0 a.f3.f1 x) l; omega
      · omega
theorem actL_mem (mo : Int) (l : List S29) (a : S45) (x : S29) (h : x ∈ actL mo l a) : x ∈ l ∨ x ∈ a.f1 := by
  unfold actL at h
  split at h
  · unfold raddL at h
    split at h
    · exact onceG_mem x _ _ h
    · exact .inl h
  · split at h
    · exact .inl (List.mem_filter.1 h).1
    · split at h
      · exact .inl (List.mem_filter.1 h).1
      · exact .inl h
/-- All that both sides tell of an act, at some number of rounds. -/
structure ActOk (k : Nat) (mo : Int) (l : List S29) (a : S45) : Prop where
  bad : slices_ContainsFunc_api_Intent_api_Intent_at_outbox_Box_Add_1.f k a.f1 = some (a.f1.any (badI pe0))
  par : ∀ x ∈ a.f1, ∃ r1 r2 r3, shelfmarkref04_Parse.f k x.f0 = some (r1, r2, r3, pe0 x)
  new : ∀ j (h : j < a.f1.length), shelfmarkref18_Named.f k (onceG l (a.f1.take j)) a.f1[j].f0 a.f1[j].f1 a.f1[j].f2 = some (namedIn (onceG l (a.f1.take j)) a.f1[j])
  done : ∀ x ∈ l, shelfmarkref18_Named.f k a.f1 x.f0 x.f1 x.f2 = some (namedIn a.f1 x)
  due : shelfmarkref13_SameIntents.f k (l.take (dueN a.f2 l.length)) (l.take (dueN a.f2 l.length)) = some true
  of_ : shelfmarkref13_SameIntents.f k (l.filter (inR a.f3.f0 a.f3.f1)) (l.filter (inR a.f3.f0 a.f3.f1)) = some true
  drop : ∀ x ∈ l, shelfmarkref18_Named.f k (l.filter (inR a.f3.f0 a.f3.f1)) x.f0 x.f1 x.f2 = some (namedIn (l.filter (inR a.f3.f0 a.f3.f1)) x)
  same : shelfmarkref13_SameIntents.f k (actL mo l a) (actL mo l a) = some true
theorem ev_list {α β : Type} {g : α → Nat → Option β} {r : α → β} : ∀ l : List α, (∀ x ∈ l, Ev (g x) (r x)) → ∃ N, ∀ k, N ≤ k → ∀ x ∈ l, g x k = some (r x)
  | [], _ => ⟨0, fun _ _ x hx => by cases hx⟩
  | y :: l, h => by
    obtain ⟨N, hN⟩ := ev_list l (fun x hx => h x (List.mem_cons_of_mem _ hx))
    obtain ⟨M, hM⟩ := h y List.mem_cons_self
    refine ⟨max N M, fun k hk x hx => ?_⟩
    rcases List.mem_cons.1 hx with rfl | hx
    · exact hM k (by omega)
    · exact hN k (by omega) x hx
theorem new_ev (l m : List S29) (h : l.length + m.length < 1000000000) : ∃ N, ∀ k, N ≤ k → ∀ j (h : j < m.length), shelfmarkref18_Named.f k (onceG l (m.take j)) m[j].f0 m[j].f1 m[j].f2 = some (namedIn (onceG l (m.take j)) m[j]) := by
  obtain ⟨N, hN⟩ := ev_all (g := fun j k => shelfmarkref18_Named.f k (onceG l (m.take j)) (m.getD j z29).f0 (m.getD j z29).f1 (m.getD j z29).f2) (r := fun j => namedIn (onceG l (m.take j)) (m.getD j z29)) m.length (fun j hj => named_ev _ (by have := onceG_len l (m.take j); rw [List.length_take] at this; omega) _)
  refine ⟨N, fun k hk j hj => ?_⟩
  have := hN k hk j hj
  simp only [List.getD_eq_getElem?_getD, List.getElem?_eq_getElem hj, Option.getD_some] at this
  exact this
theorem par_ev (m : List S29) (hz : ∀ x ∈ m, x.f0.size ≤ 140737488351232) : ∃ N, ∀ k, N ≤ k → ∀ x ∈ m, ∃ r1 r2 r3, shelfmarkref04_Parse.f k x.f0 = some (r1, r2, r3, pe0 x) := by
  obtain ⟨N, hN⟩ := ev_list (g := fun (x : S29) k => shelfmarkref04_Parse.f k x.f0) (r := fun x => parseR x.f0) m (fun x hx => refparse_ev x.f0 (hz x hx))
  exact ⟨N, fun k hk x hx => ⟨_, _, _, hN k hk x hx⟩⟩
theorem act_ok (mo : Int) (l : List S29) (a : S45) (h : l.length + a.f1.length < 1000000000) (hz : ∀ x ∈ a.f1, x.f0.size ≤ 140737488351232) : ∃ N, ∀ k, N ≤ k → ActOk k mo l a := by
  obtain ⟨K1, h1⟩ := bad_ev a.f1 (by omega) hz
  obtain ⟨K2, h2⟩ := par_ev a.f1 hz
  obtain ⟨K3, h3⟩ := new_ev l a.f1 h
  obtain ⟨K4, h4⟩ := ev_list (g := fun (x : S29) k => shelfmarkref18_Named.f k a.f1 x.f0 x.f1 x.f2) (r := fun x => namedIn a.f1 x) l (fun x _ => named_ev _ (by omega) x)
  obtain ⟨K5, h5⟩ := same_ev (l.take (dueN a.f2 l.length)) (by rw [List.length_take]; omega)
  obtain ⟨K6, h6⟩ := same_ev (l.filter (inR a.f3.f0 a.f3.f1)) (by have := List.length_filter_le (inR a.f3.f0 a.f3.f1) l; omega)
  obtain ⟨K7, h7⟩ := ev_list (g := fun (x : S29) k => shelfmarkref18_Named.f k (l.filter (inR a.f3.f0 a.f3.f1)) x.f0 x.f1 x.f2) (r := fun x => namedIn (l.filter (inR a.f3.f0 a.f3.f1)) x) l (fun x _ => named_ev _ (by have := List.length_filter_le (inR a.f3.f0 a.f3.f1) l; omega) x)
  obtain ⟨K8, h8⟩ := same_ev (actL mo l a) (by have := actL_len mo l a; omega)
  exact ⟨K1 + K2 + K3 + K4 + K5 + K6 + K7 + K8, fun k hk => ⟨h1 k (by omega), h2 k (by omega), h3 k (by omega), h4 k (by omega), h5 k (by omega), h6 k (by omega), h7 k (by omega), h8 k (by omega)⟩⟩
/-- An act on both boxes. -/
theorem do_v (w0 w : World) (hw : Below w0.heap.size w0 w) (gb gr : Nat) (S : Nat → Prop) (mo : Int) (l : List S29) (hX : Pair w w0.heap.size S gb gr mo l) (a : S45) (A1 : Option Addr) (c1 : Nat) (hm : Kd.C k29 w0 A1 a.f1.length a.f1) (hcm : a.f1.length ≤ c1) (wl : WfI l) (wm : WfI a.f1) (hz : l.length + a.f1.length < 1000000000) (h0 : 0 ≤ mo) (h1 : mo < 9223372036854775808) (k : Nat) (hok : ActOk k mo l a) :
    Calls Try.prog 20 #[.pointer (some ⟨gb, 0, none⟩), .pointer (some ⟨gr, 0, none⟩), .agg #[.int .i64 a.f0, .slice A1 a.f1.length c1, .int .i64 a.f2, .string a.f3.f0, .string a.f3.f1]] w fun en w' => en = .returned (.bool true) ∧ ∃ S', Pair w' w0.heap.size S' gb gr mo (actL mo l a) ∧ Upd w w' w0.heap.size S S' := by
  by_cases c1_ : a.f0 = 1
  · have e := add_eq mo l a.f1 (a.f1.any (badI pe0)) hz h0 h1
    have hL : actL mo l a = raddL mo l a.f1 (a.f1.any (badI pe0)) := by unfold actL; rw [if_pos c1_]
    rw [hL, c1_]
    exact Ms.do1_v w0 w hw gb gr S mo l hX A1 c1 a.f1 hm hcm a.f2 a.f3.f0 a.f3.f1 wl wm hz k _ _ hok.bad pe0 hok.par hok.new rfl _ e.1 rfl e.2 rfl
  · by_cases c2_ : a.f0 = 2
    · have hL : actL mo l a = l.filter (fun x => !namedIn a.f1 x) := by unfold actL; rw [if_neg c1_, if_pos c2_]
      rw [hL, c2_]
      have e1 : l.filter (named a.f1) = l.filter (namedIn a.f1) := filter_ext (fun x _ => named_eq a.f1 x)
      have e2 : l.filter (fun x => !namedIn a.f1 x) = l.filter (fun x => !named a.f1 x) := filter_ext (fun x _ => by rw [named_eq])
      have e3 := filter_len (namedIn a.f1) l
      exact Ms.do2_v w0 w hw gb gr S mo l hX A1 c1 a.f1 hm hcm a.f2 a.f3.f0 a.f3.f1 wl wm hz k _ hok.done _ rfl (by rw [e1, Pv.w64 (by omega) (by omega)]; omega) e2 rfl
    · by_cases c3_ : a.f0 = 3
      · have hL : actL mo l a = l := by unfold actL; rw [if_neg c1_, if_neg c2_, if_neg (by omega)]
        rw [hL, c3_]
        exact Ms.do3_v w0 w hw gb gr S mo l hX A1 c1 a.f1 hm hcm a.f2 a.f3.f0 a.f3.f1 wl wm hz k l _ rfl hok.due
      · by_cases c4_ : a.f0 = 4
        · have hL : actL mo l a = l := by unfold actL; rw [if_neg c1_, if_neg c2_, if_neg (by omega)]
          rw [hL, c4_]
          exact Ms.do4_v w0 w hw gb gr S mo l hX A1 c1 a.f1 hm hcm a.f2 a.f3.f0 a.f3.f1 wl wm hz k l hok.of_
        · by_cases c5_ : a.f0 = 5
          · have hL : actL mo l a = l.filter (fun x => !inR a.f3.f0 a.f3.f1 x) := by unfold actL; rw [if_neg c1_, if_neg c2_, if_pos c5_]
            rw [hL, c5_]
            have e2 : l.filter (fun x => !inR a.f3.f0 a.f3.f1 x) = l.filter (fun x => !namedIn (l.filter (inR a.f3.f0 a.f3.f1)) x) := filter_ext (fun x hx => by rw [named_inR _ _ l x hx])
            have e3 := filter_len (inR a.f3.f0 a.f3.f1) l
            exact Ms.do5_v w0 w hw gb gr S mo l hX A1 c1 a.f1 hm hcm a.f2 a.f3.f0 a.f3.f1 wl wm hz k _ hok.drop _ rfl (by rw [Pv.w64 (by omega) (by omega)]; omega) rfl e2
          · have hL : actL mo l a = l := by unfold actL; rw [if_neg c1_, if_neg c2_, if_neg c5_]
            rw [hL]
            exact Ms.do0_v w0 w hw gb gr S mo l hX A1 c1 a.f1 hm hcm a.f2 a.f3.f0 a.f3.f1 wl wm hz k l _ ⟨c1_, c2_, c3_, c4_, c5_⟩
end Go.Proofs.Ytdaikljbljcagaa.Uj
