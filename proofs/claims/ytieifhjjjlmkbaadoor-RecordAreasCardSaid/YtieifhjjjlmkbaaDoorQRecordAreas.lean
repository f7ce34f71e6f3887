/- DERIVED. What the printed functions come to, as far as this law asks it. Conditions: those that each lemma names. -/
import Derived.Test.YtieifhjjjlmkbaaDoorHl
import Derived.Laws.BitsLemmas
import Derived.Test.YtieifhjjjlmkbaaDoorPAllx3
import Derived.Test.YtieifhjjjlmkbaaDoorPAllx5
import Derived.Test.YtieifhjjjlmkbaaDoorPAllx7
import Derived.Test.YtieifhjjjlmkbaaDoorPAllx8
import Derived.Test.YtieifhjjjlmkbaaDoorPAllx10
import Derived.Test.YtieifhjjjlmkbaaDoorPAllx12
import Derived.Test.YtieifhjjjlmkbaaDoorPAllx17
import Derived.Test.YtieifhjjjlmkbaaDoorPAllx18
import Derived.Test.YtieifhjjjlmkbaaDoorPAllx19
import Derived.Test.YtieifhjjjlmkbaaDoorPAllx20
import Derived.Test.YtieifhjjjlmkbaaDoorPAllx21
import Derived.Test.YtieifhjjjlmkbaaDoorPAllx22
import Derived.Test.YtieifhjjjlmkbaaDoorPAllx23
namespace Go.Proofs.YtieifhjjjlmkbaaDoor.Tb
open Go.RowKit Go.Proofs.YtieifhjjjlmkbaaDoorW.PrintWords Go.Proofs.YtieifhjjjlmkbaaDoorW.PrintLast Go.Proofs.YtieifhjjjlmkbaaDoor.Hl
set_option linter.unusedSimpArgs false
theorem wrap_u64 (n : Int) : IntKind.u64.wrap n = n % 18446744073709551616 := by simp [IntKind.wrap, IntKind.bits, IntKind.signed]
theorem xor_low (b : Nat) (h : b < 9223372036854775808) : b ^^^ 9223372036854775808 = b + 9223372036854775808 := by
  have h1 : b + 9223372036854775808 = 2 ^ 63 * 1 ||| b := by
    rw [← Nat.two_pow_add_eq_or_of_lt (i := 63) (by simpa using h) 1]; omega
  rw [h1]
  apply Nat.eq_of_testBit_eq
  intro i
  rw [Nat.testBit_xor, Nat.testBit_or, show (9223372036854775808 : Nat) = 2 ^ 63 from rfl, Nat.mul_one, Nat.testBit_two_pow]
  by_cases hi : 63 = i
  · subst hi
    rw [Nat.testBit_lt_two_pow (show b < 2 ^ 63 by simpa using h)]
    simp
  · simp [hi]
theorem xor_top (a : Nat) (h : a < 18446744073709551616) : a ^^^ 9223372036854775808 = (a + 9223372036854775808) % 18446744073709551616 := by
  by_cases h1 : a < 9223372036854775808
  · rw [xor_low a h1]; omega
  · obtain ⟨b, rfl⟩ : ∃ b, a = b + 9223372036854775808 := ⟨a - 9223372036854775808, by omega⟩
    rw [← xor_low b (by omega), Nat.xor_assoc, Nat.xor_self, Nat.xor_zero, xor_low b (by omega)]
    omega
theorem bits_top (x : Int) (h0 : 0 ≤ x) (h1 : x < 18446744073709551616) : bits .xor .u64 x 9223372036854775808 = (x + 9223372036854775808) % 18446744073709551616 := by
  obtain ⟨a, rfl⟩ := Int.eq_ofNat_of_zero_le h0
  have h2 : a < 18446744073709551616 := by omega
  have h3 : a % 2 ^ IntKind.u64.bits = a := Nat.mod_eq_of_lt (by simpa [IntKind.bits] using h2)
  have h4 : 9223372036854775808 % 2 ^ IntKind.u64.bits = 9223372036854775808 := by decide
  have h5 := xor_top a h2
  simp only [bits, show (9223372036854775808 : Int) = ((9223372036854775808 : Nat) : Int) from rfl, BitVec.ofInt_natCast, BitVec.toNat_xor, BitVec.toNat_ofNat, h3, h4, h5]
  rw [wrap_u64]
  omega
/-- The bytes of a number, the greatest first. -/
def beFrom (X : Int) : Nat → List Int
  | 0 => []
  | m + 1 => (shr .u64 X ((8 * m : Nat) : Int)) % 256 :: beFrom X m
theorem beFrom_length (X : Int) : ∀ m, (beFrom X m).length = m
  | 0 => rfl
  | m + 1 => by simp [beFrom, beFrom_length X m]
theorem beFrom_bytes (X : Int) : ∀ m, ∀ c ∈ beFrom X m, 0 ≤ c ∧ c < 256
  | 0, c, h => by cases h
  | m + 1, c, h => by
    rcases List.mem_cons.1 h with rfl | h
    · omega
    · exact beFrom_bytes X m c h
end Go.Proofs.YtieifhjjjlmkbaaDoor.Tb
namespace Go.Proofs.YtieifhjjjlmkbaaDoor.Tl
open Go.RowKit Go.Proofs.YtieifhjjjlmkbaaDoor.PAll Go.Proofs.YtieifhjjjlmkbaaDoorW.PrintWords Go.Proofs.YtieifhjjjlmkbaaDoorW.PrintLast Go.Proofs.YtieifhjjjlmkbaaDoor.Hl
set_option linter.unusedSimpArgs false
set_option linter.unusedVariables false
theorem w64 {x : Int} (h0 : -9223372036854775808 ≤ x) (h1 : x < 9223372036854775808) : wrap64 x = x := by
  exact Go.IntWalk.wrap64_in x ⟨h0, by omega⟩
/-- Is a value good? -/
def goodB (k n : Int) (s : ByteArray) : Bool := if k = 0 then (n == 0 && (s.toList == ([] : List UInt8))) else if k = 1 then s.toList == ([] : List UInt8) else if k = 2 then (n == 0 && decide ((s.size : Int) ≤ 32)) else false
def good (v : S41) : Bool := goodB v.f0 v.f1 v.f2
theorem Good_eq (k n : Int) (s : ByteArray) : tuple_Good.f k n s = some (goodB k n s) := by
  unfold tuple_Good.f goodB
  by_cases h0 : k = 0
  · simp [h0]
  · by_cases h1 : k = 1
    · simp [h1]
    · by_cases h2 : k = 2
      · by_cases h3 : n = 0
        · simp [h2, h3]
        · simp [h2, h3]
      · simp [h0, h1, h2]
theorem refGood_eq (k n : Int) (s : ByteArray) : shelfmarkref03_Good.f k n s = some (goodB k n s) := by
  unfold shelfmarkref03_Good.f goodB
  by_cases h0 : k = 0
  · subst h0
    by_cases h3 : n = 0
    · by_cases h4 : s.toList = ([] : List UInt8) <;> simp [h3, h4]
    · simp [h3]
  · by_cases h1 : k = 1
    · subst h1
      by_cases h4 : s.toList = ([] : List UInt8) <;> simp [h4]
    · by_cases h2 : k = 2
      · subst h2
        by_cases h3 : n = 0
        · simp [h3]
        · simp [h3]
      · simp [h0, h1, h2]
theorem row1_eq (k n : Int) (s : ByteArray) : tuple_row_1_v11.f k n s = some (!goodB k n s) := by
  show tuple_row_1.f k n s = _
  unfold tuple_row_1.f
  rw [Good_eq]
  rfl
theorem rd_get (l : List S41) (i : Nat) (h : i < l.length) : rd_T41 l (i : Int) = l[i] := by
  unfold rd_T41
  rw [Int.toNat_natCast, List.getD_eq_getElem?_getD, List.getElem?_eq_getElem h]
  rfl
theorem drop_get (l : List S41) (i : Nat) (h : i < l.length) : l.drop i = l[i] :: l.drop (i + 1) := List.drop_eq_getElem_cons h
/-- The error of a row. -/
def rowE (l : List S41) : Int := if 4 < l.length then 4 else if l.all good then 0 else 1
theorem index_l0 (l : List S41) (hl : l.length ≤ 4) : ∀ m i : Nat, i + m = l.length → ∃ r : Int, Ev (fun k => slices_IndexFunc_api_Val_api_Val_at_tuple_row_1.l0 k l (l.length : Int) (i : Int)) r ∧ (decide (r ≥ 0) = !((l.drop i).all good))
  | 0, i, h => by
    refine ⟨-1, Ev.step (fun _ => slices_IndexFunc_api_Val_api_Val_at_tuple_row_1.l0.eq_2 ..) ?_, ?_⟩
    · simp only [if_neg (show ¬ (i : Int) < (l.length : Int) by omega)]
      exact Ev.now _
    · rw [List.drop_eq_nil_of_le (by omega)]; rfl
  | m + 1, i, h => by
    have hi : i < l.length := by omega
    by_cases hg : good l[i] = true
    · obtain ⟨r, hr, hd⟩ := index_l0 l hl m (i + 1) (by omega)
      refine ⟨r, Ev.step (fun _ => slices_IndexFunc_api_Val_api_Val_at_tuple_row_1.l0.eq_2 ..) ?_, ?_⟩
      · have hg' : goodB (l[i]).f0 (l[i]).f1 (l[i]).f2 = true := hg
        simp only [if_pos (show (i : Int) < (l.length : Int) by omega), if_pos (show (0 : Int) ≤ (i : Int) by omega), row1_eq, Option.bind_some, rd_get l i hi, hg', Bool.not_true, Bool.false_eq_true, if_false]
        rw [w64 (by omega) (by omega)]
        exact hr
      · rw [hd, drop_get l i hi, List.all_cons, hg, Bool.true_and]
    · have hg0 : good l[i] = false := by simpa using hg
      refine ⟨i, Ev.step (fun _ => slices_IndexFunc_api_Val_api_Val_at_tuple_row_1.l0.eq_2 ..) ?_, ?_⟩
      · have hg' : goodB (l[i]).f0 (l[i]).f1 (l[i]).f2 = false := hg0
        simp only [if_pos (show (i : Int) < (l.length : Int) by omega), if_pos (show (0 : Int) ≤ (i : Int) by omega), row1_eq, Option.bind_some, rd_get l i hi, hg', Bool.not_false, if_true]
        exact Ev.now _
      · rw [drop_get l i hi, List.all_cons, hg0, Bool.false_and]
        simp
theorem row_ev (l : List S41) : Ev (fun k => tuple_row.f k l) (rowE l) := by
  unfold tuple_row.f rowE
  by_cases h : 4 < l.length
  · simp only [if_pos h, if_pos (show (l.length : Int) > 4 by omega)]
    exact Ev.now _
  · simp only [if_neg h, if_neg (show ¬ (l.length : Int) > 4 by omega)]
    obtain ⟨r, hr, hd⟩ := index_l0 l (by omega) l.length 0 (by omega)
    refine Ev.bind (a := decide (r ≥ 0)) ?_ ?_
    · unfold slices_ContainsFunc_api_Val_api_Val_at_tuple_row_1.f slices_IndexFunc_api_Val_api_Val_at_tuple_row_1.f
      exact Ev.bind hr (Ev.now _)
    · rw [hd, List.drop_zero]
      cases l.all good
      · simpa using Ev.now (1 : Int)
      · simpa using Ev.now (0 : Int)
theorem refRow_l0 (l : List S41) (hl : l.length ≤ 4) : ∀ m i : Nat, i + m = l.length → Ev (fun k => shelfmarkref03_Row.l0 k l (i : Int)) (if (l.drop i).all good then 0 else 1)
  | 0, i, h => by
    refine Ev.step (fun _ => shelfmarkref03_Row.l0.eq_2 ..) ?_
    rw [List.drop_eq_nil_of_le (by omega)]
    simp only [if_neg (show ¬ (i : Int) < (l.length : Int) by omega)]
    exact Ev.now _
  | m + 1, i, h => by
    have hi : i < l.length := by omega
    refine Ev.step (fun _ => shelfmarkref03_Row.l0.eq_2 ..) ?_
    simp only [if_pos (show (i : Int) < (l.length : Int) by omega), if_pos (show (0 : Int) ≤ (i : Int) by omega), refGood_eq, Option.bind_some, rd_get l i hi]
    rw [drop_get l i hi, List.all_cons]
    by_cases hg : good l[i] = true
    · have hg' : goodB (l[i]).f0 (l[i]).f1 (l[i]).f2 = true := hg
      simp only [hg', hg, Bool.true_and, if_true]
      rw [w64 (by omega) (by omega)]
      exact refRow_l0 l hl m (i + 1) (by omega)
    · have hg0 : good l[i] = false := by simpa using hg
      have hg' : goodB (l[i]).f0 (l[i]).f1 (l[i]).f2 = false := hg0
      simp only [hg', hg0, Bool.false_and, Bool.false_eq_true, if_false]
      exact Ev.now _
theorem refRow_ev (l : List S41) : Ev (fun k => shelfmarkref03_Row.f k l) (rowE l) := by
  unfold shelfmarkref03_Row.f rowE
  by_cases h : 4 < l.length
  · simp only [if_pos h, if_pos (show (l.length : Int) > 4 by omega)]
    exact Ev.now _
  · simp only [if_neg h, if_neg (show ¬ (l.length : Int) > 4 by omega)]
    have := refRow_l0 l (by omega) l.length 0 (by omega)
    rwa [List.drop_zero] at this
/-- Are the texts of a row so long at most, in all? -/
def lightB (most : Int) : List S41 → Int → Int → Bool
  | [], _, _ => true
  | v :: t, n, i => if (v.f2.size : Int) > most ∨ i > most then false else if n + (v.f2.size : Int) > most then false else lightB most t (n + (v.f2.size : Int)) (i + 1)
theorem light_l0 (l : List S41) (most : Int) (hm : 0 ≤ most ∧ most ≤ 1000000) : ∀ (m i : Nat) (n : Int), i + m = l.length → 0 ≤ n → n ≤ most → (i : Int) ≤ most + 1 → Ev (fun k => shelfmarkref03_Light.l0 k l most n (i : Int)) (lightB most (l.drop i) n (i : Int))
  | 0, i, n, h, h0, h1, h2 => by
    refine Ev.step (fun _ => shelfmarkref03_Light.l0.eq_2 ..) ?_
    rw [List.drop_eq_nil_of_le (by omega)]
    simp only [if_neg (show ¬ (i : Int) < (l.length : Int) by omega)]
    exact Ev.now _
  | m + 1, i, n, h, h0, h1, h2 => by
    have hi : i < l.length := by omega
    refine Ev.step (fun _ => shelfmarkref03_Light.l0.eq_2 ..) ?_
    rw [drop_get l i hi]
    simp only [if_pos (show (i : Int) < (l.length : Int) by omega), if_pos (show (0 : Int) ≤ (i : Int) by omega), rd_get l i hi, lightB]
    by_cases h3 : ((l[i]).f2.size : Int) > most
    · simp only [if_pos h3, h3, true_or, if_true]
      refine Ev.step (fun _ => shelfmarkref03_Light.j1.eq_2 ..) ?_
      simp only [if_true]
      exact Ev.now _
    · simp only [if_neg h3, h3, false_or]
      refine Ev.step (fun _ => shelfmarkref03_Light.j1.eq_2 ..) ?_
      by_cases h4 : (i : Int) > most
      · simp only [h4, decide_true, if_true]
        exact Ev.now _
      · simp only [h4, decide_false, Bool.false_eq_true, if_false, if_pos (show (i : Int) < (l.length : Int) by omega), if_pos (show (0 : Int) ≤ (i : Int) by omega), rd_get l i hi]
        rw [w64 (x := n + ((l[i]).f2.size : Int)) (by omega) (by omega), w64 (x := (i : Int) + 1) (by omega) (by omega)]
        by_cases h5 : n + ((l[i]).f2.size : Int) > most
        · simp only [h5, if_true]
          exact Ev.now _
        · simp only [h5, if_false]
          exact light_l0 l most hm m (i + 1) _ (by omega) (by omega) (by omega) (by omega)
theorem light_ev (l : List S41) (most : Int) (hm : 0 ≤ most ∧ most ≤ 1000000) : Ev (fun k => shelfmarkref03_Light.f k l most) (lightB most l 0 0) := by
  unfold shelfmarkref03_Light.f
  have := light_l0 l most hm l.length 0 0 (by omega) (by omega) (by omega) (by omega)
  rwa [List.drop_zero] at this
end Go.Proofs.YtieifhjjjlmkbaaDoor.Tl
namespace Go.Proofs.YtieifhjjjlmkbaaDoor.Tk
open Go.RowKit Go.Proofs.YtieifhjjjlmkbaaDoor.PAll Go.Proofs.YtieifhjjjlmkbaaDoorW.PrintWords Go.Proofs.YtieifhjjjlmkbaaDoorW.PrintLast Go.Proofs.YtieifhjjjlmkbaaDoor.Hl Go.Proofs.YtieifhjjjlmkbaaDoor.Tl Go.Proofs.YtieifhjjjlmkbaaDoor.Tb
set_option linter.unusedSimpArgs false
set_option linter.unusedVariables false
def ints (l : List UInt8) : List Int := l.map fun b => (b.toNat : Int)
/-- A text's bytes in a key. -/
def esc (s : ByteArray) : List Int := ints (bytesTurn 0 [0, 255] s.data.toList)
/-- A number of 64 bits, the sign turned. -/
def topN (n : Int) : Int := (n % 18446744073709551616 + 9223372036854775808) % 18446744073709551616
/-- A value's bytes. -/
def form (v : S41) : List Int := if v.f0 = 1 then 2 :: beFrom (topN v.f1) 8 else if v.f0 = 2 then 3 :: (esc v.f2 ++ [0, 0]) else [1]
theorem esc_count (l : List UInt8) : (bytesTurn 0 [0, 255] l).length ≤ 2 * l.length := by
  induction l with
  | nil => simp [bytesTurn]
  | cons b l ih =>
    unfold bytesTurn at *
    rw [List.flatMap_cons, List.length_append, List.length_cons]
    by_cases h : b = 0
    · rw [if_pos h]; simp only [List.length_cons, List.length_nil]; omega
    · rw [if_neg h]; simp only [List.length_cons, List.length_nil]; omega
theorem esc_len (s : ByteArray) : (esc s).length ≤ 2 * s.size := by
  unfold esc ints
  rw [List.length_map, ← data_length]
  exact esc_count _
theorem form_l0 (X : Int) : ∀ (m : Nat) (acc : List Int), m ≤ 8 → acc.length + m < 1000 → Ev (fun k => tuple_form.l0 k acc X (((8 * m : Nat) : Int) - 8)) (acc ++ beFrom X m)
  | 0, acc, h, hl => by
    refine Ev.step (fun _ => tuple_form.l0.eq_2 ..) ?_
    simp only [if_neg (show ¬ (((8 * 0 : Nat) : Int) - 8 ≥ 0) by omega), beFrom, List.append_nil]
    exact Ev.now _
  | m + 1, acc, h, hl => by
    refine Ev.step (fun _ => tuple_form.l0.eq_2 ..) ?_
    have e : (((8 * (m + 1) : Nat) : Int) - 8) = ((8 * m : Nat) : Int) := by omega
    simp only [if_pos (show (((8 * (m + 1) : Nat) : Int) - 8 ≥ 0) by omega), if_pos (show (0 : Int) ≤ ((8 * (m + 1) : Nat) : Int) - 8 by omega), if_pos (show acc.length < 140737488355328 by omega)]
    rw [w64 (by omega) (by omega), e]
    have := form_l0 X m (acc ++ [(shr .u64 X ((8 * m : Nat) : Int)) % 256]) (by omega) (by simp; omega)
    rw [List.append_assoc] at this
    exact this
theorem put_l0 (X : Int) : ∀ (m : Nat) (acc : List Int) (i : Nat), i + m = 8 → acc.length + m < 1000 → Ev (fun k => shelfmarkref03_put.l0 k acc X (i : Int)) (acc ++ beFrom X m)
  | 0, acc, i, h, hl => by
    refine Ev.step (fun _ => shelfmarkref03_put.l0.eq_2 ..) ?_
    simp only [if_neg (show ¬ ((i : Int) < 8) by omega), beFrom, List.append_nil]
    exact Ev.now _
  | m + 1, acc, i, h, hl => by
    refine Ev.step (fun _ => shelfmarkref03_put.l0.eq_2 ..) ?_
    have e : IntKind.u64.wrap (wrap64 (56 - wrap64 (8 * (i : Int)))) = ((8 * m : Nat) : Int) := by
      rw [w64 (x := 8 * (i : Int)) (by omega) (by omega), w64 (by omega) (by omega), wrap_u64]; omega
    simp only [if_pos (show ((i : Int) < 8) by omega), e, if_pos (show (0 : Int) ≤ ((8 * m : Nat) : Int) by omega), if_pos (show acc.length < 140737488355328 by omega)]
    rw [w64 (by omega) (by omega)]
    have := put_l0 X m (acc ++ [(shr .u64 X ((8 * m : Nat) : Int)) % 256]) (i + 1) (by omega) (by simp; omega)
    rw [List.append_assoc] at this
    exact this
theorem form_ev (v : S41) (hg : good v = true) : Ev (fun k => tuple_form.f k v.f0 v.f1 v.f2) (form v) := by
  unfold tuple_form.f form
  have hg' : goodB v.f0 v.f1 v.f2 = true := hg
  unfold goodB at hg'
  simp only [Option.bind_some]
  by_cases h1 : v.f0 = 1
  · simp only [h1, if_true]
    rw [w64 (by omega) (by omega), wrap_u64, bits_top _ (by omega) (by omega)]
    exact form_l0 (topN v.f1) 8 [2] (by omega) (by simp)
  · simp only [if_neg h1]
    by_cases h2 : v.f0 = 2
    · rw [if_neg (by omega), if_neg h1, if_pos h2] at hg'
      simp only [Bool.and_eq_true, decide_eq_true_eq] at hg'
      have hs : v.f2.size ≤ 32 := by omega
      have hc : v.f2.data.toList.count 0 ≤ 32 := Nat.le_trans List.count_le_length (by rw [data_length]; exact hs)
      have hcs : v.f2.size + v.f2.data.toList.count 0 * (⟨#[0, 255]⟩ : ByteArray).size ≤ 140737488355328 := by
        show v.f2.size + v.f2.data.toList.count 0 * 2 ≤ _; omega
      have hR : strings_ReplaceAll.f v.f2 (⟨#[0]⟩ : ByteArray) (⟨#[0, 255]⟩ : ByteArray) = some ⟨(bytesTurn 0 [0, 255] v.f2.data.toList).toArray⟩ := by
        unfold strings_ReplaceAll.f
        simp only []
        rw [if_pos (by rw [Lib.toList_data, Lib.toList_data]; decide), if_pos hcs]
      have hb : bytesOf ⟨(bytesTurn 0 [0, 255] v.f2.data.toList).toArray⟩ = esc v.f2 := by simp [bytesOf, esc, ints]
      have hl := esc_len v.f2
      have hz : (⟨(bytesTurn 0 [0, 255] v.f2.data.toList).toArray⟩ : ByteArray).size = (esc v.f2).length := by rw [← bytesOf_length, hb]
      simp only [h2, if_true, hR, Option.bind_some, hb, hz]
      rw [w64 (by omega) (by omega)]
      simp only [if_pos (show ([(2 + 1 : Int) % 256] : List Int).length + (esc v.f2).length < 140737488355328 by simp; omega)]
      rw [if_pos (show ([(2 + 1 : Int) % 256] ++ esc v.f2).length + ([0, 0] : List Int).length < 140737488355328 by simp; omega)]
      exact Ev.now _
    · have h0 : v.f0 = 0 := by
        apply Classical.byContradiction; intro h0
        rw [if_neg h0, if_neg h1, if_neg h2] at hg'; cases hg'
      simp only [h0, if_neg (show ¬ ((0 : Int) = 2) by decide)]
      rw [w64 (by omega) (by omega)]
      exact Ev.now _
theorem bt_drop (s : ByteArray) (i : Nat) (h : i < s.size) : s.data.toList.drop i = (s[i]'h) :: s.data.toList.drop (i + 1) ∧ bt s (i : Int) = ((s[i]'h).toNat : Int) := by
  refine ⟨drop_byte s i h, ?_⟩
  exact (bt_at s (i : Int) h).symm
theorem put_l1 (s : ByteArray) (hs : s.size ≤ 1000) (f0 f1 : Int) : ∀ (m i : Nat) (acc : List Int), i + m = s.size → acc.length + 2 * m < 10000 → Ev (fun k => shelfmarkref03_put.l1 k acc (i : Int) f0 f1 s) (acc ++ ints (bytesTurn 0 [0, 255] (s.data.toList.drop i)) ++ [0, 0])
  | 0, i, acc, h, hl => by
    refine Ev.step (fun _ => shelfmarkref03_put.l1.eq_2 ..) ?_
    rw [List.drop_eq_nil_of_le (by rw [data_length]; omega)]
    simp only [if_neg (show ¬ ((i : Int) < (s.size : Int)) by omega), Option.bind_some, if_pos (show acc.length + ([0, 0] : List Int).length < 140737488355328 by simp; omega)]
    simpa [bytesTurn, ints] using Ev.now (acc ++ [0, 0])
  | m + 1, i, acc, h, hl => by
    have hi : i < s.size := by omega
    obtain ⟨h1, h2⟩ := bt_drop s i hi
    refine Ev.step (fun _ => shelfmarkref03_put.l1.eq_2 ..) ?_
    simp only [if_pos (show (i : Int) < (s.size : Int) by omega), if_pos (show (0 : Int) ≤ (i : Int) by omega), if_pos (show acc.length < 140737488355328 by omega), Option.bind_some, h2]
    rw [w64 (by omega) (by omega), h1]
    by_cases hz : s[i] = 0
    · have hz' : ((s[i]'hi).toNat : Int) = 0 := by rw [hz]; rfl
      simp only [hz', if_true]
      simp only [if_pos (show (acc ++ [(0 : Int)]).length < 140737488355328 by simp; omega)]
      have := put_l1 s hs f0 f1 m (i + 1) (acc ++ [0] ++ [255]) (by omega) (by simp; omega)
      rw [show bytesTurn 0 [0, 255] (s[i] :: s.data.toList.drop (i + 1)) = [0, 255] ++ bytesTurn 0 [0, 255] (s.data.toList.drop (i + 1)) from by unfold bytesTurn; rw [List.flatMap_cons, if_pos hz]]
      simpa [ints] using this
    · have hz' : ¬ ((s[i]'hi).toNat : Int) = 0 := by
        intro e; apply hz; exact UInt8.toNat_inj.1 (by show _ = 0; omega)
      simp only [if_neg hz']
      have := put_l1 s hs f0 f1 m (i + 1) (acc ++ [((s[i]'hi).toNat : Int)]) (by omega) (by simp; omega)
      rw [show bytesTurn 0 [0, 255] (s[i] :: s.data.toList.drop (i + 1)) = [s[i]] ++ bytesTurn 0 [0, 255] (s.data.toList.drop (i + 1)) from by unfold bytesTurn; rw [List.flatMap_cons, if_neg hz]]
      simpa [ints] using this
theorem put_ev (v : S41) (hg : good v = true) : Ev (fun k => shelfmarkref03_put.f k v.f0 v.f1 v.f2) (form v) := by
  unfold shelfmarkref03_put.f form
  have hg' : goodB v.f0 v.f1 v.f2 = true := hg
  unfold goodB at hg'
  by_cases h1 : v.f0 = 1
  · simp only [h1, if_true, wrap_u64]
    exact put_l0 (topN v.f1) 8 [2] 0 (by omega) (by simp)
  · simp only [if_neg h1]
    by_cases h2 : v.f0 = 2
    · rw [if_neg (by omega), if_neg h1, if_pos h2] at hg'
      simp only [Bool.and_eq_true, decide_eq_true_eq] at hg'
      simp only [h2, if_true]
      have := put_l1 v.f2 (by omega) 2 v.f1 v.f2.size 0 [3] (by omega) (by simp; omega)
      rw [List.drop_zero] at this
      simpa [esc] using this
    · simp only [if_neg h2]
      exact Ev.now _
theorem form_len (v : S41) (hg : good v = true) : (form v).length ≤ 67 := by
  have hg' : goodB v.f0 v.f1 v.f2 = true := hg
  unfold goodB at hg'
  unfold form
  by_cases h1 : v.f0 = 1
  · rw [if_pos h1]; simp [beFrom_length]
  · rw [if_neg h1]
    by_cases h2 : v.f0 = 2
    · rw [if_neg (by omega), if_neg h1, if_pos h2] at hg'
      simp only [Bool.and_eq_true, decide_eq_true_eq] at hg'
      rw [if_pos h2]
      have := esc_len v.f2
      simp only [List.length_cons, List.length_append, List.length_nil]
      omega
    · rw [if_neg h2]; simp
/-- The bytes of a row's key. -/
def keyL (l : List S41) : List Int := l.flatMap form
theorem key_l0 (l : List S41) (hl : l.length ≤ 4) (hg : l.all good = true) : ∀ (m i : Nat) (acc : List Int), i + m = l.length → acc.length + 67 * m < 10000 → Ev (fun k => tuple_Key.l0 k acc l (l.length : Int) (i : Int)) (strOfNums (acc ++ keyL (l.drop i)), 0)
  | 0, i, acc, h, ha => by
    refine Ev.step (fun _ => tuple_Key.l0.eq_2 ..) ?_
    rw [List.drop_eq_nil_of_le (by omega)]
    simp only [if_neg (show ¬ (i : Int) < (l.length : Int) by omega)]
    simpa [keyL] using Ev.now (strOfNums acc, (0 : Int))
  | m + 1, i, acc, h, ha => by
    have hi : i < l.length := by omega
    have hgi : good l[i] = true := List.all_eq_true.1 hg _ (List.getElem_mem hi)
    have hf := form_len _ hgi
    refine Ev.step (fun _ => tuple_Key.l0.eq_2 ..) ?_
    simp only [if_pos (show (i : Int) < (l.length : Int) by omega), if_pos (show (0 : Int) ≤ (i : Int) by omega), rd_get l i hi]
    refine Ev.bind (form_ev _ hgi) ?_
    simp only [if_pos (show acc.length + (form l[i]).length < 140737488355328 by omega)]
    rw [w64 (by omega) (by omega), drop_get l i hi]
    have := key_l0 l hl hg m (i + 1) (acc ++ form l[i]) (by omega) (by rw [List.length_append]; omega)
    rw [List.append_assoc] at this
    exact this
theorem refKey_l0 (l : List S41) (hl : l.length ≤ 4) (hg : l.all good = true) : ∀ (m i : Nat) (acc : List Int), i + m = l.length → acc.length + 67 * m < 10000 → Ev (fun k => shelfmarkref03_Key.l0 k l acc (i : Int)) (strOfNums (acc ++ keyL (l.drop i)), 0)
  | 0, i, acc, h, ha => by
    refine Ev.step (fun _ => shelfmarkref03_Key.l0.eq_2 ..) ?_
    rw [List.drop_eq_nil_of_le (by omega)]
    simp only [if_neg (show ¬ (i : Int) < (l.length : Int) by omega)]
    simpa [keyL] using Ev.now (strOfNums acc, (0 : Int))
  | m + 1, i, acc, h, ha => by
    have hi : i < l.length := by omega
    have hgi : good l[i] = true := List.all_eq_true.1 hg _ (List.getElem_mem hi)
    have hf := form_len _ hgi
    refine Ev.step (fun _ => shelfmarkref03_Key.l0.eq_2 ..) ?_
    simp only [if_pos (show (i : Int) < (l.length : Int) by omega), if_pos (show (0 : Int) ≤ (i : Int) by omega), rd_get l i hi]
    refine Ev.bind (put_ev _ hgi) ?_
    simp only [if_pos (show acc.length + (form l[i]).length < 140737488355328 by omega)]
    rw [w64 (by omega) (by omega), drop_get l i hi]
    have := refKey_l0 l hl hg m (i + 1) (acc ++ form l[i]) (by omega) (by rw [List.length_append]; omega)
    rw [List.append_assoc] at this
    exact this
theorem row_ok {l : List S41} (h : rowE l = 0) : l.length ≤ 4 ∧ l.all good = true := by
  unfold rowE at h
  split at h
  · cases h
  · split at h
    · exact ⟨by omega, by assumption⟩
    · cases h
/-- What Key answers. -/
def keyR (l : List S41) : ByteArray × Int := if rowE l = 0 then (strOfNums (keyL l), 0) else (⟨#[]⟩, rowE l)
theorem key_ev (l : List S41) : Ev (fun k => tuple_Key.f k l) (keyR l) := by
  unfold tuple_Key.f keyR
  refine Ev.bind (row_ev l) ?_
  by_cases h : rowE l = 0
  · obtain ⟨h1, h2⟩ := row_ok h
    simp only [h, if_true]
    have := key_l0 l h1 h2 l.length 0 [] (by omega) (by simp; omega)
    rw [List.drop_zero, List.nil_append] at this
    exact this
  · simp only [if_neg h]
    exact Ev.now _
theorem refKey_ev (l : List S41) : Ev (fun k => shelfmarkref03_Key.f k l) (keyR l) := by
  unfold shelfmarkref03_Key.f keyR
  refine Ev.bind (refRow_ev l) ?_
  by_cases h : rowE l = 0
  · obtain ⟨h1, h2⟩ := row_ok h
    simp only [h, if_true]
    have := refKey_l0 l h1 h2 l.length 0 [] (by omega) (by simp; omega)
    rw [List.drop_zero, List.nil_append] at this
    exact this
  · simp only [if_neg h]
    exact Ev.now _
end Go.Proofs.YtieifhjjjlmkbaaDoor.Tk
namespace Go.Proofs.YtieifhjjjlmkbaaDoor.Tc
open Go.RowKit Go.Proofs.YtieifhjjjlmkbaaDoor.PAll Go.Proofs.YtieifhjjjlmkbaaDoorW.PrintWords Go.Proofs.YtieifhjjjlmkbaaDoorW.PrintLast Go.Proofs.YtieifhjjjlmkbaaDoor.Hl Go.Proofs.YtieifhjjjlmkbaaDoor.Tl
set_option linter.unusedSimpArgs false
set_option linter.unusedVariables false
/-- How two numbers, two texts, two values, two rows stand. -/
def cmpI (a b : Int) : Int := if a < b then -1 else if b < a then 1 else 0
def cmpS (a b : ByteArray) : Int := if Op.bytesLess a.toList b.toList = true then -1 else if Op.bytesLess b.toList a.toList = true then 1 else 0
def valC (v w : S41) : Int := if cmpI v.f0 w.f0 ≠ 0 then cmpI v.f0 w.f0 else if cmpI v.f1 w.f1 ≠ 0 then cmpI v.f1 w.f1 else cmpS v.f2 w.f2
def cmpR : List S41 → List S41 → Int
  | [], [] => 0
  | [], _ :: _ => -1
  | _ :: _, [] => 1
  | v :: a, w :: b => if valC v w = 0 then cmpR a b else valC v w
theorem cmpI_eq (a b : Int) : cmp_Compare_int.f a b = some (cmpI a b) := by
  unfold cmp_Compare_int.f cmp_isNaN_int.f cmpI
  simp only [bne_self_eq_false, Option.bind_some, Bool.false_eq_true, if_false, gt_iff_lt]
  split
  · rfl
  · split <;> rfl
theorem cmpS_eq (a b : ByteArray) : cmp_Compare_string.f a b = some (cmpS a b) := by
  unfold cmp_Compare_string.f cmp_isNaN_string.f cmpS
  simp only [bne_self_eq_false, Option.bind_some, Bool.false_eq_true, if_false]
  split
  · rfl
  · split <;> rfl
theorem or_l0 (l : List Int) (hl : l.length < 1000) : ∀ (m i : Nat), i + m = l.length → Ev (fun k => cmp_Or_int.l0 k 0 l (l.length : Int) (i : Int)) (((l.drop i).find? (fun x => x != 0)).getD 0)
  | 0, i, h => by
    refine Ev.step (fun _ => cmp_Or_int.l0.eq_2 ..) ?_
    rw [List.drop_eq_nil_of_le (by omega)]
    simp only [if_neg (show ¬ (i : Int) < (l.length : Int) by omega)]
    exact Ev.now _
  | m + 1, i, h => by
    have hi : i < l.length := by omega
    have hr : rd l (i : Int) = l[i] := by
      unfold rd
      rw [Int.toNat_natCast, List.getD_eq_getElem?_getD, List.getElem?_eq_getElem hi]; rfl
    refine Ev.step (fun _ => cmp_Or_int.l0.eq_2 ..) ?_
    simp only [if_pos (show (i : Int) < (l.length : Int) by omega), if_pos (show (0 : Int) ≤ (i : Int) by omega), hr]
    rw [List.drop_eq_getElem_cons hi, List.find?_cons]
    by_cases hz : l[i] = 0
    · simp only [hz, if_true, bne_self_eq_false]
      rw [w64 (by omega) (by omega)]
      exact or_l0 l hl m (i + 1) (by omega)
    · have hz' : (l[i] != 0) = true := by simpa using hz
      simp only [if_neg hz, hz']
      exact Ev.now _
theorem val_ev (v w : S41) : Ev (fun k => tuple_Compare_1_v26.f k v.f0 v.f1 v.f2 w.f0 w.f1 w.f2) (valC v w) := by
  show Ev (fun k => tuple_Compare_1.f k v.f0 v.f1 v.f2 w.f0 w.f1 w.f2) (valC v w)
  unfold tuple_Compare_1.f
  simp only [cmpI_eq, cmpS_eq, Option.bind_some]
  refine Ev.bind (a := valC v w) ?_ (Ev.now _)
  unfold cmp_Or_int.f
  have := or_l0 [cmpI v.f0 w.f0, cmpI v.f1 w.f1, cmpS v.f2 w.f2] (by simp) 3 0 (by simp)
  have e : ((([cmpI v.f0 w.f0, cmpI v.f1 w.f1, cmpS v.f2 w.f2].drop 0).find? (fun x => x != 0)).getD 0) = valC v w := by
    unfold valC
    simp only [List.drop_zero, List.find?_cons, List.find?_nil]
    by_cases h1 : cmpI v.f0 w.f0 = 0
    · by_cases h2 : cmpI v.f1 w.f1 = 0
      · by_cases h3 : cmpS v.f2 w.f2 = 0
        · simp [h1, h2, h3]
        · have h3' : (cmpS v.f2 w.f2 != 0) = true := by simpa using h3
          simp [h1, h2, h3']
      · have h2' : (cmpI v.f1 w.f1 != 0) = true := by simpa using h2
        simp [h1, h2, h2']
    · have h1' : (cmpI v.f0 w.f0 != 0) = true := by simpa using h1
      simp [h1, h1']
  rw [e] at this
  exact this
theorem cmp_l0 (a b : List S41) (ha : a.length ≤ 4) (hb : b.length ≤ 4) : ∀ (m i : Nat), i + m = a.length → i ≤ b.length → Ev (fun k => slices_CompareFunc_api_Val_api_Val_api_Val_api_Val_at_tuple_Compare_1.l0 k a b a (a.length : Int) (i : Int)) (cmpR (a.drop i) (b.drop i))
  | 0, i, h, hi => by
    refine Ev.step (fun _ => slices_CompareFunc_api_Val_api_Val_api_Val_api_Val_at_tuple_Compare_1.l0.eq_2 ..) ?_
    rw [List.drop_eq_nil_of_le (show a.length ≤ i by omega)]
    simp only [if_neg (show ¬ (i : Int) < (a.length : Int) by omega)]
    by_cases h2 : i < b.length
    · rw [drop_get b i h2]
      simp only [if_pos (show (a.length : Int) < (b.length : Int) by omega)]
      exact Ev.now _
    · rw [List.drop_eq_nil_of_le (show b.length ≤ i by omega)]
      simp only [if_neg (show ¬ (a.length : Int) < (b.length : Int) by omega)]
      exact Ev.now _
  | m + 1, i, h, hi => by
    have hia : i < a.length := by omega
    refine Ev.step (fun _ => slices_CompareFunc_api_Val_api_Val_api_Val_api_Val_at_tuple_Compare_1.l0.eq_2 ..) ?_
    rw [drop_get a i hia]
    simp only [if_pos (show (i : Int) < (a.length : Int) by omega), if_pos (show (0 : Int) ≤ (i : Int) by omega)]
    by_cases h2 : i < b.length
    · rw [drop_get b i h2]
      simp only [if_neg (show ¬ ((i : Int) ≥ (b.length : Int)) by omega), if_pos (show (i : Int) < (b.length : Int) by omega), rd_get a i hia, rd_get b i h2]
      refine Ev.bind (val_ev _ _) ?_
      unfold cmpR
      by_cases h3 : valC a[i] b[i] = 0
      · simp only [h3, if_true]
        rw [w64 (by omega) (by omega)]
        exact cmp_l0 a b ha hb m (i + 1) (by omega) (by omega)
      · simp only [if_neg h3]
        exact Ev.now _
    · rw [List.drop_eq_nil_of_le (show b.length ≤ i by omega)]
      simp only [if_pos (show ((i : Int) ≥ (b.length : Int)) by omega)]
      exact Ev.now _
/-- What Compare answers. -/
def cmpA (a b : List S41) : Int := if rowE a = 0 then (if rowE b = 0 then cmpR a b else 0) else 0
theorem row_ok {l : List S41} (h : rowE l = 0) : l.length ≤ 4 ∧ l.all good = true := by
  unfold rowE at h
  split at h
  · cases h
  · split at h
    · exact ⟨by omega, by assumption⟩
    · cases h
theorem compare_ev (a b : List S41) : Ev (fun k => tuple_Compare.f k a b) (cmpA a b) := by
  unfold tuple_Compare.f cmpA
  refine Ev.bind (row_ev a) ?_
  by_cases h : rowE a = 0
  · simp only [h, if_true]
    refine Ev.bind (row_ev b) ?_
    by_cases h2 : rowE b = 0
    · simp only [h2, if_true]
      refine Ev.bind (a := cmpR a b) ?_ (Ev.now _)
      unfold slices_CompareFunc_api_Val_api_Val_api_Val_api_Val_at_tuple_Compare_1.f
      have := cmp_l0 a b (row_ok h).1 (row_ok h2).1 a.length 0 (by omega) (by omega)
      rwa [List.drop_zero, List.drop_zero] at this
    · simp only [if_neg h2]
      exact Ev.now _
  · simp only [if_neg h]
    exact Ev.now _
def belowB (v w : S41) : Bool := if v.f0 = w.f0 then (if v.f0 = 1 then decide (v.f1 < w.f1) else Op.bytesLess v.f2.toList w.f2.toList) else decide (v.f0 < w.f0)
theorem below_eq (v w : S41) : shelfmarkref03_Below.f v.f0 v.f1 v.f2 w.f0 w.f1 w.f2 = some (belowB v w) := by
  unfold shelfmarkref03_Below.f belowB
  split
  · split <;> rfl
  · rfl
theorem val_below (v w : S41) (hv : good v = true) (hw : good w = true) : valC v w = if belowB v w = true then -1 else if belowB w v = true then 1 else 0 := by
  have hv' : goodB v.f0 v.f1 v.f2 = true := hv
  have hw' : goodB w.f0 w.f1 w.f2 = true := hw
  unfold goodB at hv' hw'
  unfold valC belowB
  by_cases h0 : v.f0 = w.f0
  · have e0 : cmpI v.f0 w.f0 = 0 := by unfold cmpI; rw [h0]; simp
    rw [if_neg (by simpa using e0), if_pos h0, if_pos h0.symm]
    by_cases h1 : v.f0 = 1
    · have h1w : w.f0 = 1 := by omega
      rw [if_neg (by omega), if_pos h1] at hv'
      rw [if_neg (by omega), if_pos h1w] at hw'
      have ev : v.f2.toList = [] := by simpa using hv'
      have ew : w.f2.toList = [] := by simpa using hw'
      have es : cmpS v.f2 w.f2 = 0 := by unfold cmpS; rw [ev, ew]; rfl
      rw [if_pos h1, if_pos h1w, es]
      unfold cmpI
      by_cases a1 : v.f1 < w.f1
      · simp [a1]
      · by_cases a2 : w.f1 < v.f1
        · simp [a1, a2]
        · simp [a1, a2]
    · have h1w : ¬ w.f0 = 1 := by omega
      have en : v.f1 = 0 ∧ w.f1 = 0 := by
        by_cases z : v.f0 = 0
        · rw [if_pos z] at hv'; rw [if_pos (show w.f0 = 0 by omega)] at hw'
          simp at hv' hw'
          exact ⟨hv'.1, hw'.1⟩
        · rw [if_neg z, if_neg h1] at hv'; rw [if_neg (by omega), if_neg h1w] at hw'
          by_cases z2 : v.f0 = 2
          · rw [if_pos z2] at hv'; rw [if_pos (show w.f0 = 2 by omega)] at hw'
            simp at hv' hw'
            exact ⟨hv'.1, hw'.1⟩
          · rw [if_neg z2] at hv'; cases hv'
      have e1 : cmpI v.f1 w.f1 = 0 := by unfold cmpI; rw [en.1, en.2]; rfl
      rw [if_neg (by simpa using e1), if_neg h1, if_neg h1w]
      rfl
  · have h0' : ¬ w.f0 = v.f0 := fun e => h0 e.symm
    by_cases a1 : v.f0 < w.f0
    · have e0 : cmpI v.f0 w.f0 = -1 := by unfold cmpI; rw [if_pos a1]
      rw [e0, if_pos (by decide), if_neg h0, decide_eq_true a1, if_pos rfl]
    · have a2 : w.f0 < v.f0 := by omega
      have e0 : cmpI v.f0 w.f0 = 1 := by unfold cmpI; rw [if_neg a1, if_pos a2]
      rw [e0, if_pos (by decide), if_neg h0, if_neg h0', decide_eq_false a1, decide_eq_true a2, if_neg (by decide), if_pos rfl]
theorem refCmp_l0 (a b : List S41) (ha : a.length ≤ 4) (hb : b.length ≤ 4) (ga : a.all good = true) (gb : b.all good = true) : ∀ (m i : Nat), i + m = a.length → i ≤ b.length → Ev (fun k => shelfmarkref03_Compare.l0 k a b (i : Int)) (cmpR (a.drop i) (b.drop i)) := by
  have last : ∀ i : Nat, (i ≤ a.length) → i ≤ b.length → (i = a.length ∨ i = b.length) → Ev (fun k => shelfmarkref03_Compare.j2 k a b (i : Int) false) (cmpR (a.drop i) (b.drop i)) := by
    intro i h1 h2 h3
    refine Ev.step (fun _ => shelfmarkref03_Compare.j2.eq_2 ..) ?_
    simp only [Bool.false_eq_true, if_false]
    by_cases e1 : i < a.length
    · rw [drop_get a i e1, List.drop_eq_nil_of_le (show b.length ≤ i by omega)]
      simp only [if_neg (show ¬ (a.length : Int) < (b.length : Int) by omega), if_pos (show (a.length : Int) > (b.length : Int) by omega)]
      exact Ev.now _
    · rw [List.drop_eq_nil_of_le (show a.length ≤ i by omega)]
      by_cases e2 : i < b.length
      · rw [drop_get b i e2]
        simp only [if_pos (show (a.length : Int) < (b.length : Int) by omega)]
        exact Ev.now _
      · rw [List.drop_eq_nil_of_le (show b.length ≤ i by omega)]
        simp only [if_neg (show ¬ (a.length : Int) < (b.length : Int) by omega), if_neg (show ¬ (a.length : Int) > (b.length : Int) by omega)]
        exact Ev.now _
  intro m
  induction m with
  | zero =>
    intro i h hi
    refine Ev.step (fun _ => shelfmarkref03_Compare.l0.eq_2 ..) ?_
    simp only [if_neg (show ¬ (i : Int) < (a.length : Int) by omega)]
    exact last i (by omega) hi (.inl (by omega))
  | succ m ih =>
    intro i h hi
    have hia : i < a.length := by omega
    refine Ev.step (fun _ => shelfmarkref03_Compare.l0.eq_2 ..) ?_
    simp only [if_pos (show (i : Int) < (a.length : Int) by omega)]
    by_cases h2 : i < b.length
    · have h2' : (i : Int) < (b.length : Int) := by omega
      simp only [h2', decide_true]
      refine Ev.step (fun _ => shelfmarkref03_Compare.j2.eq_2 ..) ?_
      have g1 : good a[i] = true := List.all_eq_true.1 ga _ (List.getElem_mem hia)
      have g2 : good b[i] = true := List.all_eq_true.1 gb _ (List.getElem_mem h2)
      simp only [if_true, if_pos (show (i : Int) < (a.length : Int) by omega), if_pos (show (0 : Int) ≤ (i : Int) by omega), if_pos h2', rd_get a i hia, rd_get b i h2, below_eq, Option.bind_some]
      rw [drop_get a i hia, drop_get b i h2]
      unfold cmpR
      rw [val_below _ _ g1 g2]
      by_cases k1 : belowB a[i] b[i] = true
      · simp only [k1, if_true]
        simpa using Ev.now (-1 : Int)
      · by_cases k2 : belowB b[i] a[i] = true
        · simp only [k1, k2, if_true, Bool.false_eq_true, if_false]
          simpa using Ev.now (1 : Int)
        · simp only [k1, k2, Bool.false_eq_true, if_false, if_true]
          rw [w64 (by omega) (by omega)]
          exact ih (i + 1) (by omega) (by omega)
    · simp only [decide_eq_false (show ¬ (i : Int) < (b.length : Int) by omega)]
      exact last i (by omega) hi (.inr (by omega))
theorem refCompare_ev (a b : List S41) : Ev (fun k => shelfmarkref03_Compare.f k a b) (cmpA a b) := by
  have none_ : Ev (fun k => shelfmarkref03_Compare.j0 k a b true) 0 := by
    refine Ev.step (fun _ => shelfmarkref03_Compare.j0.eq_2 ..) ?_
    simp only [if_true]
    exact Ev.now _
  unfold shelfmarkref03_Compare.f cmpA
  refine Ev.bind (refRow_ev a) ?_
  by_cases h : rowE a = 0
  · simp only [h, if_true]
    refine Ev.bind (refRow_ev b) ?_
    by_cases h2 : rowE b = 0
    · simp only [h2, if_true, bne_self_eq_false]
      refine Ev.step (fun _ => shelfmarkref03_Compare.j0.eq_2 ..) ?_
      simp only [Bool.false_eq_true, if_false]
      have := refCmp_l0 a b (row_ok h).1 (row_ok h2).1 (row_ok h).2 (row_ok h2).2 a.length 0 (by omega) (by omega)
      rwa [List.drop_zero, List.drop_zero] at this
    · have h2' : (rowE b != 0) = true := by simpa using h2
      simp only [if_neg h2, h2']
      exact none_
  · simp only [if_neg h]
    exact none_
end Go.Proofs.YtieifhjjjlmkbaaDoor.Tc
namespace Go.Proofs.YtieifhjjjlmkbaaDoor.Tr
open Go.RowKit Go.Proofs.YtieifhjjjlmkbaaDoor.PAll Go.Proofs.YtieifhjjjlmkbaaDoorW.PrintWords Go.Proofs.YtieifhjjjlmkbaaDoorW.PrintLast Go.Proofs.YtieifhjjjlmkbaaDoor.Hl Go.Proofs.YtieifhjjjlmkbaaDoor.Tl Go.Proofs.YtieifhjjjlmkbaaDoor.Tb Go.Proofs.YtieifhjjjlmkbaaDoor.Tk
set_option linter.unusedSimpArgs false
set_option linter.unusedVariables false
abbrev turn (t : List UInt8) : List UInt8 := bytesTurn 0 [0, 255] t
def toB (l : List Int) : List UInt8 := l.map fun n => UInt8.ofNat n.toNat
theorem ints_toB (l : List Int) (hb : ∀ c ∈ l, 0 ≤ c ∧ c < 256) : ints (toB l) = l := by
  unfold ints toB
  rw [List.map_map]
  conv => rhs; rw [← List.map_id l]
  refine List.map_congr_left (fun c hc => ?_)
  have := hb c hc
  show ((UInt8.ofNat c.toNat).toNat : Int) = c
  rw [UInt8.toNat_ofNat']
  omega
theorem toB_ints (l : List UInt8) : toB (ints l) = l := by
  unfold ints toB
  rw [List.map_map]
  conv => rhs; rw [← List.map_id l]
  refine List.map_congr_left (fun c hc => ?_)
  simp
/-- A value's bytes. -/
def formB (v : S41) : List UInt8 := if v.f0 = 1 then 2 :: toB (beFrom (topN v.f1) 8) else if v.f0 = 2 then 3 :: (turn v.f2.data.toList ++ [0, 0]) else [1]
theorem ints_formB (v : S41) : ints (formB v) = form v := by
  unfold formB form
  split
  · show (2 : Int) :: ints (toB _) = _
    rw [ints_toB _ (beFrom_bytes _ 8)]
  · split
    · unfold esc ints; simp
    · rfl
theorem formB_length (v : S41) : (formB v).length = (form v).length := by rw [← ints_formB]; simp [ints]
end Go.Proofs.YtieifhjjjlmkbaaDoor.Tr
namespace Go.Proofs.YtieifhjjjlmkbaaDoor.Ty
open Go.RowKit Go.Proofs.YtieifhjjjlmkbaaDoor.PAll Go.Proofs.YtieifhjjjlmkbaaDoorW.PrintWords Go.Proofs.YtieifhjjjlmkbaaDoorW.PrintLast Go.Proofs.YtieifhjjjlmkbaaDoor.Hl Go.Proofs.YtieifhjjjlmkbaaDoor.Tl Go.Proofs.YtieifhjjjlmkbaaDoor.Tb Go.Proofs.YtieifhjjjlmkbaaDoor.Tk Go.Proofs.YtieifhjjjlmkbaaDoor.Tr
set_option linter.unusedSimpArgs false
set_option linter.unusedVariables false
def rowB (a : List S41) : List UInt8 := a.flatMap formB
theorem key_bytes (a : List S41) : (strOfNums (keyL a)).data.toList = rowB a := by
  have h : keyL a = ints (rowB a) := by
    unfold keyL rowB ints
    rw [List.map_flatMap]
    congr 1
    funext v
    exact (ints_formB v).symm
  rw [h]
  show ((ints (rowB a)).map fun n => UInt8.ofNat n.toNat).toArray.toList = _
  rw [List.toList_toArray]
  exact toB_ints _
end Go.Proofs.YtieifhjjjlmkbaaDoor.Ty
namespace Go.Proofs.YtieifhjjjlmkbaaDoor.To
open Go.RowKit Go.Proofs.YtieifhjjjlmkbaaDoor.PAll Go.Proofs.YtieifhjjjlmkbaaDoorW.PrintWords Go.Proofs.YtieifhjjjlmkbaaDoorW.PrintLast Go.Proofs.YtieifhjjjlmkbaaDoor.Hl Go.Proofs.YtieifhjjjlmkbaaDoor.Tl Go.Proofs.YtieifhjjjlmkbaaDoor.Tb Go.Proofs.YtieifhjjjlmkbaaDoor.Tk Go.Proofs.YtieifhjjjlmkbaaDoor.Tc Go.Proofs.YtieifhjjjlmkbaaDoor.Tr Go.Proofs.YtieifhjjjlmkbaaDoor.Ty
set_option linter.unusedSimpArgs false
set_option linter.unusedVariables false
end Go.Proofs.YtieifhjjjlmkbaaDoor.To
namespace Go.Proofs.YtieifhjjjlmkbaaDoor.Tn
open Go.RowKit Go.Proofs.YtieifhjjjlmkbaaDoorW.PrintWords Go.Proofs.YtieifhjjjlmkbaaDoorW.PrintLast Go.Proofs.YtieifhjjjlmkbaaDoor.Hl
end Go.Proofs.YtieifhjjjlmkbaaDoor.Tn
namespace Go.Proofs.YtieifhjjjlmkbaaDoor.Vl
open Go.RowKit Go.Proofs.YtieifhjjjlmkbaaDoor.PAll Go.Proofs.YtieifhjjjlmkbaaDoorW.PrintWords Go.Proofs.YtieifhjjjlmkbaaDoorW.PrintLast Go.Proofs.YtieifhjjjlmkbaaDoor.Hl Go.Proofs.YtieifhjjjlmkbaaDoor.Tl
set_option linter.unusedSimpArgs false
set_option linter.unusedVariables false
/-- The first error there is. -/
def firstE : List Int → Int
  | [] => 0
  | x :: t => if x = 0 then firstE t else x
theorem first_l0 (l : List Int) (hl : l.length < 1000) : ∀ (m i : Nat), i + m = l.length → Ev (fun k => record_first.l0 k l (l.length : Int) (i : Int)) (firstE (l.drop i))
  | 0, i, h => by
    refine Ev.step (fun _ => record_first.l0.eq_2 ..) ?_
    rw [List.drop_eq_nil_of_le (by omega)]
    simp only [if_neg (show ¬ (i : Int) < (l.length : Int) by omega)]
    exact Ev.now _
  | m + 1, i, h => by
    have hi : i < l.length := by omega
    have hr : rd l (i : Int) = l[i] := by
      unfold rd
      rw [Int.toNat_natCast, List.getD_eq_getElem?_getD, List.getElem?_eq_getElem hi]; rfl
    refine Ev.step (fun _ => record_first.l0.eq_2 ..) ?_
    simp only [if_pos (show (i : Int) < (l.length : Int) by omega), if_pos (show (0 : Int) ≤ (i : Int) by omega), hr]
    rw [List.drop_eq_getElem_cons hi, firstE]
    by_cases hz : l[i] = 0
    · simp only [hz, if_true]
      rw [w64 (by omega) (by omega)]
      exact first_l0 l hl m (i + 1) (by omega)
    · simp only [if_neg hz]
      exact Ev.now _
theorem first_ev (l : List Int) (hl : l.length < 1000) : Ev (fun k => record_first.f k l) (firstE l) := by
  unfold record_first.f
  have := first_l0 l hl l.length 0 (by omega)
  rwa [List.drop_zero] at this
theorem number_eq (a : Int) : record_number.f a = some (decide (1 ≤ a ∧ a ≤ 6)) := by
  unfold record_number.f
  by_cases h : a ≥ 1
  · have : (1 ≤ a ∧ a ≤ 6) = (a ≤ 6) := by rw [eq_iff_iff]; omega
    simp only [if_pos h, this]
  · rw [if_neg h, decide_eq_false (by omega)]
theorem light2_ev (a b : List S41) : Ev (fun k => shelfmarklaw04_light.f k a b) (lightB 1000 a 0 0 && lightB 1000 b 0 0) := by
  unfold shelfmarklaw04_light.f
  refine Ev.bind (light_ev a 1000 (by omega)) ?_
  cases h : lightB 1000 a 0 0 with
  | true =>
    simp only [if_true, Bool.true_and]
    exact Ev.bind (light_ev b 1000 (by omega)) (Ev.now _)
  | false =>
    simp only [Bool.false_eq_true, if_false, Bool.false_and]
    exact Ev.now _
end Go.Proofs.YtieifhjjjlmkbaaDoor.Vl
namespace Go.Proofs.YtieifhjjjlmkbaaDoor.Va
open Go.RowKit Go.Proofs.YtieifhjjjlmkbaaDoor.PAll Go.Proofs.YtieifhjjjlmkbaaDoorW.PrintWords Go.Proofs.YtieifhjjjlmkbaaDoorW.PrintLast Go.Proofs.YtieifhjjjlmkbaaDoor.Hl Go.Proofs.YtieifhjjjlmkbaaDoor.Tl Go.Proofs.YtieifhjjjlmkbaaDoor.Tb Go.Proofs.YtieifhjjjlmkbaaDoor.Tk Go.Proofs.YtieifhjjjlmkbaaDoor.Tc Go.Proofs.YtieifhjjjlmkbaaDoor.Tr Go.Proofs.YtieifhjjjlmkbaaDoor.Ty Go.Proofs.YtieifhjjjlmkbaaDoor.Vl
set_option linter.unusedSimpArgs false
set_option linter.unusedVariables false
theorem rowB_len : ∀ (l : List S41), l.all good = true → (rowB l).length ≤ 67 * l.length
  | [], _ => by simp [rowB]
  | v :: t, hg => by
    rw [List.all_cons, Bool.and_eq_true] at hg
    have h1 := rowB_len t hg.2
    have h2 := form_len v hg.1
    rw [← formB_length] at h2
    simp only [rowB, List.flatMap_cons, List.length_append, List.length_cons] at *
    omega
theorem key_size {l : List S41} (h : rowE l = 0) : (strOfNums (keyL l)).size ≤ 268 := by
  obtain ⟨h1, h2⟩ := Tk.row_ok h
  have := rowB_len l h2
  rw [← data_length, key_bytes]; omega
theorem keyR_ok {l : List S41} (h : rowE l = 0) : keyR l = (strOfNums (keyL l), 0) := by unfold keyR; rw [if_pos h]
theorem keyR_bad {l : List S41} (h : ¬ rowE l = 0) : keyR l = (⟨#[]⟩, rowE l) := by unfold keyR; rw [if_neg h]
def front (a : Int) : ByteArray := strOfNums [0, a % 256]
theorem front_size (a : Int) : (front a).size = 2 := rfl
theorem id2_eq (a : Int) (h : 1 ≤ a ∧ a ≤ 6) : record_id2.f a = some (front a) := by
  unfold record_id2.f front
  rw [show a / 256 % 256 = 0 by omega]
/-- The range of an area's entries. -/
def areaR (a : Int) (low high : List S41) : ByteArray × ByteArray × Int :=
  if 1 ≤ a ∧ a ≤ 6 then (if rowE low = 0 then (if rowE high = 0 then (front a ++ strOfNums (keyL low), strOfNums (nextL (bytesOf (front a ++ strOfNums (keyL high)))), 0) else (⟨#[]⟩, ⟨#[]⟩, rowE high)) else (⟨#[]⟩, ⟨#[]⟩, rowE low)) else (⟨#[]⟩, ⟨#[]⟩, 1)
theorem area_ev (a : Int) (low high : List S41) : Ev (fun k => record_Area.f k a low high) (areaR a low high) := by
  unfold record_Area.f areaR
  simp only [number_eq, Option.bind_some]
  by_cases h : 1 ≤ a ∧ a ≤ 6
  · simp only [decide_eq_true h, if_pos h, if_true, id2_eq a h, Option.bind_some, front_size]
    refine Ev.bind (key_ev low) ?_
    refine Ev.bind (key_ev high) ?_
    refine Ev.bind (first_ev _ (by simp)) ?_
    by_cases h1 : rowE low = 0
    · by_cases h2 : rowE high = 0
      · have z1 := key_size h1
        have z2 := key_size h2
        have z3 : (front a ++ strOfNums (keyL high)).size ≤ 140737488351232 := by rw [ByteArray.size_append, front_size]; omega
        simp only [keyR_ok h1, keyR_ok h2, firstE, if_true, if_pos h1, if_pos h2, if_pos (show 2 + (strOfNums (keyL low)).size ≤ 9223372036854775807 by omega), if_pos (show 2 + (strOfNums (keyL high)).size ≤ 9223372036854775807 by omega), tuple_Next.f, if_pos z3, Option.bind_some]
        exact Ev.now _
      · simp only [keyR_ok h1, keyR_bad h2, firstE, if_true, if_pos h1, if_neg h2]
        exact Ev.now _
    · simp only [keyR_bad h1, firstE, if_neg h1]
      exact Ev.now _
  · have hd : decide (1 ≤ a ∧ a ≤ 6) = false := decide_eq_false h
    simp only [hd, if_neg h, Bool.false_eq_true, if_false]
    exact Ev.now _
theorem refArea_ev (a : Int) (low high : List S41) : Ev (fun k => shelfmarkref04_Area.f k a low high) (areaR a low high) := by
  have bad : Ev (fun k => shelfmarkref04_Area.j0 k a low high true) ((⟨#[]⟩ : ByteArray), (⟨#[]⟩ : ByteArray), 1) := by
    refine Ev.step (fun _ => shelfmarkref04_Area.j0.eq_2 ..) ?_
    simp only [if_true]
    exact Ev.now _
  unfold shelfmarkref04_Area.f areaR
  by_cases h0 : a < 1
  · simp only [if_pos h0, if_neg (show ¬ (1 ≤ a ∧ a ≤ 6) by omega)]
    exact bad
  · by_cases h6 : a > 6
    · simp only [if_neg h0, decide_eq_true h6, if_neg (show ¬ (1 ≤ a ∧ a ≤ 6) by omega)]
      exact bad
    · simp only [if_neg h0, decide_eq_false h6, if_pos (show 1 ≤ a ∧ a ≤ 6 by omega)]
      refine Ev.step (fun _ => shelfmarkref04_Area.j0.eq_2 ..) ?_
      simp only [Bool.false_eq_true, if_false]
      refine Ev.bind (refKey_ev low) ?_
      by_cases h1 : rowE low = 0
      · simp only [keyR_ok h1, if_pos h1, if_true]
        refine Ev.bind (refKey_ev high) ?_
        by_cases h2 : rowE high = 0
        · have z1 := key_size h1
          have z2 := key_size h2
          have z3 : (front a ++ strOfNums (keyL high)).size ≤ 140737488351232 := by rw [ByteArray.size_append, front_size]; omega
          have zf : (strOfNums [0, a % 256]).size = 2 := rfl
          simp only [keyR_ok h2, if_pos h2, if_true, Option.bind_some, zf, if_pos (show 2 + (strOfNums (keyL low)).size ≤ 9223372036854775807 by omega), if_pos (show 2 + (strOfNums (keyL high)).size ≤ 9223372036854775807 by omega), shelfmarkref03_Next.f]
          rw [show strOfNums [0, a % 256] = front a from rfl]
          simp only [if_pos z3, Option.bind_some]
          exact Ev.now _
        · simp only [keyR_bad h2, if_neg h2]
          exact Ev.now _
      · simp only [keyR_bad h1, if_neg h1]
        exact Ev.now _
/-- Does what is shown lie in an area? -/
def liesB (l low high : List S41) : Bool := if rowE l = 0 then (if rowE low = 0 then (if rowE high = 0 then (if cmpR l low ≥ 0 then decide (cmpR (l.take high.length) high ≤ 0) else false) else false) else false) else false
theorem rowE_take {l : List S41} (h : rowE l = 0) (n : Nat) : rowE (l.take n) = 0 := by
  obtain ⟨h1, h2⟩ := Tk.row_ok h
  unfold rowE
  rw [if_neg (by rw [List.length_take]; omega), if_pos]
  rw [List.all_eq_true] at *
  exact fun x hx => h2 x (List.mem_of_mem_take hx)
theorem cmpA_ok {a b : List S41} (h : rowE a = 0) (h2 : rowE b = 0) : cmpA a b = cmpR a b := by unfold cmpA; rw [if_pos h, if_pos h2]
theorem take_mn (l h : List S41) : l.take (mn (l.length : Int) (h.length : Int)).toNat = l.take h.length := by
  unfold mn
  split
  · rw [Int.toNat_natCast]
  · rw [Int.toNat_natCast, List.take_of_length_le (by omega), List.take_of_length_le (by omega)]
theorem lies_end (l low high : List S41) (h1 : rowE l = 0) (h2 : rowE low = 0) (h3 : rowE high = 0) : Ev (fun k => record_Lies.l0 k l low high [l, low, high] 3 3) (liesB l low high) := by
  refine Ev.step (fun _ => record_Lies.l0.eq_2 ..) ?_
  simp only [if_neg (show ¬ (3 : Int) < 3 by decide)]
  refine Ev.bind (compare_ev l low) ?_
  unfold liesB
  rw [cmpA_ok h1 h2, if_pos h1, if_pos h2, if_pos h3]
  have hm : 0 ≤ mn (l.length : Int) (high.length : Int) ∧ mn (l.length : Int) (high.length : Int) ≤ (l.length : Int) := by unfold mn; split <;> omega
  by_cases h : cmpR l low ≥ 0
  · simp only [if_pos h, if_pos hm.1, if_pos hm.2]
    rw [take_mn]
    refine Ev.bind (compare_ev _ high) ?_
    rw [cmpA_ok (rowE_take h1 _) h3]
    exact Ev.now _
  · simp only [if_neg h]
    exact Ev.now _
theorem lies_ev (l low high : List S41) : Ev (fun k => record_Lies.f k l low high) (liesB l low high) := by
  unfold record_Lies.f
  simp only [Option.bind_some, List.length_cons, List.length_nil]
  have r0 : rd_L6 [l, low, high] 0 = l := rfl
  have r1 : rd_L6 [l, low, high] 1 = low := rfl
  have r2 : rd_L6 [l, low, high] 2 = high := rfl
  have hc : ((0 + 1 + 1 + 1 : Nat) : Int) = 3 := rfl
  rw [hc]
  refine Ev.step (fun _ => record_Lies.l0.eq_2 ..) ?_
  simp only [if_pos (show (0 : Int) < 3 by decide), if_pos (show (0 : Int) ≤ 0 by decide), List.length_cons, List.length_nil, hc, r0]
  refine Ev.bind (key_ev l) ?_
  by_cases h1 : rowE l = 0
  · simp only [keyR_ok h1, if_true]
    rw [w64 (by omega) (by omega)]
    refine Ev.step (fun _ => record_Lies.l0.eq_2 ..) ?_
    simp only [show (0 : Int) + 1 = 1 from rfl, if_pos (show (1 : Int) < 3 by decide), if_pos (show (0 : Int) ≤ 1 by decide), List.length_cons, List.length_nil, hc, r1]
    refine Ev.bind (key_ev low) ?_
    by_cases h2 : rowE low = 0
    · simp only [keyR_ok h2, if_true]
      rw [w64 (by omega) (by omega)]
      refine Ev.step (fun _ => record_Lies.l0.eq_2 ..) ?_
      simp only [show (1 : Int) + 1 = 2 from rfl, if_pos (show (2 : Int) < 3 by decide), if_pos (show (0 : Int) ≤ 2 by decide), List.length_cons, List.length_nil, hc, r2]
      refine Ev.bind (key_ev high) ?_
      by_cases h3 : rowE high = 0
      · simp only [keyR_ok h3, if_true]
        rw [w64 (by omega) (by omega)]
        exact lies_end l low high h1 h2 h3
      · simp only [keyR_bad h3, if_neg h3, liesB, ite_self]
        exact Ev.now _
    · simp only [keyR_bad h2, if_neg h2, liesB, ite_self]
      exact Ev.now _
  · simp only [keyR_bad h1, if_neg h1, liesB]
    exact Ev.now _
theorem refLies_ev (l low high : List S41) : Ev (fun k => shelfmarkref04_Lies.f k l low high) (liesB l low high) := by
  have bad : Ev (fun k => shelfmarkref04_Lies.j0 k l low high true) false := by
    refine Ev.step (fun _ => shelfmarkref04_Lies.j0.eq_2 ..) ?_
    simp only [if_true]
    exact Ev.now _
  unfold shelfmarkref04_Lies.f liesB
  refine Ev.bind (refRow_ev l) ?_
  by_cases h1 : rowE l = 0
  · simp only [if_pos h1]
    refine Ev.bind (refRow_ev low) ?_
    by_cases h2 : rowE low = 0
    · simp only [if_pos h2]
      refine Ev.bind (refRow_ev high) ?_
      by_cases h3 : rowE high = 0
      · simp only [h3, bne_self_eq_false, if_true]
        refine Ev.step (fun _ => shelfmarkref04_Lies.j0.eq_2 ..) ?_
        simp only [Bool.false_eq_true, if_false]
        by_cases hl : (l.length : Int) > (high.length : Int)
        · simp only [if_pos hl, if_pos (show (0 : Int) ≤ (high.length : Int) by omega), if_pos (show (high.length : Int) ≤ (l.length : Int) by omega), Int.toNat_natCast]
          refine Ev.bind (refCompare_ev l low) ?_
          rw [cmpA_ok h1 h2]
          by_cases h : cmpR l low ≥ 0
          · simp only [if_pos h]
            refine Ev.bind (refCompare_ev _ high) ?_
            rw [cmpA_ok (rowE_take h1 _) h3]
            exact Ev.now _
          · simp only [if_neg h]
            exact Ev.now _
        · simp only [if_neg hl]
          rw [List.take_of_length_le (show l.length ≤ high.length by omega)]
          refine Ev.bind (refCompare_ev l low) ?_
          rw [cmpA_ok h1 h2]
          by_cases h : cmpR l low ≥ 0
          · simp only [if_pos h]
            refine Ev.bind (refCompare_ev _ high) ?_
            rw [cmpA_ok h1 h3]
            exact Ev.now _
          · simp only [if_neg h]
            exact Ev.now _
      · have e : (rowE high != 0) = true := by simpa using h3
        simp only [if_neg h3, e]
        exact bad
    · simp only [if_neg h2]
      exact bad
  · simp only [if_neg h1]
    exact bad
end Go.Proofs.YtieifhjjjlmkbaaDoor.Va
namespace Go.Proofs.YtieifhjjjlmkbaaDoor.Vf
open Go.RowKit Go.Proofs.YtieifhjjjlmkbaaDoor.PAll Go.Proofs.YtieifhjjjlmkbaaDoorW.PrintWords Go.Proofs.YtieifhjjjlmkbaaDoorW.PrintLast Go.Proofs.YtieifhjjjlmkbaaDoor.Hl Go.Proofs.YtieifhjjjlmkbaaDoor.Tl Go.Proofs.YtieifhjjjlmkbaaDoor.Tb Go.Proofs.YtieifhjjjlmkbaaDoor.Tk Go.Proofs.YtieifhjjjlmkbaaDoor.Tc Go.Proofs.YtieifhjjjlmkbaaDoor.Tr Go.Proofs.YtieifhjjjlmkbaaDoor.Ty Go.Proofs.YtieifhjjjlmkbaaDoor.To Go.Proofs.YtieifhjjjlmkbaaDoor.Tn Go.Proofs.YtieifhjjjlmkbaaDoor.Vl Go.Proofs.YtieifhjjjlmkbaaDoor.Va
set_option linter.unusedSimpArgs false
set_option linter.unusedVariables false
end Go.Proofs.YtieifhjjjlmkbaaDoor.Vf
