/- DERIVED. What the printed functions come to, as far as this law asks it. Conditions: those that each lemma names. -/
import Derived.Test.YtieifhjjjlmkbaaDoorHl
import Derived.Laws.BitsLemmas
import Derived.Test.YtieifhjjjlmkbaaDoorPOrdx2
import Derived.Test.YtieifhjjjlmkbaaDoorPOrdx4
import Derived.Test.YtieifhjjjlmkbaaDoorPOrdx5
import Derived.Test.YtieifhjjjlmkbaaDoorPOrdx6
import Derived.Test.YtieifhjjjlmkbaaDoorPOrdx7
import Derived.Test.YtieifhjjjlmkbaaDoorPOrdx8
import Derived.Test.YtieifhjjjlmkbaaDoorPOrdx9
import Derived.Test.YtieifhjjjlmkbaaDoorPOrdx10
import Derived.Test.YtieifhjjjlmkbaaDoorPOrdx11
namespace Go.Proofs.YtieifhjjjlmkbaaDoor.Tb
open Go.RowKit Go.Proofs.YtieifhjjjlmkbaaDoorW.PrintWords Go.Proofs.YtieifhjjjlmkbaaDoorW.PrintLast Go.Proofs.YtieifhjjjlmkbaaDoor.Hl
set_option linter.unusedSimpArgs false
theorem wrap_u64 (n : Int) : IntKind.u64.wrap n = n % 18446744073709551616 := by simp [IntKind.wrap, IntKind.bits, IntKind.signed]
theorem xor_low (b : Nat) (h : b < 9223372036854775808) : b ^^^ 9223372036854775808 = b + 9223372036854775808 := by
  have h1 : b + 9223372036854775808 = 2 ^ 63 * 1 ||| b := by
    rw [← Nat.two_pow_add_eq_or_of_lt (i := 63) (by simpa using h) 1]; omega
  rw [h1]
  apply Nat.eq_of_testBit_eq
  intro i
  rw [Nat.testBit_xor, Nat.testBit_or, show (9223372036854775808 : Nat) = 2 ^ 63 from rfl, Nat.mul_one, Nat.testBit_two_pow]
  by_cases hi : 63 = i
  · subst hi
    rw [Nat.testBit_lt_two_pow (show b < 2 ^ 63 by simpa using h)]
    simp
  · simp [hi]
theorem xor_top (a : Nat) (h : a < 18446744073709551616) : a ^^^ 9223372036854775808 = (a + 9223372036854775808) % 18446744073709551616 := by
  by_cases h1 : a < 9223372036854775808
  · rw [xor_low a h1]; omega
  · obtain ⟨b, rfl⟩ : ∃ b, a = b + 9223372036854775808 := ⟨a - 9223372036854775808, by omega⟩
    rw [← xor_low b (by omega), Nat.xor_assoc, Nat.xor_self, Nat.xor_zero, xor_low b (by omega)]
    omega
theorem bits_top (x : Int) (h0 : 0 ≤ x) (h1 : x < 18446744073709551616) : bits .xor .u64 x 9223372036854775808 = (x + 9223372036854775808) % 18446744073709551616 := by
  obtain ⟨a, rfl⟩ := Int.eq_ofNat_of_zero_le h0
  have h2 : a < 18446744073709551616 := by omega
  have h3 : a % 2 ^ IntKind.u64.bits = a := Nat.mod_eq_of_lt (by simpa [IntKind.bits] using h2)
  have h4 : 9223372036854775808 % 2 ^ IntKind.u64.bits = 9223372036854775808 := by decide
  have h5 := xor_top a h2
  simp only [bits, show (9223372036854775808 : Int) = ((9223372036854775808 : Nat) : Int) from rfl, BitVec.ofInt_natCast, BitVec.toNat_xor, BitVec.toNat_ofNat, h3, h4, h5]
  rw [wrap_u64]
  omega
theorem pow_cast (k : Nat) : ((256 ^ k : Nat) : Int) = (256 : Int) ^ k := by rw [Int.natCast_pow]; rfl
/-- The bytes of a number, the greatest first. -/
def beFrom (X : Int) : Nat → List Int
  | 0 => []
  | m + 1 => (shr .u64 X ((8 * m : Nat) : Int)) % 256 :: beFrom X m
theorem beFrom_length (X : Int) : ∀ m, (beFrom X m).length = m
  | 0 => rfl
  | m + 1 => by simp [beFrom, beFrom_length X m]
theorem shr_eq (X : Int) (m : Nat) (h : m ≤ 8) : shr .u64 X ((8 * m : Nat) : Int) = X / 256 ^ m := by
  unfold shr
  rw [Int.toNat_natCast, Nat.min_eq_left (show 8 * m ≤ IntKind.u64.bits by simp [IntKind.bits]; omega), Int.pow_mul]
  rfl
theorem beFrom_bytes (X : Int) : ∀ m, ∀ c ∈ beFrom X m, 0 ≤ c ∧ c < 256
  | 0, c, h => by cases h
  | m + 1, c, h => by
    rcases List.mem_cons.1 h with rfl | h
    · omega
    · exact beFrom_bytes X m c h
theorem emod_step (X : Int) (h : 0 ≤ X) (m : Nat) : X % (256 ^ m * 256) = X % 256 ^ m + 256 ^ m * (X / 256 ^ m % 256) := by
  obtain ⟨n, rfl⟩ := Int.eq_ofNat_of_zero_le h
  have := Nat.mod_mul (x := n) (a := 256 ^ m) (b := 256)
  rw [← pow_cast, ← Int.natCast_ediv, show (256 : Int) = ((256 : Nat) : Int) from rfl, ← Int.natCast_mul, ← Int.natCast_emod, ← Int.natCast_emod, ← Int.natCast_emod, ← Int.natCast_mul, ← Int.natCast_add, this]
end Go.Proofs.YtieifhjjjlmkbaaDoor.Tb
namespace Go.Proofs.YtieifhjjjlmkbaaDoor.Tl
open Go.RowKit Go.Proofs.YtieifhjjjlmkbaaDoor.POrd Go.Proofs.YtieifhjjjlmkbaaDoorW.PrintWords Go.Proofs.YtieifhjjjlmkbaaDoorW.PrintLast Go.Proofs.YtieifhjjjlmkbaaDoor.Hl
set_option linter.unusedSimpArgs false
set_option linter.unusedVariables false
theorem w64 {x : Int} (h0 : -9223372036854775808 ≤ x) (h1 : x < 9223372036854775808) : wrap64 x = x := by
  exact Go.IntWalk.wrap64_in x ⟨h0, by omega⟩
/-- Is a value good? -/
def goodB (k n : Int) (s : ByteArray) : Bool := if k = 0 then (n == 0 && (s.toList == ([] : List UInt8))) else if k = 1 then s.toList == ([] : List UInt8) else if k = 2 then (n == 0 && decide ((s.size : Int) ≤ 32)) else false
def good (v : S41) : Bool := goodB v.f0 v.f1 v.f2
theorem Good_eq (k n : Int) (s : ByteArray) : tuple_Good.f k n s = some (goodB k n s) := by
  unfold tuple_Good.f goodB
  by_cases h0 : k = 0
  · simp [h0]
  · by_cases h1 : k = 1
    · simp [h1]
    · by_cases h2 : k = 2
      · by_cases h3 : n = 0
        · simp [h2, h3]
        · simp [h2, h3]
      · simp [h0, h1, h2]
theorem refGood_eq (k n : Int) (s : ByteArray) : shelfmarkref03_Good.f k n s = some (goodB k n s) := by
  unfold shelfmarkref03_Good.f goodB
  by_cases h0 : k = 0
  · subst h0
    by_cases h3 : n = 0
    · by_cases h4 : s.toList = ([] : List UInt8) <;> simp [h3, h4]
    · simp [h3]
  · by_cases h1 : k = 1
    · subst h1
      by_cases h4 : s.toList = ([] : List UInt8) <;> simp [h4]
    · by_cases h2 : k = 2
      · subst h2
        by_cases h3 : n = 0
        · simp [h3]
        · simp [h3]
      · simp [h0, h1, h2]
theorem row1_eq (k n : Int) (s : ByteArray) : tuple_row_1_v11.f k n s = some (!goodB k n s) := by
  show tuple_row_1.f k n s = _
  unfold tuple_row_1.f
  rw [Good_eq]
  rfl
theorem rd_get (l : List S41) (i : Nat) (h : i < l.length) : rd_T41 l (i : Int) = l[i] := by
  unfold rd_T41
  rw [Int.toNat_natCast, List.getD_eq_getElem?_getD, List.getElem?_eq_getElem h]
  rfl
theorem drop_get (l : List S41) (i : Nat) (h : i < l.length) : l.drop i = l[i] :: l.drop (i + 1) := List.drop_eq_getElem_cons h
/-- The error of a row. -/
def rowE (l : List S41) : Int := if 4 < l.length then 4 else if l.all good then 0 else 1
theorem index_l0 (l : List S41) (hl : l.length ≤ 4) : ∀ m i : Nat, i + m = l.length → ∃ r : Int, Ev (fun k => slices_IndexFunc_api_Val_api_Val_at_tuple_row_1.l0 k l (l.length : Int) (i : Int)) r ∧ (decide (r ≥ 0) = !((l.drop i).all good))
  | 0, i, h => by
    refine ⟨-1, Ev.step (fun _ => slices_IndexFunc_api_Val_api_Val_at_tuple_row_1.l0.eq_2 ..) ?_, ?_⟩
    · simp only [if_neg (show ¬ (i : Int) < (l.length : Int) by omega)]
      exact Ev.now _
    · rw [List.drop_eq_nil_of_le (by omega)]; rfl
  | m + 1, i, h => by
    have hi : i < l.length := by omega
    by_cases hg : good l[i] = true
    · obtain ⟨r, hr, hd⟩ := index_l0 l hl m (i + 1) (by omega)
      refine ⟨r, Ev.step (fun _ => slices_IndexFunc_api_Val_api_Val_at_tuple_row_1.l0.eq_2 ..) ?_, ?_⟩
      · have hg' : goodB (l[i]).f0 (l[i]).f1 (l[i]).f2 = true := hg
        simp only [if_pos (show (i : Int) < (l.length : Int) by omega), if_pos (show (0 : Int) ≤ (i : Int) by omega), row1_eq, Option.bind_some, rd_get l i hi, hg', Bool.not_true, Bool.false_eq_true, if_false]
        rw [w64 (by omega) (by omega)]
        exact hr
      · rw [hd, drop_get l i hi, List.all_cons, hg, Bool.true_and]
    · have hg0 : good l[i] = false := by simpa using hg
      refine ⟨i, Ev.step (fun _ => slices_IndexFunc_api_Val_api_Val_at_tuple_row_1.l0.eq_2 ..) ?_, ?_⟩
      · have hg' : goodB (l[i]).f0 (l[i]).f1 (l[i]).f2 = false := hg0
        simp only [if_pos (show (i : Int) < (l.length : Int) by omega), if_pos (show (0 : Int) ≤ (i : Int) by omega), row1_eq, Option.bind_some, rd_get l i hi, hg', Bool.not_false, if_true]
        exact Ev.now _
      · rw [drop_get l i hi, List.all_cons, hg0, Bool.false_and]
        simp
theorem row_ev (l : List S41) : Ev (fun k => tuple_row.f k l) (rowE l) := by
  unfold tuple_row.f rowE
  by_cases h : 4 < l.length
  · simp only [if_pos h, if_pos (show (l.length : Int) > 4 by omega)]
    exact Ev.now _
  · simp only [if_neg h, if_neg (show ¬ (l.length : Int) > 4 by omega)]
    obtain ⟨r, hr, hd⟩ := index_l0 l (by omega) l.length 0 (by omega)
    refine Ev.bind (a := decide (r ≥ 0)) ?_ ?_
    · unfold slices_ContainsFunc_api_Val_api_Val_at_tuple_row_1.f slices_IndexFunc_api_Val_api_Val_at_tuple_row_1.f
      exact Ev.bind hr (Ev.now _)
    · rw [hd, List.drop_zero]
      cases l.all good
      · simpa using Ev.now (1 : Int)
      · simpa using Ev.now (0 : Int)
theorem refRow_l0 (l : List S41) (hl : l.length ≤ 4) : ∀ m i : Nat, i + m = l.length → Ev (fun k => shelfmarkref03_Row.l0 k l (i : Int)) (if (l.drop i).all good then 0 else 1)
  | 0, i, h => by
    refine Ev.step (fun _ => shelfmarkref03_Row.l0.eq_2 ..) ?_
    rw [List.drop_eq_nil_of_le (by omega)]
    simp only [if_neg (show ¬ (i : Int) < (l.length : Int) by omega)]
    exact Ev.now _
  | m + 1, i, h => by
    have hi : i < l.length := by omega
    refine Ev.step (fun _ => shelfmarkref03_Row.l0.eq_2 ..) ?_
    simp only [if_pos (show (i : Int) < (l.length : Int) by omega), if_pos (show (0 : Int) ≤ (i : Int) by omega), refGood_eq, Option.bind_some, rd_get l i hi]
    rw [drop_get l i hi, List.all_cons]
    by_cases hg : good l[i] = true
    · have hg' : goodB (l[i]).f0 (l[i]).f1 (l[i]).f2 = true := hg
      simp only [hg', hg, Bool.true_and, if_true]
      rw [w64 (by omega) (by omega)]
      exact refRow_l0 l hl m (i + 1) (by omega)
    · have hg0 : good l[i] = false := by simpa using hg
      have hg' : goodB (l[i]).f0 (l[i]).f1 (l[i]).f2 = false := hg0
      simp only [hg', hg0, Bool.false_and, Bool.false_eq_true, if_false]
      exact Ev.now _
theorem refRow_ev (l : List S41) : Ev (fun k => shelfmarkref03_Row.f k l) (rowE l) := by
  unfold shelfmarkref03_Row.f rowE
  by_cases h : 4 < l.length
  · simp only [if_pos h, if_pos (show (l.length : Int) > 4 by omega)]
    exact Ev.now _
  · simp only [if_neg h, if_neg (show ¬ (l.length : Int) > 4 by omega)]
    have := refRow_l0 l (by omega) l.length 0 (by omega)
    rwa [List.drop_zero] at this
/-- Are the texts of a row so long at most, in all? -/
def lightB (most : Int) : List S41 → Int → Int → Bool
  | [], _, _ => true
  | v :: t, n, i => if (v.f2.size : Int) > most ∨ i > most then false else if n + (v.f2.size : Int) > most then false else lightB most t (n + (v.f2.size : Int)) (i + 1)
theorem light_l0 (l : List S41) (most : Int) (hm : 0 ≤ most ∧ most ≤ 1000000) : ∀ (m i : Nat) (n : Int), i + m = l.length → 0 ≤ n → n ≤ most → (i : Int) ≤ most + 1 → Ev (fun k => shelfmarkref03_Light.l0 k l most n (i : Int)) (lightB most (l.drop i) n (i : Int))
  | 0, i, n, h, h0, h1, h2 => by
    refine Ev.step (fun _ => shelfmarkref03_Light.l0.eq_2 ..) ?_
    rw [List.drop_eq_nil_of_le (by omega)]
    simp only [if_neg (show ¬ (i : Int) < (l.length : Int) by omega)]
    exact Ev.now _
  | m + 1, i, n, h, h0, h1, h2 => by
    have hi : i < l.length := by omega
    refine Ev.step (fun _ => shelfmarkref03_Light.l0.eq_2 ..) ?_
    rw [drop_get l i hi]
    simp only [if_pos (show (i : Int) < (l.length : Int) by omega), if_pos (show (0 : Int) ≤ (i : Int) by omega), rd_get l i hi, lightB]
    by_cases h3 : ((l[i]).f2.size : Int) > most
    · simp only [if_pos h3, h3, true_or, if_true]
      refine Ev.step (fun _ => shelfmarkref03_Light.j1.eq_2 ..) ?_
      simp only [if_true]
      exact Ev.now _
    · simp only [if_neg h3, h3, false_or]
      refine Ev.step (fun _ => shelfmarkref03_Light.j1.eq_2 ..) ?_
      by_cases h4 : (i : Int) > most
      · simp only [h4, decide_true, if_true]
        exact Ev.now _
      · simp only [h4, decide_false, Bool.false_eq_true, if_false, if_pos (show (i : Int) < (l.length : Int) by omega), if_pos (show (0 : Int) ≤ (i : Int) by omega), rd_get l i hi]
        rw [w64 (x := n + ((l[i]).f2.size : Int)) (by omega) (by omega), w64 (x := (i : Int) + 1) (by omega) (by omega)]
        by_cases h5 : n + ((l[i]).f2.size : Int) > most
        · simp only [h5, if_true]
          exact Ev.now _
        · simp only [h5, if_false]
          exact light_l0 l most hm m (i + 1) _ (by omega) (by omega) (by omega) (by omega)
theorem light_ev (l : List S41) (most : Int) (hm : 0 ≤ most ∧ most ≤ 1000000) : Ev (fun k => shelfmarkref03_Light.f k l most) (lightB most l 0 0) := by
  unfold shelfmarkref03_Light.f
  have := light_l0 l most hm l.length 0 0 (by omega) (by omega) (by omega) (by omega)
  rwa [List.drop_zero] at this
end Go.Proofs.YtieifhjjjlmkbaaDoor.Tl
namespace Go.Proofs.YtieifhjjjlmkbaaDoor.Tk
open Go.RowKit Go.Proofs.YtieifhjjjlmkbaaDoor.POrd Go.Proofs.YtieifhjjjlmkbaaDoorW.PrintWords Go.Proofs.YtieifhjjjlmkbaaDoorW.PrintLast Go.Proofs.YtieifhjjjlmkbaaDoor.Hl Go.Proofs.YtieifhjjjlmkbaaDoor.Tl Go.Proofs.YtieifhjjjlmkbaaDoor.Tb
set_option linter.unusedSimpArgs false
set_option linter.unusedVariables false
def ints (l : List UInt8) : List Int := l.map fun b => (b.toNat : Int)
/-- A text's bytes in a key. -/
def esc (s : ByteArray) : List Int := ints (bytesTurn 0 [0, 255] s.data.toList)
/-- A number of 64 bits, the sign turned. -/
def topN (n : Int) : Int := (n % 18446744073709551616 + 9223372036854775808) % 18446744073709551616
/-- A value's bytes. -/
def form (v : S41) : List Int := if v.f0 = 1 then 2 :: beFrom (topN v.f1) 8 else if v.f0 = 2 then 3 :: (esc v.f2 ++ [0, 0]) else [1]
theorem esc_count (l : List UInt8) : (bytesTurn 0 [0, 255] l).length ≤ 2 * l.length := by
  induction l with
  | nil => simp [bytesTurn]
  | cons b l ih =>
    unfold bytesTurn at *
    rw [List.flatMap_cons, List.length_append, List.length_cons]
    by_cases h : b = 0
    · rw [if_pos h]; simp only [List.length_cons, List.length_nil]; omega
    · rw [if_neg h]; simp only [List.length_cons, List.length_nil]; omega
theorem esc_len (s : ByteArray) : (esc s).length ≤ 2 * s.size := by
  unfold esc ints
  rw [List.length_map, ← data_length]
  exact esc_count _
theorem form_l0 (X : Int) : ∀ (m : Nat) (acc : List Int), m ≤ 8 → acc.length + m < 1000 → Ev (fun k => tuple_form.l0 k acc X (((8 * m : Nat) : Int) - 8)) (acc ++ beFrom X m)
  | 0, acc, h, hl => by
    refine Ev.step (fun _ => tuple_form.l0.eq_2 ..) ?_
    simp only [if_neg (show ¬ (((8 * 0 : Nat) : Int) - 8 ≥ 0) by omega), beFrom, List.append_nil]
    exact Ev.now _
  | m + 1, acc, h, hl => by
    refine Ev.step (fun _ => tuple_form.l0.eq_2 ..) ?_
    have e : (((8 * (m + 1) : Nat) : Int) - 8) = ((8 * m : Nat) : Int) := by omega
    simp only [if_pos (show (((8 * (m + 1) : Nat) : Int) - 8 ≥ 0) by omega), if_pos (show (0 : Int) ≤ ((8 * (m + 1) : Nat) : Int) - 8 by omega), if_pos (show acc.length < 140737488355328 by omega)]
    rw [w64 (by omega) (by omega), e]
    have := form_l0 X m (acc ++ [(shr .u64 X ((8 * m : Nat) : Int)) % 256]) (by omega) (by simp; omega)
    rw [List.append_assoc] at this
    exact this
theorem form_ev (v : S41) (hg : good v = true) : Ev (fun k => tuple_form.f k v.f0 v.f1 v.f2) (form v) := by
  unfold tuple_form.f form
  have hg' : goodB v.f0 v.f1 v.f2 = true := hg
  unfold goodB at hg'
  simp only [Option.bind_some]
  by_cases h1 : v.f0 = 1
  · simp only [h1, if_true]
    rw [w64 (by omega) (by omega), wrap_u64, bits_top _ (by omega) (by omega)]
    exact form_l0 (topN v.f1) 8 [2] (by omega) (by simp)
  · simp only [if_neg h1]
    by_cases h2 : v.f0 = 2
    · rw [if_neg (by omega), if_neg h1, if_pos h2] at hg'
      simp only [Bool.and_eq_true, decide_eq_true_eq] at hg'
      have hs : v.f2.size ≤ 32 := by omega
      have hc : v.f2.data.toList.count 0 ≤ 32 := Nat.le_trans List.count_le_length (by rw [data_length]; exact hs)
      have hcs : v.f2.size + v.f2.data.toList.count 0 * (⟨#[0, 255]⟩ : ByteArray).size ≤ 140737488355328 := by
        show v.f2.size + v.f2.data.toList.count 0 * 2 ≤ _; omega
      have hR : strings_ReplaceAll.f v.f2 (⟨#[0]⟩ : ByteArray) (⟨#[0, 255]⟩ : ByteArray) = some ⟨(bytesTurn 0 [0, 255] v.f2.data.toList).toArray⟩ := by
        unfold strings_ReplaceAll.f
        simp only []
        rw [if_pos (by rw [Lib.toList_data, Lib.toList_data]; decide), if_pos hcs]
      have hb : bytesOf ⟨(bytesTurn 0 [0, 255] v.f2.data.toList).toArray⟩ = esc v.f2 := by simp [bytesOf, esc, ints]
      have hl := esc_len v.f2
      have hz : (⟨(bytesTurn 0 [0, 255] v.f2.data.toList).toArray⟩ : ByteArray).size = (esc v.f2).length := by rw [← bytesOf_length, hb]
      simp only [h2, if_true, hR, Option.bind_some, hb, hz]
      rw [w64 (by omega) (by omega)]
      simp only [if_pos (show ([(2 + 1 : Int) % 256] : List Int).length + (esc v.f2).length < 140737488355328 by simp; omega)]
      rw [if_pos (show ([(2 + 1 : Int) % 256] ++ esc v.f2).length + ([0, 0] : List Int).length < 140737488355328 by simp; omega)]
      exact Ev.now _
    · have h0 : v.f0 = 0 := by
        apply Classical.byContradiction; intro h0
        rw [if_neg h0, if_neg h1, if_neg h2] at hg'; cases hg'
      simp only [h0, if_neg (show ¬ ((0 : Int) = 2) by decide)]
      rw [w64 (by omega) (by omega)]
      exact Ev.now _
theorem form_len (v : S41) (hg : good v = true) : (form v).length ≤ 67 := by
  have hg' : goodB v.f0 v.f1 v.f2 = true := hg
  unfold goodB at hg'
  unfold form
  by_cases h1 : v.f0 = 1
  · rw [if_pos h1]; simp [beFrom_length]
  · rw [if_neg h1]
    by_cases h2 : v.f0 = 2
    · rw [if_neg (by omega), if_neg h1, if_pos h2] at hg'
      simp only [Bool.and_eq_true, decide_eq_true_eq] at hg'
      rw [if_pos h2]
      have := esc_len v.f2
      simp only [List.length_cons, List.length_append, List.length_nil]
      omega
    · rw [if_neg h2]; simp
/-- The bytes of a row's key. -/
def keyL (l : List S41) : List Int := l.flatMap form
theorem key_l0 (l : List S41) (hl : l.length ≤ 4) (hg : l.all good = true) : ∀ (m i : Nat) (acc : List Int), i + m = l.length → acc.length + 67 * m < 10000 → Ev (fun k => tuple_Key.l0 k acc l (l.length : Int) (i : Int)) (strOfNums (acc ++ keyL (l.drop i)), 0)
  | 0, i, acc, h, ha => by
    refine Ev.step (fun _ => tuple_Key.l0.eq_2 ..) ?_
    rw [List.drop_eq_nil_of_le (by omega)]
    simp only [if_neg (show ¬ (i : Int) < (l.length : Int) by omega)]
    simpa [keyL] using Ev.now (strOfNums acc, (0 : Int))
  | m + 1, i, acc, h, ha => by
    have hi : i < l.length := by omega
    have hgi : good l[i] = true := List.all_eq_true.1 hg _ (List.getElem_mem hi)
    have hf := form_len _ hgi
    refine Ev.step (fun _ => tuple_Key.l0.eq_2 ..) ?_
    simp only [if_pos (show (i : Int) < (l.length : Int) by omega), if_pos (show (0 : Int) ≤ (i : Int) by omega), rd_get l i hi]
    refine Ev.bind (form_ev _ hgi) ?_
    simp only [if_pos (show acc.length + (form l[i]).length < 140737488355328 by omega)]
    rw [w64 (by omega) (by omega), drop_get l i hi]
    have := key_l0 l hl hg m (i + 1) (acc ++ form l[i]) (by omega) (by rw [List.length_append]; omega)
    rw [List.append_assoc] at this
    exact this
theorem row_ok {l : List S41} (h : rowE l = 0) : l.length ≤ 4 ∧ l.all good = true := by
  unfold rowE at h
  split at h
  · cases h
  · split at h
    · exact ⟨by omega, by assumption⟩
    · cases h
/-- What Key answers. -/
def keyR (l : List S41) : ByteArray × Int := if rowE l = 0 then (strOfNums (keyL l), 0) else (⟨#[]⟩, rowE l)
theorem key_ev (l : List S41) : Ev (fun k => tuple_Key.f k l) (keyR l) := by
  unfold tuple_Key.f keyR
  refine Ev.bind (row_ev l) ?_
  by_cases h : rowE l = 0
  · obtain ⟨h1, h2⟩ := row_ok h
    simp only [h, if_true]
    have := key_l0 l h1 h2 l.length 0 [] (by omega) (by simp; omega)
    rw [List.drop_zero, List.nil_append] at this
    exact this
  · simp only [if_neg h]
    exact Ev.now _
end Go.Proofs.YtieifhjjjlmkbaaDoor.Tk
namespace Go.Proofs.YtieifhjjjlmkbaaDoor.Tc
open Go.RowKit Go.Proofs.YtieifhjjjlmkbaaDoor.POrd Go.Proofs.YtieifhjjjlmkbaaDoorW.PrintWords Go.Proofs.YtieifhjjjlmkbaaDoorW.PrintLast Go.Proofs.YtieifhjjjlmkbaaDoor.Hl Go.Proofs.YtieifhjjjlmkbaaDoor.Tl
set_option linter.unusedSimpArgs false
set_option linter.unusedVariables false
/-- How two numbers, two texts, two values, two rows stand. -/
def cmpI (a b : Int) : Int := if a < b then -1 else if b < a then 1 else 0
def cmpS (a b : ByteArray) : Int := if Op.bytesLess a.toList b.toList = true then -1 else if Op.bytesLess b.toList a.toList = true then 1 else 0
def valC (v w : S41) : Int := if cmpI v.f0 w.f0 ≠ 0 then cmpI v.f0 w.f0 else if cmpI v.f1 w.f1 ≠ 0 then cmpI v.f1 w.f1 else cmpS v.f2 w.f2
def cmpR : List S41 → List S41 → Int
  | [], [] => 0
  | [], _ :: _ => -1
  | _ :: _, [] => 1
  | v :: a, w :: b => if valC v w = 0 then cmpR a b else valC v w
/-- What Compare answers. -/
def cmpA (a b : List S41) : Int := if rowE a = 0 then (if rowE b = 0 then cmpR a b else 0) else 0
theorem row_ok {l : List S41} (h : rowE l = 0) : l.length ≤ 4 ∧ l.all good = true := by
  unfold rowE at h
  split at h
  · cases h
  · split at h
    · exact ⟨by omega, by assumption⟩
    · cases h
def belowB (v w : S41) : Bool := if v.f0 = w.f0 then (if v.f0 = 1 then decide (v.f1 < w.f1) else Op.bytesLess v.f2.toList w.f2.toList) else decide (v.f0 < w.f0)
theorem below_eq (v w : S41) : shelfmarkref03_Below.f v.f0 v.f1 v.f2 w.f0 w.f1 w.f2 = some (belowB v w) := by
  unfold shelfmarkref03_Below.f belowB
  split
  · split <;> rfl
  · rfl
theorem less_irr (l : List UInt8) : Op.bytesLess l l = false := by
  induction l with
  | nil => rfl
  | cons x l ih => simp [Op.bytesLess, ih]
theorem val_below (v w : S41) (hv : good v = true) (hw : good w = true) : valC v w = if belowB v w = true then -1 else if belowB w v = true then 1 else 0 := by
  have hv' : goodB v.f0 v.f1 v.f2 = true := hv
  have hw' : goodB w.f0 w.f1 w.f2 = true := hw
  unfold goodB at hv' hw'
  unfold valC belowB
  by_cases h0 : v.f0 = w.f0
  · have e0 : cmpI v.f0 w.f0 = 0 := by unfold cmpI; rw [h0]; simp
    rw [if_neg (by simpa using e0), if_pos h0, if_pos h0.symm]
    by_cases h1 : v.f0 = 1
    · have h1w : w.f0 = 1 := by omega
      rw [if_neg (by omega), if_pos h1] at hv'
      rw [if_neg (by omega), if_pos h1w] at hw'
      have ev : v.f2.toList = [] := by simpa using hv'
      have ew : w.f2.toList = [] := by simpa using hw'
      have es : cmpS v.f2 w.f2 = 0 := by unfold cmpS; rw [ev, ew]; rfl
      rw [if_pos h1, if_pos h1w, es]
      unfold cmpI
      by_cases a1 : v.f1 < w.f1
      · simp [a1]
      · by_cases a2 : w.f1 < v.f1
        · simp [a1, a2]
        · simp [a1, a2]
    · have h1w : ¬ w.f0 = 1 := by omega
      have en : v.f1 = 0 ∧ w.f1 = 0 := by
        by_cases z : v.f0 = 0
        · rw [if_pos z] at hv'; rw [if_pos (show w.f0 = 0 by omega)] at hw'
          simp at hv' hw'
          exact ⟨hv'.1, hw'.1⟩
        · rw [if_neg z, if_neg h1] at hv'; rw [if_neg (by omega), if_neg h1w] at hw'
          by_cases z2 : v.f0 = 2
          · rw [if_pos z2] at hv'; rw [if_pos (show w.f0 = 2 by omega)] at hw'
            simp at hv' hw'
            exact ⟨hv'.1, hw'.1⟩
          · rw [if_neg z2] at hv'; cases hv'
      have e1 : cmpI v.f1 w.f1 = 0 := by unfold cmpI; rw [en.1, en.2]; rfl
      rw [if_neg (by simpa using e1), if_neg h1, if_neg h1w]
      rfl
  · have h0' : ¬ w.f0 = v.f0 := fun e => h0 e.symm
    by_cases a1 : v.f0 < w.f0
    · have e0 : cmpI v.f0 w.f0 = -1 := by unfold cmpI; rw [if_pos a1]
      rw [e0, if_pos (by decide), if_neg h0, decide_eq_true a1, if_pos rfl]
    · have a2 : w.f0 < v.f0 := by omega
      have e0 : cmpI v.f0 w.f0 = 1 := by unfold cmpI; rw [if_neg a1, if_pos a2]
      rw [e0, if_pos (by decide), if_neg h0, if_neg h0', decide_eq_false a1, decide_eq_true a2, if_neg (by decide), if_pos rfl]
theorem refCmp_l0 (a b : List S41) (ha : a.length ≤ 4) (hb : b.length ≤ 4) (ga : a.all good = true) (gb : b.all good = true) : ∀ (m i : Nat), i + m = a.length → i ≤ b.length → Ev (fun k => shelfmarkref03_Compare.l0 k a b (i : Int)) (cmpR (a.drop i) (b.drop i)) := by
  have last : ∀ i : Nat, (i ≤ a.length) → i ≤ b.length → (i = a.length ∨ i = b.length) → Ev (fun k => shelfmarkref03_Compare.j2 k a b (i : Int) false) (cmpR (a.drop i) (b.drop i)) := by
    intro i h1 h2 h3
    refine Ev.step (fun _ => shelfmarkref03_Compare.j2.eq_2 ..) ?_
    simp only [Bool.false_eq_true, if_false]
    by_cases e1 : i < a.length
    · rw [drop_get a i e1, List.drop_eq_nil_of_le (show b.length ≤ i by omega)]
      simp only [if_neg (show ¬ (a.length : Int) < (b.length : Int) by omega), if_pos (show (a.length : Int) > (b.length : Int) by omega)]
      exact Ev.now _
    · rw [List.drop_eq_nil_of_le (show a.length ≤ i by omega)]
      by_cases e2 : i < b.length
      · rw [drop_get b i e2]
        simp only [if_pos (show (a.length : Int) < (b.length : Int) by omega)]
        exact Ev.now _
      · rw [List.drop_eq_nil_of_le (show b.length ≤ i by omega)]
        simp only [if_neg (show ¬ (a.length : Int) < (b.length : Int) by omega), if_neg (show ¬ (a.length : Int) > (b.length : Int) by omega)]
        exact Ev.now _
  intro m
  induction m with
  | zero =>
    intro i h hi
    refine Ev.step (fun _ => shelfmarkref03_Compare.l0.eq_2 ..) ?_
    simp only [if_neg (show ¬ (i : Int) < (a.length : Int) by omega)]
    exact last i (by omega) hi (.inl (by omega))
  | succ m ih =>
    intro i h hi
    have hia : i < a.length := by omega
    refine Ev.step (fun _ => shelfmarkref03_Compare.l0.eq_2 ..) ?_
    simp only [if_pos (show (i : Int) < (a.length : Int) by omega)]
    by_cases h2 : i < b.length
    · have h2' : (i : Int) < (b.length : Int) := by omega
      simp only [h2', decide_true]
      refine Ev.step (fun _ => shelfmarkref03_Compare.j2.eq_2 ..) ?_
      have g1 : good a[i] = true := List.all_eq_true.1 ga _ (List.getElem_mem hia)
      have g2 : good b[i] = true := List.all_eq_true.1 gb _ (List.getElem_mem h2)
      simp only [if_true, if_pos (show (i : Int) < (a.length : Int) by omega), if_pos (show (0 : Int) ≤ (i : Int) by omega), if_pos h2', rd_get a i hia, rd_get b i h2, below_eq, Option.bind_some]
      rw [drop_get a i hia, drop_get b i h2]
      unfold cmpR
      rw [val_below _ _ g1 g2]
      by_cases k1 : belowB a[i] b[i] = true
      · simp only [k1, if_true]
        simpa using Ev.now (-1 : Int)
      · by_cases k2 : belowB b[i] a[i] = true
        · simp only [k1, k2, if_true, Bool.false_eq_true, if_false]
          simpa using Ev.now (1 : Int)
        · simp only [k1, k2, Bool.false_eq_true, if_false, if_true]
          rw [w64 (by omega) (by omega)]
          exact ih (i + 1) (by omega) (by omega)
    · simp only [decide_eq_false (show ¬ (i : Int) < (b.length : Int) by omega)]
      exact last i (by omega) hi (.inr (by omega))
theorem refCompare_ev (a b : List S41) : Ev (fun k => shelfmarkref03_Compare.f k a b) (cmpA a b) := by
  have none_ : Ev (fun k => shelfmarkref03_Compare.j0 k a b true) 0 := by
    refine Ev.step (fun _ => shelfmarkref03_Compare.j0.eq_2 ..) ?_
    simp only [if_true]
    exact Ev.now _
  unfold shelfmarkref03_Compare.f cmpA
  refine Ev.bind (refRow_ev a) ?_
  by_cases h : rowE a = 0
  · simp only [h, if_true]
    refine Ev.bind (refRow_ev b) ?_
    by_cases h2 : rowE b = 0
    · simp only [h2, if_true, bne_self_eq_false]
      refine Ev.step (fun _ => shelfmarkref03_Compare.j0.eq_2 ..) ?_
      simp only [Bool.false_eq_true, if_false]
      have := refCmp_l0 a b (row_ok h).1 (row_ok h2).1 (row_ok h).2 (row_ok h2).2 a.length 0 (by omega) (by omega)
      rwa [List.drop_zero, List.drop_zero] at this
    · have h2' : (rowE b != 0) = true := by simpa using h2
      simp only [if_neg h2, h2']
      exact none_
  · simp only [if_neg h]
    exact none_
end Go.Proofs.YtieifhjjjlmkbaaDoor.Tc
namespace Go.Proofs.YtieifhjjjlmkbaaDoor.Tr
open Go.RowKit Go.Proofs.YtieifhjjjlmkbaaDoor.POrd Go.Proofs.YtieifhjjjlmkbaaDoorW.PrintWords Go.Proofs.YtieifhjjjlmkbaaDoorW.PrintLast Go.Proofs.YtieifhjjjlmkbaaDoor.Hl Go.Proofs.YtieifhjjjlmkbaaDoor.Tl Go.Proofs.YtieifhjjjlmkbaaDoor.Tb Go.Proofs.YtieifhjjjlmkbaaDoor.Tk
set_option linter.unusedSimpArgs false
set_option linter.unusedVariables false
abbrev turn (t : List UInt8) : List UInt8 := bytesTurn 0 [0, 255] t
theorem turn_zero (t : List UInt8) : turn (0 :: t) = 0 :: 255 :: turn t := by
  unfold turn bytesTurn; rw [List.flatMap_cons, if_pos rfl]; rfl
theorem turn_other {c : UInt8} (h : c ≠ 0) (t : List UInt8) : turn (c :: t) = c :: turn t := by
  unfold turn bytesTurn; rw [List.flatMap_cons, if_neg h]; rfl
def toB (l : List Int) : List UInt8 := l.map fun n => UInt8.ofNat n.toNat
theorem ints_toB (l : List Int) (hb : ∀ c ∈ l, 0 ≤ c ∧ c < 256) : ints (toB l) = l := by
  unfold ints toB
  rw [List.map_map]
  conv => rhs; rw [← List.map_id l]
  refine List.map_congr_left (fun c hc => ?_)
  have := hb c hc
  show ((UInt8.ofNat c.toNat).toNat : Int) = c
  rw [UInt8.toNat_ofNat']
  omega
theorem toB_ints (l : List UInt8) : toB (ints l) = l := by
  unfold ints toB
  rw [List.map_map]
  conv => rhs; rw [← List.map_id l]
  refine List.map_congr_left (fun c hc => ?_)
  simp
/-- A value's bytes. -/
def formB (v : S41) : List UInt8 := if v.f0 = 1 then 2 :: toB (beFrom (topN v.f1) 8) else if v.f0 = 2 then 3 :: (turn v.f2.data.toList ++ [0, 0]) else [1]
theorem ints_formB (v : S41) : ints (formB v) = form v := by
  unfold formB form
  split
  · show (2 : Int) :: ints (toB _) = _
    rw [ints_toB _ (beFrom_bytes _ 8)]
  · split
    · unfold esc ints; simp
    · rfl
theorem formB_length (v : S41) : (formB v).length = (form v).length := by rw [← ints_formB]; simp [ints]
theorem empty_of (s : ByteArray) (h : s.toList = []) : s = ByteArray.empty := by
  rw [Lib.toList_data] at h
  cases s with
  | mk d =>
    have : d = #[] := Array.toList_inj.1 (by simpa using h)
    subst this; rfl
end Go.Proofs.YtieifhjjjlmkbaaDoor.Tr
namespace Go.Proofs.YtieifhjjjlmkbaaDoor.Ty
open Go.RowKit Go.Proofs.YtieifhjjjlmkbaaDoor.POrd Go.Proofs.YtieifhjjjlmkbaaDoorW.PrintWords Go.Proofs.YtieifhjjjlmkbaaDoorW.PrintLast Go.Proofs.YtieifhjjjlmkbaaDoor.Hl Go.Proofs.YtieifhjjjlmkbaaDoor.Tl Go.Proofs.YtieifhjjjlmkbaaDoor.Tb Go.Proofs.YtieifhjjjlmkbaaDoor.Tk Go.Proofs.YtieifhjjjlmkbaaDoor.Tr
set_option linter.unusedSimpArgs false
set_option linter.unusedVariables false
def rowB (a : List S41) : List UInt8 := a.flatMap formB
theorem formB_head (v : S41) : ∃ c t, formB v = c :: t ∧ c ≠ 0 := by
  unfold formB
  split
  · exact ⟨_, _, rfl, by decide⟩
  · split
    · exact ⟨_, _, rfl, by decide⟩
    · exact ⟨_, _, rfl, by decide⟩
theorem key_bytes (a : List S41) : (strOfNums (keyL a)).data.toList = rowB a := by
  have h : keyL a = ints (rowB a) := by
    unfold keyL rowB ints
    rw [List.map_flatMap]
    congr 1
    funext v
    exact (ints_formB v).symm
  rw [h]
  show ((ints (rowB a)).map fun n => UInt8.ofNat n.toNat).toArray.toList = _
  rw [List.toList_toArray]
  exact toB_ints _
end Go.Proofs.YtieifhjjjlmkbaaDoor.Ty
namespace Go.Proofs.YtieifhjjjlmkbaaDoor.To
open Go.RowKit Go.Proofs.YtieifhjjjlmkbaaDoor.POrd Go.Proofs.YtieifhjjjlmkbaaDoorW.PrintWords Go.Proofs.YtieifhjjjlmkbaaDoorW.PrintLast Go.Proofs.YtieifhjjjlmkbaaDoor.Hl Go.Proofs.YtieifhjjjlmkbaaDoor.Tl Go.Proofs.YtieifhjjjlmkbaaDoor.Tb Go.Proofs.YtieifhjjjlmkbaaDoor.Tk Go.Proofs.YtieifhjjjlmkbaaDoor.Tc Go.Proofs.YtieifhjjjlmkbaaDoor.Tr Go.Proofs.YtieifhjjjlmkbaaDoor.Ty
set_option linter.unusedSimpArgs false
set_option linter.unusedVariables false
theorem less_cons (c d : UInt8) (s t : List UInt8) : Op.bytesLess (c :: s) (d :: t) = if c = d then Op.bytesLess s t else decide (c < d) := by
  by_cases h : c = d
  · subst h; simp [Op.bytesLess]
  · have h' : (c == d) = false := beq_eq_false_iff_ne.2 h
    simp [Op.bytesLess, h, h']
theorem zero_lt {d : UInt8} (h : d ≠ 0) : (0 : UInt8) < d := by
  rw [UInt8.lt_iff_toNat_lt]
  have : d.toNat ≠ 0 := fun e => h (UInt8.toNat_inj.1 e)
  show 0 < d.toNat; omega
theorem not_lt_zero (d : UInt8) : ¬ d < (0 : UInt8) := by
  rw [UInt8.lt_iff_toNat_lt]; show ¬ d.toNat < 0; omega
theorem text_less (X Y : List UInt8) : ∀ s t : List UInt8, Op.bytesLess (turn s ++ 0 :: 0 :: X) (turn t ++ 0 :: 0 :: Y) = if s = t then Op.bytesLess X Y else Op.bytesLess s t
  | [], [] => by
    show Op.bytesLess (0 :: 0 :: X) (0 :: 0 :: Y) = _
    simp [Op.bytesLess]
  | [], d :: t => by
    by_cases h : d = 0
    · subst h; rw [turn_zero]
      show Op.bytesLess (0 :: 0 :: X) (0 :: 255 :: (turn t ++ 0 :: 0 :: Y)) = _
      simp [Op.bytesLess]
    · rw [turn_other h]
      show Op.bytesLess (0 :: 0 :: X) (d :: (turn t ++ 0 :: 0 :: Y)) = _
      rw [less_cons, if_neg (fun e => h e.symm)]
      simp [Op.bytesLess, zero_lt h]
  | c :: s, [] => by
    by_cases h : c = 0
    · subst h; rw [turn_zero]
      show Op.bytesLess (0 :: 255 :: (turn s ++ 0 :: 0 :: X)) (0 :: 0 :: Y) = _
      simp [Op.bytesLess]
    · rw [turn_other h]
      show Op.bytesLess (c :: (turn s ++ 0 :: 0 :: X)) (0 :: 0 :: Y) = _
      rw [less_cons, if_neg h]
      simp [Op.bytesLess, not_lt_zero]
  | c :: s, d :: t => by
    have ih := text_less X Y s t
    by_cases h : c = d
    · subst h
      rw [less_cons c c, if_pos rfl]
      have e : (c :: s = c :: t) = (s = t) := by simp
      simp only [e]
      rw [← ih]
      by_cases hc : c = 0
      · subst hc
        rw [turn_zero, turn_zero]
        show Op.bytesLess (0 :: 255 :: (turn s ++ 0 :: 0 :: X)) (0 :: 255 :: (turn t ++ 0 :: 0 :: Y)) = _
        rw [less_cons, if_pos rfl, less_cons, if_pos rfl]
      · rw [turn_other hc, turn_other hc]
        show Op.bytesLess (c :: (turn s ++ 0 :: 0 :: X)) (c :: (turn t ++ 0 :: 0 :: Y)) = _
        rw [less_cons, if_pos rfl]
    · have e : ¬ (c :: s = d :: t) := fun e => h (by injection e)
      rw [if_neg e, less_cons c d s t, if_neg h]
      have hd : ∀ (x : UInt8) (u : List UInt8), ∃ z, turn (x :: u) = x :: z := by
        intro x u
        by_cases hx : x = 0
        · subst hx; exact ⟨_, turn_zero u⟩
        · exact ⟨_, turn_other hx u⟩
      obtain ⟨z1, e1⟩ := hd c s
      obtain ⟨z2, e2⟩ := hd d t
      rw [e1, e2]
      show Op.bytesLess (c :: (z1 ++ 0 :: 0 :: X)) (d :: (z2 ++ 0 :: 0 :: Y)) = _
      rw [less_cons, if_neg h]
theorem ofNat_lt {a b : Int} (h0 : 0 ≤ a) (h1 : a < 256) (h2 : 0 ≤ b) (h3 : b < 256) : (UInt8.ofNat a.toNat = UInt8.ofNat b.toNat ↔ a = b) ∧ (UInt8.ofNat a.toNat < UInt8.ofNat b.toNat ↔ a < b) := by
  constructor
  · rw [← UInt8.toNat_inj, UInt8.toNat_ofNat', UInt8.toNat_ofNat']; omega
  · rw [UInt8.lt_iff_toNat_lt, UInt8.toNat_ofNat', UInt8.toNat_ofNat']; omega
theorem be_less (X Y : List UInt8) (A B : Int) (hA : 0 ≤ A) (hB : 0 ≤ B) (m : Nat) : m ≤ 8 → Op.bytesLess (toB (beFrom A m) ++ X) (toB (beFrom B m) ++ Y) = if A % 256 ^ m = B % 256 ^ m then Op.bytesLess X Y else decide (A % 256 ^ m < B % 256 ^ m) := by
  induction m with
  | zero =>
    intro _
    show Op.bytesLess X Y = _
    rw [if_pos (by simp)]
  | succ m ih =>
    intro hm
    have ih := ih (by omega)
    have e : ∀ Z : Int, toB (beFrom Z (m + 1)) = UInt8.ofNat ((shr .u64 Z ((8 * m : Nat) : Int)) % 256).toNat :: toB (beFrom Z m) := fun _ => rfl
    rw [e, e, shr_eq A m (by omega), shr_eq B m (by omega)]
    show Op.bytesLess (_ :: (toB (beFrom A m) ++ X)) (_ :: (toB (beFrom B m) ++ Y)) = _
    rw [less_cons, Int.pow_succ, emod_step A hA, emod_step B hB]
    have hp : (0 : Int) < 256 ^ m := Int.pow_pos (by decide)
    have ra := Int.emod_nonneg A (show (256 : Int) ^ m ≠ 0 by omega)
    have ra' := Int.emod_lt_of_pos A hp
    have rb := Int.emod_nonneg B (show (256 : Int) ^ m ≠ 0 by omega)
    have rb' := Int.emod_lt_of_pos B hp
    have a0 : 0 ≤ A / 256 ^ m % 256 ∧ A / 256 ^ m % 256 < 256 := by omega
    have b0 : 0 ≤ B / 256 ^ m % 256 ∧ B / 256 ^ m % 256 < 256 := by omega
    obtain ⟨q1, q2⟩ := ofNat_lt a0.1 a0.2 b0.1 b0.2
    generalize A / 256 ^ m % 256 = a at *
    generalize B / 256 ^ m % 256 = b at *
    generalize A % 256 ^ m = x at *
    generalize B % 256 ^ m = y at *
    generalize (256 : Int) ^ m = P at *
    by_cases h : a = b
    · subst h
      rw [if_pos rfl, ih]
      have e1 : (x + P * a = y + P * a) = (x = y) := by rw [eq_iff_iff]; omega
      have e2 : (x + P * a < y + P * a) = (x < y) := by rw [eq_iff_iff]; omega
      simp only [e1, e2]
    · rw [if_neg (fun e => h (q1.1 e))]
      rcases Int.lt_or_gt_of_ne h with hl | hl
      · have hm1 : P * a + P ≤ P * b := by
          have := Int.mul_le_mul_of_nonneg_left (show a + 1 ≤ b by omega) (Int.le_of_lt hp)
          rw [Int.mul_add, Int.mul_one] at this; exact this
        rw [if_neg (by omega), decide_eq_true (q2.2 hl), decide_eq_true (show x + P * a < y + P * b by omega)]
      · have hm1 : P * b + P ≤ P * a := by
          have := Int.mul_le_mul_of_nonneg_left (show b + 1 ≤ a by omega) (Int.le_of_lt hp)
          rw [Int.mul_add, Int.mul_one] at this; exact this
        rw [if_neg (by omega), decide_eq_false (fun e => by have := q2.1 e; omega), decide_eq_false (show ¬ x + P * a < y + P * b by omega)]
theorem topN_order {n m : Int} (h0 : -9223372036854775808 ≤ n) (h1 : n < 9223372036854775808) (h2 : -9223372036854775808 ≤ m) (h3 : m < 9223372036854775808) : (topN n = topN m ↔ n = m) ∧ (topN n < topN m ↔ n < m) := by
  unfold topN; omega
theorem kind_of {v : S41} (hg : good v = true) : (v.f0 = 0 ∧ v.f1 = 0 ∧ v.f2 = ByteArray.empty) ∨ (v.f0 = 1 ∧ v.f2 = ByteArray.empty) ∨ (v.f0 = 2 ∧ v.f1 = 0) := by
  have hg' : goodB v.f0 v.f1 v.f2 = true := hg
  unfold goodB at hg'
  by_cases k0 : v.f0 = 0
  · rw [if_pos k0, Bool.and_eq_true] at hg'
    exact .inl ⟨k0, by simpa using hg'.1, empty_of _ (by simpa using hg'.2)⟩
  · rw [if_neg k0] at hg'
    by_cases k1 : v.f0 = 1
    · rw [if_pos k1] at hg'
      exact .inr (.inl ⟨k1, empty_of _ (by simpa using hg')⟩)
    · rw [if_neg k1] at hg'
      by_cases k2 : v.f0 = 2
      · rw [if_pos k2, Bool.and_eq_true] at hg'
        exact .inr (.inr ⟨k2, by simpa using hg'.1⟩)
      · rw [if_neg k2] at hg'; cases hg'
theorem formB_kind {v : S41} (hg : good v = true) : ∃ t, formB v = UInt8.ofNat (v.f0 + 1).toNat :: t := by
  rcases kind_of hg with ⟨k, _⟩ | ⟨k, _⟩ | ⟨k, _⟩
  · exact ⟨[], by unfold formB; rw [if_neg (by omega), if_neg (by omega), k]; rfl⟩
  · exact ⟨_, by unfold formB; rw [if_pos k, k]; rfl⟩
  · exact ⟨_, by unfold formB; rw [if_neg (by omega), if_pos k, k]; rfl⟩
theorem less_asym : ∀ s t : List UInt8, Op.bytesLess s t = true → Op.bytesLess t s = false
  | [], [], h => by simp [Op.bytesLess] at h
  | [], _ :: _, _ => by simp [Op.bytesLess]
  | _ :: _, [], h => by simp [Op.bytesLess] at h
  | c :: s, d :: t, h => by
    rw [less_cons] at h ⊢
    by_cases e : c = d
    · rw [if_pos e] at h; rw [if_pos e.symm]; exact less_asym s t h
    · rw [if_neg e] at h; rw [if_neg (fun x => e x.symm)]
      rw [decide_eq_true_eq, UInt8.lt_iff_toNat_lt] at h
      rw [decide_eq_false_iff_not, UInt8.lt_iff_toNat_lt]; omega
theorem less_tri : ∀ s t : List UInt8, Op.bytesLess s t = false → Op.bytesLess t s = false → s = t
  | [], [], _, _ => rfl
  | [], _ :: _, h, _ => by simp [Op.bytesLess] at h
  | _ :: _, [], _, h => by simp [Op.bytesLess] at h
  | c :: s, d :: t, h, h2 => by
    rw [less_cons] at h h2
    by_cases e : c = d
    · rw [if_pos e] at h; rw [if_pos e.symm] at h2
      rw [e, less_tri s t h h2]
    · rw [if_neg e, decide_eq_false_iff_not, UInt8.lt_iff_toNat_lt] at h
      rw [if_neg (fun x => e x.symm), decide_eq_false_iff_not, UInt8.lt_iff_toNat_lt] at h2
      exact absurd (UInt8.toNat_inj.1 (by omega)) e
theorem cmpI_anti (a b : Int) : cmpI b a = -(cmpI a b) := by
  unfold cmpI; split <;> split <;> (try split) <;> omega
theorem cmpS_anti (a b : ByteArray) : cmpS b a = -(cmpS a b) := by
  unfold cmpS
  by_cases h : Op.bytesLess a.toList b.toList = true
  · have := less_asym _ _ h
    simp [h, this]
  · by_cases h2 : Op.bytesLess b.toList a.toList = true
    · simp [h, h2]
    · simp [h, h2]
theorem valC_anti (v w : S41) : valC w v = -(valC v w) := by
  unfold valC
  rw [cmpI_anti v.f0 w.f0, cmpI_anti v.f1 w.f1, cmpS_anti v.f2 w.f2]
  split <;> split <;> (try split) <;> (try split) <;> omega
theorem cmpR_anti : ∀ a b : List S41, cmpR b a = -(cmpR a b)
  | [], [] => rfl
  | [], _ :: _ => rfl
  | _ :: _, [] => rfl
  | v :: a, w :: b => by
    show (if valC w v = 0 then cmpR b a else valC w v) = -(if valC v w = 0 then cmpR a b else valC v w)
    rw [cmpR_anti a b, valC_anti v w]
    split <;> split <;> omega
theorem val_less (v w : S41) (hv : good v = true) (hw : good w = true) (v0 : -9223372036854775808 ≤ v.f1 ∧ v.f1 < 9223372036854775808) (w0 : -9223372036854775808 ≤ w.f1 ∧ w.f1 < 9223372036854775808) (X Y : List UInt8) : Op.bytesLess (formB v ++ X) (formB w ++ Y) = if valC v w = 0 then Op.bytesLess X Y else decide (valC v w < 0) := by
  by_cases h0 : v.f0 = w.f0
  · rw [val_below v w hv hw]
    unfold belowB
    rw [if_pos h0, if_pos h0.symm]
    rcases kind_of hv with ⟨k, _, e⟩ | ⟨k, e⟩ | ⟨k, e⟩
    · have e2 : w.f2 = ByteArray.empty := by
        rcases kind_of hw with ⟨k2, _, e2⟩ | ⟨k2, e2⟩ | ⟨k2, e2⟩
        · exact e2
        · exact e2
        · exfalso; omega
      have f1 : formB v = [1] := by unfold formB; rw [if_neg (by omega), if_neg (by omega)]
      have f2 : formB w = [1] := by unfold formB; rw [if_neg (by omega), if_neg (by omega)]
      rw [f1, f2, e, e2, if_neg (show ¬ v.f0 = 1 by omega), if_neg (show ¬ w.f0 = 1 by omega)]
      show Op.bytesLess (1 :: X) (1 :: Y) = _
      rw [less_cons, if_pos rfl, less_irr]
      simp
    · have k2 : w.f0 = 1 := by omega
      have f1 : formB v = 2 :: toB (beFrom (topN v.f1) 8) := by unfold formB; rw [if_pos k]
      have f2 : formB w = 2 :: toB (beFrom (topN w.f1) 8) := by unfold formB; rw [if_pos k2]
      obtain ⟨o1, o2⟩ := topN_order v0.1 v0.2 w0.1 w0.2
      obtain ⟨o3, o4⟩ := topN_order w0.1 w0.2 v0.1 v0.2
      have rv : 0 ≤ topN v.f1 ∧ topN v.f1 < 18446744073709551616 := by unfold topN; omega
      have rw' : 0 ≤ topN w.f1 ∧ topN w.f1 < 18446744073709551616 := by unfold topN; omega
      rw [f1, f2, if_pos k, if_pos k2]
      show Op.bytesLess (2 :: (toB (beFrom (topN v.f1) 8) ++ X)) (2 :: (toB (beFrom (topN w.f1) 8) ++ Y)) = _
      rw [less_cons, if_pos rfl, be_less X Y _ _ rv.1 rw'.1 8 (by omega), show (256 : Int) ^ 8 = 18446744073709551616 by decide, Int.emod_eq_of_lt rv.1 rv.2, Int.emod_eq_of_lt rw'.1 rw'.2]
      by_cases a1 : v.f1 < w.f1
      · have n : ¬ topN v.f1 = topN w.f1 := fun e => by have := o1.1 e; omega
        simp [a1, n, o2.2 a1]
      · by_cases a2 : w.f1 < v.f1
        · have n : ¬ topN v.f1 = topN w.f1 := fun e => by have := o1.1 e; omega
          have n2 : ¬ topN v.f1 < topN w.f1 := fun e => by have := o2.1 e; omega
          simp [a1, a2, n]
          exact Int.not_lt.1 n2
        · have n : topN v.f1 = topN w.f1 := o1.2 (by omega)
          simp [a1, a2, n]
    · have k2 : w.f0 = 2 := by omega
      have f1 : formB v = 3 :: (turn v.f2.data.toList ++ [0, 0]) := by unfold formB; rw [if_neg (by omega), if_pos k]
      have f2 : formB w = 3 :: (turn w.f2.data.toList ++ [0, 0]) := by unfold formB; rw [if_neg (by omega), if_pos k2]
      rw [f1, f2, if_neg (show ¬ v.f0 = 1 by omega), if_neg (show ¬ w.f0 = 1 by omega), Lib.toList_data, Lib.toList_data]
      have e1 : ((3 : UInt8) :: (turn v.f2.data.toList ++ [0, 0])) ++ X = 3 :: (turn v.f2.data.toList ++ 0 :: 0 :: X) := by simp
      have e2 : ((3 : UInt8) :: (turn w.f2.data.toList ++ [0, 0])) ++ Y = 3 :: (turn w.f2.data.toList ++ 0 :: 0 :: Y) := by simp
      rw [e1, e2, less_cons, if_pos rfl, text_less]
      by_cases h1 : Op.bytesLess v.f2.data.toList w.f2.data.toList = true
      · have n : ¬ v.f2.data.toList = w.f2.data.toList := fun e => by rw [e, less_irr] at h1; cases h1
        rw [if_neg n, h1]; simp
      · have h1' : Op.bytesLess v.f2.data.toList w.f2.data.toList = false := by simpa using h1
        by_cases h2 : Op.bytesLess w.f2.data.toList v.f2.data.toList = true
        · have n : ¬ v.f2.data.toList = w.f2.data.toList := fun e => by rw [e, less_irr] at h2; cases h2
          rw [if_neg n, h1', h2]; simp
        · have h2' : Op.bytesLess w.f2.data.toList v.f2.data.toList = false := by simpa using h2
          rw [if_pos (less_tri _ _ h1' h2'), h1', h2']; simp
  · have hvk : 0 ≤ v.f0 ∧ v.f0 ≤ 2 := by rcases kind_of hv with ⟨k, _⟩ | ⟨k, _⟩ | ⟨k, _⟩ <;> omega
    have hwk : 0 ≤ w.f0 ∧ w.f0 ≤ 2 := by rcases kind_of hw with ⟨k, _⟩ | ⟨k, _⟩ | ⟨k, _⟩ <;> omega
    obtain ⟨t1, f1⟩ := formB_kind hv
    obtain ⟨t2, f2⟩ := formB_kind hw
    obtain ⟨q1, q2⟩ := ofNat_lt (a := v.f0 + 1) (b := w.f0 + 1) (by omega) (by omega) (by omega) (by omega)
    rw [f1, f2]
    show Op.bytesLess (_ :: (t1 ++ X)) (_ :: (t2 ++ Y)) = _
    rw [less_cons, if_neg (fun e => h0 (by have := q1.1 e; omega)), val_below v w hv hw]
    unfold belowB
    rw [if_neg h0, if_neg (show ¬ w.f0 = v.f0 from fun e => h0 e.symm)]
    by_cases a1 : v.f0 < w.f0
    · rw [decide_eq_true (q2.2 (by omega)), decide_eq_true a1]; simp
    · have a2 : w.f0 < v.f0 := by omega
      rw [decide_eq_false (fun e => by have := q2.1 e; omega), decide_eq_false a1, decide_eq_true a2]; simp
end Go.Proofs.YtieifhjjjlmkbaaDoor.To
namespace Go.Proofs.YtieifhjjjlmkbaaDoor.Tn
open Go.RowKit Go.Proofs.YtieifhjjjlmkbaaDoorW.PrintWords Go.Proofs.YtieifhjjjlmkbaaDoorW.PrintLast Go.Proofs.YtieifhjjjlmkbaaDoor.Hl
end Go.Proofs.YtieifhjjjlmkbaaDoor.Tn
namespace Go.Proofs.YtieifhjjjlmkbaaDoor.Vl
open Go.RowKit Go.Proofs.YtieifhjjjlmkbaaDoor.POrd Go.Proofs.YtieifhjjjlmkbaaDoorW.PrintWords Go.Proofs.YtieifhjjjlmkbaaDoorW.PrintLast Go.Proofs.YtieifhjjjlmkbaaDoor.Hl Go.Proofs.YtieifhjjjlmkbaaDoor.Tl
set_option linter.unusedSimpArgs false
set_option linter.unusedVariables false
theorem when_eq (b : Bool) (e : Int) : record_when.f b e = some (if b = true then e else 0) := by
  unfold record_when.f; split <;> rfl
/-- The first error there is. -/
def firstE : List Int → Int
  | [] => 0
  | x :: t => if x = 0 then firstE t else x
theorem first_l0 (l : List Int) (hl : l.length < 1000) : ∀ (m i : Nat), i + m = l.length → Ev (fun k => record_first.l0 k l (l.length : Int) (i : Int)) (firstE (l.drop i))
  | 0, i, h => by
    refine Ev.step (fun _ => record_first.l0.eq_2 ..) ?_
    rw [List.drop_eq_nil_of_le (by omega)]
    simp only [if_neg (show ¬ (i : Int) < (l.length : Int) by omega)]
    exact Ev.now _
  | m + 1, i, h => by
    have hi : i < l.length := by omega
    have hr : rd l (i : Int) = l[i] := by
      unfold rd
      rw [Int.toNat_natCast, List.getD_eq_getElem?_getD, List.getElem?_eq_getElem hi]; rfl
    refine Ev.step (fun _ => record_first.l0.eq_2 ..) ?_
    simp only [if_pos (show (i : Int) < (l.length : Int) by omega), if_pos (show (0 : Int) ≤ (i : Int) by omega), hr]
    rw [List.drop_eq_getElem_cons hi, firstE]
    by_cases hz : l[i] = 0
    · simp only [hz, if_true]
      rw [w64 (by omega) (by omega)]
      exact first_l0 l hl m (i + 1) (by omega)
    · simp only [if_neg hz]
      exact Ev.now _
theorem first_ev (l : List Int) (hl : l.length < 1000) : Ev (fun k => record_first.f k l) (firstE l) := by
  unfold record_first.f
  have := first_l0 l hl l.length 0 (by omega)
  rwa [List.drop_zero] at this
theorem bad_eq (k n : Int) (s : ByteArray) : record_bad_v11.f k n s = some (!goodB k n s) := by
  show record_bad.f k n s = _
  unfold record_bad.f
  rw [Good_eq]
  rfl
theorem number_eq (a : Int) : record_number.f a = some (decide (1 ≤ a ∧ a ≤ 6)) := by
  unfold record_number.f
  by_cases h : a ≥ 1
  · have : (1 ≤ a ∧ a ≤ 6) = (a ≤ 6) := by rw [eq_iff_iff]; omega
    simp only [if_pos h, this]
  · rw [if_neg h, decide_eq_false (by omega)]
theorem light2_ev (a b : List S41) : Ev (fun k => shelfmarklaw04_light.f k a b) (lightB 1000 a 0 0 && lightB 1000 b 0 0) := by
  unfold shelfmarklaw04_light.f
  refine Ev.bind (light_ev a 1000 (by omega)) ?_
  cases h : lightB 1000 a 0 0 with
  | true =>
    simp only [if_true, Bool.true_and]
    exact Ev.bind (light_ev b 1000 (by omega)) (Ev.now _)
  | false =>
    simp only [Bool.false_eq_true, if_false, Bool.false_and]
    exact Ev.now _
end Go.Proofs.YtieifhjjjlmkbaaDoor.Vl
namespace Go.Proofs.YtieifhjjjlmkbaaDoor.Va
open Go.RowKit Go.Proofs.YtieifhjjjlmkbaaDoor.POrd Go.Proofs.YtieifhjjjlmkbaaDoorW.PrintWords Go.Proofs.YtieifhjjjlmkbaaDoorW.PrintLast Go.Proofs.YtieifhjjjlmkbaaDoor.Hl Go.Proofs.YtieifhjjjlmkbaaDoor.Tl Go.Proofs.YtieifhjjjlmkbaaDoor.Tb Go.Proofs.YtieifhjjjlmkbaaDoor.Tk Go.Proofs.YtieifhjjjlmkbaaDoor.Tc Go.Proofs.YtieifhjjjlmkbaaDoor.Tr Go.Proofs.YtieifhjjjlmkbaaDoor.Ty Go.Proofs.YtieifhjjjlmkbaaDoor.Vl
set_option linter.unusedSimpArgs false
set_option linter.unusedVariables false
theorem rowB_len : ∀ (l : List S41), l.all good = true → (rowB l).length ≤ 67 * l.length
  | [], _ => by simp [rowB]
  | v :: t, hg => by
    rw [List.all_cons, Bool.and_eq_true] at hg
    have h1 := rowB_len t hg.2
    have h2 := form_len v hg.1
    rw [← formB_length] at h2
    simp only [rowB, List.flatMap_cons, List.length_append, List.length_cons] at *
    omega
theorem key_size {l : List S41} (h : rowE l = 0) : (strOfNums (keyL l)).size ≤ 268 := by
  obtain ⟨h1, h2⟩ := Tk.row_ok h
  have := rowB_len l h2
  rw [← data_length, key_bytes]; omega
theorem keyR_ok {l : List S41} (h : rowE l = 0) : keyR l = (strOfNums (keyL l), 0) := by unfold keyR; rw [if_pos h]
def front (a : Int) : ByteArray := strOfNums [0, a % 256]
theorem front_size (a : Int) : (front a).size = 2 := rfl
theorem front_data (a : Int) : (front a).data.toList = [0, UInt8.ofNat (a % 256).toNat] := rfl
theorem id2_eq (a : Int) (h : 1 ≤ a ∧ a ≤ 6) : record_id2.f a = some (front a) := by
  unfold record_id2.f front
  rw [show a / 256 % 256 = 0 by omega]
theorem cmpA_ok {a b : List S41} (h : rowE a = 0) (h2 : rowE b = 0) : cmpA a b = cmpR a b := by unfold cmpA; rw [if_pos h, if_pos h2]
end Go.Proofs.YtieifhjjjlmkbaaDoor.Va
namespace Go.Proofs.YtieifhjjjlmkbaaDoor.Vf
open Go.RowKit Go.Proofs.YtieifhjjjlmkbaaDoor.POrd Go.Proofs.YtieifhjjjlmkbaaDoorW.PrintWords Go.Proofs.YtieifhjjjlmkbaaDoorW.PrintLast Go.Proofs.YtieifhjjjlmkbaaDoor.Hl Go.Proofs.YtieifhjjjlmkbaaDoor.Tl Go.Proofs.YtieifhjjjlmkbaaDoor.Tb Go.Proofs.YtieifhjjjlmkbaaDoor.Tk Go.Proofs.YtieifhjjjlmkbaaDoor.Tc Go.Proofs.YtieifhjjjlmkbaaDoor.Tr Go.Proofs.YtieifhjjjlmkbaaDoor.Ty Go.Proofs.YtieifhjjjlmkbaaDoor.To Go.Proofs.YtieifhjjjlmkbaaDoor.Tn Go.Proofs.YtieifhjjjlmkbaaDoor.Vl Go.Proofs.YtieifhjjjlmkbaaDoor.Va
set_option linter.unusedSimpArgs false
set_option linter.unusedVariables false
def isNull (v : S41) : Bool := v.f0 == 0
theorem null_eq (k n : Int) (s : ByteArray) : record_null_v11.f k n s = some (k == 0) := by
  show record_null.f k n s = _
  unfold record_null.f
  rfl
theorem bad2_l0 (l : List S41) (hl : l.length < 4611686018427387904) : ∀ m i : Nat, i + m = l.length → ∃ r : Int, Ev (fun k => slices_IndexFunc_api_Val_api_Val_at_record_bad.l0 k l (l.length : Int) (i : Int)) r ∧ (decide (r ≥ 0) = !((l.drop i).all good))
  | 0, i, h => by
    refine ⟨-1, Ev.step (fun _ => slices_IndexFunc_api_Val_api_Val_at_record_bad.l0.eq_2 ..) ?_, ?_⟩
    · simp only [if_neg (show ¬ (i : Int) < (l.length : Int) by omega)]
      exact Ev.now _
    · rw [List.drop_eq_nil_of_le (by omega)]; rfl
  | m + 1, i, h => by
    have hi : i < l.length := by omega
    by_cases hg : good l[i] = true
    · obtain ⟨r, hr, hd⟩ := bad2_l0 l hl m (i + 1) (by omega)
      refine ⟨r, Ev.step (fun _ => slices_IndexFunc_api_Val_api_Val_at_record_bad.l0.eq_2 ..) ?_, ?_⟩
      · have hg' : goodB (l[i]).f0 (l[i]).f1 (l[i]).f2 = true := hg
        simp only [if_pos (show (i : Int) < (l.length : Int) by omega), if_pos (show (0 : Int) ≤ (i : Int) by omega), bad_eq, Option.bind_some, rd_get l i hi, hg', Bool.not_true, Bool.false_eq_true, if_false]
        rw [w64 (by omega) (by omega)]
        exact hr
      · rw [hd, drop_get l i hi, List.all_cons, hg, Bool.true_and]
    · have hg0 : good l[i] = false := by simpa using hg
      refine ⟨i, Ev.step (fun _ => slices_IndexFunc_api_Val_api_Val_at_record_bad.l0.eq_2 ..) ?_, ?_⟩
      · have hg' : goodB (l[i]).f0 (l[i]).f1 (l[i]).f2 = false := hg0
        simp only [if_pos (show (i : Int) < (l.length : Int) by omega), if_pos (show (0 : Int) ≤ (i : Int) by omega), bad_eq, Option.bind_some, rd_get l i hi, hg', Bool.not_false, if_true]
        exact Ev.now _
      · rw [drop_get l i hi, List.all_cons, hg0, Bool.false_and]
        simp
theorem bad2_ev (l : List S41) (hl : l.length < 4611686018427387904) : Ev (fun k => slices_ContainsFunc_api_Val_api_Val_at_record_bad.f k l) (!(l.all good)) := by
  obtain ⟨r, hr, hd⟩ := bad2_l0 l hl l.length 0 (by omega)
  rw [List.drop_zero] at hd
  unfold slices_ContainsFunc_api_Val_api_Val_at_record_bad.f slices_IndexFunc_api_Val_api_Val_at_record_bad.f
  refine Ev.bind hr ?_
  rw [hd]
  exact Ev.now _
theorem null_l0 (l : List S41) (hl : l.length < 4611686018427387904) : ∀ m i : Nat, i + m = l.length → ∃ r : Int, Ev (fun k => slices_IndexFunc_api_Val_api_Val_at_record_null.l0 k l (l.length : Int) (i : Int)) r ∧ (decide (r ≥ 0) = !((l.drop i).all fun v => !isNull v))
  | 0, i, h => by
    refine ⟨-1, Ev.step (fun _ => slices_IndexFunc_api_Val_api_Val_at_record_null.l0.eq_2 ..) ?_, ?_⟩
    · simp only [if_neg (show ¬ (i : Int) < (l.length : Int) by omega)]
      exact Ev.now _
    · rw [List.drop_eq_nil_of_le (by omega)]; rfl
  | m + 1, i, h => by
    have hi : i < l.length := by omega
    by_cases hg : (!isNull l[i]) = true
    · obtain ⟨r, hr, hd⟩ := null_l0 l hl m (i + 1) (by omega)
      refine ⟨r, Ev.step (fun _ => slices_IndexFunc_api_Val_api_Val_at_record_null.l0.eq_2 ..) ?_, ?_⟩
      · have hg' : ((l[i]).f0 == 0) = false := by simpa [isNull] using hg
        simp only [if_pos (show (i : Int) < (l.length : Int) by omega), if_pos (show (0 : Int) ≤ (i : Int) by omega), null_eq, Option.bind_some, rd_get l i hi, hg', Bool.false_eq_true, if_false]
        rw [w64 (by omega) (by omega)]
        exact hr
      · rw [hd, drop_get l i hi, List.all_cons, hg, Bool.true_and]
    · have hg0 : (!isNull l[i]) = false := by simpa using hg
      refine ⟨i, Ev.step (fun _ => slices_IndexFunc_api_Val_api_Val_at_record_null.l0.eq_2 ..) ?_, ?_⟩
      · have hg' : ((l[i]).f0 == 0) = true := by simpa [isNull] using hg0
        simp only [if_pos (show (i : Int) < (l.length : Int) by omega), if_pos (show (0 : Int) ≤ (i : Int) by omega), null_eq, Option.bind_some, rd_get l i hi, hg', if_true]
        exact Ev.now _
      · rw [drop_get l i hi, List.all_cons, hg0, Bool.false_and]
        simp
theorem null_ev (l : List S41) (hl : l.length < 4611686018427387904) : Ev (fun k => slices_ContainsFunc_api_Val_api_Val_at_record_null.f k l) (!(l.all fun v => !isNull v)) := by
  obtain ⟨r, hr, hd⟩ := null_l0 l hl l.length 0 (by omega)
  rw [List.drop_zero] at hd
  unfold slices_ContainsFunc_api_Val_api_Val_at_record_null.f slices_IndexFunc_api_Val_api_Val_at_record_null.f
  refine Ev.bind hr ?_
  rw [hd]
  exact Ev.now _
theorem Key_eq (s : ByteArray) : record_Key.f s = some (decide (1 ≤ s.size ∧ s.size ≤ 16)) := by
  unfold record_Key.f
  by_cases h : (s.size : Int) > 0
  · have : (1 ≤ s.size ∧ s.size ≤ 16) = ((s.size : Int) ≤ 16) := by rw [eq_iff_iff]; omega
    simp only [if_pos h, this]
  · rw [if_neg h, decide_eq_false (by omega)]
/-- What is wrong with an entry. -/
def entryE (a : Int) (l : List S41) (key : ByteArray) : Int :=
  firstE [if (!decide (1 ≤ a ∧ a ≤ 6) || ((l.length : Int) == 0)) = true then 1 else 0, if decide ((l.length : Int) > 2) = true then 4 else 0, if (!(l.all good) || (!(l.all fun v => !isNull v) || !decide (1 ≤ key.size ∧ key.size ≤ 16))) = true then 1 else 0]
def entryR (a : Int) (l : List S41) (key : ByteArray) : ByteArray × Int :=
  if entryE a l key = 0 then (((front a ++ strOfNums (keyL l)) ++ (⟨#[0]⟩ : ByteArray)) ++ key, 0) else (⟨#[]⟩, entryE a l key)
theorem entry_ok {a : Int} {l : List S41} {key : ByteArray} (h : entryE a l key = 0) : (1 ≤ a ∧ a ≤ 6) ∧ 1 ≤ l.length ∧ l.length ≤ 2 ∧ l.all good = true ∧ 1 ≤ key.size ∧ key.size ≤ 16 := by
  unfold entryE at h
  generalize e1 : (!decide (1 ≤ a ∧ a ≤ 6) || ((l.length : Int) == 0)) = b1 at h
  generalize e2 : decide ((l.length : Int) > 2) = b2 at h
  generalize e3 : (!(l.all good) || (!(l.all fun v => !isNull v) || !decide (1 ≤ key.size ∧ key.size ≤ 16))) = b3 at h
  cases b1 with
  | true => exact absurd h (by simp [firstE])
  | false =>
    cases b2 with
    | true => exact absurd h (by simp [firstE])
    | false =>
      cases b3 with
      | true => exact absurd h (by simp [firstE])
      | false =>
        rw [decide_eq_false_iff_not] at e2
        simp only [Bool.or_eq_false_iff, Bool.not_eq_false', decide_eq_true_eq, beq_eq_false_iff_ne] at e1 e3
        exact ⟨e1.1, by have := e1.2; omega, by omega, e3.1, e3.2.2⟩
theorem entry_row {a : Int} {l : List S41} {key : ByteArray} (h : entryE a l key = 0) : rowE l = 0 := by
  obtain ⟨_, _, h2, h3, _⟩ := entry_ok h
  unfold rowE
  rw [if_neg (by omega), if_pos h3]
theorem entry_j0 (a : Int) (l : List S41) (key : ByteArray) (hk : key.size ≤ 140737488351232) : Ev (fun k => record_Entry.j0 k a l key (entryE a l key)) (entryR a l key) := by
  refine Ev.step (fun _ => record_Entry.j0.eq_2 ..) ?_
  unfold entryR
  by_cases h : entryE a l key = 0
  · have hr := entry_row h
    have hs := key_size hr
    obtain ⟨ha, _⟩ := entry_ok h
    simp only [if_pos h]
    refine Ev.bind (key_ev l) ?_
    have z1 : (front a ++ strOfNums (keyL l)).size = 2 + (strOfNums (keyL l)).size := by rw [ByteArray.size_append, front_size]
    have z2 : ((front a ++ strOfNums (keyL l)) ++ (⟨#[0]⟩ : ByteArray)).size = 3 + (strOfNums (keyL l)).size := by
      rw [ByteArray.size_append, z1]; show 2 + (strOfNums (keyL l)).size + 1 = _; omega
    simp only [keyR_ok hr, id2_eq a ha, Option.bind_some, front_size, z1, z2, if_pos (show 2 + (strOfNums (keyL l)).size ≤ 9223372036854775807 by omega), if_pos (show 2 + (strOfNums (keyL l)).size + 1 ≤ 9223372036854775807 by omega), if_pos (show 3 + (strOfNums (keyL l)).size + key.size ≤ 9223372036854775807 by omega)]
    exact Ev.now _
  · simp only [if_neg h]
    exact Ev.now _
theorem entry_ev (a : Int) (l : List S41) (key : ByteArray) (hl : l.length < 4611686018427387904) (hk : key.size ≤ 140737488351232) : Ev (fun k => record_Entry.f k a l key) (entryR a l key) := by
  have hj := entry_j0 a l key hk
  unfold record_Entry.f
  simp only [number_eq, when_eq, Key_eq, Option.bind_some]
  unfold entryE at hj
  cases hn : decide (1 ≤ a ∧ a ≤ 6) with
  | true =>
    simp only [hn, Bool.not_true, Bool.false_or] at hj
    simp only [if_true]
    refine Ev.bind (bad2_ev l hl) ?_
    cases hg : l.all good with
    | false =>
      simp only [hg, Bool.not_false, Bool.true_or, if_true] at hj ⊢
      exact Ev.bind (first_ev _ (by simp)) hj
    | true =>
      simp only [hg, Bool.not_true, Bool.false_or, Bool.false_eq_true, if_false] at hj ⊢
      refine Ev.bind (null_ev l hl) ?_
      cases hz : (l.all fun v => !isNull v) with
      | false =>
        simp only [hz, Bool.not_false, Bool.true_or, if_true] at hj ⊢
        exact Ev.bind (first_ev _ (by simp)) hj
      | true =>
        simp only [hz, Bool.not_true, Bool.false_or, Bool.false_eq_true, if_false] at hj ⊢
        exact Ev.bind (first_ev _ (by simp)) hj
  | false =>
    simp only [hn, Bool.not_false, Bool.true_or, if_true] at hj
    simp only [Bool.false_eq_true, if_false, if_true]
    refine Ev.bind (bad2_ev l hl) ?_
    cases hg : l.all good with
    | false =>
      simp only [hg, Bool.not_false, Bool.true_or, if_true] at hj ⊢
      exact Ev.bind (first_ev _ (by simp)) hj
    | true =>
      simp only [hg, Bool.not_true, Bool.false_or, Bool.false_eq_true, if_false] at hj ⊢
      refine Ev.bind (null_ev l hl) ?_
      cases hz : (l.all fun v => !isNull v) with
      | false =>
        simp only [hz, Bool.not_false, Bool.true_or, if_true] at hj ⊢
        exact Ev.bind (first_ev _ (by simp)) hj
      | true =>
        simp only [hz, Bool.not_true, Bool.false_or, Bool.false_eq_true, if_false] at hj ⊢
        exact Ev.bind (first_ev _ (by simp)) hj
theorem range_tail {v : S41} {a : List S41} (h : ∀ x ∈ v :: a, -9223372036854775808 ≤ x.f1 ∧ x.f1 < 9223372036854775808) : ∀ x ∈ a, -9223372036854775808 ≤ x.f1 ∧ x.f1 < 9223372036854775808 := fun x hx => h x (by simp [hx])
/-- A row's bytes with a text behind, against another such. -/
theorem both_less (X Y : List UInt8) : ∀ a b : List S41, a.all good = true → b.all good = true → (∀ x ∈ a, -9223372036854775808 ≤ x.f1 ∧ x.f1 < 9223372036854775808) → (∀ x ∈ b, -9223372036854775808 ≤ x.f1 ∧ x.f1 < 9223372036854775808) → Op.bytesLess (rowB a ++ 0 :: X) (rowB b ++ 0 :: Y) = if cmpR a b = 0 then Op.bytesLess X Y else decide (cmpR a b < 0)
  | [], [], _, _, _, _ => by
    show Op.bytesLess (0 :: X) (0 :: Y) = _
    rw [less_cons, if_pos rfl]; rfl
  | [], w :: b, _, _, _, _ => by
    obtain ⟨c, t, h, hc⟩ := formB_head w
    show Op.bytesLess (0 :: X) ((formB w ++ rowB b) ++ 0 :: Y) = _
    rw [h]
    show Op.bytesLess (0 :: X) (c :: ((t ++ rowB b) ++ 0 :: Y)) = _
    rw [less_cons, if_neg (fun e => hc e.symm), decide_eq_true (zero_lt hc)]; rfl
  | v :: a, [], _, _, _, _ => by
    obtain ⟨c, t, h, hc⟩ := formB_head v
    show Op.bytesLess ((formB v ++ rowB a) ++ 0 :: X) (0 :: Y) = _
    rw [h]
    show Op.bytesLess (c :: ((t ++ rowB a) ++ 0 :: X)) (0 :: Y) = _
    rw [less_cons, if_neg hc, decide_eq_false (not_lt_zero c)]; rfl
  | v :: a, w :: b, ga, gb, ra, rb => by
    rw [List.all_cons, Bool.and_eq_true] at ga gb
    have e1 : rowB (v :: a) ++ 0 :: X = formB v ++ (rowB a ++ 0 :: X) := by simp [rowB]
    have e2 : rowB (w :: b) ++ 0 :: Y = formB w ++ (rowB b ++ 0 :: Y) := by simp [rowB]
    rw [e1, e2, val_less v w ga.1 gb.1 (ra v (by simp)) (rb w (by simp)), both_less X Y a b ga.2 gb.2 (range_tail ra) (range_tail rb)]
    show _ = if (if valC v w = 0 then cmpR a b else valC v w) = 0 then _ else decide ((if valC v w = 0 then cmpR a b else valC v w) < 0)
    by_cases h0 : valC v w = 0
    · simp only [if_pos h0]
    · simp only [if_neg h0]
/-- An entry stands in an area's range just if it is of that index, and what is shown lies in the area. -/
theorem front_less (o i : Int) (ho : 1 ≤ o ∧ o ≤ 6) (hi : 1 ≤ i ∧ i ≤ 6) (X Y : List UInt8) : Op.bytesLess ((front o).data.toList ++ X) ((front i).data.toList ++ Y) = if o = i then Op.bytesLess X Y else decide (o < i) := by
  rw [front_data, front_data]
  show Op.bytesLess (0 :: UInt8.ofNat (o % 256).toNat :: X) (0 :: UInt8.ofNat (i % 256).toNat :: Y) = _
  rw [less_cons, if_pos rfl, less_cons]
  obtain ⟨q1, q2⟩ := ofNat_lt (a := o % 256) (b := i % 256) (by omega) (by omega) (by omega) (by omega)
  by_cases h : o = i
  · subst h; rw [if_pos rfl, if_pos rfl]
  · rw [if_neg (fun e => h (by have := q1.1 e; omega)), if_neg h]
    by_cases h2 : o < i
    · rw [decide_eq_true (q2.2 (by omega)), decide_eq_true h2]
    · rw [decide_eq_false (fun e => by have := q2.1 e; omega), decide_eq_false h2]
theorem entry_data (a : Int) (l : List S41) (key : ByteArray) : (((front a ++ strOfNums (keyL l)) ++ (⟨#[0]⟩ : ByteArray)) ++ key).data.toList = (front a).data.toList ++ (rowB l ++ 0 :: key.data.toList) := by
  rw [← key_bytes]; simp
end Go.Proofs.YtieifhjjjlmkbaaDoor.Vf
