/- DERIVED. The plain law of the next text: behind all texts that begin with one stands the next one, and nothing lies between. Conditions: none but those that each theorem names. -/
import Derived.Test.YtdaidcfpikeooaaDoorHl
namespace Go.Proofs.YtdaidcfpikeooaaDoor.Tn
open Go.RowKit Go.Proofs.YtdaidcfpikeooaaDoorW.PrintWords Go.Proofs.YtdaidcfpikeooaaDoorW.PrintLast Go.Proofs.YtdaidcfpikeooaaDoor.Hl
/-- The next text, byte by byte. -/
def nb : List UInt8 → List UInt8
  | [] => []
  | x :: l => if nb l = [] then (if x = 255 then [] else [x + 1]) else x :: nb l
theorem u8_ne {x y : UInt8} : x ≠ y ↔ x.toNat ≠ y.toNat := by
  rw [Ne, ← UInt8.toNat_inj]
theorem u8_succ {x : UInt8} (h : x ≠ 255) : (x + 1).toNat = x.toNat + 1 := by
  have h1 : x.toNat ≠ 255 := fun e => h (UInt8.toNat_inj.1 e)
  have h2 := x.toNat_lt
  rw [UInt8.toNat_add]
  show (x.toNat + 1) % 256 = _
  omega
theorem begins_next : ∀ S T : List UInt8, S.isPrefixOf T = (!(Op.bytesLess T S) && (nb S == [] || Op.bytesLess T (nb S)))
  | [], T => by cases T <;> simp [nb, Op.bytesLess]
  | x :: l, [] => by simp [Op.bytesLess]
  | x :: l, y :: t => by
    have ih := begins_next l t
    have hx := x.toNat_lt
    have hy := y.toNat_lt
    by_cases h1 : y < x
    · have h1' := UInt8.lt_iff_toNat_lt.1 h1
      have h2 : (x == y) = false := by rw [beq_eq_false_iff_ne, u8_ne]; omega
      simp [List.isPrefixOf, Op.bytesLess, h1, h2]
    · have h1' : ¬ y.toNat < x.toNat := fun h => h1 (UInt8.lt_iff_toNat_lt.2 h)
      by_cases h3 : x = y
      · subst h3
        by_cases h4 : nb l = []
        · rw [h4] at ih
          by_cases h5 : x = 255
          · subst h5
            simp [List.isPrefixOf, Op.bytesLess, nb, h4, ih]
          · have h6 : x < x + 1 := UInt8.lt_iff_toNat_lt.2 (by rw [u8_succ h5]; omega)
            simp [List.isPrefixOf, Op.bytesLess, nb, h4, h5, h6, ih]
        · have h7 : (nb l == []) = false := by rw [beq_eq_false_iff_ne]; exact h4
          rw [h7] at ih
          simp [List.isPrefixOf, Op.bytesLess, nb, h4, ih]
      · have h2 : (x == y) = false := beq_eq_false_iff_ne.2 h3
        have h2' : (y == x) = false := beq_eq_false_iff_ne.2 (fun e => h3 e.symm)
        have h3' : x.toNat ≠ y.toNat := u8_ne.1 h3
        have h5 : x ≠ 255 := by rw [u8_ne]; show x.toNat ≠ 255; omega
        by_cases h4 : nb l = []
        · have h6 : ¬ y < x + 1 := by rw [UInt8.lt_iff_toNat_lt, u8_succ h5]; omega
          simp [List.isPrefixOf, Op.bytesLess, nb, h4, h5, h6, h1, h2]
        · simp [List.isPrefixOf, Op.bytesLess, nb, h4, h1, h2, h2']
theorem all_drop {α : Type} {p : α → Bool} : ∀ (l : List α), l.dropWhile p = [] → ∀ y ∈ l, p y = true
  | [], _, _, hy => by cases hy
  | x :: l, h, y, hy => by
    by_cases hx : p x = true
    · rw [List.dropWhile_cons_of_pos hx] at h
      rcases List.mem_cons.1 hy with rfl | hy
      · exact hx
      · exact all_drop l h y hy
    · rw [List.dropWhile_cons_of_neg hx] at h
      cases h
theorem strip_cons (x : Int) (l : List Int) : strip255 (x :: l) = if strip255 l = [] then (if x = 255 then [] else [x]) else x :: strip255 l := by
  unfold strip255
  rw [List.reverse_cons]
  by_cases h : l.reverse.dropWhile (fun x => x == 255) = []
  · rw [if_pos (by rw [h]; rfl)]
    have hall : ∀ y ∈ l.reverse, (y == 255) = true := by
      intro y hy
      exact all_drop _ h y hy
    rw [List.dropWhile_append_of_pos hall]
    by_cases hx : x = 255
    · subst hx; simp
    · simp [hx]
  · rw [if_neg (by simpa using h)]
    have : (l.reverse ++ [x]).dropWhile (fun x => x == 255) = l.reverse.dropWhile (fun x => x == 255) ++ [x] := by
      rw [List.dropWhile_append]
      rw [if_neg (by simpa using h)]
    rw [this]; simp
theorem nextL_nil (l : List Int) : nextL l = [] ↔ strip255 l = [] := by
  unfold nextL
  by_cases h : strip255 l = []
  · rw [if_pos h]; simp [h]
  · rw [if_neg h]; simp [h]
theorem nextL_cons (x : Int) (l : List Int) : nextL (x :: l) = if nextL l = [] then (if x = 255 then [] else [(x + 1) % 256]) else x :: nextL l := by
  by_cases h : strip255 l = []
  · rw [if_pos ((nextL_nil l).2 h)]
    by_cases hx : x = 255
    · rw [if_pos hx, nextL_nil, strip_cons, if_pos h, if_pos hx]
    · rw [if_neg hx]
      unfold nextL
      rw [strip_cons, if_pos h, if_neg hx]
      simp
  · rw [if_neg (fun e => h ((nextL_nil l).1 e))]
    conv => lhs; unfold nextL
    rw [strip_cons, if_neg h, if_neg (by simp)]
    conv => rhs; unfold nextL
    rw [if_neg h]
    rcases hs : strip255 l with _ | ⟨y, m⟩
    · exact absurd hs h
    · simp [List.dropLast]
theorem nextL_nb : ∀ l : List UInt8, nextL (l.map fun b => (b.toNat : Int)) = (nb l).map fun b => (b.toNat : Int)
  | [] => rfl
  | x :: l => by
    rw [List.map_cons, nextL_cons, nextL_nb l, nb]
    have hx : ((x.toNat : Int) = 255) ↔ x = 255 := by
      rw [← UInt8.toNat_inj]; show _ ↔ x.toNat = 255; omega
    by_cases h : nb l = []
    · rw [if_pos h, if_pos (by rw [h]; rfl)]
      by_cases hx2 : x = 255
      · rw [if_pos hx2, if_pos (hx.2 hx2)]; rfl
      · rw [if_neg hx2, if_neg (fun e => hx2 (hx.1 e))]
        simp only [List.map_cons, List.map_nil, u8_succ hx2]
        have := x.toNat_lt
        have h9 : x.toNat ≠ 255 := fun e => hx2 (UInt8.toNat_inj.1 e)
        congr 1
        omega
    · rw [if_neg h, if_neg (by simpa using h)]; rfl
theorem strOfNums_map (l : List UInt8) : strOfNums (l.map fun b => (b.toNat : Int)) = ⟨l.toArray⟩ := by
  unfold strOfNums
  rw [List.map_map]
  have : ((fun n : Int => UInt8.ofNat n.toNat) ∘ fun b : UInt8 => (b.toNat : Int)) = id := by
    funext b
    simp
  rw [this, List.map_id]
/-- What (tuple).Next answers. -/
theorem next_toList (s : ByteArray) : (strOfNums (nextL (bytesOf s))).toList = nb s.toList := by
  rw [Lib.toList_data s, bytesOf, nextL_nb, strOfNums_map, Lib.toList_data]
/-- What the law holds against it. -/
theorem begins_cut (s t : ByteArray) (h : s.size ≤ t.size) : ((t.extract 0 s.size).toList == s.toList) = s.toList.isPrefixOf t.toList := by
  have h1 : (t.extract 0 s.size).toList = t.toList.take s.toList.length := by
    rw [Lib.toList_data, Lib.toList_data t, Lib.toList_data s, data_length]
    simp [ByteArray.data_extract, Array.toList_extract]
  rw [h1]
  have hl : s.toList.length ≤ t.toList.length := by rw [Lib.toList_data, Lib.toList_data, data_length, data_length]; exact h
  generalize s.toList = S at *
  generalize t.toList = T at *
  rw [Bool.eq_iff_iff, beq_iff_eq, List.isPrefixOf_iff_prefix, List.prefix_iff_eq_take]
  exact eq_comm
theorem begins_short (s t : ByteArray) (h : t.size < s.size) : s.toList.isPrefixOf t.toList = false := by
  have hl : t.toList.length < s.toList.length := by rw [Lib.toList_data, Lib.toList_data, data_length, data_length]; exact h
  rw [Bool.eq_false_iff]
  intro e
  have := (List.isPrefixOf_iff_prefix.1 e).length_le
  omega
end Go.Proofs.YtdaidcfpikeooaaDoor.Tn
