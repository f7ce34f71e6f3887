/- DERIVED. What the printed functions of layer 1 come to: the plain law's reading and putting (Pk), from some number of rounds on. Conditions: those that each lemma names. -/
import Derived.Test.YtmgjccpolkhhhaaPAllx23
import Derived.Test.YtmgjccpolkhhhaaPAllx24
import Derived.Test.YtmgjccpolkhhhaaPAllx25
import Derived.Test.YtmgjccpolkhhhaaPAllx28
import Derived.Test.YtmgjccpolkhhhaaPAllx29
import Derived.Test.YtmgjccpolkhhhaaPAllx8
import Derived.Test.YtmgjccpolkhhhaaPk
import Derived.OpenShut
namespace Go.Proofs.Ytmgjccpolkhhhaa.PAllEv
open Go.RowKit Go.Proofs.Ytmgjccpolkhhhaa.PAll Go.Proofs.YtmgjccpolkhhhaaW.PrintWords Go.Proofs.YtmgjccpolkhhhaaW.PrintLast Go.Proofs.YtmgjccpolkhhhaaW.PrintMore Go.Proofs.Ytmgjccpolkhhhaa.Pk
set_option linter.unusedVariables false
set_option linter.unusedSimpArgs false

theorem w64 {x : Int} (h0 : -9223372036854775808 ≤ x) (h1 : x < 9223372036854775808) : wrap64 x = x := by unfold wrap64; omega

theorem bytes_of_wf {l : List Int} (h : ∀ x ∈ l, (Lit.int .u8 x).wf = true) : Bytes l := by
  intro x hx
  have := h x hx
  have := bounds_u8 this
  omega

theorem pow_128 (i : Nat) : (2 : Int) ^ (7 * i) = 128 ^ i := by
  rw [Int.pow_mul]
  rfl

theorem cast_pow (i : Nat) : (((128 : Nat) ^ i : Nat) : Int) = (128 : Int) ^ i := by rw [Int.natCast_pow]; rfl

theorem pow_le9 {i : Nat} (h : i ≤ 9) : (128 : Int) ^ i ≤ 9223372036854775808 := by
  have h1 : (128 : Nat) ^ i ≤ 9223372036854775808 := by rw [← pow9]; exact Nat.pow_le_pow_right (by decide) h
  rw [← cast_pow]
  exact Int.ofNat_le.2 h1

theorem pow8 : (128 : Nat) ^ 8 = 72057594037927936 := by decide

theorem pow_le8 {i : Nat} (h : i ≤ 8) : (128 : Int) ^ i ≤ 72057594037927936 := by
  have h1 : (128 : Nat) ^ i ≤ 72057594037927936 := by rw [← pow8]; exact Nat.pow_le_pow_right (by decide) h
  rw [← cast_pow]
  exact Int.ofNat_le.2 h1

theorem pow_pos (i : Nat) : (1 : Int) ≤ 128 ^ i := by
  have : 0 < (128 : Nat) ^ i := Nat.pow_pos (by decide)
  exact_mod_cast this

theorem and127 {c : Int} (h0 : 0 ≤ c) (h1 : c < 256) : Go.bits .and .u8 c 127 = c % 128 := by
  have := bits_mask .u8 8 (by decide) wraps_u8 7 (by decide) c h0 (by simpa using h1)
  simpa using this

theorem or128 {y : Int} (h0 : 0 ≤ y) (h1 : y < 256) : Go.bits .or .u8 y 128 = 128 + y % 128 := by
  have e : ∀ y : Fin 256, Go.bits .or .u8 (y.val : Int) 128 = 128 + (y.val : Int) % 128 := by decide +kernel
  have := e ⟨y.toNat, by omega⟩
  simp only at this
  rw [show ((y.toNat : Nat) : Int) = y by omega] at this
  exact this

theorem wraps_i64 (n : Int) (h₀ : 0 ≤ n) (h₁ : n < 2 ^ 63) : IntKind.i64.wrap n = n := by
  rw [IntKind.wrap_i64]
  have : (2 : Int) ^ 63 = 9223372036854775808 := by decide
  omega

/-- A number's next seven bits are laid above those that are there. -/
theorem or_shl {acc c : Int} {i : Nat} (hi : i ≤ 8) (ha0 : 0 ≤ acc) (ha : acc < 128 ^ i) (hc0 : 0 ≤ c) (hc : c < 128) :
    Go.bits .or .i64 acc (shl .i64 c (7 * i)) = acc + c * 128 ^ i := by
  have hp := pow_pos i
  have hp9 := pow_le9 (i := i + 1) (by omega)
  rw [Int.pow_succ] at hp9
  have hs : shl .i64 c (7 * (i : Int)) = c * 128 ^ i := by
    unfold shl
    rw [show (7 * (i : Int)).toNat = 7 * i by omega, show min (7 * i) (IntKind.bits .i64) = 7 * i from Nat.min_eq_left (by show 7 * i ≤ 64; omega), pow_128, IntKind.wrap_i64]
    have h1 : c * 128 ^ i ≤ 127 * 128 ^ i := Int.mul_le_mul_of_nonneg_right (by omega) (by omega)
    have h2 : 0 ≤ c * 128 ^ i := Int.mul_nonneg hc0 (by omega)
    omega
  rw [hs]
  have h1 : c * 128 ^ i ≤ 127 * 128 ^ i := Int.mul_le_mul_of_nonneg_right (by omega) (by omega)
  have h2 : 0 ≤ c * 128 ^ i := Int.mul_nonneg hc0 (by omega)
  have hcomm : Go.bits .or .i64 acc (c * 128 ^ i) = Go.bits .or .i64 (c * 128 ^ i) acc := by
    simp only [bits, BitVec.or_comm]
  rw [hcomm, bits_join .i64 63 (by decide) wraps_i64 (7 * i) (c * 128 ^ i) acc h2 (by rw [pow_128]; exact Int.mul_emod_left _ _)]
  · omega
  · have : (2 : Int) ^ 63 = 9223372036854775808 := by decide
    omega
  · exact ha0
  · rw [pow_128]; exact ha
  · have : (2 : Int) ^ 63 = 9223372036854775808 := by decide
    omega

theorem rd_drop {b : List Int} {c : Int} {r : List Int} {i : Nat} (h : b.drop i = c :: r) : rd b (i : Int) = c ∧ i < b.length ∧ b.drop (i + 1) = r := by
  have hi : i < b.length := by
    rcases Nat.lt_or_ge i b.length with h1 | h1
    · exact h1
    · rw [List.drop_eq_nil_of_le h1] at h; cases h
  rw [List.drop_eq_getElem_cons hi] at h
  injection h with h1 h2
  refine ⟨?_, hi, h2⟩
  unfold rd
  simp [List.getD, hi, h1]

theorem drop_nil {b : List Int} {i : Nat} (h : b.drop i = []) : b.length ≤ i := by simpa using h

/-- pack.GetNum's loop. -/
theorem GetNum_l0 (b : List Int) (p : Int) (hb : Bytes b) (hp0 : 0 ≤ p) (hp : p + b.length < 9223372036854775000) (r : List Int) : ∀ (i : Nat) (acc : Int), b.drop i = r → i ≤ 8 → 0 ≤ acc → acc < 128 ^ i → i ≤ b.length →
    Ev (fun k => pack_GetNum.l0 k p acc b (b.length : Int) (i : Int)) (gn r i acc (p + i)) := by
  induction r with
  | nil =>
    intro i acc hd hi ha0 ha hil
    have hl := drop_nil hd
    refine Ev.step (fun _ => pack_GetNum.l0.eq_2 ..) ?_
    simp only [if_neg (show ¬ (i : Int) < (b.length : Int) by omega), gn]
    exact Ev.now _
  | cons c r ih =>
    intro i acc hd hi ha0 ha hil
    obtain ⟨hc, hlt, hd'⟩ := rd_drop hd
    have hcb : 0 ≤ c ∧ c < 256 := by rw [← hc]; exact hb.get _
    have hor := or_shl (c := c % 128) hi ha0 ha (by omega) (by omega)
    have hp9 := pow_le9 (i := i + 1) (by omega)
    have hpp := pow_pos i
    have hmul : c % 128 * 128 ^ i ≤ 127 * 128 ^ i := Int.mul_le_mul_of_nonneg_right (by omega) (by omega)
    have hmul0 : 0 ≤ c % 128 * 128 ^ i := Int.mul_nonneg (by omega) (by omega)
    refine Ev.step (fun _ => pack_GetNum.l0.eq_2 ..) ?_
    simp only [if_pos (show (i : Int) < (b.length : Int) by omega), if_pos (show (0 : Int) ≤ (i : Int) by omega), hc, and127 hcb.1 hcb.2,
      w64 (x := 7 * (i : Int)) (by omega) (by omega), w64 (x := c % 128) (by omega) (by omega), if_pos (show (0 : Int) ≤ 7 * (i : Int) by omega), hor]
    have tail : ∀ t : Bool, t = decide (127 < c ∧ i = 8 ∨ c = 0 ∧ 0 < i) → Ev (fun k => pack_GetNum.j3 k p (acc + c % 128 * 128 ^ i) (i : Int) c b (b.length : Int) (i : Int) t) (gn (c :: r) i acc (p + i)) := by
      intro t ht
      refine Ev.step (fun _ => pack_GetNum.j3.eq_2 ..) ?_
      simp only [gn]
      by_cases h1 : 127 < c ∧ i = 8 ∨ c = 0 ∧ 0 < i
      · rw [if_pos h1]
        simp only [ht, decide_eq_true h1, if_true]
        exact Ev.now _
      · rw [if_neg h1]
        simp only [ht, decide_eq_false h1, Bool.false_eq_true, if_false]
        by_cases h2 : c < 128
        · simp only [if_pos h2]
          rw [Int.emod_eq_of_lt hcb.1 h2, w64 (x := p + (i : Int)) (by omega) (by omega), w64 (x := p + (i : Int) + 1) (by omega) (by omega)]
          exact Ev.now _
        · simp only [if_neg h2]
          rw [w64 (x := (i : Int) + 1) (by omega) (by omega), show c % 128 = c - 128 by omega, show ((i : Int) + 1) = ((i + 1 : Nat) : Int) by omega, show p + (i : Int) + 1 = p + ((i + 1 : Nat) : Int) by omega]
          rw [show c % 128 = c - 128 by omega] at hmul hmul0
          refine ih (i + 1) _ hd' (by omega) (by omega) ?_ (by omega)
          rw [Int.pow_succ]
          omega
    by_cases h : c > 127
    · simp only [if_pos h]
      refine Ev.step (fun _ => pack_GetNum.j2.eq_2 ..) ?_
      by_cases h8 : (i : Int) = 8
      · have e : ((i : Int) == 8) = true := by simpa using h8
        simp only [e, if_true]
        exact tail true (by symm; exact decide_eq_true (by omega))
      · have e : ((i : Int) == 8) = false := by simpa using h8
        simp only [e, Bool.false_eq_true, if_false, if_neg (show ¬ c = 0 by omega)]
        exact tail false (by symm; exact decide_eq_false (by omega))
    · simp only [if_neg h]
      refine Ev.step (fun _ => pack_GetNum.j2.eq_2 ..) ?_
      simp only [Bool.false_eq_true, if_false]
      by_cases h0 : c = 0
      · simp only [if_pos h0]
        refine tail _ ?_
        rw [Bool.eq_iff_iff, decide_eq_true_iff, decide_eq_true_iff]
        omega
      · simp only [if_neg h0]
        exact tail false (by symm; exact decide_eq_false (by omega))

theorem GetNum_ev (b : List Int) (p : Int) (hb : Bytes b) (hl : b.length ≤ 140737488351232) : Ev (fun k => pack_GetNum.f k b p) (getN b p) := by
  unfold pack_GetNum.f getN
  by_cases h0 : p < 0
  · rw [if_pos (Or.inl h0)]
    simp only [if_pos h0]
    refine Ev.step (fun _ => pack_GetNum.j0.eq_2 ..) ?_
    exact Ev.now _
  · simp only [if_neg h0]
    refine Ev.step (fun _ => pack_GetNum.j0.eq_2 ..) ?_
    by_cases h1 : (b.length : Int) < p
    · rw [if_pos (Or.inr h1)]
      simp only [decide_eq_true (show p > (b.length : Int) from h1), if_true]
      exact Ev.now _
    · rw [if_neg (by omega)]
      simp only [decide_eq_false (show ¬ p > (b.length : Int) from h1), Bool.false_eq_true, if_false, if_pos (show (0 : Int) ≤ p by omega), if_pos (show p ≤ (b.length : Int) by omega)]
      have := GetNum_l0 (b.drop p.toNat) p (hb.drop _) (by omega) (by have : (b.drop p.toNat).length ≤ b.length := by rw [List.length_drop]; omega
                                                                      omega) (b.drop p.toNat) 0 0 (by simp) (by omega) (by omega) (by simp) (by omega)
      simpa using this
/-- pack.Num's loop. -/
theorem Num_l0 (n : Nat) : ∀ acc : List Int, acc.length + (encN n).length ≤ 1000 → Ev (fun k => pack_Num.l0 k (n : Int) acc) (acc ++ encN n) := by
  induction n using Nat.strongRecOn with
  | _ n ih =>
    intro acc ha
    refine Ev.step (fun _ => pack_Num.l0.eq_2 ..) ?_
    by_cases h : n < 128
    · rw [encN_small h]
      simp only [if_neg (show ¬ (n : Int) > 127 by omega), if_pos (show acc.length < 140737488355328 by omega), Int.emod_eq_of_lt (show (0 : Int) ≤ n by omega) (show (n : Int) < 256 by omega)]
      exact Ev.now _
    · have ho := or128 (y := (n : Int) % 256) (by omega) (by omega)
      rw [encN_great h] at ha ⊢
      simp only [List.length_cons] at ha
      simp only [if_pos (show (n : Int) > 127 by omega), if_pos (show acc.length < 140737488355328 by omega), ho]
      have := ih (n / 128) (by omega) (acc ++ [((128 + n % 128 : Nat) : Int)]) (by simp; omega)
      rw [List.append_assoc] at this
      rw [show (128 : Int) + (n : Int) % 256 % 128 = ((128 + n % 128 : Nat) : Int) by omega, show (n : Int) / 128 = ((n / 128 : Nat) : Int) by omega]
      exact this

theorem Num_ev (n : Nat) (hn : n < 9223372036854775808) : Ev (fun k => pack_Num.f k (n : Int)) (encN n) := by
  unfold pack_Num.f
  simp only [if_neg (show ¬ (n : Int) < 0 by omega)]
  have := encN_le hn
  exact Num_l0 n [] (by simp; omega)

theorem Num_neg (n : Int) (hn : n < 0) : Ev (fun k => pack_Num.f k n) [] := by
  unfold pack_Num.f
  simp only [if_pos hn]
  exact Ev.now _
theorem bytesOf_bytes (s : ByteArray) : Bytes (bytesOf s) := by
  intro x hx
  unfold bytesOf at hx
  obtain ⟨b, _, rfl⟩ := List.mem_map.1 hx
  have := b.toNat_lt
  omega

theorem strOfNums_bytesOf (s : ByteArray) : strOfNums (bytesOf s) = s := by
  cases s with
  | mk d =>
    unfold strOfNums bytesOf
    congr 1
    rw [List.map_map]
    have : ((fun n : Int => UInt8.ofNat n.toNat) ∘ fun b : UInt8 => (b.toNat : Int)) = id := by
      funext b
      simp
    rw [this, List.map_id]

theorem bytesOf_strOfNums {l : List Int} (h : Bytes l) : bytesOf (strOfNums l) = l := by
  unfold bytesOf
  rw [strOfNums_data, List.map_map]
  have e : ∀ x ∈ l, ((fun b : UInt8 => (b.toNat : Int)) ∘ fun n : Int => UInt8.ofNat n.toNat) x = x := by
    intro x hx
    have := h x hx
    show ((UInt8.ofNat x.toNat).toNat : Int) = x
    rw [UInt8.toNat_ofNat']
    omega
  exact (List.map_congr_left e).trans (by simp)

theorem bytesOf_size (s : ByteArray) : (bytesOf s).length = s.size := bytesOf_length s

/-- Texts as lists of bytes. -/
def lists (l : List ByteArray) : List (List Int) := l.map bytesOf
def texts (l : List (List Int)) : List ByteArray := l.map strOfNums
theorem lists_texts {l : List (List Int)} (h : ∀ s ∈ l, Bytes s) : lists (texts l) = l := by
  unfold lists texts
  rw [List.map_map]
  have e : ∀ x ∈ l, (bytesOf ∘ strOfNums) x = x := fun x hx => bytesOf_strOfNums (h x hx)
  exact (List.map_congr_left e).trans (by simp)
theorem texts_lists (l : List ByteArray) : texts (lists l) = l := by
  unfold lists texts
  rw [List.map_map]
  have e : ∀ x ∈ l, (strOfNums ∘ bytesOf) x = x := fun x _ => strOfNums_bytesOf x
  exact (List.map_congr_left e).trans (by simp)
theorem lists_bytes (l : List ByteArray) : ∀ s ∈ lists l, Bytes s := by
  intro s hs
  obtain ⟨x, _, rfl⟩ := List.mem_map.1 hs
  exact bytesOf_bytes x
theorem lists_length (l : List ByteArray) : (lists l).length = l.length := by simp [lists]

theorem rdOf_drop {α : Type} {d : α} {b : List α} {c : α} {r : List α} {i : Nat} (h : b.drop i = c :: r) : rdOf d b (i : Int) = c ∧ i < b.length ∧ b.drop (i + 1) = r := by
  have hi : i < b.length := by
    rcases Nat.lt_or_ge i b.length with h1 | h1
    · exact h1
    · rw [List.drop_eq_nil_of_le h1] at h; cases h
  rw [List.drop_eq_getElem_cons hi] at h
  injection h with h1 h2
  refine ⟨?_, hi, h2⟩
  unfold rdOf
  simp [List.getD, hi, h1]

theorem dropd_nil {α : Type} {b : List α} {i : Nat} (h : b.drop i = []) : b.length ≤ i := by simpa using h

theorem Text_ev (s : ByteArray) (hs : s.size ≤ 140737488351232) : Ev (fun k => pack_Text.f k s) (encT (bytesOf s)) := by
  unfold pack_Text.f
  have hb := encN_le (n := s.size) (by omega)
  refine Ev.bind (Num_ev s.size (by omega)) ?_
  simp only [if_pos (show (encN s.size).length + s.size < 140737488355328 by omega)]
  unfold encT
  rw [bytesOf_size]
  exact Ev.now _
/-- How many bytes the forms of texts have in all. -/
theorem encAll_snoc_len (t : List (List Int)) (s : List Int) : (encAll (t ++ [s])).length = (encAll t).length + (encT s).length := by
  rw [encAll_append, List.length_append]
  simp [encAll]
/-- What pack.GetText answers. -/
theorem GetText_ev (b : List Int) (p most : Int) (hb : Bytes b) (hl : b.length ≤ 140737488351232) :
    Ev (fun k => pack_GetText.f k b p most) (strOfNums (getT b p most).1, (getT b p most).2.1, (getT b p most).2.2) := by
  unfold pack_GetText.f
  refine Ev.bind (GetNum_ev b p hb hl) ?_
  unfold getT
  by_cases h0 : (getN b p).2.2 = 0
  · obtain ⟨hp, n, hv, hn, hq, hqb, _⟩ := getN_inv (b := b) (p := p) (v := (getN b p).1) (q := (getN b p).2.1) hb (by rw [← h0])
    simp only [if_pos h0]
    by_cases h1 : most < (getN b p).1
    · simp only [if_pos (show (getN b p).1 > most from h1), if_pos h1]
      exact Ev.now _
    · simp only [if_neg (show ¬ (getN b p).1 > most from h1), if_neg h1, w64 (x := (b.length : Int) - (getN b p).2.1) (by omega) (by omega)]
      by_cases h2 : (b.length : Int) - (getN b p).2.1 < (getN b p).1
      · simp only [if_pos (show (getN b p).1 > (b.length : Int) - (getN b p).2.1 from h2), if_pos h2]
        exact Ev.now _
      · simp only [if_neg (show ¬ (getN b p).1 > (b.length : Int) - (getN b p).2.1 from h2), if_neg h2, w64 (x := (getN b p).2.1 + (getN b p).1) (by omega) (by omega),
          if_pos (show (0 : Int) ≤ (getN b p).2.1 by omega), if_pos (show (getN b p).2.1 ≤ (getN b p).2.1 + (getN b p).1 by omega), if_pos (show (getN b p).2.1 + (getN b p).1 ≤ (b.length : Int) by omega)]
        exact Ev.now _
  · simp only [if_neg h0]
    exact Ev.now _
/-- The reference's answer: a number, a place, an error. -/
theorem refGetNum_l0 (b : List Int) (hb : Bytes b) (hl : b.length ≤ 140737488351232) (r : List Int) : ∀ (p i : Nat) (acc : Int), b.drop p = r → i ≤ 8 → 0 ≤ acc → acc < 128 ^ i → p ≤ b.length →
    Ev (fun k => shelfmarkref01_GetNum.l0 k b (p : Int) acc (128 ^ i) (i : Int)) ((gn r i acc p).1, (⟨#[]⟩ : ByteArray), ([] : List ByteArray), (gn r i acc p).2.1, (gn r i acc p).2.2) := by
  induction r with
  | nil =>
    intro p i acc hd hi ha0 ha hil
    have hl := drop_nil hd
    refine Ev.step (fun _ => shelfmarkref01_GetNum.l0.eq_2 ..) ?_
    simp only [if_pos (show (i : Int) < 9 by omega), if_pos (show (p : Int) ≥ (b.length : Int) by omega), gn]
    exact Ev.now _
  | cons c r ih =>
    intro p i acc hd hi ha0 ha hil
    obtain ⟨hc, hlt, hd'⟩ := rd_drop hd
    have hcb : 0 ≤ c ∧ c < 256 := by rw [← hc]; exact hb.get _
    have hp9 := pow_le9 (i := i + 1) (by omega)
    have hpp := pow_pos i
    have hmul : c % 128 * 128 ^ i ≤ 127 * 128 ^ i := Int.mul_le_mul_of_nonneg_right (by omega) (by omega)
    have hmul0 : 0 ≤ c % 128 * 128 ^ i := Int.mul_nonneg (by omega) (by omega)
    rw [Int.pow_succ] at hp9
    have htm : Int.tmod c 128 = c % 128 := Int.tmod_eq_emod_of_nonneg hcb.1
    refine Ev.step (fun _ => shelfmarkref01_GetNum.l0.eq_2 ..) ?_
    simp only [if_pos (show (i : Int) < 9 by omega), if_neg (show ¬ (p : Int) ≥ (b.length : Int) by omega), if_pos (show (0 : Int) ≤ (p : Int) by omega), if_pos (show (p : Int) < (b.length : Int) by omega), hc, w64 (x := c) (by omega) (by omega), w64 (x := (p : Int) + 1) (by omega) (by omega)]
    have tail : ∀ t : Bool, t = decide (127 < c ∧ i = 8 ∨ c = 0 ∧ 0 < i) → Ev (fun k => shelfmarkref01_GetNum.j2 k b ((p : Int) + 1) acc (128 ^ i) (i : Int) c t) ((gn (c :: r) i acc p).1, (⟨#[]⟩ : ByteArray), ([] : List ByteArray), (gn (c :: r) i acc p).2.1, (gn (c :: r) i acc p).2.2) := by
      intro t ht
      refine Ev.step (fun _ => shelfmarkref01_GetNum.j2.eq_2 ..) ?_
      simp only [gn]
      by_cases h1 : 127 < c ∧ i = 8 ∨ c = 0 ∧ 0 < i
      · rw [if_pos h1]
        simp only [ht, decide_eq_true h1, if_true]
        exact Ev.now _
      · rw [if_neg h1]
        simp only [ht, decide_eq_false h1, Bool.false_eq_true, if_false, htm, w64 (x := c % 128 * 128 ^ i) (by omega) (by omega), w64 (x := acc + c % 128 * 128 ^ i) (by omega) (by omega)]
        by_cases h2 : c < 128
        · simp only [if_pos h2]
          rw [Int.emod_eq_of_lt hcb.1 h2]
          exact Ev.now _
        · simp only [if_neg h2]
          have hp8 := pow_le8 (i := i) (by omega)
          rw [show c % 128 = c - 128 by omega] at hmul hmul0 ⊢
          have hi7 : i ≤ 7 := by omega
          have hp8' := pow_le8 (i := i + 1) (by omega)
          have := ih (p + 1) (i + 1) (acc + (c - 128) * 128 ^ i) hd' (by omega) (by omega) (by rw [Int.pow_succ]; omega) (by omega)
          rw [w64 (x := (i : Int) + 1) (by omega) (by omega), w64 (x := 128 ^ i * 128) (by omega) (by rw [← Int.pow_succ]; omega), ← Int.pow_succ]
          simpa using this
    by_cases h : c ≥ 128
    · simp only [if_pos h]
      by_cases h8 : (i : Int) = 8
      · simp only [if_pos h8]
        exact tail true (by symm; exact decide_eq_true (by omega))
      · simp only [if_neg h8, if_neg (show ¬ c = 0 by omega)]
        exact tail false (by symm; exact decide_eq_false (by omega))
    · simp only [if_neg h]
      by_cases h0 : c = 0
      · simp only [if_pos h0]
        refine tail _ ?_
        rw [Bool.eq_iff_iff, decide_eq_true_iff, decide_eq_true_iff]
        omega
      · simp only [if_neg h0]
        exact tail false (by symm; exact decide_eq_false (by omega))

theorem refGetNum_ev (b : List Int) (p : Int) (hb : Bytes b) (hl : b.length ≤ 140737488351232) : Ev (fun k => shelfmarkref01_GetNum.f k b p) ((getN b p).1, (⟨#[]⟩ : ByteArray), ([] : List ByteArray), (getN b p).2.1, (getN b p).2.2) := by
  unfold shelfmarkref01_GetNum.f getN
  by_cases h0 : p < 0
  · rw [if_pos (Or.inl h0)]
    simp only [if_pos h0]
    refine Ev.step (fun _ => shelfmarkref01_GetNum.j0.eq_2 ..) ?_
    exact Ev.now _
  · simp only [if_neg h0]
    refine Ev.step (fun _ => shelfmarkref01_GetNum.j0.eq_2 ..) ?_
    by_cases h1 : (b.length : Int) < p
    · rw [if_pos (Or.inr h1)]
      simp only [decide_eq_true (show p > (b.length : Int) from h1), if_true]
      exact Ev.now _
    · rw [if_neg (by omega)]
      simp only [decide_eq_false (show ¬ p > (b.length : Int) from h1), Bool.false_eq_true, if_false]
      have := refGetNum_l0 b hb hl (b.drop p.toNat) p.toNat 0 0 rfl (by omega) (by omega) (by simp) (by omega)
      rw [show ((p.toNat : Nat) : Int) = p by omega] at this
      simpa using this
/-- The reference's answer: a text, a place, an error. -/
theorem refGetText_ev (b : List Int) (p most : Int) (hb : Bytes b) (hl : b.length ≤ 140737488351232) :
    Ev (fun k => shelfmarkref01_GetText.f k b p most) (0, strOfNums (getT b p most).1, ([] : List ByteArray), (getT b p most).2.1, (getT b p most).2.2) := by
  unfold shelfmarkref01_GetText.f
  refine Ev.bind (refGetNum_ev b p hb hl) ?_
  unfold getT
  by_cases h0 : (getN b p).2.2 = 0
  · obtain ⟨hp, n, hv, hn, hq, hqb, _⟩ := getN_inv (b := b) (p := p) (v := (getN b p).1) (q := (getN b p).2.1) hb (by rw [← h0])
    simp only [if_pos h0]
    by_cases h1 : most < (getN b p).1
    · simp only [if_pos (show (getN b p).1 > most from h1), if_pos h1]
      exact Ev.now _
    · simp only [if_neg (show ¬ (getN b p).1 > most from h1), if_neg h1, w64 (x := (b.length : Int) - (getN b p).2.1) (by omega) (by omega)]
      by_cases h2 : (b.length : Int) - (getN b p).2.1 < (getN b p).1
      · simp only [if_pos (show (getN b p).1 > (b.length : Int) - (getN b p).2.1 from h2), if_pos h2]
        exact Ev.now _
      · simp only [if_neg (show ¬ (getN b p).1 > (b.length : Int) - (getN b p).2.1 from h2), if_neg h2, w64 (x := (getN b p).2.1 + (getN b p).1) (by omega) (by omega),
          if_pos (show (0 : Int) ≤ (getN b p).2.1 by omega), if_pos (show (getN b p).2.1 ≤ (getN b p).2.1 + (getN b p).1 by omega), if_pos (show (getN b p).2.1 + (getN b p).1 ≤ (b.length : Int) by omega)]
        exact Ev.now _
  · have he := getN_err (b := b) (p := p) (v := (getN b p).1) (q := (getN b p).2.1) (e := (getN b p).2.2) rfl h0
    simp only [if_neg h0, he.1, he.2.1]
    exact Ev.now _
theorem refNum_ev (n : Nat) (hn : n < 9223372036854775808) : Ev (fun k => shelfmarkref01_Num.f k (n : Int)) (encN n) := by
  induction n using Nat.strongRecOn with
  | _ n ih =>
    refine Ev.step (fun _ => shelfmarkref01_Num.f.eq_2 ..) ?_
    simp only [if_neg (show ¬ (n : Int) < 0 by omega)]
    by_cases h : n < 128
    · rw [encN_small h]
      simp only [if_pos (show (n : Int) < 128 by omega), Int.emod_eq_of_lt (show (0 : Int) ≤ n by omega) (show (n : Int) < 256 by omega)]
      exact Ev.now _
    · rw [encN_great h]
      have hb := encN_le (n := n / 128) (by omega)
      simp only [if_neg (show ¬ (n : Int) < 128 by omega), Int.tmod_eq_emod_of_nonneg (show (0 : Int) ≤ n by omega), Int.tdiv_eq_ediv_of_nonneg (show (0 : Int) ≤ n by omega), Option.bind_some]
      rw [w64 (x := 128 + (n : Int) % 128) (by omega) (by omega), w64 (x := (n : Int) / 128) (by omega) (by omega), show (128 + (n : Int) % 128) % 256 = ((128 + n % 128 : Nat) : Int) by omega, show (n : Int) / 128 = ((n / 128 : Nat) : Int) by omega]
      refine Ev.bind (ih (n / 128) (by omega) (by omega)) ?_
      simp only [if_pos (show [((128 + n % 128 : Nat) : Int)].length + (encN (n / 128)).length < 140737488355328 by simp; omega)]
      exact Ev.now _

theorem refNum_neg (n : Int) (hn : n < 0) : Ev (fun k => shelfmarkref01_Num.f k n) [] := by
  refine Ev.step (fun _ => shelfmarkref01_Num.f.eq_2 ..) ?_
  simp only [if_pos hn]
  exact Ev.now _
theorem refText_ev (s : ByteArray) (hs : s.size ≤ 140737488351232) : Ev (fun k => shelfmarkref01_Text.f k s) (encT (bytesOf s)) := by
  unfold shelfmarkref01_Text.f
  have hb := encN_le (n := s.size) (by omega)
  refine Ev.bind (refNum_ev s.size (by omega)) ?_
  simp only [if_pos (show (encN s.size).length + s.size < 140737488355328 by omega)]
  unfold encT
  rw [bytesOf_size]
  exact Ev.now _

theorem rdL_drop {b : List (List Int)} {c : List Int} {r : List (List Int)} {i : Nat} (h : b.drop i = c :: r) : rd_L7 b (i : Int) = c ∧ i < b.length ∧ b.drop (i + 1) = r := by
  obtain ⟨h1, h2, h3⟩ := rdOf_drop (d := ([] : List Int)) h
  refine ⟨?_, h2, h3⟩
  rw [← h1]
  rfl

theorem Concat_l1 (l : List (List Int)) (hl : l.length < 9223372036854775807) (r : List (List Int)) : ∀ (i : Nat) (acc : List Int), l.drop i = r → acc.length + r.flatten.length < 140737488355328 → i ≤ l.length →
    Ev (fun k => slices_Concat_byte_byte.l1 k acc l (l.length : Int) (i : Int)) (acc ++ r.flatten) := by
  induction r with
  | nil =>
    intro i acc hd _ _
    have hi := dropd_nil hd
    refine Ev.step (fun _ => slices_Concat_byte_byte.l1.eq_2 ..) ?_
    simp only [if_neg (show ¬ (i : Int) < (l.length : Int) by omega)]
    simpa using Ev.now acc
  | cons s r ih =>
    intro i acc hd ha hil
    obtain ⟨hc, hlt, hd'⟩ := rdL_drop hd
    rw [List.flatten_cons, List.length_append] at ha
    refine Ev.step (fun _ => slices_Concat_byte_byte.l1.eq_2 ..) ?_
    simp only [if_pos (show (i : Int) < (l.length : Int) by omega), if_pos (show (0 : Int) ≤ (i : Int) by omega), hc, if_pos (show acc.length + s.length < 140737488355328 by omega)]
    rw [w64 (x := (i : Int) + 1) (by omega) (by omega), show ((i : Int) + 1) = ((i + 1 : Nat) : Int) by omega, List.flatten_cons, ← List.append_assoc]
    exact ih (i + 1) _ hd' (by rw [List.length_append]; omega) (by omega)

theorem Concat_l0 (l : List (List Int)) (hl : l.length < 9223372036854775807) (ht : l.flatten.length ≤ 140737488351232) (r : List (List Int)) : ∀ (i n : Nat), l.drop i = r → n + r.flatten.length ≤ 140737488351232 → i ≤ l.length →
    Ev (fun k => slices_Concat_byte_byte.l0 k l (n : Int) l (l.length : Int) (i : Int)) l.flatten := by
  induction r with
  | nil =>
    intro i n hd hn _
    have hi := dropd_nil hd
    refine Ev.step (fun _ => slices_Concat_byte_byte.l0.eq_2 ..) ?_
    simp only [if_neg (show ¬ (i : Int) < (l.length : Int) by omega)]
    have hg : slices_Grow_byte_byte.f ([] : List Int) (n : Int) = some [] := by
      unfold slices_Grow_byte_byte.f
      rw [if_pos (by simp), if_pos (by omega), if_pos (by omega)]
    simp only [hg, Option.bind_some]
    simpa using Concat_l1 l hl l 0 [] (by simp) (by simp only [List.length_nil]; omega) (by omega)
  | cons s r ih =>
    intro i n hd hn hil
    obtain ⟨hc, hlt, hd'⟩ := rdL_drop hd
    rw [List.flatten_cons, List.length_append] at hn
    refine Ev.step (fun _ => slices_Concat_byte_byte.l0.eq_2 ..) ?_
    simp only [if_pos (show (i : Int) < (l.length : Int) by omega), if_pos (show (0 : Int) ≤ (i : Int) by omega), hc, w64 (x := (n : Int) + (s.length : Int)) (by omega) (by omega), if_neg (show ¬ (n : Int) + (s.length : Int) < 0 by omega)]
    rw [w64 (x := (i : Int) + 1) (by omega) (by omega), show ((i : Int) + 1) = ((i + 1 : Nat) : Int) by omega, show (n : Int) + (s.length : Int) = ((n + s.length : Nat) : Int) by omega]
    exact ih (i + 1) _ hd' (by omega) (by omega)

/-- What pack.Join answers. -/
theorem Join_ev (l : List (List Int)) (hl : l.length < 9223372036854775807) (ht : l.flatten.length ≤ 140737488351232) : Ev (fun k => pack_Join.f k l) l.flatten := by
  unfold pack_Join.f slices_Concat_byte_byte.f
  refine Ev.bind (Concat_l0 l hl ht l 0 0 (by simp) (by omega) (by omega)) ?_
  exact Ev.now _

end Go.Proofs.Ytmgjccpolkhhhaa.PAllEv
