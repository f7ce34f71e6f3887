/- DERIVED. The plain law of layer 1: the forms of numbers, texts and lists as lists of bytes (whole numbers from 0 to 255), how they are read, and that reading undoes putting. No program and no memory stands here. Conditions: those that each lemma names. -/
import Derived.RowKit
import Derived.Laws.BytesArg
import Derived.Laws.Strings
namespace Go.Proofs.Ytmgjccpolkhhhaa.Pk
open Go.RowKit

/-- Every number of the list is a byte. -/
def Bytes (l : List Int) : Prop := ∀ x ∈ l, 0 ≤ x ∧ x < 256

theorem Bytes.nil : Bytes [] := fun _ h => by cases h
theorem Bytes.cons {c : Int} {l : List Int} (h0 : 0 ≤ c) (h1 : c < 256) (h : Bytes l) : Bytes (c :: l) := by
  intro x hx
  rcases List.mem_cons.1 hx with rfl | hx
  · exact ⟨h0, h1⟩
  · exact h x hx
theorem Bytes.head {c : Int} {l : List Int} (h : Bytes (c :: l)) : 0 ≤ c ∧ c < 256 := h c (List.mem_cons_self ..)
theorem Bytes.tail {c : Int} {l : List Int} (h : Bytes (c :: l)) : Bytes l := fun x hx => h x (List.mem_cons_of_mem _ hx)
theorem Bytes.append {a b : List Int} (ha : Bytes a) (hb : Bytes b) : Bytes (a ++ b) := by
  intro x hx
  rcases List.mem_append.1 hx with h | h
  · exact ha x h
  · exact hb x h
theorem Bytes.drop {l : List Int} (h : Bytes l) (i : Nat) : Bytes (l.drop i) := fun x hx => h x (List.mem_of_mem_drop hx)
theorem Bytes.take {l : List Int} (h : Bytes l) (i : Nat) : Bytes (l.take i) := fun x hx => h x (List.mem_of_mem_take hx)
theorem Bytes.left {a b : List Int} (h : Bytes (a ++ b)) : Bytes a := fun x hx => h x (List.mem_append_left _ hx)
theorem Bytes.right {a b : List Int} (h : Bytes (a ++ b)) : Bytes b := fun x hx => h x (List.mem_append_right _ hx)
theorem Bytes.get {l : List Int} (h : Bytes l) (i : Nat) : 0 ≤ l.getD i 0 ∧ l.getD i 0 < 256 := by
  by_cases hi : i < l.length
  · have : l.getD i 0 = l[i] := by simp [List.getD, hi]
    rw [this]
    exact h _ (List.getElem_mem hi)
  · have : l.getD i 0 = 0 := by simp [List.getD, hi]
    rw [this]
    omega

/-! ### The form of a number -/

/-- The form of a number. -/
def encN (n : Nat) : List Int := if n < 128 then [(n : Int)] else ((128 + n % 128 : Nat) : Int) :: encN (n / 128)
termination_by n
decreasing_by omega

theorem encN_small {n : Nat} (h : n < 128) : encN n = [(n : Int)] := by rw [encN, if_pos h]
theorem encN_great {n : Nat} (h : ¬ n < 128) : encN n = ((128 + n % 128 : Nat) : Int) :: encN (n / 128) := by rw [encN, if_neg h]

theorem encN_bytes (n : Nat) : Bytes (encN n) := by
  induction n using Nat.strongRecOn with
  | _ n ih =>
    by_cases h : n < 128
    · rw [encN_small h]; exact Bytes.cons (by omega) (by omega) Bytes.nil
    · rw [encN_great h]; exact Bytes.cons (by omega) (by omega) (ih _ (by omega))

theorem encN_pos (n : Nat) : 0 < (encN n).length := by
  by_cases h : n < 128
  · rw [encN_small h]; simp
  · rw [encN_great h]; simp

theorem encN_len (n : Nat) : ∀ j : Nat, 0 < j → n < 128 ^ j → (encN n).length ≤ j := by
  induction n using Nat.strongRecOn with
  | _ n ih =>
    intro j hj hn
    by_cases h : n < 128
    · rw [encN_small h]; simp; omega
    · rw [encN_great h]
      obtain ⟨j, rfl⟩ : ∃ i, j = i + 1 := ⟨j - 1, by omega⟩
      have h1 : n / 128 < 128 ^ j := by
        rw [Nat.pow_succ] at hn
        exact Nat.div_lt_of_lt_mul (by rw [Nat.mul_comm]; exact hn)
      have hj' : 0 < j := by
        rcases Nat.eq_zero_or_pos j with rfl | hp
        · simp at hn; omega
        · exact hp
      have := ih (n / 128) (by omega) j hj' h1
      simp; omega

theorem pow9 : (128 : Nat) ^ 9 = 9223372036854775808 := by decide

theorem encN_le {n : Nat} (h : n < 9223372036854775808) : (encN n).length ≤ 9 := encN_len n 9 (by decide) (by rw [pow9]; exact h)

/-- What is read of a number from a list of bytes on: k bytes are behind, acc is what they told, p is the place. -/
def gn : List Int → Nat → Int → Int → Int × Int × Int
  | [], _, _, _ => (0, 0, 2)
  | c :: r, k, acc, p => if 127 < c ∧ k = 8 ∨ c = 0 ∧ 0 < k then (0, 0, 3) else if c < 128 then (acc + c * 128 ^ k, p + 1, 0) else gn r (k + 1) (acc + (c - 128) * 128 ^ k) (p + 1)

/-- GetNum. -/
def getN (b : List Int) (p : Int) : Int × Int × Int := if p < 0 ∨ (b.length : Int) < p then (0, 0, 1) else gn (b.drop p.toNat) 0 0 p

theorem gn_enc (n : Nat) : ∀ (k : Nat) (acc p : Int) (rest : List Int), k ≤ 8 → n < 128 ^ (9 - k) → (0 < k → 0 < n) →
    gn (encN n ++ rest) k acc p = (acc + n * 128 ^ k, p + (encN n).length, 0) := by
  induction n using Nat.strongRecOn with
  | _ n ih =>
    intro k acc p rest hk hn h0
    by_cases h : n < 128
    · rw [encN_small h]
      simp only [List.cons_append, List.nil_append, gn, List.length_cons, List.length_nil]
      rw [if_neg (by omega), if_pos (by omega)]
      simp
    · rw [encN_great h]
      have hk8 : k ≠ 8 := by
        rintro rfl
        simp at hn
        omega
      have h1 : n / 128 < 128 ^ (9 - (k + 1)) := by
        have e : 9 - k = (9 - (k + 1)) + 1 := by omega
        rw [e, Nat.pow_succ] at hn
        exact Nat.div_lt_of_lt_mul (by rw [Nat.mul_comm]; exact hn)
      simp only [List.cons_append, gn]
      rw [if_neg (by omega), if_neg (by omega), ih (n / 128) (by omega) (k + 1) _ _ rest (by omega) h1 (by omega)]
      have e1 : (((128 + n % 128 : Nat) : Int) - 128) = ((n % 128 : Nat) : Int) := by omega
      have e2 : (n : Int) = ((n % 128 : Nat) : Int) + ((n / 128 : Nat) : Int) * 128 := by omega
      rw [e1]
      refine Prod.ext ?_ (Prod.ext ?_ rfl)
      · show acc + ((n % 128 : Nat) : Int) * 128 ^ k + ((n / 128 : Nat) : Int) * 128 ^ (k + 1) = acc + (n : Int) * 128 ^ k
        rw [Int.pow_succ]
        generalize (128 : Int) ^ k = q
        rw [e2, Int.add_mul, Int.mul_assoc _ 128 q, Int.mul_comm 128 q, Int.add_assoc]
      · show p + 1 + ((encN (n / 128)).length : Int) = p + ((encN (n / 128)).length + 1 : Nat)
        omega

theorem gn_inv (l : List Int) : ∀ (k : Nat) (acc p v q : Int), Bytes l → k ≤ 8 → gn l k acc p = (v, q, 0) →
    ∃ n rest, l = encN n ++ rest ∧ v = acc + (n : Int) * 128 ^ k ∧ q = p + (encN n).length ∧ n < 128 ^ (9 - k) ∧ (0 < k → 0 < n) := by
  induction l with
  | nil => intro k acc p v q _ _ h; simp [gn] at h
  | cons c r ih =>
    intro k acc p v q hb hk h
    have hc := hb.head
    simp only [gn] at h
    by_cases h1 : 127 < c ∧ k = 8 ∨ c = 0 ∧ 0 < k
    · rw [if_pos h1] at h; simp at h
    · rw [if_neg h1] at h
      by_cases h2 : c < 128
      · rw [if_pos h2] at h
        simp only [Prod.mk.injEq] at h
        have hp : 128 ^ 1 ≤ 128 ^ (9 - k) := Nat.pow_le_pow_right (by decide) (by omega)
        refine ⟨c.toNat, r, ?_, ?_, ?_, ?_, ?_⟩
        · rw [encN_small (by omega)]
          simp; omega
        · rw [show (c.toNat : Int) = c by omega]; exact h.1.symm
        · rw [encN_small (by omega)]; simp; omega
        · omega
        · omega
      · rw [if_neg h2] at h
        obtain ⟨n, rest, hl, hv, hq, hn, hn0⟩ := ih (k + 1) _ _ v q hb.tail (by omega) h
        have hn1 : 0 < n := hn0 (by omega)
        have hm : (128 * n + (c - 128).toNat) / 128 = n := by omega
        have hr : (128 * n + (c - 128).toNat) % 128 = (c - 128).toNat := by omega
        have hg : ¬ 128 * n + (c - 128).toNat < 128 := by omega
        refine ⟨128 * n + (c - 128).toNat, rest, ?_, ?_, ?_, ?_, ?_⟩
        · rw [encN_great hg, hm, hr, hl]
          simp; omega
        · rw [hv, Int.pow_succ]
          have e : ((128 * n + (c - 128).toNat : Nat) : Int) = (n : Int) * 128 + (c - 128) := by omega
          rw [e, Int.add_mul, Int.mul_assoc, Int.mul_comm 128 ((128 : Int) ^ k), Int.add_assoc, Int.add_comm ((c - 128) * 128 ^ k)]
        · rw [encN_great hg, hm, hq]
          simp; omega
        · have e : 9 - k = (9 - (k + 1)) + 1 := by omega
          rw [e, Nat.pow_succ]
          omega
        · omega

theorem gn_cut (n : Nat) : ∀ (k : Nat) (acc p : Int) (i : Nat), k ≤ 8 → n < 128 ^ (9 - k) → (0 < k → 0 < n) → i < (encN n).length →
    gn ((encN n).take i) k acc p = (0, 0, 2) := by
  induction n using Nat.strongRecOn with
  | _ n ih =>
    intro k acc p i hk hn h0 hi
    rcases Nat.eq_zero_or_pos i with rfl | hip
    · simp [gn]
    obtain ⟨i, rfl⟩ : ∃ j, i = j + 1 := ⟨i - 1, by omega⟩
    by_cases h : n < 128
    · rw [encN_small h] at hi; simp at hi
    · rw [encN_great h] at hi ⊢
      have hk8 : k ≠ 8 := by
        rintro rfl
        simp at hn
        omega
      have h1 : n / 128 < 128 ^ (9 - (k + 1)) := by
        have e : 9 - k = (9 - (k + 1)) + 1 := by omega
        rw [e, Nat.pow_succ] at hn
        exact Nat.div_lt_of_lt_mul (by rw [Nat.mul_comm]; exact hn)
      simp only [List.take_succ_cons, gn]
      rw [if_neg (by omega), if_neg (by omega)]
      exact ih (n / 128) (by omega) (k + 1) _ _ i (by omega) h1 (by omega) (by simpa using hi)

/-- Beside an error nothing is told. -/
theorem gn_err (l : List Int) : ∀ (k : Nat) (acc p v q e : Int), gn l k acc p = (v, q, e) → e ≠ 0 → v = 0 ∧ q = 0 ∧ (e = 2 ∨ e = 3) := by
  induction l with
  | nil => intro k acc p v q e h he; simp [gn] at h; omega
  | cons c r ih =>
    intro k acc p v q e h he
    simp only [gn] at h
    by_cases h1 : 127 < c ∧ k = 8 ∨ c = 0 ∧ 0 < k
    · rw [if_pos h1] at h; simp at h; omega
    · rw [if_neg h1] at h
      by_cases h2 : c < 128
      · rw [if_pos h2] at h; simp at h; omega
      · rw [if_neg h2] at h; exact ih _ _ _ _ _ _ h he

theorem getN_err {b : List Int} {p v q e : Int} (h : getN b p = (v, q, e)) (he : e ≠ 0) : v = 0 ∧ q = 0 ∧ (e = 1 ∨ e = 2 ∨ e = 3) := by
  unfold getN at h
  by_cases h1 : p < 0 ∨ (b.length : Int) < p
  · rw [if_pos h1] at h; simp at h; omega
  · rw [if_neg h1] at h
    have := gn_err _ _ _ _ _ _ _ h he
    omega

/-- What is read is a form, and it stands there. -/
theorem getN_inv {b : List Int} {p v q : Int} (hb : Bytes b) (h : getN b p = (v, q, 0)) :
    0 ≤ p ∧ ∃ n : Nat, v = n ∧ n < 9223372036854775808 ∧ q = p + (encN n).length ∧ q ≤ b.length ∧ (b.take q.toNat).drop p.toNat = encN n ∧ ∃ rest, b.drop p.toNat = encN n ++ rest := by
  unfold getN at h
  by_cases h1 : p < 0 ∨ (b.length : Int) < p
  · rw [if_pos h1] at h; simp at h
  · rw [if_neg h1] at h
    obtain ⟨n, rest, hl, hv, hq, hn, _⟩ := gn_inv _ _ _ _ _ _ (hb.drop _) (by omega) h
    have hlen : (b.drop p.toNat).length = b.length - p.toNat := List.length_drop ..
    rw [hl, List.length_append] at hlen
    refine ⟨by omega, n, ?_, ?_, hq, by omega, ?_, rest, hl⟩
    · rw [hv]; simp
    · rw [← pow9]; simpa using hn
    · rw [List.drop_take, hl, show q.toNat - p.toNat = (encN n).length by omega]
      simp

/-- A form is read as it was. -/
theorem getN_enc {b : List Int} {p : Int} {n : Nat} {rest : List Int} (h0 : 0 ≤ p) (h1 : p ≤ b.length) (hn : n < 9223372036854775808) (hd : b.drop p.toNat = encN n ++ rest) :
    getN b p = ((n : Int), p + (encN n).length, 0) := by
  unfold getN
  rw [if_neg (by omega), hd, gn_enc n 0 0 p rest (by omega) (by rw [← pow9] at hn; exact hn) (by omega)]
  simp

/-! ### The form of a text, and of a list of texts -/

/-- The form of a text (a list of bytes). -/
def encT (s : List Int) : List Int := encN s.length ++ s
/-- The forms of texts, one behind the other. -/
def encAll : List (List Int) → List Int
  | [] => []
  | s :: l => encT s ++ encAll l
/-- The form of a list of texts. -/
def encL (l : List (List Int)) : List Int := encN l.length ++ encAll l

theorem encAll_append (a b : List (List Int)) : encAll (a ++ b) = encAll a ++ encAll b := by
  induction a with
  | nil => rfl
  | cons s a ih => simp [encAll, ih]

theorem encT_pos (s : List Int) : 0 < (encT s).length := by
  have := encN_pos s.length
  unfold encT
  rw [List.length_append]
  omega

theorem encAll_len (l : List (List Int)) : l.length ≤ (encAll l).length := by
  induction l with
  | nil => simp
  | cons s l ih =>
    have := encT_pos s
    simp [encAll]
    omega

theorem encT_bytes {s : List Int} (h : Bytes s) : Bytes (encT s) := (encN_bytes _).append h
theorem encAll_bytes {l : List (List Int)} (h : ∀ s ∈ l, Bytes s) : Bytes (encAll l) := by
  induction l with
  | nil => exact Bytes.nil
  | cons s l ih => exact (encT_bytes (h s (List.mem_cons_self ..))).append (ih fun x hx => h x (List.mem_cons_of_mem _ hx))
theorem encL_bytes {l : List (List Int)} (h : ∀ s ∈ l, Bytes s) : Bytes (encL l) := (encN_bytes _).append (encAll_bytes h)

/-- GetText. -/
def getT (b : List Int) (p most : Int) : List Int × Int × Int :=
  if (getN b p).2.2 = 0 then
    if most < (getN b p).1 then ([], 0, 4)
    else if (b.length : Int) - (getN b p).2.1 < (getN b p).1 then ([], 0, 2)
    else ((b.take ((getN b p).2.1 + (getN b p).1).toNat).drop (getN b p).2.1.toNat, (getN b p).2.1 + (getN b p).1, 0)
  else ([], 0, (getN b p).2.2)

theorem getT_err {b : List Int} {p most q e : Int} {s : List Int} (h : getT b p most = (s, q, e)) (he : e ≠ 0) : s = [] ∧ q = 0 ∧ (e = 1 ∨ e = 2 ∨ e = 3 ∨ e = 4) := by
  unfold getT at h
  by_cases h0 : (getN b p).2.2 = 0
  · rw [if_pos h0] at h
    by_cases h1 : most < (getN b p).1
    · rw [if_pos h1] at h; simp at h; refine ⟨h.1, h.2.1.symm, by omega⟩
    · rw [if_neg h1] at h
      by_cases h2 : (b.length : Int) - (getN b p).2.1 < (getN b p).1
      · rw [if_pos h2] at h; simp at h; refine ⟨h.1, h.2.1.symm, by omega⟩
      · rw [if_neg h2] at h; simp at h; omega
  · rw [if_neg h0] at h
    simp at h
    have := getN_err (b := b) (p := p) (v := (getN b p).1) (q := (getN b p).2.1) (e := (getN b p).2.2) rfl h0
    exact ⟨h.1, h.2.1.symm, by omega⟩

/-- What is read is a text's form, and it stands there. -/
theorem getT_inv {b : List Int} {p most q : Int} {s : List Int} (hb : Bytes b) (h : getT b p most = (s, q, 0)) :
    0 ≤ p ∧ q = p + (encT s).length ∧ q ≤ b.length ∧ (s.length : Int) ≤ most ∧ (b.take q.toNat).drop p.toNat = encT s ∧ Bytes s ∧ s.length < 9223372036854775808 ∧ ∃ rest, b.drop p.toNat = encT s ++ rest := by
  unfold getT at h
  by_cases h0 : (getN b p).2.2 = 0
  · rw [if_pos h0] at h
    obtain ⟨hp, n, hv, hn, hq, hqb, hcut, rest, hrest⟩ := getN_inv (b := b) (p := p) (v := (getN b p).1) (q := (getN b p).2.1) hb (by rw [← h0])
    by_cases h1 : most < (getN b p).1
    · rw [if_pos h1] at h; simp at h
    · rw [if_neg h1] at h
      by_cases h2 : (b.length : Int) - (getN b p).2.1 < (getN b p).1
      · rw [if_pos h2] at h; simp at h
      · rw [if_neg h2] at h
        simp only [Prod.mk.injEq] at h
        obtain ⟨hs, hq', _⟩ := h
        rw [hv] at hs hq' h1 h2
        generalize hm : (getN b p).2.1 = m at *
        have hlen : s.length = n := by
          rw [← hs, List.length_drop, List.length_take]
          omega
        have hsr : s = rest.take n := by
          rw [← hs, List.drop_take, show (m + (n : Int)).toNat - m.toNat = n by omega]
          have e : b.drop m.toNat = rest := by
            have := congrArg (List.drop (encN n).length) hrest
            rw [List.drop_drop, List.drop_left] at this
            rw [← this, show m.toNat = p.toNat + (encN n).length by omega]
          rw [e]
        have hr2 : b.drop p.toNat = encT s ++ rest.drop n := by
          rw [hrest]
          unfold encT
          rw [hlen, List.append_assoc]
          congr 1
          rw [hsr, List.take_append_drop]
        have hle : (encT s).length = (encN n).length + n := by unfold encT; rw [List.length_append, hlen]
        refine ⟨hp, by omega, by omega, by omega, ?_, ?_, by omega, rest.drop n, hr2⟩
        · rw [List.drop_take, hr2, show q.toNat - p.toNat = (encT s).length by omega]
          simp
        · rw [← hs]; exact (hb.take _).drop _
  · rw [if_neg h0] at h
    simp at h
    exact absurd h.2.2 h0

/-- A text's form is read as it was. -/
theorem getT_enc {b : List Int} {p most : Int} {s rest : List Int} (h0 : 0 ≤ p) (h1 : p ≤ b.length) (hn : s.length < 9223372036854775808) (hm : (s.length : Int) ≤ most) (hd : b.drop p.toNat = encT s ++ rest) :
    getT b p most = (s, p + (encT s).length, 0) := by
  have hN := getN_enc (b := b) (p := p) (n := s.length) (rest := s ++ rest) h0 h1 hn (by rw [hd]; unfold encT; rw [List.append_assoc])
  have hle : (encT s).length = (encN s.length).length + s.length := by unfold encT; rw [List.length_append]
  have hlen : (b.drop p.toNat).length = b.length - p.toNat := List.length_drop ..
  rw [hd, List.length_append] at hlen
  unfold getT
  rw [hN]
  simp only
  rw [if_pos trivial, if_neg (by omega), if_neg (by omega)]
  refine Prod.ext ?_ (Prod.ext ?_ rfl)
  · show (b.take (p + ((encN s.length).length : Int) + (s.length : Int)).toNat).drop (p + ((encN s.length).length : Int)).toNat = s
    rw [List.drop_take, show (p + ((encN s.length).length : Int)).toNat = p.toNat + (encN s.length).length by omega, ← List.drop_drop, hd]
    unfold encT
    rw [List.append_assoc, List.drop_left, show (p + ((encN s.length).length : Int) + (s.length : Int)).toNat - (p.toNat + (encN s.length).length) = s.length by omega]
    simp
  · show p + ((encN s.length).length : Int) + (s.length : Int) = p + ((encT s).length : Int)
    omega

/-- GetTexts' loop: so many texts more. -/
def gts (b : List Int) (most : Int) : Nat → Int → List (List Int) → List (List Int) × Int × Int
  | 0, p, acc => (acc, p, 0)
  | m + 1, p, acc => if (getT b p most).2.2 = 0 then gts b most m (getT b p most).2.1 (acc ++ [(getT b p most).1]) else ([], 0, (getT b p most).2.2)

/-- GetTexts. -/
def getL (b : List Int) (p count most : Int) : List (List Int) × Int × Int :=
  if (getN b p).2.2 = 0 then
    if count < (getN b p).1 then ([], 0, 4) else gts b most (getN b p).1.toNat (getN b p).2.1 []
  else ([], 0, (getN b p).2.2)

theorem gts_err (b : List Int) (most : Int) (m : Nat) : ∀ (p : Int) (acc l : List (List Int)) (q e : Int), gts b most m p acc = (l, q, e) → e ≠ 0 → l = [] ∧ q = 0 ∧ (e = 1 ∨ e = 2 ∨ e = 3 ∨ e = 4) := by
  induction m with
  | zero => intro p acc l q e h he; simp [gts] at h; omega
  | succ m ih =>
    intro p acc l q e h he
    simp only [gts] at h
    by_cases h0 : (getT b p most).2.2 = 0
    · rw [if_pos h0] at h; exact ih _ _ _ _ _ h he
    · rw [if_neg h0] at h
      simp at h
      have := getT_err (b := b) (p := p) (most := most) (s := (getT b p most).1) (q := (getT b p most).2.1) (e := (getT b p most).2.2) rfl h0
      exact ⟨h.1, h.2.1.symm, by omega⟩

theorem getL_err {b : List Int} {p count most q e : Int} {l : List (List Int)} (h : getL b p count most = (l, q, e)) (he : e ≠ 0) : l = [] ∧ q = 0 ∧ (e = 1 ∨ e = 2 ∨ e = 3 ∨ e = 4) := by
  unfold getL at h
  by_cases h0 : (getN b p).2.2 = 0
  · rw [if_pos h0] at h
    by_cases h1 : count < (getN b p).1
    · rw [if_pos h1] at h; simp at h; refine ⟨h.1, h.2.1.symm, by omega⟩
    · rw [if_neg h1] at h; exact gts_err _ _ _ _ _ _ _ _ h he
  · rw [if_neg h0] at h
    simp at h
    have := getN_err (b := b) (p := p) (v := (getN b p).1) (q := (getN b p).2.1) (e := (getN b p).2.2) rfl h0
    exact ⟨h.1, h.2.1.symm, by omega⟩

theorem gts_inv (b : List Int) (most : Int) (hb : Bytes b) (m : Nat) : ∀ (p : Int) (acc l : List (List Int)) (q : Int), 0 ≤ p → p ≤ b.length → gts b most m p acc = (l, q, 0) →
    ∃ t, l = acc ++ t ∧ t.length = m ∧ q = p + (encAll t).length ∧ q ≤ b.length ∧ (∀ s ∈ t, Bytes s ∧ (s.length : Int) ≤ most ∧ s.length < 9223372036854775808) ∧ ∃ rest, b.drop p.toNat = encAll t ++ rest := by
  induction m with
  | zero =>
    intro p acc l q hp hpb h
    simp [gts] at h
    exact ⟨[], by simp [h.1], rfl, by simp [encAll, h.2], by omega, by simp, b.drop p.toNat, by simp [encAll]⟩
  | succ m ih =>
    intro p acc l q hp hpb h
    simp only [gts] at h
    by_cases h0 : (getT b p most).2.2 = 0
    · rw [if_pos h0] at h
      obtain ⟨_, hq1, hq1b, hm1, _, hby, hlt, r1, hr1⟩ := getT_inv (b := b) (p := p) (most := most) (s := (getT b p most).1) (q := (getT b p most).2.1) hb (by rw [← h0])
      generalize (getT b p most).1 = s at *
      generalize (getT b p most).2.1 = q1 at *
      have hs := encT_pos s
      obtain ⟨t, hl, htl, hq, hqb, hall, r2, hr2⟩ := ih q1 (acc ++ [s]) l q (by omega) hq1b h
      refine ⟨s :: t, by rw [hl]; simp, by simp [htl], ?_, hqb, ?_, r2, ?_⟩
      · simp only [encAll, List.length_append]; omega
      · intro x hx
        rcases List.mem_cons.1 hx with rfl | hx
        · exact ⟨hby, hm1, hlt⟩
        · exact hall x hx
      · have e : b.drop q1.toNat = r1 := by
          have := congrArg (List.drop (encT s).length) hr1
          rw [List.drop_drop, List.drop_left] at this
          rw [← this, show q1.toNat = p.toNat + (encT s).length by omega]
        rw [hr1, ← e, hr2]
        simp [encAll]
    · rw [if_neg h0] at h
      simp at h
      exact absurd h.2.2 h0

theorem getL_inv {b : List Int} {p count most q : Int} {l : List (List Int)} (hb : Bytes b) (h : getL b p count most = (l, q, 0)) :
    0 ≤ p ∧ q = p + (encL l).length ∧ q ≤ b.length ∧ (l.length : Int) ≤ count ∧ (b.take q.toNat).drop p.toNat = encL l ∧ (∀ s ∈ l, Bytes s ∧ (s.length : Int) ≤ most ∧ s.length < 9223372036854775808) ∧ l.length < 9223372036854775808 := by
  unfold getL at h
  by_cases h0 : (getN b p).2.2 = 0
  · rw [if_pos h0] at h
    obtain ⟨hp, n, hv, hn, hq, hqb, _, rest, hrest⟩ := getN_inv (b := b) (p := p) (v := (getN b p).1) (q := (getN b p).2.1) hb (by rw [← h0])
    by_cases h1 : count < (getN b p).1
    · rw [if_pos h1] at h; simp at h
    · rw [if_neg h1] at h
      rw [hv] at h h1
      generalize (getN b p).2.1 = m at *
      obtain ⟨t, hl, htl, hq2, hq2b, hall, r2, hr2⟩ := gts_inv b most hb _ _ _ _ _ (by omega) hqb h
      simp at hl htl
      subst hl
      have e : b.drop m.toNat = rest := by
        have := congrArg (List.drop (encN n).length) hrest
        rw [List.drop_drop, List.drop_left] at this
        rw [← this, show m.toNat = p.toNat + (encN n).length by omega]
      have hd : b.drop p.toNat = encL l ++ r2 := by
        rw [hrest, ← e, hr2]
        unfold encL
        rw [htl, List.append_assoc]
      have hle : (encL l).length = (encN n).length + (encAll l).length := by unfold encL; rw [List.length_append, htl]
      refine ⟨hp, by omega, hq2b, by omega, ?_, hall, by omega⟩
      rw [List.drop_take, hd, show q.toNat - p.toNat = (encL l).length by omega]
      simp
  · rw [if_neg h0] at h
    simp at h
    exact absurd h.2.2 h0

theorem gts_enc (b : List Int) (most : Int) (t : List (List Int)) : ∀ (p : Int) (acc : List (List Int)) (rest : List Int), 0 ≤ p → p ≤ b.length → (∀ s ∈ t, (s.length : Int) ≤ most ∧ s.length < 9223372036854775808) →
    b.drop p.toNat = encAll t ++ rest → gts b most t.length p acc = (acc ++ t, p + (encAll t).length, 0) := by
  induction t with
  | nil => intro p acc rest _ _ _ _; simp [gts, encAll]
  | cons s t ih =>
    intro p acc rest hp hpb hall hd
    have hs := hall s (List.mem_cons_self ..)
    have hd' : b.drop p.toNat = encT s ++ (encAll t ++ rest) := by rw [hd]; simp [encAll]
    have hT := getT_enc (b := b) (p := p) (most := most) hp hpb hs.2 hs.1 hd'
    have hlen : (b.drop p.toNat).length = b.length - p.toNat := List.length_drop ..
    rw [hd', List.length_append, List.length_append] at hlen
    have hpos := encT_pos s
    simp only [List.length_cons, gts]
    rw [hT]
    simp only
    rw [if_pos trivial, ih (p + (encT s).length) (acc ++ [s]) rest (by omega) (by omega) (fun x hx => hall x (List.mem_cons_of_mem _ hx)) ?_]
    · refine Prod.ext (by simp) (Prod.ext ?_ rfl)
      simp only [encAll, List.length_append]
      omega
    · rw [show (p + ((encT s).length : Int)).toNat = p.toNat + (encT s).length by omega, ← List.drop_drop, hd', List.drop_left]

theorem getL_enc {b : List Int} {p count most : Int} {l : List (List Int)} {rest : List Int} (h0 : 0 ≤ p) (h1 : p ≤ b.length) (hn : l.length < 9223372036854775808) (hc : (l.length : Int) ≤ count)
    (hall : ∀ s ∈ l, (s.length : Int) ≤ most ∧ s.length < 9223372036854775808) (hd : b.drop p.toNat = encL l ++ rest) : getL b p count most = (l, p + (encL l).length, 0) := by
  have hd' : b.drop p.toNat = encN l.length ++ (encAll l ++ rest) := by rw [hd]; unfold encL; rw [List.append_assoc]
  have hN := getN_enc (b := b) (p := p) h0 h1 hn hd'
  have hle : (encL l).length = (encN l.length).length + (encAll l).length := by unfold encL; rw [List.length_append]
  have hlen : (b.drop p.toNat).length = b.length - p.toNat := List.length_drop ..
  rw [hd, List.length_append] at hlen
  unfold getL
  rw [hN]
  simp only
  rw [if_pos trivial, if_neg (by omega), Int.toNat_natCast, gts_enc b most l _ [] rest (by omega) (by omega) hall ?_]
  · refine Prod.ext (by simp) (Prod.ext ?_ rfl)
    show p + ((encN l.length).length : Int) + ((encAll l).length : Int) = p + ((encL l).length : Int)
    omega
  · rw [show (p + ((encN l.length).length : Int)).toNat = p.toNat + (encN l.length).length by omega, ← List.drop_drop, hd', List.drop_left]

/-! ### Forms that are cut off -/

theorem getN_cut {n i : Nat} (hn : n < 9223372036854775808) (hi : i < (encN n).length) : getN ((encN n).take i) 0 = (0, 0, 2) := by
  unfold getN
  rw [if_neg (by omega)]
  simp only [Int.toNat_zero, List.drop_zero]
  exact gn_cut n 0 0 0 i (by omega) (by rw [← pow9] at hn; exact hn) (by omega) hi

/-- A number whose form is cut off behind a place: more bytes are asked for. -/
theorem getN_cut_at {b : List Int} {p : Int} {n i : Nat} (h0 : 0 ≤ p) (h1 : p ≤ b.length) (hn : n < 9223372036854775808) (hi : i < (encN n).length) (hd : b.drop p.toNat = (encN n).take i) : getN b p = (0, 0, 2) := by
  unfold getN
  rw [if_neg (by omega), hd]
  exact gn_cut n 0 0 p i (by omega) (by rw [← pow9] at hn; exact hn) (by omega) hi

theorem getT_cut_at {b : List Int} {p most : Int} {s : List Int} {i : Nat} (h0 : 0 ≤ p) (h1 : p ≤ b.length) (hn : s.length < 9223372036854775808) (hm : (s.length : Int) ≤ most) (hi : i < (encT s).length) (hd : b.drop p.toNat = (encT s).take i) : getT b p most = ([], 0, 2) := by
  have hle : (encT s).length = (encN s.length).length + s.length := by unfold encT; rw [List.length_append]
  by_cases h : i < (encN s.length).length
  · have hN : getN b p = (0, 0, 2) := by
      refine getN_cut_at h0 h1 hn h ?_
      rw [hd]
      unfold encT
      rw [List.take_append_of_le_length (by omega)]
    unfold getT
    rw [hN]
    simp
  · have hd' : b.drop p.toNat = encN s.length ++ s.take (i - (encN s.length).length) := by
      rw [hd]
      unfold encT
      rw [List.take_append]
      rw [List.take_of_length_le (by omega)]
    have hN := getN_enc (b := b) (p := p) h0 h1 hn hd'
    have hlen : (b.drop p.toNat).length = b.length - p.toNat := List.length_drop ..
    rw [hd', List.length_append, List.length_take] at hlen
    unfold getT
    rw [hN]
    simp only
    rw [if_pos trivial, if_neg (by omega), if_pos (by omega)]

theorem gts_cut (b : List Int) (most : Int) (t : List (List Int)) : ∀ (p : Int) (acc : List (List Int)) (i : Nat), 0 ≤ p → p ≤ b.length → (∀ s ∈ t, (s.length : Int) ≤ most ∧ s.length < 9223372036854775808) → i < (encAll t).length →
    b.drop p.toNat = (encAll t).take i → gts b most t.length p acc = ([], 0, 2) := by
  induction t with
  | nil => intro p acc i _ _ _ hi _; simp [encAll] at hi
  | cons s t ih =>
    intro p acc i hp hpb hall hi hd
    have hs := hall s (List.mem_cons_self ..)
    simp only [encAll, List.length_append] at hi
    have hpos := encT_pos s
    simp only [List.length_cons, gts]
    by_cases h : i < (encT s).length
    · have hT : getT b p most = ([], 0, 2) := by
        refine getT_cut_at hp hpb hs.2 hs.1 h ?_
        rw [hd]
        simp only [encAll]
        rw [List.take_append_of_le_length (by omega)]
      rw [hT]
      simp
    · have hd' : b.drop p.toNat = encT s ++ (encAll t).take (i - (encT s).length) := by
        rw [hd]
        simp only [encAll]
        rw [List.take_append, List.take_of_length_le (by omega)]
      have hT := getT_enc (b := b) (p := p) (most := most) hp hpb hs.2 hs.1 hd'
      have hlen : (b.drop p.toNat).length = b.length - p.toNat := List.length_drop ..
      rw [hd', List.length_append, List.length_take] at hlen
      rw [hT]
      simp only
      rw [if_pos trivial]
      refine ih _ _ (i - (encT s).length) (by omega) (by omega) (fun x hx => hall x (List.mem_cons_of_mem _ hx)) (by omega) ?_
      rw [show (p + ((encT s).length : Int)).toNat = p.toNat + (encT s).length by omega, ← List.drop_drop, hd', List.drop_left]

theorem getL_cut {l : List (List Int)} {i : Nat} {count most : Int} (hn : l.length < 9223372036854775808) (hc : (l.length : Int) ≤ count)
    (hall : ∀ s ∈ l, (s.length : Int) ≤ most ∧ s.length < 9223372036854775808) (hi : i < (encL l).length) : getL ((encL l).take i) 0 count most = ([], 0, 2) := by
  have hle : (encL l).length = (encN l.length).length + (encAll l).length := by unfold encL; rw [List.length_append]
  by_cases h : i < (encN l.length).length
  · have hN : getN ((encL l).take i) 0 = (0, 0, 2) := by
      refine getN_cut_at (by omega) (by omega) hn h ?_
      simp only [Int.toNat_zero, List.drop_zero]
      unfold encL
      rw [List.take_append_of_le_length (by omega)]
    unfold getL
    rw [hN]
    simp
  · have hd' : ((encL l).take i).drop (0 : Int).toNat = encN l.length ++ (encAll l).take (i - (encN l.length).length) := by
      simp only [Int.toNat_zero, List.drop_zero]
      unfold encL
      rw [List.take_append, List.take_of_length_le (by omega)]
    have hN := getN_enc (b := (encL l).take i) (p := 0) (by omega) (by omega) hn hd'
    have hlen : (((encL l).take i).drop (0 : Int).toNat).length = ((encL l).take i).length := by simp
    rw [hd', List.length_append, List.length_take] at hlen
    unfold getL
    rw [hN]
    simp only
    rw [if_pos trivial, if_neg (by omega), Int.toNat_natCast]
    refine gts_cut _ most l _ [] (i - (encN l.length).length) (by omega) (by omega) hall (by omega) ?_
    rw [show (0 + ((encN l.length).length : Int)).toNat = (0 : Int).toNat + (encN l.length).length by omega, ← List.drop_drop, hd', List.drop_left]

theorem getT_cut {s : List Int} {i : Nat} {most : Int} (hn : s.length < 9223372036854775808) (hm : (s.length : Int) ≤ most) (hi : i < (encT s).length) : getT ((encT s).take i) 0 most = ([], 0, 2) :=
  getT_cut_at (by omega) (by omega) hn hm hi (by simp)

end Go.Proofs.Ytmgjccpolkhhhaa.Pk
