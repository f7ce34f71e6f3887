/- DERIVED. What the printed functions come to, as far as this law asks it. Conditions: those that each lemma names. -/
import Derived.RowKit
import Derived.Laws.BytesArg
import Derived.Laws.Strings
import Derived.OpenShut
import Derived.Test.YthghacojbhjeaaaLj
import Derived.Test.YthghacojbhjeaaaLl
import Derived.Test.YthghacojbhjeaaaPLtx3
import Derived.Test.YthghacojbhjeaaaPLtx4
import Derived.Test.YthghacojbhjeaaaPLtx5
import Derived.Test.YthghacojbhjeaaaPLtx6
import Derived.Test.YthghacojbhjeaaaPLtx7
import Derived.Test.YthghacojbhjeaaaPLtx8
import Derived.Test.YthghacojbhjeaaaPLtx10
import Derived.Test.YthghacojbhjeaaaPLtx12
import Derived.Test.YthghacojbhjeaaaPLtx13
import Derived.Test.YthghacojbhjeaaaPLtx16
import Derived.Test.YthghacojbhjeaaaPLtx17
import Derived.Test.YthghacojbhjeaaaPLtx18
import Derived.Test.YthghacojbhjeaaaPLtx19
import Derived.Test.YthghacojbhjeaaaPLtx20
namespace Go.Proofs.Ythghacojbhjeaaa.Pk
open Go.RowKit

/-- Every number of the list is a byte. -/
def Bytes (l : List Int) : Prop := ∀ x ∈ l, 0 ≤ x ∧ x < 256

theorem Bytes.nil : Bytes [] := fun _ h => by cases h
theorem Bytes.cons {c : Int} {l : List Int} (h0 : 0 ≤ c) (h1 : c < 256) (h : Bytes l) : Bytes (c :: l) := by
  intro x hx
  rcases List.mem_cons.1 hx with rfl | hx
  · exact ⟨h0, h1⟩
  · exact h x hx
theorem Bytes.head {c : Int} {l : List Int} (h : Bytes (c :: l)) : 0 ≤ c ∧ c < 256 := h c (List.mem_cons_self ..)
theorem Bytes.tail {c : Int} {l : List Int} (h : Bytes (c :: l)) : Bytes l := fun x hx => h x (List.mem_cons_of_mem _ hx)
theorem Bytes.append {a b : List Int} (ha : Bytes a) (hb : Bytes b) : Bytes (a ++ b) := by
  intro x hx
  rcases List.mem_append.1 hx with h | h
  · exact ha x h
  · exact hb x h
theorem Bytes.drop {l : List Int} (h : Bytes l) (i : Nat) : Bytes (l.drop i) := fun x hx => h x (List.mem_of_mem_drop hx)
theorem Bytes.take {l : List Int} (h : Bytes l) (i : Nat) : Bytes (l.take i) := fun x hx => h x (List.mem_of_mem_take hx)
theorem Bytes.get {l : List Int} (h : Bytes l) (i : Nat) : 0 ≤ l.getD i 0 ∧ l.getD i 0 < 256 := by
  by_cases hi : i < l.length
  · have : l.getD i 0 = l[i] := by simp [List.getD, hi]
    rw [this]
    exact h _ (List.getElem_mem hi)
  · have : l.getD i 0 = 0 := by simp [List.getD, hi]
    rw [this]
    omega

/-! ### The form of a number -/

/-- The form of a number. -/
def encN (n : Nat) : List Int := if n < 128 then [(n : Int)] else ((128 + n % 128 : Nat) : Int) :: encN (n / 128)
termination_by n
decreasing_by omega

theorem encN_small {n : Nat} (h : n < 128) : encN n = [(n : Int)] := by rw [encN, if_pos h]
theorem encN_great {n : Nat} (h : ¬ n < 128) : encN n = ((128 + n % 128 : Nat) : Int) :: encN (n / 128) := by rw [encN, if_neg h]

theorem encN_bytes (n : Nat) : Bytes (encN n) := by
  induction n using Nat.strongRecOn with
  | _ n ih =>
    by_cases h : n < 128
    · rw [encN_small h]; exact Bytes.cons (by omega) (by omega) Bytes.nil
    · rw [encN_great h]; exact Bytes.cons (by omega) (by omega) (ih _ (by omega))

theorem encN_len (n : Nat) : ∀ j : Nat, 0 < j → n < 128 ^ j → (encN n).length ≤ j := by
  induction n using Nat.strongRecOn with
  | _ n ih =>
    intro j hj hn
    by_cases h : n < 128
    · rw [encN_small h]; simp; omega
    · rw [encN_great h]
      obtain ⟨j, rfl⟩ : ∃ i, j = i + 1 := ⟨j - 1, by omega⟩
      have h1 : n / 128 < 128 ^ j := by
        rw [Nat.pow_succ] at hn
        exact Nat.div_lt_of_lt_mul (by rw [Nat.mul_comm]; exact hn)
      have hj' : 0 < j := by
        rcases Nat.eq_zero_or_pos j with rfl | hp
        · simp at hn; omega
        · exact hp
      have := ih (n / 128) (by omega) j hj' h1
      simp; omega

theorem pow9 : (128 : Nat) ^ 9 = 9223372036854775808 := by decide

theorem encN_le {n : Nat} (h : n < 9223372036854775808) : (encN n).length ≤ 9 := encN_len n 9 (by decide) (by rw [pow9]; exact h)

/-- What is read of a number from a list of bytes on: k bytes are behind, acc is what they told, p is the place. -/
def gn : List Int → Nat → Int → Int → Int × Int × Int
  | [], _, _, _ => (0, 0, 2)
  | c :: r, k, acc, p => if 127 < c ∧ k = 8 ∨ c = 0 ∧ 0 < k then (0, 0, 3) else if c < 128 then (acc + c * 128 ^ k, p + 1, 0) else gn r (k + 1) (acc + (c - 128) * 128 ^ k) (p + 1)

/-- GetNum. -/
def getN (b : List Int) (p : Int) : Int × Int × Int := if p < 0 ∨ (b.length : Int) < p then (0, 0, 1) else gn (b.drop p.toNat) 0 0 p

theorem gn_enc (n : Nat) : ∀ (k : Nat) (acc p : Int) (rest : List Int), k ≤ 8 → n < 128 ^ (9 - k) → (0 < k → 0 < n) →
    gn (encN n ++ rest) k acc p = (acc + n * 128 ^ k, p + (encN n).length, 0) := by
  induction n using Nat.strongRecOn with
  | _ n ih =>
    intro k acc p rest hk hn h0
    by_cases h : n < 128
    · rw [encN_small h]
      simp only [List.cons_append, List.nil_append, gn, List.length_cons, List.length_nil]
      rw [if_neg (by omega), if_pos (by omega)]
      simp
    · rw [encN_great h]
      have hk8 : k ≠ 8 := by
        rintro rfl
        simp at hn
        omega
      have h1 : n / 128 < 128 ^ (9 - (k + 1)) := by
        have e : 9 - k = (9 - (k + 1)) + 1 := by omega
        rw [e, Nat.pow_succ] at hn
        exact Nat.div_lt_of_lt_mul (by rw [Nat.mul_comm]; exact hn)
      simp only [List.cons_append, gn]
      rw [if_neg (by omega), if_neg (by omega), ih (n / 128) (by omega) (k + 1) _ _ rest (by omega) h1 (by omega)]
      have e1 : (((128 + n % 128 : Nat) : Int) - 128) = ((n % 128 : Nat) : Int) := by omega
      have e2 : (n : Int) = ((n % 128 : Nat) : Int) + ((n / 128 : Nat) : Int) * 128 := by omega
      rw [e1]
      refine Prod.ext ?_ (Prod.ext ?_ rfl)
      · show acc + ((n % 128 : Nat) : Int) * 128 ^ k + ((n / 128 : Nat) : Int) * 128 ^ (k + 1) = acc + (n : Int) * 128 ^ k
        rw [Int.pow_succ]
        generalize (128 : Int) ^ k = q
        rw [e2, Int.add_mul, Int.mul_assoc _ 128 q, Int.mul_comm 128 q, Int.add_assoc]
      · show p + 1 + ((encN (n / 128)).length : Int) = p + ((encN (n / 128)).length + 1 : Nat)
        omega

theorem gn_inv (l : List Int) : ∀ (k : Nat) (acc p v q : Int), Bytes l → k ≤ 8 → gn l k acc p = (v, q, 0) →
    ∃ n rest, l = encN n ++ rest ∧ v = acc + (n : Int) * 128 ^ k ∧ q = p + (encN n).length ∧ n < 128 ^ (9 - k) ∧ (0 < k → 0 < n) := by
  induction l with
  | nil => intro k acc p v q _ _ h; simp [gn] at h
  | cons c r ih =>
    intro k acc p v q hb hk h
    have hc := hb.head
    simp only [gn] at h
    by_cases h1 : 127 < c ∧ k = 8 ∨ c = 0 ∧ 0 < k
    · rw [if_pos h1] at h; simp at h
    · rw [if_neg h1] at h
      by_cases h2 : c < 128
      · rw [if_pos h2] at h
        simp only [Prod.mk.injEq] at h
        have hp : 128 ^ 1 ≤ 128 ^ (9 - k) := Nat.pow_le_pow_right (by decide) (by omega)
        refine ⟨c.toNat, r, ?_, ?_, ?_, ?_, ?_⟩
        · rw [encN_small (by omega)]
          simp; omega
        · rw [show (c.toNat : Int) = c by omega]; exact h.1.symm
        · rw [encN_small (by omega)]; simp; omega
        · omega
        · omega
      · rw [if_neg h2] at h
        obtain ⟨n, rest, hl, hv, hq, hn, hn0⟩ := ih (k + 1) _ _ v q hb.tail (by omega) h
        have hn1 : 0 < n := hn0 (by omega)
        have hm : (128 * n + (c - 128).toNat) / 128 = n := by omega
        have hr : (128 * n + (c - 128).toNat) % 128 = (c - 128).toNat := by omega
        have hg : ¬ 128 * n + (c - 128).toNat < 128 := by omega
        refine ⟨128 * n + (c - 128).toNat, rest, ?_, ?_, ?_, ?_, ?_⟩
        · rw [encN_great hg, hm, hr, hl]
          simp; omega
        · rw [hv, Int.pow_succ]
          have e : ((128 * n + (c - 128).toNat : Nat) : Int) = (n : Int) * 128 + (c - 128) := by omega
          rw [e, Int.add_mul, Int.mul_assoc, Int.mul_comm 128 ((128 : Int) ^ k), Int.add_assoc, Int.add_comm ((c - 128) * 128 ^ k)]
        · rw [encN_great hg, hm, hq]
          simp; omega
        · have e : 9 - k = (9 - (k + 1)) + 1 := by omega
          rw [e, Nat.pow_succ]
          omega
        · omega

/-- Beside an error nothing is told. -/
theorem gn_err (l : List Int) : ∀ (k : Nat) (acc p v q e : Int), gn l k acc p = (v, q, e) → e ≠ 0 → v = 0 ∧ q = 0 ∧ (e = 2 ∨ e = 3) := by
  induction l with
  | nil => intro k acc p v q e h he; simp [gn] at h; omega
  | cons c r ih =>
    intro k acc p v q e h he
    simp only [gn] at h
    by_cases h1 : 127 < c ∧ k = 8 ∨ c = 0 ∧ 0 < k
    · rw [if_pos h1] at h; simp at h; omega
    · rw [if_neg h1] at h
      by_cases h2 : c < 128
      · rw [if_pos h2] at h; simp at h; omega
      · rw [if_neg h2] at h; exact ih _ _ _ _ _ _ h he

theorem getN_err {b : List Int} {p v q e : Int} (h : getN b p = (v, q, e)) (he : e ≠ 0) : v = 0 ∧ q = 0 ∧ (e = 1 ∨ e = 2 ∨ e = 3) := by
  unfold getN at h
  by_cases h1 : p < 0 ∨ (b.length : Int) < p
  · rw [if_pos h1] at h; simp at h; omega
  · rw [if_neg h1] at h
    have := gn_err _ _ _ _ _ _ _ h he
    omega

/-- What is read is a form, and it stands there. -/
theorem getN_inv {b : List Int} {p v q : Int} (hb : Bytes b) (h : getN b p = (v, q, 0)) :
    0 ≤ p ∧ ∃ n : Nat, v = n ∧ n < 9223372036854775808 ∧ q = p + (encN n).length ∧ q ≤ b.length ∧ (b.take q.toNat).drop p.toNat = encN n ∧ ∃ rest, b.drop p.toNat = encN n ++ rest := by
  unfold getN at h
  by_cases h1 : p < 0 ∨ (b.length : Int) < p
  · rw [if_pos h1] at h; simp at h
  · rw [if_neg h1] at h
    obtain ⟨n, rest, hl, hv, hq, hn, _⟩ := gn_inv _ _ _ _ _ _ (hb.drop _) (by omega) h
    have hlen : (b.drop p.toNat).length = b.length - p.toNat := List.length_drop ..
    rw [hl, List.length_append] at hlen
    refine ⟨by omega, n, ?_, ?_, hq, by omega, ?_, rest, hl⟩
    · rw [hv]; simp
    · rw [← pow9]; simpa using hn
    · rw [List.drop_take, hl, show q.toNat - p.toNat = (encN n).length by omega]
      simp

/-- A form is read as it was. -/
theorem getN_enc {b : List Int} {p : Int} {n : Nat} {rest : List Int} (h0 : 0 ≤ p) (h1 : p ≤ b.length) (hn : n < 9223372036854775808) (hd : b.drop p.toNat = encN n ++ rest) :
    getN b p = ((n : Int), p + (encN n).length, 0) := by
  unfold getN
  rw [if_neg (by omega), hd, gn_enc n 0 0 p rest (by omega) (by rw [← pow9] at hn; exact hn) (by omega)]
  simp

/-! ### The form of a text, and of a list of texts -/

/-- The form of a text (a list of bytes). -/
def encT (s : List Int) : List Int := encN s.length ++ s
theorem encT_bytes {s : List Int} (h : Bytes s) : Bytes (encT s) := (encN_bytes _).append h
/-- GetText. -/
def getT (b : List Int) (p most : Int) : List Int × Int × Int :=
  if (getN b p).2.2 = 0 then
    if most < (getN b p).1 then ([], 0, 4)
    else if (b.length : Int) - (getN b p).2.1 < (getN b p).1 then ([], 0, 2)
    else ((b.take ((getN b p).2.1 + (getN b p).1).toNat).drop (getN b p).2.1.toNat, (getN b p).2.1 + (getN b p).1, 0)
  else ([], 0, (getN b p).2.2)

/-- A text's form is read as it was. -/
theorem getT_enc {b : List Int} {p most : Int} {s rest : List Int} (h0 : 0 ≤ p) (h1 : p ≤ b.length) (hn : s.length < 9223372036854775808) (hm : (s.length : Int) ≤ most) (hd : b.drop p.toNat = encT s ++ rest) :
    getT b p most = (s, p + (encT s).length, 0) := by
  have hN := getN_enc (b := b) (p := p) (n := s.length) (rest := s ++ rest) h0 h1 hn (by rw [hd]; unfold encT; rw [List.append_assoc])
  have hle : (encT s).length = (encN s.length).length + s.length := by unfold encT; rw [List.length_append]
  have hlen : (b.drop p.toNat).length = b.length - p.toNat := List.length_drop ..
  rw [hd, List.length_append] at hlen
  unfold getT
  rw [hN]
  simp only
  rw [if_pos trivial, if_neg (by omega), if_neg (by omega)]
  refine Prod.ext ?_ (Prod.ext ?_ rfl)
  · show (b.take (p + ((encN s.length).length : Int) + (s.length : Int)).toNat).drop (p + ((encN s.length).length : Int)).toNat = s
    rw [List.drop_take, show (p + ((encN s.length).length : Int)).toNat = p.toNat + (encN s.length).length by omega, ← List.drop_drop, hd]
    unfold encT
    rw [List.append_assoc, List.drop_left, show (p + ((encN s.length).length : Int) + (s.length : Int)).toNat - (p.toNat + (encN s.length).length) = s.length by omega]
    simp
  · show p + ((encN s.length).length : Int) + (s.length : Int) = p + ((encT s).length : Int)
    omega

/-! ### Forms that are cut off -/

end Go.Proofs.Ythghacojbhjeaaa.Pk
namespace Go.Proofs.Ythghacojbhjeaaa.PLtEv
open Go.RowKit Go.Proofs.Ythghacojbhjeaaa.PLt Go.Proofs.YthghacojbhjeaaaW.PrintWords Go.Proofs.YthghacojbhjeaaaW.PrintLast Go.Proofs.YthghacojbhjeaaaW.PrintMore Go.Proofs.Ythghacojbhjeaaa.Pk
set_option linter.unusedVariables false
set_option linter.unusedSimpArgs false

theorem w64 {x : Int} (h0 : -9223372036854775808 ≤ x) (h1 : x < 9223372036854775808) : wrap64 x = x := by unfold wrap64; omega

theorem pow_128 (i : Nat) : (2 : Int) ^ (7 * i) = 128 ^ i := by
  rw [Int.pow_mul]
  rfl

theorem cast_pow (i : Nat) : (((128 : Nat) ^ i : Nat) : Int) = (128 : Int) ^ i := by rw [Int.natCast_pow]; rfl

theorem pow_le9 {i : Nat} (h : i ≤ 9) : (128 : Int) ^ i ≤ 9223372036854775808 := by
  have h1 : (128 : Nat) ^ i ≤ 9223372036854775808 := by rw [← pow9]; exact Nat.pow_le_pow_right (by decide) h
  rw [← cast_pow]
  exact Int.ofNat_le.2 h1

theorem pow8 : (128 : Nat) ^ 8 = 72057594037927936 := by decide

theorem pow_le8 {i : Nat} (h : i ≤ 8) : (128 : Int) ^ i ≤ 72057594037927936 := by
  have h1 : (128 : Nat) ^ i ≤ 72057594037927936 := by rw [← pow8]; exact Nat.pow_le_pow_right (by decide) h
  rw [← cast_pow]
  exact Int.ofNat_le.2 h1

theorem pow_pos (i : Nat) : (1 : Int) ≤ 128 ^ i := by
  have : 0 < (128 : Nat) ^ i := Nat.pow_pos (by decide)
  exact_mod_cast this

theorem and127 {c : Int} (h0 : 0 ≤ c) (h1 : c < 256) : Go.bits .and .u8 c 127 = c % 128 := by
  have := bits_mask .u8 8 (by decide) wraps_u8 7 (by decide) c h0 (by simpa using h1)
  simpa using this

theorem or128 {y : Int} (h0 : 0 ≤ y) (h1 : y < 256) : Go.bits .or .u8 y 128 = 128 + y % 128 := by
  have e : ∀ y : Fin 256, Go.bits .or .u8 (y.val : Int) 128 = 128 + (y.val : Int) % 128 := by decide +kernel
  have := e ⟨y.toNat, by omega⟩
  simp only at this
  rw [show ((y.toNat : Nat) : Int) = y by omega] at this
  exact this

theorem wraps_i64 (n : Int) (h₀ : 0 ≤ n) (h₁ : n < 2 ^ 63) : IntKind.i64.wrap n = n := by
  rw [IntKind.wrap_i64]
  have : (2 : Int) ^ 63 = 9223372036854775808 := by decide
  omega

/-- A number's next seven bits are laid above those that are there. -/
theorem or_shl {acc c : Int} {i : Nat} (hi : i ≤ 8) (ha0 : 0 ≤ acc) (ha : acc < 128 ^ i) (hc0 : 0 ≤ c) (hc : c < 128) :
    Go.bits .or .i64 acc (shl .i64 c (7 * i)) = acc + c * 128 ^ i := by
  have hp := pow_pos i
  have hp9 := pow_le9 (i := i + 1) (by omega)
  rw [Int.pow_succ] at hp9
  have hs : shl .i64 c (7 * (i : Int)) = c * 128 ^ i := by
    unfold shl
    rw [show (7 * (i : Int)).toNat = 7 * i by omega, show min (7 * i) (IntKind.bits .i64) = 7 * i from Nat.min_eq_left (by show 7 * i ≤ 64; omega), pow_128, IntKind.wrap_i64]
    have h1 : c * 128 ^ i ≤ 127 * 128 ^ i := Int.mul_le_mul_of_nonneg_right (by omega) (by omega)
    have h2 : 0 ≤ c * 128 ^ i := Int.mul_nonneg hc0 (by omega)
    omega
  rw [hs]
  have h1 : c * 128 ^ i ≤ 127 * 128 ^ i := Int.mul_le_mul_of_nonneg_right (by omega) (by omega)
  have h2 : 0 ≤ c * 128 ^ i := Int.mul_nonneg hc0 (by omega)
  have hcomm : Go.bits .or .i64 acc (c * 128 ^ i) = Go.bits .or .i64 (c * 128 ^ i) acc := by
    simp only [bits, BitVec.or_comm]
  rw [hcomm, bits_join .i64 63 (by decide) wraps_i64 (7 * i) (c * 128 ^ i) acc h2 (by rw [pow_128]; exact Int.mul_emod_left _ _)]
  · omega
  · have : (2 : Int) ^ 63 = 9223372036854775808 := by decide
    omega
  · exact ha0
  · rw [pow_128]; exact ha
  · have : (2 : Int) ^ 63 = 9223372036854775808 := by decide
    omega

theorem rd_drop {b : List Int} {c : Int} {r : List Int} {i : Nat} (h : b.drop i = c :: r) : rd b (i : Int) = c ∧ i < b.length ∧ b.drop (i + 1) = r := by
  have hi : i < b.length := by
    rcases Nat.lt_or_ge i b.length with h1 | h1
    · exact h1
    · rw [List.drop_eq_nil_of_le h1] at h; cases h
  rw [List.drop_eq_getElem_cons hi] at h
  injection h with h1 h2
  refine ⟨?_, hi, h2⟩
  unfold rd
  simp [List.getD, hi, h1]

theorem drop_nil {b : List Int} {i : Nat} (h : b.drop i = []) : b.length ≤ i := by simpa using h

/-- pack.GetNum's loop. -/
theorem GetNum_l0 (b : List Int) (p : Int) (hb : Bytes b) (hp0 : 0 ≤ p) (hp : p + b.length < 9223372036854775000) (r : List Int) : ∀ (i : Nat) (acc : Int), b.drop i = r → i ≤ 8 → 0 ≤ acc → acc < 128 ^ i → i ≤ b.length →
    Ev (fun k => pack_GetNum.l0 k p acc b (b.length : Int) (i : Int)) (gn r i acc (p + i)) := by
  induction r with
  | nil =>
    intro i acc hd hi ha0 ha hil
    have hl := drop_nil hd
    refine Ev.step (fun _ => pack_GetNum.l0.eq_2 ..) ?_
    simp only [if_neg (show ¬ (i : Int) < (b.length : Int) by omega), gn]
    exact Ev.now _
  | cons c r ih =>
    intro i acc hd hi ha0 ha hil
    obtain ⟨hc, hlt, hd'⟩ := rd_drop hd
    have hcb : 0 ≤ c ∧ c < 256 := by rw [← hc]; exact hb.get _
    have hor := or_shl (c := c % 128) hi ha0 ha (by omega) (by omega)
    have hp9 := pow_le9 (i := i + 1) (by omega)
    have hpp := pow_pos i
    have hmul : c % 128 * 128 ^ i ≤ 127 * 128 ^ i := Int.mul_le_mul_of_nonneg_right (by omega) (by omega)
    have hmul0 : 0 ≤ c % 128 * 128 ^ i := Int.mul_nonneg (by omega) (by omega)
    refine Ev.step (fun _ => pack_GetNum.l0.eq_2 ..) ?_
    simp only [if_pos (show (i : Int) < (b.length : Int) by omega), if_pos (show (0 : Int) ≤ (i : Int) by omega), hc, and127 hcb.1 hcb.2,
      w64 (x := 7 * (i : Int)) (by omega) (by omega), w64 (x := c % 128) (by omega) (by omega), if_pos (show (0 : Int) ≤ 7 * (i : Int) by omega), hor]
    have tail : ∀ t : Bool, t = decide (127 < c ∧ i = 8 ∨ c = 0 ∧ 0 < i) → Ev (fun k => pack_GetNum.j3 k p (acc + c % 128 * 128 ^ i) (i : Int) c b (b.length : Int) (i : Int) t) (gn (c :: r) i acc (p + i)) := by
      intro t ht
      refine Ev.step (fun _ => pack_GetNum.j3.eq_2 ..) ?_
      simp only [gn]
      by_cases h1 : 127 < c ∧ i = 8 ∨ c = 0 ∧ 0 < i
      · rw [if_pos h1]
        simp only [ht, decide_eq_true h1, if_true]
        exact Ev.now _
      · rw [if_neg h1]
        simp only [ht, decide_eq_false h1, Bool.false_eq_true, if_false]
        by_cases h2 : c < 128
        · simp only [if_pos h2]
          rw [Int.emod_eq_of_lt hcb.1 h2, w64 (x := p + (i : Int)) (by omega) (by omega), w64 (x := p + (i : Int) + 1) (by omega) (by omega)]
          exact Ev.now _
        · simp only [if_neg h2]
          rw [w64 (x := (i : Int) + 1) (by omega) (by omega), show c % 128 = c - 128 by omega, show ((i : Int) + 1) = ((i + 1 : Nat) : Int) by omega, show p + (i : Int) + 1 = p + ((i + 1 : Nat) : Int) by omega]
          rw [show c % 128 = c - 128 by omega] at hmul hmul0
          refine ih (i + 1) _ hd' (by omega) (by omega) ?_ (by omega)
          rw [Int.pow_succ]
          omega
    by_cases h : c > 127
    · simp only [if_pos h]
      refine Ev.step (fun _ => pack_GetNum.j2.eq_2 ..) ?_
      by_cases h8 : (i : Int) = 8
      · have e : ((i : Int) == 8) = true := by simpa using h8
        simp only [e, if_true]
        exact tail true (by symm; exact decide_eq_true (by omega))
      · have e : ((i : Int) == 8) = false := by simpa using h8
        simp only [e, Bool.false_eq_true, if_false, if_neg (show ¬ c = 0 by omega)]
        exact tail false (by symm; exact decide_eq_false (by omega))
    · simp only [if_neg h]
      refine Ev.step (fun _ => pack_GetNum.j2.eq_2 ..) ?_
      simp only [Bool.false_eq_true, if_false]
      by_cases h0 : c = 0
      · simp only [if_pos h0]
        refine tail _ ?_
        rw [Bool.eq_iff_iff, decide_eq_true_iff, decide_eq_true_iff]
        omega
      · simp only [if_neg h0]
        exact tail false (by symm; exact decide_eq_false (by omega))

theorem GetNum_ev (b : List Int) (p : Int) (hb : Bytes b) (hl : b.length ≤ 140737488351232) : Ev (fun k => pack_GetNum.f k b p) (getN b p) := by
  unfold pack_GetNum.f getN
  by_cases h0 : p < 0
  · rw [if_pos (Or.inl h0)]
    simp only [if_pos h0]
    refine Ev.step (fun _ => pack_GetNum.j0.eq_2 ..) ?_
    exact Ev.now _
  · simp only [if_neg h0]
    refine Ev.step (fun _ => pack_GetNum.j0.eq_2 ..) ?_
    by_cases h1 : (b.length : Int) < p
    · rw [if_pos (Or.inr h1)]
      simp only [decide_eq_true (show p > (b.length : Int) from h1), if_true]
      exact Ev.now _
    · rw [if_neg (by omega)]
      simp only [decide_eq_false (show ¬ p > (b.length : Int) from h1), Bool.false_eq_true, if_false, if_pos (show (0 : Int) ≤ p by omega), if_pos (show p ≤ (b.length : Int) by omega)]
      have := GetNum_l0 (b.drop p.toNat) p (hb.drop _) (by omega) (by have : (b.drop p.toNat).length ≤ b.length := by rw [List.length_drop]; omega
                                                                      omega) (b.drop p.toNat) 0 0 (by simp) (by omega) (by omega) (by simp) (by omega)
      simpa using this
/-- pack.Num's loop. -/
theorem Num_l0 (n : Nat) : ∀ acc : List Int, acc.length + (encN n).length ≤ 1000 → Ev (fun k => pack_Num.l0 k (n : Int) acc) (acc ++ encN n) := by
  induction n using Nat.strongRecOn with
  | _ n ih =>
    intro acc ha
    refine Ev.step (fun _ => pack_Num.l0.eq_2 ..) ?_
    by_cases h : n < 128
    · rw [encN_small h]
      simp only [if_neg (show ¬ (n : Int) > 127 by omega), if_pos (show acc.length < 140737488355328 by omega), Int.emod_eq_of_lt (show (0 : Int) ≤ n by omega) (show (n : Int) < 256 by omega)]
      exact Ev.now _
    · have ho := or128 (y := (n : Int) % 256) (by omega) (by omega)
      rw [encN_great h] at ha ⊢
      simp only [List.length_cons] at ha
      simp only [if_pos (show (n : Int) > 127 by omega), if_pos (show acc.length < 140737488355328 by omega), ho]
      have := ih (n / 128) (by omega) (acc ++ [((128 + n % 128 : Nat) : Int)]) (by simp; omega)
      rw [List.append_assoc] at this
      rw [show (128 : Int) + (n : Int) % 256 % 128 = ((128 + n % 128 : Nat) : Int) by omega, show (n : Int) / 128 = ((n / 128 : Nat) : Int) by omega]
      exact this

theorem Num_ev (n : Nat) (hn : n < 9223372036854775808) : Ev (fun k => pack_Num.f k (n : Int)) (encN n) := by
  unfold pack_Num.f
  simp only [if_neg (show ¬ (n : Int) < 0 by omega)]
  have := encN_le hn
  exact Num_l0 n [] (by simp; omega)

theorem bytesOf_bytes (s : ByteArray) : Bytes (bytesOf s) := by
  intro x hx
  unfold bytesOf at hx
  obtain ⟨b, _, rfl⟩ := List.mem_map.1 hx
  have := b.toNat_lt
  omega

theorem strOfNums_bytesOf (s : ByteArray) : strOfNums (bytesOf s) = s := by
  cases s with
  | mk d =>
    unfold strOfNums bytesOf
    congr 1
    rw [List.map_map]
    have : ((fun n : Int => UInt8.ofNat n.toNat) ∘ fun b : UInt8 => (b.toNat : Int)) = id := by
      funext b
      simp
    rw [this, List.map_id]

theorem bytesOf_strOfNums {l : List Int} (h : Bytes l) : bytesOf (strOfNums l) = l := by
  unfold bytesOf
  rw [strOfNums_data, List.map_map]
  have e : ∀ x ∈ l, ((fun b : UInt8 => (b.toNat : Int)) ∘ fun n : Int => UInt8.ofNat n.toNat) x = x := by
    intro x hx
    have := h x hx
    show ((UInt8.ofNat x.toNat).toNat : Int) = x
    rw [UInt8.toNat_ofNat']
    omega
  exact (List.map_congr_left e).trans (by simp)

theorem bytesOf_size (s : ByteArray) : (bytesOf s).length = s.size := bytesOf_length s

theorem rdOf_drop {α : Type} {d : α} {b : List α} {c : α} {r : List α} {i : Nat} (h : b.drop i = c :: r) : rdOf d b (i : Int) = c ∧ i < b.length ∧ b.drop (i + 1) = r := by
  have hi : i < b.length := by
    rcases Nat.lt_or_ge i b.length with h1 | h1
    · exact h1
    · rw [List.drop_eq_nil_of_le h1] at h; cases h
  rw [List.drop_eq_getElem_cons hi] at h
  injection h with h1 h2
  refine ⟨?_, hi, h2⟩
  unfold rdOf
  simp [List.getD, hi, h1]

theorem dropd_nil {α : Type} {b : List α} {i : Nat} (h : b.drop i = []) : b.length ≤ i := by simpa using h

theorem Text_ev (s : ByteArray) (hs : s.size ≤ 140737488351232) : Ev (fun k => pack_Text.f k s) (encT (bytesOf s)) := by
  unfold pack_Text.f
  have hb := encN_le (n := s.size) (by omega)
  refine Ev.bind (Num_ev s.size (by omega)) ?_
  simp only [if_pos (show (encN s.size).length + s.size < 140737488355328 by omega)]
  unfold encT
  rw [bytesOf_size]
  exact Ev.now _
/-- What pack.GetText answers. -/
theorem GetText_ev (b : List Int) (p most : Int) (hb : Bytes b) (hl : b.length ≤ 140737488351232) :
    Ev (fun k => pack_GetText.f k b p most) (strOfNums (getT b p most).1, (getT b p most).2.1, (getT b p most).2.2) := by
  unfold pack_GetText.f
  refine Ev.bind (GetNum_ev b p hb hl) ?_
  unfold getT
  by_cases h0 : (getN b p).2.2 = 0
  · obtain ⟨hp, n, hv, hn, hq, hqb, _⟩ := getN_inv (b := b) (p := p) (v := (getN b p).1) (q := (getN b p).2.1) hb (by rw [← h0])
    simp only [if_pos h0]
    by_cases h1 : most < (getN b p).1
    · simp only [if_pos (show (getN b p).1 > most from h1), if_pos h1]
      exact Ev.now _
    · simp only [if_neg (show ¬ (getN b p).1 > most from h1), if_neg h1, w64 (x := (b.length : Int) - (getN b p).2.1) (by omega) (by omega)]
      by_cases h2 : (b.length : Int) - (getN b p).2.1 < (getN b p).1
      · simp only [if_pos (show (getN b p).1 > (b.length : Int) - (getN b p).2.1 from h2), if_pos h2]
        exact Ev.now _
      · simp only [if_neg (show ¬ (getN b p).1 > (b.length : Int) - (getN b p).2.1 from h2), if_neg h2, w64 (x := (getN b p).2.1 + (getN b p).1) (by omega) (by omega),
          if_pos (show (0 : Int) ≤ (getN b p).2.1 by omega), if_pos (show (getN b p).2.1 ≤ (getN b p).2.1 + (getN b p).1 by omega), if_pos (show (getN b p).2.1 + (getN b p).1 ≤ (b.length : Int) by omega)]
        exact Ev.now _
  · simp only [if_neg h0]
    exact Ev.now _
/-- The reference's answer: a number, a place, an error. -/
theorem refGetNum_l0 (b : List Int) (hb : Bytes b) (hl : b.length ≤ 140737488351232) (r : List Int) : ∀ (p i : Nat) (acc : Int), b.drop p = r → i ≤ 8 → 0 ≤ acc → acc < 128 ^ i → p ≤ b.length →
    Ev (fun k => shelfmarkref01_GetNum.l0 k b (p : Int) acc (128 ^ i) (i : Int)) ((gn r i acc p).1, (⟨#[]⟩ : ByteArray), ([] : List ByteArray), (gn r i acc p).2.1, (gn r i acc p).2.2) := by
  induction r with
  | nil =>
    intro p i acc hd hi ha0 ha hil
    have hl := drop_nil hd
    refine Ev.step (fun _ => shelfmarkref01_GetNum.l0.eq_2 ..) ?_
    simp only [if_pos (show (i : Int) < 9 by omega), if_pos (show (p : Int) ≥ (b.length : Int) by omega), gn]
    exact Ev.now _
  | cons c r ih =>
    intro p i acc hd hi ha0 ha hil
    obtain ⟨hc, hlt, hd'⟩ := rd_drop hd
    have hcb : 0 ≤ c ∧ c < 256 := by rw [← hc]; exact hb.get _
    have hp9 := pow_le9 (i := i + 1) (by omega)
    have hpp := pow_pos i
    have hmul : c % 128 * 128 ^ i ≤ 127 * 128 ^ i := Int.mul_le_mul_of_nonneg_right (by omega) (by omega)
    have hmul0 : 0 ≤ c % 128 * 128 ^ i := Int.mul_nonneg (by omega) (by omega)
    rw [Int.pow_succ] at hp9
    have htm : Int.tmod c 128 = c % 128 := Int.tmod_eq_emod_of_nonneg hcb.1
    refine Ev.step (fun _ => shelfmarkref01_GetNum.l0.eq_2 ..) ?_
    simp only [if_pos (show (i : Int) < 9 by omega), if_neg (show ¬ (p : Int) ≥ (b.length : Int) by omega), if_pos (show (0 : Int) ≤ (p : Int) by omega), if_pos (show (p : Int) < (b.length : Int) by omega), hc, w64 (x := c) (by omega) (by omega), w64 (x := (p : Int) + 1) (by omega) (by omega)]
    have tail : ∀ t : Bool, t = decide (127 < c ∧ i = 8 ∨ c = 0 ∧ 0 < i) → Ev (fun k => shelfmarkref01_GetNum.j2 k b ((p : Int) + 1) acc (128 ^ i) (i : Int) c t) ((gn (c :: r) i acc p).1, (⟨#[]⟩ : ByteArray), ([] : List ByteArray), (gn (c :: r) i acc p).2.1, (gn (c :: r) i acc p).2.2) := by
      intro t ht
      refine Ev.step (fun _ => shelfmarkref01_GetNum.j2.eq_2 ..) ?_
      simp only [gn]
      by_cases h1 : 127 < c ∧ i = 8 ∨ c = 0 ∧ 0 < i
      · rw [if_pos h1]
        simp only [ht, decide_eq_true h1, if_true]
        exact Ev.now _
      · rw [if_neg h1]
        simp only [ht, decide_eq_false h1, Bool.false_eq_true, if_false, htm, w64 (x := c % 128 * 128 ^ i) (by omega) (by omega), w64 (x := acc + c % 128 * 128 ^ i) (by omega) (by omega)]
        by_cases h2 : c < 128
        · simp only [if_pos h2]
          rw [Int.emod_eq_of_lt hcb.1 h2]
          exact Ev.now _
        · simp only [if_neg h2]
          have hp8 := pow_le8 (i := i) (by omega)
          rw [show c % 128 = c - 128 by omega] at hmul hmul0 ⊢
          have hi7 : i ≤ 7 := by omega
          have hp8' := pow_le8 (i := i + 1) (by omega)
          have := ih (p + 1) (i + 1) (acc + (c - 128) * 128 ^ i) hd' (by omega) (by omega) (by rw [Int.pow_succ]; omega) (by omega)
          rw [w64 (x := (i : Int) + 1) (by omega) (by omega), w64 (x := 128 ^ i * 128) (by omega) (by rw [← Int.pow_succ]; omega), ← Int.pow_succ]
          simpa using this
    by_cases h : c ≥ 128
    · simp only [if_pos h]
      by_cases h8 : (i : Int) = 8
      · simp only [if_pos h8]
        exact tail true (by symm; exact decide_eq_true (by omega))
      · simp only [if_neg h8, if_neg (show ¬ c = 0 by omega)]
        exact tail false (by symm; exact decide_eq_false (by omega))
    · simp only [if_neg h]
      by_cases h0 : c = 0
      · simp only [if_pos h0]
        refine tail _ ?_
        rw [Bool.eq_iff_iff, decide_eq_true_iff, decide_eq_true_iff]
        omega
      · simp only [if_neg h0]
        exact tail false (by symm; exact decide_eq_false (by omega))

theorem refGetNum_ev (b : List Int) (p : Int) (hb : Bytes b) (hl : b.length ≤ 140737488351232) : Ev (fun k => shelfmarkref01_GetNum.f k b p) ((getN b p).1, (⟨#[]⟩ : ByteArray), ([] : List ByteArray), (getN b p).2.1, (getN b p).2.2) := by
  unfold shelfmarkref01_GetNum.f getN
  by_cases h0 : p < 0
  · rw [if_pos (Or.inl h0)]
    simp only [if_pos h0]
    refine Ev.step (fun _ => shelfmarkref01_GetNum.j0.eq_2 ..) ?_
    exact Ev.now _
  · simp only [if_neg h0]
    refine Ev.step (fun _ => shelfmarkref01_GetNum.j0.eq_2 ..) ?_
    by_cases h1 : (b.length : Int) < p
    · rw [if_pos (Or.inr h1)]
      simp only [decide_eq_true (show p > (b.length : Int) from h1), if_true]
      exact Ev.now _
    · rw [if_neg (by omega)]
      simp only [decide_eq_false (show ¬ p > (b.length : Int) from h1), Bool.false_eq_true, if_false]
      have := refGetNum_l0 b hb hl (b.drop p.toNat) p.toNat 0 0 rfl (by omega) (by omega) (by simp) (by omega)
      rw [show ((p.toNat : Nat) : Int) = p by omega] at this
      simpa using this
/-- The reference's answer: a text, a place, an error. -/
theorem refGetText_ev (b : List Int) (p most : Int) (hb : Bytes b) (hl : b.length ≤ 140737488351232) :
    Ev (fun k => shelfmarkref01_GetText.f k b p most) (0, strOfNums (getT b p most).1, ([] : List ByteArray), (getT b p most).2.1, (getT b p most).2.2) := by
  unfold shelfmarkref01_GetText.f
  refine Ev.bind (refGetNum_ev b p hb hl) ?_
  unfold getT
  by_cases h0 : (getN b p).2.2 = 0
  · obtain ⟨hp, n, hv, hn, hq, hqb, _⟩ := getN_inv (b := b) (p := p) (v := (getN b p).1) (q := (getN b p).2.1) hb (by rw [← h0])
    simp only [if_pos h0]
    by_cases h1 : most < (getN b p).1
    · simp only [if_pos (show (getN b p).1 > most from h1), if_pos h1]
      exact Ev.now _
    · simp only [if_neg (show ¬ (getN b p).1 > most from h1), if_neg h1, w64 (x := (b.length : Int) - (getN b p).2.1) (by omega) (by omega)]
      by_cases h2 : (b.length : Int) - (getN b p).2.1 < (getN b p).1
      · simp only [if_pos (show (getN b p).1 > (b.length : Int) - (getN b p).2.1 from h2), if_pos h2]
        exact Ev.now _
      · simp only [if_neg (show ¬ (getN b p).1 > (b.length : Int) - (getN b p).2.1 from h2), if_neg h2, w64 (x := (getN b p).2.1 + (getN b p).1) (by omega) (by omega),
          if_pos (show (0 : Int) ≤ (getN b p).2.1 by omega), if_pos (show (getN b p).2.1 ≤ (getN b p).2.1 + (getN b p).1 by omega), if_pos (show (getN b p).2.1 + (getN b p).1 ≤ (b.length : Int) by omega)]
        exact Ev.now _
  · have he := getN_err (b := b) (p := p) (v := (getN b p).1) (q := (getN b p).2.1) (e := (getN b p).2.2) rfl h0
    simp only [if_neg h0, he.1, he.2.1]
    exact Ev.now _
theorem refNum_ev (n : Nat) (hn : n < 9223372036854775808) : Ev (fun k => shelfmarkref01_Num.f k (n : Int)) (encN n) := by
  induction n using Nat.strongRecOn with
  | _ n ih =>
    refine Ev.step (fun _ => shelfmarkref01_Num.f.eq_2 ..) ?_
    simp only [if_neg (show ¬ (n : Int) < 0 by omega)]
    by_cases h : n < 128
    · rw [encN_small h]
      simp only [if_pos (show (n : Int) < 128 by omega), Int.emod_eq_of_lt (show (0 : Int) ≤ n by omega) (show (n : Int) < 256 by omega)]
      exact Ev.now _
    · rw [encN_great h]
      have hb := encN_le (n := n / 128) (by omega)
      simp only [if_neg (show ¬ (n : Int) < 128 by omega), Int.tmod_eq_emod_of_nonneg (show (0 : Int) ≤ n by omega), Int.tdiv_eq_ediv_of_nonneg (show (0 : Int) ≤ n by omega), Option.bind_some]
      rw [w64 (x := 128 + (n : Int) % 128) (by omega) (by omega), w64 (x := (n : Int) / 128) (by omega) (by omega), show (128 + (n : Int) % 128) % 256 = ((128 + n % 128 : Nat) : Int) by omega, show (n : Int) / 128 = ((n / 128 : Nat) : Int) by omega]
      refine Ev.bind (ih (n / 128) (by omega) (by omega)) ?_
      simp only [if_pos (show [((128 + n % 128 : Nat) : Int)].length + (encN (n / 128)).length < 140737488355328 by simp; omega)]
      exact Ev.now _

theorem refText_ev (s : ByteArray) (hs : s.size ≤ 140737488351232) : Ev (fun k => shelfmarkref01_Text.f k s) (encT (bytesOf s)) := by
  unfold shelfmarkref01_Text.f
  have hb := encN_le (n := s.size) (by omega)
  refine Ev.bind (refNum_ev s.size (by omega)) ?_
  simp only [if_pos (show (encN s.size).length + s.size < 140737488355328 by omega)]
  unfold encT
  rw [bytesOf_size]
  exact Ev.now _

theorem rdL_drop {b : List (List Int)} {c : List Int} {r : List (List Int)} {i : Nat} (h : b.drop i = c :: r) : rd_L9 b (i : Int) = c ∧ i < b.length ∧ b.drop (i + 1) = r := by
  obtain ⟨h1, h2, h3⟩ := rdOf_drop (d := ([] : List Int)) h
  refine ⟨?_, h2, h3⟩
  rw [← h1]
  rfl

theorem Concat_l1 (l : List (List Int)) (hl : l.length < 9223372036854775807) (r : List (List Int)) : ∀ (i : Nat) (acc : List Int), l.drop i = r → acc.length + r.flatten.length < 140737488355328 → i ≤ l.length →
    Ev (fun k => slices_Concat_byte_byte.l1 k acc l (l.length : Int) (i : Int)) (acc ++ r.flatten) := by
  induction r with
  | nil =>
    intro i acc hd _ _
    have hi := dropd_nil hd
    refine Ev.step (fun _ => slices_Concat_byte_byte.l1.eq_2 ..) ?_
    simp only [if_neg (show ¬ (i : Int) < (l.length : Int) by omega)]
    simpa using Ev.now acc
  | cons s r ih =>
    intro i acc hd ha hil
    obtain ⟨hc, hlt, hd'⟩ := rdL_drop hd
    rw [List.flatten_cons, List.length_append] at ha
    refine Ev.step (fun _ => slices_Concat_byte_byte.l1.eq_2 ..) ?_
    simp only [if_pos (show (i : Int) < (l.length : Int) by omega), if_pos (show (0 : Int) ≤ (i : Int) by omega), hc, if_pos (show acc.length + s.length < 140737488355328 by omega)]
    rw [w64 (x := (i : Int) + 1) (by omega) (by omega), show ((i : Int) + 1) = ((i + 1 : Nat) : Int) by omega, List.flatten_cons, ← List.append_assoc]
    exact ih (i + 1) _ hd' (by rw [List.length_append]; omega) (by omega)

theorem Concat_l0 (l : List (List Int)) (hl : l.length < 9223372036854775807) (ht : l.flatten.length ≤ 140737488351232) (r : List (List Int)) : ∀ (i n : Nat), l.drop i = r → n + r.flatten.length ≤ 140737488351232 → i ≤ l.length →
    Ev (fun k => slices_Concat_byte_byte.l0 k l (n : Int) l (l.length : Int) (i : Int)) l.flatten := by
  induction r with
  | nil =>
    intro i n hd hn _
    have hi := dropd_nil hd
    refine Ev.step (fun _ => slices_Concat_byte_byte.l0.eq_2 ..) ?_
    simp only [if_neg (show ¬ (i : Int) < (l.length : Int) by omega)]
    have hg : slices_Grow_byte_byte.f ([] : List Int) (n : Int) = some [] := by
      unfold slices_Grow_byte_byte.f
      rw [if_pos (by simp), if_pos (by omega), if_pos (by omega)]
    simp only [hg, Option.bind_some]
    simpa using Concat_l1 l hl l 0 [] (by simp) (by simp only [List.length_nil]; omega) (by omega)
  | cons s r ih =>
    intro i n hd hn hil
    obtain ⟨hc, hlt, hd'⟩ := rdL_drop hd
    rw [List.flatten_cons, List.length_append] at hn
    refine Ev.step (fun _ => slices_Concat_byte_byte.l0.eq_2 ..) ?_
    simp only [if_pos (show (i : Int) < (l.length : Int) by omega), if_pos (show (0 : Int) ≤ (i : Int) by omega), hc, w64 (x := (n : Int) + (s.length : Int)) (by omega) (by omega), if_neg (show ¬ (n : Int) + (s.length : Int) < 0 by omega)]
    rw [w64 (x := (i : Int) + 1) (by omega) (by omega), show ((i : Int) + 1) = ((i + 1 : Nat) : Int) by omega, show (n : Int) + (s.length : Int) = ((n + s.length : Nat) : Int) by omega]
    exact ih (i + 1) _ hd' (by omega) (by omega)

/-- What pack.Join answers. -/
theorem Join_ev (l : List (List Int)) (hl : l.length < 9223372036854775807) (ht : l.flatten.length ≤ 140737488351232) : Ev (fun k => pack_Join.f k l) l.flatten := by
  unfold pack_Join.f slices_Concat_byte_byte.f
  refine Ev.bind (Concat_l0 l hl ht l 0 0 (by simp) (by omega) (by omega)) ?_
  exact Ev.now _

end Go.Proofs.Ythghacojbhjeaaa.PLtEv
namespace Go.Proofs.Ythghacojbhjeaaa.Pa
open Go Go.RowKit Go.Proofs.Ythghacojbhjeaaa.PLt Go.Proofs.YthghacojbhjeaaaW.PrintWords Go.Proofs.YthghacojbhjeaaaW.PrintLast Go.Proofs.Ythghacojbhjeaaa.La Go.Proofs.Ythghacojbhjeaaa.Lc Go.Proofs.Ythghacojbhjeaaa.Le Go.Proofs.Ythghacojbhjeaaa.Lf Go.Proofs.Ythghacojbhjeaaa.Li
set_option linter.unusedSimpArgs false
set_option linter.unusedVariables false
/-- Where the plain one tells, the other comes to it. -/
def Evl {α : Type} (g : Nat → Option α) (o : Option α) : Prop := ∀ v, o = some v → Ev g v
theorem Evl.const {α : Type} (o : Option α) : Evl (fun _ => o) o := fun v h => by subst h; exact Ev.now v
theorem Evl.bind {α β : Type} {g : Nat → Option α} {f : Nat → α → Option β} {o : Option α} {f' : α → Option β} (h : Evl g o) (k : ∀ a, Evl (fun n => f n a) (f' a)) : Evl (fun n => (g n).bind (f n)) (o.bind f') := by
  intro v hv
  obtain ⟨a, ha, hf⟩ := Option.bind_eq_some_iff.1 hv
  exact Ev.bind (h a ha) (k a v hf)
theorem Evl.map {α β : Type} {g : Nat → Option α} {o : Option α} (f : α → β) (h : Evl g o) : Evl (fun n => (g n).map f) (o.map f) := by
  intro v hv
  obtain ⟨a, ha, rfl⟩ := Option.map_eq_some_iff.1 hv
  obtain ⟨K, hK⟩ := h a ha
  exact ⟨K, fun n hn => by show (g n).map f = _; rw [hK n hn]; rfl⟩
theorem Evl.ite {α : Type} {c : Prop} [Decidable c] {g g' : Nat → Option α} {o o' : Option α} (h : Evl g o) (k : Evl g' o') : Evl (fun n => if c then g n else g' n) (if c then o else o') := by
  by_cases hc : c
  · simp only [if_pos hc]; exact h
  · simp only [if_neg hc]; exact k
section
variable {G : Nat → List Int → Int → Option (Int × Int × Int)} {T : Nat → List Int → Int → Option (ByteArray × Int × Int)} {G' : List Int → Int → Option (Int × Int × Int)} {T' : List Int → Int → Option (ByteArray × Int × Int)} {bs : List Int}
theorem numG_ev (hG : ∀ p, Evl (fun k => G k bs p) (G' bs p)) (a e m o : Int) : Evl (fun k => numG (G k) bs a e m o) (numG G' bs a e m o) := by
  unfold numG
  exact Evl.ite (Evl.map _ (hG _)) (Evl.const _)
theorem textG_ev (hT : ∀ p, Evl (fun k => T k bs p) (T' bs p)) (a e : Int) : Evl (fun k => textG (T k) bs a e) (textG T' bs a e) := by
  unfold textG
  exact Evl.ite (hT _) (Evl.const _)
theorem numsG_ev (hG : ∀ p, Evl (fun k => G k bs p) (G' bs p)) : ∀ (n : Nat) (a e : Int), Evl (fun k => numsG (G k) bs n a e) (numsG G' bs n a e)
  | 0, a, e => Evl.const _
  | n + 1, a, e => by
    simp only [numsG]
    exact Evl.bind (numG_ev hG _ _ _ _) fun x => Evl.bind (numsG_ev hG n _ _) fun y => Evl.const _
theorem textsG_ev (hT : ∀ p, Evl (fun k => T k bs p) (T' bs p)) : ∀ (n : Nat) (a e : Int), Evl (fun k => textsG (T k) bs n a e) (textsG T' bs n a e)
  | 0, a, e => Evl.const _
  | n + 1, a, e => by
    simp only [textsG]
    exact Evl.bind (textG_ev hT _ _) fun x => Evl.bind (textsG_ev hT n _ _) fun y => Evl.const _
theorem pairsG_ev (hT : ∀ p, Evl (fun k => T k bs p) (T' bs p)) : ∀ (n : Nat) (a e : Int) (out : List S39), Evl (fun k => pairsG (T k) bs n a e out) (pairsG T' bs n a e out)
  | 0, a, e, out => Evl.const _
  | n + 1, a, e, out => by
    simp only [pairsG]
    exact Evl.ite (Evl.bind (textG_ev hT _ _) fun x => Evl.bind (textG_ev hT _ _) fun y => pairsG_ev hT n _ _ _) (Evl.const _)
theorem intentsG_ev (hG : ∀ p, Evl (fun k => G k bs p) (G' bs p)) (hT : ∀ p, Evl (fun k => T k bs p) (T' bs p)) : ∀ (n : Nat) (a e : Int) (out : List S41), Evl (fun k => intentsG (G k) (T k) bs n a e out) (intentsG G' T' bs n a e out)
  | 0, a, e, out => Evl.const _
  | n + 1, a, e, out => by
    simp only [intentsG]
    exact Evl.ite (Evl.bind (textG_ev hT _ _) fun x => Evl.bind (numG_ev hG _ _ _ _) fun y => Evl.bind (numG_ev hG _ _ _ _) fun z => intentsG_ev hG hT n _ _ _) (Evl.const _)
end
theorem unpackF_ev {G : Nat → List Int → Int → Option (Int × Int × Int)} {T : Nat → List Int → Int → Option (ByteArray × Int × Int)} {G' : List Int → Int → Option (Int × Int × Int)} {T' : List Int → Int → Option (ByteArray × Int × Int)} (s : ByteArray) (hG : ∀ p, Evl (fun k => G k (bytesOf s) p) (G' (bytesOf s) p)) (hT : ∀ p, Evl (fun k => T k (bytesOf s) p) (T' (bytesOf s) p)) : Evl (fun k => unpackF (G k) (T k) s) (unpackF G' T' s) := by
  unfold unpackF unpackG
  exact Evl.ite (Evl.const _) (Evl.bind (numG_ev hG _ _ _ _) fun _ => Evl.bind (numsG_ev hG _ _ _) fun _ => Evl.bind (numG_ev hG _ _ _ _) fun _ => Evl.bind (numG_ev hG _ _ _ _) fun _ => Evl.bind (textsG_ev hT _ _ _) fun _ =>
    Evl.bind (numG_ev hG _ _ _ _) fun _ => Evl.bind (pairsG_ev hT _ _ _ _) fun _ => Evl.bind (numG_ev hG _ _ _ _) fun _ => Evl.bind (intentsG_ev hG hT _ _ _ _) fun _ => Evl.const _)
end Go.Proofs.Ythghacojbhjeaaa.Pa
namespace Go.Proofs.Ythghacojbhjeaaa.Pb
open Go Go.RowKit Go.Proofs.Ythghacojbhjeaaa.PLt Go.Proofs.YthghacojbhjeaaaW.PrintWords Go.Proofs.YthghacojbhjeaaaW.PrintLast Go.Proofs.Ythghacojbhjeaaa.Pk Go.Proofs.Ythghacojbhjeaaa.PLtEv Go.Proofs.Ythghacojbhjeaaa.La Go.Proofs.Ythghacojbhjeaaa.Lc Go.Proofs.Ythghacojbhjeaaa.Le Go.Proofs.Ythghacojbhjeaaa.Lf Go.Proofs.Ythghacojbhjeaaa.Li Go.Proofs.Ythghacojbhjeaaa.Pa
set_option linter.unusedSimpArgs false
set_option linter.unusedVariables false
def pN (bs : List Int) (p : Int) : Option (Int × Int × Int) := some (getN bs p)
def pT (bs : List Int) (p : Int) : Option (ByteArray × Int × Int) := some (strOfNums (getT bs p 9223372036854775807).1, (getT bs p 9223372036854775807).2.1, (getT bs p 9223372036854775807).2.2)
theorem bind_tot {α β : Type} {o : Option α} {f : α → Option β} (h : ∃ a, o = some a) (k : ∀ a, ∃ b, f a = some b) : ∃ b, o.bind f = some b := by
  obtain ⟨a, rfl⟩ := h
  exact k a
theorem ite_tot {α : Type} {c : Prop} [Decidable c] {a b : Option α} (h : ∃ x, a = some x) (k : ∃ x, b = some x) : ∃ x, (if c then a else b) = some x := by
  split
  · exact h
  · exact k
theorem numG_tot (bs : List Int) (a e m o : Int) : ∃ r, numG pN bs a e m o = some r := by
  unfold numG
  exact ite_tot ⟨_, rfl⟩ ⟨_, rfl⟩
theorem textG_tot (bs : List Int) (a e : Int) : ∃ r, textG pT bs a e = some r := by
  unfold textG
  exact ite_tot ⟨_, rfl⟩ ⟨_, rfl⟩
theorem numsG_tot (bs : List Int) : ∀ (n : Nat) (a e : Int), ∃ r, numsG pN bs n a e = some r
  | 0, a, e => ⟨_, rfl⟩
  | n + 1, a, e => by
    rw [numsG]
    exact bind_tot (numG_tot _ _ _ _ _) fun x => bind_tot (numsG_tot bs n _ _) fun y => ⟨_, rfl⟩
theorem textsG_tot (bs : List Int) : ∀ (n : Nat) (a e : Int), ∃ r, textsG pT bs n a e = some r
  | 0, a, e => ⟨_, rfl⟩
  | n + 1, a, e => by
    rw [textsG]
    exact bind_tot (textG_tot _ _ _) fun x => bind_tot (textsG_tot bs n _ _) fun y => ⟨_, rfl⟩
theorem pairsG_tot (bs : List Int) : ∀ (n : Nat) (a e : Int) (out : List S39), ∃ r, pairsG pT bs n a e out = some r
  | 0, a, e, out => ⟨_, rfl⟩
  | n + 1, a, e, out => by
    rw [pairsG]
    exact ite_tot (bind_tot (textG_tot _ _ _) fun x => bind_tot (textG_tot _ _ _) fun y => pairsG_tot bs n _ _ _) ⟨_, rfl⟩
theorem intentsG_tot (bs : List Int) : ∀ (n : Nat) (a e : Int) (out : List S41), ∃ r, intentsG pN pT bs n a e out = some r
  | 0, a, e, out => ⟨_, rfl⟩
  | n + 1, a, e, out => by
    rw [intentsG]
    exact ite_tot (bind_tot (textG_tot _ _ _) fun x => bind_tot (numG_tot _ _ _ _ _) fun y => bind_tot (numG_tot _ _ _ _ _) fun z => intentsG_tot bs n _ _ _) ⟨_, rfl⟩
theorem unpackF_tot (s : ByteArray) : ∃ r, unpackF pN pT s = some r := by
  unfold unpackF unpackG
  exact ite_tot ⟨_, rfl⟩ (bind_tot (numG_tot _ _ _ _ _) fun _ => bind_tot (numsG_tot _ _ _ _) fun _ => bind_tot (numG_tot _ _ _ _ _) fun _ => bind_tot (numG_tot _ _ _ _ _) fun _ => bind_tot (textsG_tot _ _ _ _) fun _ =>
    bind_tot (numG_tot _ _ _ _ _) fun _ => bind_tot (pairsG_tot _ _ _ _ _) fun _ => bind_tot (numG_tot _ _ _ _ _) fun _ => bind_tot (intentsG_tot _ _ _ _ _) fun _ => ⟨_, rfl⟩)
theorem Ev_map {α β : Type} {g : Nat → Option α} {a : α} (f : α → β) (h : Ev g a) : Ev (fun k => (g k).map f) (f a) := by
  obtain ⟨K, hK⟩ := h
  exact ⟨K, fun n hn => by show (g n).map f = _; rw [hK n hn]; rfl⟩
/-- Both Unpacks, at every text: the letter, or the first error. -/
theorem unpack_both (s : ByteArray) (hs : s.size ≤ 140737488351232) : ∃ r, unpackF pN pT s = some r ∧ Ev (fun k => Li.letter_Unpack.f k s) (flat r) ∧ Ev (fun k => Li.shelfmarkref13_Unpack.f k s) (flat r) := by
  obtain ⟨r, hr⟩ := unpackF_tot s
  have hb : Bytes (bytesOf s) := bytesOf_bytes s
  have hl : (bytesOf s).length ≤ 140737488351232 := by rw [bytesOf_length]; exact hs
  refine ⟨r, hr, Ev_map flat (unpackF_ev (G := codeN) (T := codeT) s ?_ ?_ r hr), Ev_map flat (unpackF_ev (G := refN) (T := refT) s ?_ ?_ r hr)⟩
  · rintro p v ⟨⟩
    exact GetNum_ev _ p hb hl
  · rintro p v ⟨⟩
    exact GetText_ev _ p _ hb hl
  · rintro p v ⟨⟩
    exact Ev_map (fun r => (r.1, r.2.2.2.1, r.2.2.2.2)) (refGetNum_ev _ p hb hl)
  · rintro p v ⟨⟩
    exact Ev_map (fun r => (r.2.1, r.2.2.2.1, r.2.2.2.2)) (refGetText_ev _ p _ hb hl)
end Go.Proofs.Ythghacojbhjeaaa.Pb
namespace Go.Proofs.Ythghacojbhjeaaa.Pc
open Go Go.RowKit Go.Proofs.Ythghacojbhjeaaa.PLt Go.Proofs.YthghacojbhjeaaaW.PrintWords Go.Proofs.YthghacojbhjeaaaW.PrintLast Go.Proofs.Ythghacojbhjeaaa.Pk Go.Proofs.Ythghacojbhjeaaa.PLtEv Go.Proofs.Ythghacojbhjeaaa.Lk Go.Proofs.Ythghacojbhjeaaa.Ll
set_option linter.unusedSimpArgs false
set_option linter.unusedVariables false
/-- A number's form. -/
def eN (n : Int) : List Int := encN n.toNat
def eT (s : ByteArray) : List Int := encT (bytesOf s)
theorem eN_ev (n : Int) (h0 : 0 ≤ n) (h1 : n < 9223372036854775808) : Ev (fun k => pack_Num.f k n) (eN n) := by
  have h := Num_ev n.toNat (by omega)
  rwa [show ((n.toNat : Nat) : Int) = n by omega] at h
theorem cat_ok {b x : List Int} (h : b.length + x.length < 140737488355328) : catB b x = some (b ++ x) := by unfold catB; rw [if_pos h]
theorem cat_ev {b x : List Int} (h : b.length + x.length < 140737488355328) : Ev (fun _ => catB b x) (b ++ x) := by rw [cat_ok h]; exact Ev.now _
theorem numsB_ev : ∀ (l b : List Int), (∀ n ∈ l, 0 ≤ n ∧ n < 9223372036854775808) → b.length + (l.map eN).flatten.length < 140737488355328 → Ev (fun k => numsB k l b) (b ++ (l.map eN).flatten)
  | [], b, _, _ => by simpa [numsB] using Ev.now b
  | n :: t, b, h, hl => by
    simp only [List.map_cons, List.flatten_cons, List.length_append] at hl ⊢
    simp only [numsB]
    refine Ev.bind (eN_ev n (h n (by simp)).1 (h n (by simp)).2) (Ev.bind (cat_ev (by omega)) ?_)
    rw [← List.append_assoc]
    exact numsB_ev t (b ++ eN n) (fun m hm => h m (List.mem_cons_of_mem _ hm)) (by rw [List.length_append]; omega)
theorem textsB_ev : ∀ (l : List ByteArray) (b : List Int), (∀ s ∈ l, s.size ≤ 140737488351232) → b.length + (l.map eT).flatten.length < 140737488355328 → Ev (fun k => textsB k l b) (b ++ (l.map eT).flatten)
  | [], b, _, _ => by simpa [textsB] using Ev.now b
  | s :: t, b, h, hl => by
    simp only [List.map_cons, List.flatten_cons, List.length_append] at hl ⊢
    simp only [textsB]
    refine Ev.bind (Text_ev s (h s (by simp))) (Ev.bind (cat_ev (show b.length + (eT s).length < _ by omega)) ?_)
    rw [← List.append_assoc]
    exact textsB_ev t (b ++ eT s) (fun m hm => h m (List.mem_cons_of_mem _ hm)) (by rw [List.length_append]; omega)
theorem bitI_ok (y : Bool) : 0 ≤ bitI y ∧ bitI y < 9223372036854775808 := by unfold bitI; split <;> omega
theorem headB_ev (co : Int) (y : Bool) (b : List Int) (h0 : 0 ≤ co) (h1 : co < 9223372036854775808) (hl : b.length + (eN co ++ eN (bitI y)).length < 140737488351232) : Ev (fun k => headB k co y b) (b ++ (eN co ++ eN (bitI y))) := by
  unfold headB
  have e : [eN co, eN (bitI y)].flatten = eN co ++ eN (bitI y) := by simp
  refine Ev.bind (eN_ev co h0 h1) (Ev.bind (eN_ev _ (bitI_ok y).1 (bitI_ok y).2) (Ev.bind (Join_ev [eN co, eN (bitI y)] (by simp) (by rw [e]; omega)) ?_))
  rw [e]
  exact cat_ev (by omega)
def eP (p : S39) : List Int := eT p.f0 ++ eT p.f1
def eI (x : S41) : List Int := eT x.f0 ++ (eN x.f1 ++ eN (bitI x.f2))
theorem pairsB_ev : ∀ (l : List S39) (b : List Int), (∀ p ∈ l, p.f0.size ≤ 140737488351232 ∧ p.f1.size ≤ 140737488351232) → b.length + (l.map eP).flatten.length < 140737488351232 → Ev (fun k => pairsB k l b) (b ++ (l.map eP).flatten)
  | [], b, _, _ => by simpa [pairsB] using Ev.now b
  | p :: t, b, h, hl => by
    simp only [List.map_cons, List.flatten_cons, List.length_append] at hl ⊢
    simp only [pairsB]
    have e : [eT p.f0, eT p.f1].flatten = eP p := by simp [eP]
    refine Ev.bind (Text_ev p.f0 (h p (by simp)).1) (Ev.bind (Text_ev p.f1 (h p (by simp)).2) (Ev.bind (Join_ev [eT p.f0, eT p.f1] (by simp) (by rw [e]; omega)) ?_))
    rw [e]
    refine Ev.bind (cat_ev (show b.length + (eP p).length < _ by omega)) ?_
    rw [← List.append_assoc]
    exact pairsB_ev t (b ++ eP p) (fun m hm => h m (List.mem_cons_of_mem _ hm)) (by rw [List.length_append]; omega)
theorem intentsB_ev : ∀ (l : List S41) (b : List Int), (∀ x ∈ l, x.f0.size ≤ 140737488351232 ∧ 0 ≤ x.f1 ∧ x.f1 < 9223372036854775808) → b.length + (l.map eI).flatten.length < 140737488351232 → Ev (fun k => intentsB k l b) (b ++ (l.map eI).flatten)
  | [], b, _, _ => by simpa [intentsB] using Ev.now b
  | x :: t, b, h, hl => by
    simp only [List.map_cons, List.flatten_cons, List.length_append] at hl ⊢
    simp only [intentsB]
    have e : [eT x.f0, eN x.f1, eN (bitI x.f2)].flatten = eI x := by simp [eI]
    have hx := h x (by simp)
    refine Ev.bind (Text_ev x.f0 hx.1) (Ev.bind (eN_ev x.f1 hx.2.1 hx.2.2) (Ev.bind (eN_ev _ (bitI_ok x.f2).1 (bitI_ok x.f2).2) (Ev.bind (Join_ev [eT x.f0, eN x.f1, eN (bitI x.f2)] (by simp) (by rw [e]; omega)) ?_)))
    rw [e]
    refine Ev.bind (cat_ev (show b.length + (eI x).length < _ by omega)) ?_
    rw [← List.append_assoc]
    exact intentsB_ev t (b ++ eI x) (fun m hm => h m (List.mem_cons_of_mem _ hm)) (by rw [List.length_append]; omega)
theorem lenB_ev (n : Nat) (b : List Int) (hn : n < 9223372036854775808) (hl : b.length + (eN (n : Int)).length < 140737488355328) : Ev (fun k => lenB k n b) (b ++ eN (n : Int)) := by
  unfold lenB
  exact Ev.bind (eN_ev n (by omega) (by omega)) (cat_ev hl)
/-- A letter's bytes. -/
def bodyP (kd : Int) (ns : List Int) (co : Int) (y : Bool) (ts : List ByteArray) (ps : List S39) (is_ : List S41) : List Int :=
  eN kd ++ (ns.map eN).flatten ++ (eN co ++ eN (bitI y)) ++ (ts.map eT).flatten ++ eN (ps.length : Int) ++ (ps.map eP).flatten ++ eN (is_.length : Int) ++ (is_.map eI).flatten
theorem bodyB_ev (kd : Int) (ns : List Int) (co : Int) (y : Bool) (ts : List ByteArray) (ps : List S39) (is_ : List S41) (h0 : 0 ≤ kd ∧ kd < 9223372036854775808) (h1 : ∀ n ∈ ns, 0 ≤ n ∧ n < 9223372036854775808) (h2 : 0 ≤ co ∧ co < 9223372036854775808) (h3 : ∀ s ∈ ts, s.size ≤ 140737488351232)
    (h4 : ∀ p ∈ ps, p.f0.size ≤ 140737488351232 ∧ p.f1.size ≤ 140737488351232) (h5 : ∀ x ∈ is_, x.f0.size ≤ 140737488351232 ∧ 0 ≤ x.f1 ∧ x.f1 < 9223372036854775808) (hp : ps.length < 9223372036854775808) (hi : is_.length < 9223372036854775808) (ht : (bodyP kd ns co y ts ps is_).length < 140737488351232) :
    Ev (fun k => bodyB k kd ns co y ts ps is_) (bodyP kd ns co y ts ps is_) := by
  unfold bodyP at ht
  simp only [List.length_append] at ht
  unfold bodyB bodyP
  refine Ev.bind (eN_ev kd h0.1 h0.2) (Ev.bind (numsB_ev ns _ h1 (by omega)) (Ev.bind (headB_ev co y _ h2.1 h2.2 (by simp only [List.length_append]; omega)) (Ev.bind (textsB_ev ts _ h3 (by simp only [List.length_append]; omega)) (Ev.bind (lenB_ev ps.length _ hp (by simp only [List.length_append]; omega)) (Ev.bind (pairsB_ev ps _ h4 (by simp only [List.length_append]; omega)) (Ev.bind (lenB_ev is_.length _ hi (by simp only [List.length_append]; omega)) (intentsB_ev is_ _ h5 (by simp only [List.length_append]; omega))))))))
end Go.Proofs.Ythghacojbhjeaaa.Pc
namespace Go.Proofs.Ythghacojbhjeaaa.Pd
open Go Go.RowKit Go.Proofs.Ythghacojbhjeaaa.PLt Go.Proofs.YthghacojbhjeaaaW.PrintWords Go.Proofs.YthghacojbhjeaaaW.PrintLast Go.Proofs.Ythghacojbhjeaaa.Pk Go.Proofs.Ythghacojbhjeaaa.PLtEv Go.Proofs.Ythghacojbhjeaaa.La Go.Proofs.Ythghacojbhjeaaa.Lc Go.Proofs.Ythghacojbhjeaaa.Le Go.Proofs.Ythghacojbhjeaaa.Lk Go.Proofs.Ythghacojbhjeaaa.Ll Go.Proofs.Ythghacojbhjeaaa.Pb Go.Proofs.Ythghacojbhjeaaa.Pc
set_option linter.unusedSimpArgs false
set_option linter.unusedVariables false
/-- At place p of b stands x, then rest. -/
structure At (b : List Int) (p : Nat) (x rest : List Int) : Prop where
  le : p ≤ b.length
  drop : b.drop p = x ++ rest
theorem At.next {b x y rest : List Int} {p : Nat} (h : At b p x (y ++ rest)) : At b (p + x.length) y rest := by
  have hl : (b.drop p).length = b.length - p := List.length_drop
  have h2 := h.drop
  refine ⟨?_, ?_⟩
  · rw [h2] at hl
    simp only [List.length_append] at hl
    have := h.le
    omega
  · rw [← List.drop_drop, h2, List.drop_left]
theorem num_at {b rest : List Int} {p : Nat} {n most other : Int} (h : At b p (eN n) rest) (h0 : 0 ≤ n) (h1 : n ≤ most) (h2 : n < 9223372036854775808) : numG pN b (p : Int) 0 most other = some (n, ((p + (eN n).length : Nat) : Int), 0) := by
  have hg := getN_enc (b := b) (p := (p : Int)) (n := n.toNat) (rest := rest) (by omega) (by have := h.le; omega) (by omega) (by rw [Int.toNat_natCast]; exact h.drop)
  unfold numG pN
  rw [if_pos rfl, hg]
  have e : ((n.toNat : Nat) : Int) = n := by omega
  simp only [Option.map_some, e]
  rw [if_neg (by omega)]
  rfl
theorem text_at {b rest : List Int} {p : Nat} {s : ByteArray} (h : At b p (eT s) rest) (hs : s.size ≤ 140737488351232) : textG pT b (p : Int) 0 = some (s, ((p + (eT s).length : Nat) : Int), 0) := by
  have hg := getT_enc (b := b) (p := (p : Int)) (most := 9223372036854775807) (s := bytesOf s) (rest := rest) (by omega) (by have := h.le; omega) (by rw [bytesOf_length]; omega) (by rw [bytesOf_length]; omega) (by rw [Int.toNat_natCast]; exact h.drop)
  unfold textG pT
  rw [if_pos rfl, hg]
  simp only [strOfNums_bytesOf]
  rfl
theorem At.split {b x y rest : List Int} {p : Nat} (h : At b p (x ++ y) rest) : At b p x (y ++ rest) := ⟨h.le, by rw [h.drop, List.append_assoc]⟩
theorem nums_at (b : List Int) : ∀ (l : List Int) (p : Nat) (rest : List Int), At b p (l.map eN).flatten rest → (∀ n ∈ l, 0 ≤ n ∧ n ≤ 1099511627776) → numsG pN b l.length (p : Int) 0 = some (l, ((p + (l.map eN).flatten.length : Nat) : Int), 0)
  | [], p, rest, h, _ => by simp [numsG]
  | n :: t, p, rest, h, hn => by
    simp only [List.map_cons, List.flatten_cons] at h
    have h1 := h.split
    simp only [List.length_cons, numsG]
    rw [num_at h1 (hn n (by simp)).1 (hn n (by simp)).2 (by have := (hn n (by simp)).2; omega)]
    simp only [Option.bind_some]
    rw [nums_at b t _ rest h1.next (fun m hm => hn m (List.mem_cons_of_mem _ hm))]
    simp only [Option.bind_some, List.map_cons, List.flatten_cons, List.length_append, Nat.add_assoc]
theorem texts_at (b : List Int) : ∀ (l : List ByteArray) (p : Nat) (rest : List Int), At b p (l.map eT).flatten rest → (∀ s ∈ l, s.size ≤ 140737488351232) → textsG pT b l.length (p : Int) 0 = some (l, ((p + (l.map eT).flatten.length : Nat) : Int), 0)
  | [], p, rest, h, _ => by simp [textsG]
  | s :: t, p, rest, h, hn => by
    simp only [List.map_cons, List.flatten_cons] at h
    have h1 := h.split
    simp only [List.length_cons, textsG]
    rw [text_at h1 (hn s (by simp))]
    simp only [Option.bind_some]
    rw [texts_at b t _ rest h1.next (fun m hm => hn m (List.mem_cons_of_mem _ hm))]
    simp only [Option.bind_some, List.map_cons, List.flatten_cons, List.length_append, Nat.add_assoc]
theorem pairs_at (b : List Int) : ∀ (l : List S39) (p : Nat) (rest : List Int) (out : List S39), At b p (l.map eP).flatten rest → (∀ q ∈ l, q.f0.size ≤ 140737488351232 ∧ q.f1.size ≤ 140737488351232) → pairsG pT b l.length (p : Int) 0 out = some (out ++ l, ((p + (l.map eP).flatten.length : Nat) : Int), 0)
  | [], p, rest, out, h, _ => by simp [pairsG]
  | q :: t, p, rest, out, h, hn => by
    simp only [List.map_cons, List.flatten_cons] at h
    have h1 := h.split
    unfold eP at h1
    have h2 := h1.split
    have h3 := h2.next
    simp only [List.length_cons, pairsG, if_true]
    rw [text_at h2 (hn q (by simp)).1]
    simp only [Option.bind_some]
    rw [text_at h3 (hn q (by simp)).2]
    simp only [Option.bind_some]
    rw [pairs_at b t _ rest _ h3.next (fun m hm => hn m (List.mem_cons_of_mem _ hm))]
    simp only [List.map_cons, List.flatten_cons, List.length_append, Nat.add_assoc, List.append_assoc, List.singleton_append, eP]
theorem bit_back (y : Bool) : (bitI y == 1) = y := by cases y <;> rfl
theorem bit_le (y : Bool) : 0 ≤ bitI y ∧ bitI y ≤ 1 := by cases y <;> decide
theorem intents_at (b : List Int) : ∀ (l : List S41) (p : Nat) (rest : List Int) (out : List S41), At b p (l.map eI).flatten rest → (∀ q ∈ l, q.f0.size ≤ 140737488351232 ∧ 0 ≤ q.f1 ∧ q.f1 ≤ 1099511627776) → intentsG pN pT b l.length (p : Int) 0 out = some (out ++ l, ((p + (l.map eI).flatten.length : Nat) : Int), 0)
  | [], p, rest, out, h, _ => by simp [intentsG]
  | q :: t, p, rest, out, h, hn => by
    simp only [List.map_cons, List.flatten_cons] at h
    have h1 := h.split
    unfold eI at h1
    have h2 := h1.split
    have h3 := h2.next.split
    have h4 := h3.next
    have hq := hn q (by simp)
    simp only [List.length_cons, intentsG, if_true]
    rw [text_at h2 hq.1]
    simp only [Option.bind_some]
    rw [num_at h3 hq.2.1 hq.2.2 (by have := hq.2.2; omega)]
    simp only [Option.bind_some]
    rw [num_at h4 (bit_le q.f2).1 (bit_le q.f2).2 (by have := (bit_le q.f2).2; omega)]
    simp only [Option.bind_some]
    rw [intents_at b t _ rest _ h4.next (fun m hm => hn m (List.mem_cons_of_mem _ hm))]
    simp only [bit_back, List.map_cons, List.flatten_cons, List.length_append, Nat.add_assoc, List.append_assoc, List.singleton_append, eI]
/-- A letter's bytes are read as the letter. -/
theorem unpack_pack (kd : Int) (ns : List Int) (co : Int) (y : Bool) (ts : List ByteArray) (ps : List S39) (is_ : List S41) (h0 : 0 ≤ kd ∧ kd ≤ 255) (hns : ns.length = 6) (h1 : ∀ n ∈ ns, 0 ≤ n ∧ n ≤ 1099511627776) (h2 : 0 ≤ co ∧ co ≤ 1099511627776) (hts : ts.length = 3) (h3 : ∀ s ∈ ts, s.size ≤ 140737488351232)
    (h4 : ∀ p ∈ ps, p.f0.size ≤ 140737488351232 ∧ p.f1.size ≤ 140737488351232) (h5 : ∀ x ∈ is_, x.f0.size ≤ 140737488351232 ∧ 0 ≤ x.f1 ∧ x.f1 ≤ 1099511627776) (hp : ps.length ≤ 256) (hi : is_.length ≤ 256) :
    unpackG pN pT (bodyP kd ns co y ts ps is_) ((bodyP kd ns co y ts ps is_).length : Int) = some (mkL kd ns co (bitI y) ts ps is_, 0) := by
  obtain ⟨b, hb⟩ : ∃ b, b = bodyP kd ns co y ts ps is_ := ⟨_, rfl⟩
  rw [← hb]
  have a0 : At b 0 (eN kd) ((ns.map eN).flatten ++ (eN co ++ (eN (bitI y) ++ ((ts.map eT).flatten ++ (eN (ps.length : Int) ++ ((ps.map eP).flatten ++ (eN (is_.length : Int) ++ ((is_.map eI).flatten ++ [])))))))) := ⟨Nat.zero_le _, by rw [hb]; unfold bodyP; simp only [List.drop_zero, List.append_assoc, List.append_nil]⟩
  have a1 := a0.next
  have a2 := a1.next
  have a3 := a2.next
  have a4 := a3.next
  have a5 := a4.next
  have a6 := a5.next
  have a7 := a6.next
  have a8 := a7.next
  have a9 : At b _ [] [] := At.next (y := []) (rest := []) a8
  have hend : b.length ≤ _ := List.drop_eq_nil_iff.1 a9.drop
  have hle := a9.le
  have e0 : numG pN b 0 0 255 3 = _ := num_at (p := 0) a0 h0.1 h0.2 (by omega)
  have e1 := nums_at b ns _ _ a1 h1
  rw [hns] at e1
  have e2 := num_at (most := 1099511627776) (other := 3) a2 h2.1 h2.2 (by omega)
  have e3 := num_at (most := 1) (other := 3) a3 (bit_le y).1 (bit_le y).2 (by have := (bit_le y).2; omega)
  have e4 := texts_at b ts _ _ a4 h3
  rw [hts] at e4
  have e5 := num_at (most := 256) (other := 4) a5 (by omega) (by omega) (by omega)
  have e6 := pairs_at b ps _ _ [] a6 h4
  have e7 := num_at (most := 256) (other := 4) a7 (by omega) (by omega) (by omega)
  have e8 := intents_at b is_ _ _ [] a8 h5
  unfold unpackG
  simp only [e0, Option.bind_some, e1, e2, e3, e4, e5, Int.toNat_natCast, e6, e7, e8, List.nil_append]
  rw [if_pos]
  unfold endE
  rw [if_neg]
  rintro ⟨_, hne⟩
  apply hne
  omega
end Go.Proofs.Ythghacojbhjeaaa.Pd
namespace Go.Proofs.Ythghacojbhjeaaa.Pe
open Go Go.RowKit Go.Proofs.Ythghacojbhjeaaa.PLt Go.Proofs.YthghacojbhjeaaaW.PrintWords Go.Proofs.YthghacojbhjeaaaW.PrintLast Go.Proofs.Ythghacojbhjeaaa.Pk Go.Proofs.Ythghacojbhjeaaa.PLtEv Go.Proofs.Ythghacojbhjeaaa.La Go.Proofs.Ythghacojbhjeaaa.Lc Go.Proofs.Ythghacojbhjeaaa.Le Go.Proofs.Ythghacojbhjeaaa.Lk Go.Proofs.Ythghacojbhjeaaa.Ll Go.Proofs.Ythghacojbhjeaaa.Pb Go.Proofs.Ythghacojbhjeaaa.Pc Go.Proofs.Ythghacojbhjeaaa.Pd
set_option linter.unusedSimpArgs false
set_option linter.unusedVariables false
/-- From place a to place q stands x. -/
structure Rd (b : List Int) (a : Int) (x : List Int) (q : Int) : Prop where
  nn : 0 ≤ a
  end_ : q = a + x.length
  le : q ≤ b.length
  at_ : ∃ rest, b.drop a.toNat = x ++ rest
theorem Rd.nil {b : List Int} {a : Int} (h0 : 0 ≤ a) (h1 : a ≤ b.length) : Rd b a [] a := ⟨h0, by simp, h1, ⟨_, rfl⟩⟩
end Go.Proofs.Ythghacojbhjeaaa.Pe
namespace Go.Proofs.Ythghacojbhjeaaa.Pf
open Go Go.RowKit Go.Proofs.Ythghacojbhjeaaa.PLt Go.Proofs.YthghacojbhjeaaaW.PrintWords Go.Proofs.YthghacojbhjeaaaW.PrintLast Go.Proofs.Ythghacojbhjeaaa.Pk Go.Proofs.Ythghacojbhjeaaa.PLtEv Go.Proofs.Ythghacojbhjeaaa.La Go.Proofs.Ythghacojbhjeaaa.Lc Go.Proofs.Ythghacojbhjeaaa.Le Go.Proofs.Ythghacojbhjeaaa.Lk Go.Proofs.Ythghacojbhjeaaa.Ll Go.Proofs.Ythghacojbhjeaaa.Pb Go.Proofs.Ythghacojbhjeaaa.Pc Go.Proofs.Ythghacojbhjeaaa.Pd Go.Proofs.Ythghacojbhjeaaa.Pe
set_option linter.unusedSimpArgs false
set_option linter.unusedVariables false
/-- At place p of b stands a true beginning of x, and nothing behind it. -/
structure Cut (b : List Int) (p : Nat) (x : List Int) : Prop where
  le : p ≤ b.length
  cut : ∃ i, i < x.length ∧ b.drop p = x.take i
/-- Either all of x stands there and a beginning of y behind it, or a true beginning of x alone. -/
theorem Cut.split {b x y : List Int} {p : Nat} (h : Cut b p (x ++ y)) : (∃ rest, At b p x rest ∧ Cut b (p + x.length) y) ∨ Cut b p x := by
  obtain ⟨i, hi, hd⟩ := h.cut
  by_cases hx : i < x.length
  · refine .inr ⟨h.le, i, hx, ?_⟩
    rw [hd, List.take_append_of_le_length (by omega)]
  · have e : b.drop p = x ++ y.take (i - x.length) := by rw [hd, List.take_append, List.take_of_length_le (by omega)]
    have a : At b p x (y.take (i - x.length)) := ⟨h.le, e⟩
    have a2 : At b p x (y.take (i - x.length) ++ []) := by rw [List.append_nil]; exact a
    refine .inl ⟨_, a, a2.next.le, i - x.length, ?_, ?_⟩
    · rw [List.length_append] at hi; omega
    · have := a2.next.drop
      rwa [List.append_nil] at this
end Go.Proofs.Ythghacojbhjeaaa.Pf
namespace Go.Proofs.Ythghacojbhjeaaa.Pg
open Go Go.RowKit Go.Proofs.Ythghacojbhjeaaa.PLt Go.Proofs.YthghacojbhjeaaaW.PrintWords Go.Proofs.YthghacojbhjeaaaW.PrintLast Go.Proofs.Ythghacojbhjeaaa.Pk Go.Proofs.Ythghacojbhjeaaa.PLtEv Go.Proofs.Ythghacojbhjeaaa.Le Go.Proofs.Ythghacojbhjeaaa.Lh Go.Proofs.Ythghacojbhjeaaa.Lj Go.Proofs.Ythghacojbhjeaaa.Lk Go.Proofs.Ythghacojbhjeaaa.Ll Go.Proofs.Ythghacojbhjeaaa.Pb Go.Proofs.Ythghacojbhjeaaa.Pc Go.Proofs.Ythghacojbhjeaaa.Pd
set_option linter.unusedSimpArgs false
set_option linter.unusedVariables false
theorem wi_iff {n m : Int} : wi n m = true ↔ 0 ≤ n ∧ n ≤ m := by
  unfold wi
  rw [Bool.and_eq_true, decide_eq_true_eq, decide_eq_true_eq]
theorem good_iff {kd n1 n2 n3 n4 n5 n6 co : Int} {is_ : List S41} : goodF kd n1 n2 n3 n4 n5 n6 co is_ = true ↔ (0 ≤ kd ∧ kd ≤ 255) ∧ (0 ≤ co ∧ co ≤ 1099511627776) ∧ (∀ n ∈ [n1, n2, n3, n4, n5, n6], 0 ≤ n ∧ n ≤ 1099511627776) ∧ ∀ x ∈ is_, 0 ≤ x.f1 ∧ x.f1 ≤ 1099511627776 := by
  unfold goodF
  simp only [Bool.and_eq_true, wi_iff, List.all_eq_true]
  constructor
  · rintro ⟨⟨⟨a, b⟩, c⟩, d⟩
    exact ⟨a, b, c, d⟩
  · rintro ⟨a, b, c, d⟩
    exact ⟨⟨⟨a, b⟩, c⟩, d⟩
theorem eT_len (s : ByteArray) : s.size ≤ (eT s).length := by
  unfold eT encT
  rw [List.length_append, bytesOf_length]
  omega
theorem addB_le2 (n : Int) (s : ByteArray) (m : Int) (h : n ≤ m) : addB n s ≤ m + (s.size : Int) := by
  unfold addB mn
  split
  · split <;> omega
  · omega
theorem sumT_le : ∀ (l : List ByteArray) (n m : Int), n ≤ m → sumT n l ≤ m + ((l.map eT).flatten.length : Int)
  | [], n, m, h => by simpa [sumT] using h
  | s :: t, n, m, h => by
    have h1 := sumT_le t (addB n s) (m + (s.size : Int)) (addB_le2 n s m h)
    have h2 := eT_len s
    show sumT (addB n s) t ≤ _
    simp only [List.map_cons, List.flatten_cons, List.length_append]
    omega
theorem sumP_le : ∀ (l : List S39) (n m : Int), n ≤ m → sumP n l ≤ m + ((l.map eP).flatten.length : Int)
  | [], n, m, h => by simpa [sumP] using h
  | p :: t, n, m, h => by
    have h1 := sumP_le t (addB (addB n p.f0) p.f1) (m + (p.f0.size : Int) + (p.f1.size : Int)) (addB_le2 _ _ _ (addB_le2 n p.f0 m h))
    have h2 := eT_len p.f0
    have h3 := eT_len p.f1
    show sumP (addB (addB n p.f0) p.f1) t ≤ _
    simp only [List.map_cons, List.flatten_cons, List.length_append, eP]
    omega
theorem sumI_le : ∀ (l : List S41) (n m : Int), n ≤ m → sumI n l ≤ m + ((l.map eI).flatten.length : Int)
  | [], n, m, h => by simpa [sumI] using h
  | p :: t, n, m, h => by
    have h1 := sumI_le t (addB n p.f0) (m + (p.f0.size : Int)) (addB_le2 n p.f0 m h)
    have h2 := eT_len p.f0
    show sumI (addB n p.f0) t ≤ _
    simp only [List.map_cons, List.flatten_cons, List.length_append, eI]
    omega
/-- A bulk that is too large is a body that is too long. -/
theorem bulk_le (kd : Int) (ns : List Int) (co : Int) (y : Bool) (s t b : ByteArray) (ps : List S39) (is_ : List S41) : bulkF s t b ps is_ ≤ ((bodyP kd ns co y [s, t, b] ps is_).length : Int) := by
  have h1 := sumT_le [s, t, b] 0 0 (by omega)
  have h2 := sumP_le ps _ _ h1
  have h3 := sumI_le is_ _ _ h2
  unfold bulkF bodyP
  simp only [List.length_append] at h3 ⊢
  omega
/-- What Pack answers. -/
def packP (kd n1 n2 n3 n4 n5 n6 : Int) (s t : ByteArray) (ps : List S39) (is_ : List S41) (co : Int) (y : Bool) (b : ByteArray) : ByteArray × Int :=
  if goodF kd n1 n2 n3 n4 n5 n6 co is_ = true then (if (ps.length : Int) > 256 ∨ (is_.length : Int) > 256 then (⟨#[]⟩, 4) else endB (bodyP kd [n1, n2, n3, n4, n5, n6] co y [s, t, b] ps is_)) else (⟨#[]⟩, 1)
theorem Pack_ev (kd n1 n2 n3 n4 n5 n6 : Int) (s t : ByteArray) (ps : List S39) (is_ : List S41) (co : Int) (y : Bool) (b : ByteArray) (h3 : ∀ x ∈ [s, t, b], x.size ≤ 140737488351232) (h4 : ∀ p ∈ ps, p.f0.size ≤ 140737488351232 ∧ p.f1.size ≤ 140737488351232) (h5 : ∀ x ∈ is_, x.f0.size ≤ 140737488351232)
    (ht : (bodyP kd [n1, n2, n3, n4, n5, n6] co y [s, t, b] ps is_).length < 140737488351232) : Ev (fun k => Ll.letter_Pack.f k kd n1 n2 n3 n4 n5 n6 s t ps is_ co y b) (packP kd n1 n2 n3 n4 n5 n6 s t ps is_ co y b) := by
  unfold Ll.letter_Pack.f packP
  cases hg : goodF kd n1 n2 n3 n4 n5 n6 co is_ with
  | false => simp only [Bool.false_eq_true, if_false]; exact Ev.now _
  | true =>
    simp only [if_true]
    obtain ⟨g1, g2, g3, g4⟩ := good_iff.1 hg
    by_cases hl : (ps.length : Int) > 256 ∨ (is_.length : Int) > 256
    · rw [if_pos hl]
      have hl2 : (ps.length : Int) > 256 ∨ (is_.length : Int) > 256 ∨ bulkF s t b ps is_ > 65536 := by
        rcases hl with h | h
        · exact .inl h
        · exact .inr (.inl h)
      simp only [if_pos hl2]
      exact Ev.now _
    · rw [if_neg hl]
      by_cases hb : bulkF s t b ps is_ > 65536
      · have hl2 : (ps.length : Int) > 256 ∨ (is_.length : Int) > 256 ∨ bulkF s t b ps is_ > 65536 := .inr (.inr hb)
        have hle := bulk_le kd [n1, n2, n3, n4, n5, n6] co y s t b ps is_
        have he : endB (bodyP kd [n1, n2, n3, n4, n5, n6] co y [s, t, b] ps is_) = (⟨#[]⟩, 4) := by unfold endB; rw [if_pos (by omega)]
        rw [he]
        simp only [if_pos hl2]
        exact Ev.now _
      · have hl2 : ¬ ((ps.length : Int) > 256 ∨ (is_.length : Int) > 256 ∨ bulkF s t b ps is_ > 65536) := by
          rintro (h | h | h)
          · exact hl (.inl h)
          · exact hl (.inr h)
          · exact hb h
        simp only [if_neg hl2]
        exact Ev_map endB (bodyB_ev kd _ co y _ ps is_ ⟨g1.1, by omega⟩ (fun n hn => ⟨(g3 n hn).1, by have := (g3 n hn).2; omega⟩) ⟨g2.1, by omega⟩ h3 h4 (fun x hx => ⟨h5 x hx, (g4 x hx).1, by have := (g4 x hx).2; omega⟩) (by have h := fun x => hl (.inl x); omega) (by have h := fun x => hl (.inr x); omega) ht)
end Go.Proofs.Ythghacojbhjeaaa.Pg
namespace Go.Proofs.Ythghacojbhjeaaa.Ph
open Go Go.RowKit Go.Proofs.Ythghacojbhjeaaa.PLt Go.Proofs.YthghacojbhjeaaaW.PrintWords Go.Proofs.YthghacojbhjeaaaW.PrintLast Go.Proofs.Ythghacojbhjeaaa.Pk Go.Proofs.Ythghacojbhjeaaa.PLtEv Go.Proofs.Ythghacojbhjeaaa.Lj Go.Proofs.Ythghacojbhjeaaa.Lk Go.Proofs.Ythghacojbhjeaaa.Ll Go.Proofs.Ythghacojbhjeaaa.Pc Go.Proofs.Ythghacojbhjeaaa.Pg
set_option linter.unusedSimpArgs false
set_option linter.unusedVariables false
theorem endB_long {l : List Int} (h : 65536 < l.length) : endB l = (⟨#[]⟩, 4) := by unfold endB; rw [if_pos (by omega)]
theorem refN_ev (n : Int) (h0 : 0 ≤ n) (h1 : n < 9223372036854775808) : Ev (fun k => shelfmarkref01_Num.f k n) (eN n) := by
  have h := refNum_ev n.toNat (by omega)
  rwa [show ((n.toNat : Nat) : Int) = n by omega] at h
theorem refT_ev (s : ByteArray) (hs : s.size ≤ 140737488351232) : Ev (fun k => shelfmarkref01_Text.f k s) (eT s) := refText_ev s hs
theorem flag_ok (y : Bool) : shelfmarkref13_flag.f y = some (eN (bitI y)) := by
  have h0 : eN 0 = [0] := encN_small (by decide)
  have h1 : eN 1 = [1] := encN_small (by decide)
  cases y
  · show some [0] = some (eN 0)
    rw [h0]
  · show some [1] = some (eN 1)
    rw [h1]
theorem number_ok (n : Int) : shelfmarkref13_number.f n = some (wi n 1099511627776) := by
  unfold shelfmarkref13_number.f wi
  by_cases h : n ≥ 0
  · rw [if_pos h, decide_eq_true (show 0 ≤ n from h), Bool.true_and]
  · rw [if_neg h, decide_eq_false (show ¬ 0 ≤ n from h), Bool.false_and]

theorem l5_ev (kd n1 n2 n3 n4 n5 n6 : Int) (s t : ByteArray) (ps : List S39) (is_ : List S41) (co : Int) (y : Bool) (b : ByteArray) (hI : is_.length < 9223372036854775807) (r : List S41) : ∀ (i : Nat) (x : List Int), is_.drop i = r → i ≤ is_.length → (∀ q ∈ r, q.f0.size ≤ 140737488351232 ∧ 0 ≤ q.f1 ∧ q.f1 < 9223372036854775808) → x.length + (r.map eI).flatten.length < 140737488351232 →
    Ev (fun k => shelfmarkref13_Pack.l5 k x (i : Int) kd n1 n2 n3 n4 n5 n6 s t ps is_ co y b) (endB (x ++ (r.map eI).flatten)) := by
  induction r with
  | nil =>
    intro i x hd hi _ _
    have hi2 := dropd_nil hd
    refine Ev.step (fun _ => shelfmarkref13_Pack.l5.eq_2 ..) ?_
    simp only [if_neg (show ¬ (i : Int) < (is_.length : Int) by omega), List.map_nil, List.flatten_nil, List.append_nil]
    refine Ev.congr (f := fun _ => some (endB x)) (fun k => ?_) (Ev.now _)
    unfold endB
    split <;> rfl
  | cons c r ih =>
    intro i x hd hi hq hl
    obtain ⟨hc0, hlt, hd'⟩ := rdOf_drop (d := z41) hd
    have hc : rd_T41 is_ (i : Int) = c := hc0
    have hqc := hq c (by simp)
    have hlen := eT_len c.f0
    simp only [List.map_cons, List.flatten_cons, List.length_append] at hl
    have he : (eI c).length = (eT c.f0).length + ((eN c.f1).length + (eN (bitI c.f2)).length) := by simp [eI]
    refine Ev.step (fun _ => shelfmarkref13_Pack.l5.eq_2 ..) ?_
    simp only [if_pos (show (i : Int) < (is_.length : Int) by omega), if_pos (show (0 : Int) ≤ (i : Int) by omega), hc]
    by_cases hb : (x.length : Int) > 65536
    · simp only [if_pos hb]
      refine Ev.step (fun _ => shelfmarkref13_Pack.j9.eq_2 ..) ?_
      simp only [if_true]
      rw [endB_long (by rw [List.length_append]; omega)]
      exact Ev.now _
    · simp only [if_neg hb]
      refine Ev.step (fun _ => shelfmarkref13_Pack.j9.eq_2 ..) ?_
      by_cases hs : (c.f0.size : Int) > 65536
      · simp only [decide_eq_true hs, if_true]
        rw [endB_long (by simp only [List.map_cons, List.flatten_cons, List.length_append]; omega)]
        exact Ev.now _
      · simp only [decide_eq_false hs, Bool.false_eq_true, if_false, if_pos (show (i : Int) < (is_.length : Int) by omega), if_pos (show (0 : Int) ≤ (i : Int) by omega), hc]
        refine Ev.bind (refT_ev c.f0 hqc.1) ?_
        refine Ev.congr (fun k => by rw [if_pos (show x.length + (eT c.f0).length < 140737488355328 by omega), Option.bind_some]) ?_
        refine Ev.bind (refN_ev c.f1 hqc.2.1 hqc.2.2) ?_
        refine Ev.congr (fun k => by rw [if_pos (show (x ++ eT c.f0).length + (eN c.f1).length < 140737488355328 by rw [List.length_append]; omega), Option.bind_some, flag_ok, Option.bind_some, if_pos (show (x ++ eT c.f0 ++ eN c.f1).length + (eN (bitI c.f2)).length < 140737488355328 by rw [List.length_append, List.length_append]; omega), w64 (x := (i : Int) + 1) (by omega) (by omega), show ((i : Int) + 1) = ((i + 1 : Nat) : Int) by omega]) ?_
        have e : x ++ (List.map eI (c :: r)).flatten = x ++ eT c.f0 ++ eN c.f1 ++ eN (bitI c.f2) ++ (r.map eI).flatten := by simp only [List.map_cons, List.flatten_cons, eI, List.append_assoc]
        rw [e]
        exact ih (i + 1) _ hd' (by omega) (fun q h => hq q (List.mem_cons_of_mem _ h)) (by simp only [List.length_append]; omega)

def tail5 (is_ : List S41) : List Int := eN (is_.length : Int) ++ (is_.map eI).flatten
theorem l4_ev (kd n1 n2 n3 n4 n5 n6 : Int) (s t : ByteArray) (ps : List S39) (is_ : List S41) (co : Int) (y : Bool) (b : ByteArray) (hP : ps.length < 9223372036854775807) (hI : is_.length < 9223372036854775807) (hq5 : ∀ q ∈ is_, q.f0.size ≤ 140737488351232 ∧ 0 ≤ q.f1 ∧ q.f1 < 9223372036854775808) (r : List S39) : ∀ (i : Nat) (x : List Int), ps.drop i = r → i ≤ ps.length → (∀ q ∈ r, q.f0.size ≤ 140737488351232 ∧ q.f1.size ≤ 140737488351232) → x.length + ((r.map eP).flatten ++ tail5 is_).length < 140737488351232 →
    Ev (fun k => shelfmarkref13_Pack.l4 k x (i : Int) kd n1 n2 n3 n4 n5 n6 s t ps is_ co y b) (endB (x ++ ((r.map eP).flatten ++ tail5 is_))) := by
  induction r with
  | nil =>
    intro i x hd hi _ hl
    have hi2 := dropd_nil hd
    simp only [List.map_nil, List.flatten_nil, List.nil_append] at hl ⊢
    have hl2 : (tail5 is_).length = (eN (is_.length : Int)).length + (is_.map eI).flatten.length := by simp [tail5]
    refine Ev.step (fun _ => shelfmarkref13_Pack.l4.eq_2 ..) ?_
    simp only [if_neg (show ¬ (i : Int) < (ps.length : Int) by omega)]
    refine Ev.bind (refN_ev (is_.length : Int) (by omega) (by omega)) ?_
    refine Ev.congr (fun k => by rw [if_pos (show x.length + (eN (is_.length : Int)).length < 140737488355328 by omega)]) ?_
    have := l5_ev kd n1 n2 n3 n4 n5 n6 s t ps is_ co y b hI is_ 0 (x ++ eN (is_.length : Int)) (by simp) (by omega) hq5 (by rw [List.length_append]; omega)
    unfold tail5
    rwa [List.append_assoc] at this
  | cons c r ih =>
    intro i x hd hi hq hl
    obtain ⟨hc0, hlt, hd'⟩ := rdOf_drop (d := z39) hd
    have hc : rd_T39 ps (i : Int) = c := hc0
    have hqc := hq c (by simp)
    have hlen := eT_len c.f0
    have hlen1 := eT_len c.f1
    simp only [List.map_cons, List.flatten_cons, List.length_append] at hl
    have he : (eP c).length = (eT c.f0).length + (eT c.f1).length := by simp [eP]
    refine Ev.step (fun _ => shelfmarkref13_Pack.l4.eq_2 ..) ?_
    simp only [if_pos (show (i : Int) < (ps.length : Int) by omega), if_pos (show (0 : Int) ≤ (i : Int) by omega), hc]
    by_cases hb : (x.length : Int) > 65536
    · simp only [if_pos hb]
      refine Ev.step (fun _ => shelfmarkref13_Pack.j7.eq_2 ..) ?_
      simp only [if_true]
      rw [endB_long (by rw [List.length_append]; omega)]
      exact Ev.now _
    · simp only [if_neg hb]
      by_cases hs : (c.f0.size : Int) > 65536
      · simp only [if_pos hs]
        refine Ev.step (fun _ => shelfmarkref13_Pack.j7.eq_2 ..) ?_
        simp only [if_true]
        rw [endB_long (by simp only [List.map_cons, List.flatten_cons, List.length_append]; omega)]
        exact Ev.now _
      · simp only [if_neg hs]
        refine Ev.step (fun _ => shelfmarkref13_Pack.j7.eq_2 ..) ?_
        by_cases hs1 : (c.f1.size : Int) > 65536
        · simp only [decide_eq_true hs1, if_true]
          rw [endB_long (by simp only [List.map_cons, List.flatten_cons, List.length_append]; omega)]
          exact Ev.now _
        · simp only [decide_eq_false hs1, Bool.false_eq_true, if_false, if_pos (show (i : Int) < (ps.length : Int) by omega), if_pos (show (0 : Int) ≤ (i : Int) by omega), hc]
          refine Ev.bind (refT_ev c.f0 hqc.1) ?_
          refine Ev.congr (fun k => by rw [if_pos (show x.length + (eT c.f0).length < 140737488355328 by omega), Option.bind_some]) ?_
          refine Ev.bind (refT_ev c.f1 hqc.2) ?_
          refine Ev.congr (fun k => by rw [if_pos (show (x ++ eT c.f0).length + (eT c.f1).length < 140737488355328 by rw [List.length_append]; omega), w64 (x := (i : Int) + 1) (by omega) (by omega), show ((i : Int) + 1) = ((i + 1 : Nat) : Int) by omega]) ?_
          have e : x ++ ((List.map eP (c :: r)).flatten ++ tail5 is_) = x ++ eT c.f0 ++ eT c.f1 ++ ((r.map eP).flatten ++ tail5 is_) := by simp only [List.map_cons, List.flatten_cons, eP, List.append_assoc]
          rw [e]
          exact ih (i + 1) _ hd' (by omega) (fun q h => hq q (List.mem_cons_of_mem _ h)) (by simp only [List.length_append]; omega)
def tail4 (ps : List S39) (is_ : List S41) : List Int := eN (ps.length : Int) ++ ((ps.map eP).flatten ++ tail5 is_)
theorem l3_ev (kd n1 n2 n3 n4 n5 n6 : Int) (s t : ByteArray) (ps : List S39) (is_ : List S41) (co : Int) (y : Bool) (b : ByteArray) (hP : ps.length < 9223372036854775807) (hI : is_.length < 9223372036854775807) (hq5 : ∀ q ∈ is_, q.f0.size ≤ 140737488351232 ∧ 0 ≤ q.f1 ∧ q.f1 < 9223372036854775808) (hq4 : ∀ q ∈ ps, q.f0.size ≤ 140737488351232 ∧ q.f1.size ≤ 140737488351232) (ts : List ByteArray) (hT : ts.length < 9223372036854775807) (r : List ByteArray) : ∀ (i : Nat) (x : List Int), ts.drop i = r → i ≤ ts.length → (∀ q ∈ r, q.size ≤ 140737488351232) → x.length + ((r.map eT).flatten ++ tail4 ps is_).length < 140737488351232 →
    Ev (fun k => shelfmarkref13_Pack.l3 k x ts (i : Int) kd n1 n2 n3 n4 n5 n6 s t ps is_ co y b) (endB (x ++ ((r.map eT).flatten ++ tail4 ps is_))) := by
  induction r with
  | nil =>
    intro i x hd hi _ hl
    have hi2 := dropd_nil hd
    simp only [List.map_nil, List.flatten_nil, List.nil_append] at hl ⊢
    have hl2 : (tail4 ps is_).length = (eN (ps.length : Int)).length + ((ps.map eP).flatten ++ tail5 is_).length := by unfold tail4; rw [List.length_append]
    refine Ev.step (fun _ => shelfmarkref13_Pack.l3.eq_2 ..) ?_
    simp only [if_neg (show ¬ (i : Int) < (ts.length : Int) by omega)]
    refine Ev.bind (refN_ev (ps.length : Int) (by omega) (by omega)) ?_
    refine Ev.congr (fun k => by rw [if_pos (show x.length + (eN (ps.length : Int)).length < 140737488355328 by omega)]) ?_
    have := l4_ev kd n1 n2 n3 n4 n5 n6 s t ps is_ co y b hP hI hq5 ps 0 (x ++ eN (ps.length : Int)) (by simp) (by omega) hq4 (by rw [show (x ++ eN (ps.length : Int)).length = x.length + (eN (ps.length : Int)).length from List.length_append]; omega)
    unfold tail4
    rwa [List.append_assoc] at this
  | cons c r ih =>
    intro i x hd hi hq hl
    obtain ⟨hc, hlt, hd'⟩ := rdOf_drop (d := ByteArray.empty) hd
    have hqc := hq c (by simp)
    have hlen := eT_len c
    simp only [List.map_cons, List.flatten_cons, List.length_append] at hl
    refine Ev.step (fun _ => shelfmarkref13_Pack.l3.eq_2 ..) ?_
    simp only [if_pos (show (i : Int) < (ts.length : Int) by omega), if_pos (show (0 : Int) ≤ (i : Int) by omega), hc]
    by_cases hs : (c.size : Int) > 65536
    · simp only [if_pos hs]
      rw [endB_long (by simp only [List.map_cons, List.flatten_cons, List.length_append]; omega)]
      exact Ev.now _
    · simp only [if_neg hs]
      refine Ev.bind (refT_ev c hqc) ?_
      refine Ev.congr (fun k => by rw [if_pos (show x.length + (eT c).length < 140737488355328 by omega), w64 (x := (i : Int) + 1) (by omega) (by omega), show ((i : Int) + 1) = ((i + 1 : Nat) : Int) by omega]) ?_
      have e : x ++ ((List.map eT (c :: r)).flatten ++ tail4 ps is_) = x ++ eT c ++ ((r.map eT).flatten ++ tail4 ps is_) := by simp only [List.map_cons, List.flatten_cons, List.append_assoc]
      rw [e]
      exact ih (i + 1) _ hd' (by omega) (fun q h => hq q (List.mem_cons_of_mem _ h)) (by simp only [List.length_append]; omega)
def tail3 (s t b : ByteArray) (y : Bool) (ps : List S39) (is_ : List S41) : List Int := eN (bitI y) ++ (([s, t, b].map eT).flatten ++ tail4 ps is_)
theorem l2_ev (kd n1 n2 n3 n4 n5 n6 : Int) (s t : ByteArray) (ps : List S39) (is_ : List S41) (co : Int) (y : Bool) (b : ByteArray) (hP : ps.length < 9223372036854775807) (hI : is_.length < 9223372036854775807) (hq5 : ∀ q ∈ is_, q.f0.size ≤ 140737488351232 ∧ 0 ≤ q.f1 ∧ q.f1 < 9223372036854775808) (hq4 : ∀ q ∈ ps, q.f0.size ≤ 140737488351232 ∧ q.f1.size ≤ 140737488351232) (hq3 : ∀ q ∈ [s, t, b], q.size ≤ 140737488351232) (ns : List Int) (hT : ns.length < 9223372036854775807) (r : List Int) : ∀ (i : Nat) (x : List Int), ns.drop i = r → i ≤ ns.length → (∀ q ∈ r, 0 ≤ q ∧ q < 9223372036854775808) → x.length + ((r.map eN).flatten ++ tail3 s t b y ps is_).length < 140737488351232 →
    Ev (fun k => shelfmarkref13_Pack.l2 k ns x (i : Int) kd n1 n2 n3 n4 n5 n6 s t ps is_ co y b) (endB (x ++ ((r.map eN).flatten ++ tail3 s t b y ps is_))) := by
  induction r with
  | nil =>
    intro i x hd hi _ hl
    have hi2 := dropd_nil hd
    simp only [List.map_nil, List.flatten_nil, List.nil_append] at hl ⊢
    have hl2 : (tail3 s t b y ps is_).length = (eN (bitI y)).length + (([s, t, b].map eT).flatten ++ tail4 ps is_).length := by unfold tail3; rw [List.length_append]
    refine Ev.step (fun _ => shelfmarkref13_Pack.l2.eq_2 ..) ?_
    simp only [if_neg (show ¬ (i : Int) < (ns.length : Int) by omega)]
    refine Ev.congr (fun k => by rw [flag_ok, Option.bind_some, if_pos (show x.length + (eN (bitI y)).length < 140737488355328 by omega)]) ?_
    have := l3_ev kd n1 n2 n3 n4 n5 n6 s t ps is_ co y b hP hI hq5 hq4 [s, t, b] (by simp) [s, t, b] 0 (x ++ eN (bitI y)) (by simp) (by omega) hq3 (by rw [show (x ++ eN (bitI y)).length = x.length + (eN (bitI y)).length from List.length_append]; omega)
    unfold tail3
    rwa [List.append_assoc] at this
  | cons c r ih =>
    intro i x hd hi hq hl
    obtain ⟨hc, hlt, hd'⟩ := rd_drop hd
    have hqc := hq c (by simp)
    simp only [List.map_cons, List.flatten_cons, List.length_append] at hl
    refine Ev.step (fun _ => shelfmarkref13_Pack.l2.eq_2 ..) ?_
    simp only [if_pos (show (i : Int) < (ns.length : Int) by omega), if_pos (show (0 : Int) ≤ (i : Int) by omega), hc]
    refine Ev.bind (refN_ev c hqc.1 hqc.2) ?_
    refine Ev.congr (fun k => by rw [if_pos (show x.length + (eN c).length < 140737488355328 by omega), w64 (x := (i : Int) + 1) (by omega) (by omega), show ((i : Int) + 1) = ((i + 1 : Nat) : Int) by omega]) ?_
    have e : x ++ ((List.map eN (c :: r)).flatten ++ tail3 s t b y ps is_) = x ++ eN c ++ ((r.map eN).flatten ++ tail3 s t b y ps is_) := by simp only [List.map_cons, List.flatten_cons, List.append_assoc]
    rw [e]
    exact ih (i + 1) _ hd' (by omega) (fun q h => hq q (List.mem_cons_of_mem _ h)) (by simp only [List.length_append]; omega)
theorem l1_ev (kd n1 n2 n3 n4 n5 n6 : Int) (s t : ByteArray) (ps : List S39) (is_ : List S41) (co : Int) (y : Bool) (b : ByteArray) (ns : List Int) (R : ByteArray × Int) (hI : is_.length < 9223372036854775807) (hR : is_.all (fun x => wi x.f1 1099511627776) = true → Ev (fun k => shelfmarkref13_Pack.j3 k ns (decide ((ps.length : Int) > 256 ∨ (is_.length : Int) > 256)) kd n1 n2 n3 n4 n5 n6 s t ps is_ co y b) R) (r : List S41) : ∀ (i : Nat), is_.drop i = r → i ≤ is_.length → (is_.all (fun x => wi x.f1 1099511627776) = r.all (fun x => wi x.f1 1099511627776)) →
    Ev (fun k => shelfmarkref13_Pack.l1 k ns (i : Int) kd n1 n2 n3 n4 n5 n6 s t ps is_ co y b) (if is_.all (fun x => wi x.f1 1099511627776) = true then R else (⟨#[]⟩, 1)) := by
  induction r with
  | nil =>
    intro i hd hi ha
    have hi2 := dropd_nil hd
    have ha2 : is_.all (fun x => wi x.f1 1099511627776) = true := by rw [ha]; rfl
    rw [if_pos ha2]
    refine Ev.step (fun _ => shelfmarkref13_Pack.l1.eq_2 ..) ?_
    simp only [if_neg (show ¬ (i : Int) < (is_.length : Int) by omega)]
    have h := hR ha2
    by_cases hp : (ps.length : Int) > 256
    · simp only [if_pos hp]
      rwa [decide_eq_true (.inl hp)] at h
    · simp only [if_neg hp]
      have e : decide ((ps.length : Int) > 256 ∨ (is_.length : Int) > 256) = decide ((is_.length : Int) > 256) := by simp [hp]
      rwa [e] at h
  | cons c r ih =>
    intro i hd hi ha
    obtain ⟨hc0, hlt, hd'⟩ := rdOf_drop (d := z41) hd
    have hc : rd_T41 is_ (i : Int) = c := hc0
    refine Ev.step (fun _ => shelfmarkref13_Pack.l1.eq_2 ..) ?_
    simp only [if_pos (show (i : Int) < (is_.length : Int) by omega), if_pos (show (0 : Int) ≤ (i : Int) by omega), hc]
    refine Ev.congr (fun k => by rw [number_ok, Option.bind_some]) ?_
    cases hw : wi c.f1 1099511627776 with
    | true =>
      simp only [if_true]
      rw [w64 (x := (i : Int) + 1) (by omega) (by omega), show ((i : Int) + 1) = ((i + 1 : Nat) : Int) by omega]
      exact ih (i + 1) hd' (by omega) (by rw [ha, List.all_cons, hw, Bool.true_and])
    | false =>
      have e : is_.all (fun x => wi x.f1 1099511627776) = false := by rw [ha, List.all_cons, hw, Bool.false_and]
      rw [e]
      exact Ev.now _
theorem l0_ev (kd n1 n2 n3 n4 n5 n6 : Int) (s t : ByteArray) (ps : List S39) (is_ : List S41) (co : Int) (y : Bool) (b : ByteArray) (ns : List Int) (R : ByteArray × Int) (hI : ns.length < 9223372036854775807) (hR : ns.all (fun x => wi x 1099511627776) = true → Ev (fun k => shelfmarkref13_Pack.l1 k ns 0 kd n1 n2 n3 n4 n5 n6 s t ps is_ co y b) R) (r : List Int) : ∀ (i : Nat), ns.drop i = r → i ≤ ns.length → (ns.all (fun x => wi x 1099511627776) = r.all (fun x => wi x 1099511627776)) →
    Ev (fun k => shelfmarkref13_Pack.l0 k ns (i : Int) kd n1 n2 n3 n4 n5 n6 s t ps is_ co y b) (if ns.all (fun x => wi x 1099511627776) = true then R else (⟨#[]⟩, 1)) := by
  induction r with
  | nil =>
    intro i hd hi ha
    have hi2 := dropd_nil hd
    have ha2 : ns.all (fun x => wi x 1099511627776) = true := by rw [ha]; rfl
    rw [if_pos ha2]
    refine Ev.step (fun _ => shelfmarkref13_Pack.l0.eq_2 ..) ?_
    simp only [if_neg (show ¬ (i : Int) < (ns.length : Int) by omega)]
    exact hR ha2
  | cons c r ih =>
    intro i hd hi ha
    obtain ⟨hc, hlt, hd'⟩ := rd_drop hd
    refine Ev.step (fun _ => shelfmarkref13_Pack.l0.eq_2 ..) ?_
    simp only [if_pos (show (i : Int) < (ns.length : Int) by omega), if_pos (show (0 : Int) ≤ (i : Int) by omega), hc]
    refine Ev.congr (fun k => by rw [number_ok, Option.bind_some]) ?_
    cases hw : wi c 1099511627776 with
    | true =>
      simp only [if_true]
      rw [w64 (x := (i : Int) + 1) (by omega) (by omega), show ((i : Int) + 1) = ((i + 1 : Nat) : Int) by omega]
      exact ih (i + 1) hd' (by omega) (by rw [ha, List.all_cons, hw, Bool.true_and])
    | false =>
      have e : ns.all (fun x => wi x 1099511627776) = false := by rw [ha, List.all_cons, hw, Bool.false_and]
      rw [e]
      exact Ev.now _
/-- The document's Pack, as far as the numbers. -/
theorem refPack_top (kd n1 n2 n3 n4 n5 n6 : Int) (s t : ByteArray) (ps : List S39) (is_ : List S41) (co : Int) (y : Bool) (b : ByteArray) (hP : ps.length < 9223372036854775807) (hI : is_.length < 9223372036854775807)
    (hend : goodF kd n1 n2 n3 n4 n5 n6 co is_ = true → ps.length ≤ 256 → is_.length ≤ 256 → Ev (fun k => shelfmarkref13_Pack.l2 k [n1, n2, n3, n4, n5, n6, co] (eN kd) 0 kd n1 n2 n3 n4 n5 n6 s t ps is_ co y b) (endB (bodyP kd [n1, n2, n3, n4, n5, n6] co y [s, t, b] ps is_))) : Ev (fun k => shelfmarkref13_Pack.f k kd n1 n2 n3 n4 n5 n6 s t ps is_ co y b) (packP kd n1 n2 n3 n4 n5 n6 s t ps is_ co y b) := by
  have hk : Ev (fun k => shelfmarkref13_Pack.j0 k (!wi kd 255) kd n1 n2 n3 n4 n5 n6 s t ps is_ co y b) (packP kd n1 n2 n3 n4 n5 n6 s t ps is_ co y b) := by
    refine Ev.step (fun _ => shelfmarkref13_Pack.j0.eq_2 ..) ?_
    cases hkd : wi kd 255 with
    | false =>
      have hg : goodF kd n1 n2 n3 n4 n5 n6 co is_ = false := by unfold goodF; simp [hkd]
      unfold packP
      rw [hg]
      exact Ev.now _
    | true =>
      simp only [Bool.not_true, Bool.false_eq_true, if_false]
      refine Ev.congr (fun k => by unfold shelfmarkref13_numbers.f; rw [Option.bind_some]) ?_
      have hgood : goodF kd n1 n2 n3 n4 n5 n6 co is_ = ([n1, n2, n3, n4, n5, n6, co].all (fun x => wi x 1099511627776) && is_.all (fun x => wi x.f1 1099511627776)) := by
        rw [Bool.eq_iff_iff, good_iff, Bool.and_eq_true, List.all_eq_true, List.all_eq_true]
        have hkd2 := wi_iff.1 hkd
        constructor
        · rintro ⟨a, c, d, e⟩
          refine ⟨fun x hx => wi_iff.2 ?_, fun x hx => wi_iff.2 (e x hx)⟩
          rcases List.mem_append.1 (show x ∈ [n1, n2, n3, n4, n5, n6] ++ [co] from hx) with h | h
          · exact d x h
          · rw [List.mem_singleton.1 h]; exact c
        · rintro ⟨d, e⟩
          exact ⟨hkd2, wi_iff.1 (d co (by simp)), fun n hn => wi_iff.1 (d n (by
            show n ∈ [n1, n2, n3, n4, n5, n6] ++ [co]
            exact List.mem_append_left _ hn)), fun x hx => wi_iff.1 (e x hx)⟩
      let R1 : ByteArray × Int := if (ps.length : Int) > 256 ∨ (is_.length : Int) > 256 then (⟨#[]⟩, 4) else endB (bodyP kd [n1, n2, n3, n4, n5, n6] co y [s, t, b] ps is_)
      have e : packP kd n1 n2 n3 n4 n5 n6 s t ps is_ co y b = (if [n1, n2, n3, n4, n5, n6, co].all (fun x => wi x 1099511627776) = true then (if is_.all (fun x => wi x.f1 1099511627776) = true then R1 else (⟨#[]⟩, 1)) else (⟨#[]⟩, 1)) := by
        unfold packP
        rw [hgood]
        cases [n1, n2, n3, n4, n5, n6, co].all (fun x => wi x 1099511627776) <;> cases is_.all (fun x => wi x.f1 1099511627776) <;> rfl
      rw [e]
      refine l0_ev kd n1 n2 n3 n4 n5 n6 s t ps is_ co y b [n1, n2, n3, n4, n5, n6, co] _ (by simp) (fun hn => l1_ev kd n1 n2 n3 n4 n5 n6 s t ps is_ co y b _ R1 hI (fun hi => ?_) is_ 0 (by simp) (by omega) rfl) [n1, n2, n3, n4, n5, n6, co] 0 rfl (by omega) rfl
      refine Ev.step (fun _ => shelfmarkref13_Pack.j3.eq_2 ..) ?_
      by_cases hl : (ps.length : Int) > 256 ∨ (is_.length : Int) > 256
      · have eR : R1 = (⟨#[]⟩, 4) := if_pos hl
        rw [eR]
        simp only [decide_eq_true hl, if_true]
        exact Ev.now _
      · have eR : R1 = endB (bodyP kd [n1, n2, n3, n4, n5, n6] co y [s, t, b] ps is_) := if_neg hl
        rw [eR]
        simp only [decide_eq_false hl, Bool.false_eq_true, if_false]
        have hkd2 := wi_iff.1 hkd
        refine Ev.bind (refN_ev kd hkd2.1 (by omega)) ?_
        exact hend (by rw [hgood, Bool.and_eq_true]; exact ⟨hn, hi⟩) (by have h := fun x => hl (.inl x); omega) (by have h := fun x => hl (.inr x); omega)
  unfold shelfmarkref13_Pack.f
  by_cases h : kd < 0
  · have e : (!wi kd 255) = true := by
      have : wi kd 255 = false := by
        rw [Bool.eq_false_iff]
        intro h2
        have := (wi_iff.1 h2).1
        omega
      rw [this]; rfl
    rw [e] at hk
    simp only [if_pos h]
    exact hk
  · have e : (!wi kd 255) = decide (kd > 255) := by
      unfold wi
      rw [decide_eq_true (show 0 ≤ kd by omega), Bool.true_and, ← decide_not]
      exact decide_eq_decide.2 (by omega)
    rw [e] at hk
    simp only [if_neg h]
    exact hk
theorem bodyP_tails (kd n1 n2 n3 n4 n5 n6 : Int) (s t : ByteArray) (ps : List S39) (is_ : List S41) (co : Int) (y : Bool) (b : ByteArray) : bodyP kd [n1, n2, n3, n4, n5, n6] co y [s, t, b] ps is_ = eN kd ++ (([n1, n2, n3, n4, n5, n6, co].map eN).flatten ++ tail3 s t b y ps is_) := by
  simp only [bodyP, tail3, tail4, tail5, List.map_cons, List.map_nil, List.flatten_cons, List.flatten_nil, List.append_assoc, List.append_nil, List.nil_append]
/-- The document's Pack of a letter that is light. -/
theorem refPack_ev (kd n1 n2 n3 n4 n5 n6 : Int) (s t : ByteArray) (ps : List S39) (is_ : List S41) (co : Int) (y : Bool) (b : ByteArray) (hP : ps.length < 9223372036854775807) (hI : is_.length < 9223372036854775807) (h3 : ∀ x ∈ [s, t, b], x.size ≤ 140737488351232) (h4 : ∀ p ∈ ps, p.f0.size ≤ 140737488351232 ∧ p.f1.size ≤ 140737488351232) (h5 : ∀ x ∈ is_, x.f0.size ≤ 140737488351232)
    (ht : goodF kd n1 n2 n3 n4 n5 n6 co is_ = true → ps.length ≤ 256 → is_.length ≤ 256 → (bodyP kd [n1, n2, n3, n4, n5, n6] co y [s, t, b] ps is_).length < 140737488351232) : Ev (fun k => shelfmarkref13_Pack.f k kd n1 n2 n3 n4 n5 n6 s t ps is_ co y b) (packP kd n1 n2 n3 n4 n5 n6 s t ps is_ co y b) := by
  refine refPack_top kd n1 n2 n3 n4 n5 n6 s t ps is_ co y b hP hI (fun hg hp hi => ?_)
  obtain ⟨g1, g2, g3, g4⟩ := good_iff.1 hg
  have ht2 := ht hg hp hi
  rw [bodyP_tails] at ht2 ⊢
  have hn2 : ∀ q ∈ [n1, n2, n3, n4, n5, n6, co], 0 ≤ q ∧ q < 9223372036854775808 := by
    intro q hq
    rcases List.mem_append.1 (show q ∈ [n1, n2, n3, n4, n5, n6] ++ [co] from hq) with h | h
    · have := g3 q h
      omega
    · rw [List.mem_singleton.1 h]
      omega
  have hi2 : ∀ q ∈ is_, q.f0.size ≤ 140737488351232 ∧ 0 ≤ q.f1 ∧ q.f1 < 9223372036854775808 := by
    intro q hq
    have := g4 q hq
    exact ⟨h5 q hq, this.1, by omega⟩
  exact l2_ev kd n1 n2 n3 n4 n5 n6 s t ps is_ co y b hP hI hi2 h4 h3 _ (by simp) [n1, n2, n3, n4, n5, n6, co] 0 (eN kd) rfl (by omega) hn2 (by rw [List.length_append] at ht2; omega)
theorem l3_big (kd n1 n2 n3 n4 n5 n6 : Int) (s t : ByteArray) (ps : List S39) (is_ : List S41) (co : Int) (y : Bool) (b : ByteArray) (ts : List ByteArray) (hT : ts.length < 9223372036854775807) (r : List ByteArray) : ∀ (i : Nat) (x : List Int), ts.drop i = r → i ≤ ts.length → (∃ q ∈ r, 65536 < q.size) → x.length + 70000 * r.length < 140737488351232 →
    Ev (fun k => shelfmarkref13_Pack.l3 k x ts (i : Int) kd n1 n2 n3 n4 n5 n6 s t ps is_ co y b) (⟨#[]⟩, 4) := by
  induction r with
  | nil =>
    rintro i x hd hi ⟨q, hq, _⟩ hl
    cases hq
  | cons c r ih =>
    intro i x hd hi hq hl
    obtain ⟨hc, hlt, hd'⟩ := rdOf_drop (d := ByteArray.empty) hd
    rw [List.length_cons] at hl
    refine Ev.step (fun _ => shelfmarkref13_Pack.l3.eq_2 ..) ?_
    simp only [if_pos (show (i : Int) < (ts.length : Int) by omega), if_pos (show (0 : Int) ≤ (i : Int) by omega), hc]
    by_cases hs : (c.size : Int) > 65536
    · simp only [if_pos hs]
      exact Ev.now _
    · simp only [if_neg hs]
      have hlen : (eT c).length ≤ 9 + 65536 := by
        unfold eT encT
        rw [List.length_append, bytesOf_length]
        have := encN_le (n := c.size) (by omega)
        omega
      refine Ev.bind (refT_ev c (by omega)) ?_
      refine Ev.congr (fun k => by rw [if_pos (show x.length + (eT c).length < 140737488355328 by omega), w64 (x := (i : Int) + 1) (by omega) (by omega), show ((i : Int) + 1) = ((i + 1 : Nat) : Int) by omega]) ?_
      refine ih (i + 1) _ hd' (by omega) ?_ (by rw [List.length_append]; omega)
      obtain ⟨q, hq, hb⟩ := hq
      rcases List.mem_cons.1 hq with rfl | h
      · omega
      · exact ⟨q, h, hb⟩
theorem l2_big (kd n1 n2 n3 n4 n5 n6 : Int) (s t : ByteArray) (ps : List S39) (is_ : List S41) (co : Int) (y : Bool) (b : ByteArray) (ns : List Int) (hT : ns.length < 9223372036854775807) (hbig : ∃ q ∈ [s, t, b], 65536 < q.size) (r : List Int) : ∀ (i : Nat) (x : List Int), ns.drop i = r → i ≤ ns.length → (∀ q ∈ r, 0 ≤ q ∧ q < 9223372036854775808) → x.length + 9 * r.length + 1000000 < 140737488351232 →
    Ev (fun k => shelfmarkref13_Pack.l2 k ns x (i : Int) kd n1 n2 n3 n4 n5 n6 s t ps is_ co y b) (⟨#[]⟩, 4) := by
  induction r with
  | nil =>
    intro i x hd hi _ hl
    have hi2 := dropd_nil hd
    have hb := encN_le (n := (bitI y).toNat) (by have := bitI_ok y; omega)
    have hb2 : (eN (bitI y)).length ≤ 9 := hb
    refine Ev.step (fun _ => shelfmarkref13_Pack.l2.eq_2 ..) ?_
    simp only [if_neg (show ¬ (i : Int) < (ns.length : Int) by omega)]
    refine Ev.congr (fun k => by rw [flag_ok, Option.bind_some, if_pos (show x.length + (eN (bitI y)).length < 140737488355328 by omega)]) ?_
    exact l3_big kd n1 n2 n3 n4 n5 n6 s t ps is_ co y b [s, t, b] (by simp) [s, t, b] 0 (x ++ eN (bitI y)) (by simp) (by omega) hbig (by rw [List.length_append]; simp only [List.length_cons, List.length_nil] at *; omega)
  | cons c r ih =>
    intro i x hd hi hq hl
    obtain ⟨hc, hlt, hd'⟩ := rd_drop hd
    have hqc := hq c (by simp)
    rw [List.length_cons] at hl
    have hb2 : (eN c).length ≤ 9 := encN_le (n := c.toNat) (by omega)
    refine Ev.step (fun _ => shelfmarkref13_Pack.l2.eq_2 ..) ?_
    simp only [if_pos (show (i : Int) < (ns.length : Int) by omega), if_pos (show (0 : Int) ≤ (i : Int) by omega), hc]
    refine Ev.bind (refN_ev c hqc.1 hqc.2) ?_
    refine Ev.congr (fun k => by rw [if_pos (show x.length + (eN c).length < 140737488355328 by omega), w64 (x := (i : Int) + 1) (by omega) (by omega), show ((i : Int) + 1) = ((i + 1 : Nat) : Int) by omega]) ?_
    exact ih (i + 1) _ hd' (by omega) (fun q h => hq q (List.mem_cons_of_mem _ h)) (by rw [List.length_append]; omega)
theorem flat_big {l : List ByteArray} (h : ∃ q ∈ l, 65536 < q.size) : 65536 < ((l.map eT).flatten).length := by
  obtain ⟨q, hq, hb⟩ := h
  induction l with
  | nil => cases hq
  | cons c l ih =>
    simp only [List.map_cons, List.flatten_cons, List.length_append]
    rcases List.mem_cons.1 hq with rfl | h
    · have := eT_len q
      omega
    · have := ih h
      omega
/-- The document's Pack where a text is too large. -/
theorem refPack_big (kd n1 n2 n3 n4 n5 n6 : Int) (s t : ByteArray) (ps : List S39) (is_ : List S41) (co : Int) (y : Bool) (b : ByteArray) (hP : ps.length < 9223372036854775807) (hI : is_.length < 9223372036854775807) (hbig : ∃ q ∈ [s, t, b], 65536 < q.size) : Ev (fun k => shelfmarkref13_Pack.f k kd n1 n2 n3 n4 n5 n6 s t ps is_ co y b) (packP kd n1 n2 n3 n4 n5 n6 s t ps is_ co y b) := by
  refine refPack_top kd n1 n2 n3 n4 n5 n6 s t ps is_ co y b hP hI (fun hg hp hi => ?_)
  obtain ⟨g1, g2, g3, g4⟩ := good_iff.1 hg
  have hn2 : ∀ q ∈ [n1, n2, n3, n4, n5, n6, co], 0 ≤ q ∧ q < 9223372036854775808 := by
    intro q hq
    rcases List.mem_append.1 (show q ∈ [n1, n2, n3, n4, n5, n6] ++ [co] from hq) with h | h
    · have := g3 q h
      omega
    · rw [List.mem_singleton.1 h]
      omega
  have hk : (eN kd).length ≤ 9 := encN_le (n := kd.toNat) (by omega)
  have hfl := flat_big hbig
  rw [endB_long (by unfold bodyP; simp only [List.length_append]; omega)]
  exact l2_big kd n1 n2 n3 n4 n5 n6 s t ps is_ co y b [n1, n2, n3, n4, n5, n6, co] (by simp) hbig [n1, n2, n3, n4, n5, n6, co] 0 (eN kd) rfl (by omega) hn2 (by simp only [List.length_cons, List.length_nil]; omega)
end Go.Proofs.Ythghacojbhjeaaa.Ph
namespace Go.Proofs.Ythghacojbhjeaaa.Pi
open Go Go.RowKit Go.Proofs.Ythghacojbhjeaaa.PLt Go.Proofs.YthghacojbhjeaaaW.PrintWords Go.Proofs.YthghacojbhjeaaaW.PrintLast Go.Proofs.YthghacojbhjeaaaW.PrintMore Go.Proofs.Ythghacojbhjeaaa.Pk Go.Proofs.Ythghacojbhjeaaa.PLtEv Go.Proofs.Ythghacojbhjeaaa.Lh Go.Proofs.Ythghacojbhjeaaa.Lj Go.Proofs.Ythghacojbhjeaaa.Lk Go.Proofs.Ythghacojbhjeaaa.Ll Go.Proofs.Ythghacojbhjeaaa.Pc Go.Proofs.Ythghacojbhjeaaa.Pg Go.Proofs.Ythghacojbhjeaaa.Ph
set_option linter.unusedSimpArgs false
set_option linter.unusedVariables false
def szP (ps : List S39) : Nat := (ps.map fun p => p.f0.size + p.f1.size).sum
def szI (is_ : List S41) : Nat := (is_.map fun p => p.f0.size).sum
theorem mn_small {a : Nat} : mn (a : Int) 100001 = ((min a 100001 : Nat) : Int) := by unfold mn; split <;> omega
theorem mn_small0 {a : Nat} : mn (a : Int) 100000 = ((min a 100000 : Nat) : Int) := by unfold mn; split <;> omega
theorem light1 (kd n1 n2 n3 n4 n5 n6 : Int) (s t : ByteArray) (ps : List S39) (is_ : List S41) (co : Int) (y : Bool) (b : ByteArray) (hI : is_.length ≤ 300) (r : List S41) : ∀ (i n : Nat), is_.drop i = r → i ≤ is_.length → n ≤ 1000000 →
    ∃ v, Ev (fun k => shelfmarkref13_Light.l1 k (n : Int) (i : Int) kd n1 n2 n3 n4 n5 n6 s t ps is_ co y b) v ∧ (v = true → n + szI r ≤ 100000) := by
  induction r with
  | nil =>
    intro i n hd hi hn
    have hi2 := dropd_nil hd
    refine ⟨decide ((n : Int) ≤ 100000), Ev.step (fun _ => shelfmarkref13_Light.l1.eq_2 ..) ?_, fun h => ?_⟩
    · simp only [if_neg (show ¬ (i : Int) < (is_.length : Int) by omega)]
      exact Ev.now _
    · have := of_decide_eq_true h
      simp only [szI, List.map_nil, List.sum_nil]
      omega
  | cons c r ih =>
    intro i n hd hi hn
    obtain ⟨hc0, hlt, hd'⟩ := rdOf_drop (d := z41) hd
    have hc : rd_T41 is_ (i : Int) = c := hc0
    by_cases hb : (n : Int) ≤ 100000
    · obtain ⟨v, hv, hb2⟩ := ih (i + 1) (n + min c.f0.size 100001) hd' (by omega) (by omega)
      refine ⟨v, Ev.step (fun _ => shelfmarkref13_Light.l1.eq_2 ..) ?_, fun h => ?_⟩
      · simp only [if_pos (show (i : Int) < (is_.length : Int) by omega), if_pos (show (0 : Int) ≤ (i : Int) by omega), hc, if_pos hb, mn_small]
        rw [w64 (x := (i : Int) + 1) (by omega) (by omega), show ((i : Int) + 1) = ((i + 1 : Nat) : Int) by omega, w64 (x := (n : Int) + _) (by omega) (by omega), ← Int.natCast_add]
        exact hv
      · have := hb2 h
        simp only [szI, List.map_cons, List.sum_cons] at this ⊢
        omega
    · refine ⟨false, Ev.step (fun _ => shelfmarkref13_Light.l1.eq_2 ..) ?_, fun h => by cases h⟩
      simp only [if_pos (show (i : Int) < (is_.length : Int) by omega), if_neg hb, decide_eq_false hb]
      exact Ev.now _
theorem light0 (kd n1 n2 n3 n4 n5 n6 : Int) (s t : ByteArray) (ps : List S39) (is_ : List S41) (co : Int) (y : Bool) (b : ByteArray) (hP : ps.length ≤ 300) (hI : is_.length ≤ 300) (r : List S39) : ∀ (i n : Nat), ps.drop i = r → i ≤ ps.length → n ≤ 300002 →
    ∃ v, Ev (fun k => shelfmarkref13_Light.l0 k (n : Int) (i : Int) kd n1 n2 n3 n4 n5 n6 s t ps is_ co y b) v ∧ (v = true → n + szP r + szI is_ ≤ 100000) := by
  have hj : ∀ n : Nat, n ≤ 300002 → ∃ v, Ev (fun k => shelfmarkref13_Light.j2 k (n : Int) kd n1 n2 n3 n4 n5 n6 s t ps is_ co y b) v ∧ (v = true → n + szI is_ ≤ 100000) := by
    intro n hn
    obtain ⟨v, hv, h⟩ := light1 kd n1 n2 n3 n4 n5 n6 s t ps is_ co y b hI is_ 0 n (by simp) (by omega) (by omega)
    exact ⟨v, Ev.step (fun _ => shelfmarkref13_Light.j2.eq_2 ..) hv, h⟩
  induction r with
  | nil =>
    intro i n hd hi hn
    have hi2 := dropd_nil hd
    obtain ⟨v, hv, h⟩ := hj n hn
    refine ⟨v, Ev.step (fun _ => shelfmarkref13_Light.l0.eq_2 ..) ?_, fun h2 => ?_⟩
    · simp only [if_neg (show ¬ (i : Int) < (ps.length : Int) by omega)]
      exact hv
    · have := h h2
      simp only [szP, List.map_nil, List.sum_nil]
      omega
  | cons c r ih =>
    intro i n hd hi hn
    obtain ⟨hc0, hlt, hd'⟩ := rdOf_drop (d := z39) hd
    have hc : rd_T39 ps (i : Int) = c := hc0
    by_cases hb : (n : Int) ≤ 100000
    · obtain ⟨v, hv, hb2⟩ := ih (i + 1) (n + min c.f0.size 100001 + min c.f1.size 100001) hd' (by omega) (by omega)
      refine ⟨v, Ev.step (fun _ => shelfmarkref13_Light.l0.eq_2 ..) ?_, fun h => ?_⟩
      · simp only [if_pos (show (i : Int) < (ps.length : Int) by omega), if_pos (show (0 : Int) ≤ (i : Int) by omega), hc, if_pos hb, mn_small]
        rw [w64 (x := (i : Int) + 1) (by omega) (by omega), show ((i : Int) + 1) = ((i + 1 : Nat) : Int) by omega, w64 (x := (n : Int) + _) (by omega) (by omega), ← Int.natCast_add, w64 (x := ((n + min c.f0.size 100001 : Nat) : Int) + _) (by omega) (by omega), ← Int.natCast_add]
        exact hv
      · have := hb2 h
        simp only [szP, List.map_cons, List.sum_cons] at this ⊢
        omega
    · obtain ⟨v, hv, h⟩ := hj n hn
      refine ⟨v, Ev.step (fun _ => shelfmarkref13_Light.l0.eq_2 ..) ?_, fun h2 => ?_⟩
      · simp only [if_pos (show (i : Int) < (ps.length : Int) by omega), if_neg hb]
        exact hv
      · have := h h2
        omega
/-- What Light lets in. -/
structure LightP (ps : List S39) (is_ : List S41) : Prop where
  hp : ps.length ≤ 300
  hi : is_.length ≤ 300
  sz : szP ps + szI is_ ≤ 100000
theorem Light_ev (kd n1 n2 n3 n4 n5 n6 : Int) (s t : ByteArray) (ps : List S39) (is_ : List S41) (co : Int) (y : Bool) (b : ByteArray) :
    ∃ v, Ev (fun k => shelfmarkref13_Light.f k kd n1 n2 n3 n4 n5 n6 s t ps is_ co y b) v ∧ (v = true → LightP ps is_) := by
  have hj : ∃ v, Ev (fun k => shelfmarkref13_Light.j0 k (decide ((ps.length : Int) > 300 ∨ (is_.length : Int) > 300)) kd n1 n2 n3 n4 n5 n6 s t ps is_ co y b) v ∧ (v = true → LightP ps is_) := by
    by_cases h : (ps.length : Int) > 300 ∨ (is_.length : Int) > 300
    · refine ⟨false, Ev.step (fun _ => shelfmarkref13_Light.j0.eq_2 ..) ?_, fun h => by cases h⟩
      simp only [decide_eq_true h, if_true]
      exact Ev.now _
    · have hP : ps.length ≤ 300 := by have := fun x => h (.inl x); omega
      have hI : is_.length ≤ 300 := by have := fun x => h (.inr x); omega
      obtain ⟨v, hv, h2⟩ := light0 kd n1 n2 n3 n4 n5 n6 s t ps is_ co y b hP hI ps 0 (min s.size 100000 + min t.size 100000 + min b.size 100000) (by simp) (by omega) (by omega)
      refine ⟨v, Ev.step (fun _ => shelfmarkref13_Light.j0.eq_2 ..) ?_, fun h3 => ⟨hP, hI, by have := h2 h3; omega⟩⟩
      simp only [decide_eq_false h, Bool.false_eq_true, if_false, mn_small0]
      rw [← Int.natCast_add, ← Int.natCast_add]
      exact hv
  unfold shelfmarkref13_Light.f
  by_cases hp : (ps.length : Int) > 300
  · simp only [if_pos hp]
    rwa [decide_eq_true (.inl hp)] at hj
  · simp only [if_neg hp]
    have e : decide ((ps.length : Int) > 300 ∨ (is_.length : Int) > 300) = decide ((is_.length : Int) > 300) := by simp [hp]
    rwa [e] at hj
theorem szP_mem {p : S39} : ∀ {ps : List S39}, p ∈ ps → p.f0.size + p.f1.size ≤ szP ps
  | c :: l, h => by
    simp only [szP, List.map_cons, List.sum_cons]
    rcases List.mem_cons.1 h with rfl | h
    · omega
    · have := szP_mem h
      simp only [szP] at this
      omega
theorem szI_mem {p : S41} : ∀ {ps : List S41}, p ∈ ps → p.f0.size ≤ szI ps
  | c :: l, h => by
    simp only [szI, List.map_cons, List.sum_cons]
    rcases List.mem_cons.1 h with rfl | h
    · omega
    · have := szI_mem h
      simp only [szI] at this
      omega
theorem eN_le {n : Int} (h : n < 9223372036854775808) : (eN n).length ≤ 9 := encN_le (n := n.toNat) (by omega)
theorem eT_le {s : ByteArray} (h : s.size < 9223372036854775808) : (eT s).length ≤ 9 + s.size := by
  unfold eT encT
  rw [List.length_append, bytesOf_length]
  have := encN_le (n := s.size) h
  omega
theorem flatN_le : ∀ (l : List Int), (∀ n ∈ l, n < 9223372036854775808) → ((l.map eN).flatten).length ≤ 9 * l.length
  | [], _ => by simp
  | c :: l, h => by
    have h1 := eN_le (h c (by simp))
    have h2 := flatN_le l (fun n hn => h n (List.mem_cons_of_mem _ hn))
    simp only [List.map_cons, List.flatten_cons, List.length_append, List.length_cons]
    omega
theorem flatT_le (m : Nat) (hm : m < 9223372036854775808) : ∀ (l : List ByteArray), (∀ n ∈ l, n.size ≤ m) → ((l.map eT).flatten).length ≤ (9 + m) * l.length
  | [], _ => by simp
  | c :: l, h => by
    have h0 := h c (by simp)
    have h1 := eT_le (s := c) (by omega)
    have h2 := flatT_le m hm l (fun n hn => h n (List.mem_cons_of_mem _ hn))
    simp only [List.map_cons, List.flatten_cons, List.length_append, List.length_cons]
    rw [Nat.mul_add]
    omega
theorem flatP_le : ∀ (l : List S39), szP l ≤ 100000 → ((l.map eP).flatten).length ≤ 18 * l.length + szP l
  | [], _ => by simp
  | c :: l, h => by
    simp only [szP, List.map_cons, List.sum_cons] at h
    have h1 := eT_le (s := c.f0) (by omega)
    have h2 := eT_le (s := c.f1) (by omega)
    have h3 := flatP_le l (by unfold szP; omega)
    simp only [szP, List.map_cons, List.sum_cons, List.flatten_cons, List.length_append, List.length_cons, eP] at h3 ⊢
    omega
theorem flatI_le : ∀ (l : List S41), szI l ≤ 100000 → (∀ x ∈ l, x.f1 < 9223372036854775808) → ((l.map eI).flatten).length ≤ 27 * l.length + szI l
  | [], _, _ => by simp
  | c :: l, h, hv => by
    simp only [szI, List.map_cons, List.sum_cons] at h
    have h1 := eT_le (s := c.f0) (by omega)
    have h2 := eN_le (hv c (by simp))
    have h4 := eN_le (bitI_ok c.f2).2
    have h3 := flatI_le l (by unfold szI; omega) (fun x hx => hv x (List.mem_cons_of_mem _ hx))
    simp only [szI, List.map_cons, List.sum_cons, List.flatten_cons, List.length_append, List.length_cons, eI] at h3 ⊢
    omega
theorem body_le {kd n1 n2 n3 n4 n5 n6 : Int} {s t : ByteArray} {ps : List S39} {is_ : List S41} {co : Int} {b : ByteArray} (y : Bool) (hl : LightP ps is_) (hs : ∀ x ∈ [s, t, b], x.size ≤ 65536) (hg : goodF kd n1 n2 n3 n4 n5 n6 co is_ = true) : (bodyP kd [n1, n2, n3, n4, n5, n6] co y [s, t, b] ps is_).length < 1000000 := by
  obtain ⟨g1, g2, g3, g4⟩ := good_iff.1 hg
  have hp := hl.hp
  have hi := hl.hi
  have hz := hl.sz
  have h1 := eN_le (n := kd) (by omega)
  have h2 := eN_le (n := co) (by omega)
  have h3 := eN_le (bitI_ok y).2
  have h4 := eN_le (n := (ps.length : Int)) (by omega)
  have h5 := eN_le (n := (is_.length : Int)) (by omega)
  have h6 := flatN_le [n1, n2, n3, n4, n5, n6] (fun n hn => by have := g3 n hn; omega)
  have h7 := flatT_le 65536 (by omega) [s, t, b] hs
  have h8 := flatP_le ps (by omega)
  have h9 := flatI_le is_ (by omega) (fun x hx => by have := g4 x hx; omega)
  unfold bodyP
  simp only [List.length_append]
  simp only [List.length_cons, List.length_nil] at h6 h7
  omega
theorem addB_ge (n : Int) (s : ByteArray) : n ≤ addB n s := by
  unfold addB mn
  split
  · split <;> omega
  · omega
theorem addB_big {n : Int} {s : ByteArray} (h : 65536 < s.size) (h0 : 0 ≤ n) : 65536 < addB n s := by
  unfold addB mn
  split
  · split <;> omega
  · omega
theorem sumT_ge : ∀ (l : List ByteArray) (n : Int), n ≤ sumT n l
  | [], n => by simp [sumT]
  | s :: t, n => by
    have h1 := sumT_ge t (addB n s)
    have h2 := addB_ge n s
    show n ≤ sumT (addB n s) t
    omega
theorem sumT_big : ∀ (l : List ByteArray) (n : Int), 0 ≤ n → (∃ q ∈ l, 65536 < q.size) → 65536 < sumT n l
  | [], _, _, ⟨q, h, _⟩ => by cases h
  | s :: t, n, h0, ⟨q, h, hb⟩ => by
    have h2 := addB_ge n s
    show 65536 < sumT (addB n s) t
    rcases List.mem_cons.1 h with rfl | h
    · have h1 := sumT_ge t (addB n q)
      have := addB_big hb h0
      omega
    · exact sumT_big t (addB n s) (by omega) ⟨q, h, hb⟩
theorem sumP_ge : ∀ (l : List S39) (n : Int), n ≤ sumP n l
  | [], n => by simp [sumP]
  | p :: t, n => by
    have h1 := sumP_ge t (addB (addB n p.f0) p.f1)
    have h2 := addB_ge n p.f0
    have h3 := addB_ge (addB n p.f0) p.f1
    show n ≤ sumP (addB (addB n p.f0) p.f1) t
    omega
theorem sumI_ge : ∀ (l : List S41) (n : Int), n ≤ sumI n l
  | [], n => by simp [sumI]
  | p :: t, n => by
    have h1 := sumI_ge t (addB n p.f0)
    have h2 := addB_ge n p.f0
    show n ≤ sumI (addB n p.f0) t
    omega
/-- Both Packs of a letter that is light. -/
theorem packs {kd n1 n2 n3 n4 n5 n6 : Int} {s t : ByteArray} {ps : List S39} {is_ : List S41} {co : Int} {b : ByteArray} (y : Bool) (hl : LightP ps is_) :
    Ev (fun k => Ll.letter_Pack.f k kd n1 n2 n3 n4 n5 n6 s t ps is_ co y b) (packP kd n1 n2 n3 n4 n5 n6 s t ps is_ co y b) ∧ Ev (fun k => shelfmarkref13_Pack.f k kd n1 n2 n3 n4 n5 n6 s t ps is_ co y b) (packP kd n1 n2 n3 n4 n5 n6 s t ps is_ co y b) := by
  have hp := hl.hp
  have hi := hl.hi
  have hz := hl.sz
  have h4 : ∀ p ∈ ps, p.f0.size ≤ 140737488351232 ∧ p.f1.size ≤ 140737488351232 := fun p h => by have := szP_mem h; omega
  have h5 : ∀ x ∈ is_, x.f0.size ≤ 140737488351232 := fun p h => by have := szI_mem h; omega
  by_cases hb : ∃ q ∈ [s, t, b], 65536 < q.size
  · refine ⟨?_, refPack_big kd n1 n2 n3 n4 n5 n6 s t ps is_ co y b (by omega) (by omega) hb⟩
    have hbk : bulkF s t b ps is_ > 65536 := by
      have h1 := sumT_big [s, t, b] 0 (by omega) hb
      have h2 := sumP_ge ps (sumT 0 [s, t, b])
      have h3 := sumI_ge is_ (sumP (sumT 0 [s, t, b]) ps)
      unfold bulkF
      omega
    unfold Ll.letter_Pack.f packP
    cases hg : goodF kd n1 n2 n3 n4 n5 n6 co is_ with
    | false => simp only [Bool.false_eq_true, if_false]; exact Ev.now _
    | true =>
      simp only [if_true, if_pos (show (ps.length : Int) > 256 ∨ (is_.length : Int) > 256 ∨ bulkF s t b ps is_ > 65536 from .inr (.inr hbk))]
      have hfl := flat_big hb
      rw [endB_long (by unfold bodyP; simp only [List.length_append]; omega)]
      refine Ev.congr (f := fun _ => some (⟨#[]⟩, 4)) (fun k => ?_) ?_
      · rfl
      · split <;> exact Ev.now _
  · have hs : ∀ x ∈ [s, t, b], x.size ≤ 65536 := fun x hx => Nat.le_of_not_lt (fun h => hb ⟨x, hx, h⟩)
    have h3 : ∀ x ∈ [s, t, b], x.size ≤ 140737488351232 := fun x hx => by have := hs x hx; omega
    refine ⟨?_, refPack_ev kd n1 n2 n3 n4 n5 n6 s t ps is_ co y b (by omega) (by omega) h3 h4 h5 (fun hg _ _ => by have := body_le y hl hs hg; omega)⟩
    cases hg : goodF kd n1 n2 n3 n4 n5 n6 co is_ with
    | false =>
      unfold Ll.letter_Pack.f packP
      rw [hg]
      exact Ev.now _
    | true => exact Pack_ev kd n1 n2 n3 n4 n5 n6 s t ps is_ co y b h3 h4 h5 (by have := body_le y hl hs hg; omega)
end Go.Proofs.Ythghacojbhjeaaa.Pi
namespace Go.Proofs.Ythghacojbhjeaaa.Pj
open Go Go.RowKit Go.Proofs.Ythghacojbhjeaaa.PLt Go.Proofs.YthghacojbhjeaaaW.PrintWords Go.Proofs.YthghacojbhjeaaaW.PrintLast Go.Proofs.YthghacojbhjeaaaW.PrintMore Go.Proofs.Ythghacojbhjeaaa.Pk Go.Proofs.Ythghacojbhjeaaa.PLtEv
set_option linter.unusedSimpArgs false
set_option linter.unusedVariables false
theorem toList_eq {a b : ByteArray} : a.toList = b.toList ↔ a = b := by
  constructor
  · intro h
    rw [ByteArray.toList_eq, ByteArray.toList_eq] at h
    have h2 : bytesOf a = bytesOf b := by unfold bytesOf; rw [h]
    rw [← strOfNums_bytesOf a, h2, strOfNums_bytesOf]
  · intro h
    rw [h]
theorem beq_str (a b : ByteArray) : ((a.toList == b.toList) = true) ↔ a = b := by
  rw [beq_iff_eq, toList_eq]
theorem s41_eq {a b : S41} : (!((a.f0.toList) == (b.f0.toList)) || (!((a.f1) == (b.f1)) || (!((a.f2) == (b.f2))))) = true ↔ ¬ a = b := by
  cases a with
  | mk a0 a1 a2 =>
    cases b with
    | mk b0 b1 b2 =>
      simp only [S41.mk.injEq, Bool.or_eq_true, Bool.not_eq_true', ← Bool.not_eq_true, beq_iff_eq, toList_eq]
      constructor
      · rintro (h | h | h) ⟨e1, e2, e3⟩
        · exact h e1
        · exact h e2
        · exact h e3
      · intro h
        by_cases h0 : a0 = b0
        · by_cases h1 : a1 = b1
          · exact .inr (.inr fun h2 => h ⟨h0, h1, h2⟩)
          · exact .inr (.inl h1)
        · exact .inl h0
theorem s39_eq {a b : S39} : (!((a.f0.toList) == (b.f0.toList)) || (!((a.f1.toList) == (b.f1.toList)))) = true ↔ ¬ a = b := by
  cases a with
  | mk a0 a1 =>
    cases b with
    | mk b0 b1 =>
      simp only [S39.mk.injEq, Bool.or_eq_true, Bool.not_eq_true', ← Bool.not_eq_true, beq_iff_eq, toList_eq]
      constructor
      · rintro (h | h) ⟨e1, e2⟩
        · exact h e1
        · exact h e2
      · intro h
        by_cases h0 : a0 = b0
        · exact .inr fun h1 => h ⟨h0, h1⟩
        · exact .inl h0
theorem cut_cons {α : Type} {a : List α} {i : Nat} (h : i < a.length) : ∃ c r, a.drop i = c :: r := ⟨_, _, List.drop_eq_getElem_cons h⟩
theorem same41 (xs ys : List S41) (hl : xs.length = ys.length) (hb : xs.length < 9223372036854775807) (r : List S41) : ∀ i : Nat, xs.drop i = r → i ≤ xs.length → ∃ v, Ev (fun k => shelfmarkref13_SameIntents.l0 k xs ys (i : Int)) v ∧ (v = true ↔ xs.drop i = ys.drop i) := by
  induction r with
  | nil =>
    intro i hd hi
    have hi2 := dropd_nil hd
    refine ⟨true, Ev.step (fun _ => shelfmarkref13_SameIntents.l0.eq_2 ..) ?_, ?_⟩
    · simp only [if_neg (show ¬ (i : Int) < (xs.length : Int) by omega)]
      exact Ev.now _
    · rw [hd, List.drop_eq_nil_of_le (show ys.length ≤ i by omega)]
      simp
  | cons c r ih =>
    intro i hd hi
    obtain ⟨hc0, hlt, hd'⟩ := rdOf_drop (d := z41) hd
    have hc : rd_T41 xs (i : Int) = c := hc0
    obtain ⟨d, r2, hy⟩ := cut_cons (a := ys) (i := i) (by omega)
    obtain ⟨hy0, hlt2, hy'⟩ := rdOf_drop (d := z41) hy
    have hyc : rd_T41 ys (i : Int) = d := hy0
    by_cases he : c = d
    · obtain ⟨v, hv, h⟩ := ih (i + 1) hd' (by omega)
      refine ⟨v, Ev.step (fun _ => shelfmarkref13_SameIntents.l0.eq_2 ..) ?_, ?_⟩
      · simp only [if_pos (show (i : Int) < (xs.length : Int) by omega), if_pos (show (0 : Int) ≤ (i : Int) by omega), if_pos (show (i : Int) < (ys.length : Int) by omega), hc, hyc]
        refine Ev.congr (fun k => by rw [if_neg (fun x => s41_eq.1 x he), w64 (x := (i : Int) + 1) (by omega) (by omega), show ((i : Int) + 1) = ((i + 1 : Nat) : Int) by omega]) hv
      · rw [h, hd', hy', hd, hy, he]
        simp
    · refine ⟨false, Ev.step (fun _ => shelfmarkref13_SameIntents.l0.eq_2 ..) ?_, ?_⟩
      · simp only [if_pos (show (i : Int) < (xs.length : Int) by omega), if_pos (show (0 : Int) ≤ (i : Int) by omega), if_pos (show (i : Int) < (ys.length : Int) by omega), hc, hyc]
        refine Ev.congr (fun k => by rw [if_pos (s41_eq.2 he)]) (Ev.now _)
      · rw [hd, hy]
        simp [he]
theorem intents_ev (xs ys : List S41) (hb : xs.length < 9223372036854775807) : ∃ v, Ev (fun k => shelfmarkref13_SameIntents.f k xs ys) v ∧ (v = true ↔ xs = ys) := by
  unfold shelfmarkref13_SameIntents.f
  by_cases hl : (xs.length : Int) = (ys.length : Int)
  · obtain ⟨v, hv, h⟩ := same41 xs ys (by omega) hb xs 0 (by simp) (by omega)
    refine ⟨v, ?_, by simpa using h⟩
    simp only [if_pos hl]
    exact hv
  · refine ⟨false, ?_, ?_⟩
    · simp only [if_neg hl]
      exact Ev.now _
    · simp only [Bool.false_eq_true, false_iff]
      rintro rfl
      exact hl rfl
theorem same1 (a b : S27) (xs ys : List Int) (hl : xs.length = ys.length) (hb : xs.length < 9223372036854775807) (r : List Int) : ∀ i : Nat, xs.drop i = r → i ≤ xs.length → ∃ v, Ev (fun k => shelfmarkref13_Same.l1 k xs ys (i : Int) a.f0 a.f1 a.f2 a.f3 a.f4 a.f5 a.f6 a.f7 a.f8 a.f9 a.f10 a.f11 a.f12 a.f13 b.f0 b.f1 b.f2 b.f3 b.f4 b.f5 b.f6 b.f7 b.f8 b.f9 b.f10 b.f11 b.f12 b.f13) v ∧ (v = true ↔ xs.drop i = ys.drop i ∧ a.f0 = b.f0 ∧ a.f12 = b.f12 ∧ a.f7 = b.f7 ∧ a.f8 = b.f8 ∧ a.f13 = b.f13) := by
  induction r with
  | nil =>
    intro i hd hi
    have hi2 := dropd_nil hd
    by_cases hall : a.f0 = b.f0 ∧ a.f12 = b.f12 ∧ a.f7 = b.f7 ∧ a.f8 = b.f8
    · obtain ⟨h0, h12, h7, h8⟩ := hall
      refine ⟨a.f13.toList == b.f13.toList, Ev.step (fun _ => shelfmarkref13_Same.l1.eq_2 ..) ?_, ?_⟩
      · simp only [if_neg (show ¬ (i : Int) < (xs.length : Int) by omega), if_pos h0, h12, beq_self_eq_true, if_true, h7, h8]
        exact Ev.now _
      · rw [hd, List.drop_eq_nil_of_le (show ys.length ≤ i by omega), beq_str]
        simp [h0, h12, h7, h8]
    · refine ⟨false, Ev.step (fun _ => shelfmarkref13_Same.l1.eq_2 ..) ?_, ?_⟩
      · simp only [if_neg (show ¬ (i : Int) < (xs.length : Int) by omega), toList_eq, beq_iff_eq]
        refine Ev.congr (f := fun _ => some false) (fun k => ?_) (Ev.now _)
        split
        · split
          · split
            · split
              · exact absurd ⟨by assumption, by assumption, by assumption, by assumption⟩ hall
              · rfl
            · rfl
          · rfl
        · rfl
      · simp only [Bool.false_eq_true, false_iff]
        rintro ⟨_, h0, h12, h7, h8, _⟩
        exact hall ⟨h0, h12, h7, h8⟩
  | cons c r ih =>
    intro i hd hi
    obtain ⟨hc, hlt, hd'⟩ := rd_drop hd
    obtain ⟨d, r2, hy⟩ := cut_cons (a := ys) (i := i) (by omega)
    obtain ⟨hyc, hlt2, hy'⟩ := rd_drop hy
    by_cases he : c = d
    · obtain ⟨v, hv, h⟩ := ih (i + 1) hd' (by omega)
      refine ⟨v, Ev.step (fun _ => shelfmarkref13_Same.l1.eq_2 ..) ?_, ?_⟩
      · simp only [if_pos (show (i : Int) < (xs.length : Int) by omega), if_pos (show (0 : Int) ≤ (i : Int) by omega), if_pos (show (i : Int) < (ys.length : Int) by omega), hc, hyc, if_pos he]
        refine Ev.congr (fun k => by rw [w64 (x := (i : Int) + 1) (by omega) (by omega), show ((i : Int) + 1) = ((i + 1 : Nat) : Int) by omega]) hv
      · rw [h, hd', hy', hd, hy, he]
        simp
    · refine ⟨false, Ev.step (fun _ => shelfmarkref13_Same.l1.eq_2 ..) ?_, ?_⟩
      · simp only [if_pos (show (i : Int) < (xs.length : Int) by omega), if_pos (show (0 : Int) ≤ (i : Int) by omega), if_pos (show (i : Int) < (ys.length : Int) by omega), hc, hyc, if_neg he]
        exact Ev.now _
      · rw [hd, hy]
        simp [he]
def Rest (a b : S27) : Prop := (a.f1 = b.f1 ∧ a.f2 = b.f2 ∧ a.f3 = b.f3 ∧ a.f4 = b.f4 ∧ a.f5 = b.f5 ∧ a.f6 = b.f6 ∧ a.f11 = b.f11) ∧ a.f0 = b.f0 ∧ a.f12 = b.f12 ∧ a.f7 = b.f7 ∧ a.f8 = b.f8 ∧ a.f13 = b.f13
theorem same0 (a b : S27) (hl : a.f9.length = b.f9.length) (hb : a.f9.length < 9223372036854775807) (r : List S39) : ∀ i : Nat, a.f9.drop i = r → i ≤ a.f9.length → ∃ v, Ev (fun k => shelfmarkref13_Same.l0 k (i : Int) a.f0 a.f1 a.f2 a.f3 a.f4 a.f5 a.f6 a.f7 a.f8 a.f9 a.f10 a.f11 a.f12 a.f13 b.f0 b.f1 b.f2 b.f3 b.f4 b.f5 b.f6 b.f7 b.f8 b.f9 b.f10 b.f11 b.f12 b.f13) v ∧ (v = true ↔ a.f9.drop i = b.f9.drop i ∧ Rest a b) := by
  induction r with
  | nil =>
    intro i hd hi
    have hi2 := dropd_nil hd
    obtain ⟨v, hv, h⟩ := same1 a b [a.f1, a.f2, a.f3, a.f4, a.f5, a.f6, a.f11] [b.f1, b.f2, b.f3, b.f4, b.f5, b.f6, b.f11] rfl (by simp) _ 0 rfl (by omega)
    refine ⟨v, Ev.step (fun _ => shelfmarkref13_Same.l0.eq_2 ..) ?_, ?_⟩
    · simp only [if_neg (show ¬ (i : Int) < (a.f9.length : Int) by omega)]
      refine Ev.congr (f := fun k => shelfmarkref13_Same.l1 k [a.f1, a.f2, a.f3, a.f4, a.f5, a.f6, a.f11] [b.f1, b.f2, b.f3, b.f4, b.f5, b.f6, b.f11] ((0 : Nat) : Int) a.f0 a.f1 a.f2 a.f3 a.f4 a.f5 a.f6 a.f7 a.f8 a.f9 a.f10 a.f11 a.f12 a.f13 b.f0 b.f1 b.f2 b.f3 b.f4 b.f5 b.f6 b.f7 b.f8 b.f9 b.f10 b.f11 b.f12 b.f13) (fun k => rfl) hv
    · rw [h, hd, List.drop_eq_nil_of_le (show b.f9.length ≤ i by omega)]
      unfold Rest
      simp
  | cons c r ih =>
    intro i hd hi
    obtain ⟨hc0, hlt, hd'⟩ := rdOf_drop (d := z39) hd
    have hc : rd_T39 a.f9 (i : Int) = c := hc0
    obtain ⟨d, r2, hy⟩ := cut_cons (a := b.f9) (i := i) (by omega)
    obtain ⟨hy0, hlt2, hy'⟩ := rdOf_drop (d := z39) hy
    have hyc : rd_T39 b.f9 (i : Int) = d := hy0
    by_cases he : c = d
    · obtain ⟨v, hv, h⟩ := ih (i + 1) hd' (by omega)
      refine ⟨v, Ev.step (fun _ => shelfmarkref13_Same.l0.eq_2 ..) ?_, ?_⟩
      · simp only [if_pos (show (i : Int) < (a.f9.length : Int) by omega), if_pos (show (0 : Int) ≤ (i : Int) by omega), if_pos (show (i : Int) < (b.f9.length : Int) by omega), hc, hyc]
        refine Ev.congr (fun k => by rw [if_neg (fun x => s39_eq.1 x he), w64 (x := (i : Int) + 1) (by omega) (by omega), show ((i : Int) + 1) = ((i + 1 : Nat) : Int) by omega]) hv
      · rw [h, hd', hy', hd, hy, he]
        simp
    · refine ⟨false, Ev.step (fun _ => shelfmarkref13_Same.l0.eq_2 ..) ?_, ?_⟩
      · simp only [if_pos (show (i : Int) < (a.f9.length : Int) by omega), if_pos (show (0 : Int) ≤ (i : Int) by omega), if_pos (show (i : Int) < (b.f9.length : Int) by omega), hc, hyc]
        refine Ev.congr (fun k => by rw [if_pos (s39_eq.2 he)]) (Ev.now _)
      · rw [hd, hy]
        simp [he]
/-- Same says whether two letters are one. -/
theorem Same_ev (a b : S27) (h9 : a.f9.length < 9223372036854775807) (h10 : a.f10.length < 9223372036854775807) : ∃ v, Ev (fun k => shelfmarkref13_Same.f k a.f0 a.f1 a.f2 a.f3 a.f4 a.f5 a.f6 a.f7 a.f8 a.f9 a.f10 a.f11 a.f12 a.f13 b.f0 b.f1 b.f2 b.f3 b.f4 b.f5 b.f6 b.f7 b.f8 b.f9 b.f10 b.f11 b.f12 b.f13) v ∧ (v = true ↔ a = b) := by
  unfold shelfmarkref13_Same.f
  by_cases hl : (a.f9.length : Int) = (b.f9.length : Int)
  · obtain ⟨u, hu, h⟩ := intents_ev a.f10 b.f10 h10
    cases u with
    | false =>
      refine ⟨false, ?_, ?_⟩
      · simp only [if_pos hl]
        refine Ev.bind hu (Ev.step (fun _ => shelfmarkref13_Same.j0.eq_2 ..) ?_)
        exact Ev.now _
      · simp only [Bool.false_eq_true, false_iff] at h ⊢
        rintro rfl
        exact h rfl
    | true =>
      obtain ⟨v, hv, hr⟩ := same0 a b (by omega) h9 a.f9 0 (by simp) (by omega)
      refine ⟨v, ?_, ?_⟩
      · simp only [if_pos hl]
        refine Ev.bind hu (Ev.step (fun _ => shelfmarkref13_Same.j0.eq_2 ..) ?_)
        exact hv
      · have e10 := h.1 rfl
        rw [hr]
        constructor
        · rintro ⟨e9, ⟨e1, e2, e3, e4, e5, e6, e11⟩, e0, e12, e7, e8, e13⟩
          cases a
          cases b
          simp only [List.drop_zero] at e9
          simp only at *
          subst e0 e1 e2 e3 e4 e5 e6 e7 e8 e9 e10 e11 e12 e13
          rfl
        · rintro rfl
          exact ⟨rfl, ⟨rfl, rfl, rfl, rfl, rfl, rfl, rfl⟩, rfl, rfl, rfl, rfl, rfl⟩
  · refine ⟨false, ?_, ?_⟩
    · simp only [if_neg hl]
      refine Ev.step (fun _ => shelfmarkref13_Same.j0.eq_2 ..) ?_
      exact Ev.now _
    · simp only [Bool.false_eq_true, false_iff]
      rintro rfl
      exact hl rfl
end Go.Proofs.Ythghacojbhjeaaa.Pj
namespace Go.Proofs.Ythghacojbhjeaaa.Pl
open Go Go.RowKit Go.Proofs.Ythghacojbhjeaaa.PLt Go.Proofs.YthghacojbhjeaaaW.PrintWords Go.Proofs.YthghacojbhjeaaaW.PrintLast Go.Proofs.YthghacojbhjeaaaW.PrintMore Go.Proofs.Ythghacojbhjeaaa.Pk Go.Proofs.Ythghacojbhjeaaa.PLtEv Go.Proofs.Ythghacojbhjeaaa.Le Go.Proofs.Ythghacojbhjeaaa.Li Go.Proofs.Ythghacojbhjeaaa.Lh Go.Proofs.Ythghacojbhjeaaa.Lj Go.Proofs.Ythghacojbhjeaaa.Lk Go.Proofs.Ythghacojbhjeaaa.Ll Go.Proofs.Ythghacojbhjeaaa.Pb Go.Proofs.Ythghacojbhjeaaa.Pc Go.Proofs.Ythghacojbhjeaaa.Pd Go.Proofs.Ythghacojbhjeaaa.Pe Go.Proofs.Ythghacojbhjeaaa.Pf Go.Proofs.Ythghacojbhjeaaa.Pg Go.Proofs.Ythghacojbhjeaaa.Ph Go.Proofs.Ythghacojbhjeaaa.Pi Go.Proofs.Ythghacojbhjeaaa.Pj
set_option linter.unusedSimpArgs false
set_option linter.unusedVariables false
def nsX (x : S27) : List Int := [x.f1, x.f2, x.f3, x.f4, x.f5, x.f6]
def tsX (x : S27) : List ByteArray := [x.f7, x.f8, x.f13]
def bodyX (x : S27) : List Int := bodyP x.f0 (nsX x) x.f11 x.f12 (tsX x) x.f9 x.f10
def packX (x : S27) : ByteArray × Int := packP x.f0 x.f1 x.f2 x.f3 x.f4 x.f5 x.f6 x.f7 x.f8 x.f9 x.f10 x.f11 x.f12 x.f13
def goodX (x : S27) : Bool := goodF x.f0 x.f1 x.f2 x.f3 x.f4 x.f5 x.f6 x.f11 x.f10
theorem mkX (x : S27) : mkL x.f0 (nsX x) x.f11 (bitI x.f12) (tsX x) x.f9 x.f10 = x := by
  show (⟨x.f0, x.f1, x.f2, x.f3, x.f4, x.f5, x.f6, x.f7, x.f8, x.f9, x.f10, x.f11, bitI x.f12 == 1, x.f13⟩ : S27) = x
  rw [bit_back]
/-- A letter that may be packed. -/
structure OkX (x : S27) : Prop where
  good : goodX x = true
  hp : x.f9.length ≤ 256
  hi : x.f10.length ≤ 256
  len : (bodyX x).length ≤ 65536
theorem packX_ok {x : S27} (h : OkX x) : packX x = (strOfNums (bodyX x), 0) := by
  have hg : goodF x.f0 x.f1 x.f2 x.f3 x.f4 x.f5 x.f6 x.f11 x.f10 = true := h.good
  have h1 := h.hp
  have h2 := h.hi
  have h3 := h.len
  unfold packX packP
  rw [if_pos hg, if_neg (by omega)]
  show endB (bodyX x) = _
  unfold endB
  rw [if_neg (by omega)]
theorem okX_of {x : S27} (h : (packX x).2 = 0) : OkX x := by
  unfold packX packP at h
  by_cases hg : goodF x.f0 x.f1 x.f2 x.f3 x.f4 x.f5 x.f6 x.f11 x.f10 = true
  · rw [if_pos hg] at h
    by_cases hl : (x.f9.length : Int) > 256 ∨ (x.f10.length : Int) > 256
    · rw [if_pos hl] at h
      cases h
    · rw [if_neg hl] at h
      have h : (endB (bodyX x)).2 = 0 := h
      unfold endB at h
      by_cases hb : ((bodyX x).length : Int) > 65536
      · rw [if_pos hb] at h
        cases h
      · have h1 := fun y => hl (.inl y)
        have h2 := fun y => hl (.inr y)
        exact ⟨hg, by omega, by omega, by omega⟩
  · rw [if_neg hg] at h
    cases h
theorem mem_flat {α : Type} {g : α → List Int} {a : α} : ∀ {l : List α}, a ∈ l → (g a).length ≤ ((l.map g).flatten).length
  | c :: l, h => by
    simp only [List.map_cons, List.flatten_cons, List.length_append]
    rcases List.mem_cons.1 h with rfl | h
    · omega
    · have := mem_flat (g := g) h
      omega
theorem size_T {x : S27} {s : ByteArray} (h : s ∈ tsX x) : s.size ≤ (bodyX x).length := by
  have h1 := mem_flat (g := eT) h
  have h2 := eT_len s
  unfold bodyX bodyP
  simp only [List.length_append]
  omega
theorem size_P {x : S27} {p : S39} (h : p ∈ x.f9) : p.f0.size + p.f1.size ≤ (bodyX x).length := by
  have h1 := mem_flat (g := eP) h
  have h2 := eT_len p.f0
  have h3 := eT_len p.f1
  have h4 : (eP p).length = (eT p.f0).length + (eT p.f1).length := by simp [eP]
  unfold bodyX bodyP
  simp only [List.length_append]
  omega
theorem size_I {x : S27} {p : S41} (h : p ∈ x.f10) : p.f0.size ≤ (bodyX x).length := by
  have h1 := mem_flat (g := eI) h
  have h2 := eT_len p.f0
  have h4 : (eI p).length = (eT p.f0).length + ((eN p.f1).length + (eN (bitI p.f2)).length) := by simp [eI]
  unfold bodyX bodyP
  simp only [List.length_append]
  omega
theorem flat_bytes {α : Type} {g : α → List Int} (hg : ∀ a, Bytes (g a)) : ∀ l : List α, Bytes ((l.map g).flatten)
  | [] => Bytes.nil
  | a :: l => by
    simp only [List.map_cons, List.flatten_cons]
    exact (hg a).append (flat_bytes hg l)
theorem eT_bytes (s : ByteArray) : Bytes (eT s) := encT_bytes (bytesOf_bytes s)
theorem eN_bytes (n : Int) : Bytes (eN n) := encN_bytes _
theorem body_bytes (x : S27) : Bytes (bodyX x) :=
  ((((((((eN_bytes _).append (flat_bytes eN_bytes _)).append ((eN_bytes _).append (eN_bytes _))).append (flat_bytes eT_bytes _)).append (eN_bytes _)).append (flat_bytes (fun p => (eT_bytes _).append (eT_bytes _)) _)).append (eN_bytes _)).append (flat_bytes (fun p => (eT_bytes _).append ((eN_bytes _).append (eN_bytes _))) _))
theorem size_str {l : List Int} (h : Bytes l) : (strOfNums l).size = l.length := by
  rw [← bytesOf_length, bytesOf_strOfNums h]
theorem unpack_ok {x : S27} (h : OkX x) : unpackF pN pT (strOfNums (bodyX x)) = some (x, 0) := by
  have hb := body_bytes x
  have h3 := h.len
  obtain ⟨g1, g2, g3, g4⟩ := good_iff.1 h.good
  unfold unpackF
  rw [size_str hb, if_neg (by omega), bytesOf_strOfNums hb]
  unfold bodyX
  rw [unpack_pack x.f0 (nsX x) x.f11 x.f12 (tsX x) x.f9 x.f10 g1 rfl g3 g2 rfl (fun s hs => by have := size_T hs; omega) (fun p hp => by have := size_P hp; omega) (fun p hp => ⟨by have := size_I hp; omega, (g4 p hp).1, (g4 p hp).2⟩) h.hp h.hi, mkX]
theorem awake_ev : Ev (fun k => shelfmarklaw13_awake.f k) true := Ev.of shelfmarklaw13_awake.mono (k := 40) (by decide +kernel)
theorem light_ev (x : S27) : ∃ v, Ev (fun k => shelfmarkref13_Light.f k x.f0 x.f1 x.f2 x.f3 x.f4 x.f5 x.f6 x.f7 x.f8 x.f9 x.f10 x.f11 x.f12 x.f13) v ∧ (v = true → LightP x.f9 x.f10) := Light_ev ..
theorem packs_ev {x : S27} (h : LightP x.f9 x.f10) : Ev (fun k => Ll.letter_Pack.f k x.f0 x.f1 x.f2 x.f3 x.f4 x.f5 x.f6 x.f7 x.f8 x.f9 x.f10 x.f11 x.f12 x.f13) (packX x) ∧ Ev (fun k => shelfmarkref13_Pack.f k x.f0 x.f1 x.f2 x.f3 x.f4 x.f5 x.f6 x.f7 x.f8 x.f9 x.f10 x.f11 x.f12 x.f13) (packX x) := packs x.f12 h
end Go.Proofs.Ythghacojbhjeaaa.Pl
