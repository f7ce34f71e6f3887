/- DERIVED. What the printed functions come to, as far as this law asks it. Conditions: those that each lemma names. -/
import Derived.RowKit
import Derived.Laws.BytesArg
import Derived.Laws.Strings
import Derived.OpenShut
import Derived.Test.YthghacojbhjeaaaLj
import Derived.Test.YthghacojbhjeaaaLl
import Derived.Test.YthghacojbhjeaaaPLtx3
import Derived.Test.YthghacojbhjeaaaPLtx4
import Derived.Test.YthghacojbhjeaaaPLtx5
import Derived.Test.YthghacojbhjeaaaPLtx6
import Derived.Test.YthghacojbhjeaaaPLtx7
import Derived.Test.YthghacojbhjeaaaPLtx8
import Derived.Test.YthghacojbhjeaaaPLtx16
import Derived.Test.YthghacojbhjeaaaPLtx17
import Derived.Test.YthghacojbhjeaaaPLtx18
import Derived.Test.YthghacojbhjeaaaPLtx19
import Derived.Test.YthghacojbhjeaaaPLtx20
namespace Go.Proofs.Ythghacojbhjeaaa.Pk
open Go.RowKit

/-- Every number of the list is a byte. -/
def Bytes (l : List Int) : Prop := ∀ x ∈ l, 0 ≤ x ∧ x < 256

theorem Bytes.nil : Bytes [] := fun _ h => by cases h
theorem Bytes.cons {c : Int} {l : List Int} (h0 : 0 ≤ c) (h1 : c < 256) (h : Bytes l) : Bytes (c :: l) := by
  intro x hx
  rcases List.mem_cons.1 hx with rfl | hx
  · exact ⟨h0, h1⟩
  · exact h x hx
theorem Bytes.head {c : Int} {l : List Int} (h : Bytes (c :: l)) : 0 ≤ c ∧ c < 256 := h c (List.mem_cons_self ..)
theorem Bytes.tail {c : Int} {l : List Int} (h : Bytes (c :: l)) : Bytes l := fun x hx => h x (List.mem_cons_of_mem _ hx)
theorem Bytes.drop {l : List Int} (h : Bytes l) (i : Nat) : Bytes (l.drop i) := fun x hx => h x (List.mem_of_mem_drop hx)
theorem Bytes.take {l : List Int} (h : Bytes l) (i : Nat) : Bytes (l.take i) := fun x hx => h x (List.mem_of_mem_take hx)
theorem Bytes.get {l : List Int} (h : Bytes l) (i : Nat) : 0 ≤ l.getD i 0 ∧ l.getD i 0 < 256 := by
  by_cases hi : i < l.length
  · have : l.getD i 0 = l[i] := by simp [List.getD, hi]
    rw [this]
    exact h _ (List.getElem_mem hi)
  · have : l.getD i 0 = 0 := by simp [List.getD, hi]
    rw [this]
    omega

/-! ### The form of a number -/

/-- The form of a number. -/
def encN (n : Nat) : List Int := if n < 128 then [(n : Int)] else ((128 + n % 128 : Nat) : Int) :: encN (n / 128)
termination_by n
decreasing_by omega

theorem encN_small {n : Nat} (h : n < 128) : encN n = [(n : Int)] := by rw [encN, if_pos h]
theorem encN_great {n : Nat} (h : ¬ n < 128) : encN n = ((128 + n % 128 : Nat) : Int) :: encN (n / 128) := by rw [encN, if_neg h]

theorem encN_len (n : Nat) : ∀ j : Nat, 0 < j → n < 128 ^ j → (encN n).length ≤ j := by
  induction n using Nat.strongRecOn with
  | _ n ih =>
    intro j hj hn
    by_cases h : n < 128
    · rw [encN_small h]; simp; omega
    · rw [encN_great h]
      obtain ⟨j, rfl⟩ : ∃ i, j = i + 1 := ⟨j - 1, by omega⟩
      have h1 : n / 128 < 128 ^ j := by
        rw [Nat.pow_succ] at hn
        exact Nat.div_lt_of_lt_mul (by rw [Nat.mul_comm]; exact hn)
      have hj' : 0 < j := by
        rcases Nat.eq_zero_or_pos j with rfl | hp
        · simp at hn; omega
        · exact hp
      have := ih (n / 128) (by omega) j hj' h1
      simp; omega

theorem pow9 : (128 : Nat) ^ 9 = 9223372036854775808 := by decide

theorem encN_le {n : Nat} (h : n < 9223372036854775808) : (encN n).length ≤ 9 := encN_len n 9 (by decide) (by rw [pow9]; exact h)

/-- What is read of a number from a list of bytes on: k bytes are behind, acc is what they told, p is the place. -/
def gn : List Int → Nat → Int → Int → Int × Int × Int
  | [], _, _, _ => (0, 0, 2)
  | c :: r, k, acc, p => if 127 < c ∧ k = 8 ∨ c = 0 ∧ 0 < k then (0, 0, 3) else if c < 128 then (acc + c * 128 ^ k, p + 1, 0) else gn r (k + 1) (acc + (c - 128) * 128 ^ k) (p + 1)

/-- GetNum. -/
def getN (b : List Int) (p : Int) : Int × Int × Int := if p < 0 ∨ (b.length : Int) < p then (0, 0, 1) else gn (b.drop p.toNat) 0 0 p

theorem gn_inv (l : List Int) : ∀ (k : Nat) (acc p v q : Int), Bytes l → k ≤ 8 → gn l k acc p = (v, q, 0) →
    ∃ n rest, l = encN n ++ rest ∧ v = acc + (n : Int) * 128 ^ k ∧ q = p + (encN n).length ∧ n < 128 ^ (9 - k) ∧ (0 < k → 0 < n) := by
  induction l with
  | nil => intro k acc p v q _ _ h; simp [gn] at h
  | cons c r ih =>
    intro k acc p v q hb hk h
    have hc := hb.head
    simp only [gn] at h
    by_cases h1 : 127 < c ∧ k = 8 ∨ c = 0 ∧ 0 < k
    · rw [if_pos h1] at h; simp at h
    · rw [if_neg h1] at h
      by_cases h2 : c < 128
      · rw [if_pos h2] at h
        simp only [Prod.mk.injEq] at h
        have hp : 128 ^ 1 ≤ 128 ^ (9 - k) := Nat.pow_le_pow_right (by decide) (by omega)
        refine ⟨c.toNat, r, ?_, ?_, ?_, ?_, ?_⟩
        · rw [encN_small (by omega)]
          simp; omega
        · rw [show (c.toNat : Int) = c by omega]; exact h.1.symm
        · rw [encN_small (by omega)]; simp; omega
        · omega
        · omega
      · rw [if_neg h2] at h
        obtain ⟨n, rest, hl, hv, hq, hn, hn0⟩ := ih (k + 1) _ _ v q hb.tail (by omega) h
        have hn1 : 0 < n := hn0 (by omega)
        have hm : (128 * n + (c - 128).toNat) / 128 = n := by omega
        have hr : (128 * n + (c - 128).toNat) % 128 = (c - 128).toNat := by omega
        have hg : ¬ 128 * n + (c - 128).toNat < 128 := by omega
        refine ⟨128 * n + (c - 128).toNat, rest, ?_, ?_, ?_, ?_, ?_⟩
        · rw [encN_great hg, hm, hr, hl]
          simp; omega
        · rw [hv, Int.pow_succ]
          have e : ((128 * n + (c - 128).toNat : Nat) : Int) = (n : Int) * 128 + (c - 128) := by omega
          rw [e, Int.add_mul, Int.mul_assoc, Int.mul_comm 128 ((128 : Int) ^ k), Int.add_assoc, Int.add_comm ((c - 128) * 128 ^ k)]
        · rw [encN_great hg, hm, hq]
          simp; omega
        · have e : 9 - k = (9 - (k + 1)) + 1 := by omega
          rw [e, Nat.pow_succ]
          omega
        · omega

/-- Beside an error nothing is told. -/
theorem gn_err (l : List Int) : ∀ (k : Nat) (acc p v q e : Int), gn l k acc p = (v, q, e) → e ≠ 0 → v = 0 ∧ q = 0 ∧ (e = 2 ∨ e = 3) := by
  induction l with
  | nil => intro k acc p v q e h he; simp [gn] at h; omega
  | cons c r ih =>
    intro k acc p v q e h he
    simp only [gn] at h
    by_cases h1 : 127 < c ∧ k = 8 ∨ c = 0 ∧ 0 < k
    · rw [if_pos h1] at h; simp at h; omega
    · rw [if_neg h1] at h
      by_cases h2 : c < 128
      · rw [if_pos h2] at h; simp at h; omega
      · rw [if_neg h2] at h; exact ih _ _ _ _ _ _ h he

theorem getN_err {b : List Int} {p v q e : Int} (h : getN b p = (v, q, e)) (he : e ≠ 0) : v = 0 ∧ q = 0 ∧ (e = 1 ∨ e = 2 ∨ e = 3) := by
  unfold getN at h
  by_cases h1 : p < 0 ∨ (b.length : Int) < p
  · rw [if_pos h1] at h; simp at h; omega
  · rw [if_neg h1] at h
    have := gn_err _ _ _ _ _ _ _ h he
    omega

/-- What is read is a form, and it stands there. -/
theorem getN_inv {b : List Int} {p v q : Int} (hb : Bytes b) (h : getN b p = (v, q, 0)) :
    0 ≤ p ∧ ∃ n : Nat, v = n ∧ n < 9223372036854775808 ∧ q = p + (encN n).length ∧ q ≤ b.length ∧ (b.take q.toNat).drop p.toNat = encN n ∧ ∃ rest, b.drop p.toNat = encN n ++ rest := by
  unfold getN at h
  by_cases h1 : p < 0 ∨ (b.length : Int) < p
  · rw [if_pos h1] at h; simp at h
  · rw [if_neg h1] at h
    obtain ⟨n, rest, hl, hv, hq, hn, _⟩ := gn_inv _ _ _ _ _ _ (hb.drop _) (by omega) h
    have hlen : (b.drop p.toNat).length = b.length - p.toNat := List.length_drop ..
    rw [hl, List.length_append] at hlen
    refine ⟨by omega, n, ?_, ?_, hq, by omega, ?_, rest, hl⟩
    · rw [hv]; simp
    · rw [← pow9]; simpa using hn
    · rw [List.drop_take, hl, show q.toNat - p.toNat = (encN n).length by omega]
      simp

/-! ### The form of a text, and of a list of texts -/

/-- The form of a text (a list of bytes). -/
def encT (s : List Int) : List Int := encN s.length ++ s
/-- GetText. -/
def getT (b : List Int) (p most : Int) : List Int × Int × Int :=
  if (getN b p).2.2 = 0 then
    if most < (getN b p).1 then ([], 0, 4)
    else if (b.length : Int) - (getN b p).2.1 < (getN b p).1 then ([], 0, 2)
    else ((b.take ((getN b p).2.1 + (getN b p).1).toNat).drop (getN b p).2.1.toNat, (getN b p).2.1 + (getN b p).1, 0)
  else ([], 0, (getN b p).2.2)

/-- What is read is a text's form, and it stands there. -/
theorem getT_inv {b : List Int} {p most q : Int} {s : List Int} (hb : Bytes b) (h : getT b p most = (s, q, 0)) :
    0 ≤ p ∧ q = p + (encT s).length ∧ q ≤ b.length ∧ (s.length : Int) ≤ most ∧ (b.take q.toNat).drop p.toNat = encT s ∧ Bytes s ∧ s.length < 9223372036854775808 ∧ ∃ rest, b.drop p.toNat = encT s ++ rest := by
  unfold getT at h
  by_cases h0 : (getN b p).2.2 = 0
  · rw [if_pos h0] at h
    obtain ⟨hp, n, hv, hn, hq, hqb, hcut, rest, hrest⟩ := getN_inv (b := b) (p := p) (v := (getN b p).1) (q := (getN b p).2.1) hb (by rw [← h0])
    by_cases h1 : most < (getN b p).1
    · rw [if_pos h1] at h; simp at h
    · rw [if_neg h1] at h
      by_cases h2 : (b.length : Int) - (getN b p).2.1 < (getN b p).1
      · rw [if_pos h2] at h; simp at h
      · rw [if_neg h2] at h
        simp only [Prod.mk.injEq] at h
        obtain ⟨hs, hq', _⟩ := h
        rw [hv] at hs hq' h1 h2
        generalize hm : (getN b p).2.1 = m at *
        have hlen : s.length = n := by
          rw [← hs, List.length_drop, List.length_take]
          omega
        have hsr : s = rest.take n := by
          rw [← hs, List.drop_take, show (m + (n : Int)).toNat - m.toNat = n by omega]
          have e : b.drop m.toNat = rest := by
            have := congrArg (List.drop (encN n).length) hrest
            rw [List.drop_drop, List.drop_left] at this
            rw [← this, show m.toNat = p.toNat + (encN n).length by omega]
          rw [e]
        have hr2 : b.drop p.toNat = encT s ++ rest.drop n := by
          rw [hrest]
          unfold encT
          rw [hlen, List.append_assoc]
          congr 1
          rw [hsr, List.take_append_drop]
        have hle : (encT s).length = (encN n).length + n := by unfold encT; rw [List.length_append, hlen]
        refine ⟨hp, by omega, by omega, by omega, ?_, ?_, by omega, rest.drop n, hr2⟩
        · rw [List.drop_take, hr2, show q.toNat - p.toNat = (encT s).length by omega]
          simp
        · rw [← hs]; exact (hb.take _).drop _
  · rw [if_neg h0] at h
    simp at h
    exact absurd h.2.2 h0

/-! ### Forms that are cut off -/

end Go.Proofs.Ythghacojbhjeaaa.Pk
namespace Go.Proofs.Ythghacojbhjeaaa.PLtEv
open Go.RowKit Go.Proofs.Ythghacojbhjeaaa.PLt Go.Proofs.YthghacojbhjeaaaW.PrintWords Go.Proofs.YthghacojbhjeaaaW.PrintLast Go.Proofs.YthghacojbhjeaaaW.PrintMore Go.Proofs.Ythghacojbhjeaaa.Pk
set_option linter.unusedVariables false
set_option linter.unusedSimpArgs false

theorem w64 {x : Int} (h0 : -9223372036854775808 ≤ x) (h1 : x < 9223372036854775808) : wrap64 x = x := by unfold wrap64; omega

theorem pow_128 (i : Nat) : (2 : Int) ^ (7 * i) = 128 ^ i := by
  rw [Int.pow_mul]
  rfl

theorem cast_pow (i : Nat) : (((128 : Nat) ^ i : Nat) : Int) = (128 : Int) ^ i := by rw [Int.natCast_pow]; rfl

theorem pow_le9 {i : Nat} (h : i ≤ 9) : (128 : Int) ^ i ≤ 9223372036854775808 := by
  have h1 : (128 : Nat) ^ i ≤ 9223372036854775808 := by rw [← pow9]; exact Nat.pow_le_pow_right (by decide) h
  rw [← cast_pow]
  exact Int.ofNat_le.2 h1

theorem pow8 : (128 : Nat) ^ 8 = 72057594037927936 := by decide

theorem pow_le8 {i : Nat} (h : i ≤ 8) : (128 : Int) ^ i ≤ 72057594037927936 := by
  have h1 : (128 : Nat) ^ i ≤ 72057594037927936 := by rw [← pow8]; exact Nat.pow_le_pow_right (by decide) h
  rw [← cast_pow]
  exact Int.ofNat_le.2 h1

theorem pow_pos (i : Nat) : (1 : Int) ≤ 128 ^ i := by
  have : 0 < (128 : Nat) ^ i := Nat.pow_pos (by decide)
  exact_mod_cast this

theorem and127 {c : Int} (h0 : 0 ≤ c) (h1 : c < 256) : Go.bits .and .u8 c 127 = c % 128 := by
  have := bits_mask .u8 8 (by decide) wraps_u8 7 (by decide) c h0 (by simpa using h1)
  simpa using this

theorem or128 {y : Int} (h0 : 0 ≤ y) (h1 : y < 256) : Go.bits .or .u8 y 128 = 128 + y % 128 := by
  have e : ∀ y : Fin 256, Go.bits .or .u8 (y.val : Int) 128 = 128 + (y.val : Int) % 128 := by decide +kernel
  have := e ⟨y.toNat, by omega⟩
  simp only at this
  rw [show ((y.toNat : Nat) : Int) = y by omega] at this
  exact this

theorem wraps_i64 (n : Int) (h₀ : 0 ≤ n) (h₁ : n < 2 ^ 63) : IntKind.i64.wrap n = n := by
  rw [IntKind.wrap_i64]
  have : (2 : Int) ^ 63 = 9223372036854775808 := by decide
  omega

/-- A number's next seven bits are laid above those that are there. -/
theorem or_shl {acc c : Int} {i : Nat} (hi : i ≤ 8) (ha0 : 0 ≤ acc) (ha : acc < 128 ^ i) (hc0 : 0 ≤ c) (hc : c < 128) :
    Go.bits .or .i64 acc (shl .i64 c (7 * i)) = acc + c * 128 ^ i := by
  have hp := pow_pos i
  have hp9 := pow_le9 (i := i + 1) (by omega)
  rw [Int.pow_succ] at hp9
  have hs : shl .i64 c (7 * (i : Int)) = c * 128 ^ i := by
    unfold shl
    rw [show (7 * (i : Int)).toNat = 7 * i by omega, show min (7 * i) (IntKind.bits .i64) = 7 * i from Nat.min_eq_left (by show 7 * i ≤ 64; omega), pow_128, IntKind.wrap_i64]
    have h1 : c * 128 ^ i ≤ 127 * 128 ^ i := Int.mul_le_mul_of_nonneg_right (by omega) (by omega)
    have h2 : 0 ≤ c * 128 ^ i := Int.mul_nonneg hc0 (by omega)
    omega
  rw [hs]
  have h1 : c * 128 ^ i ≤ 127 * 128 ^ i := Int.mul_le_mul_of_nonneg_right (by omega) (by omega)
  have h2 : 0 ≤ c * 128 ^ i := Int.mul_nonneg hc0 (by omega)
  have hcomm : Go.bits .or .i64 acc (c * 128 ^ i) = Go.bits .or .i64 (c * 128 ^ i) acc := by
    simp only [bits, BitVec.or_comm]
  rw [hcomm, bits_join .i64 63 (by decide) wraps_i64 (7 * i) (c * 128 ^ i) acc h2 (by rw [pow_128]; exact Int.mul_emod_left _ _)]
  · omega
  · have : (2 : Int) ^ 63 = 9223372036854775808 := by decide
    omega
  · exact ha0
  · rw [pow_128]; exact ha
  · have : (2 : Int) ^ 63 = 9223372036854775808 := by decide
    omega

theorem rd_drop {b : List Int} {c : Int} {r : List Int} {i : Nat} (h : b.drop i = c :: r) : rd b (i : Int) = c ∧ i < b.length ∧ b.drop (i + 1) = r := by
  have hi : i < b.length := by
    rcases Nat.lt_or_ge i b.length with h1 | h1
    · exact h1
    · rw [List.drop_eq_nil_of_le h1] at h; cases h
  rw [List.drop_eq_getElem_cons hi] at h
  injection h with h1 h2
  refine ⟨?_, hi, h2⟩
  unfold rd
  simp [List.getD, hi, h1]

theorem drop_nil {b : List Int} {i : Nat} (h : b.drop i = []) : b.length ≤ i := by simpa using h

/-- pack.GetNum's loop. -/
theorem GetNum_l0 (b : List Int) (p : Int) (hb : Bytes b) (hp0 : 0 ≤ p) (hp : p + b.length < 9223372036854775000) (r : List Int) : ∀ (i : Nat) (acc : Int), b.drop i = r → i ≤ 8 → 0 ≤ acc → acc < 128 ^ i → i ≤ b.length →
    Ev (fun k => pack_GetNum.l0 k p acc b (b.length : Int) (i : Int)) (gn r i acc (p + i)) := by
  induction r with
  | nil =>
    intro i acc hd hi ha0 ha hil
    have hl := drop_nil hd
    refine Ev.step (fun _ => pack_GetNum.l0.eq_2 ..) ?_
    simp only [if_neg (show ¬ (i : Int) < (b.length : Int) by omega), gn]
    exact Ev.now _
  | cons c r ih =>
    intro i acc hd hi ha0 ha hil
    obtain ⟨hc, hlt, hd'⟩ := rd_drop hd
    have hcb : 0 ≤ c ∧ c < 256 := by rw [← hc]; exact hb.get _
    have hor := or_shl (c := c % 128) hi ha0 ha (by omega) (by omega)
    have hp9 := pow_le9 (i := i + 1) (by omega)
    have hpp := pow_pos i
    have hmul : c % 128 * 128 ^ i ≤ 127 * 128 ^ i := Int.mul_le_mul_of_nonneg_right (by omega) (by omega)
    have hmul0 : 0 ≤ c % 128 * 128 ^ i := Int.mul_nonneg (by omega) (by omega)
    refine Ev.step (fun _ => pack_GetNum.l0.eq_2 ..) ?_
    simp only [if_pos (show (i : Int) < (b.length : Int) by omega), if_pos (show (0 : Int) ≤ (i : Int) by omega), hc, and127 hcb.1 hcb.2,
      w64 (x := 7 * (i : Int)) (by omega) (by omega), w64 (x := c % 128) (by omega) (by omega), if_pos (show (0 : Int) ≤ 7 * (i : Int) by omega), hor]
    have tail : ∀ t : Bool, t = decide (127 < c ∧ i = 8 ∨ c = 0 ∧ 0 < i) → Ev (fun k => pack_GetNum.j3 k p (acc + c % 128 * 128 ^ i) (i : Int) c b (b.length : Int) (i : Int) t) (gn (c :: r) i acc (p + i)) := by
      intro t ht
      refine Ev.step (fun _ => pack_GetNum.j3.eq_2 ..) ?_
      simp only [gn]
      by_cases h1 : 127 < c ∧ i = 8 ∨ c = 0 ∧ 0 < i
      · rw [if_pos h1]
        simp only [ht, decide_eq_true h1, if_true]
        exact Ev.now _
      · rw [if_neg h1]
        simp only [ht, decide_eq_false h1, Bool.false_eq_true, if_false]
        by_cases h2 : c < 128
        · simp only [if_pos h2]
          rw [Int.emod_eq_of_lt hcb.1 h2, w64 (x := p + (i : Int)) (by omega) (by omega), w64 (x := p + (i : Int) + 1) (by omega) (by omega)]
          exact Ev.now _
        · simp only [if_neg h2]
          rw [w64 (x := (i : Int) + 1) (by omega) (by omega), show c % 128 = c - 128 by omega, show ((i : Int) + 1) = ((i + 1 : Nat) : Int) by omega, show p + (i : Int) + 1 = p + ((i + 1 : Nat) : Int) by omega]
          rw [show c % 128 = c - 128 by omega] at hmul hmul0
          refine ih (i + 1) _ hd' (by omega) (by omega) ?_ (by omega)
          rw [Int.pow_succ]
          omega
    by_cases h : c > 127
    · simp only [if_pos h]
      refine Ev.step (fun _ => pack_GetNum.j2.eq_2 ..) ?_
      by_cases h8 : (i : Int) = 8
      · have e : ((i : Int) == 8) = true := by simpa using h8
        simp only [e, if_true]
        exact tail true (by symm; exact decide_eq_true (by omega))
      · have e : ((i : Int) == 8) = false := by simpa using h8
        simp only [e, Bool.false_eq_true, if_false, if_neg (show ¬ c = 0 by omega)]
        exact tail false (by symm; exact decide_eq_false (by omega))
    · simp only [if_neg h]
      refine Ev.step (fun _ => pack_GetNum.j2.eq_2 ..) ?_
      simp only [Bool.false_eq_true, if_false]
      by_cases h0 : c = 0
      · simp only [if_pos h0]
        refine tail _ ?_
        rw [Bool.eq_iff_iff, decide_eq_true_iff, decide_eq_true_iff]
        omega
      · simp only [if_neg h0]
        exact tail false (by symm; exact decide_eq_false (by omega))

theorem GetNum_ev (b : List Int) (p : Int) (hb : Bytes b) (hl : b.length ≤ 140737488351232) : Ev (fun k => pack_GetNum.f k b p) (getN b p) := by
  unfold pack_GetNum.f getN
  by_cases h0 : p < 0
  · rw [if_pos (Or.inl h0)]
    simp only [if_pos h0]
    refine Ev.step (fun _ => pack_GetNum.j0.eq_2 ..) ?_
    exact Ev.now _
  · simp only [if_neg h0]
    refine Ev.step (fun _ => pack_GetNum.j0.eq_2 ..) ?_
    by_cases h1 : (b.length : Int) < p
    · rw [if_pos (Or.inr h1)]
      simp only [decide_eq_true (show p > (b.length : Int) from h1), if_true]
      exact Ev.now _
    · rw [if_neg (by omega)]
      simp only [decide_eq_false (show ¬ p > (b.length : Int) from h1), Bool.false_eq_true, if_false, if_pos (show (0 : Int) ≤ p by omega), if_pos (show p ≤ (b.length : Int) by omega)]
      have := GetNum_l0 (b.drop p.toNat) p (hb.drop _) (by omega) (by have : (b.drop p.toNat).length ≤ b.length := by rw [List.length_drop]; omega
                                                                      omega) (b.drop p.toNat) 0 0 (by simp) (by omega) (by omega) (by simp) (by omega)
      simpa using this
/-- pack.Num's loop. -/
theorem Num_l0 (n : Nat) : ∀ acc : List Int, acc.length + (encN n).length ≤ 1000 → Ev (fun k => pack_Num.l0 k (n : Int) acc) (acc ++ encN n) := by
  induction n using Nat.strongRecOn with
  | _ n ih =>
    intro acc ha
    refine Ev.step (fun _ => pack_Num.l0.eq_2 ..) ?_
    by_cases h : n < 128
    · rw [encN_small h]
      simp only [if_neg (show ¬ (n : Int) > 127 by omega), if_pos (show acc.length < 140737488355328 by omega), Int.emod_eq_of_lt (show (0 : Int) ≤ n by omega) (show (n : Int) < 256 by omega)]
      exact Ev.now _
    · have ho := or128 (y := (n : Int) % 256) (by omega) (by omega)
      rw [encN_great h] at ha ⊢
      simp only [List.length_cons] at ha
      simp only [if_pos (show (n : Int) > 127 by omega), if_pos (show acc.length < 140737488355328 by omega), ho]
      have := ih (n / 128) (by omega) (acc ++ [((128 + n % 128 : Nat) : Int)]) (by simp; omega)
      rw [List.append_assoc] at this
      rw [show (128 : Int) + (n : Int) % 256 % 128 = ((128 + n % 128 : Nat) : Int) by omega, show (n : Int) / 128 = ((n / 128 : Nat) : Int) by omega]
      exact this

theorem Num_ev (n : Nat) (hn : n < 9223372036854775808) : Ev (fun k => pack_Num.f k (n : Int)) (encN n) := by
  unfold pack_Num.f
  simp only [if_neg (show ¬ (n : Int) < 0 by omega)]
  have := encN_le hn
  exact Num_l0 n [] (by simp; omega)

theorem bytesOf_bytes (s : ByteArray) : Bytes (bytesOf s) := by
  intro x hx
  unfold bytesOf at hx
  obtain ⟨b, _, rfl⟩ := List.mem_map.1 hx
  have := b.toNat_lt
  omega

theorem strOfNums_bytesOf (s : ByteArray) : strOfNums (bytesOf s) = s := by
  cases s with
  | mk d =>
    unfold strOfNums bytesOf
    congr 1
    rw [List.map_map]
    have : ((fun n : Int => UInt8.ofNat n.toNat) ∘ fun b : UInt8 => (b.toNat : Int)) = id := by
      funext b
      simp
    rw [this, List.map_id]

theorem bytesOf_strOfNums {l : List Int} (h : Bytes l) : bytesOf (strOfNums l) = l := by
  unfold bytesOf
  rw [strOfNums_data, List.map_map]
  have e : ∀ x ∈ l, ((fun b : UInt8 => (b.toNat : Int)) ∘ fun n : Int => UInt8.ofNat n.toNat) x = x := by
    intro x hx
    have := h x hx
    show ((UInt8.ofNat x.toNat).toNat : Int) = x
    rw [UInt8.toNat_ofNat']
    omega
  exact (List.map_congr_left e).trans (by simp)

theorem bytesOf_size (s : ByteArray) : (bytesOf s).length = s.size := bytesOf_length s

theorem rdOf_drop {α : Type} {d : α} {b : List α} {c : α} {r : List α} {i : Nat} (h : b.drop i = c :: r) : rdOf d b (i : Int) = c ∧ i < b.length ∧ b.drop (i + 1) = r := by
  have hi : i < b.length := by
    rcases Nat.lt_or_ge i b.length with h1 | h1
    · exact h1
    · rw [List.drop_eq_nil_of_le h1] at h; cases h
  rw [List.drop_eq_getElem_cons hi] at h
  injection h with h1 h2
  refine ⟨?_, hi, h2⟩
  unfold rdOf
  simp [List.getD, hi, h1]

theorem dropd_nil {α : Type} {b : List α} {i : Nat} (h : b.drop i = []) : b.length ≤ i := by simpa using h

theorem Text_ev (s : ByteArray) (hs : s.size ≤ 140737488351232) : Ev (fun k => pack_Text.f k s) (encT (bytesOf s)) := by
  unfold pack_Text.f
  have hb := encN_le (n := s.size) (by omega)
  refine Ev.bind (Num_ev s.size (by omega)) ?_
  simp only [if_pos (show (encN s.size).length + s.size < 140737488355328 by omega)]
  unfold encT
  rw [bytesOf_size]
  exact Ev.now _
/-- What pack.GetText answers. -/
theorem GetText_ev (b : List Int) (p most : Int) (hb : Bytes b) (hl : b.length ≤ 140737488351232) :
    Ev (fun k => pack_GetText.f k b p most) (strOfNums (getT b p most).1, (getT b p most).2.1, (getT b p most).2.2) := by
  unfold pack_GetText.f
  refine Ev.bind (GetNum_ev b p hb hl) ?_
  unfold getT
  by_cases h0 : (getN b p).2.2 = 0
  · obtain ⟨hp, n, hv, hn, hq, hqb, _⟩ := getN_inv (b := b) (p := p) (v := (getN b p).1) (q := (getN b p).2.1) hb (by rw [← h0])
    simp only [if_pos h0]
    by_cases h1 : most < (getN b p).1
    · simp only [if_pos (show (getN b p).1 > most from h1), if_pos h1]
      exact Ev.now _
    · simp only [if_neg (show ¬ (getN b p).1 > most from h1), if_neg h1, w64 (x := (b.length : Int) - (getN b p).2.1) (by omega) (by omega)]
      by_cases h2 : (b.length : Int) - (getN b p).2.1 < (getN b p).1
      · simp only [if_pos (show (getN b p).1 > (b.length : Int) - (getN b p).2.1 from h2), if_pos h2]
        exact Ev.now _
      · simp only [if_neg (show ¬ (getN b p).1 > (b.length : Int) - (getN b p).2.1 from h2), if_neg h2, w64 (x := (getN b p).2.1 + (getN b p).1) (by omega) (by omega),
          if_pos (show (0 : Int) ≤ (getN b p).2.1 by omega), if_pos (show (getN b p).2.1 ≤ (getN b p).2.1 + (getN b p).1 by omega), if_pos (show (getN b p).2.1 + (getN b p).1 ≤ (b.length : Int) by omega)]
        exact Ev.now _
  · simp only [if_neg h0]
    exact Ev.now _
/-- The reference's answer: a number, a place, an error. -/
theorem refGetNum_l0 (b : List Int) (hb : Bytes b) (hl : b.length ≤ 140737488351232) (r : List Int) : ∀ (p i : Nat) (acc : Int), b.drop p = r → i ≤ 8 → 0 ≤ acc → acc < 128 ^ i → p ≤ b.length →
    Ev (fun k => shelfmarkref01_GetNum.l0 k b (p : Int) acc (128 ^ i) (i : Int)) ((gn r i acc p).1, (⟨#[]⟩ : ByteArray), ([] : List ByteArray), (gn r i acc p).2.1, (gn r i acc p).2.2) := by
  induction r with
  | nil =>
    intro p i acc hd hi ha0 ha hil
    have hl := drop_nil hd
    refine Ev.step (fun _ => shelfmarkref01_GetNum.l0.eq_2 ..) ?_
    simp only [if_pos (show (i : Int) < 9 by omega), if_pos (show (p : Int) ≥ (b.length : Int) by omega), gn]
    exact Ev.now _
  | cons c r ih =>
    intro p i acc hd hi ha0 ha hil
    obtain ⟨hc, hlt, hd'⟩ := rd_drop hd
    have hcb : 0 ≤ c ∧ c < 256 := by rw [← hc]; exact hb.get _
    have hp9 := pow_le9 (i := i + 1) (by omega)
    have hpp := pow_pos i
    have hmul : c % 128 * 128 ^ i ≤ 127 * 128 ^ i := Int.mul_le_mul_of_nonneg_right (by omega) (by omega)
    have hmul0 : 0 ≤ c % 128 * 128 ^ i := Int.mul_nonneg (by omega) (by omega)
    rw [Int.pow_succ] at hp9
    have htm : Int.tmod c 128 = c % 128 := Int.tmod_eq_emod_of_nonneg hcb.1
    refine Ev.step (fun _ => shelfmarkref01_GetNum.l0.eq_2 ..) ?_
    simp only [if_pos (show (i : Int) < 9 by omega), if_neg (show ¬ (p : Int) ≥ (b.length : Int) by omega), if_pos (show (0 : Int) ≤ (p : Int) by omega), if_pos (show (p : Int) < (b.length : Int) by omega), hc, w64 (x := c) (by omega) (by omega), w64 (x := (p : Int) + 1) (by omega) (by omega)]
    have tail : ∀ t : Bool, t = decide (127 < c ∧ i = 8 ∨ c = 0 ∧ 0 < i) → Ev (fun k => shelfmarkref01_GetNum.j2 k b ((p : Int) + 1) acc (128 ^ i) (i : Int) c t) ((gn (c :: r) i acc p).1, (⟨#[]⟩ : ByteArray), ([] : List ByteArray), (gn (c :: r) i acc p).2.1, (gn (c :: r) i acc p).2.2) := by
      intro t ht
      refine Ev.step (fun _ => shelfmarkref01_GetNum.j2.eq_2 ..) ?_
      simp only [gn]
      by_cases h1 : 127 < c ∧ i = 8 ∨ c = 0 ∧ 0 < i
      · rw [if_pos h1]
        simp only [ht, decide_eq_true h1, if_true]
        exact Ev.now _
      · rw [if_neg h1]
        simp only [ht, decide_eq_false h1, Bool.false_eq_true, if_false, htm, w64 (x := c % 128 * 128 ^ i) (by omega) (by omega), w64 (x := acc + c % 128 * 128 ^ i) (by omega) (by omega)]
        by_cases h2 : c < 128
        · simp only [if_pos h2]
          rw [Int.emod_eq_of_lt hcb.1 h2]
          exact Ev.now _
        · simp only [if_neg h2]
          have hp8 := pow_le8 (i := i) (by omega)
          rw [show c % 128 = c - 128 by omega] at hmul hmul0 ⊢
          have hi7 : i ≤ 7 := by omega
          have hp8' := pow_le8 (i := i + 1) (by omega)
          have := ih (p + 1) (i + 1) (acc + (c - 128) * 128 ^ i) hd' (by omega) (by omega) (by rw [Int.pow_succ]; omega) (by omega)
          rw [w64 (x := (i : Int) + 1) (by omega) (by omega), w64 (x := 128 ^ i * 128) (by omega) (by rw [← Int.pow_succ]; omega), ← Int.pow_succ]
          simpa using this
    by_cases h : c ≥ 128
    · simp only [if_pos h]
      by_cases h8 : (i : Int) = 8
      · simp only [if_pos h8]
        exact tail true (by symm; exact decide_eq_true (by omega))
      · simp only [if_neg h8, if_neg (show ¬ c = 0 by omega)]
        exact tail false (by symm; exact decide_eq_false (by omega))
    · simp only [if_neg h]
      by_cases h0 : c = 0
      · simp only [if_pos h0]
        refine tail _ ?_
        rw [Bool.eq_iff_iff, decide_eq_true_iff, decide_eq_true_iff]
        omega
      · simp only [if_neg h0]
        exact tail false (by symm; exact decide_eq_false (by omega))

theorem refGetNum_ev (b : List Int) (p : Int) (hb : Bytes b) (hl : b.length ≤ 140737488351232) : Ev (fun k => shelfmarkref01_GetNum.f k b p) ((getN b p).1, (⟨#[]⟩ : ByteArray), ([] : List ByteArray), (getN b p).2.1, (getN b p).2.2) := by
  unfold shelfmarkref01_GetNum.f getN
  by_cases h0 : p < 0
  · rw [if_pos (Or.inl h0)]
    simp only [if_pos h0]
    refine Ev.step (fun _ => shelfmarkref01_GetNum.j0.eq_2 ..) ?_
    exact Ev.now _
  · simp only [if_neg h0]
    refine Ev.step (fun _ => shelfmarkref01_GetNum.j0.eq_2 ..) ?_
    by_cases h1 : (b.length : Int) < p
    · rw [if_pos (Or.inr h1)]
      simp only [decide_eq_true (show p > (b.length : Int) from h1), if_true]
      exact Ev.now _
    · rw [if_neg (by omega)]
      simp only [decide_eq_false (show ¬ p > (b.length : Int) from h1), Bool.false_eq_true, if_false]
      have := refGetNum_l0 b hb hl (b.drop p.toNat) p.toNat 0 0 rfl (by omega) (by omega) (by simp) (by omega)
      rw [show ((p.toNat : Nat) : Int) = p by omega] at this
      simpa using this
/-- The reference's answer: a text, a place, an error. -/
theorem refGetText_ev (b : List Int) (p most : Int) (hb : Bytes b) (hl : b.length ≤ 140737488351232) :
    Ev (fun k => shelfmarkref01_GetText.f k b p most) (0, strOfNums (getT b p most).1, ([] : List ByteArray), (getT b p most).2.1, (getT b p most).2.2) := by
  unfold shelfmarkref01_GetText.f
  refine Ev.bind (refGetNum_ev b p hb hl) ?_
  unfold getT
  by_cases h0 : (getN b p).2.2 = 0
  · obtain ⟨hp, n, hv, hn, hq, hqb, _⟩ := getN_inv (b := b) (p := p) (v := (getN b p).1) (q := (getN b p).2.1) hb (by rw [← h0])
    simp only [if_pos h0]
    by_cases h1 : most < (getN b p).1
    · simp only [if_pos (show (getN b p).1 > most from h1), if_pos h1]
      exact Ev.now _
    · simp only [if_neg (show ¬ (getN b p).1 > most from h1), if_neg h1, w64 (x := (b.length : Int) - (getN b p).2.1) (by omega) (by omega)]
      by_cases h2 : (b.length : Int) - (getN b p).2.1 < (getN b p).1
      · simp only [if_pos (show (getN b p).1 > (b.length : Int) - (getN b p).2.1 from h2), if_pos h2]
        exact Ev.now _
      · simp only [if_neg (show ¬ (getN b p).1 > (b.length : Int) - (getN b p).2.1 from h2), if_neg h2, w64 (x := (getN b p).2.1 + (getN b p).1) (by omega) (by omega),
          if_pos (show (0 : Int) ≤ (getN b p).2.1 by omega), if_pos (show (getN b p).2.1 ≤ (getN b p).2.1 + (getN b p).1 by omega), if_pos (show (getN b p).2.1 + (getN b p).1 ≤ (b.length : Int) by omega)]
        exact Ev.now _
  · have he := getN_err (b := b) (p := p) (v := (getN b p).1) (q := (getN b p).2.1) (e := (getN b p).2.2) rfl h0
    simp only [if_neg h0, he.1, he.2.1]
    exact Ev.now _
theorem rdL_drop {b : List (List Int)} {c : List Int} {r : List (List Int)} {i : Nat} (h : b.drop i = c :: r) : rd_L9 b (i : Int) = c ∧ i < b.length ∧ b.drop (i + 1) = r := by
  obtain ⟨h1, h2, h3⟩ := rdOf_drop (d := ([] : List Int)) h
  refine ⟨?_, h2, h3⟩
  rw [← h1]
  rfl

theorem Concat_l1 (l : List (List Int)) (hl : l.length < 9223372036854775807) (r : List (List Int)) : ∀ (i : Nat) (acc : List Int), l.drop i = r → acc.length + r.flatten.length < 140737488355328 → i ≤ l.length →
    Ev (fun k => slices_Concat_byte_byte.l1 k acc l (l.length : Int) (i : Int)) (acc ++ r.flatten) := by
  induction r with
  | nil =>
    intro i acc hd _ _
    have hi := dropd_nil hd
    refine Ev.step (fun _ => slices_Concat_byte_byte.l1.eq_2 ..) ?_
    simp only [if_neg (show ¬ (i : Int) < (l.length : Int) by omega)]
    simpa using Ev.now acc
  | cons s r ih =>
    intro i acc hd ha hil
    obtain ⟨hc, hlt, hd'⟩ := rdL_drop hd
    rw [List.flatten_cons, List.length_append] at ha
    refine Ev.step (fun _ => slices_Concat_byte_byte.l1.eq_2 ..) ?_
    simp only [if_pos (show (i : Int) < (l.length : Int) by omega), if_pos (show (0 : Int) ≤ (i : Int) by omega), hc, if_pos (show acc.length + s.length < 140737488355328 by omega)]
    rw [w64 (x := (i : Int) + 1) (by omega) (by omega), show ((i : Int) + 1) = ((i + 1 : Nat) : Int) by omega, List.flatten_cons, ← List.append_assoc]
    exact ih (i + 1) _ hd' (by rw [List.length_append]; omega) (by omega)

theorem Concat_l0 (l : List (List Int)) (hl : l.length < 9223372036854775807) (ht : l.flatten.length ≤ 140737488351232) (r : List (List Int)) : ∀ (i n : Nat), l.drop i = r → n + r.flatten.length ≤ 140737488351232 → i ≤ l.length →
    Ev (fun k => slices_Concat_byte_byte.l0 k l (n : Int) l (l.length : Int) (i : Int)) l.flatten := by
  induction r with
  | nil =>
    intro i n hd hn _
    have hi := dropd_nil hd
    refine Ev.step (fun _ => slices_Concat_byte_byte.l0.eq_2 ..) ?_
    simp only [if_neg (show ¬ (i : Int) < (l.length : Int) by omega)]
    have hg : slices_Grow_byte_byte.f ([] : List Int) (n : Int) = some [] := by
      unfold slices_Grow_byte_byte.f
      rw [if_pos (by simp), if_pos (by omega), if_pos (by omega)]
    simp only [hg, Option.bind_some]
    simpa using Concat_l1 l hl l 0 [] (by simp) (by simp only [List.length_nil]; omega) (by omega)
  | cons s r ih =>
    intro i n hd hn hil
    obtain ⟨hc, hlt, hd'⟩ := rdL_drop hd
    rw [List.flatten_cons, List.length_append] at hn
    refine Ev.step (fun _ => slices_Concat_byte_byte.l0.eq_2 ..) ?_
    simp only [if_pos (show (i : Int) < (l.length : Int) by omega), if_pos (show (0 : Int) ≤ (i : Int) by omega), hc, w64 (x := (n : Int) + (s.length : Int)) (by omega) (by omega), if_neg (show ¬ (n : Int) + (s.length : Int) < 0 by omega)]
    rw [w64 (x := (i : Int) + 1) (by omega) (by omega), show ((i : Int) + 1) = ((i + 1 : Nat) : Int) by omega, show (n : Int) + (s.length : Int) = ((n + s.length : Nat) : Int) by omega]
    exact ih (i + 1) _ hd' (by omega) (by omega)

/-- What pack.Join answers. -/
theorem Join_ev (l : List (List Int)) (hl : l.length < 9223372036854775807) (ht : l.flatten.length ≤ 140737488351232) : Ev (fun k => pack_Join.f k l) l.flatten := by
  unfold pack_Join.f slices_Concat_byte_byte.f
  refine Ev.bind (Concat_l0 l hl ht l 0 0 (by simp) (by omega) (by omega)) ?_
  exact Ev.now _

end Go.Proofs.Ythghacojbhjeaaa.PLtEv
namespace Go.Proofs.Ythghacojbhjeaaa.Pa
open Go Go.RowKit Go.Proofs.Ythghacojbhjeaaa.PLt Go.Proofs.YthghacojbhjeaaaW.PrintWords Go.Proofs.YthghacojbhjeaaaW.PrintLast Go.Proofs.Ythghacojbhjeaaa.La Go.Proofs.Ythghacojbhjeaaa.Lc Go.Proofs.Ythghacojbhjeaaa.Le Go.Proofs.Ythghacojbhjeaaa.Lf Go.Proofs.Ythghacojbhjeaaa.Li
set_option linter.unusedSimpArgs false
set_option linter.unusedVariables false
/-- Where the plain one tells, the other comes to it. -/
def Evl {α : Type} (g : Nat → Option α) (o : Option α) : Prop := ∀ v, o = some v → Ev g v
theorem Evl.const {α : Type} (o : Option α) : Evl (fun _ => o) o := fun v h => by subst h; exact Ev.now v
theorem Evl.bind {α β : Type} {g : Nat → Option α} {f : Nat → α → Option β} {o : Option α} {f' : α → Option β} (h : Evl g o) (k : ∀ a, Evl (fun n => f n a) (f' a)) : Evl (fun n => (g n).bind (f n)) (o.bind f') := by
  intro v hv
  obtain ⟨a, ha, hf⟩ := Option.bind_eq_some_iff.1 hv
  exact Ev.bind (h a ha) (k a v hf)
theorem Evl.map {α β : Type} {g : Nat → Option α} {o : Option α} (f : α → β) (h : Evl g o) : Evl (fun n => (g n).map f) (o.map f) := by
  intro v hv
  obtain ⟨a, ha, rfl⟩ := Option.map_eq_some_iff.1 hv
  obtain ⟨K, hK⟩ := h a ha
  exact ⟨K, fun n hn => by show (g n).map f = _; rw [hK n hn]; rfl⟩
theorem Evl.ite {α : Type} {c : Prop} [Decidable c] {g g' : Nat → Option α} {o o' : Option α} (h : Evl g o) (k : Evl g' o') : Evl (fun n => if c then g n else g' n) (if c then o else o') := by
  by_cases hc : c
  · simp only [if_pos hc]; exact h
  · simp only [if_neg hc]; exact k
section
variable {G : Nat → List Int → Int → Option (Int × Int × Int)} {T : Nat → List Int → Int → Option (ByteArray × Int × Int)} {G' : List Int → Int → Option (Int × Int × Int)} {T' : List Int → Int → Option (ByteArray × Int × Int)} {bs : List Int}
theorem numG_ev (hG : ∀ p, Evl (fun k => G k bs p) (G' bs p)) (a e m o : Int) : Evl (fun k => numG (G k) bs a e m o) (numG G' bs a e m o) := by
  unfold numG
  exact Evl.ite (Evl.map _ (hG _)) (Evl.const _)
theorem textG_ev (hT : ∀ p, Evl (fun k => T k bs p) (T' bs p)) (a e : Int) : Evl (fun k => textG (T k) bs a e) (textG T' bs a e) := by
  unfold textG
  exact Evl.ite (hT _) (Evl.const _)
theorem numsG_ev (hG : ∀ p, Evl (fun k => G k bs p) (G' bs p)) : ∀ (n : Nat) (a e : Int), Evl (fun k => numsG (G k) bs n a e) (numsG G' bs n a e)
  | 0, a, e => Evl.const _
  | n + 1, a, e => by
    simp only [numsG]
    exact Evl.bind (numG_ev hG _ _ _ _) fun x => Evl.bind (numsG_ev hG n _ _) fun y => Evl.const _
theorem textsG_ev (hT : ∀ p, Evl (fun k => T k bs p) (T' bs p)) : ∀ (n : Nat) (a e : Int), Evl (fun k => textsG (T k) bs n a e) (textsG T' bs n a e)
  | 0, a, e => Evl.const _
  | n + 1, a, e => by
    simp only [textsG]
    exact Evl.bind (textG_ev hT _ _) fun x => Evl.bind (textsG_ev hT n _ _) fun y => Evl.const _
theorem pairsG_ev (hT : ∀ p, Evl (fun k => T k bs p) (T' bs p)) : ∀ (n : Nat) (a e : Int) (out : List S39), Evl (fun k => pairsG (T k) bs n a e out) (pairsG T' bs n a e out)
  | 0, a, e, out => Evl.const _
  | n + 1, a, e, out => by
    simp only [pairsG]
    exact Evl.ite (Evl.bind (textG_ev hT _ _) fun x => Evl.bind (textG_ev hT _ _) fun y => pairsG_ev hT n _ _ _) (Evl.const _)
theorem intentsG_ev (hG : ∀ p, Evl (fun k => G k bs p) (G' bs p)) (hT : ∀ p, Evl (fun k => T k bs p) (T' bs p)) : ∀ (n : Nat) (a e : Int) (out : List S41), Evl (fun k => intentsG (G k) (T k) bs n a e out) (intentsG G' T' bs n a e out)
  | 0, a, e, out => Evl.const _
  | n + 1, a, e, out => by
    simp only [intentsG]
    exact Evl.ite (Evl.bind (textG_ev hT _ _) fun x => Evl.bind (numG_ev hG _ _ _ _) fun y => Evl.bind (numG_ev hG _ _ _ _) fun z => intentsG_ev hG hT n _ _ _) (Evl.const _)
end
theorem unpackF_ev {G : Nat → List Int → Int → Option (Int × Int × Int)} {T : Nat → List Int → Int → Option (ByteArray × Int × Int)} {G' : List Int → Int → Option (Int × Int × Int)} {T' : List Int → Int → Option (ByteArray × Int × Int)} (s : ByteArray) (hG : ∀ p, Evl (fun k => G k (bytesOf s) p) (G' (bytesOf s) p)) (hT : ∀ p, Evl (fun k => T k (bytesOf s) p) (T' (bytesOf s) p)) : Evl (fun k => unpackF (G k) (T k) s) (unpackF G' T' s) := by
  unfold unpackF unpackG
  exact Evl.ite (Evl.const _) (Evl.bind (numG_ev hG _ _ _ _) fun _ => Evl.bind (numsG_ev hG _ _ _) fun _ => Evl.bind (numG_ev hG _ _ _ _) fun _ => Evl.bind (numG_ev hG _ _ _ _) fun _ => Evl.bind (textsG_ev hT _ _ _) fun _ =>
    Evl.bind (numG_ev hG _ _ _ _) fun _ => Evl.bind (pairsG_ev hT _ _ _ _) fun _ => Evl.bind (numG_ev hG _ _ _ _) fun _ => Evl.bind (intentsG_ev hG hT _ _ _ _) fun _ => Evl.const _)
end Go.Proofs.Ythghacojbhjeaaa.Pa
namespace Go.Proofs.Ythghacojbhjeaaa.Pb
open Go Go.RowKit Go.Proofs.Ythghacojbhjeaaa.PLt Go.Proofs.YthghacojbhjeaaaW.PrintWords Go.Proofs.YthghacojbhjeaaaW.PrintLast Go.Proofs.Ythghacojbhjeaaa.Pk Go.Proofs.Ythghacojbhjeaaa.PLtEv Go.Proofs.Ythghacojbhjeaaa.La Go.Proofs.Ythghacojbhjeaaa.Lc Go.Proofs.Ythghacojbhjeaaa.Le Go.Proofs.Ythghacojbhjeaaa.Lf Go.Proofs.Ythghacojbhjeaaa.Li Go.Proofs.Ythghacojbhjeaaa.Pa
set_option linter.unusedSimpArgs false
set_option linter.unusedVariables false
def pN (bs : List Int) (p : Int) : Option (Int × Int × Int) := some (getN bs p)
def pT (bs : List Int) (p : Int) : Option (ByteArray × Int × Int) := some (strOfNums (getT bs p 9223372036854775807).1, (getT bs p 9223372036854775807).2.1, (getT bs p 9223372036854775807).2.2)
theorem bind_tot {α β : Type} {o : Option α} {f : α → Option β} (h : ∃ a, o = some a) (k : ∀ a, ∃ b, f a = some b) : ∃ b, o.bind f = some b := by
  obtain ⟨a, rfl⟩ := h
  exact k a
theorem ite_tot {α : Type} {c : Prop} [Decidable c] {a b : Option α} (h : ∃ x, a = some x) (k : ∃ x, b = some x) : ∃ x, (if c then a else b) = some x := by
  split
  · exact h
  · exact k
theorem numG_tot (bs : List Int) (a e m o : Int) : ∃ r, numG pN bs a e m o = some r := by
  unfold numG
  exact ite_tot ⟨_, rfl⟩ ⟨_, rfl⟩
theorem textG_tot (bs : List Int) (a e : Int) : ∃ r, textG pT bs a e = some r := by
  unfold textG
  exact ite_tot ⟨_, rfl⟩ ⟨_, rfl⟩
theorem numsG_tot (bs : List Int) : ∀ (n : Nat) (a e : Int), ∃ r, numsG pN bs n a e = some r
  | 0, a, e => ⟨_, rfl⟩
  | n + 1, a, e => by
    rw [numsG]
    exact bind_tot (numG_tot _ _ _ _ _) fun x => bind_tot (numsG_tot bs n _ _) fun y => ⟨_, rfl⟩
theorem textsG_tot (bs : List Int) : ∀ (n : Nat) (a e : Int), ∃ r, textsG pT bs n a e = some r
  | 0, a, e => ⟨_, rfl⟩
  | n + 1, a, e => by
    rw [textsG]
    exact bind_tot (textG_tot _ _ _) fun x => bind_tot (textsG_tot bs n _ _) fun y => ⟨_, rfl⟩
theorem pairsG_tot (bs : List Int) : ∀ (n : Nat) (a e : Int) (out : List S39), ∃ r, pairsG pT bs n a e out = some r
  | 0, a, e, out => ⟨_, rfl⟩
  | n + 1, a, e, out => by
    rw [pairsG]
    exact ite_tot (bind_tot (textG_tot _ _ _) fun x => bind_tot (textG_tot _ _ _) fun y => pairsG_tot bs n _ _ _) ⟨_, rfl⟩
theorem intentsG_tot (bs : List Int) : ∀ (n : Nat) (a e : Int) (out : List S41), ∃ r, intentsG pN pT bs n a e out = some r
  | 0, a, e, out => ⟨_, rfl⟩
  | n + 1, a, e, out => by
    rw [intentsG]
    exact ite_tot (bind_tot (textG_tot _ _ _) fun x => bind_tot (numG_tot _ _ _ _ _) fun y => bind_tot (numG_tot _ _ _ _ _) fun z => intentsG_tot bs n _ _ _) ⟨_, rfl⟩
theorem unpackF_tot (s : ByteArray) : ∃ r, unpackF pN pT s = some r := by
  unfold unpackF unpackG
  exact ite_tot ⟨_, rfl⟩ (bind_tot (numG_tot _ _ _ _ _) fun _ => bind_tot (numsG_tot _ _ _ _) fun _ => bind_tot (numG_tot _ _ _ _ _) fun _ => bind_tot (numG_tot _ _ _ _ _) fun _ => bind_tot (textsG_tot _ _ _ _) fun _ =>
    bind_tot (numG_tot _ _ _ _ _) fun _ => bind_tot (pairsG_tot _ _ _ _ _) fun _ => bind_tot (numG_tot _ _ _ _ _) fun _ => bind_tot (intentsG_tot _ _ _ _ _) fun _ => ⟨_, rfl⟩)
theorem Ev_map {α β : Type} {g : Nat → Option α} {a : α} (f : α → β) (h : Ev g a) : Ev (fun k => (g k).map f) (f a) := by
  obtain ⟨K, hK⟩ := h
  exact ⟨K, fun n hn => by show (g n).map f = _; rw [hK n hn]; rfl⟩
/-- Both Unpacks, at every text: the letter, or the first error. -/
theorem unpack_both (s : ByteArray) (hs : s.size ≤ 140737488351232) : ∃ r, unpackF pN pT s = some r ∧ Ev (fun k => Li.letter_Unpack.f k s) (flat r) ∧ Ev (fun k => Li.shelfmarkref13_Unpack.f k s) (flat r) := by
  obtain ⟨r, hr⟩ := unpackF_tot s
  have hb : Bytes (bytesOf s) := bytesOf_bytes s
  have hl : (bytesOf s).length ≤ 140737488351232 := by rw [bytesOf_length]; exact hs
  refine ⟨r, hr, Ev_map flat (unpackF_ev (G := codeN) (T := codeT) s ?_ ?_ r hr), Ev_map flat (unpackF_ev (G := refN) (T := refT) s ?_ ?_ r hr)⟩
  · rintro p v ⟨⟩
    exact GetNum_ev _ p hb hl
  · rintro p v ⟨⟩
    exact GetText_ev _ p _ hb hl
  · rintro p v ⟨⟩
    exact Ev_map (fun r => (r.1, r.2.2.2.1, r.2.2.2.2)) (refGetNum_ev _ p hb hl)
  · rintro p v ⟨⟩
    exact Ev_map (fun r => (r.2.1, r.2.2.2.1, r.2.2.2.2)) (refGetText_ev _ p _ hb hl)
end Go.Proofs.Ythghacojbhjeaaa.Pb
namespace Go.Proofs.Ythghacojbhjeaaa.Pc
open Go Go.RowKit Go.Proofs.Ythghacojbhjeaaa.PLt Go.Proofs.YthghacojbhjeaaaW.PrintWords Go.Proofs.YthghacojbhjeaaaW.PrintLast Go.Proofs.Ythghacojbhjeaaa.Pk Go.Proofs.Ythghacojbhjeaaa.PLtEv Go.Proofs.Ythghacojbhjeaaa.Lk Go.Proofs.Ythghacojbhjeaaa.Ll
set_option linter.unusedSimpArgs false
set_option linter.unusedVariables false
/-- A number's form. -/
def eN (n : Int) : List Int := encN n.toNat
def eT (s : ByteArray) : List Int := encT (bytesOf s)
theorem eN_ev (n : Int) (h0 : 0 ≤ n) (h1 : n < 9223372036854775808) : Ev (fun k => pack_Num.f k n) (eN n) := by
  have h := Num_ev n.toNat (by omega)
  rwa [show ((n.toNat : Nat) : Int) = n by omega] at h
theorem cat_ok {b x : List Int} (h : b.length + x.length < 140737488355328) : catB b x = some (b ++ x) := by unfold catB; rw [if_pos h]
theorem cat_ev {b x : List Int} (h : b.length + x.length < 140737488355328) : Ev (fun _ => catB b x) (b ++ x) := by rw [cat_ok h]; exact Ev.now _
theorem numsB_ev : ∀ (l b : List Int), (∀ n ∈ l, 0 ≤ n ∧ n < 9223372036854775808) → b.length + (l.map eN).flatten.length < 140737488355328 → Ev (fun k => numsB k l b) (b ++ (l.map eN).flatten)
  | [], b, _, _ => by simpa [numsB] using Ev.now b
  | n :: t, b, h, hl => by
    simp only [List.map_cons, List.flatten_cons, List.length_append] at hl ⊢
    simp only [numsB]
    refine Ev.bind (eN_ev n (h n (by simp)).1 (h n (by simp)).2) (Ev.bind (cat_ev (by omega)) ?_)
    rw [← List.append_assoc]
    exact numsB_ev t (b ++ eN n) (fun m hm => h m (List.mem_cons_of_mem _ hm)) (by rw [List.length_append]; omega)
theorem textsB_ev : ∀ (l : List ByteArray) (b : List Int), (∀ s ∈ l, s.size ≤ 140737488351232) → b.length + (l.map eT).flatten.length < 140737488355328 → Ev (fun k => textsB k l b) (b ++ (l.map eT).flatten)
  | [], b, _, _ => by simpa [textsB] using Ev.now b
  | s :: t, b, h, hl => by
    simp only [List.map_cons, List.flatten_cons, List.length_append] at hl ⊢
    simp only [textsB]
    refine Ev.bind (Text_ev s (h s (by simp))) (Ev.bind (cat_ev (show b.length + (eT s).length < _ by omega)) ?_)
    rw [← List.append_assoc]
    exact textsB_ev t (b ++ eT s) (fun m hm => h m (List.mem_cons_of_mem _ hm)) (by rw [List.length_append]; omega)
theorem bitI_ok (y : Bool) : 0 ≤ bitI y ∧ bitI y < 9223372036854775808 := by unfold bitI; split <;> omega
theorem headB_ev (co : Int) (y : Bool) (b : List Int) (h0 : 0 ≤ co) (h1 : co < 9223372036854775808) (hl : b.length + (eN co ++ eN (bitI y)).length < 140737488351232) : Ev (fun k => headB k co y b) (b ++ (eN co ++ eN (bitI y))) := by
  unfold headB
  have e : [eN co, eN (bitI y)].flatten = eN co ++ eN (bitI y) := by simp
  refine Ev.bind (eN_ev co h0 h1) (Ev.bind (eN_ev _ (bitI_ok y).1 (bitI_ok y).2) (Ev.bind (Join_ev [eN co, eN (bitI y)] (by simp) (by rw [e]; omega)) ?_))
  rw [e]
  exact cat_ev (by omega)
def eP (p : S39) : List Int := eT p.f0 ++ eT p.f1
def eI (x : S41) : List Int := eT x.f0 ++ (eN x.f1 ++ eN (bitI x.f2))
theorem pairsB_ev : ∀ (l : List S39) (b : List Int), (∀ p ∈ l, p.f0.size ≤ 140737488351232 ∧ p.f1.size ≤ 140737488351232) → b.length + (l.map eP).flatten.length < 140737488351232 → Ev (fun k => pairsB k l b) (b ++ (l.map eP).flatten)
  | [], b, _, _ => by simpa [pairsB] using Ev.now b
  | p :: t, b, h, hl => by
    simp only [List.map_cons, List.flatten_cons, List.length_append] at hl ⊢
    simp only [pairsB]
    have e : [eT p.f0, eT p.f1].flatten = eP p := by simp [eP]
    refine Ev.bind (Text_ev p.f0 (h p (by simp)).1) (Ev.bind (Text_ev p.f1 (h p (by simp)).2) (Ev.bind (Join_ev [eT p.f0, eT p.f1] (by simp) (by rw [e]; omega)) ?_))
    rw [e]
    refine Ev.bind (cat_ev (show b.length + (eP p).length < _ by omega)) ?_
    rw [← List.append_assoc]
    exact pairsB_ev t (b ++ eP p) (fun m hm => h m (List.mem_cons_of_mem _ hm)) (by rw [List.length_append]; omega)
theorem intentsB_ev : ∀ (l : List S41) (b : List Int), (∀ x ∈ l, x.f0.size ≤ 140737488351232 ∧ 0 ≤ x.f1 ∧ x.f1 < 9223372036854775808) → b.length + (l.map eI).flatten.length < 140737488351232 → Ev (fun k => intentsB k l b) (b ++ (l.map eI).flatten)
  | [], b, _, _ => by simpa [intentsB] using Ev.now b
  | x :: t, b, h, hl => by
    simp only [List.map_cons, List.flatten_cons, List.length_append] at hl ⊢
    simp only [intentsB]
    have e : [eT x.f0, eN x.f1, eN (bitI x.f2)].flatten = eI x := by simp [eI]
    have hx := h x (by simp)
    refine Ev.bind (Text_ev x.f0 hx.1) (Ev.bind (eN_ev x.f1 hx.2.1 hx.2.2) (Ev.bind (eN_ev _ (bitI_ok x.f2).1 (bitI_ok x.f2).2) (Ev.bind (Join_ev [eT x.f0, eN x.f1, eN (bitI x.f2)] (by simp) (by rw [e]; omega)) ?_)))
    rw [e]
    refine Ev.bind (cat_ev (show b.length + (eI x).length < _ by omega)) ?_
    rw [← List.append_assoc]
    exact intentsB_ev t (b ++ eI x) (fun m hm => h m (List.mem_cons_of_mem _ hm)) (by rw [List.length_append]; omega)
theorem lenB_ev (n : Nat) (b : List Int) (hn : n < 9223372036854775808) (hl : b.length + (eN (n : Int)).length < 140737488355328) : Ev (fun k => lenB k n b) (b ++ eN (n : Int)) := by
  unfold lenB
  exact Ev.bind (eN_ev n (by omega) (by omega)) (cat_ev hl)
/-- A letter's bytes. -/
def bodyP (kd : Int) (ns : List Int) (co : Int) (y : Bool) (ts : List ByteArray) (ps : List S39) (is_ : List S41) : List Int :=
  eN kd ++ (ns.map eN).flatten ++ (eN co ++ eN (bitI y)) ++ (ts.map eT).flatten ++ eN (ps.length : Int) ++ (ps.map eP).flatten ++ eN (is_.length : Int) ++ (is_.map eI).flatten
theorem bodyB_ev (kd : Int) (ns : List Int) (co : Int) (y : Bool) (ts : List ByteArray) (ps : List S39) (is_ : List S41) (h0 : 0 ≤ kd ∧ kd < 9223372036854775808) (h1 : ∀ n ∈ ns, 0 ≤ n ∧ n < 9223372036854775808) (h2 : 0 ≤ co ∧ co < 9223372036854775808) (h3 : ∀ s ∈ ts, s.size ≤ 140737488351232)
    (h4 : ∀ p ∈ ps, p.f0.size ≤ 140737488351232 ∧ p.f1.size ≤ 140737488351232) (h5 : ∀ x ∈ is_, x.f0.size ≤ 140737488351232 ∧ 0 ≤ x.f1 ∧ x.f1 < 9223372036854775808) (hp : ps.length < 9223372036854775808) (hi : is_.length < 9223372036854775808) (ht : (bodyP kd ns co y ts ps is_).length < 140737488351232) :
    Ev (fun k => bodyB k kd ns co y ts ps is_) (bodyP kd ns co y ts ps is_) := by
  unfold bodyP at ht
  simp only [List.length_append] at ht
  unfold bodyB bodyP
  refine Ev.bind (eN_ev kd h0.1 h0.2) (Ev.bind (numsB_ev ns _ h1 (by omega)) (Ev.bind (headB_ev co y _ h2.1 h2.2 (by simp only [List.length_append]; omega)) (Ev.bind (textsB_ev ts _ h3 (by simp only [List.length_append]; omega)) (Ev.bind (lenB_ev ps.length _ hp (by simp only [List.length_append]; omega)) (Ev.bind (pairsB_ev ps _ h4 (by simp only [List.length_append]; omega)) (Ev.bind (lenB_ev is_.length _ hi (by simp only [List.length_append]; omega)) (intentsB_ev is_ _ h5 (by simp only [List.length_append]; omega))))))))
end Go.Proofs.Ythghacojbhjeaaa.Pc
namespace Go.Proofs.Ythghacojbhjeaaa.Pd
open Go Go.RowKit Go.Proofs.Ythghacojbhjeaaa.PLt Go.Proofs.YthghacojbhjeaaaW.PrintWords Go.Proofs.YthghacojbhjeaaaW.PrintLast Go.Proofs.Ythghacojbhjeaaa.Pk Go.Proofs.Ythghacojbhjeaaa.PLtEv Go.Proofs.Ythghacojbhjeaaa.La Go.Proofs.Ythghacojbhjeaaa.Lc Go.Proofs.Ythghacojbhjeaaa.Le Go.Proofs.Ythghacojbhjeaaa.Lk Go.Proofs.Ythghacojbhjeaaa.Ll Go.Proofs.Ythghacojbhjeaaa.Pb Go.Proofs.Ythghacojbhjeaaa.Pc
set_option linter.unusedSimpArgs false
set_option linter.unusedVariables false
/-- At place p of b stands x, then rest. -/
structure At (b : List Int) (p : Nat) (x rest : List Int) : Prop where
  le : p ≤ b.length
  drop : b.drop p = x ++ rest
theorem At.next {b x y rest : List Int} {p : Nat} (h : At b p x (y ++ rest)) : At b (p + x.length) y rest := by
  have hl : (b.drop p).length = b.length - p := List.length_drop
  have h2 := h.drop
  refine ⟨?_, ?_⟩
  · rw [h2] at hl
    simp only [List.length_append] at hl
    have := h.le
    omega
  · rw [← List.drop_drop, h2, List.drop_left]
theorem At.split {b x y rest : List Int} {p : Nat} (h : At b p (x ++ y) rest) : At b p x (y ++ rest) := ⟨h.le, by rw [h.drop, List.append_assoc]⟩
theorem bit_back (y : Bool) : (bitI y == 1) = y := by cases y <;> rfl
end Go.Proofs.Ythghacojbhjeaaa.Pd
namespace Go.Proofs.Ythghacojbhjeaaa.Pe
open Go Go.RowKit Go.Proofs.Ythghacojbhjeaaa.PLt Go.Proofs.YthghacojbhjeaaaW.PrintWords Go.Proofs.YthghacojbhjeaaaW.PrintLast Go.Proofs.Ythghacojbhjeaaa.Pk Go.Proofs.Ythghacojbhjeaaa.PLtEv Go.Proofs.Ythghacojbhjeaaa.La Go.Proofs.Ythghacojbhjeaaa.Lc Go.Proofs.Ythghacojbhjeaaa.Le Go.Proofs.Ythghacojbhjeaaa.Lk Go.Proofs.Ythghacojbhjeaaa.Ll Go.Proofs.Ythghacojbhjeaaa.Pb Go.Proofs.Ythghacojbhjeaaa.Pc Go.Proofs.Ythghacojbhjeaaa.Pd
set_option linter.unusedSimpArgs false
set_option linter.unusedVariables false
/-- From place a to place q stands x. -/
structure Rd (b : List Int) (a : Int) (x : List Int) (q : Int) : Prop where
  nn : 0 ≤ a
  end_ : q = a + x.length
  le : q ≤ b.length
  at_ : ∃ rest, b.drop a.toNat = x ++ rest
theorem Rd.nil {b : List Int} {a : Int} (h0 : 0 ≤ a) (h1 : a ≤ b.length) : Rd b a [] a := ⟨h0, by simp, h1, ⟨_, rfl⟩⟩
theorem Rd.app {b x y : List Int} {a q r : Int} (h : Rd b a x q) (k : Rd b q y r) : Rd b a (x ++ y) r := by
  obtain ⟨rest, hr⟩ := h.at_
  obtain ⟨rest', hr'⟩ := k.at_
  refine ⟨h.nn, by rw [k.end_, h.end_, List.length_append]; omega, k.le, rest', ?_⟩
  have e : q.toNat = a.toNat + x.length := by have := h.end_; have := h.nn; omega
  rw [e, ← List.drop_drop, hr, List.drop_left] at hr'
  rw [hr, hr', List.append_assoc]
theorem num_inv {b : List Int} {a e most other n q : Int} (hb : Bytes b) (ho : other ≠ 0) (h : numG pN b a e most other = some (n, q, 0)) : e = 0 ∧ 0 ≤ n ∧ n ≤ most ∧ Rd b a (eN n) q := by
  unfold numG pN at h
  by_cases he : e = 0
  · rw [if_pos he] at h
    simp only [Option.map_some, Option.some.injEq] at h
    by_cases hc : (getN b a).2.2 = 0 ∧ (getN b a).1 > most
    · rw [if_pos hc] at h
      simp only [Prod.mk.injEq] at h
      exact absurd h.2.2 ho
    · rw [if_neg hc] at h
      rw [h] at hc
      obtain ⟨h0, m, rfl, hm, hq, hql, _, rest, hrest⟩ := getN_inv hb h
      have e1 : eN (m : Int) = encN m := by unfold eN; rw [Int.toNat_natCast]
      refine ⟨he, by omega, ?_, h0, by rw [e1]; exact hq, hql, rest, by rw [e1]; exact hrest⟩
      apply Classical.byContradiction
      intro hn
      exact hc ⟨rfl, by show (m : Int) > most; omega⟩
  · rw [if_neg he] at h
    simp only [Option.some.injEq, Prod.mk.injEq] at h
    exact absurd h.2.2 he
theorem text_inv {b : List Int} {a e q : Int} {s : ByteArray} (hb : Bytes b) (h : textG pT b a e = some (s, q, 0)) : e = 0 ∧ Rd b a (eT s) q := by
  unfold textG pT at h
  by_cases he : e = 0
  · rw [if_pos he] at h
    simp only [Option.some.injEq, Prod.mk.injEq] at h
    obtain ⟨h1, h2, h3⟩ := h
    obtain ⟨v, hv⟩ : ∃ v, v = getT b a 9223372036854775807 := ⟨_, rfl⟩
    obtain ⟨t, q', e'⟩ := v
    rw [← hv] at h1 h2 h3
    simp only at h1 h2 h3
    subst h2 h3
    obtain ⟨h0, hq, hql, _, _, hbt, _, rest, hrest⟩ := getT_inv hb hv.symm
    have e1 : eT s = encT t := by unfold eT; rw [← h1, bytesOf_strOfNums hbt]
    exact ⟨he, h0, by rw [e1]; exact hq, hql, rest, by rw [e1]; exact hrest⟩
  · rw [if_neg he] at h
    simp only [Option.some.injEq, Prod.mk.injEq] at h
    exact absurd h.2.2 he
theorem Rd.inb {b x : List Int} {a q : Int} (h : Rd b a x q) : 0 ≤ q ∧ q ≤ b.length := ⟨by have := h.nn; have := h.end_; omega, h.le⟩
theorem texts_inv {b : List Int} (hb : Bytes b) : ∀ (n : Nat) (a e q : Int) (l : List ByteArray), (e = 0 → 0 ≤ a ∧ a ≤ b.length) → textsG pT b n a e = some (l, q, 0) → e = 0 ∧ l.length = n ∧ Rd b a (l.map eT).flatten q
  | 0, a, e, q, l, h0, h => by
    simp only [textsG, Option.some.injEq, Prod.mk.injEq] at h
    obtain ⟨rfl, rfl, rfl⟩ := h
    exact ⟨rfl, rfl, Rd.nil (h0 rfl).1 (h0 rfl).2⟩
  | n + 1, a, e, q, l, h0, h => by
    rw [textsG] at h
    obtain ⟨⟨v, a1, e1⟩, hv, h⟩ := Option.bind_eq_some_iff.1 h
    obtain ⟨⟨t, a2, e2⟩, ht, h⟩ := Option.bind_eq_some_iff.1 h
    simp only [Option.some.injEq, Prod.mk.injEq] at h
    obtain ⟨rfl, rfl, rfl⟩ := h
    obtain ⟨he1, hl, hr2⟩ := texts_inv hb n a1 e1 _ t (fun he => (text_inv hb (he ▸ hv)).2.inb) ht
    subst he1
    obtain ⟨he, hr⟩ := text_inv hb hv
    exact ⟨he, by rw [List.length_cons, hl], by rw [List.map_cons, List.flatten_cons]; exact hr.app hr2⟩
theorem pairs_inv {b : List Int} (hb : Bytes b) : ∀ (n : Nat) (a e q : Int) (out l : List S39), (e = 0 → 0 ≤ a ∧ a ≤ b.length) → pairsG pT b n a e out = some (l, q, 0) → e = 0 ∧ ∃ t, l = out ++ t ∧ t.length = n ∧ Rd b a (t.map eP).flatten q
  | 0, a, e, q, out, l, h0, h => by
    simp only [pairsG, Option.some.injEq, Prod.mk.injEq] at h
    obtain ⟨rfl, rfl, rfl⟩ := h
    exact ⟨rfl, [], by simp, rfl, Rd.nil (h0 rfl).1 (h0 rfl).2⟩
  | n + 1, a, e, q, out, l, h0, h => by
    rw [pairsG] at h
    by_cases he : e = 0
    · rw [if_pos he] at h
      obtain ⟨⟨x, a1, e1⟩, hx, h⟩ := Option.bind_eq_some_iff.1 h
      obtain ⟨⟨z, a2, e2⟩, hz, h⟩ := Option.bind_eq_some_iff.1 h
      obtain ⟨he2, t, rfl, hl, hr3⟩ := pairs_inv hb n a2 e2 _ _ l (fun he => (text_inv hb (he ▸ hz)).2.inb) h
      subst he2
      obtain ⟨he1, hr2⟩ := text_inv hb hz
      simp only at he1
      subst he1
      obtain ⟨_, hr1⟩ := text_inv hb hx
      exact ⟨he, ⟨x, z⟩ :: t, by simp, by rw [List.length_cons, hl], by rw [List.map_cons, List.flatten_cons]; exact (hr1.app hr2).app hr3⟩
    · rw [if_neg he] at h
      simp only [Option.some.injEq, Prod.mk.injEq] at h
      exact absurd h.2.2 he
theorem bit_of {g : Int} (h0 : 0 ≤ g) (h1 : g ≤ 1) : bitI (g == 1) = g := by
  rcases (show g = 0 ∨ g = 1 by omega) with rfl | rfl <;> rfl
theorem intents_inv {b : List Int} (hb : Bytes b) : ∀ (n : Nat) (a e q : Int) (out l : List S41), (e = 0 → 0 ≤ a ∧ a ≤ b.length) → intentsG pN pT b n a e out = some (l, q, 0) → e = 0 ∧ ∃ t, l = out ++ t ∧ t.length = n ∧ (∀ x ∈ t, 0 ≤ x.f1 ∧ x.f1 ≤ 1099511627776) ∧ Rd b a (t.map eI).flatten q
  | 0, a, e, q, out, l, h0, h => by
    simp only [intentsG, Option.some.injEq, Prod.mk.injEq] at h
    obtain ⟨rfl, rfl, rfl⟩ := h
    exact ⟨rfl, [], by simp, rfl, by simp, Rd.nil (h0 rfl).1 (h0 rfl).2⟩
  | n + 1, a, e, q, out, l, h0, h => by
    rw [intentsG] at h
    by_cases he : e = 0
    · rw [if_pos he] at h
      obtain ⟨⟨x, a1, e1⟩, hx, h⟩ := Option.bind_eq_some_iff.1 h
      obtain ⟨⟨z, a2, e2⟩, hz, h⟩ := Option.bind_eq_some_iff.1 h
      obtain ⟨⟨g, a3, e3⟩, hg, h⟩ := Option.bind_eq_some_iff.1 h
      obtain ⟨he3, t, rfl, hl, hm, hr4⟩ := intents_inv hb n a3 e3 _ _ l (fun he => (num_inv hb (by decide) (he ▸ hg)).2.2.2.inb) h
      subst he3
      obtain ⟨he2, hg0, hg1, hr3⟩ := num_inv hb (by decide) hg
      simp only at he2
      subst he2
      obtain ⟨he1, hz0, hz1, hr2⟩ := num_inv hb (by decide) hz
      simp only at he1
      subst he1
      obtain ⟨_, hr1⟩ := text_inv hb hx
      refine ⟨he, ⟨x, z, g == 1⟩ :: t, by simp, by rw [List.length_cons, hl], fun y hy => ?_, ?_⟩
      · rcases List.mem_cons.1 hy with rfl | hy
        · exact ⟨hz0, hz1⟩
        · exact hm y hy
      · rw [List.map_cons, List.flatten_cons]
        have e4 : eI (⟨x, z, g == 1⟩ : S41) = eT x ++ (eN z ++ eN g) := by unfold eI; rw [bit_of hg0 hg1]
        rw [e4]
        exact (hr1.app (hr2.app hr3)).app hr4
    · rw [if_neg he] at h
      simp only [Option.some.injEq, Prod.mk.injEq] at h
      exact absurd h.2.2 he
theorem nums_inv2 {b : List Int} (hb : Bytes b) : ∀ (n : Nat) (a e q : Int) (l : List Int), (e = 0 → 0 ≤ a ∧ a ≤ b.length) → numsG pN b n a e = some (l, q, 0) → e = 0 ∧ l.length = n ∧ (∀ m ∈ l, 0 ≤ m ∧ m ≤ 1099511627776) ∧ Rd b a (l.map eN).flatten q
  | 0, a, e, q, l, h0, h => by
    simp only [numsG, Option.some.injEq, Prod.mk.injEq] at h
    obtain ⟨rfl, rfl, rfl⟩ := h
    exact ⟨rfl, rfl, by simp, Rd.nil (h0 rfl).1 (h0 rfl).2⟩
  | n + 1, a, e, q, l, h0, h => by
    rw [numsG] at h
    obtain ⟨⟨v, a1, e1⟩, hv, h⟩ := Option.bind_eq_some_iff.1 h
    obtain ⟨⟨t, a2, e2⟩, ht, h⟩ := Option.bind_eq_some_iff.1 h
    simp only [Option.some.injEq, Prod.mk.injEq] at h
    obtain ⟨rfl, rfl, rfl⟩ := h
    obtain ⟨he1, hl, hm, hr2⟩ := nums_inv2 hb n a1 e1 _ t (fun he => (num_inv hb (by decide) (he ▸ hv)).2.2.2.inb) ht
    subst he1
    obtain ⟨he, hn0, hn1, hr⟩ := num_inv hb (by decide) hv
    refine ⟨he, by rw [List.length_cons, hl], fun m hmm => ?_, by rw [List.map_cons, List.flatten_cons]; exact hr.app hr2⟩
    rcases List.mem_cons.1 hmm with rfl | hmm
    · exact ⟨hn0, hn1⟩
    · exact hm m hmm
theorem Rd.whole {b x : List Int} (h : Rd b 0 x (b.length : Int)) : b = x := by
  obtain ⟨rest, hr⟩ := h.at_
  have hl := h.end_
  rw [Int.toNat_zero, List.drop_zero] at hr
  have : rest.length = 0 := by rw [hr, List.length_append] at hl; omega
  rw [hr, List.eq_nil_of_length_eq_zero this, List.append_nil]
/-- What is unpacked without an error has just those bytes. -/
theorem unpack_inv {b : List Int} (hb : Bytes b) {l : S27} (h : unpackG pN pT b (b.length : Int) = some (l, 0)) :
    ∃ (kd : Int) (ns : List Int) (co : Int) (y : Bool) (ts : List ByteArray) (ps : List S39) (is_ : List S41), l = mkL kd ns co (bitI y) ts ps is_ ∧ (0 ≤ kd ∧ kd ≤ 255) ∧ ns.length = 6 ∧ (∀ n ∈ ns, 0 ≤ n ∧ n ≤ 1099511627776) ∧ (0 ≤ co ∧ co ≤ 1099511627776) ∧ ts.length = 3 ∧ ps.length ≤ 256 ∧ is_.length ≤ 256 ∧ (∀ x ∈ is_, 0 ≤ x.f1 ∧ x.f1 ≤ 1099511627776) ∧ b = bodyP kd ns co y ts ps is_ := by
  unfold unpackG at h
  obtain ⟨⟨kd, a1, e1⟩, h1, h⟩ := Option.bind_eq_some_iff.1 h
  obtain ⟨⟨ns, a2, e2⟩, h2, h⟩ := Option.bind_eq_some_iff.1 h
  obtain ⟨⟨co, a3, e3⟩, h3, h⟩ := Option.bind_eq_some_iff.1 h
  obtain ⟨⟨ye, a4, e4⟩, h4, h⟩ := Option.bind_eq_some_iff.1 h
  obtain ⟨⟨ts, a5, e5⟩, h5, h⟩ := Option.bind_eq_some_iff.1 h
  obtain ⟨⟨pn, a6, e6⟩, h6, h⟩ := Option.bind_eq_some_iff.1 h
  obtain ⟨⟨ps, a7, e7⟩, h7, h⟩ := Option.bind_eq_some_iff.1 h
  obtain ⟨⟨qn, a8, e8⟩, h8, h⟩ := Option.bind_eq_some_iff.1 h
  obtain ⟨⟨is_, a9, e9⟩, h9, h⟩ := Option.bind_eq_some_iff.1 h
  simp only at h1 h2 h3 h4 h5 h6 h7 h8 h9 h
  by_cases hE : endE (b.length : Int) a9 e9 = 0
  · rw [if_pos hE] at h
    obtain ⟨rfl, _⟩ := Prod.mk.inj (Option.some.inj h)
    have hEE : e9 = 0 ∧ a9 = (b.length : Int) := by
      unfold endE at hE
      by_cases hc : e9 = 0 ∧ a9 ≠ (b.length : Int)
      · rw [if_pos hc] at hE; omega
      · rw [if_neg hc] at hE
        exact ⟨hE, Classical.byContradiction fun hn => hc ⟨hE, hn⟩⟩
    obtain ⟨rfl, rfl⟩ := hEE
    obtain ⟨rfl, is2, rfl, hil, him, r9⟩ := intents_inv hb _ a8 e8 _ [] is_ (fun he => (num_inv hb (by decide) (he ▸ h8)).2.2.2.inb) h9
    obtain ⟨rfl, hq0, hq1, r8⟩ := num_inv hb (by decide) h8
    obtain ⟨rfl, ps2, rfl, hpl, r7⟩ := pairs_inv hb _ a6 e6 _ [] ps (fun he => (num_inv hb (by decide) (he ▸ h6)).2.2.2.inb) h7
    obtain ⟨rfl, hp0, hp1, r6⟩ := num_inv hb (by decide) h6
    obtain ⟨rfl, htl, r5⟩ := texts_inv hb _ a4 e4 _ ts (fun he => (num_inv hb (by decide) (he ▸ h4)).2.2.2.inb) h5
    obtain ⟨rfl, hy0, hy1, r4⟩ := num_inv hb (by decide) h4
    obtain ⟨rfl, hc0, hc1, r3⟩ := num_inv hb (by decide) h3
    obtain ⟨rfl, hnl, hnm, r2⟩ := nums_inv2 hb _ a1 e1 _ ns (fun he => (num_inv hb (by decide) (he ▸ h1)).2.2.2.inb) h2
    obtain ⟨_, hk0, hk1, r1⟩ := num_inv hb (by decide) h1
    have ep : (ps.length : Int) = pn := by omega
    have ei : (is_.length : Int) = qn := by omega
    refine ⟨kd, ns, co, ye == 1, ts, ps, is_, ?_, ⟨hk0, hk1⟩, hnl, hnm, ⟨hc0, hc1⟩, htl, by omega, by omega, him, ?_⟩
    · rw [bit_of hy0 hy1]
    · have hw := ((((((((r1.app r2).app (r3.app r4)).app r5).app r6).app r7).app r8).app r9)).whole
      unfold bodyP
      rw [bit_of hy0 hy1, ep, ei]
      exact hw
  · rw [if_neg hE] at h
    exact absurd (Prod.mk.inj (Option.some.inj h)).2 hE
end Go.Proofs.Ythghacojbhjeaaa.Pe
namespace Go.Proofs.Ythghacojbhjeaaa.Pf
open Go Go.RowKit Go.Proofs.Ythghacojbhjeaaa.PLt Go.Proofs.YthghacojbhjeaaaW.PrintWords Go.Proofs.YthghacojbhjeaaaW.PrintLast Go.Proofs.Ythghacojbhjeaaa.Pk Go.Proofs.Ythghacojbhjeaaa.PLtEv Go.Proofs.Ythghacojbhjeaaa.La Go.Proofs.Ythghacojbhjeaaa.Lc Go.Proofs.Ythghacojbhjeaaa.Le Go.Proofs.Ythghacojbhjeaaa.Lk Go.Proofs.Ythghacojbhjeaaa.Ll Go.Proofs.Ythghacojbhjeaaa.Pb Go.Proofs.Ythghacojbhjeaaa.Pc Go.Proofs.Ythghacojbhjeaaa.Pd Go.Proofs.Ythghacojbhjeaaa.Pe
set_option linter.unusedSimpArgs false
set_option linter.unusedVariables false
/-- At place p of b stands a true beginning of x, and nothing behind it. -/
structure Cut (b : List Int) (p : Nat) (x : List Int) : Prop where
  le : p ≤ b.length
  cut : ∃ i, i < x.length ∧ b.drop p = x.take i
/-- Either all of x stands there and a beginning of y behind it, or a true beginning of x alone. -/
theorem Cut.split {b x y : List Int} {p : Nat} (h : Cut b p (x ++ y)) : (∃ rest, At b p x rest ∧ Cut b (p + x.length) y) ∨ Cut b p x := by
  obtain ⟨i, hi, hd⟩ := h.cut
  by_cases hx : i < x.length
  · refine .inr ⟨h.le, i, hx, ?_⟩
    rw [hd, List.take_append_of_le_length (by omega)]
  · have e : b.drop p = x ++ y.take (i - x.length) := by rw [hd, List.take_append, List.take_of_length_le (by omega)]
    have a : At b p x (y.take (i - x.length)) := ⟨h.le, e⟩
    have a2 : At b p x (y.take (i - x.length) ++ []) := by rw [List.append_nil]; exact a
    refine .inl ⟨_, a, a2.next.le, i - x.length, ?_, ?_⟩
    · rw [List.length_append] at hi; omega
    · have := a2.next.drop
      rwa [List.append_nil] at this
end Go.Proofs.Ythghacojbhjeaaa.Pf
namespace Go.Proofs.Ythghacojbhjeaaa.Pg
open Go Go.RowKit Go.Proofs.Ythghacojbhjeaaa.PLt Go.Proofs.YthghacojbhjeaaaW.PrintWords Go.Proofs.YthghacojbhjeaaaW.PrintLast Go.Proofs.Ythghacojbhjeaaa.Pk Go.Proofs.Ythghacojbhjeaaa.PLtEv Go.Proofs.Ythghacojbhjeaaa.Le Go.Proofs.Ythghacojbhjeaaa.Lh Go.Proofs.Ythghacojbhjeaaa.Lj Go.Proofs.Ythghacojbhjeaaa.Lk Go.Proofs.Ythghacojbhjeaaa.Ll Go.Proofs.Ythghacojbhjeaaa.Pb Go.Proofs.Ythghacojbhjeaaa.Pc Go.Proofs.Ythghacojbhjeaaa.Pd
set_option linter.unusedSimpArgs false
set_option linter.unusedVariables false
theorem wi_iff {n m : Int} : wi n m = true ↔ 0 ≤ n ∧ n ≤ m := by
  unfold wi
  rw [Bool.and_eq_true, decide_eq_true_eq, decide_eq_true_eq]
theorem good_iff {kd n1 n2 n3 n4 n5 n6 co : Int} {is_ : List S41} : goodF kd n1 n2 n3 n4 n5 n6 co is_ = true ↔ (0 ≤ kd ∧ kd ≤ 255) ∧ (0 ≤ co ∧ co ≤ 1099511627776) ∧ (∀ n ∈ [n1, n2, n3, n4, n5, n6], 0 ≤ n ∧ n ≤ 1099511627776) ∧ ∀ x ∈ is_, 0 ≤ x.f1 ∧ x.f1 ≤ 1099511627776 := by
  unfold goodF
  simp only [Bool.and_eq_true, wi_iff, List.all_eq_true]
  constructor
  · rintro ⟨⟨⟨a, b⟩, c⟩, d⟩
    exact ⟨a, b, c, d⟩
  · rintro ⟨a, b, c, d⟩
    exact ⟨⟨⟨a, b⟩, c⟩, d⟩
theorem eT_len (s : ByteArray) : s.size ≤ (eT s).length := by
  unfold eT encT
  rw [List.length_append, bytesOf_length]
  omega
theorem addB_le2 (n : Int) (s : ByteArray) (m : Int) (h : n ≤ m) : addB n s ≤ m + (s.size : Int) := by
  unfold addB mn
  split
  · split <;> omega
  · omega
theorem sumT_le : ∀ (l : List ByteArray) (n m : Int), n ≤ m → sumT n l ≤ m + ((l.map eT).flatten.length : Int)
  | [], n, m, h => by simpa [sumT] using h
  | s :: t, n, m, h => by
    have h1 := sumT_le t (addB n s) (m + (s.size : Int)) (addB_le2 n s m h)
    have h2 := eT_len s
    show sumT (addB n s) t ≤ _
    simp only [List.map_cons, List.flatten_cons, List.length_append]
    omega
theorem sumP_le : ∀ (l : List S39) (n m : Int), n ≤ m → sumP n l ≤ m + ((l.map eP).flatten.length : Int)
  | [], n, m, h => by simpa [sumP] using h
  | p :: t, n, m, h => by
    have h1 := sumP_le t (addB (addB n p.f0) p.f1) (m + (p.f0.size : Int) + (p.f1.size : Int)) (addB_le2 _ _ _ (addB_le2 n p.f0 m h))
    have h2 := eT_len p.f0
    have h3 := eT_len p.f1
    show sumP (addB (addB n p.f0) p.f1) t ≤ _
    simp only [List.map_cons, List.flatten_cons, List.length_append, eP]
    omega
theorem sumI_le : ∀ (l : List S41) (n m : Int), n ≤ m → sumI n l ≤ m + ((l.map eI).flatten.length : Int)
  | [], n, m, h => by simpa [sumI] using h
  | p :: t, n, m, h => by
    have h1 := sumI_le t (addB n p.f0) (m + (p.f0.size : Int)) (addB_le2 n p.f0 m h)
    have h2 := eT_len p.f0
    show sumI (addB n p.f0) t ≤ _
    simp only [List.map_cons, List.flatten_cons, List.length_append, eI]
    omega
/-- A bulk that is too large is a body that is too long. -/
theorem bulk_le (kd : Int) (ns : List Int) (co : Int) (y : Bool) (s t b : ByteArray) (ps : List S39) (is_ : List S41) : bulkF s t b ps is_ ≤ ((bodyP kd ns co y [s, t, b] ps is_).length : Int) := by
  have h1 := sumT_le [s, t, b] 0 0 (by omega)
  have h2 := sumP_le ps _ _ h1
  have h3 := sumI_le is_ _ _ h2
  unfold bulkF bodyP
  simp only [List.length_append] at h3 ⊢
  omega
/-- What Pack answers. -/
def packP (kd n1 n2 n3 n4 n5 n6 : Int) (s t : ByteArray) (ps : List S39) (is_ : List S41) (co : Int) (y : Bool) (b : ByteArray) : ByteArray × Int :=
  if goodF kd n1 n2 n3 n4 n5 n6 co is_ = true then (if (ps.length : Int) > 256 ∨ (is_.length : Int) > 256 then (⟨#[]⟩, 4) else endB (bodyP kd [n1, n2, n3, n4, n5, n6] co y [s, t, b] ps is_)) else (⟨#[]⟩, 1)
theorem Pack_ev (kd n1 n2 n3 n4 n5 n6 : Int) (s t : ByteArray) (ps : List S39) (is_ : List S41) (co : Int) (y : Bool) (b : ByteArray) (h3 : ∀ x ∈ [s, t, b], x.size ≤ 140737488351232) (h4 : ∀ p ∈ ps, p.f0.size ≤ 140737488351232 ∧ p.f1.size ≤ 140737488351232) (h5 : ∀ x ∈ is_, x.f0.size ≤ 140737488351232)
    (ht : (bodyP kd [n1, n2, n3, n4, n5, n6] co y [s, t, b] ps is_).length < 140737488351232) : Ev (fun k => Ll.letter_Pack.f k kd n1 n2 n3 n4 n5 n6 s t ps is_ co y b) (packP kd n1 n2 n3 n4 n5 n6 s t ps is_ co y b) := by
  unfold Ll.letter_Pack.f packP
  cases hg : goodF kd n1 n2 n3 n4 n5 n6 co is_ with
  | false => simp only [Bool.false_eq_true, if_false]; exact Ev.now _
  | true =>
    simp only [if_true]
    obtain ⟨g1, g2, g3, g4⟩ := good_iff.1 hg
    by_cases hl : (ps.length : Int) > 256 ∨ (is_.length : Int) > 256
    · rw [if_pos hl]
      have hl2 : (ps.length : Int) > 256 ∨ (is_.length : Int) > 256 ∨ bulkF s t b ps is_ > 65536 := by
        rcases hl with h | h
        · exact .inl h
        · exact .inr (.inl h)
      simp only [if_pos hl2]
      exact Ev.now _
    · rw [if_neg hl]
      by_cases hb : bulkF s t b ps is_ > 65536
      · have hl2 : (ps.length : Int) > 256 ∨ (is_.length : Int) > 256 ∨ bulkF s t b ps is_ > 65536 := .inr (.inr hb)
        have hle := bulk_le kd [n1, n2, n3, n4, n5, n6] co y s t b ps is_
        have he : endB (bodyP kd [n1, n2, n3, n4, n5, n6] co y [s, t, b] ps is_) = (⟨#[]⟩, 4) := by unfold endB; rw [if_pos (by omega)]
        rw [he]
        simp only [if_pos hl2]
        exact Ev.now _
      · have hl2 : ¬ ((ps.length : Int) > 256 ∨ (is_.length : Int) > 256 ∨ bulkF s t b ps is_ > 65536) := by
          rintro (h | h | h)
          · exact hl (.inl h)
          · exact hl (.inr h)
          · exact hb h
        simp only [if_neg hl2]
        exact Ev_map endB (bodyB_ev kd _ co y _ ps is_ ⟨g1.1, by omega⟩ (fun n hn => ⟨(g3 n hn).1, by have := (g3 n hn).2; omega⟩) ⟨g2.1, by omega⟩ h3 h4 (fun x hx => ⟨h5 x hx, (g4 x hx).1, by have := (g4 x hx).2; omega⟩) (by have h := fun x => hl (.inl x); omega) (by have h := fun x => hl (.inr x); omega) ht)
end Go.Proofs.Ythghacojbhjeaaa.Pg
namespace Go.Proofs.Ythghacojbhjeaaa.Ph
open Go Go.RowKit Go.Proofs.Ythghacojbhjeaaa.PLt Go.Proofs.YthghacojbhjeaaaW.PrintWords Go.Proofs.YthghacojbhjeaaaW.PrintLast Go.Proofs.Ythghacojbhjeaaa.Pk Go.Proofs.Ythghacojbhjeaaa.PLtEv Go.Proofs.Ythghacojbhjeaaa.Lj Go.Proofs.Ythghacojbhjeaaa.Lk Go.Proofs.Ythghacojbhjeaaa.Ll Go.Proofs.Ythghacojbhjeaaa.Pc Go.Proofs.Ythghacojbhjeaaa.Pg
set_option linter.unusedSimpArgs false
set_option linter.unusedVariables false
end Go.Proofs.Ythghacojbhjeaaa.Ph
namespace Go.Proofs.Ythghacojbhjeaaa.Pi
open Go Go.RowKit Go.Proofs.Ythghacojbhjeaaa.PLt Go.Proofs.YthghacojbhjeaaaW.PrintWords Go.Proofs.YthghacojbhjeaaaW.PrintLast Go.Proofs.YthghacojbhjeaaaW.PrintMore Go.Proofs.Ythghacojbhjeaaa.Pk Go.Proofs.Ythghacojbhjeaaa.PLtEv Go.Proofs.Ythghacojbhjeaaa.Lh Go.Proofs.Ythghacojbhjeaaa.Lj Go.Proofs.Ythghacojbhjeaaa.Lk Go.Proofs.Ythghacojbhjeaaa.Ll Go.Proofs.Ythghacojbhjeaaa.Pc Go.Proofs.Ythghacojbhjeaaa.Pg Go.Proofs.Ythghacojbhjeaaa.Ph
set_option linter.unusedSimpArgs false
set_option linter.unusedVariables false
end Go.Proofs.Ythghacojbhjeaaa.Pi
namespace Go.Proofs.Ythghacojbhjeaaa.Pj
open Go Go.RowKit Go.Proofs.Ythghacojbhjeaaa.PLt Go.Proofs.YthghacojbhjeaaaW.PrintWords Go.Proofs.YthghacojbhjeaaaW.PrintLast Go.Proofs.YthghacojbhjeaaaW.PrintMore Go.Proofs.Ythghacojbhjeaaa.Pk Go.Proofs.Ythghacojbhjeaaa.PLtEv
set_option linter.unusedSimpArgs false
set_option linter.unusedVariables false
theorem toList_eq {a b : ByteArray} : a.toList = b.toList ↔ a = b := by
  constructor
  · intro h
    rw [ByteArray.toList_eq, ByteArray.toList_eq] at h
    have h2 : bytesOf a = bytesOf b := by unfold bytesOf; rw [h]
    rw [← strOfNums_bytesOf a, h2, strOfNums_bytesOf]
  · intro h
    rw [h]
theorem beq_str (a b : ByteArray) : ((a.toList == b.toList) = true) ↔ a = b := by
  rw [beq_iff_eq, toList_eq]
theorem s41_eq {a b : S41} : (!((a.f0.toList) == (b.f0.toList)) || (!((a.f1) == (b.f1)) || (!((a.f2) == (b.f2))))) = true ↔ ¬ a = b := by
  cases a with
  | mk a0 a1 a2 =>
    cases b with
    | mk b0 b1 b2 =>
      simp only [S41.mk.injEq, Bool.or_eq_true, Bool.not_eq_true', ← Bool.not_eq_true, beq_iff_eq, toList_eq]
      constructor
      · rintro (h | h | h) ⟨e1, e2, e3⟩
        · exact h e1
        · exact h e2
        · exact h e3
      · intro h
        by_cases h0 : a0 = b0
        · by_cases h1 : a1 = b1
          · exact .inr (.inr fun h2 => h ⟨h0, h1, h2⟩)
          · exact .inr (.inl h1)
        · exact .inl h0
theorem s39_eq {a b : S39} : (!((a.f0.toList) == (b.f0.toList)) || (!((a.f1.toList) == (b.f1.toList)))) = true ↔ ¬ a = b := by
  cases a with
  | mk a0 a1 =>
    cases b with
    | mk b0 b1 =>
      simp only [S39.mk.injEq, Bool.or_eq_true, Bool.not_eq_true', ← Bool.not_eq_true, beq_iff_eq, toList_eq]
      constructor
      · rintro (h | h) ⟨e1, e2⟩
        · exact h e1
        · exact h e2
      · intro h
        by_cases h0 : a0 = b0
        · exact .inr fun h1 => h ⟨h0, h1⟩
        · exact .inl h0
theorem cut_cons {α : Type} {a : List α} {i : Nat} (h : i < a.length) : ∃ c r, a.drop i = c :: r := ⟨_, _, List.drop_eq_getElem_cons h⟩
theorem same41 (xs ys : List S41) (hl : xs.length = ys.length) (hb : xs.length < 9223372036854775807) (r : List S41) : ∀ i : Nat, xs.drop i = r → i ≤ xs.length → ∃ v, Ev (fun k => shelfmarkref13_SameIntents.l0 k xs ys (i : Int)) v ∧ (v = true ↔ xs.drop i = ys.drop i) := by
  induction r with
  | nil =>
    intro i hd hi
    have hi2 := dropd_nil hd
    refine ⟨true, Ev.step (fun _ => shelfmarkref13_SameIntents.l0.eq_2 ..) ?_, ?_⟩
    · simp only [if_neg (show ¬ (i : Int) < (xs.length : Int) by omega)]
      exact Ev.now _
    · rw [hd, List.drop_eq_nil_of_le (show ys.length ≤ i by omega)]
      simp
  | cons c r ih =>
    intro i hd hi
    obtain ⟨hc0, hlt, hd'⟩ := rdOf_drop (d := z41) hd
    have hc : rd_T41 xs (i : Int) = c := hc0
    obtain ⟨d, r2, hy⟩ := cut_cons (a := ys) (i := i) (by omega)
    obtain ⟨hy0, hlt2, hy'⟩ := rdOf_drop (d := z41) hy
    have hyc : rd_T41 ys (i : Int) = d := hy0
    by_cases he : c = d
    · obtain ⟨v, hv, h⟩ := ih (i + 1) hd' (by omega)
      refine ⟨v, Ev.step (fun _ => shelfmarkref13_SameIntents.l0.eq_2 ..) ?_, ?_⟩
      · simp only [if_pos (show (i : Int) < (xs.length : Int) by omega), if_pos (show (0 : Int) ≤ (i : Int) by omega), if_pos (show (i : Int) < (ys.length : Int) by omega), hc, hyc]
        refine Ev.congr (fun k => by rw [if_neg (fun x => s41_eq.1 x he), w64 (x := (i : Int) + 1) (by omega) (by omega), show ((i : Int) + 1) = ((i + 1 : Nat) : Int) by omega]) hv
      · rw [h, hd', hy', hd, hy, he]
        simp
    · refine ⟨false, Ev.step (fun _ => shelfmarkref13_SameIntents.l0.eq_2 ..) ?_, ?_⟩
      · simp only [if_pos (show (i : Int) < (xs.length : Int) by omega), if_pos (show (0 : Int) ≤ (i : Int) by omega), if_pos (show (i : Int) < (ys.length : Int) by omega), hc, hyc]
        refine Ev.congr (fun k => by rw [if_pos (s41_eq.2 he)]) (Ev.now _)
      · rw [hd, hy]
        simp [he]
theorem intents_ev (xs ys : List S41) (hb : xs.length < 9223372036854775807) : ∃ v, Ev (fun k => shelfmarkref13_SameIntents.f k xs ys) v ∧ (v = true ↔ xs = ys) := by
  unfold shelfmarkref13_SameIntents.f
  by_cases hl : (xs.length : Int) = (ys.length : Int)
  · obtain ⟨v, hv, h⟩ := same41 xs ys (by omega) hb xs 0 (by simp) (by omega)
    refine ⟨v, ?_, by simpa using h⟩
    simp only [if_pos hl]
    exact hv
  · refine ⟨false, ?_, ?_⟩
    · simp only [if_neg hl]
      exact Ev.now _
    · simp only [Bool.false_eq_true, false_iff]
      rintro rfl
      exact hl rfl
theorem same1 (a b : S27) (xs ys : List Int) (hl : xs.length = ys.length) (hb : xs.length < 9223372036854775807) (r : List Int) : ∀ i : Nat, xs.drop i = r → i ≤ xs.length → ∃ v, Ev (fun k => shelfmarkref13_Same.l1 k xs ys (i : Int) a.f0 a.f1 a.f2 a.f3 a.f4 a.f5 a.f6 a.f7 a.f8 a.f9 a.f10 a.f11 a.f12 a.f13 b.f0 b.f1 b.f2 b.f3 b.f4 b.f5 b.f6 b.f7 b.f8 b.f9 b.f10 b.f11 b.f12 b.f13) v ∧ (v = true ↔ xs.drop i = ys.drop i ∧ a.f0 = b.f0 ∧ a.f12 = b.f12 ∧ a.f7 = b.f7 ∧ a.f8 = b.f8 ∧ a.f13 = b.f13) := by
  induction r with
  | nil =>
    intro i hd hi
    have hi2 := dropd_nil hd
    by_cases hall : a.f0 = b.f0 ∧ a.f12 = b.f12 ∧ a.f7 = b.f7 ∧ a.f8 = b.f8
    · obtain ⟨h0, h12, h7, h8⟩ := hall
      refine ⟨a.f13.toList == b.f13.toList, Ev.step (fun _ => shelfmarkref13_Same.l1.eq_2 ..) ?_, ?_⟩
      · simp only [if_neg (show ¬ (i : Int) < (xs.length : Int) by omega), if_pos h0, h12, beq_self_eq_true, if_true, h7, h8]
        exact Ev.now _
      · rw [hd, List.drop_eq_nil_of_le (show ys.length ≤ i by omega), beq_str]
        simp [h0, h12, h7, h8]
    · refine ⟨false, Ev.step (fun _ => shelfmarkref13_Same.l1.eq_2 ..) ?_, ?_⟩
      · simp only [if_neg (show ¬ (i : Int) < (xs.length : Int) by omega), toList_eq, beq_iff_eq]
        refine Ev.congr (f := fun _ => some false) (fun k => ?_) (Ev.now _)
        split
        · split
          · split
            · split
              · exact absurd ⟨by assumption, by assumption, by assumption, by assumption⟩ hall
              · rfl
            · rfl
          · rfl
        · rfl
      · simp only [Bool.false_eq_true, false_iff]
        rintro ⟨_, h0, h12, h7, h8, _⟩
        exact hall ⟨h0, h12, h7, h8⟩
  | cons c r ih =>
    intro i hd hi
    obtain ⟨hc, hlt, hd'⟩ := rd_drop hd
    obtain ⟨d, r2, hy⟩ := cut_cons (a := ys) (i := i) (by omega)
    obtain ⟨hyc, hlt2, hy'⟩ := rd_drop hy
    by_cases he : c = d
    · obtain ⟨v, hv, h⟩ := ih (i + 1) hd' (by omega)
      refine ⟨v, Ev.step (fun _ => shelfmarkref13_Same.l1.eq_2 ..) ?_, ?_⟩
      · simp only [if_pos (show (i : Int) < (xs.length : Int) by omega), if_pos (show (0 : Int) ≤ (i : Int) by omega), if_pos (show (i : Int) < (ys.length : Int) by omega), hc, hyc, if_pos he]
        refine Ev.congr (fun k => by rw [w64 (x := (i : Int) + 1) (by omega) (by omega), show ((i : Int) + 1) = ((i + 1 : Nat) : Int) by omega]) hv
      · rw [h, hd', hy', hd, hy, he]
        simp
    · refine ⟨false, Ev.step (fun _ => shelfmarkref13_Same.l1.eq_2 ..) ?_, ?_⟩
      · simp only [if_pos (show (i : Int) < (xs.length : Int) by omega), if_pos (show (0 : Int) ≤ (i : Int) by omega), if_pos (show (i : Int) < (ys.length : Int) by omega), hc, hyc, if_neg he]
        exact Ev.now _
      · rw [hd, hy]
        simp [he]
def Rest (a b : S27) : Prop := (a.f1 = b.f1 ∧ a.f2 = b.f2 ∧ a.f3 = b.f3 ∧ a.f4 = b.f4 ∧ a.f5 = b.f5 ∧ a.f6 = b.f6 ∧ a.f11 = b.f11) ∧ a.f0 = b.f0 ∧ a.f12 = b.f12 ∧ a.f7 = b.f7 ∧ a.f8 = b.f8 ∧ a.f13 = b.f13
theorem same0 (a b : S27) (hl : a.f9.length = b.f9.length) (hb : a.f9.length < 9223372036854775807) (r : List S39) : ∀ i : Nat, a.f9.drop i = r → i ≤ a.f9.length → ∃ v, Ev (fun k => shelfmarkref13_Same.l0 k (i : Int) a.f0 a.f1 a.f2 a.f3 a.f4 a.f5 a.f6 a.f7 a.f8 a.f9 a.f10 a.f11 a.f12 a.f13 b.f0 b.f1 b.f2 b.f3 b.f4 b.f5 b.f6 b.f7 b.f8 b.f9 b.f10 b.f11 b.f12 b.f13) v ∧ (v = true ↔ a.f9.drop i = b.f9.drop i ∧ Rest a b) := by
  induction r with
  | nil =>
    intro i hd hi
    have hi2 := dropd_nil hd
    obtain ⟨v, hv, h⟩ := same1 a b [a.f1, a.f2, a.f3, a.f4, a.f5, a.f6, a.f11] [b.f1, b.f2, b.f3, b.f4, b.f5, b.f6, b.f11] rfl (by simp) _ 0 rfl (by omega)
    refine ⟨v, Ev.step (fun _ => shelfmarkref13_Same.l0.eq_2 ..) ?_, ?_⟩
    · simp only [if_neg (show ¬ (i : Int) < (a.f9.length : Int) by omega)]
      refine Ev.congr (f := fun k => shelfmarkref13_Same.l1 k [a.f1, a.f2, a.f3, a.f4, a.f5, a.f6, a.f11] [b.f1, b.f2, b.f3, b.f4, b.f5, b.f6, b.f11] ((0 : Nat) : Int) a.f0 a.f1 a.f2 a.f3 a.f4 a.f5 a.f6 a.f7 a.f8 a.f9 a.f10 a.f11 a.f12 a.f13 b.f0 b.f1 b.f2 b.f3 b.f4 b.f5 b.f6 b.f7 b.f8 b.f9 b.f10 b.f11 b.f12 b.f13) (fun k => rfl) hv
    · rw [h, hd, List.drop_eq_nil_of_le (show b.f9.length ≤ i by omega)]
      unfold Rest
      simp
  | cons c r ih =>
    intro i hd hi
    obtain ⟨hc0, hlt, hd'⟩ := rdOf_drop (d := z39) hd
    have hc : rd_T39 a.f9 (i : Int) = c := hc0
    obtain ⟨d, r2, hy⟩ := cut_cons (a := b.f9) (i := i) (by omega)
    obtain ⟨hy0, hlt2, hy'⟩ := rdOf_drop (d := z39) hy
    have hyc : rd_T39 b.f9 (i : Int) = d := hy0
    by_cases he : c = d
    · obtain ⟨v, hv, h⟩ := ih (i + 1) hd' (by omega)
      refine ⟨v, Ev.step (fun _ => shelfmarkref13_Same.l0.eq_2 ..) ?_, ?_⟩
      · simp only [if_pos (show (i : Int) < (a.f9.length : Int) by omega), if_pos (show (0 : Int) ≤ (i : Int) by omega), if_pos (show (i : Int) < (b.f9.length : Int) by omega), hc, hyc]
        refine Ev.congr (fun k => by rw [if_neg (fun x => s39_eq.1 x he), w64 (x := (i : Int) + 1) (by omega) (by omega), show ((i : Int) + 1) = ((i + 1 : Nat) : Int) by omega]) hv
      · rw [h, hd', hy', hd, hy, he]
        simp
    · refine ⟨false, Ev.step (fun _ => shelfmarkref13_Same.l0.eq_2 ..) ?_, ?_⟩
      · simp only [if_pos (show (i : Int) < (a.f9.length : Int) by omega), if_pos (show (0 : Int) ≤ (i : Int) by omega), if_pos (show (i : Int) < (b.f9.length : Int) by omega), hc, hyc]
        refine Ev.congr (fun k => by rw [if_pos (s39_eq.2 he)]) (Ev.now _)
      · rw [hd, hy]
        simp [he]
/-- Same says whether two letters are one. -/
theorem Same_ev (a b : S27) (h9 : a.f9.length < 9223372036854775807) (h10 : a.f10.length < 9223372036854775807) : ∃ v, Ev (fun k => shelfmarkref13_Same.f k a.f0 a.f1 a.f2 a.f3 a.f4 a.f5 a.f6 a.f7 a.f8 a.f9 a.f10 a.f11 a.f12 a.f13 b.f0 b.f1 b.f2 b.f3 b.f4 b.f5 b.f6 b.f7 b.f8 b.f9 b.f10 b.f11 b.f12 b.f13) v ∧ (v = true ↔ a = b) := by
  unfold shelfmarkref13_Same.f
  by_cases hl : (a.f9.length : Int) = (b.f9.length : Int)
  · obtain ⟨u, hu, h⟩ := intents_ev a.f10 b.f10 h10
    cases u with
    | false =>
      refine ⟨false, ?_, ?_⟩
      · simp only [if_pos hl]
        refine Ev.bind hu (Ev.step (fun _ => shelfmarkref13_Same.j0.eq_2 ..) ?_)
        exact Ev.now _
      · simp only [Bool.false_eq_true, false_iff] at h ⊢
        rintro rfl
        exact h rfl
    | true =>
      obtain ⟨v, hv, hr⟩ := same0 a b (by omega) h9 a.f9 0 (by simp) (by omega)
      refine ⟨v, ?_, ?_⟩
      · simp only [if_pos hl]
        refine Ev.bind hu (Ev.step (fun _ => shelfmarkref13_Same.j0.eq_2 ..) ?_)
        exact hv
      · have e10 := h.1 rfl
        rw [hr]
        constructor
        · rintro ⟨e9, ⟨e1, e2, e3, e4, e5, e6, e11⟩, e0, e12, e7, e8, e13⟩
          cases a
          cases b
          simp only [List.drop_zero] at e9
          simp only at *
          subst e0 e1 e2 e3 e4 e5 e6 e7 e8 e9 e10 e11 e12 e13
          rfl
        · rintro rfl
          exact ⟨rfl, ⟨rfl, rfl, rfl, rfl, rfl, rfl, rfl⟩, rfl, rfl, rfl, rfl, rfl⟩
  · refine ⟨false, ?_, ?_⟩
    · simp only [if_neg hl]
      refine Ev.step (fun _ => shelfmarkref13_Same.j0.eq_2 ..) ?_
      exact Ev.now _
    · simp only [Bool.false_eq_true, false_iff]
      rintro rfl
      exact hl rfl
end Go.Proofs.Ythghacojbhjeaaa.Pj
namespace Go.Proofs.Ythghacojbhjeaaa.Pl
open Go Go.RowKit Go.Proofs.Ythghacojbhjeaaa.PLt Go.Proofs.YthghacojbhjeaaaW.PrintWords Go.Proofs.YthghacojbhjeaaaW.PrintLast Go.Proofs.YthghacojbhjeaaaW.PrintMore Go.Proofs.Ythghacojbhjeaaa.Pk Go.Proofs.Ythghacojbhjeaaa.PLtEv Go.Proofs.Ythghacojbhjeaaa.Le Go.Proofs.Ythghacojbhjeaaa.Li Go.Proofs.Ythghacojbhjeaaa.Lh Go.Proofs.Ythghacojbhjeaaa.Lj Go.Proofs.Ythghacojbhjeaaa.Lk Go.Proofs.Ythghacojbhjeaaa.Ll Go.Proofs.Ythghacojbhjeaaa.Pb Go.Proofs.Ythghacojbhjeaaa.Pc Go.Proofs.Ythghacojbhjeaaa.Pd Go.Proofs.Ythghacojbhjeaaa.Pe Go.Proofs.Ythghacojbhjeaaa.Pf Go.Proofs.Ythghacojbhjeaaa.Pg Go.Proofs.Ythghacojbhjeaaa.Ph Go.Proofs.Ythghacojbhjeaaa.Pi Go.Proofs.Ythghacojbhjeaaa.Pj
set_option linter.unusedSimpArgs false
set_option linter.unusedVariables false
def nsX (x : S27) : List Int := [x.f1, x.f2, x.f3, x.f4, x.f5, x.f6]
def tsX (x : S27) : List ByteArray := [x.f7, x.f8, x.f13]
def bodyX (x : S27) : List Int := bodyP x.f0 (nsX x) x.f11 x.f12 (tsX x) x.f9 x.f10
def packX (x : S27) : ByteArray × Int := packP x.f0 x.f1 x.f2 x.f3 x.f4 x.f5 x.f6 x.f7 x.f8 x.f9 x.f10 x.f11 x.f12 x.f13
def goodX (x : S27) : Bool := goodF x.f0 x.f1 x.f2 x.f3 x.f4 x.f5 x.f6 x.f11 x.f10
/-- A letter that may be packed. -/
structure OkX (x : S27) : Prop where
  good : goodX x = true
  hp : x.f9.length ≤ 256
  hi : x.f10.length ≤ 256
  len : (bodyX x).length ≤ 65536
theorem packX_ok {x : S27} (h : OkX x) : packX x = (strOfNums (bodyX x), 0) := by
  have hg : goodF x.f0 x.f1 x.f2 x.f3 x.f4 x.f5 x.f6 x.f11 x.f10 = true := h.good
  have h1 := h.hp
  have h2 := h.hi
  have h3 := h.len
  unfold packX packP
  rw [if_pos hg, if_neg (by omega)]
  show endB (bodyX x) = _
  unfold endB
  rw [if_neg (by omega)]
theorem mem_flat {α : Type} {g : α → List Int} {a : α} : ∀ {l : List α}, a ∈ l → (g a).length ≤ ((l.map g).flatten).length
  | c :: l, h => by
    simp only [List.map_cons, List.flatten_cons, List.length_append]
    rcases List.mem_cons.1 h with rfl | h
    · omega
    · have := mem_flat (g := g) h
      omega
theorem size_T {x : S27} {s : ByteArray} (h : s ∈ tsX x) : s.size ≤ (bodyX x).length := by
  have h1 := mem_flat (g := eT) h
  have h2 := eT_len s
  unfold bodyX bodyP
  simp only [List.length_append]
  omega
theorem size_P {x : S27} {p : S39} (h : p ∈ x.f9) : p.f0.size + p.f1.size ≤ (bodyX x).length := by
  have h1 := mem_flat (g := eP) h
  have h2 := eT_len p.f0
  have h3 := eT_len p.f1
  have h4 : (eP p).length = (eT p.f0).length + (eT p.f1).length := by simp [eP]
  unfold bodyX bodyP
  simp only [List.length_append]
  omega
theorem size_I {x : S27} {p : S41} (h : p ∈ x.f10) : p.f0.size ≤ (bodyX x).length := by
  have h1 := mem_flat (g := eI) h
  have h2 := eT_len p.f0
  have h4 : (eI p).length = (eT p.f0).length + ((eN p.f1).length + (eN (bitI p.f2)).length) := by simp [eI]
  unfold bodyX bodyP
  simp only [List.length_append]
  omega
theorem list6 {l : List Int} (h : l.length = 6) : l = [l.getD 0 0, l.getD 1 0, l.getD 2 0, l.getD 3 0, l.getD 4 0, l.getD 5 0] := by
  rcases l with _ | ⟨a, _ | ⟨b, _ | ⟨c, _ | ⟨d, _ | ⟨e, _ | ⟨f, _ | ⟨g, l⟩⟩⟩⟩⟩⟩⟩
  all_goals first | rfl | (simp only [List.length_cons, List.length_nil] at h; omega)
theorem list3 {l : List ByteArray} (h : l.length = 3) : l = [l.getD 0 ⟨#[]⟩, l.getD 1 ⟨#[]⟩, l.getD 2 ⟨#[]⟩] := by
  rcases l with _ | ⟨a, _ | ⟨b, _ | ⟨c, _ | ⟨d, l⟩⟩⟩⟩
  all_goals first | rfl | (simp only [List.length_cons, List.length_nil] at h; omega)
theorem unpacked {s : ByteArray} {x : S27} (h : unpackF pN pT s = some (x, 0)) : OkX x ∧ bodyX x = bytesOf s := by
  unfold unpackF at h
  by_cases hs : (s.size : Int) > 65536
  · rw [if_pos hs] at h
    cases h
  · rw [if_neg hs, ← bytesOf_length] at h
    obtain ⟨kd, ns, co, y, ts, ps, is_, rfl, h0, h6, h1, h2, h3, hp, hi, h5, hb⟩ := unpack_inv (bytesOf_bytes s) h
    have e : bodyX (mkL kd ns co (bitI y) ts ps is_) = bytesOf s := by
      rw [hb]
      show bodyP kd [ns.getD 0 0, ns.getD 1 0, ns.getD 2 0, ns.getD 3 0, ns.getD 4 0, ns.getD 5 0] co (bitI y == 1) [ts.getD 0 ⟨#[]⟩, ts.getD 1 ⟨#[]⟩, ts.getD 2 ⟨#[]⟩] ps is_ = _
      rw [← list6 h6, ← list3 h3, bit_back]
    refine ⟨⟨?_, hp, hi, ?_⟩, e⟩
    · refine good_iff.2 ⟨h0, h2, ?_, h5⟩
      intro n hn
      refine h1 n ?_
      rw [list6 h6]
      exact hn
    · rw [e, bytesOf_length]
      omega
theorem bind_const {α β : Type} {o : Option α} {f : α → Option β} {P : β → Prop} (h : ∀ a r, f a = some r → P r) : ∀ r, o.bind f = some r → P r := by
  intro r hr
  obtain ⟨a, _, h2⟩ := Option.bind_eq_some_iff.1 hr
  exact h a r h2
theorem unpacked_err {s : ByteArray} {r : S27 × Int} (h : unpackF pN pT s = some r) : r.2 = 0 ∨ r.1 = z27 := by
  unfold unpackF at h
  by_cases hs : (s.size : Int) > 65536
  · rw [if_pos hs] at h
    cases h
    exact .inr rfl
  · rw [if_neg hs] at h
    unfold unpackG at h
    refine bind_const (P := fun r => r.2 = 0 ∨ r.1 = z27) (fun _ => bind_const fun _ => bind_const fun _ => bind_const fun _ => bind_const fun _ => bind_const fun _ => bind_const fun _ => bind_const fun _ => bind_const fun _ => ?_) r h
    intro r hr
    cases hr
    split
    · exact .inl rfl
    · exact .inr rfl
theorem awake_ev : Ev (fun k => shelfmarklaw13_awake.f k) true := Ev.of shelfmarklaw13_awake.mono (k := 40) (by decide +kernel)
/-- Pack of what was unpacked. -/
theorem pack_ev {x : S27} (h : OkX x) : Ev (fun k => Ll.letter_Pack.f k x.f0 x.f1 x.f2 x.f3 x.f4 x.f5 x.f6 x.f7 x.f8 x.f9 x.f10 x.f11 x.f12 x.f13) (strOfNums (bodyX x), 0) := by
  have hl := h.len
  rw [← packX_ok h]
  exact Pack_ev x.f0 x.f1 x.f2 x.f3 x.f4 x.f5 x.f6 x.f7 x.f8 x.f9 x.f10 x.f11 x.f12 x.f13 (fun s hs => by have := size_T (x := x) hs; omega) (fun p hp => by have := size_P hp; omega) (fun p hp => by have := size_I hp; omega) (show (bodyX x).length < _ by omega)
end Go.Proofs.Ythghacojbhjeaaa.Pl
