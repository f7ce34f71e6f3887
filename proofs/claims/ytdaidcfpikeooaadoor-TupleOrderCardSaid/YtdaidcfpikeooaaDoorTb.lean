/- DERIVED. Numbers of 64 bits by their bytes. Conditions: those that each lemma names. -/
import Derived.Test.YtdaidcfpikeooaaDoorHl
import Derived.Laws.BitsLemmas
namespace Go.Proofs.YtdaidcfpikeooaaDoor.Tb
open Go.RowKit Go.Proofs.YtdaidcfpikeooaaDoorW.PrintWords Go.Proofs.YtdaidcfpikeooaaDoorW.PrintLast Go.Proofs.YtdaidcfpikeooaaDoor.Hl
set_option linter.unusedSimpArgs false
theorem wrap_u64 (n : Int) : IntKind.u64.wrap n = n % 18446744073709551616 := by simp [IntKind.wrap, IntKind.bits, IntKind.signed]
theorem xor_low (b : Nat) (h : b < 9223372036854775808) : b ^^^ 9223372036854775808 = b + 9223372036854775808 := by
  have h1 : b + 9223372036854775808 = 2 ^ 63 * 1 ||| b := by
    rw [← Nat.two_pow_add_eq_or_of_lt (i := 63) (by simpa using h) 1]; omega
  rw [h1]
  apply Nat.eq_of_testBit_eq
  intro i
  rw [Nat.testBit_xor, Nat.testBit_or, show (9223372036854775808 : Nat) = 2 ^ 63 from rfl, Nat.mul_one, Nat.testBit_two_pow]
  by_cases hi : 63 = i
  · subst hi
    rw [Nat.testBit_lt_two_pow (show b < 2 ^ 63 by simpa using h)]
    simp
  · simp [hi]
theorem xor_top (a : Nat) (h : a < 18446744073709551616) : a ^^^ 9223372036854775808 = (a + 9223372036854775808) % 18446744073709551616 := by
  by_cases h1 : a < 9223372036854775808
  · rw [xor_low a h1]; omega
  · obtain ⟨b, rfl⟩ : ∃ b, a = b + 9223372036854775808 := ⟨a - 9223372036854775808, by omega⟩
    rw [← xor_low b (by omega), Nat.xor_assoc, Nat.xor_self, Nat.xor_zero, xor_low b (by omega)]
    omega
theorem bits_top (x : Int) (h0 : 0 ≤ x) (h1 : x < 18446744073709551616) : bits .xor .u64 x 9223372036854775808 = (x + 9223372036854775808) % 18446744073709551616 := by
  obtain ⟨a, rfl⟩ := Int.eq_ofNat_of_zero_le h0
  have h2 : a < 18446744073709551616 := by omega
  have h3 : a % 2 ^ IntKind.u64.bits = a := Nat.mod_eq_of_lt (by simpa [IntKind.bits] using h2)
  have h4 : 9223372036854775808 % 2 ^ IntKind.u64.bits = 9223372036854775808 := by decide
  have h5 := xor_top a h2
  simp only [bits, show (9223372036854775808 : Int) = ((9223372036854775808 : Nat) : Int) from rfl, BitVec.ofInt_natCast, BitVec.toNat_xor, BitVec.toNat_ofNat, h3, h4, h5]
  rw [wrap_u64]
  omega
theorem next_eq (x c : Int) (hx : 0 ≤ x) (hx1 : x < 72057594037927936) (hc : 0 ≤ c) (hc1 : c < 256) : beNext x c = x * 256 + c := by
  unfold beNext
  rw [wrap_u64, wrap_u64, Int.emod_eq_of_lt (by omega) (by omega), Int.emod_eq_of_lt (by omega) (by omega)]
  exact bits_join .u64 64 (by decide) (fun n h0 h1 => by rw [wrap_u64]; exact Int.emod_eq_of_lt h0 (by simpa using h1)) 8 (x * 256) c (by omega) (by simp) (by simp; omega) hc (by simpa using hc1) (by simp; omega)
/-- The number of some bytes, the greatest first. -/
def be (l : List Int) (x : Int) : Int := l.foldl (fun x c => x * 256 + c) x
theorem be_lt : ∀ (l : List Int) (x B : Int), (∀ c ∈ l, 0 ≤ c ∧ c < 256) → 0 ≤ x → x < B → 0 ≤ be l x ∧ be l x < B * 256 ^ l.length
  | [], x, B, _, h0, h1 => by simp [be]; omega
  | c :: l, x, B, hb, h0, h1 => by
    have hc := hb c (by simp)
    have := be_lt l (x * 256 + c) (B * 256) (fun d hd => hb d (by simp [hd])) (by omega) (by omega)
    rw [show be (c :: l) x = be l (x * 256 + c) from rfl, List.length_cons, Int.pow_succ, Int.mul_comm (256 ^ l.length) 256, ← Int.mul_assoc]
    exact this
theorem pow_cast (k : Nat) : ((256 ^ k : Nat) : Int) = (256 : Int) ^ k := by rw [Int.natCast_pow]; rfl
theorem num_be (l : List Int) : ∀ (x : Int), (∀ c ∈ l, 0 ≤ c ∧ c < 256) → 0 ≤ x → l.length ≤ 8 → x < 256 ^ (8 - l.length) → l.foldl beNext x = be l x := by
  induction l with
  | nil => intro x _ _ _ _; rfl
  | cons c l ih =>
    intro x hb h0 h2 h3
    have hc := hb c (by simp)
    rw [List.length_cons] at h2 h3
    have hx : x < 72057594037927936 := by
      have h5 : (256 : Int) ^ (8 - (l.length + 1)) ≤ 256 ^ 7 := by
        have := Nat.pow_le_pow_right (show 0 < 256 by decide) (show 8 - (l.length + 1) ≤ 7 by omega)
        rw [← pow_cast, ← pow_cast]
        exact Int.ofNat_le.2 this
      have h6 : (256 : Int) ^ 7 = 72057594037927936 := by decide
      omega
    show l.foldl beNext (beNext x c) = be l (x * 256 + c)
    rw [next_eq x c h0 hx hc.1 hc.2]
    have h7 : x * 256 + c < 256 ^ (8 - l.length) := by
      rw [show 8 - l.length = (8 - (l.length + 1)) + 1 by omega, Int.pow_succ]
      omega
    exact ih _ (fun d hd => hb d (by simp [hd])) (by omega) (by omega) h7
/-- The bytes of a number, the greatest first. -/
def beFrom (X : Int) : Nat → List Int
  | 0 => []
  | m + 1 => (shr .u64 X ((8 * m : Nat) : Int)) % 256 :: beFrom X m
theorem beFrom_length (X : Int) : ∀ m, (beFrom X m).length = m
  | 0 => rfl
  | m + 1 => by simp [beFrom, beFrom_length X m]
theorem shr_eq (X : Int) (m : Nat) (h : m ≤ 8) : shr .u64 X ((8 * m : Nat) : Int) = X / 256 ^ m := by
  unfold shr
  rw [Int.toNat_natCast, Nat.min_eq_left (show 8 * m ≤ IntKind.u64.bits by simp [IntKind.bits]; omega), Int.pow_mul]
  rfl
theorem beFrom_bytes (X : Int) : ∀ m, ∀ c ∈ beFrom X m, 0 ≤ c ∧ c < 256
  | 0, c, h => by cases h
  | m + 1, c, h => by
    rcases List.mem_cons.1 h with rfl | h
    · omega
    · exact beFrom_bytes X m c h
theorem emod_step (X : Int) (h : 0 ≤ X) (m : Nat) : X % (256 ^ m * 256) = X % 256 ^ m + 256 ^ m * (X / 256 ^ m % 256) := by
  obtain ⟨n, rfl⟩ := Int.eq_ofNat_of_zero_le h
  have := Nat.mod_mul (x := n) (a := 256 ^ m) (b := 256)
  rw [← pow_cast, ← Int.natCast_ediv, show (256 : Int) = ((256 : Nat) : Int) from rfl, ← Int.natCast_mul, ← Int.natCast_emod, ← Int.natCast_emod, ← Int.natCast_emod, ← Int.natCast_mul, ← Int.natCast_add, this]
theorem be_beFrom (X : Int) (h0 : 0 ≤ X) (m : Nat) : ∀ (x : Int), m ≤ 8 → be (beFrom X m) x = x * 256 ^ m + X % 256 ^ m := by
  induction m with
  | zero => intro x _; simp [be, beFrom]
  | succ m ih =>
    intro x h
    rw [show be (beFrom X (m + 1)) x = be (beFrom X m) (x * 256 + (shr .u64 X ((8 * m : Nat) : Int)) % 256) from rfl, ih _ (by omega), shr_eq X m (by omega)]
    rw [Int.pow_succ, emod_step X h0, Int.add_mul, Int.mul_comm (256 ^ m) 256, ← Int.mul_assoc, Int.mul_comm (X / 256 ^ m % 256) (256 ^ m)]
    omega
/-- A number of 64 bits out of its bytes. -/
theorem num_from (X : Int) (h0 : 0 ≤ X) (h1 : X < 18446744073709551616) : beNum (beFrom X 8) = X := by
  unfold beNum
  rw [num_be _ 0 (beFrom_bytes X 8) (by omega) (by rw [beFrom_length]; omega) (by rw [beFrom_length]; decide), be_beFrom X h0 8 0 (by omega), Int.zero_mul, Int.zero_add]
  exact Int.emod_eq_of_lt h0 (by simpa using h1)
end Go.Proofs.YtdaidcfpikeooaaDoor.Tb
