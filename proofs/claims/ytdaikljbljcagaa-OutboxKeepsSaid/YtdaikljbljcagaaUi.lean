/- DERIVED. Intents by their keys (entry, then the greater version first): lists sorted, lists alike key by key. Conditions: those that each lemma names. DERIVED. Sorting by key, step by step: reversing, insertion, swapping and rotating of blocks. Conditions: those that each lemma names. DERIVED. Sorting by key, step by step: insertion sort, and a merge's searches and moves. Conditions: those that each lemma names. DERIVED. Sorting by key, step by step: the merge of two sorted blocks in their place. Conditions: those that each lemma names. DERIVED. Sorting by key: two sorted blocks are merged in their place; a sort of blocks and merges is a stable sort. Conditions: those that each lemma names. DERIVED. Sorting by key: a merge in place, by halves. Conditions: those that each lemma names. DERIVED. Sorting by key: blocks, then merges of neighbours: a stable sort; what run.Make comes to. Conditions: those that each lemma names. DERIVED. The last word on each entry: the first of each entry in a list sorted by key is what puts come to. Conditions: those that each lemma names. DERIVED. What the printed functions of chapter 18 come to, as from some number of rounds on: Light, SameIntents, Named, both sides of Latest. Conditions: those that each lemma names. -/
import Derived.Test.YtdaikljbljcagaaNc
import Derived.Test.YtdaikljbljcagaaPv
import Derived.Test.YtdaikljbljcagaaPAllx18
import Derived.Test.YtdaikljbljcagaaPAllx0
import Derived.Test.YtdaikljbljcagaaPAllx16
import Derived.Test.YtdaikljbljcagaaPAllx15
namespace Go.Proofs.Ytdaikljbljcagaa.Ua
open Go.RowKit Go.Proofs.Ytdaikljbljcagaa.PAll Go.Proofs.YtdaikljbljcagaaW.PrintWords Go.Proofs.YtdaikljbljcagaaW.PrintLast Go.Proofs.Ytdaikljbljcagaa.Na Go.Proofs.Ytdaikljbljcagaa.Pv
set_option linter.unusedSimpArgs false
set_option linter.unusedVariables false
theorem bl_eq : ∀ (x y : List UInt8), Op.bytesLess x y = decide (x < y)
  | [], [] => by simp [Op.bytesLess]
  | _ :: _, [] => by simp [Op.bytesLess]
  | [], _ :: _ => by simp [Op.bytesLess]
  | a :: x, b :: y => by
    rw [Op.bytesLess, bl_eq x y]
    simp only [List.cons_lt_cons_iff]
    by_cases h1 : a < b <;> by_cases h2 : a = b <;> by_cases h3 : x < y <;> simp [h1, h2, h3]
theorem _root_.Go.Proofs.YtdaikljbljcagaaW.PrintWords.Ev.congr3 {α : Type} {g f : Nat → Option α} {r : α} (h : ∀ k, g (k + 3) = f (k + 3)) (e : Ev f r) : Ev g r := by
  obtain ⟨K, hK⟩ := e
  refine ⟨K + 3, fun k hk => ?_⟩
  obtain ⟨m, rfl⟩ : ∃ m, k = m + 3 := ⟨k - 3, by omega⟩
  rw [h m]
  exact hK _ (by omega)
/-- An intent's entry. -/
def E (x : S29) : List UInt8 := x.f0.toList
/-- An intent's key: its entry, an end below all bytes, its version turned round. -/
def K (x : S29) : List Int := (E x).map (fun b => (b.toNat : Int)) ++ [-1, -x.f1]
theorem lex (s t : List Int) : ∀ a b : List UInt8, (a.map (fun b => (b.toNat : Int)) ++ (-1) :: s) < (b.map (fun b => (b.toNat : Int)) ++ (-1) :: t) ↔ a < b ∨ (a = b ∧ s < t)
  | [], [] => by simp [List.cons_lt_cons_iff]
  | [], y :: b => by simp [List.cons_lt_cons_iff]; omega
  | x :: a, [] => by simp [List.cons_lt_cons_iff]; try omega
  | x :: a, y :: b => by
    simp only [List.map_cons, List.cons_append, List.cons_lt_cons_iff, lex s t a b, List.cons.injEq]
    rw [show ((x.toNat : Int) < (y.toNat : Int)) ↔ x < y by rw [UInt8.lt_iff_toNat_lt]; omega, show ((x.toNat : Int) = (y.toNat : Int)) ↔ x = y by rw [← UInt8.toNat_inj]; omega]
    constructor
    · rintro (h | ⟨h1, h2 | ⟨h2, h3⟩⟩)
      · exact .inl (.inl h)
      · exact .inl (.inr ⟨h1, h2⟩)
      · exact .inr ⟨⟨h1, h2⟩, h3⟩
    · rintro ((h | ⟨h1, h2⟩) | ⟨⟨h1, h2⟩, h3⟩)
      · exact .inl h
      · exact .inr ⟨h1, .inl h2⟩
      · exact .inr ⟨h1, .inr ⟨h2, h3⟩⟩
theorem K_lt (x y : S29) : K x < K y ↔ E x < E y ∨ (E x = E y ∧ y.f1 < x.f1) := by
  unfold K
  rw [lex]
  simp only [List.cons_lt_cons_iff, List.not_lt_nil, and_false, or_false]
  constructor <;> (rintro (h | ⟨h, k⟩); exact .inl h; exact .inr ⟨h, by omega⟩)
theorem K_eq (x y : S29) : K x = K y ↔ E x = E y ∧ x.f1 = y.f1 := by
  constructor
  · intro h
    have h1 : ¬ K x < K y := by rw [h]; exact List.lt_irrefl _
    have h2 : ¬ K y < K x := by rw [h]; exact List.lt_irrefl _
    rw [K_lt] at h1 h2
    have e : E x = E y := List.le_antisymm (fun h => h2 (.inl h)) (fun h => h1 (.inl h))
    exact ⟨e, by
      have h3 : ¬ y.f1 < x.f1 := fun k => h1 (.inr ⟨e, k⟩)
      have h4 : ¬ x.f1 < y.f1 := fun k => h2 (.inr ⟨e.symm, k⟩)
      omega⟩
  · rintro ⟨h1, h2⟩
    unfold K
    rw [h1, h2]
theorem kle_trans {a b c : List Int} (h : ¬ b < a) (k : ¬ c < b) : ¬ c < a := List.le_trans h k
theorem klt_of {a b c : List Int} (h : ¬ b < a) (k : b < c) : a < c := by
  by_cases h2 : a < c
  · exact h2
  · exact absurd k (kle_trans h2 h)
def Srt (l : List S29) : Prop := l.Pairwise (fun a b => ¬ K b < K a)
def grp (q : List Int) (l : List S29) : List S29 := l.filter (fun c => decide (K c = q))
/-- Alike, key by key. -/
def Sim (l m : List S29) : Prop := ∀ q, grp q l = grp q m
theorem Sim.refl (l : List S29) : Sim l l := fun _ => rfl
theorem Sim.symm {l m : List S29} (h : Sim l m) : Sim m l := fun q => (h q).symm
theorem Sim.trans {l m n : List S29} (h : Sim l m) (k : Sim m n) : Sim l n := fun q => (h q).trans (k q)
theorem grp_app (q : List Int) (a b : List S29) : grp q (a ++ b) = grp q a ++ grp q b := by simp [grp]
theorem Sim.app {a b c d : List S29} (h : Sim a b) (k : Sim c d) : Sim (a ++ c) (b ++ d) := fun q => by rw [grp_app, grp_app, h q, k q]
theorem Sim.mid {u v : List S29} (a b : List S29) (h : Sim u v) : Sim (a ++ u ++ b) (a ++ v ++ b) := ((Sim.refl a).app h).app (Sim.refl b)
theorem grp_nil {q : List Int} {l : List S29} (h : ∀ x ∈ l, K x ≠ q) : grp q l = [] := by
  unfold grp
  rw [List.filter_eq_nil_iff]
  intro x hx
  simpa using h x hx
theorem Sim.rot {u v : List S29} (h : ∀ x ∈ u, ∀ y ∈ v, K x ≠ K y) : Sim (u ++ v) (v ++ u) := fun q => by
  rw [grp_app, grp_app]
  by_cases hq : ∃ x ∈ u, K x = q
  · obtain ⟨x, hx, rfl⟩ := hq
    rw [grp_nil (l := v) (fun y hy e => h x hx y hy e.symm)]; simp
  · rw [grp_nil (l := u) (fun x hx e => hq ⟨x, hx, e⟩)]; simp
theorem Sim.mem {l m : List S29} (h : Sim l m) (x : S29) : x ∈ l ↔ x ∈ m := by
  have e : ∀ l : List S29, x ∈ l ↔ x ∈ grp (K x) l := fun l => by simp [grp]
  rw [e, e m, h]
theorem Srt.app {a b : List S29} (ha : Srt a) (hb : Srt b) (h : ∀ x ∈ a, ∀ y ∈ b, ¬ K y < K x) : Srt (a ++ b) := List.pairwise_append.2 ⟨ha, hb, h⟩
theorem Srt.parts {a b : List S29} (h : Srt (a ++ b)) : Srt a ∧ Srt b ∧ ∀ x ∈ a, ∀ y ∈ b, ¬ K y < K x := List.pairwise_append.1 h
theorem Srt.get {l : List S29} (h : Srt l) {i j : Nat} (hi : i < l.length) (hj : j < l.length) (hij : i ≤ j) : ¬ K l[j] < K l[i] := by
  rcases Nat.lt_or_ge i j with h1 | h1
  · exact List.pairwise_iff_getElem.1 h i j hi hj h1
  · obtain rfl : i = j := by omega
    exact List.lt_irrefl _
theorem elA_get (l : List S29) (i : Nat) (h : i < l.length) : elA l i = l[i] := by
  unfold elA
  rw [List.getD_eq_getElem?_getD, List.getElem?_eq_getElem h]; rfl
theorem cmp_str (a b : ByteArray) : cmp_Compare_string.f a b = some (if Op.bytesLess a.toList b.toList = true then -1 else if Op.bytesLess b.toList a.toList = true then 1 else 0) := by
  unfold cmp_Compare_string.f cmp_isNaN_string.f
  simp
  repeat' split
  all_goals rfl
theorem cmp_int (a b : Int) : cmp_Compare_int.f a b = some (if a < b then -1 else if b < a then 1 else 0) := by
  unfold cmp_Compare_int.f cmp_isNaN_int.f
  simp
  repeat' split
  all_goals rfl
theorem cmp_or (k : Nat) (a b : Int) : cmp_Or_int.f (k + 3) [a, b] = some (if a = 0 then b else a) := by
  have w1 : wrap64 (0 + 1) = 1 := w64 (by omega) (by omega)
  have w2 : wrap64 (1 + 1) = 2 := w64 (by omega) (by omega)
  have w3 : wrap64 1 = 1 := w64 (by omega) (by omega)
  have w4 : wrap64 2 = 2 := w64 (by omega) (by omega)
  have r0 : ∀ a b : Int, rd [a, b] 0 = a := fun _ _ => rfl
  have r1 : ∀ a b : Int, rd [a, b] 1 = b := fun _ _ => rfl
  unfold cmp_Or_int.f
  by_cases ha : a = 0 <;> by_cases hb : b = 0 <;> simp [cmp_Or_int.l0, w1, w2, w3, w4, r0, r1, ha, hb]
theorem by_key (k : Nat) (x y : S29) : outbox_Latest_1.f (k + 3) x.f0 x.f1 x.f2 y.f0 y.f1 y.f2 = some (if K x < K y then -1 else if K y < K x then 1 else 0) := by
  unfold outbox_Latest_1.f
  rw [cmp_str, cmp_int, bl_eq, bl_eq, Option.bind_some, Option.bind_some, cmp_or, Option.bind_some]
  show some (if (if decide (E x < E y) = true then (-1 : Int) else if decide (E y < E x) = true then 1 else 0) = 0 then _ else if decide (E x < E y) = true then (-1 : Int) else if decide (E y < E x) = true then 1 else 0) = _
  simp only [decide_eq_true_eq, K_lt]
  congr 1
  by_cases h1 : E x < E y
  · simp [h1]
  · by_cases h2 : E y < E x
    · have h3 : ¬ E x = E y := fun h => by rw [h] at h2; exact List.lt_irrefl _ h2
      simp [h1, h2, h3]
    · have h3 : E x = E y := List.le_antisymm h2 h1
      have hi : ¬ E y < E y := List.lt_irrefl _
      simp [hi, h3]
end Go.Proofs.Ytdaikljbljcagaa.Ua
namespace Go.Proofs.Ytdaikljbljcagaa.Ub
open Go.RowKit Go.Proofs.Ytdaikljbljcagaa.Pv Go.Proofs.Ytdaikljbljcagaa.Na Go.Proofs.Ytdaikljbljcagaa.PAll Go.Proofs.YtdaikljbljcagaaW.PrintWords Go.Proofs.YtdaikljbljcagaaW.PrintLast Go.Proofs.Ytdaikljbljcagaa.Ua
set_option linter.unusedSimpArgs false
set_option linter.unusedVariables false
theorem half {i j : Nat} (h : i + j < 4611686018427387904) : wrap64 ((IntKind.u64.wrap (wrap64 ((i : Int) + (j : Int)))) / 2) = (((i + j) / 2 : Nat) : Int) := by
  rw [w64 (x := (i : Int) + j) (by omega) (by omega)]
  have : IntKind.u64.wrap ((i : Int) + j) = (i : Int) + j := by
    rw [IntKind.wrap_u64]; omega
  rw [this, w64 (by omega) (by omega)]
  omega
theorem neg_iff (x y : S29) : ((if K x < K y then (-1 : Int) else if K y < K x then 1 else 0) < 0) ↔ K x < K y := by
  by_cases h : K x < K y
  · simp [h]
  · by_cases h2 : K y < K x <;> simp [h, h2]
theorem eta29 (x : S29) : (⟨x.f0, x.f1, x.f2⟩ : S29) = x := rfl
theorem set_at (A R : List S29) (x y : S29) : (A ++ x :: R).set A.length y = A ++ y :: R := by simp
theorem swap2 (A M B : List S29) (x y : S29) (i j : Nat) (hi : i = A.length) (hj : j = A.length + 1 + M.length) (l : List S29) (hl : l = A ++ x :: (M ++ y :: B)) :
    rd_T29 l (i : Int) = x ∧ rd_T29 l (j : Int) = y ∧ i < l.length ∧ j < l.length ∧ (l.set i y).set j x = A ++ y :: (M ++ x :: B) ∧ (l.set j x).set i y = A ++ y :: (M ++ x :: B) := by
  have e1 : A ++ x :: (M ++ y :: B) = (A ++ x :: M) ++ y :: B := by simp
  have e2 : ∀ z, A ++ z :: (M ++ y :: B) = (A ++ z :: M) ++ y :: B := by simp
  have e3 : ∀ z, A ++ z :: (M ++ x :: B) = (A ++ z :: M) ++ x :: B := by simp
  have l1 : ∀ z : S29, (A ++ z :: M).length = j := fun z => by rw [hj, List.length_append, List.length_cons]; omega
  have hli : i < l.length := by rw [hl, hi]; simp
  have hlj : j < l.length := by rw [hl, hj]; simp; omega
  refine ⟨?_, ?_, hli, hlj, ?_, ?_⟩
  · rw [rd_get l i hli]
    subst hl; subst hi
    simp
  · rw [rd_get l j hlj]
    subst hl
    rw [List.getElem_of_eq (e2 x), List.getElem_append_right (by rw [l1 x]; exact Nat.le_refl _)]
    simp [l1 x]
  · rw [hl, hi, set_at, e2, ← l1 y, set_at, e3]
  · rw [hl, e2, ← l1 x, set_at, ← e3, hi, set_at]
theorem rev_l0 : ∀ (n : Nat) (A X B : List S29), X.length ≤ n → (A ++ (X ++ B)).length < 4611686018427387904 → Ev (fun k => slices_Reverse_api_Intent_api_Intent.l0 k (A ++ (X ++ B)) (A.length : Int) ((A.length : Int) + X.length - 1)) (A ++ (X.reverse ++ B)) := by
  intro n
  induction n with
  | zero =>
    intro A X B h hb
    obtain rfl : X = [] := List.eq_nil_of_length_eq_zero (by omega)
    refine Ev.step (fun _ => slices_Reverse_api_Intent_api_Intent.l0.eq_2 ..) (Ev.congr (fun k => if_neg (by simp <;> omega)) ?_)
    exact Ev.now _
  | succ n ih =>
    intro A X B h hb
    cases X with
    | nil =>
      refine Ev.step (fun _ => slices_Reverse_api_Intent_api_Intent.l0.eq_2 ..) (Ev.congr (fun k => if_neg (by simp <;> omega)) ?_)
      exact Ev.now _
    | cons x X =>
      rcases List.eq_nil_or_concat X with rfl | ⟨M, y, rfl⟩
      · refine Ev.step (fun _ => slices_Reverse_api_Intent_api_Intent.l0.eq_2 ..) (Ev.congr (fun k => if_neg (by simp <;> omega)) ?_)
        exact Ev.now _
      · rw [List.concat_eq_append] at *
        obtain ⟨l, hl⟩ : ∃ l, l = A ++ x :: (M ++ y :: B) := ⟨_, rfl⟩
        have e : A ++ ((x :: (M ++ [y])) ++ B) = l := by rw [hl]; simp
        rw [e] at hb ⊢
        obtain ⟨h1, h2, h3, h4, h5, _⟩ := swap2 A M B x y A.length (A.length + 1 + M.length) rfl rfl l hl
        have ej : (A.length : Int) + ((x :: (M ++ [y])).length : Int) - 1 = ((A.length + 1 + M.length : Nat) : Int) := by
          simp only [List.length_cons, List.length_append, List.length_nil]; omega
        rw [ej]
        have hih := ih (A ++ [y]) M (x :: B) (by simp at h; omega) (by rw [hl] at hb; simp at hb ⊢; omega)
        rw [show (A ++ [y]) ++ (M.reverse ++ x :: B) = A ++ ((x :: (M ++ [y])).reverse ++ B) by simp] at hih
        refine Ev.step (fun _ => slices_Reverse_api_Intent_api_Intent.l0.eq_2 ..) (Ev.congr (fun k => ?_) hih)
        rw [if_pos (by omega), if_pos (by omega), if_pos (by omega), if_pos (by omega), if_pos (by omega), h1, h2, eta29, eta29, Int.toNat_natCast, Int.toNat_natCast, h5, w64 (by omega) (by omega), w64 (by omega) (by omega)]
        congr 1
        · simp
        · simp
        · simp <;> omega
theorem Reverse_ev (l : List S29) (h : l.length < 4611686018427387904) : Ev (fun k => slices_Reverse_api_Intent_api_Intent.f k l) l.reverse := by
  unfold slices_Reverse_api_Intent_api_Intent.f
  rw [w64 (by omega) (by omega)]
  have := rev_l0 l.length [] l [] (Nat.le_refl _) (by simpa using h)
  simpa using this
theorem swr : ∀ (X A M Y B : List S29) (a b n i : Nat), X.length = Y.length → a + i = A.length → b + i = A.length + X.length + M.length → n = i + X.length → (A ++ (X ++ (M ++ (Y ++ B)))).length < 4611686018427387904 →
    Ev (fun k => slices_swapRangeCmpFunc_api_Intent_at_outbox_Latest_1.l0 k (A ++ (X ++ (M ++ (Y ++ B)))) (a : Int) (b : Int) (n : Int) (i : Int)) (A ++ (Y ++ (M ++ (X ++ B))))
  | [], A, M, Y, B, a, b, n, i, h1, h2, h3, h4, h5 => by
    obtain rfl : Y = [] := List.eq_nil_of_length_eq_zero (by simpa using h1.symm)
    refine Ev.step (fun _ => slices_swapRangeCmpFunc_api_Intent_at_outbox_Latest_1.l0.eq_2 ..) (Ev.congr (fun k => if_neg (by simp at h4; omega)) ?_)
    exact Ev.now _
  | x :: X, A, M, [], B, a, b, n, i, h1, h2, h3, h4, h5 => by simp at h1
  | x :: X, A, M, y :: Y, B, a, b, n, i, h1, h2, h3, h4, h5 => by
    have hih := swr X (A ++ [y]) (M ++ [x]) Y B a b n (i + 1) (by simpa using h1) (by simp; omega) (by simp at h3 ⊢; omega) (by simp at h4; omega) (by simp at h5 ⊢; omega)
    rw [show (A ++ [y]) ++ (Y ++ ((M ++ [x]) ++ (X ++ B))) = A ++ ((y :: Y) ++ (M ++ ((x :: X) ++ B))) by simp] at hih
    obtain ⟨l, hl⟩ : ∃ l, l = A ++ x :: ((X ++ M) ++ y :: (Y ++ B)) := ⟨_, rfl⟩
    have e : A ++ ((x :: X) ++ (M ++ ((y :: Y) ++ B))) = l := by rw [hl]; simp
    rw [e] at h5 ⊢
    obtain ⟨p1, p2, p3, p4, p5, _⟩ := swap2 A (X ++ M) (Y ++ B) x y (a + i) (b + i) h2 (by simp at h3 ⊢; omega) l hl
    have hn : i < n := by simp at h4; omega
    have hne : ¬ (a + i = b + i) := by simp at h3; omega
    refine Ev.step (fun _ => slices_swapRangeCmpFunc_api_Intent_at_outbox_Latest_1.l0.eq_2 ..) (Ev.congr (fun k => ?_) hih)
    rw [w64 (x := (a : Int) + i) (by omega) (by omega), w64 (x := (b : Int) + i) (by omega) (by omega), show (a : Int) + i = ((a + i : Nat) : Int) by omega, show (b : Int) + i = ((b + i : Nat) : Int) by omega, up1 (by omega), Int.toNat_natCast, Int.toNat_natCast]
    rw [if_pos (by omega), if_pos (by omega), if_pos (by omega), if_pos (by omega), if_pos (by omega), if_neg hne, p1, p2, eta29, eta29, p5]
    congr 1
    simp
theorem swr_ev (X A M Y B : List S29) (a b n : Nat) (h1 : X.length = Y.length) (h2 : a = A.length) (h3 : b = A.length + X.length + M.length) (h4 : n = X.length) (h5 : (A ++ (X ++ (M ++ (Y ++ B)))).length < 4611686018427387904) :
    Ev (fun k => slices_swapRangeCmpFunc_api_Intent_at_outbox_Latest_1.f k (A ++ (X ++ (M ++ (Y ++ B)))) (a : Int) (b : Int) (n : Int)) (A ++ (Y ++ (M ++ (X ++ B)))) := by
  unfold slices_swapRangeCmpFunc_api_Intent_at_outbox_Latest_1.f
  exact swr X A M Y B a b n 0 h1 (by omega) (by omega) (by omega) h5
theorem split_at (l : List S29) (n : Nat) (h : n ≤ l.length) : ∃ a b, l = a ++ b ∧ a.length = n := ⟨l.take n, l.drop n, (List.take_append_drop n l).symm, by rw [List.length_take]; omega⟩
theorem rot_l0 : ∀ (s : Nat) (A X Y B : List S29) (m i j : Nat), i + j ≤ s → 0 < i → 0 < j → i = X.length → j = Y.length → m = A.length + i → (A ++ (X ++ (Y ++ B))).length < 4611686018427387904 →
    Ev (fun k => slices_rotateCmpFunc_api_Intent_at_outbox_Latest_1.l0 k (A ++ (X ++ (Y ++ B))) (m : Int) (i : Int) (j : Int)) (A ++ (Y ++ (X ++ B))) := by
  intro s
  induction s with
  | zero => intro A X Y B m i j h1 h2 h3; omega
  | succ s ih =>
    intro A X Y B m i j h1 h2 h3 h4 h5 h6 h7
    have hlen : A.length + X.length + Y.length < 4611686018427387904 := by simp at h7; omega
    have hmi : wrap64 ((m : Int) - i) = (A.length : Int) := by rw [w64 (by omega) (by omega)]; omega
    refine Ev.step (fun _ => slices_rotateCmpFunc_api_Intent_at_outbox_Latest_1.l0.eq_2 ..) ?_
    rw [hmi]
    by_cases hij : i = j
    · have h := swr_ev X A [] Y B A.length m i (by omega) rfl (by simp; omega) h4 (by simpa using h7)
      simp only [List.nil_append] at h
      refine Ev.congr (fun k => if_pos (by omega)) (Ev.bind h ?_)
      exact Ev.now _
    · refine Ev.congr (fun k => if_neg (by omega)) ?_
      by_cases hgt : i > j
      · refine Ev.congr (fun k => if_pos (by omega)) ?_
        obtain ⟨X1, X2, rfl, hx⟩ := split_at X j (by omega)
        have h := swr_ev X1 A X2 Y B A.length m j (by omega) rfl (by simp at h4; omega) (by omega) (by simpa using h7)
        have hi := ih (A ++ Y) X2 X1 B m (i - j) j (by omega) (by omega) h3 (by simp at h4; omega) (by omega) (by simp; omega) (by simp at h7 ⊢; omega)
        rw [show (A ++ Y) ++ (X1 ++ (X2 ++ B)) = A ++ (Y ++ ((X1 ++ X2) ++ B)) by simp] at hi
        rw [show A ++ ((X1 ++ X2) ++ (Y ++ B)) = A ++ (X1 ++ (X2 ++ (Y ++ B))) by simp, w64 (x := (i : Int) - j) (by omega) (by omega)]
        refine Ev.bind h (Ev.congr (fun k => ?_) hi)
        congr 1
        · simp
        · omega
      · refine Ev.congr (fun k => if_neg (by omega)) ?_
        obtain ⟨Y1, Y2, rfl, hy⟩ := split_at Y (j - i) (by omega)
        have hy2 : Y2.length = i := by simp at h5; omega
        have h := swr_ev X A Y1 Y2 B A.length (m + (j - i)) i (by omega) rfl (by omega) h4 (by simpa using h7)
        have hi := ih A Y2 Y1 (X ++ B) m i (j - i) (by omega) h2 (by omega) hy2.symm hy.symm h6 (by simp at h7 ⊢; omega)
        rw [show A ++ (Y1 ++ (Y2 ++ (X ++ B))) = A ++ ((Y1 ++ Y2) ++ (X ++ B)) by simp] at hi
        rw [show A ++ (X ++ ((Y1 ++ Y2) ++ B)) = A ++ (X ++ (Y1 ++ (Y2 ++ B))) by simp, w64 (x := (j : Int) - i) (by omega) (by omega), w64 (x := (m : Int) + j) (by omega) (by omega), w64 (x := (m : Int) + j - i) (by omega) (by omega), show (m : Int) + j - i = ((m + (j - i) : Nat) : Int) by omega, show (j : Int) - i = ((j - i : Nat) : Int) by omega]
        exact Ev.bind h hi
theorem rot_ev (A X Y B : List S29) (a m b : Nat) (h1 : 0 < X.length) (h2 : 0 < Y.length) (h3 : a = A.length) (h4 : m = A.length + X.length) (h5 : b = m + Y.length) (h7 : (A ++ (X ++ (Y ++ B))).length < 4611686018427387904) :
    Ev (fun k => slices_rotateCmpFunc_api_Intent_at_outbox_Latest_1.f k (A ++ (X ++ (Y ++ B))) (a : Int) (m : Int) (b : Int)) (A ++ (Y ++ (X ++ B))) := by
  unfold slices_rotateCmpFunc_api_Intent_at_outbox_Latest_1.f
  have hlen : A.length + X.length + Y.length < 4611686018427387904 := by simp at h7; omega
  rw [w64 (x := (m : Int) - a) (by omega) (by omega), w64 (x := (b : Int) - m) (by omega) (by omega), show (m : Int) - a = (X.length : Int) by omega, show (b : Int) - m = (Y.length : Int) by omega]
  exact rot_l0 (X.length + Y.length) A X Y B m X.length Y.length (Nat.le_refl _) h1 h2 rfl rfl h4 h7
end Go.Proofs.Ytdaikljbljcagaa.Ub
namespace Go.Proofs.Ytdaikljbljcagaa.Uc
open Go.RowKit Go.Proofs.Ytdaikljbljcagaa.Pv Go.Proofs.Ytdaikljbljcagaa.Na Go.Proofs.Ytdaikljbljcagaa.PAll Go.Proofs.YtdaikljbljcagaaW.PrintWords Go.Proofs.YtdaikljbljcagaaW.PrintLast Go.Proofs.Ytdaikljbljcagaa.Ua Go.Proofs.Ytdaikljbljcagaa.Ub
set_option linter.unusedSimpArgs false
set_option linter.unusedVariables false
theorem rd_elA (l : List S29) (i : Nat) : rd_T29 l (i : Int) = elA l i := by unfold rd_T29 elA; rw [Int.toNat_natCast]
theorem elA_mid (P Q : List S29) (c : S29) (i : Nat) (h : i = P.length) (l : List S29) (hl : l = P ++ c :: Q) : elA l i = c := by
  subst h; subst hl
  unfold elA
  simp
theorem dn1 {i : Nat} (h : 0 < i) (h2 : i < 9223372036854775807) : wrap64 ((i : Int) - 1) = ((i - 1 : Nat) : Int) := by rw [w64 (by omega) (by omega)]; omega
theorem Srt.single (x : S29) : Srt [x] := List.pairwise_singleton _ _
theorem Srt.cons {x : S29} {T : List S29} (h : Srt T) (hx : ∀ t ∈ T, ¬ K t < K x) : Srt (x :: T) := List.pairwise_cons.2 ⟨hx, h⟩
theorem ins_l1 : ∀ (n : Nat) (A S T B : List S29) (x : S29) (a b i j : Nat), S.length = n → a = A.length → j = a + S.length → Srt (S ++ T) → (∀ t ∈ T, K x < K t) → (A ++ (S ++ x :: (T ++ B))).length < 4611686018427387904 → i < 4611686018427387904 →
    ∃ R, R.length = S.length + 1 + T.length ∧ Srt R ∧ Sim (S ++ x :: T) R ∧ ∀ out, Ev (fun k => slices_insertionSortCmpFunc_api_Intent_at_outbox_Latest_1.l0 k (A ++ (R ++ B)) (a : Int) (b : Int) ((i + 1 : Nat) : Int)) out → Ev (fun k => slices_insertionSortCmpFunc_api_Intent_at_outbox_Latest_1.l1 k (A ++ (S ++ x :: (T ++ B))) (a : Int) (b : Int) (i : Int) (j : Int)) out := by
  intro n
  induction n with
  | zero =>
    intro A S T B x a b i j hn ha hj hs hx hb hi
    obtain rfl : S = [] := List.eq_nil_of_length_eq_zero hn
    refine ⟨x :: T, by simp; omega, Srt.cons (by simpa using hs) (fun t ht h => List.lt_irrefl _ (List.lt_trans h (hx t ht))), Sim.refl _, fun out h => ?_⟩
    refine Ev.step (fun _ => slices_insertionSortCmpFunc_api_Intent_at_outbox_Latest_1.l1.eq_2 ..) (Ev.congr (fun k => if_neg (by simp at hj; omega)) ?_)
    rw [up1 (by omega)]
    exact h
  | succ n ih =>
    intro A S T B x a b i j hn ha hj hs hx hb hi
    rcases List.eq_nil_or_concat S with rfl | ⟨S0, y, rfl⟩
    · simp at hn
    · rw [List.concat_eq_append] at *
      have hn0 : S0.length = n := by simp at hn; omega
      have hj0 : j = a + S0.length + 1 := by rw [hj]; simp; omega
      obtain ⟨l, hl⟩ : ∃ l, l = (A ++ S0) ++ y :: ([] ++ x :: (T ++ B)) := ⟨_, rfl⟩
      have e : A ++ ((S0 ++ [y]) ++ x :: (T ++ B)) = l := by rw [hl]; simp
      rw [e] at hb ⊢
      obtain ⟨p1, p2, p3, p4, _, p6⟩ := swap2 (A ++ S0) [] (T ++ B) y x (j - 1) j (by simp; omega) (by simp; omega) l hl
      by_cases hk : K x < K y
      · have hs' : Srt (S0 ++ (y :: T)) := by simpa using hs
        obtain ⟨R, h1, h2, h3, h4⟩ := ih A S0 (y :: T) B x a b i (j - 1) hn0 ha (by omega) hs' (fun t ht => by
          rcases List.mem_cons.1 ht with rfl | ht
          · exact hk
          · exact hx t ht) (by rw [hl] at hb; simp at hb ⊢; omega) hi
        refine ⟨R, by rw [h1]; simp; omega, h2, Sim.trans ?_ h3, fun out h => ?_⟩
        · have := Sim.mid S0 T (Sim.rot (u := [y]) (v := [x]) (by
            intro c hc d hd
            rw [List.mem_singleton.1 hc, List.mem_singleton.1 hd]
            intro e2
            rw [e2] at hk
            exact List.lt_irrefl _ hk))
          simpa using this
        · refine Ev.step (fun _ => slices_insertionSortCmpFunc_api_Intent_at_outbox_Latest_1.l1.eq_2 ..) (Ev.congr3 (fun k => ?_) (h4 out h))
          rw [if_pos (by omega), dn1 (by omega) (by omega), if_pos (by omega), if_pos (by omega), if_pos (by omega), if_pos (by omega), p1, p2]
          show (outbox_Latest_1.f (k + 3) x.f0 x.f1 x.f2 y.f0 y.f1 y.f2).bind _ = _
          rw [by_key, Option.bind_some, if_pos ((neg_iff x y).2 hk), eta29, eta29, Int.toNat_natCast, Int.toNat_natCast, p6]
          congr 1
          simp
      · refine ⟨(S0 ++ [y]) ++ x :: T, by simp; omega, ?_, Sim.refl _, fun out h => ?_⟩
        · obtain ⟨q1, q2, q3⟩ := hs.parts
          refine Srt.app q1 (Srt.cons q2 (fun t ht h => List.lt_irrefl _ (List.lt_trans h (hx t ht)))) fun c hc d hd => ?_
          rcases List.mem_cons.1 hd with rfl | hd
          · have hcy : ¬ K y < K c := by
              rcases List.mem_append.1 hc with hc | hc
              · exact q1.parts.2.2 c hc y (by simp)
              · rw [List.mem_singleton.1 hc]; exact List.lt_irrefl _
            exact kle_trans hcy hk
          · exact q3 c hc d hd
        · refine Ev.step (fun _ => slices_insertionSortCmpFunc_api_Intent_at_outbox_Latest_1.l1.eq_2 ..) (Ev.congr3 (fun k => ?_) h)
          rw [if_pos (by omega), dn1 (by omega) (by omega), if_pos (by omega), if_pos (by omega), if_pos (by omega), if_pos (by omega), p1, p2]
          show (outbox_Latest_1.f (k + 3) x.f0 x.f1 x.f2 y.f0 y.f1 y.f2).bind _ = _
          rw [by_key, Option.bind_some, if_neg (fun h => hk ((neg_iff x y).1 h)), up1 (by omega)]
          congr 1
          rw [← e]; simp
theorem ins_l0 : ∀ (U A S B : List S29) (a b i : Nat), a = A.length → i = a + S.length → b = i + U.length → Srt S → (A ++ (S ++ (U ++ B))).length < 4611686018427387904 →
    ∃ R, R.length = S.length + U.length ∧ Srt R ∧ Sim (S ++ U) R ∧ Ev (fun k => slices_insertionSortCmpFunc_api_Intent_at_outbox_Latest_1.l0 k (A ++ (S ++ (U ++ B))) (a : Int) (b : Int) (i : Int)) (A ++ (R ++ B))
  | [], A, S, B, a, b, i, ha, hi, hb, hs, hl => by
    refine ⟨S, by simp, hs, by simpa using Sim.refl S, ?_⟩
    refine Ev.step (fun _ => slices_insertionSortCmpFunc_api_Intent_at_outbox_Latest_1.l0.eq_2 ..) (Ev.congr (fun k => if_neg (by simp at hb; omega)) ?_)
    exact Ev.now _
  | x :: U, A, S, B, a, b, i, ha, hi, hb, hs, hl => by
    have hl' : A.length + S.length + U.length + 1 < 4611686018427387904 := by simp at hl; omega
    obtain ⟨R1, h1, h2, h3, h4⟩ := ins_l1 S.length A S [] (U ++ B) x a b i i rfl ha hi (by simpa using hs) (fun t ht => by cases ht) (by simpa using hl) (by omega)
    obtain ⟨R, k1, k2, k3, k4⟩ := ins_l0 U A R1 B a b (i + 1) ha (by rw [h1, hi]; simp; omega) (by rw [hb]; simp; omega) h2 (by simp at hl ⊢; rw [h1]; simp; omega)
    refine ⟨R, by rw [k1, h1]; simp; omega, k2, ?_, ?_⟩
    · refine Sim.trans ?_ k3
      have := Sim.app h3 (Sim.refl U)
      simpa using this
    · refine Ev.step (fun _ => slices_insertionSortCmpFunc_api_Intent_at_outbox_Latest_1.l0.eq_2 ..) (Ev.congr (fun k => ?_) (h4 _ k4))
      rw [if_pos (by simp at hb; omega)]
      rfl
theorem ins_ev (A U B : List S29) (a b : Nat) (ha : a = A.length) (hb : b = a + U.length) (hl : (A ++ (U ++ B)).length < 4611686018427387904) :
    ∃ R, R.length = U.length ∧ Srt R ∧ Sim U R ∧ Ev (fun k => slices_insertionSortCmpFunc_api_Intent_at_outbox_Latest_1.f k (A ++ (U ++ B)) (a : Int) (b : Int)) (A ++ (R ++ B)) := by
  have hl' : A.length + U.length < 4611686018427387904 := by simp at hl; omega
  unfold slices_insertionSortCmpFunc_api_Intent_at_outbox_Latest_1.f
  rw [up1 (by omega)]
  cases U with
  | nil =>
    refine ⟨[], rfl, List.Pairwise.nil, Sim.refl _, ?_⟩
    refine Ev.step (fun _ => slices_insertionSortCmpFunc_api_Intent_at_outbox_Latest_1.l0.eq_2 ..) (Ev.congr (fun k => if_neg (by simp at hb; omega)) ?_)
    exact Ev.now _
  | cons c U =>
    obtain ⟨R, h1, h2, h3, h4⟩ := ins_l0 U A [c] B a b (a + 1) ha rfl (by rw [hb]; simp; omega) (Srt.single c) (by simpa using hl)
    exact ⟨R, by rw [h1]; simp; omega, h2, by simpa using h3, by simpa using h4⟩
end Go.Proofs.Ytdaikljbljcagaa.Uc
namespace Go.Proofs.Ytdaikljbljcagaa.Ud
open Go.RowKit Go.Proofs.Ytdaikljbljcagaa.Pv Go.Proofs.Ytdaikljbljcagaa.Na Go.Proofs.Ytdaikljbljcagaa.PAll Go.Proofs.YtdaikljbljcagaaW.PrintWords Go.Proofs.YtdaikljbljcagaaW.PrintLast Go.Proofs.Ytdaikljbljcagaa.Ua Go.Proofs.Ytdaikljbljcagaa.Ub Go.Proofs.Ytdaikljbljcagaa.Uc
set_option linter.unusedSimpArgs false
set_option linter.unusedVariables false
theorem last_lt {V : List S29} (hs : Srt V) (q : List Int) (h : ∀ v V', V = V' ++ [v] → K v < q) : ∀ c ∈ V, K c < q := by
  rcases List.eq_nil_or_concat V with rfl | ⟨V', v, rfl⟩
  · intro c hc; cases hc
  · rw [List.concat_eq_append] at *
    have h1 := h v V' rfl
    intro c hc
    rcases List.mem_append.1 hc with hc | hc
    · exact klt_of (hs.parts.2.2 c hc v (by simp)) h1
    · rw [List.mem_singleton.1 hc]; exact h1
theorem last_le {V : List S29} (hs : Srt V) (q : List Int) (h : ∀ v V', V = V' ++ [v] → ¬ q < K v) : ∀ c ∈ V, ¬ q < K c := by
  rcases List.eq_nil_or_concat V with rfl | ⟨V', v, rfl⟩
  · intro c hc; cases hc
  · rw [List.concat_eq_append] at *
    have h1 := h v V' rfl
    intro c hc
    rcases List.mem_append.1 hc with hc | hc
    · exact kle_trans (hs.parts.2.2 c hc v (by simp)) h1
    · rw [List.mem_singleton.1 hc]; exact h1
theorem lt_of_lt_le {a b c : List Int} (h : a < b) (k : ¬ c < b) : a < c := by
  by_cases h2 : a < c
  · exact h2
  · exact absurd (klt_of h2 h) k
theorem first_gt {V : List S29} (hs : Srt V) (q : List Int) (h : ∀ v V', V = v :: V' → q < K v) : ∀ c ∈ V, q < K c := by
  cases V with
  | nil => intro c hc; cases hc
  | cons v V =>
    have h1 := h v V rfl
    intro c hc
    rcases List.mem_cons.1 hc with rfl | hc
    · exact h1
    · exact lt_of_lt_le h1 ((List.pairwise_cons.1 hs).1 c hc)
theorem first_ge {V : List S29} (hs : Srt V) (q : List Int) (h : ∀ v V', V = v :: V' → ¬ K v < q) : ∀ c ∈ V, ¬ K c < q := by
  cases V with
  | nil => intro c hc; cases hc
  | cons v V =>
    have h1 := h v V rfl
    intro c hc
    rcases List.mem_cons.1 hc with rfl | hc
    · exact h1
    · exact kle_trans h1 ((List.pairwise_cons.1 hs).1 c hc)
theorem le_of_lt {a b : List Int} (h : a < b) : ¬ b < a := fun k => List.lt_irrefl _ (List.lt_trans h k)
theorem s0 (D : List S29) (a m b : Nat) (hb : b ≤ D.length) (ha : a < D.length) (hD : D.length < 2305843009213693952) : ∀ (n i j : Nat), j - i ≤ n → i ≤ j → m ≤ i → j ≤ b → (i = m ∨ K (elA D (i - 1)) < K (elA D a)) → (j = b ∨ ¬ K (elA D j) < K (elA D a)) →
    ∃ q, m ≤ q ∧ q ≤ b ∧ (q = m ∨ K (elA D (q - 1)) < K (elA D a)) ∧ (q = b ∨ ¬ K (elA D q) < K (elA D a)) ∧ ∀ out, Ev (fun k => slices_symMergeCmpFunc_api_Intent_at_outbox_Latest_1.l1 k D (q : Int) (a : Int)) out → Ev (fun k => slices_symMergeCmpFunc_api_Intent_at_outbox_Latest_1.l0 k D (a : Int) (i : Int) (j : Int)) out := by
  intro n
  induction n with
  | zero =>
    intro i j h hij hi hj h1 h2
    obtain rfl : i = j := by omega
    exact ⟨i, hi, hj, h1, h2, fun out h => Ev.step (fun _ => slices_symMergeCmpFunc_api_Intent_at_outbox_Latest_1.l0.eq_2 ..) (Ev.congr (fun k => if_neg (by omega)) h)⟩
  | succ n ih =>
    intro i j h hij hi hj h1 h2
    by_cases he : i = j
    · subst he
      exact ⟨i, hi, hj, h1, h2, fun out h => Ev.step (fun _ => slices_symMergeCmpFunc_api_Intent_at_outbox_Latest_1.l0.eq_2 ..) (Ev.congr (fun k => if_neg (by omega)) h)⟩
    · have hm := half (i := i) (j := j) (by omega)
      obtain ⟨c, hc⟩ : ∃ c, (i + j) / 2 = c := ⟨_, rfl⟩
      rw [hc] at hm
      by_cases hk : K (elA D c) < K (elA D a)
      · obtain ⟨q, q1, q2, q3, q4, q5⟩ := ih (c + 1) j (by omega) (by omega) (by omega) hj (.inr (by rw [show c + 1 - 1 = c by omega]; exact hk)) h2
        refine ⟨q, q1, q2, q3, q4, fun out h => Ev.step (fun _ => slices_symMergeCmpFunc_api_Intent_at_outbox_Latest_1.l0.eq_2 ..) (Ev.congr3 (fun k => ?_) (q5 out h))⟩
        rw [if_pos (by omega), hm, if_pos (by omega), if_pos (by omega), if_pos (by omega), if_pos (by omega), rd_elA, rd_elA]
        show (outbox_Latest_1.f (k + 3) (elA D c).f0 (elA D c).f1 (elA D c).f2 (elA D a).f0 (elA D a).f1 (elA D a).f2).bind _ = _
        rw [by_key, Option.bind_some, if_pos ((neg_iff _ _).2 hk), up1 (by omega)]
      · obtain ⟨q, q1, q2, q3, q4, q5⟩ := ih i c (by omega) (by omega) hi (by omega) h1 (.inr hk)
        refine ⟨q, q1, q2, q3, q4, fun out h => Ev.step (fun _ => slices_symMergeCmpFunc_api_Intent_at_outbox_Latest_1.l0.eq_2 ..) (Ev.congr3 (fun k => ?_) (q5 out h))⟩
        rw [if_pos (by omega), hm, if_pos (by omega), if_pos (by omega), if_pos (by omega), if_pos (by omega), rd_elA, rd_elA]
        show (outbox_Latest_1.f (k + 3) (elA D c).f0 (elA D c).f1 (elA D c).f2 (elA D a).f0 (elA D a).f1 (elA D a).f2).bind _ = _
        rw [by_key, Option.bind_some, if_neg (fun h => hk ((neg_iff _ _).1 h))]
theorem s2 (D : List S29) (a m : Nat) (hm0 : m < D.length) (hD : D.length < 2305843009213693952) : ∀ (n i j : Nat), j - i ≤ n → i ≤ j → a ≤ i → j ≤ m → (i = a ∨ ¬ K (elA D m) < K (elA D (i - 1))) → (j = m ∨ K (elA D m) < K (elA D j)) →
    ∃ q, a ≤ q ∧ q ≤ m ∧ (q = a ∨ ¬ K (elA D m) < K (elA D (q - 1))) ∧ (q = m ∨ K (elA D m) < K (elA D q)) ∧ ∀ out, Ev (fun k => slices_symMergeCmpFunc_api_Intent_at_outbox_Latest_1.l3 k D (q : Int) (m : Int)) out → Ev (fun k => slices_symMergeCmpFunc_api_Intent_at_outbox_Latest_1.l2 k D (m : Int) (i : Int) (j : Int)) out := by
  intro n
  induction n with
  | zero =>
    intro i j h hij hi hj h1 h2
    obtain rfl : i = j := by omega
    exact ⟨i, hi, hj, h1, h2, fun out h => Ev.step (fun _ => slices_symMergeCmpFunc_api_Intent_at_outbox_Latest_1.l2.eq_2 ..) (Ev.congr (fun k => if_neg (by omega)) h)⟩
  | succ n ih =>
    intro i j h hij hi hj h1 h2
    by_cases he : i = j
    · subst he
      exact ⟨i, hi, hj, h1, h2, fun out h => Ev.step (fun _ => slices_symMergeCmpFunc_api_Intent_at_outbox_Latest_1.l2.eq_2 ..) (Ev.congr (fun k => if_neg (by omega)) h)⟩
    · have hm := half (i := i) (j := j) (by omega)
      obtain ⟨c, hc⟩ : ∃ c, (i + j) / 2 = c := ⟨_, rfl⟩
      rw [hc] at hm
      by_cases hk : K (elA D m) < K (elA D c)
      · obtain ⟨q, q1, q2, q3, q4, q5⟩ := ih i c (by omega) (by omega) hi (by omega) h1 (.inr hk)
        refine ⟨q, q1, q2, q3, q4, fun out h => Ev.step (fun _ => slices_symMergeCmpFunc_api_Intent_at_outbox_Latest_1.l2.eq_2 ..) (Ev.congr3 (fun k => ?_) (q5 out h))⟩
        rw [if_pos (by omega), hm, if_pos (by omega), if_pos (by omega), if_pos (by omega), if_pos (by omega), rd_elA, rd_elA]
        show (outbox_Latest_1.f (k + 3) (elA D m).f0 (elA D m).f1 (elA D m).f2 (elA D c).f0 (elA D c).f1 (elA D c).f2).bind _ = _
        rw [by_key, Option.bind_some, if_pos ((neg_iff _ _).2 hk)]
      · obtain ⟨q, q1, q2, q3, q4, q5⟩ := ih (c + 1) j (by omega) (by omega) (by omega) hj (.inr (by rw [show c + 1 - 1 = c by omega]; exact hk)) h2
        refine ⟨q, q1, q2, q3, q4, fun out h => Ev.step (fun _ => slices_symMergeCmpFunc_api_Intent_at_outbox_Latest_1.l2.eq_2 ..) (Ev.congr3 (fun k => ?_) (q5 out h))⟩
        rw [if_pos (by omega), hm, if_pos (by omega), if_pos (by omega), if_pos (by omega), if_pos (by omega), rd_elA, rd_elA]
        show (outbox_Latest_1.f (k + 3) (elA D m).f0 (elA D m).f1 (elA D m).f2 (elA D c).f0 (elA D c).f1 (elA D c).f2).bind _ = _
        rw [by_key, Option.bind_some, if_neg (fun h => hk ((neg_iff _ _).1 h)), up1 (by omega)]
theorem s4 (D : List S29) (a m b mid n t r : Nat) (hn : n = mid + m) (hr : r ≤ m) (hrm : r ≤ mid) (hlo : n ≤ b + t) (hmb : m ≤ b) (hb : b ≤ D.length) (hD : D.length < 1152921504606846976) (hmid : mid < D.length) : ∀ (s i j : Nat), j - i ≤ s → i ≤ j → t ≤ i → j ≤ r → (i = t ∨ ¬ K (elA D (n - i)) < K (elA D (i - 1))) → (j = r ∨ K (elA D (n - 1 - j)) < K (elA D j)) →
    ∃ q, t ≤ q ∧ q ≤ r ∧ (q = t ∨ ¬ K (elA D (n - q)) < K (elA D (q - 1))) ∧ (q = r ∨ K (elA D (n - 1 - q)) < K (elA D q)) ∧ ∀ out, Ev (fun k => slices_symMergeCmpFunc_api_Intent_at_outbox_Latest_1.j6 k D (a : Int) (m : Int) (b : Int) (mid : Int) (q : Int) ((n - q : Nat) : Int) (decide (q < m) && decide (m < n - q))) out → Ev (fun k => slices_symMergeCmpFunc_api_Intent_at_outbox_Latest_1.l4 k D (a : Int) (m : Int) (b : Int) (mid : Int) (n : Int) (i : Int) (j : Int) ((n : Int) - 1)) out := by
  have fin : ∀ i : Nat, i ≤ r → ∀ out, Ev (fun k => slices_symMergeCmpFunc_api_Intent_at_outbox_Latest_1.j6 k D (a : Int) (m : Int) (b : Int) (mid : Int) (i : Int) ((n - i : Nat) : Int) (decide (i < m) && decide (m < n - i))) out → Ev (fun k => slices_symMergeCmpFunc_api_Intent_at_outbox_Latest_1.l4 k D (a : Int) (m : Int) (b : Int) (mid : Int) (n : Int) (i : Int) (i : Int) ((n : Int) - 1)) out := by
    intro i hi out h
    refine Ev.step (fun _ => slices_symMergeCmpFunc_api_Intent_at_outbox_Latest_1.l4.eq_2 ..) (Ev.congr (fun k => ?_) h)
    rw [if_neg (by omega), w64 (x := (n : Int) - i) (by omega) (by omega), show (n : Int) - i = ((n - i : Nat) : Int) by omega]
    by_cases h1 : i < m
    · rw [if_pos (by omega)]
      congr 1
      simp only [h1, decide_true, Bool.true_and]
      exact decide_eq_decide.2 (by omega)
    · rw [if_neg (by omega)]
      congr 1
      simp [h1]
  intro s
  induction s with
  | zero =>
    intro i j h hij hi hj h1 h2
    obtain rfl : i = j := by omega
    exact ⟨i, hi, hj, h1, h2, fin i hj⟩
  | succ s ih =>
    intro i j h hij hi hj h1 h2
    by_cases he : i = j
    · subst he
      exact ⟨i, hi, hj, h1, h2, fin i hj⟩
    · have hm := half (i := i) (j := j) (by omega)
      obtain ⟨c, hc⟩ : ∃ c, (i + j) / 2 = c := ⟨_, rfl⟩
      rw [hc] at hm
      have hpc : wrap64 ((n : Int) - 1 - (c : Int)) = ((n - 1 - c : Nat) : Int) := by rw [w64 (by omega) (by omega)]; omega
      by_cases hk : K (elA D (n - 1 - c)) < K (elA D c)
      · obtain ⟨q, q1, q2, q3, q4, q5⟩ := ih i c (by omega) (by omega) hi (by omega) h1 (.inr hk)
        refine ⟨q, q1, q2, q3, q4, fun out h => Ev.step (fun _ => slices_symMergeCmpFunc_api_Intent_at_outbox_Latest_1.l4.eq_2 ..) (Ev.congr3 (fun k => ?_) (q5 out h))⟩
        rw [if_pos (by omega), hm, hpc, if_pos (by omega), if_pos (by omega), if_pos (by omega), if_pos (by omega), rd_elA, rd_elA]
        show (outbox_Latest_1.f (k + 3) (elA D (n - 1 - c)).f0 (elA D (n - 1 - c)).f1 (elA D (n - 1 - c)).f2 (elA D c).f0 (elA D c).f1 (elA D c).f2).bind _ = _
        rw [by_key, Option.bind_some, if_pos ((neg_iff _ _).2 hk)]
      · obtain ⟨q, q1, q2, q3, q4, q5⟩ := ih (c + 1) j (by omega) (by omega) (by omega) hj (.inr (by rw [show c + 1 - 1 = c by omega, show n - (c + 1) = n - 1 - c by omega]; exact hk)) h2
        refine ⟨q, q1, q2, q3, q4, fun out h => Ev.step (fun _ => slices_symMergeCmpFunc_api_Intent_at_outbox_Latest_1.l4.eq_2 ..) (Ev.congr3 (fun k => ?_) (q5 out h))⟩
        rw [if_pos (by omega), hm, hpc, if_pos (by omega), if_pos (by omega), if_pos (by omega), if_pos (by omega), rd_elA, rd_elA]
        show (outbox_Latest_1.f (k + 3) (elA D (n - 1 - c)).f0 (elA D (n - 1 - c)).f1 (elA D (n - 1 - c)).f2 (elA D c).f0 (elA D c).f1 (elA D c).f2).bind _ = _
        rw [by_key, Option.bind_some, if_neg (fun h => hk ((neg_iff _ _).1 h)), up1 (by omega)]
theorem mv1 : ∀ (V A R : List S29) (x : S29) (q p : Nat), p = A.length → q = p + 1 + V.length → (A ++ x :: (V ++ R)).length < 2305843009213693952 → Ev (fun k => slices_symMergeCmpFunc_api_Intent_at_outbox_Latest_1.l1 k (A ++ x :: (V ++ R)) (q : Int) (p : Int)) (A ++ (V ++ x :: R))
  | [], A, R, x, q, p, hp, hq, hl => by
    have hl' : A.length < 2305843009213693952 := by simp at hl; omega
    refine Ev.step (fun _ => slices_symMergeCmpFunc_api_Intent_at_outbox_Latest_1.l1.eq_2 ..) (Ev.congr (fun k => ?_) (Ev.now _))
    rw [if_neg (by simp at hq; rw [w64 (by omega) (by omega)]; omega)]
    simp
  | v :: V, A, R, x, q, p, hp, hq, hl => by
    have hl' : A.length + V.length < 2305843009213693952 := by simp at hl; omega
    have ih := mv1 V (A ++ [v]) R x q (p + 1) (by simp; omega) (by simp at hq; omega) (by simp at hl ⊢; omega)
    rw [show (A ++ [v]) ++ (V ++ x :: R) = A ++ ((v :: V) ++ x :: R) by simp] at ih
    obtain ⟨l, hl2⟩ : ∃ l, l = A ++ x :: ([] ++ v :: (V ++ R)) := ⟨_, rfl⟩
    have e : A ++ x :: ((v :: V) ++ R) = l := by rw [hl2]; simp
    rw [e]
    obtain ⟨p1, p2, p3, p4, p5, _⟩ := swap2 A [] (V ++ R) x v p (p + 1) hp (by simp; omega) l hl2
    simp at hq
    refine Ev.step (fun _ => slices_symMergeCmpFunc_api_Intent_at_outbox_Latest_1.l1.eq_2 ..) (Ev.congr (fun k => ?_) ih)
    rw [w64 (x := (q : Int) - 1) (by omega) (by omega), if_pos (by omega), up1 (by omega), if_pos (by omega), if_pos (by omega), if_pos (by omega), if_pos (by omega), p1, p2, eta29, eta29, Int.toNat_natCast, Int.toNat_natCast, p5]
    congr 1
    simp
theorem mv3 : ∀ (n : Nat) (A U B : List S29) (y : S29) (q p : Nat), U.length = n → q = A.length → p = q + U.length → (A ++ (U ++ y :: B)).length < 2305843009213693952 → Ev (fun k => slices_symMergeCmpFunc_api_Intent_at_outbox_Latest_1.l3 k (A ++ (U ++ y :: B)) (q : Int) (p : Int)) (A ++ y :: (U ++ B)) := by
  intro n
  induction n with
  | zero =>
    intro A U B y q p hn hq hp hl
    obtain rfl : U = [] := List.eq_nil_of_length_eq_zero hn
    refine Ev.step (fun _ => slices_symMergeCmpFunc_api_Intent_at_outbox_Latest_1.l3.eq_2 ..) (Ev.congr (fun k => if_neg (by simp at hp; omega)) ?_)
    exact Ev.now _
  | succ n ih =>
    intro A U B y q p hn hq hp hl
    rcases List.eq_nil_or_concat U with rfl | ⟨U, u, rfl⟩
    · simp at hn
    · rw [List.concat_eq_append] at *
      have hl' : A.length + U.length < 2305843009213693952 := by simp at hl; omega
      have hp' : p = q + U.length + 1 := by simp at hp; omega
      have h := ih A U (u :: B) y q (p - 1) (by simp at hn; omega) hq (by omega) (by simp at hl ⊢; omega)
      rw [show A ++ y :: (U ++ u :: B) = A ++ y :: ((U ++ [u]) ++ B) by simp] at h
      obtain ⟨l, hl2⟩ : ∃ l, l = (A ++ U) ++ u :: ([] ++ y :: B) := ⟨_, rfl⟩
      have e : A ++ ((U ++ [u]) ++ y :: B) = l := by rw [hl2]; simp
      rw [e]
      obtain ⟨p1, p2, p3, p4, _, p6⟩ := swap2 (A ++ U) [] B u y (p - 1) p (by simp; omega) (by simp; omega) l hl2
      refine Ev.step (fun _ => slices_symMergeCmpFunc_api_Intent_at_outbox_Latest_1.l3.eq_2 ..) (Ev.congr (fun k => ?_) h)
      rw [if_pos (by omega), dn1 (by omega) (by omega), if_pos (by omega), if_pos (by omega), if_pos (by omega), if_pos (by omega), p1, p2, eta29, eta29, Int.toNat_natCast, Int.toNat_natCast, p6]
      congr 1
      simp
end Go.Proofs.Ytdaikljbljcagaa.Ud
namespace Go.Proofs.Ytdaikljbljcagaa.Ue
open Go.RowKit Go.Proofs.Ytdaikljbljcagaa.Pv Go.Proofs.Ytdaikljbljcagaa.Na Go.Proofs.Ytdaikljbljcagaa.PAll Go.Proofs.YtdaikljbljcagaaW.PrintWords Go.Proofs.YtdaikljbljcagaaW.PrintLast Go.Proofs.Ytdaikljbljcagaa.Ua Go.Proofs.Ytdaikljbljcagaa.Ub Go.Proofs.Ytdaikljbljcagaa.Uc Go.Proofs.Ytdaikljbljcagaa.Ud
set_option linter.unusedSimpArgs false
set_option linter.unusedVariables false
/-- The merges of both halves. -/
theorem halves (A U1 V1 U2 V2 B : List S29) (a b mid q e : Nat) (ha : a = A.length) (hq : q = a + U1.length) (hmid : mid = q + V1.length) (he : e = mid + U2.length) (hb : b = e + V2.length) (hs1 : Srt U1) (hs2 : Srt V1) (hs3 : Srt U2) (hs4 : Srt V2)
    (hl : (A ++ (U1 ++ (V1 ++ (U2 ++ (V2 ++ B))))).length < 1152921504606846976)
    (ih : ∀ (A U V B : List S29) (a m b : Nat), U.length + V.length < U1.length + V1.length + (U2.length + V2.length) → 0 < U.length → 0 < V.length → Srt U → Srt V → a = A.length → m = a + U.length → b = m + V.length → (A ++ (U ++ (V ++ B))).length < 1152921504606846976 → ∃ R, R.length = U.length + V.length ∧ Srt R ∧ Sim (U ++ V) R ∧ Ev (fun k => slices_symMergeCmpFunc_api_Intent_at_outbox_Latest_1.f k (A ++ (U ++ (V ++ B))) (a : Int) (m : Int) (b : Int)) (A ++ (R ++ B)))
    (hp1 : 0 < U1.length + V1.length) (hp2 : 0 < U2.length + V2.length) :
    ∃ RL RR, RL.length = U1.length + V1.length ∧ RR.length = U2.length + V2.length ∧ Srt RL ∧ Srt RR ∧ Sim (U1 ++ V1) RL ∧ Sim (U2 ++ V2) RR ∧ Ev (fun k => slices_symMergeCmpFunc_api_Intent_at_outbox_Latest_1.j7 k (A ++ (U1 ++ (V1 ++ (U2 ++ (V2 ++ B))))) (a : Int) (b : Int) (mid : Int) (q : Int) (e : Int)) (A ++ ((RL ++ RR) ++ B)) := by
  obtain ⟨RL, l1, l2, l3, l4, l5⟩ : ∃ RL, RL.length = U1.length + V1.length ∧ Srt RL ∧ Sim (U1 ++ V1) RL ∧ (a < q ∧ q < mid → Ev (fun k => slices_symMergeCmpFunc_api_Intent_at_outbox_Latest_1.f k (A ++ (U1 ++ (V1 ++ (U2 ++ (V2 ++ B))))) (a : Int) (q : Int) (mid : Int)) (A ++ (RL ++ (U2 ++ (V2 ++ B))))) ∧ (¬ (a < q ∧ q < mid) → RL = U1 ++ V1) := by
    by_cases h : a < q ∧ q < mid
    · obtain ⟨R, h1, h2, h3, h4⟩ := ih A U1 V1 (U2 ++ (V2 ++ B)) a q mid (by omega) (by omega) (by omega) hs1 hs2 ha hq hmid hl
      exact ⟨R, h1, h2, h3, fun _ => h4, fun h5 => absurd h h5⟩
    · refine ⟨U1 ++ V1, by simp, ?_, Sim.refl _, fun h5 => absurd h5 h, fun _ => rfl⟩
      by_cases h6 : U1.length = 0
      · rw [List.eq_nil_of_length_eq_zero h6]; exact hs2
      · rw [List.eq_nil_of_length_eq_zero (l := V1) (by omega), List.append_nil]; exact hs1
  obtain ⟨RR, r1, r2, r3, r4, r5⟩ : ∃ RR, RR.length = U2.length + V2.length ∧ Srt RR ∧ Sim (U2 ++ V2) RR ∧ (mid < e ∧ e < b → Ev (fun k => slices_symMergeCmpFunc_api_Intent_at_outbox_Latest_1.f k (A ++ (RL ++ (U2 ++ (V2 ++ B)))) (mid : Int) (e : Int) (b : Int)) (A ++ ((RL ++ RR) ++ B))) ∧ (¬ (mid < e ∧ e < b) → RR = U2 ++ V2) := by
    by_cases h : mid < e ∧ e < b
    · obtain ⟨R, h1, h2, h3, h4⟩ := ih (A ++ RL) U2 V2 B mid e b (by omega) (by omega) (by omega) hs3 hs4 (by simp; omega) he hb (by simp at hl ⊢; omega)
      exact ⟨R, h1, h2, h3, fun _ => by simpa using h4, fun h5 => absurd h h5⟩
    · refine ⟨U2 ++ V2, by simp, ?_, Sim.refl _, fun h5 => absurd h5 h, fun _ => rfl⟩
      by_cases h6 : U2.length = 0
      · rw [List.eq_nil_of_length_eq_zero h6]; exact hs4
      · rw [List.eq_nil_of_length_eq_zero (l := V2) (by omega), List.append_nil]; exact hs3
  refine ⟨RL, RR, l1, r1, l2, r2, l3, r3, ?_⟩
  have hright : ∀ g : Nat → Option (List S29), (∀ k, g k = if (mid : Int) < (e : Int) then (if (e : Int) < (b : Int) then ((slices_symMergeCmpFunc_api_Intent_at_outbox_Latest_1.f k (A ++ (RL ++ (U2 ++ (V2 ++ B)))) (mid : Int) (e : Int) (b : Int)).bind fun t => some t) else some (A ++ (RL ++ (U2 ++ (V2 ++ B))))) else some (A ++ (RL ++ (U2 ++ (V2 ++ B))))) → Ev g (A ++ ((RL ++ RR) ++ B)) := by
    intro g hg
    by_cases h1 : mid < e
    · by_cases h2 : e < b
      · refine Ev.congr (fun k => ?_) (Ev.bind (f := fun _ t => some t) (r4 ⟨h1, h2⟩) (Ev.now _))
        rw [hg, if_pos (by omega), if_pos (by omega)]
      · refine Ev.congr (fun k => ?_) (Ev.now (A ++ ((RL ++ RR) ++ B)))
        rw [hg, if_pos (by omega), if_neg (by omega), r5 (by omega)]
        simp
    · refine Ev.congr (fun k => ?_) (Ev.now (A ++ ((RL ++ RR) ++ B)))
      rw [hg, if_neg (by omega), r5 (by omega)]
      simp
  have hj8 : Ev (fun k => slices_symMergeCmpFunc_api_Intent_at_outbox_Latest_1.j8 k (A ++ (U1 ++ (V1 ++ (U2 ++ (V2 ++ B))))) (a : Int) (b : Int) (mid : Int) (q : Int) (e : Int) (decide (a < q) && decide (q < mid))) (A ++ ((RL ++ RR) ++ B)) := by
    refine Ev.step (fun _ => slices_symMergeCmpFunc_api_Intent_at_outbox_Latest_1.j8.eq_2 ..) ?_
    by_cases h : a < q ∧ q < mid
    · have hf : (decide (a < q) && decide (q < mid)) = true := by simp [h.1, h.2]
      rw [hf]
      exact Ev.congr (fun k => if_pos rfl) (Ev.bind (l4 h) (hright _ (fun k => rfl)))
    · have hf : (decide (a < q) && decide (q < mid)) = false := by
        rw [Bool.and_eq_false_iff, decide_eq_false_iff_not, decide_eq_false_iff_not]; omega
      rw [hf]
      refine Ev.congr (fun k => if_neg (by decide)) (hright _ (fun k => ?_))
      rw [l5 h]
      simp only [List.append_assoc]
  refine Ev.step (fun _ => slices_symMergeCmpFunc_api_Intent_at_outbox_Latest_1.j7.eq_2 ..) (Ev.congr (fun k => ?_) hj8)
  by_cases h1 : a < q
  · rw [if_pos (by omega)]
    congr 1
    simp only [h1, decide_true, Bool.true_and]
    exact decide_eq_decide.2 (by omega)
  · rw [if_neg (by omega)]
    congr 1
    simp [h1]
set_option maxHeartbeats 4000000 in
theorem sym_1 (A V B : List S29) (x : S29) (a m b : Nat) (h2 : 0 < V.length) (hv : Srt V) (ha : a = A.length) (hm : m = a + [x].length) (hb : b = m + V.length) (hl : (A ++ ([x] ++ (V ++ B))).length < 1152921504606846976) :
    ∃ R, R.length = [x].length + V.length ∧ Srt R ∧ Sim ([x] ++ V) R ∧ Ev (fun k => slices_symMergeCmpFunc_api_Intent_at_outbox_Latest_1.f k (A ++ ([x] ++ (V ++ B))) (a : Int) (m : Int) (b : Int)) (A ++ (R ++ B)) := by
  have hone : ([x] : List S29).length = 1 := rfl
  have hl' : A.length + [x].length + V.length < 1152921504606846976 := by simp at hl; omega
  obtain ⟨D, hD⟩ : ∃ D, D = A ++ ([x] ++ (V ++ B)) := ⟨_, rfl⟩
  have hDl : D.length = A.length + [x].length + V.length + B.length := by rw [hD]; simp; omega
  have hDb : D.length < 1152921504606846976 := by rw [hD]; exact hl
  have hDx : D = A ++ x :: (V ++ B) := by rw [hD]; simp
  have hDa : elA D a = x := elA_mid A (V ++ B) x a ha D hDx
  obtain ⟨q, q1, q2, q3, q4, q5⟩ := s0 D a m b (by omega) (by omega) (by omega) (b - m) m b (Nat.le_refl _) (by omega) (Nat.le_refl _) (Nat.le_refl _) (.inl rfl) (.inl rfl)
  rw [hDa] at q3 q4
  obtain ⟨V1, V2, rfl, hV1⟩ := split_at V (q - m) (by omega)
  obtain ⟨g1, g2, g3⟩ := hv.parts
  have hm1 : m = a + 1 := hm
  have hlt : ∀ c ∈ V1, K c < K x := last_lt g1 (K x) fun v V' e => by
    subst e
    rcases q3 with q3 | q3
    · simp at hV1; omega
    · rw [elA_mid (A ++ x :: V') (V2 ++ B) v (q - 1) (by simp at hV1 ⊢; omega) D (by rw [hDx]; simp)] at q3
      exact q3
  have hge : ∀ c ∈ V2, ¬ K c < K x := first_ge g2 (K x) fun v V' e => by
    subst e
    rcases q4 with q4 | q4
    · simp at hb; omega
    · rw [elA_mid (A ++ x :: V1) (V' ++ B) v q (by simp; omega) D (by rw [hDx]; simp)] at q4
      exact q4
  refine ⟨V1 ++ x :: V2, by simp; omega, ?_, ?_, ?_⟩
  · refine Srt.app g1 (Srt.cons g2 hge) fun c hc d hd => ?_
    rcases List.mem_cons.1 hd with rfl | hd
    · exact le_of_lt (hlt c hc)
    · exact g3 c hc d hd
  · have := Sim.app (Sim.rot (u := [x]) (v := V1) (by
      intro c hc d hd
      rw [List.mem_singleton.1 hc]
      intro e
      exact List.lt_irrefl _ (e ▸ hlt d hd))) (Sim.refl V2)
    simpa using this
  · rw [← hD]
    have hmv := mv1 V1 A (V2 ++ B) x q a ha (by omega) (by rw [show A ++ x :: (V1 ++ (V2 ++ B)) = D by rw [hDx]; simp]; omega)
    rw [show A ++ x :: (V1 ++ (V2 ++ B)) = D by rw [hDx]; simp, show A ++ (V1 ++ x :: (V2 ++ B)) = A ++ ((V1 ++ x :: V2) ++ B) by simp] at hmv
    refine Ev.step (fun _ => slices_symMergeCmpFunc_api_Intent_at_outbox_Latest_1.f.eq_2 ..) (Ev.congr (fun k => ?_) (q5 _ hmv))
    rw [if_pos (by rw [w64 (by omega) (by omega)]; omega)]
set_option maxHeartbeats 4000000 in
theorem sym_2 (A U B : List S29) (y : S29) (a m b : Nat) (h1 : 0 < U.length) (hs : Srt U) (ha : a = A.length) (hm : m = a + U.length) (hb : b = m + [y].length) (hl : (A ++ (U ++ ([y] ++ B))).length < 1152921504606846976) (c1 : U.length ≠ 1) :
    ∃ R, R.length = U.length + [y].length ∧ Srt R ∧ Sim (U ++ [y]) R ∧ Ev (fun k => slices_symMergeCmpFunc_api_Intent_at_outbox_Latest_1.f k (A ++ (U ++ ([y] ++ B))) (a : Int) (m : Int) (b : Int)) (A ++ (R ++ B)) := by
  have hone : ([y] : List S29).length = 1 := rfl
  have hl' : A.length + U.length + [y].length < 1152921504606846976 := by simp at hl; omega
  obtain ⟨D, hD⟩ : ∃ D, D = A ++ (U ++ ([y] ++ B)) := ⟨_, rfl⟩
  have hDl : D.length = A.length + U.length + [y].length + B.length := by rw [hD]; simp; omega
  have hDb : D.length < 1152921504606846976 := by rw [hD]; exact hl
  have hDy : D = (A ++ U) ++ y :: B := by rw [hD]; simp
  have hDm : elA D m = y := elA_mid (A ++ U) B y m (by simp; omega) D hDy
  obtain ⟨q, q1, q2, q3, q4, q5⟩ := s2 D a m (by omega) (by omega) (m - a) a m (Nat.le_refl _) (by omega) (Nat.le_refl _) (Nat.le_refl _) (.inl rfl) (.inl rfl)
  rw [hDm] at q3 q4
  obtain ⟨U1, U2, rfl, hU1⟩ := split_at U (q - a) (by omega)
  obtain ⟨g1, g2, g3⟩ := hs.parts
  have hle : ∀ c ∈ U1, ¬ K y < K c := last_le g1 (K y) fun v V' e => by
    subst e
    rcases q3 with q3 | q3
    · simp at hU1; omega
    · rw [elA_mid (A ++ V') (U2 ++ y :: B) v (q - 1) (by simp at hU1 ⊢; omega) D (by rw [hDy]; simp)] at q3
      exact q3
  have hgt : ∀ c ∈ U2, K y < K c := first_gt g2 (K y) fun v V' e => by
    subst e
    rcases q4 with q4 | q4
    · simp at hm; omega
    · rw [elA_mid (A ++ U1) (V' ++ y :: B) v q (by simp; omega) D (by rw [hDy]; simp)] at q4
      exact q4
  refine ⟨U1 ++ y :: U2, by simp; omega, ?_, ?_, ?_⟩
  · refine Srt.app g1 (Srt.cons g2 fun t ht => le_of_lt (hgt t ht)) fun c hc d hd => ?_
    rcases List.mem_cons.1 hd with rfl | hd
    · exact hle c hc
    · exact g3 c hc d hd
  · have := Sim.app (Sim.refl U1) (Sim.rot (u := U2) (v := [y]) (by
      intro c hc d hd
      rw [List.mem_singleton.1 hd]
      intro e
      exact List.lt_irrefl _ (e ▸ hgt c hc)))
    simpa using this
  · rw [← hD]
    have hmv := mv3 U2.length (A ++ U1) U2 B y q m rfl (by simp; omega) (by simp at hm; omega) (by rw [show (A ++ U1) ++ (U2 ++ y :: B) = D by rw [hDy]; simp]; omega)
    rw [show (A ++ U1) ++ (U2 ++ y :: B) = D by rw [hDy]; simp, show (A ++ U1) ++ y :: (U2 ++ B) = A ++ ((U1 ++ y :: U2) ++ B) by simp] at hmv
    refine Ev.step (fun _ => slices_symMergeCmpFunc_api_Intent_at_outbox_Latest_1.f.eq_2 ..) (Ev.congr (fun k => ?_) (q5 _ hmv))
    rw [if_neg (by rw [w64 (by omega) (by omega)]; omega), if_pos (by rw [w64 (by omega) (by omega)]; simp at hb; omega)]
end Go.Proofs.Ytdaikljbljcagaa.Ue
namespace Go.Proofs.Ytdaikljbljcagaa.Uf
open Go.RowKit Go.Proofs.Ytdaikljbljcagaa.Pv Go.Proofs.Ytdaikljbljcagaa.Na Go.Proofs.Ytdaikljbljcagaa.PAll Go.Proofs.YtdaikljbljcagaaW.PrintWords Go.Proofs.YtdaikljbljcagaaW.PrintLast Go.Proofs.Ytdaikljbljcagaa.Ua Go.Proofs.Ytdaikljbljcagaa.Ub Go.Proofs.Ytdaikljbljcagaa.Uc Go.Proofs.Ytdaikljbljcagaa.Ud Go.Proofs.Ytdaikljbljcagaa.Ue
set_option linter.unusedSimpArgs false
set_option linter.unusedVariables false
set_option maxHeartbeats 4000000 in
theorem sym_3 (A U V B : List S29) (a m b : Nat) (h1 : 0 < U.length) (h2 : 0 < V.length) (hs : Srt U) (hv : Srt V) (ha : a = A.length) (hm : m = a + U.length) (hb : b = m + V.length) (hl : (A ++ (U ++ (V ++ B))).length < 1152921504606846976) (c1 : ¬ U.length = 1) (c2 : ¬ V.length = 1)
    (ih : ∀ (A1 U1 V1 B1 : List S29) (a m b : Nat), U1.length + V1.length < U.length + V.length → 0 < U1.length → 0 < V1.length → Srt U1 → Srt V1 → a = A1.length → m = a + U1.length → b = m + V1.length → (A1 ++ (U1 ++ (V1 ++ B1))).length < 1152921504606846976 → ∃ R, R.length = U1.length + V1.length ∧ Srt R ∧ Sim (U1 ++ V1) R ∧ Ev (fun k => slices_symMergeCmpFunc_api_Intent_at_outbox_Latest_1.f k (A1 ++ (U1 ++ (V1 ++ B1))) (a : Int) (m : Int) (b : Int)) (A1 ++ (R ++ B1))) :
    ∃ R, R.length = U.length + V.length ∧ Srt R ∧ Sim (U ++ V) R ∧ Ev (fun k => slices_symMergeCmpFunc_api_Intent_at_outbox_Latest_1.f k (A ++ (U ++ (V ++ B))) (a : Int) (m : Int) (b : Int)) (A ++ (R ++ B)) := by
  have hl' : A.length + U.length + V.length < 1152921504606846976 := by simp at hl; omega
  obtain ⟨D, hD⟩ : ∃ D, D = A ++ (U ++ (V ++ B)) := ⟨_, rfl⟩
  have hDl : D.length = A.length + U.length + V.length + B.length := by rw [hD]; simp; omega
  have hDb : D.length < 1152921504606846976 := by rw [hD]; exact hl
  obtain ⟨mid, hmid⟩ : ∃ mid, (a + b) / 2 = mid := ⟨_, rfl⟩
  have hhalf := half (i := a) (j := b) (by omega)
  rw [hmid] at hhalf
  have HH := Aside0.mk hhalf
  clear hhalf
  have HN := Aside0.mk (show wrap64 ((mid : Int) + (m : Int)) = ((mid + m : Nat) : Int) by rw [w64 (by omega) (by omega)]; omega)
  obtain ⟨t, r, htr, hr, hrm, hlo, hta, htr2⟩ : ∃ t r : Nat, Aside0 ((m > mid ∧ t = mid + m - b ∧ r = mid) ∨ (¬ m > mid ∧ t = a ∧ r = m)) ∧ r ≤ m ∧ r ≤ mid ∧ mid + m ≤ b + t ∧ a ≤ t ∧ t ≤ r := by
    by_cases h3 : m > mid
    · exact ⟨mid + m - b, mid, ⟨.inl ⟨h3, rfl, rfl⟩⟩, by omega, Nat.le_refl _, by omega, by omega, by omega⟩
    · exact ⟨a, m, ⟨.inr ⟨h3, rfl, rfl⟩⟩, Nat.le_refl _, by omega, by omega, Nat.le_refl _, by omega⟩
  obtain ⟨q, q1, q2, q3, q4, q5⟩ := s4 D a m b mid (mid + m) t r rfl hr hrm hlo (by omega) (by omega) (by omega) (by omega) (r - t) t r (Nat.le_refl _) htr2 (Nat.le_refl _) (Nat.le_refl _) (.inl rfl) (.inl rfl)
  obtain ⟨e, he⟩ : ∃ e, mid + m - q = e := ⟨_, rfl⟩
  rw [he] at q3 q5
  obtain ⟨U1, U2, rfl, hU1⟩ := split_at U (q - a) (by omega)
  obtain ⟨V1, V2, rfl, hV1⟩ := split_at V (mid - q) (by omega)
  obtain ⟨u1, u2, u3⟩ := hs.parts
  obtain ⟨v1, v2, v3⟩ := hv.parts
  simp only [List.length_append] at h1 h2 hm hb hl' c1 c2
  have hDf : D = A ++ (U1 ++ (U2 ++ (V1 ++ (V2 ++ B)))) := by rw [hD]; simp
  have hi : ∀ x ∈ U2, ∀ y ∈ V1, K y < K x := by
    cases hU2 : U2 with
    | nil => intro x hx; cases hx
    | cons u U2' =>
      rcases List.eq_nil_or_concat V1 with hV | ⟨V1', v, hV⟩
      · intro x hx y hy; rw [hV] at hy; cases hy
      · rw [List.concat_eq_append] at hV
        have hvu : K v < K u := by
          rcases q4 with q4 | q4
          · rcases htr.out with ⟨h3, ht1, ht2⟩ | ⟨h3, ht1, ht2⟩
            · skip
              rw [hV] at hV1; simp at hV1; omega
            · skip
              rw [hU2] at hm; simp at hm; omega
          · rw [elA_mid (A ++ U1) (U2' ++ (V1 ++ (V2 ++ B))) u q (by simp; omega) D (by rw [hDf, hU2]; simp), elA_mid (A ++ U1 ++ U2 ++ V1') (V2 ++ B) v (mid + m - 1 - q) (by rw [hV] at hV1; simp at hV1 ⊢; omega) D (by rw [hDf, hV]; simp)] at q4
            exact q4
        intro x hx y hy
        have k1 : ¬ K x < K u := by
          rcases List.mem_cons.1 hx with rfl | hx
          · exact List.lt_irrefl _
          · rw [hU2] at u2
            exact (List.pairwise_cons.1 u2).1 x hx
        have k2 : ¬ K v < K y := by
          rw [hV] at hy v1
          rcases List.mem_append.1 hy with hy | hy
          · exact v1.parts.2.2 y hy v (by simp)
          · rw [List.mem_singleton.1 hy]; exact List.lt_irrefl _
        exact lt_of_lt_le (klt_of k2 hvu) k1
  have hii : ∀ x ∈ U1, ∀ y ∈ V2, ¬ K y < K x := by
    cases hV2 : V2 with
    | nil => intro x hx y hy; cases hy
    | cons v V2' =>
      rcases List.eq_nil_or_concat U1 with hU | ⟨U1', u, hU⟩
      · intro x hx; rw [hU] at hx; cases hx
      · rw [List.concat_eq_append] at hU
        have hvu : ¬ K v < K u := by
          rcases q3 with q3 | q3
          · rcases htr.out with ⟨h3, ht1, ht2⟩ | ⟨h3, ht1, ht2⟩
            · skip
              rw [hV2] at hb; simp at hb; omega
            · skip
              rw [hU] at hU1; simp at hU1; omega
          · rw [elA_mid (A ++ U1') (U2 ++ (V1 ++ (V2 ++ B))) u (q - 1) (by rw [hU] at hU1; simp at hU1 ⊢; omega) D (by rw [hDf, hU]; simp), elA_mid (A ++ U1 ++ U2 ++ V1) (V2' ++ B) v e (by simp; omega) D (by rw [hDf, hV2]; simp)] at q3
            exact q3
        intro x hx y hy
        have k1 : ¬ K u < K x := by
          rw [hU] at hx u1
          rcases List.mem_append.1 hx with hx | hx
          · exact u1.parts.2.2 x hx u (by simp)
          · rw [List.mem_singleton.1 hx]; exact List.lt_irrefl _
        have k2 : ¬ K y < K v := by
          rcases List.mem_cons.1 hy with rfl | hy
          · exact List.lt_irrefl _
          · rw [hV2] at v2
            exact (List.pairwise_cons.1 v2).1 y hy
        exact kle_trans k1 (kle_trans hvu k2)
  obtain ⟨RL, RR, l1, r1, l2, r2, l3, r3, l4⟩ := halves A U1 V1 U2 V2 B a b mid q e ha (by omega) (by omega) (by omega) (by omega) u1 v1 u2 v2 (by simp at hl ⊢; omega) (fun A U V B a m b k1 k2 k3 k4 k5 k6 k7 k8 k9 => ih A U V B a m b (by simp only [List.length_append]; omega) k2 k3 k4 k5 k6 k7 k8 k9) (by omega) (by omega)
  refine ⟨RL ++ RR, by simp; omega, ?_, ?_, ?_⟩
  · refine Srt.app l2 r2 fun x hx y hy => ?_
    rw [← l3.mem] at hx
    rw [← r3.mem] at hy
    rcases List.mem_append.1 hx with hx | hx <;> rcases List.mem_append.1 hy with hy | hy
    · exact u3 x hx y hy
    · exact hii x hx y hy
    · exact le_of_lt (hi y hy x hx)
    · exact v3 x hx y hy
  · refine Sim.trans ?_ (Sim.app l3 r3)
    have := Sim.mid U1 V2 (Sim.rot (u := U2) (v := V1) (fun x hx y hy e2 => List.lt_irrefl _ (e2 ▸ hi x hx y hy)))
    simpa using this
  · rw [← hD]
    have hj6 : Ev (fun k => slices_symMergeCmpFunc_api_Intent_at_outbox_Latest_1.j6 k D (a : Int) (m : Int) (b : Int) (mid : Int) (q : Int) (e : Int) (decide (q < m) && decide (m < e))) (A ++ ((RL ++ RR) ++ B)) := by
      refine Ev.step (fun _ => slices_symMergeCmpFunc_api_Intent_at_outbox_Latest_1.j6.eq_2 ..) ?_
      by_cases h3 : q < m ∧ m < e
      · have hf : (decide (q < m) && decide (m < e)) = true := by simp [h3.1, h3.2]
        rw [hf]
        have hrot := rot_ev (A ++ U1) U2 V1 (V2 ++ B) q m e (by omega) (by omega) (by simp; omega) (by simp; omega) (by omega) (by rw [show (A ++ U1) ++ (U2 ++ (V1 ++ (V2 ++ B))) = D by rw [hDf]; simp]; omega)
        rw [show (A ++ U1) ++ (U2 ++ (V1 ++ (V2 ++ B))) = D by rw [hDf]; simp, show (A ++ U1) ++ (V1 ++ (U2 ++ (V2 ++ B))) = A ++ (U1 ++ (V1 ++ (U2 ++ (V2 ++ B)))) by simp] at hrot
        exact Ev.congr (fun k => if_pos rfl) (Ev.bind hrot l4)
      · have hf : (decide (q < m) && decide (m < e)) = false := by
          rw [Bool.and_eq_false_iff, decide_eq_false_iff_not, decide_eq_false_iff_not]; omega
        rw [hf]
        have hsame : D = A ++ (U1 ++ (V1 ++ (U2 ++ (V2 ++ B)))) := by
          rw [hDf]
          by_cases h6 : U2.length = 0
          · rw [List.eq_nil_of_length_eq_zero h6]; simp
          · rw [List.eq_nil_of_length_eq_zero (l := V1) (by omega)]; simp
        rw [hsame]
        exact Ev.congr (fun k => if_neg (by decide)) l4
    have hl4 := q5 _ hj6
    have hj4 : Ev (fun k => slices_symMergeCmpFunc_api_Intent_at_outbox_Latest_1.j4 k D (a : Int) (m : Int) (b : Int) (mid : Int) ((mid + m : Nat) : Int) (t : Int) (r : Int)) (A ++ ((RL ++ RR) ++ B)) := by
      refine Ev.step (fun _ => slices_symMergeCmpFunc_api_Intent_at_outbox_Latest_1.j4.eq_2 ..) (Ev.congr (fun k => ?_) hl4)
      rw [w64 (x := ((mid + m : Nat) : Int) - 1) (by omega) (by omega)]
    refine Ev.step (fun _ => slices_symMergeCmpFunc_api_Intent_at_outbox_Latest_1.f.eq_2 ..) (Ev.congr (fun k => ?_) hj4)
    rw [if_neg (by rw [w64 (by omega) (by omega)]; omega), if_neg (by rw [w64 (by omega) (by omega)]; omega), HH.out, HN.out]
    rcases htr.out with ⟨h3, ht1, ht2⟩ | ⟨h3, ht1, ht2⟩
    · skip
      rw [if_pos (by omega), w64 (x := ((mid + m : Nat) : Int) - b) (by omega) (by omega), ht1, ht2]
      congr 1
      omega
    · skip
      rw [if_neg (by omega), ht1, ht2]
theorem sym_ev : ∀ (s : Nat) (A U V B : List S29) (a m b : Nat), U.length + V.length ≤ s → 0 < U.length → 0 < V.length → Srt U → Srt V → a = A.length → m = a + U.length → b = m + V.length → (A ++ (U ++ (V ++ B))).length < 1152921504606846976 →
    ∃ R, R.length = U.length + V.length ∧ Srt R ∧ Sim (U ++ V) R ∧ Ev (fun k => slices_symMergeCmpFunc_api_Intent_at_outbox_Latest_1.f k (A ++ (U ++ (V ++ B))) (a : Int) (m : Int) (b : Int)) (A ++ (R ++ B)) := by
  intro s
  induction s with
  | zero => intro A U V B a m b h h1; omega
  | succ s ih =>
    intro A U V B a m b h h1 h2 hs hv ha hm hb hl
    by_cases c1 : U.length = 1
    · obtain ⟨x, rfl⟩ := List.length_eq_one_iff.1 c1
      exact sym_1 A V B x a m b h2 hv ha hm hb hl
    · by_cases c2 : V.length = 1
      · obtain ⟨y, rfl⟩ := List.length_eq_one_iff.1 c2
        exact sym_2 A U B y a m b h1 hs ha hm hb hl c1
      · exact sym_3 A U V B a m b h1 h2 hs hv ha hm hb hl c1 c2 (fun A1 U1 V1 B1 a m b k => ih A1 U1 V1 B1 a m b (by omega))
end Go.Proofs.Ytdaikljbljcagaa.Uf
namespace Go.Proofs.Ytdaikljbljcagaa.Ug
open Go.RowKit Go.Proofs.Ytdaikljbljcagaa.Pv Go.Proofs.Ytdaikljbljcagaa.Na Go.Proofs.Ytdaikljbljcagaa.PAll Go.Proofs.YtdaikljbljcagaaW.PrintWords Go.Proofs.YtdaikljbljcagaaW.PrintLast Go.Proofs.Ytdaikljbljcagaa.Ua Go.Proofs.Ytdaikljbljcagaa.Ub Go.Proofs.Ytdaikljbljcagaa.Uc Go.Proofs.Ytdaikljbljcagaa.Uf
set_option linter.unusedSimpArgs false
set_option linter.unusedVariables false
/-- Sorted blocks of bs, one behind the other. -/
inductive Blk (bs : Nat) : List S29 → Prop
  | last (l : List S29) : l.length ≤ bs → Srt l → Blk bs l
  | cons (u r : List S29) : u.length = bs → Srt u → Blk bs r → Blk bs (u ++ r)
theorem Blk.srt {bs : Nat} {l : List S29} (h : Blk bs l) (hl : l.length ≤ bs) : Srt l := by
  cases h with
  | last _ _ hs => exact hs
  | cons u r hu hs hr =>
    rw [List.length_append] at hl
    rw [List.eq_nil_of_length_eq_zero (l := r) (by omega), List.append_nil]
    exact hs
theorem Blk.cut {bs : Nat} {l : List S29} (h : Blk bs l) (hl : bs ≤ l.length) : ∃ u r, l = u ++ r ∧ u.length = bs ∧ Srt u ∧ Blk bs r := by
  cases h with
  | last _ h1 hs => exact ⟨l, [], by simp, by omega, hs, Blk.last [] (by simp) List.Pairwise.nil⟩
  | cons u r hu hs hr => exact ⟨u, r, rfl, hu, hs, hr⟩
theorem st_l0 (n : Nat) (hn : n < 576460752303423488) : ∀ (s : Nat) (R A : List S29) (a b : Nat), R.length ≤ s → a = A.length → b = a + 20 → n = a + R.length →
    ∃ R2, Blk 20 R2 ∧ R2.length = R.length ∧ Sim R R2 ∧ ∀ out, Ev (fun k => slices_stableCmpFunc_api_Intent_at_outbox_Latest_1.l1 k (A ++ R2) (n : Int) 20) out → Ev (fun k => slices_stableCmpFunc_api_Intent_at_outbox_Latest_1.l0 k (A ++ R) (n : Int) 20 (a : Int) (b : Int)) out := by
  intro s
  induction s with
  | zero =>
    intro R A a b h ha hb hnr
    obtain ⟨R2, h1, h2, h3, h4⟩ := ins_ev A R [] a n ha hnr (by simp; omega)
    simp only [List.append_nil] at h4
    refine ⟨R2, Blk.last _ (by omega) h2, h1, h3, fun out h5 => Ev.step (fun _ => slices_stableCmpFunc_api_Intent_at_outbox_Latest_1.l0.eq_2 ..) (Ev.congr (fun k => if_neg (by omega)) (Ev.bind h4 h5))⟩
  | succ s ih =>
    intro R A a b h ha hb hnr
    by_cases h20 : 20 ≤ R.length
    · obtain ⟨U, R', rfl, hU⟩ := split_at R 20 h20
      rw [List.length_append] at h hnr
      obtain ⟨U2, h1, h2, h3, h4⟩ := ins_ev A U R' a b ha (by omega) (by simp; omega)
      obtain ⟨R2, k1, k2, k3, k4⟩ := ih R' (A ++ U2) b (b + 20) (by omega) (by simp; omega) rfl (by omega)
      refine ⟨U2 ++ R2, Blk.cons _ _ (by omega) h2 k1, by simp; omega, Sim.app h3 k3, fun out h5 => Ev.step (fun _ => slices_stableCmpFunc_api_Intent_at_outbox_Latest_1.l0.eq_2 ..) (Ev.congr (fun k => if_pos (by omega)) (Ev.bind h4 ?_))⟩
      have h6 := k4 out (by rw [List.append_assoc]; exact h5)
      rw [List.append_assoc] at h6
      refine Ev.congr (fun k => ?_) h6
      rw [w64 (by omega) (by omega)]
      rfl
    · obtain ⟨R2, h1, h2, h3, h4⟩ := ins_ev A R [] a n ha hnr (by simp; omega)
      simp only [List.append_nil] at h4
      exact ⟨R2, Blk.last _ (by omega) h2, h1, h3, fun out h5 => Ev.step (fun _ => slices_stableCmpFunc_api_Intent_at_outbox_Latest_1.l0.eq_2 ..) (Ev.congr (fun k => if_neg (by omega)) (Ev.bind h4 h5))⟩
theorem st_l2 (n bs : Nat) (hn : n < 576460752303423488) (hbs : 0 < bs) (hbn : bs < n) : ∀ (s : Nat) (R A : List S29) (a b : Nat), R.length ≤ s → Blk bs R → a = A.length → b = a + 2 * bs → n = a + R.length →
    ∃ R2, Blk (2 * bs) R2 ∧ R2.length = R.length ∧ Sim R R2 ∧ ∀ out, Ev (fun k => slices_stableCmpFunc_api_Intent_at_outbox_Latest_1.l1 k (A ++ R2) (n : Int) ((2 * bs : Nat) : Int)) out → Ev (fun k => slices_stableCmpFunc_api_Intent_at_outbox_Latest_1.l2 k (A ++ R) (n : Int) (bs : Int) (a : Int) (b : Int)) out := by
  intro s
  induction s with
  | zero =>
    intro R A a b h hB ha hb hnr
    refine ⟨R, Blk.last _ (by omega) (hB.srt (by omega)), rfl, Sim.refl _, fun out h5 => Ev.step (fun _ => slices_stableCmpFunc_api_Intent_at_outbox_Latest_1.l2.eq_2 ..) (Ev.congr (fun k => ?_) h5)⟩
    rw [if_neg (by omega), if_neg (by rw [w64 (by omega) (by omega)]; omega), w64 (by omega) (by omega), show (bs : Int) * 2 = ((2 * bs : Nat) : Int) by omega]
  | succ s ih =>
    intro R A a b h hB ha hb hnr
    have HM := Aside0.mk (show ∀ x : Int, x = (a : Int) + bs → wrap64 ((a : Int) + bs) = x from fun x hx => by rw [w64 (by omega) (by omega), hx])
    have HD := Aside0.mk (show wrap64 ((bs : Int) * 2) = ((2 * bs : Nat) : Int) by rw [w64 (by omega) (by omega)]; omega)
    by_cases h1 : 2 * bs ≤ R.length
    · obtain ⟨u, r, rfl, hu, hus, hr⟩ := hB.cut (by omega)
      rw [List.length_append] at h h1 hnr
      obtain ⟨v, r2, rfl, hv, hvs, hr2⟩ := hr.cut (by omega)
      rw [List.length_append] at h h1 hnr
      obtain ⟨R1, k1, k2, k3, k4⟩ := sym_ev (u.length + v.length) A u v r2 a (a + bs) b (Nat.le_refl _) (by omega) (by omega) hus hvs ha (by omega) (by omega) (by simp; omega)
      obtain ⟨R2, j1, j2, j3, j4⟩ := ih r2 (A ++ R1) b (b + 2 * bs) (by omega) hr2 (by simp; omega) rfl (by omega)
      refine ⟨R1 ++ R2, Blk.cons _ _ (by omega) k2 j1, by simp; omega, ?_, fun out h5 => Ev.step (fun _ => slices_stableCmpFunc_api_Intent_at_outbox_Latest_1.l2.eq_2 ..) (Ev.congr (fun k => if_pos (by omega)) ?_)⟩
      · have := Sim.app k3 j3
        rwa [List.append_assoc] at this
      · rw [HM.out ((a + bs : Nat) : Int) (by omega)]
        refine Ev.bind k4 ?_
        have h6 := j4 out (by rw [List.append_assoc]; exact h5)
        rw [List.append_assoc] at h6
        refine Ev.congr (fun k => ?_) h6
        rw [w64 (x := 2 * (bs : Int)) (by omega) (by omega), w64 (by omega) (by omega), show (b : Int) + 2 * (bs : Int) = ((b + 2 * bs : Nat) : Int) by omega]
    · by_cases h2 : bs < R.length
      · obtain ⟨u, r, rfl, hu, hus, hr⟩ := hB.cut (by omega)
        rw [List.length_append] at h h1 h2 hnr
        obtain ⟨R1, k1, k2, k3, k4⟩ := sym_ev (u.length + r.length) A u r [] a (a + bs) n (Nat.le_refl _) (by omega) (by omega) hus (hr.srt (by omega)) ha (by omega) (by omega) (by simp; omega)
        simp only [List.append_nil] at k4
        refine ⟨R1, Blk.last _ (by omega) k2, by simp; omega, k3, fun out h5 => Ev.step (fun _ => slices_stableCmpFunc_api_Intent_at_outbox_Latest_1.l2.eq_2 ..) (Ev.congr (fun k => if_neg (by omega)) ?_)⟩
        rw [HM.out ((a + bs : Nat) : Int) (by omega), HD.out]
        exact Ev.congr (fun k => if_pos (by omega)) (Ev.bind k4 h5)
      · refine ⟨R, Blk.last _ (by omega) (hB.srt (by omega)), rfl, Sim.refl _, fun out h5 => Ev.step (fun _ => slices_stableCmpFunc_api_Intent_at_outbox_Latest_1.l2.eq_2 ..) (Ev.congr (fun k => if_neg (by omega)) ?_)⟩
        rw [HM.out ((a + bs : Nat) : Int) (by omega), HD.out]
        exact Ev.congr (fun k => if_neg (by omega)) h5
theorem st_l1 (n : Nat) (hn : n < 576460752303423488) : ∀ (s bs : Nat) (R : List S29), n - bs ≤ s → 0 < bs → Blk bs R → R.length = n → ∃ R2, Srt R2 ∧ R2.length = R.length ∧ Sim R R2 ∧ Ev (fun k => slices_stableCmpFunc_api_Intent_at_outbox_Latest_1.l1 k R (n : Int) (bs : Int)) R2 := by
  intro s
  induction s with
  | zero =>
    intro bs R h hb hB hl
    exact ⟨R, hB.srt (by omega), rfl, Sim.refl _, Ev.step (fun _ => slices_stableCmpFunc_api_Intent_at_outbox_Latest_1.l1.eq_2 ..) (Ev.congr (fun k => if_neg (by omega)) (Ev.now _))⟩
  | succ s ih =>
    intro bs R h hb hB hl
    by_cases h1 : bs < n
    · obtain ⟨R1, k1, k2, k3, k4⟩ := st_l2 n bs hn hb h1 R.length R [] 0 (2 * bs) (Nat.le_refl _) hB rfl (by omega) (by omega)
      obtain ⟨R2, j1, j2, j3, j4⟩ := ih (2 * bs) R1 (by omega) (by omega) k1 (by omega)
      refine ⟨R2, j1, by omega, Sim.trans k3 j3, Ev.step (fun _ => slices_stableCmpFunc_api_Intent_at_outbox_Latest_1.l1.eq_2 ..) (Ev.congr (fun k => ?_) (k4 _ j4))⟩
      rw [if_pos (by omega), w64 (by omega) (by omega), show 2 * (bs : Int) = ((2 * bs : Nat) : Int) by omega]
      rfl
    · exact ⟨R, hB.srt (by omega), rfl, Sim.refl _, Ev.step (fun _ => slices_stableCmpFunc_api_Intent_at_outbox_Latest_1.l1.eq_2 ..) (Ev.congr (fun k => if_neg (by omega)) (Ev.now _))⟩
/-- slices.SortStableFunc by key is a stable sort. -/
theorem sort_ev (l : List S29) (hl : l.length < 576460752303423488) : ∃ R, Srt R ∧ R.length = l.length ∧ Sim l R ∧ Ev (fun k => slices_SortStableFunc_api_Intent_api_Intent_at_outbox_Latest_1.f k l) R := by
  obtain ⟨R1, h1, h2, h3, h4⟩ := st_l0 l.length hl l.length l [] 0 20 (Nat.le_refl _) rfl rfl (by omega)
  obtain ⟨R2, k1, k2, k3, k4⟩ := st_l1 l.length hl (l.length - 20) 20 R1 (Nat.le_refl _) (by omega) h1 (by omega)
  refine ⟨R2, k1, by omega, Sim.trans h3 k3, ?_⟩
  unfold slices_SortStableFunc_api_Intent_api_Intent_at_outbox_Latest_1.f
  refine Ev.bind ?_ (Ev.now _)
  unfold slices_stableCmpFunc_api_Intent_at_outbox_Latest_1.f
  exact h4 _ k4
end Go.Proofs.Ytdaikljbljcagaa.Ug
namespace Go.Proofs.Ytdaikljbljcagaa.Uh
open Go.RowKit Go.Proofs.Ytdaikljbljcagaa.Pv Go.Proofs.Ytdaikljbljcagaa.Na Go.Proofs.Ytdaikljbljcagaa.PAll Go.Proofs.YtdaikljbljcagaaW.PrintWords Go.Proofs.YtdaikljbljcagaaW.PrintLast Go.Proofs.Ytdaikljbljcagaa.Ua
set_option linter.unusedSimpArgs false
set_option linter.unusedVariables false
/-- The last word of an entry among others, the newest first. -/
def Best (m : List S29) (c : S29) : Prop := m.find? (fun x => decide (K x = K c)) = some c ∧ ∀ d ∈ m, E d = E c → d.f1 ≤ c.f1
theorem Best.mem {m : List S29} {c : S29} (h : Best m c) : c ∈ m := List.mem_of_find?_eq_some h.1
theorem Best.sim {m x : List S29} (h : Sim m x) (c : S29) : Best m c ↔ Best x c := by
  have hf : m.find? (fun y => decide (K y = K c)) = x.find? (fun y => decide (K y = K c)) := by
    rw [← List.head?_filter, ← List.head?_filter]
    exact congrArg List.head? (h (K c))
  unfold Best
  rw [hf]
  exact and_congr_right fun _ => ⟨fun k d hd => k d ((h.mem d).2 hd), fun k d hd => k d ((h.mem d).1 hd)⟩
theorem best_cons (x : S29) (m : List S29) (c : S29) : Best (x :: m) c ↔ (c = x ∧ ∀ d ∈ m, E d = E x → d.f1 ≤ x.f1) ∨ (Best m c ∧ (E c = E x → x.f1 < c.f1)) := by
  unfold Best
  rw [List.find?_cons]
  by_cases hk : K x = K c
  · have hk2 := (K_eq x c).1 hk
    simp only [hk, decide_true, Option.some.injEq]
    constructor
    · rintro ⟨rfl, h⟩
      exact .inl ⟨rfl, fun d hd => h d (List.mem_cons_of_mem _ hd)⟩
    · rintro (⟨rfl, h⟩ | ⟨_, h⟩)
      · refine ⟨rfl, fun d hd he => ?_⟩
        rcases List.mem_cons.1 hd with rfl | hd
        · exact Int.le_refl _
        · exact h d hd he
      · have := h hk2.1.symm
        omega
  · simp only [hk, decide_false]
    constructor
    · rintro ⟨h1, h2⟩
      refine .inr ⟨⟨h1, fun d hd => h2 d (List.mem_cons_of_mem _ hd)⟩, fun he => ?_⟩
      have h3 := h2 x List.mem_cons_self he.symm
      have h4 : ¬ x.f1 = c.f1 := fun h => hk ((K_eq x c).2 ⟨he.symm, h⟩)
      omega
    · rintro (⟨rfl, h⟩ | ⟨⟨h1, h2⟩, h⟩)
      · exact absurd rfl hk
      · refine ⟨h1, fun d hd he => ?_⟩
        rcases List.mem_cons.1 hd with rfl | hd
        · have := h he.symm
          omega
        · exact h2 d hd he
theorem best_of : ∀ (m : List S29) (d : S29), d ∈ m → ∃ c, Best m c ∧ E c = E d ∧ d.f1 ≤ c.f1
  | [], d, h => by cases h
  | x :: m, d, h => by
    by_cases hx : ∃ y ∈ m, E y = E x ∧ x.f1 < y.f1
    · obtain ⟨y, hy, he, hv⟩ := hx
      obtain ⟨c, h1, h2, h3⟩ := best_of m y hy
      have hc : Best (x :: m) c := (best_cons x m c).2 (.inr ⟨h1, fun _ => by omega⟩)
      rcases List.mem_cons.1 h with rfl | h
      · exact ⟨c, hc, h2.trans he, by omega⟩
      · obtain ⟨c2, k1, k2, k3⟩ := best_of m d h
        by_cases hq : E c2 = E x ∧ c2.f1 ≤ x.f1
        · have := h1.2 c2 k1.mem (by rw [hq.1, h2, he])
          refine ⟨c, hc, by rw [h2, he, ← hq.1, k2], by omega⟩
        · exact ⟨c2, (best_cons x m c2).2 (.inr ⟨k1, fun h => by
            have : ¬ c2.f1 ≤ x.f1 := fun h2 => hq ⟨h, h2⟩
            omega⟩), k2, k3⟩
    · have hx2 : ∀ y ∈ m, E y = E x → y.f1 ≤ x.f1 := fun y hy he => by
        have : ¬ x.f1 < y.f1 := fun hv => hx ⟨y, hy, he, hv⟩
        omega
      have hc : Best (x :: m) x := (best_cons x m x).2 (.inl ⟨rfl, hx2⟩)
      rcases List.mem_cons.1 h with rfl | h
      · exact ⟨_, hc, rfl, Int.le_refl _⟩
      · by_cases he : E d = E x
        · exact ⟨x, hc, he.symm, hx2 d h he⟩
        · obtain ⟨c2, k1, k2, k3⟩ := best_of m d h
          exact ⟨c2, (best_cons x m c2).2 (.inr ⟨k1, fun h => absurd (k2.symm.trans h) he⟩), k2, k3⟩
/-- Lists with entries that rise. -/
def SrtE (l : List S29) : Prop := l.Pairwise (fun a b => E a < E b)
theorem SrtE.ext : ∀ {a b : List S29}, SrtE a → SrtE b → (∀ c, c ∈ a ↔ c ∈ b) → a = b
  | [], [], _, _, _ => rfl
  | [], y :: b, _, _, h => by cases (h y).2 List.mem_cons_self
  | x :: a, [], _, _, h => by cases (h x).1 List.mem_cons_self
  | x :: a, y :: b, ha, hb, h => by
    obtain ⟨ha1, ha2⟩ := List.pairwise_cons.1 ha
    obtain ⟨hb1, hb2⟩ := List.pairwise_cons.1 hb
    have e : x = y := by
      rcases List.mem_cons.1 ((h x).1 List.mem_cons_self) with e | hx
      · exact e
      · rcases List.mem_cons.1 ((h y).2 List.mem_cons_self) with e | hy
        · exact e.symm
        · exact absurd (List.lt_trans (hb1 x hx) (ha1 y hy)) (List.lt_irrefl _)
    subst e
    congr 1
    refine SrtE.ext ha2 hb2 fun c => ?_
    have hc := h c
    rw [List.mem_cons, List.mem_cons] at hc
    constructor
    · intro hm
      rcases hc.1 (.inr hm) with rfl | h2
      · exact absurd (ha1 c hm) (List.lt_irrefl _)
      · exact h2
    · intro hm
      rcases hc.2 (.inr hm) with rfl | h2
      · exact absurd (hb1 c hm) (List.lt_irrefl _)
      · exact h2
/-- One more word. -/
def putV : List S29 → S29 → List S29
  | [], x => [x]
  | y :: t, x => if E y < E x then y :: putV t x else if E y = E x then (if y.f1 ≤ x.f1 then x :: t else y :: t) else x :: y :: t
def putsV (l : List S29) : List S29 := l.foldl putV []
theorem putsV_snoc (l : List S29) (x : S29) : putsV (l ++ [x]) = putV (putsV l) x := by unfold putsV; rw [List.foldl_append]; rfl
theorem mem_putV (x c : S29) : ∀ (S : List S29), SrtE S → (c ∈ putV S x ↔ (c = x ∧ ∀ y ∈ S, E y = E x → y.f1 ≤ x.f1) ∨ (c ∈ S ∧ (E c = E x → x.f1 < c.f1)))
  | [], _ => by simp [putV]
  | y :: t, h => by
    obtain ⟨h1, h2⟩ := List.pairwise_cons.1 h
    unfold putV
    by_cases hlt : E y < E x
    · have hne : E y ≠ E x := fun e => by rw [e] at hlt; exact List.lt_irrefl _ hlt
      rw [if_pos hlt, List.mem_cons, mem_putV x c t h2]
      constructor
      · rintro (rfl | ⟨e, k⟩ | ⟨e, k⟩)
        · exact .inr ⟨List.mem_cons_self, fun e => absurd e hne⟩
        · refine .inl ⟨e, fun z hz he => ?_⟩
          rcases List.mem_cons.1 hz with rfl | hz
          · exact absurd he hne
          · exact k z hz he
        · exact .inr ⟨List.mem_cons_of_mem _ e, k⟩
      · rintro (⟨e, k⟩ | ⟨e, k⟩)
        · exact .inr (.inl ⟨e, fun z hz => k z (List.mem_cons_of_mem _ hz)⟩)
        · rcases List.mem_cons.1 e with rfl | e
          · exact .inl rfl
          · exact .inr (.inr ⟨e, k⟩)
    · rw [if_neg hlt]
      by_cases he : E y = E x
      · rw [if_pos he]
        have hot : ∀ z ∈ t, E z ≠ E x := fun z hz e => by
          have := h1 z hz
          rw [he, e] at this
          exact List.lt_irrefl _ this
        by_cases hv : y.f1 ≤ x.f1
        · rw [if_pos hv, List.mem_cons]
          constructor
          · rintro (rfl | hm)
            · refine .inl ⟨rfl, fun z hz e => ?_⟩
              rcases List.mem_cons.1 hz with rfl | hz
              · exact hv
              · exact absurd e (hot z hz)
            · exact .inr ⟨List.mem_cons_of_mem _ hm, fun e => absurd e (hot c hm)⟩
          · rintro (⟨rfl, _⟩ | ⟨hm, k⟩)
            · exact .inl rfl
            · rcases List.mem_cons.1 hm with rfl | hm
              · have := k he
                omega
              · exact .inr hm
        · rw [if_neg hv, List.mem_cons]
          constructor
          · rintro (rfl | hm)
            · exact .inr ⟨.inl rfl, fun _ => by omega⟩
            · exact .inr ⟨.inr hm, fun e => absurd e (hot c hm)⟩
          · rintro (⟨rfl, k⟩ | ⟨hm, _⟩)
            · exact absurd (k y List.mem_cons_self he) hv
            · exact hm
      · rw [if_neg he]
        have hgt : E x < E y := by
          by_cases h3 : E x < E y
          · exact h3
          · exact absurd (List.le_antisymm h3 hlt) he
        have hot : ∀ z ∈ y :: t, E z ≠ E x := fun z hz e => by
          rcases List.mem_cons.1 hz with rfl | hz
          · exact he e
          · have := List.lt_trans hgt (h1 z hz)
            rw [e] at this
            exact List.lt_irrefl _ this
        rw [List.mem_cons]
        constructor
        · rintro (rfl | hm)
          · exact .inl ⟨rfl, fun z hz e => absurd e (hot z hz)⟩
          · exact .inr ⟨hm, fun e => absurd e (hot c hm)⟩
        · rintro (⟨rfl, _⟩ | ⟨hm, _⟩)
          · exact .inl rfl
          · exact .inr hm
theorem ent_putV (x : S29) : ∀ (S : List S29) (c : S29), c ∈ putV S x → c = x ∨ c ∈ S
  | [], c, h => by simp [putV] at h; exact .inl h
  | y :: t, c, h => by
    unfold putV at h
    split at h
    · rcases List.mem_cons.1 h with rfl | h
      · exact .inr List.mem_cons_self
      · rcases ent_putV x t c h with h | h
        · exact .inl h
        · exact .inr (List.mem_cons_of_mem _ h)
    · split at h
      · split at h
        · rcases List.mem_cons.1 h with rfl | h
          · exact .inl rfl
          · exact .inr (List.mem_cons_of_mem _ h)
        · exact .inr h
      · rcases List.mem_cons.1 h with rfl | h
        · exact .inl rfl
        · exact .inr h
theorem srt_putV (x : S29) : ∀ (S : List S29), SrtE S → SrtE (putV S x)
  | [], _ => List.pairwise_singleton _ _
  | y :: t, h => by
    obtain ⟨h1, h2⟩ := List.pairwise_cons.1 h
    unfold putV
    split
    · rename_i hlt
      refine List.pairwise_cons.2 ⟨fun c hc => ?_, srt_putV x t h2⟩
      rcases ent_putV x t c hc with rfl | hc
      · exact hlt
      · exact h1 c hc
    · rename_i hlt
      split
      · rename_i he
        split
        · refine List.pairwise_cons.2 ⟨fun c hc => ?_, h2⟩
          rw [← he]
          exact h1 c hc
        · exact h
      · rename_i he
        have hgt : E x < E y := by
          by_cases h3 : E x < E y
          · exact h3
          · exact absurd (List.le_antisymm h3 hlt) he
        refine List.pairwise_cons.2 ⟨fun c hc => ?_, h⟩
        rcases List.mem_cons.1 hc with rfl | hc
        · exact hgt
        · exact List.lt_trans hgt (h1 c hc)
theorem srt_putAll : ∀ (l S : List S29), SrtE S → SrtE (l.foldl putV S)
  | [], _, h => h
  | x :: l, S, h => srt_putAll l _ (srt_putV x S h)
theorem srt_putsV (l : List S29) : SrtE (putsV l) := srt_putAll l [] List.Pairwise.nil
theorem mem_putsV (c : S29) : ∀ m : List S29, c ∈ putsV m.reverse ↔ Best m c
  | [] => by simp [putsV, Best]
  | x :: m => by
    rw [List.reverse_cons, putsV_snoc, mem_putV x c _ (srt_putsV _), best_cons, mem_putsV c m]
    refine or_congr (and_congr_right fun _ => ⟨fun h d hd he => ?_, fun h y hy he => ?_⟩) Iff.rfl
    · obtain ⟨b, hb1, hb2, hb3⟩ := best_of m d hd
      have := h b ((mem_putsV b m).2 hb1) (hb2.trans he)
      omega
    · exact h y ((mem_putsV y m).1 hy).mem he
/-- In a sorted list a place is kept where its entry comes first. -/
theorem E_of_K {x y : S29} (h : ¬ K y < K x) : ¬ E y < E x := fun k => h ((K_lt y x).2 (.inl k))
theorem keep_first {l : List S29} (hs : Srt l) {j : Nat} (hj : j < l.length) : keepK l j = true ↔ ∀ i (h : i < l.length), i < j → E l[i] ≠ E l[j] := by
  have hky : ∀ i (h : i < l.length), ky l i = E l[i] := fun i h => by unfold ky; rw [elA_get l i h]; rfl
  unfold keepK
  cases j with
  | zero => simp
  | succ j =>
    have hj' : j < l.length := by omega
    rw [hky _ hj, show j + 1 - 1 = j by omega, hky _ hj', show (j + 1 == 0) = false from rfl, Bool.false_or, Bool.not_eq_true', beq_eq_false_iff_ne]
    constructor
    · intro h i hi hij e
      have h1 := E_of_K (hs.get hi hj' (by omega))
      have h2 := E_of_K (hs.get hj' hj (by omega))
      rw [e] at h1
      exact h (List.le_antisymm h1 h2)
    · intro h e
      exact h j hj' (by omega) e.symm
theorem mem_comp {l : List S29} (hs : Srt l) (c : S29) : c ∈ compactL l ↔ l.find? (fun x => decide (E x = E c)) = some c := by
  unfold compactL compTo
  rw [List.mem_map, List.find?_eq_some_iff_getElem]
  constructor
  · rintro ⟨j, hj, rfl⟩
    rw [List.mem_filter, List.mem_range] at hj
    obtain ⟨hj, hk⟩ := hj
    have := (keep_first hs hj).1 hk
    rw [elA_get l j hj]
    exact ⟨by simp, j, hj, rfl, fun i hi => by simpa using this i (by omega) hi⟩
  · rintro ⟨_, j, hj, rfl, h⟩
    refine ⟨j, List.mem_filter.2 ⟨List.mem_range.2 hj, (keep_first hs hj).2 fun i hi hij => ?_⟩, elA_get l j hj⟩
    simpa using h i hij
theorem srt_comp {l : List S29} (hs : Srt l) : SrtE (compactL l) := by
  unfold SrtE compactL compTo
  rw [List.pairwise_map]
  refine List.Pairwise.imp_of_mem (R := (· < ·)) ?_ (List.Pairwise.filter _ List.pairwise_lt_range)
  intro i j hi hj hij
  rw [List.mem_filter, List.mem_range] at hi hj
  rw [elA_get l i hi.1, elA_get l j hj.1]
  have h1 := (keep_first hs hj.1).1 hj.2 i hi.1 hij
  have h2 := E_of_K (hs.get hi.1 hj.1 (by omega))
  by_cases h3 : E l[i] < E l[j]
  · exact h3
  · exact absurd (List.le_antisymm h2 h3) h1
theorem find_split {p : S29 → Bool} {l : List S29} {c : S29} : l.find? p = some c ↔ p c = true ∧ ∃ A B, l = A ++ c :: B ∧ ∀ a ∈ A, p a = false := by
  rw [List.find?_eq_some_iff_append]
  constructor
  · rintro ⟨h, A, B, e, k⟩
    exact ⟨h, A, B, e, fun a ha => by simpa using k a ha⟩
  · rintro ⟨h, A, B, e, k⟩
    exact ⟨h, A, B, e, fun a ha => by simpa using k a ha⟩
theorem best_srt {X : List S29} (hs : Srt X) (c : S29) : X.find? (fun x => decide (E x = E c)) = some c ↔ Best X c := by
  unfold Best
  rw [find_split, find_split]
  constructor
  · rintro ⟨_, A, B, rfl, h⟩
    refine ⟨⟨by simp, A, B, rfl, fun a ha => ?_⟩, fun d hd he => ?_⟩
    · have := h a ha
      simp only [decide_eq_false_iff_not] at this ⊢
      exact fun k => this ((K_eq a c).1 k).1
    · rcases List.mem_append.1 hd with hd | hd
      · have := h d hd
        simp [he] at this
      · rcases List.mem_cons.1 hd with rfl | hd
        · exact Int.le_refl _
        · have h1 := (List.pairwise_cons.1 (hs.parts.2.1)).1 d hd
          by_cases h2 : d.f1 ≤ c.f1
          · exact h2
          · exact absurd ((K_lt d c).2 (.inr ⟨he, by omega⟩)) h1
  · rintro ⟨⟨_, A, B, rfl, h⟩, h2⟩
    refine ⟨by simp, A, B, rfl, fun a ha => ?_⟩
    have h3 := h a ha
    simp only [decide_eq_false_iff_not] at h3 ⊢
    intro he
    have h4 := h2 a (List.mem_append_left _ ha) he
    have h5 := hs.parts.2.2 a ha c List.mem_cons_self
    rw [K_lt] at h5
    have h6 : ¬ a.f1 < c.f1 := fun k => h5 (.inr ⟨he.symm, k⟩)
    exact h3 ((K_eq a c).2 ⟨he, by omega⟩)
/-- The first of each entry in a sorted list that is alike with the words turned round. -/
theorem comp_puts {l x : List S29} (h : Sim l.reverse x) (hs : Srt x) : compactL x = putsV l := by
  refine SrtE.ext (srt_comp hs) (srt_putsV l) fun c => ?_
  have h1 := mem_putsV c l.reverse
  rw [List.reverse_reverse] at h1
  rw [h1, mem_comp hs, best_srt hs, Best.sim h]
end Go.Proofs.Ytdaikljbljcagaa.Uh
namespace Go.Proofs.Ytdaikljbljcagaa.Ui
open Go.RowKit Go.Proofs.Ytdaikljbljcagaa.Pv Go.Proofs.Ytdaikljbljcagaa.Na Go.Proofs.Ytdaikljbljcagaa.Nc Go.Proofs.Ytdaikljbljcagaa.Pn Go.Proofs.Ytdaikljbljcagaa.PAll Go.Proofs.YtdaikljbljcagaaW.PrintWords Go.Proofs.YtdaikljbljcagaaW.PrintLast Go.Proofs.Ytdaikljbljcagaa.Ua Go.Proofs.Ytdaikljbljcagaa.Ub Go.Proofs.Ytdaikljbljcagaa.Ug Go.Proofs.Ytdaikljbljcagaa.Uh
set_option linter.unusedSimpArgs false
set_option linter.unusedVariables false
theorem latest_ev (l : List S29) (hl : l.length < 500000) : Ev (fun k => Latest_f k l) (putsV l) := by
  obtain ⟨R, h1, h2, h3, h4⟩ := sort_ev l.reverse (by rw [List.length_reverse]; omega)
  unfold Latest_f
  have hc : slices_Clone_api_Intent_api_Intent.f l = some l := by
    unfold slices_Clone_api_Intent_api_Intent.f
    rw [Option.bind_some, if_pos (by rw [List.length_nil]; omega), List.nil_append]
  refine Ev.congr (fun k => by rw [hc, Option.bind_some]) (Ev.bind (Reverse_ev l (by omega)) (Ev.bind h4 ?_))
  rw [comp_puts h3 h1]
  exact Ev.now _
end Go.Proofs.Ytdaikljbljcagaa.Ui
